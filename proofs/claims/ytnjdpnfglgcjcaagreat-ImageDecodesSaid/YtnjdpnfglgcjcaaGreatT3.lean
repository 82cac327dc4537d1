/-
 My texts Qf, joined.
-/
import Derived.Test.YtnjdpnfglgcjcaaGreatT2
set_option linter.unusedVariables false
set_option linter.unusedSimpArgs false
set_option maxRecDepth 8000
set_option maxHeartbeats 4000000
namespace Go.FH
open Go Go.RowKit
theorem CY{e p now:Int}(he:0<=e)(hp:1<=p)(hp2:p<=64)(hn:0<=now)(hn2:now<18446744073709551616)(h:e<=IntKind.u64.wrap (Int.tdiv now p)):(dk e p).2=0:=by
 have hd:Int.tdiv now p=now / p:=ajC hn;have h0:0<=now / p:=akD hn (by omega);have h1:now / p<=now:=akS _ hn;rw[hd,aN h0 (by omega)]at h;have hb:vy p=true:=by simp[vy];omega
 unfold dk;rw[Fy hb];unfold Ip;have hd2:Int.tdiv 18446744073709551615 p=18446744073709551615 / p:=ajC (by decide);have hq0:0<=18446744073709551615 / p:=akD (by decide) (by omega);have hq1:18446744073709551615 / p<=18446744073709551615:=akS _ (by decide);have hle:now / p<=18446744073709551615 / p:=Int.ediv_le_ediv (by omega) (by omega);rw[hd2,aN hq0 (by omega),Fw (by omega)]
theorem Un(o:Option Nat):o.isSome=decide (0<=Cj o):=by
 cases o with
 |none=>rfl
 |some k=>rw[f6];simp
end Go.FH
namespace Go.Proofs.YtnjdpnfglgcjcaaGreat
open Go Go.FH Go.RowKit
theorem Yd{s:ap}(h1:1<=s.cfg.spe)(h2:s.cfg.spe<=64)(n:Int):(kJ n s.cfg.spe).1=dg s n:=by
 unfold kJ dg;rw[Fy (by simp[vy];omega)]
theorem adX{s:ap}(h1:1<=s.cfg.spe)(h2:s.cfg.spe<=64)(hn:U64 s.now){a b:Cp}(ha:U64 a.ep)(hb:U64 b.ep):agj s a b=wv s a b:=by
 unfold agj wv;rw[Yd h1 h2,Un];unfold dJ;by_cases hE:a.ep<=dg s s.now
 case neg=>rw[aA hE];simp
 by_cases hB:b.ep<=a.ep
 case neg=>rw[aA hB];simp
 have ka:(dk a.ep s.cfg.spe).2=0:=CY ha.1 h1 h2 hn.1 hn.2 hE;have kb:(dk b.ep s.cfg.spe).2=0:=CY hb.1 h1 h2 hn.1 hn.2 (akT hB hE);unfold jA da RP;rw[ka,kb,au hE,au hB];generalize aj s.nodes a.rt=I;generalize aj s.nodes b.rt=K;generalize Cj _=T;by_cases i1:I<0
 ·rw[aA (show ¬0<=I by omega),Fy (c:=I<0\/_) (.inl i1)];simp
 by_cases i2:K<0
 ·rw[Fy (c:=K<0\/_) (.inl i2),aA (show ¬0<=K by omega)];simp
 by_cases i3:(nod s.nodes I.toNat).status=2
 ·rw[Fy (c:=I<0\/_) (.inr i3)];simp[i3]
 by_cases i4:(nod s.nodes K.toNat).status=2
 ·rw[Fy (c:=K<0\/_) (.inr i4)];simp[i4]
 rw[Fw (c:=I<0\/_) (fun h=>h.elim i1 i3),Fw (c:=K<0\/_) (fun h=>h.elim i2 i4),au (show 0<=I by omega),au (show 0<=K by omega),au (p:=(nod s.nodes I.toNat).status≠2) i3,au (p:=(nod s.nodes K.toNat).status≠2) i4];simp only[alE,ajd,akh,aj9,akF];generalize decide ((nod s.nodes I.toNat).blk.slot<=_)=x;generalize decide ((nod s.nodes K.toNat).blk.slot<=_)=y;generalize eh s.nodes K I=z;generalize decide (0<=T)=t;cases x<;>cases y<;>cases z<;>cases t<;>rfl
theorem bP.spe{s:ap}{i:Nat}(h:bP s i):1<=s.cfg.spe/\s.cfg.spe<=64:=⟨h.cfg.s1,by have:=h.cfg.s4;omega⟩
theorem bP.may{s:ap}{i:Nat}(h:bP s i){a b:Cp}(ha:U64 a.ep)(hb:U64 b.ep):agj s a b=wv s a b:=adX h.spe.1 h.spe.2 h.nw.1 ha hb
theorem bP.cp{s:ap}{i:Nat}(h:bP s i):CpR s:=by
 have r:=h.r;have h1:=h.tt;have h2:=h.aa;have h3:=h.cfg.b1;exact⟨r.bn,r.bl,r.be,by omega,r.bb,r.bo,by omega,fun a ha=>by have:=(h.av a ha).len;omega,by omega⟩
theorem Vx{α:Type}(f:α->List AV)(l z:List α):List.take l.length (rows f (l++z))=rows f l:=by
 unfold rows;rw[ai2,ajs (by simp)];exact aiw (by simp)
attribute [go_sem] Vx Nat.le_add_right
end Go.Proofs.YtnjdpnfglgcjcaaGreat
