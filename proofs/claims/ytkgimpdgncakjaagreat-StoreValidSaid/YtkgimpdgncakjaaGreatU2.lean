/-
 My texts Ma, Mb, joined.
-/
import Derived.Test.YtkgimpdgncakjaaGreatV7
import Derived.Test.YtkgimpdgncakjaaGreatW3
import Derived.Test.YtkgimpdgncakjaaGreatW6
namespace Go.Proofs.YtkgimpdgncakjaaGreat
open Go Go.FH Go.RowKit
set_option linter.unusedVariables false
set_option linter.unusedSimpArgs false
set_option maxRecDepth 8000
def atN(l:List Int)(i:Nat):Int:=
 if l.length=0 then du_ .i64 i 65535 else IntKind.i64.wrap (du_ .i64 (l.getD (i%l.length) 0) 16777215+((i / l.length:Nat):Int))
theorem ga_(l:List Int)(i:Nat)(hi:i≤1000):0≤atN l i∧atN l i≤16778215:=by
 unfold atN;split
 ·obtain⟨r,h1,h2⟩:=qI_ (i:Int) 65535 (by decide) (by decide);rw[h1];omega
 ·obtain⟨r,h1,h2⟩:=qI_ (l.getD (i%l.length) 0) 16777215 (by decide) (by decide);have h3:i / l.length≤i:=Nat.div_le_self _ _;rw[h1];generalize i / l.length=q at *;rw[aC_ (by omega) (by omega)];omega
theorem dz_(l:List Int)(c:Bool)(i:Nat)(hi:i≤1000):PC Tryz.prog 103 [.sl 1 c (aq_ .i64 l),.int .i64 i] (.int .i64 (atN l i)):=by
 refine PC.fact 5 JA_ (by simp) puA puA ?_;unfold yU_;refine bd ?_;unfold atN;by_cases h0:l.length=0
 ·have e0:((l.length:Int)==0)=true:=by simp[h0]
  rw[if_pos h0];repeat(first|refine aa_ ?_|simp only[go_sem,e0])
  refine Ri_ ?_
  exact ae_
 ·have e0:((l.length:Int)==0)=false:=by simp;intro h;exact h0 (by simp[h])
  have e1:Int.tmod (i:Int) (l.length:Int)=((i%l.length:Nat):Int):=(Int.ofNat_tmod i l.length).symm;have e2:Int.tdiv (i:Int) (l.length:Int)=((i / l.length:Nat):Int):=(Int.ofNat_tdiv i l.length).symm;have hm:i%l.length<l.length:=Nat.mod_lt _ (by omega);have hd:i / l.length≤i:=Nat.div_le_self _ _;have hgd:=gdn (k:=.i64) hm;rw[if_neg h0];repeat(first|refine aa_ ?_|simp only[go_sem,e0])
  refine ab_ ?_;generalize i%l.length=m at *;generalize i / l.length=q at *;have e3:IntKind.i64.wrap (q:Int)=(q:Int):=aC_ (by omega) (by omega);repeat(first|refine aa_ ?_|simp only[go_sem,e1,e2,hgd,e3])
  exact ae_
theorem sN_:WdG wd0:=fun n hn=>by
 have:n=0:=by simpa[wd0]using hn
 subst this;decide
def FI_(s:ah_)(i e:Int):Cp:=if atT s.nodes i (IntKind.u64.wrap (e*s.cfg.spe))<0 then s.f else ⟨e,(nod s.nodes (atT s.nodes i (IntKind.u64.wrap (e*s.cfg.spe))).toNat).blk.root⟩
theorem rt_{s:ah_}{i e:Int}(h:U64 s.f.ep)(he:U64 e):U64 (FI_ s i e).ep:=by unfold FI_;split<;>assumption
theorem pU_(s:ah_)(h:StR s)(i e:Int):PC Tryz.prog 63 [.agg (ak_ s.a),.int .i64 i,.int .u64 e] (.agg (cpC (FI_ s i e))):=by
 refine PC.fact 8 JC_ (by simp) puA puA ?_;unfold yW_;refine bd ?_;have c1:=AA_ s.nodes h.tree.ok h.bn i (IntKind.u64.wrap (e*s.cfg.spe));have hb:=LI_ h.tree.ok i (IntKind.u64.wrap (e*s.cfg.spe));unfold FI_;generalize atT s.nodes i (IntKind.u64.wrap (e*s.cfg.spe))=A at *;try refine aa_ ?_
 refine So_ c1 ?_
 by_cases q1:A<0
 ·have e1:decide (A<0)=true:=decide_eq_true q1;rw[if_pos q1];repeat(first|refine aa_ ?_|simp only[go_sem,e1])
  refine Ri_ ?_
  exact ae_
 ·have e1:decide (A<0)=false:=decide_eq_false q1;have hg:=bR_ (t:=s.nodes) (i:=A.toNat) (by omega);rw[if_neg q1];repeat(first|refine aa_ ?_|simp only[go_sem,e1])
  refine ab_ ?_;repeat(first|refine aa_ ?_|simp only[go_sem,hg])
  exact ae_
theorem WdG.set{w:Wd}(h:WdG w)(j:Nat){x:Int}(hx:U64 x):WdG (w.set j x):=fun n hn=>by
 rcases List.mem_or_eq_of_mem_set hn with h1|rfl
 ·exact h n h1
 ·exact⟨hx.lo,hx.hi⟩
theorem Fz_(n:Int):Sm WdG fun w=>PC Tryz.prog 64 [.int .i64 n] (.agg (wdc w)):=by
 refine gX_ 30 Dr_ (by simp) puA (fun r _=>puA) ?_;unfold sl_;refine bd ?_;obtain⟨r2,h2,h2'⟩:=qI_ (dg_ .i64 n 9) 3 (by decide) (by decide);have u0:U64 0:=⟨by decide,by decide⟩;have u1:U64 18446744073709551615:=⟨by decide,by decide⟩
 have u2:U64 (dg_ .u64 18446744073709551615 (IntKind.u64.wrap (du_ .i64 (dg_ .i64 n 9) 63)).toNat):=by
  obtain⟨r3,h3,h3'⟩:=qI_ (dg_ .i64 n 9) 63 (by decide) (by decide);rw[h3,aH_ (by omega) (by omega),Int.toNat_natCast];unfold dg_;have hp:(0:Int)<2 ^ (min r3 IntKind.u64.bits):=Int.pow_pos (by decide);rw[Int.fdiv_eq_ediv_of_nonneg _ (Int.le_of_lt hp)];exact⟨Int.ediv_nonneg (by decide) (Int.le_of_lt hp),Int.lt_of_le_of_lt (Int.ediv_le_self _ (by decide)) (by decide)⟩
 have sw:∀ (w:Wd) (x:Int),spl (wdc w) r2 [.int .u64 x]=wdc (w.set r2 x):=fun w x=>jC_ w (by omega) x
 have sw3:∀ (w:Wd) (x:Int),spl (wdc w) 3 [.int .u64 x]=wdc (w.set 3 x):=fun w x=>jC_ w (by decide) x
 have sw0:∀ (w:Wd) (x:Int),spl (wdc w) 0 [.int .u64 x]=wdc (w.set 0 x):=fun w x=>jC_ w (by decide) x
 have sw1:∀ (w:Wd) (x:Int),spl (wdc w) 1 [.int .u64 x]=wdc (w.set 1 x):=fun w x=>jC_ w (by decide) x
 repeat'(first|refine bq_ ?_|simp only[go_sem,h2,Nat.mul_one,sw,sw0,sw1,sw3]|(refine aQ_ (fun h=>?_) (fun h=>?_)<;>try(exact absurd h (by decide)))|refine cK_ (fun h=>?_) (fun h=>?_))
 all_goals refine ws_ (by first|rfl|exact evd) (by first|rfl|((try simp only[go_sem,Nat.reduceAdd,Nat.reduceSub,Nat.reduceMul,Nat.reduceLT,Nat.reduceLeDiff,Nat.reduceEqDiff,reduceIte,Int.reduceToNat,Int.reduceLT,Int.reduceLE,Int.reduceEq,Int.reduceNeg,reduceCtorEq,Int.reduceBEq,Int.reduceBNe]);rfl)) ?_
 ·exact(sN_.set _ (be_ _)).set _ (be_ _)
 ·exact(sN_.set _ u1).set _ u2
 ·exact(sN_.set _ (be_ _)).set _ (be_ _)
 ·exact sN_.set _ (be_ _)
end Go.Proofs.YtkgimpdgncakjaaGreat
namespace Go.Proofs.YtkgimpdgncakjaaGreat
open Go Go.FH Go.RowKit
set_option linter.unusedVariables false
set_option linter.unusedSimpArgs false
set_option maxRecDepth 8000
set_option maxHeartbeats 400000
structure rm_(b:Blk):Prop where
 slot:U64 b.slot
 just:U64 b.just.ep
 fin:U64 b.fin.ep
 j:U64 b.pul.j.ep
 f:U64 b.pul.f.ep
 diff:WdG b.diff
 pdiff:WdG b.pdiff
 rt:b.root≠Kw_
theorem rm_.u{b:Blk}(h:rm_ b):Ol_ b:=⟨h.slot,h.just,h.fin,h.j,h.f⟩
theorem rm_.w{b:Blk}{i:Nat}(h:rm_ b):hF_ i b:=⟨h.slot,h.just,h.fin,h.j,h.f,fun _=>h.rt⟩
theorem Ih_{n:Int}(h0:0≤n)(h1:n≤99):lD_ n≠Kw_:=by
 intro h;have h2:(lD_ n).1.getD 0 0=Kw_.1.getD 0 0:=by rw[h]
 have h3:(lD_ n).1.getD 0 0=yC_ n:=rfl;rw[h3]at h2;have h4:Kw_.1.getD 0 0=yC_ 100:=rfl;rw[h4]at h2;have h5:=nn_ n;rw[h2,←nn_ 100,show IntKind.u8.wrap 100=100 from rfl,show IntKind.u8.wrap n=n from by rw[IntKind.wrap_u8];omega]at h5;omega
theorem ca_{k:Int}{n:Nat}(hk:0≤k)(hn:0<n):∃p:Nat,Int.tmod k (n:Int)=p∧p<n:=by
 obtain⟨m,rfl⟩:=Int.eq_ofNat_of_zero_le hk;exact⟨m%n,(Int.ofNat_tmod m n).symm,Nat.mod_lt _ hn⟩
theorem il_{k:Int}(n:Nat)(hk:0≤k):0≤dg_ .i64 k n:=by
 unfold dg_;have hp:(0:Int)<2 ^ (min n IntKind.i64.bits):=Int.pow_pos (by decide);rw[Int.fdiv_eq_ediv_of_nonneg _ (Int.le_of_lt hp)];exact Int.ediv_nonneg hk (Int.le_of_lt hp)
theorem yS_(s:ah_)(i:Nat)(hi:aK_ s i)(httd:WdG s.cfg.ttd)(n k:Int)(hk:0≤k)(hn0:0≤n)(hn1:n≤99)(h24:i≤24):Sm rm_ fun b=>PC Tryz.prog 17 [.agg (ak_ s.a),.int .i64 n,.int .i64 k] (.agg (ap_ b)):=by
 have hr:=hi.r;have hpos:=hi.tree.pos;have hn:=hi.nn;refine gX_ 12 Ba_ (by simp) puA (fun r _=>puA) ?_;unfold pW_;refine bd ?_;obtain⟨p0,hp0,hp0'⟩:=ca_ hk hpos
 obtain⟨m,hm,hm0,hm1⟩:∃m:Nat,(if (s.nodes.length:Int)<3 then (s.nodes.length:Int)else 3)=m∧0<m∧m≤s.nodes.length:=by
  by_cases h3:(s.nodes.length:Int)<3
  ·rw[if_pos h3];exact⟨_,rfl,hpos,Nat.le_refl _⟩
  ·rw[if_neg h3];exact⟨3,rfl,by decide,by omega⟩
 obtain⟨q,hq,hq'⟩:=ca_ (k:=(p0:Int)) (by omega) hm0;have hl1:IntKind.i64.wrap ((s.nodes.length:Int)-1)=((s.nodes.length-1:Nat):Int):=by rw[aC_ (by omega) (by omega)];omega
 have hl2:IntKind.i64.wrap (((s.nodes.length-1:Nat):Int)-q)=((s.nodes.length-1-q:Nat):Int):=by rw[aC_ (by omega) (by omega)];omega
 refine bS_ ?_;refine eq_ ?_;refine bS_ ?_;repeat(first|refine eq_ ?_|simp only[go_sem,hp0])
 refine bS_ ?_;refine rc_ (fun p:Nat=>p<s.nodes.length) (fun p=>[(7,.int .i64 p)]) ?_ (fun p hp=>?_)
 ·repeat'(first|refine bq_ ?_|simp only[go_sem,hm,hq,hl1,hl2]|(refine aQ_ (fun h=>?_) (fun h=>?_)<;>try(exact absurd h (by decide)))|refine cK_ (fun h=>?_) (fun h=>?_))
  ·exact⟨s.nodes.length-1-q,by omega,by exact SN_ [] [0,1]⟩
  ·exact⟨p0,hp0',by exact SN_ [] [0,1]⟩
 clear hm hq hl1 hl2 hp0;have hg:=bR_ (t:=s.nodes) hp;have hu:=hi.blk hp;generalize nod s.nodes p=up at *;refine bS_ ?_;repeat(first|refine eq_ ?_|simp only[go_sem,hg])
 refine bS_ ?_;refine eq_ ?_;refine cu_ (dN_ n) ?_;refine gE_ ?_;have hnw:=hi.nw.1;have huf:=hi.uf;have hsp:=hi.cfg.s1;obtain⟨v1,v2,v3,v4,v5,v6⟩:=hu;have v7:=Ih_ hn0 hn1;have v6:=v6 h24;have hw0:=sN_;refine bS_ ?_;refine fu_ rm_ ap_ 4 [] ?_ (fun b h=>?_)
 ·repeat'(first|refine bq_ ?_|(refine aQ_ (fun h=>?_) (fun h=>?_)<;>try(exact absurd h (by decide)))|refine cK_ (fun h=>?_) (fun h=>?_))
  all_goals(refine eU_ ap_ 4 rfl ?_ (by exact SN_ [] [0,1,2,3,4]);constructor<;>(try dsimp only)<;>first|assumption|exact be_ _)
 obtain⟨a1,a2,a3,a4,a5,a6,a7,a8⟩:=h;refine bS_ ?_;refine fu_ rm_ ap_ 4 [] ?_ (fun b h=>?_)
 ·repeat'(first|refine bq_ ?_|(refine aQ_ (fun h=>?_) (fun h=>?_)<;>try(exact absurd h (by decide)))|refine cK_ (fun h=>?_) (fun h=>?_))
  ·refine bz_ (dN_ _) ?_;repeat'(first|refine bq_ ?_|(refine aQ_ (fun h=>?_) (fun h=>?_)<;>try(exact absurd h (by decide)))|refine cK_ (fun h=>?_) (fun h=>?_))
   (refine eU_ ap_ 4 rfl ?_ (by exact SN_ [] [0,1,2,3,4]);constructor<;>(try dsimp only)<;>first|assumption|exact be_ _)
  ·(refine eU_ ap_ 4 rfl ?_ (by exact SN_ [] [0,1,2,3,4]);constructor<;>(try dsimp only)<;>first|assumption|exact be_ _)
 obtain⟨a1,a2,a3,a4,a5,a6,a7,a8⟩:=h;refine bS_ ?_;refine eq_ ?_;generalize hE:IntKind.u64.wrap (Int.tdiv b.slot s.cfg.spe)=E at *;have hE':U64 E:=hE▸be_ _;have hc:=rt_ (s:=s) (i:=(p:Int)) huf hE';have c1:=pU_ s hr p E;generalize FI_ s p E=c at *;refine bS_ ?_;refine fu_ rm_ ap_ 4 [] ?_ (fun b h=>?_)
 ·repeat'(first|refine bq_ ?_|(refine aQ_ (fun h=>?_) (fun h=>?_)<;>try(exact absurd h (by decide)))|refine cK_ (fun h=>?_) (fun h=>?_))
  refine bz_ c1 ?_;repeat'(first|refine bq_ ?_|(refine aQ_ (fun h=>?_) (fun h=>?_)<;>try(exact absurd h (by decide)))|refine cK_ (fun h=>?_) (fun h=>?_))
  all_goals(refine eU_ ap_ 4 rfl ?_ (by exact SN_ [] [0,1,2,3,4]);constructor<;>(try dsimp only)<;>first|assumption|exact be_ _)
 obtain⟨a1,a2,a3,a4,a5,a6,a7,a8⟩:=h;refine bS_ ?_;refine fu_ rm_ ap_ 4 [] ?_ (fun b h=>?_)
 ·repeat'(first|refine bq_ ?_|(refine aQ_ (fun h=>?_) (fun h=>?_)<;>try(exact absurd h (by decide)))|refine cK_ (fun h=>?_) (fun h=>?_))
  all_goals(refine eU_ ap_ 4 rfl ?_ (by exact SN_ [] [0,1,2,3,4]);constructor<;>(try dsimp only)<;>first|assumption|exact be_ _)
 obtain⟨a1,a2,a3,a4,a5,a6,a7,a8⟩:=h;have sw0:∀ (w:Wd) (x:Int),spl (wdc w) 0 [.int .u64 x]=wdc (w.set 0 x):=fun w x=>jC_ w (by decide) x
 have hw9:WdG (wd0.set 0 99):=hw0.set _ ⟨by decide,by decide⟩;refine bS_ ?_;refine fu_ rm_ ap_ 4 [] ?_ (fun b h=>?_)
 ·repeat'(first|refine bq_ ?_|simp only[go_sem,sw0]|(refine aQ_ (fun h=>?_) (fun h=>?_)<;>try(exact absurd h (by decide)))|refine cK_ (fun h=>?_) (fun h=>?_))
  all_goals try refine bz_ (dN_ _) ?_
  all_goals try repeat'(first|refine bq_ ?_|simp only[go_sem,sw0]|(refine aQ_ (fun h=>?_) (fun h=>?_)<;>try(exact absurd h (by decide)))|refine cK_ (fun h=>?_) (fun h=>?_))
  all_goals(refine eU_ ap_ 4 rfl ?_ (by exact SN_ [] [0,1,2,3,4]);constructor<;>(try dsimp only)<;>first|assumption|exact be_ _)
 obtain⟨a1,a2,a3,a4,a5,a6,a7,a8⟩:=h;obtain⟨w1,hw1,cw1⟩:=Fz_ (dg_ .i64 k 3);obtain⟨p5,hp5,hp5'⟩:=ca_ (il_ 3 hk) hpos;have hg5:=bR_ (t:=s.nodes) hp5';have v8:=(hi.blk hp5').rt h24;refine bS_ ?_;refine fu_ rm_ ap_ 4 [] ?_ (fun b h=>?_)
 ·repeat'(first|refine bq_ ?_|simp only[go_sem,hp5,hg5]|(refine aQ_ (fun h=>?_) (fun h=>?_)<;>try(exact absurd h (by decide)))|refine cK_ (fun h=>?_) (fun h=>?_))
  all_goals try first|refine bz_ (dN_ _) ?_|refine bz_ cw1 ?_
  all_goals try repeat'(first|refine bq_ ?_|simp only[go_sem,hp5,hg5]|(refine aQ_ (fun h=>?_) (fun h=>?_)<;>try(exact absurd h (by decide)))|refine cK_ (fun h=>?_) (fun h=>?_))
  all_goals(refine eU_ ap_ 4 rfl ?_ (by exact SN_ [] [0,1,2,3,4]);constructor<;>(try dsimp only)<;>first|assumption|exact be_ _)
 refine bq_ ?_;refine ws_ (by first|rfl|exact evd) (by first|rfl|((try simp only[go_sem,Nat.reduceAdd,Nat.reduceSub,Nat.reduceMul,Nat.reduceLT,Nat.reduceLeDiff,Nat.reduceEqDiff,reduceIte,Int.reduceToNat,Int.reduceLT,Int.reduceLE,Int.reduceEq,Int.reduceNeg,reduceCtorEq,Int.reduceBEq,Int.reduceBNe]);rfl)) ?_;exact h
end Go.Proofs.YtkgimpdgncakjaaGreat
