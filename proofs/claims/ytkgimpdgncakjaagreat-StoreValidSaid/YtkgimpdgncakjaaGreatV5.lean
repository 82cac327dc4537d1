/-
 My texts Jf, Lk, Ll, Lm, Ln, Jg, Lo, Lp, Pa, Pc, joined.
-/
import Derived.Test.YtkgimpdgncakjaaGreatW3
import Derived.Test.YtkgimpdgncakjaaGreatV4
import Derived.Test.YtkgimpdgncakjaaGreatW6
import Derived.Test.YtkgimpdgncakjaaGreatW9
namespace Go.FH
set_option linter.unusedVariables false
open Go Go.RowKit
structure bG_(t:List Nod):Prop where
 ok:cV_ t
 pos:0<t.length
 root:(nod t 0).up<0
theorem el_{t:List Nod}(ht:bG_ t){i x:Int}(hx:x∈gD_ t i):i<x∧0≤x∧x<t.length∧(nod t x.toNat).up=i:=by
 unfold gD_ at hx;split at hx
 ·rename_i hi
  simp[isN]at hi
  have:=dG_ (f:=fun k l=>if (nod t k).up=i then l++[(k:Int)]else l) (a:=([]:List Int)) (fun k l=>∀x∈l,0≤x∧x<k∧(nod t x.toNat).up=i) (by simp) t.length (fun k l hk h x hx=>by
   split at hx
   ·rename_i he;rw[List.mem_append,List.mem_singleton]at hx;rcases hx with hx|hx
    ·obtain⟨h1,h2,h3⟩:=h x hx;exact⟨h1,by omega,h3⟩
    ·subst hx;exact⟨by omega,by omega,by simpa using he⟩
   ·obtain⟨h1,h2,h3⟩:=h x hx;exact⟨h1,by omega,h3⟩) t.length (Nat.le_refl _) x hx
  obtain⟨h1,h2,h3⟩:=this;refine⟨?_,h1,h2,h3⟩;obtain⟨u,rfl⟩:∃u:Nat,x=u:=⟨_,(Int.toNat_of_nonneg h1).symm⟩
  simp only[Int.toNat_natCast]at h3;by_cases h0:u=0
  ·subst h0;have:=ht.root;omega
  ·obtain⟨h4,h5⟩:=ht.ok u (by omega) (by omega);omega
 ·simp at hx
theorem zt_(t:List Nod)(i:Int):(gD_ t i).length≤t.length:=by
 unfold gD_;split
 ·have:=hC_ (f:=fun k l=>if (nod t k).up=i then l++[(k:Int)]else l) (a:=([]:List Int)) (fun k l=>by split<;>simp) t.length;simpa using this
 ·simp
def aT_(s:ah_)(slot:Int):Int:=IntKind.u64.wrap (Int.tdiv slot s.cfg.spe)
def nF_(s:ah_)(i:Int):Cp:=if isN s.nodes i=true then (if aT_ s (nod s.nodes i.toNat).blk.slot<aT_ s s.now then (nod s.nodes i.toNat).blk.pul.j else (nod s.nodes i.toNat).blk.just)else cp0
def vX_(s:ah_)(i:Int):Bool:=isN s.nodes i&&decide ((nod s.nodes i.toNat).status≠2)&&(decide (s.j.ep=0) || decide ((nF_ s i).ep=s.j.ep) || decide (aT_ s s.now≤(nF_ s i).ep) || decide (IntKind.u64.wrap (aT_ s s.now-(nF_ s i).ep)≤2))
def sG_(s:ah_):Nat→Int→Bool
 |0,_=>false
 |f+1,i=>vX_ s i || (gD_ s.nodes i).any (sG_ s f)
theorem qO_{s:ah_}(ht:bG_ s.nodes):∀ (n f g:Nat) (i:Int),(s.nodes.length:Int)-i<n→n≤f→n≤g→sG_ s f i=sG_ s g i
 | 0, f, g, i, h, _, _ => by
   have hn:isN s.nodes i=false:=by simp[isN];omega
   have hk:∀f,sG_ s f i=false:=fun f=>by
    cases f with
    |zero=>rfl
    |succ f=>simp[sG_,vX_,gD_,hn]
   rw[hk,hk]
 | n + 1, f + 1, g + 1, i, h, h1, h2 => by
   simp only[sG_];congr 1;rw[Bool.eq_iff_iff,List.any_eq_true,List.any_eq_true];constructor
   ·rintro⟨x,hx,h3⟩;have:=el_ ht hx;exact⟨x,hx,by rw[←qO_ ht n f g x (by omega) (by omega) (by omega)];exact h3⟩
   ·rintro⟨x,hx,h3⟩;have:=el_ ht hx;exact⟨x,hx,by rw[qO_ ht n f g x (by omega) (by omega) (by omega)];exact h3⟩
def hJ_(s:ah_)(i:Int):Bool:=sG_ s (s.nodes.length+2) i
theorem MJ_{s:ah_}(ht:bG_ s.nodes)(i:Int)(h0:-1≤i):hJ_ s i=(vX_ s i || (gD_ s.nodes i).any (hJ_ s)):=by
 show (vX_ s i || (gD_ s.nodes i).any (sG_ s (s.nodes.length+1)))=_
 congr 1;rw[Bool.eq_iff_iff,List.any_eq_true,List.any_eq_true];constructor
 ·rintro⟨x,hx,h3⟩;have:=el_ ht hx;exact⟨x,hx,by unfold hJ_;rw[←qO_ ht (s.nodes.length+1) (s.nodes.length+1) (s.nodes.length+2) x (by omega) (by omega) (by omega)];exact h3⟩
 ·rintro⟨x,hx,h3⟩;have:=el_ ht hx;exact⟨x,hx,by unfold hJ_ at h3;rw[qO_ ht (s.nodes.length+1) (s.nodes.length+1) (s.nodes.length+2) x (by omega) (by omega) (by omega)];exact h3⟩
def vL_(s:ah_)(i:Nat)(l:List Bool):List Bool:=l++[hJ_ s i]
def vM_(s:ah_):List Bool:=av_ (vL_ s) [] s.nodes.length
theorem nx_(s:ah_):∀n,(av_ (vL_ s) [] n).length=n
 |0=>rfl
 |n+1=>by rw[bi_];unfold vL_;simp;exact nx_ s n
def Fv_(s:ah_):List Int:=if bU_ s.tabs s.j<0 then []else (tab s.tabs (bU_ s.tabs s.j).toNat).bals
def hE_(s:ah_):List Int:=RU_ s.nodes (ka_ s.nodes (tV_ s.nodes s.latest s.eqv (Fv_ s)) s.boost (pR_ s.cfg.spe s.cfg.boost (sh_ (Fv_ s)).1).1)
def lc_(t:List Nod)(w:List Int)(a:List Bool)(l:List Int)(k:Nat)(best:Int):Int:=
 if a.getD (l.getD k 0).toNat false=true∧(best<0∨w.getD best.toNat 0<w.getD (l.getD k 0).toNat 0∨(w.getD (l.getD k 0).toNat 0=w.getD best.toNat 0∧0<lG_ (nod t (l.getD k 0).toNat).blk.root (nod t best.toNat).blk.root))then l.getD k 0 else best
def iz_(t:List Nod)(w:List Int)(a:List Bool)(i:Int):Int:=av_ (lc_ t w a (gD_ t i)) (-1) (gD_ t i).length
theorem pV_(t:List Nod)(w:List Int)(a:List Bool)(l:List Int):∀n,n≤l.length→av_ (lc_ t w a l) (-1) n=-1∨av_ (lc_ t w a l) (-1) n∈l
 |0,_=>.inl rfl
 | n + 1, h => by
   rw[bi_];have:=pV_ t w a l n (by omega);generalize av_ (lc_ t w a l) (-1) n=b at *;unfold lc_;split
   ·right;rw[List.getD_eq_getElem?_getD,List.getElem?_eq_getElem (show n<l.length by omega)];exact List.getElem_mem _
   ·exact this
def qH_(t:List Nod)(w:List Int)(a:List Bool):Nat→Int→Int
 |0,i=>i
 |f+1,i=>if iz_ t w a i<0 then i else qH_ t w a f (iz_ t w a i)
theorem DR_{t:List Nod}(ht:bG_ t)(w:List Int)(a:List Bool):∀ (f:Nat) (i:Int),i<t.length→i≤qH_ t w a f i∧qH_ t w a f i<t.length
 |0,i,h=>⟨Int.le_refl _,h⟩
 | f + 1, i, h => by
   unfold qH_;split
   ·exact⟨Int.le_refl _,h⟩
   ·rename_i hb
    rcases pV_ t w a (gD_ t i) _ (Nat.le_refl _)with h1|h1
    ·exact absurd (show iz_ t w a i<0 by unfold iz_;rw[h1];decide) hb
    ·have h2:=el_ ht h1;have h3:=DR_ ht w a f (iz_ t w a i) h2.2.2.1;have h4:i<iz_ t w a i:=h2.1;exact⟨by omega,h3.2⟩
theorem LP_{t:List Nod}(ht:bG_ t)(w:List Int)(a:List Bool)(i:Int):iz_ t w a i=-1∨(i<iz_ t w a i∧0≤iz_ t w a i∧iz_ t w a i<t.length):=by
 rcases pV_ t w a (gD_ t i) _ (Nat.le_refl _)with h1|h1
 ·exact .inl h1
 ·have h2:=el_ ht h1;exact .inr ⟨h2.1,h2.2.1,h2.2.2.1⟩
def vt_(s:ah_):Int:=qH_ s.nodes (hE_ s) (vM_ s) (s.nodes.length+1) (af_ s.nodes s.j.rt)
def bw_(s:ah_)(e:Int):Int×Bool:=((bh_ e s.cfg.spe).1,decide ((bh_ e s.cfg.spe).2=0))
def jj_(s:ah_)(b:Blk):Bool:=decide (b.fin.ep≤b.just.ep)&&decide (b.just.ep≤b.pul.j.ep)&&decide (b.fin.ep≤b.pul.f.ep)&&decide (b.pul.f.ep≤b.pul.j.ep)&&decide (b.pul.j.ep≤aT_ s b.slot)
def ks_(s:ah_)(b:Blk)(p:Int)(c:Cp):Bool:=decide (c.ep≤s.f.ep) || (if (bw_ s c.ep).1<b.slot then decide (0≤atT s.nodes p (bw_ s c.ep).1)&&decide ((nod s.nodes (atT s.nodes p (bw_ s c.ep).1).toNat).blk.root=c.rt)else decide (b.root=c.rt))
def cps(b:Blk):List Cp:=[b.just,b.fin,b.pul.j,b.pul.f]
def qD_(s:ah_)(b:Blk):Bool:=decide (0≤af_ s.nodes b.parent)&&(jj_ s b&&(bD_ (fun k=>!ks_ s b (af_ s.nodes b.parent) ((cps b).getD k cp0)) 4).isNone)
def fz_(s:ah_)(i e:Int):Bool:=!(bw_ s e).2 || decide ((nod s.nodes i.toNat).blk.slot≤(bw_ s e).1)
def cf_(a b:Cp):Cp:=if a.ep<b.ep then b else a
def kV_(s:ah_)(a b:Cp):Bool:=
 decide (0≤af_ s.nodes a.rt)&&decide (0≤af_ s.nodes b.rt)&&decide ((nod s.nodes (af_ s.nodes a.rt).toNat).status≠2)&&decide ((nod s.nodes (af_ s.nodes b.rt).toNat).status≠2)
 && fz_ s (af_ s.nodes a.rt) a.ep&&fz_ s (af_ s.nodes b.rt) b.ep&&bN_ s.nodes (af_ s.nodes b.rt) (af_ s.nodes a.rt)&&decide (b.ep≤a.ep)&&decide (a.ep≤aT_ s s.now)&&decide (0≤bU_ s.tabs a)
def iQ_(l:List Blk)(a:Int)(i:Nat)(o:List Blk):List Blk:=if a<(l.getD i cF_).slot then o++[l.getD i cF_]else o
def ch_(s:ah_)(j f:Cp):ah_:=
 if kV_ s (cf_ s.j j) (cf_ s.f f)=false then s
 else if cf_ s.f f=s.f then ⟨s.cfg,s.latest,s.eqv,cf_ s.j j,cf_ s.f f,s.early,s.orph,s.nodes,s.now,s.boost,cY_ s.tabs (cf_ s.j j).ep⟩
 else ⟨s.cfg,s.latest,s.eqv,cf_ s.j j,cf_ s.f f,s.early,av_ (iQ_ s.orph (bw_ s (cf_ s.f f).ep).1) [] s.orph.length,(ce_ s.nodes (af_ s.nodes (cf_ s.f f).rt)).1,s.now,
  if af_ (ce_ s.nodes (af_ s.nodes (cf_ s.f f).rt)).1 s.boost<0 then rt0 else s.boost,cY_ s.tabs (cf_ s.j j).ep⟩
def vU_(t:List Nod)(i:Nat)(p:Pul×Bool):Pul×Bool:=
 if (nod t i).status=2 then p else (⟨if p.2=false∨p.1.j.ep<(nod t i).blk.pul.j.ep then (nod t i).blk.pul.j else p.1.j,if p.2=false∨p.1.f.ep<(nod t i).blk.pul.f.ep then (nod t i).blk.pul.f else p.1.f⟩,true)
def ft_(s:ah_):Pul:=(av_ (vU_ s.nodes) (yb_,false) s.nodes.length).1
def bF_(l:List Blk)(i:Nat):Blk:=l.getD i cF_
def gL_(s:ah_)(r:Rt):Bool:=(bD_ (fun i=>decide ((bF_ s.orph i).root=r)) s.orph.length).isSome || decide (0≤af_ s.nodes r)
end Go.FH
namespace Go.Proofs.YtkgimpdgncakjaaGreat
open Go Go.FH Go.RowKit
set_option linter.unusedVariables false
set_option linter.unusedSimpArgs false
theorem dI_(s:ah_)(n:Int)(h0:s.cfg.spe≠0):PC Tryz.prog 73 [.agg (ak_ s.a),.int .u64 n] (.int .u64 (aT_ s n)):=by
 refine PC.fact 5 xC_ (by simp) puA puA ?_;unfold oy_;refine bd ?_;have e0:(s.cfg.spe==0)=false:=by simpa using h0
 unfold aT_;repeat(first|refine aa_ ?_|simp only[go_sem,e0,h0])
 exact ae_
theorem DV_(s:ah_)(n:Int):PC Tryz.prog 281 [.agg (ak_ s.a),.int .i64 n] (.bool (isN s.nodes n)):=by
 refine PC.fact 5 Ga_ (by simp) puA puA ?_;unfold uw_;refine bd ?_;unfold isN;by_cases h0:0≤n
 ·have e0:decide (n ≥ 0)=true:=decide_eq_true h0;have e1:decide (0≤n)=true:=decide_eq_true h0;repeat(first|refine aa_ ?_|simp only[go_sem,e0,e1])
  exact ae_
 ·have e0:decide (n ≥ 0)=false:=decide_eq_false h0;have e1:decide (0≤n)=false:=decide_eq_false h0;repeat(first|refine aa_ ?_|simp only[go_sem,e0,e1])
  exact ae_
theorem EN_(s:ah_)(n:Int)(h0:s.cfg.spe≠0):PC Tryz.prog 282 [.agg (ak_ s.a),.int .i64 n] (.agg (cpC (nF_ s n))):=by
 refine PC.fact 6 uY_ (by simp) puA puA ?_;unfold mk_;refine bd ?_;have c1:=DV_ s n;have c2:=dI_ s (nod s.nodes n.toNat).blk.slot h0;have c3:=dI_ s s.now h0;unfold nF_;try refine aa_ ?_
 refine aj_ c1 ?_;cases h1:isN s.nodes n with
 | false =>
   rw[if_neg (by simp)];try refine aa_ ?_
   refine Ri_ ?_
   exact ae_
 | true =>
   rw[if_pos rfl];have h2:=h1;simp[isN]at h2;have hgd:=bR_ (t:=s.nodes) (i:=n.toNat) (by omega);try refine aa_ ?_
   refine ab_ ?_;repeat(first|refine aa_ ?_|simp only[go_sem,hgd])
   refine ao_ (c2) ?_;try refine aa_ ?_
   refine ao_ (c3) ?_;try refine aa_ ?_
   by_cases h3:aT_ s (nod s.nodes n.toNat).blk.slot<aT_ s s.now
   ·rw[if_pos h3];have e3:decide (aT_ s (nod s.nodes n.toNat).blk.slot<aT_ s s.now)=true:=decide_eq_true h3;repeat(first|refine aa_ ?_|simp only[go_sem,e3])
    refine Ri_ ?_
    exact ae_
   ·rw[if_neg h3];have e3:decide (aT_ s (nod s.nodes n.toNat).blk.slot<aT_ s s.now)=false:=decide_eq_false h3;repeat(first|refine aa_ ?_|simp only[go_sem,e3])
    refine Rh_ ?_
    exact ae_
theorem Kv_(s:ah_)(n:Int)(h0:s.cfg.spe≠0):PC Tryz.prog 280 [.agg (ak_ s.a),.int .i64 n] (.bool (vX_ s n)):=by
 refine PC.fact 6 qv_ (by simp) puA puA ?_;unfold jn_;refine bd ?_;have c1:=DV_ s n;have c2:=EN_ s n h0;have c3:=dI_ s s.now h0;unfold vX_;try refine aa_ ?_
 refine aj_ c1 ?_;cases h1:isN s.nodes n with
 | false =>
   try refine aa_ ?_
   refine Ri_ ?_
   exact ae_
 | true =>
   have h2:=h1;simp[isN]at h2;have hgd:=bR_ (t:=s.nodes) (i:=n.toNat) (by omega);generalize nF_ s n=S at *;by_cases h3:(nod s.nodes n.toNat).status=2
   ·have e3:((nod s.nodes n.toNat).status==2)=true:=by simp[h3]
    have e4:decide ((nod s.nodes n.toNat).status≠2)=false:=by simp[h3]
    rw[e4];repeat(first|refine aa_ ?_|simp only[go_sem,hgd,e3])
    refine Ri_ ?_
    exact ae_
   ·have e3:((nod s.nodes n.toNat).status==2)=false:=by simp[h3]
    have e4:decide ((nod s.nodes n.toNat).status≠2)=true:=by simp[h3]
    rw[e4];repeat(first|refine aa_ ?_|simp only[go_sem,hgd,e3])
    refine ab_ ?_;repeat(first|refine aa_ ?_|simp only[go_sem,hgd])
    refine So_ c2 ?_
    by_cases k1:s.j.ep=0
    ·have e5:(s.j.ep==0)=true:=by simp[k1]
     rw[decide_eq_true k1];repeat(first|refine aa_ ?_|simp only[go_sem,e5])
     exact ae_
    have e5:(s.j.ep==0)=false:=by simp[k1]
    rw[decide_eq_false k1];by_cases k2:S.ep=s.j.ep
    ·have e6:(S.ep==s.j.ep)=true:=by simp[k2]
     rw[decide_eq_true k2];repeat(first|refine aa_ ?_|simp only[go_sem,e5,e6])
     exact ae_
    have e6:(S.ep==s.j.ep)=false:=by simp[k2]
    rw[decide_eq_false k2];repeat(first|refine aa_ ?_|simp only[go_sem,e5,e6])
    refine aj_ c3 ?_;by_cases k3:aT_ s s.now≤S.ep
    ·have e7:decide (aT_ s s.now≤S.ep)=true:=decide_eq_true k3;rw[decide_eq_true k3];repeat(first|refine aa_ ?_|simp only[go_sem,e7])
     exact ae_
    have e7:decide (aT_ s s.now≤S.ep)=false:=decide_eq_false k3;rw[decide_eq_false k3];repeat(first|refine aa_ ?_|simp only[go_sem,e7])
    refine So_ c3 ?_
    exact ae_
theorem LG_{α:Type}(p:α→Bool)(d:α)(l:List α){i:Nat}(h:i<l.length):(l.drop i).any p=(p (l.getD i d) || (l.drop (i+1)).any p):=by
 rw[List.drop_eq_getElem_cons h,List.any_cons,List.getD_eq_getElem?_getD,List.getElem?_eq_getElem h];rfl
theorem zz_(s:ah_)(i0:Int)(ih:∀x∈gD_ s.nodes i0,PC Tryz.prog 275 [.agg (ak_ s.a),.int .i64 x] (.bool (hJ_ s x)))(h0:s.cfg.spe≠0)(ht:bG_ s.nodes)(hb:s.nodes.length≤1000000)(hi0:0≤i0):PC Tryz.prog 275 [.agg (ak_ s.a),.int .i64 i0] (.bool (hJ_ s i0)):=by
 refine PC.fact 7 Bk_ (by simp) puA puA ?_;unfold qg_;refine bd ?_;have c1:=Kv_ s i0 h0;have c2:=zu_ s.nodes i0 hb;have hl:=zt_ s.nodes i0;rw[MJ_ ht i0 (by omega)];generalize gD_ s.nodes i0=l at *;generalize hJ_ s=L at *;try refine aa_ ?_
 refine aj_ c1 ?_;cases h1:vX_ s i0 with
 | true =>
   try refine aa_ ?_
   refine Ri_ ?_
   exact ae_
 | false =>
   try refine aa_ ?_
   refine Rh_ ?_
   refine So_ c2 ?_
   generalize hR:l.any L=R;refine an_ (fun i:Nat=>[(6,.int .i64 i)]) (fun _=>[.var (ak_ s.a)]) (fun i=>l.length-i) (fun i=>i≤l.length∧R=(l.drop i).any L) 0 ⟨Nat.zero_le _,hR.symm⟩ ?_ ?_
   ·exact SN_ [] [0]
   clear hR;rintro i ⟨hi,hn⟩;rw[hn];refine cJ_ ?_;by_cases h1:i<l.length
   ·have e1:=inT h1
    have hw:=ag_ h1 (by omega);have hgp:=gdn (k:=.i64) h1;have c3:=ih (l.getD i 0) (by rw[List.getD_eq_getElem?_getD,List.getElem?_eq_getElem h1];exact List.getElem_mem h1);have hd:=LG_ L 0 l h1;repeat(first|refine aa_ ?_|simp only[go_sem,e1])
    refine ac_ ?_;repeat(first|refine aa_ ?_|simp only[go_sem,hgp,Nat.mul_one])
    refine ao_ (c3) ?_;cases h2:L (l.getD i 0)with
    | true =>
      rw[hd,h2];try refine aa_ ?_
      refine Ri_ ?_
      exact ae_
    | false =>
      rw[hd,h2];try refine aa_ ?_
      refine ab_ ?_;repeat(first|refine aa_ ?_|simp only[go_sem,hw])
      refine⟨i+1,⟨h1,rfl⟩,by omega,?_⟩;exact SN_ [] [0]
   ·obtain rfl:i=l.length:=by omega
    have e1:=inF (l.length);rw[List.drop_length];repeat(first|refine aa_ ?_|simp only[go_sem,e1])
    refine Rh_ ?_
    exact ae_
theorem zA_(s:ah_)(h0:s.cfg.spe≠0)(ht:bG_ s.nodes)(hb:s.nodes.length≤1000000):∀ (n:Nat) (i:Int),0≤i→(s.nodes.length:Int)-i<n→PC Tryz.prog 275 [.agg (ak_ s.a),.int .i64 i] (.bool (hJ_ s i))
 | 0, i, _, hn => by
   exact zz_ s i (fun x hx=>by have:=el_ ht hx;omega) h0 ht hb (by omega)
 | n + 1, i, hi, hn => by
   exact zz_ s i (fun x hx=>zA_ s h0 ht hb n x (by have:=el_ ht hx;omega) (by have:=el_ ht hx;omega)) h0 ht hb hi
structure StR(s:ah_):Prop where
 tree:bG_ s.nodes
 spe:s.cfg.spe≠0
 bn:s.nodes.length≤1000000
 bl:s.latest.length≤1000000
 be:s.eqv.length≤1000000
 bt:s.tabs.length≤1000000
 bb:∀t∈s.tabs,t.bals.length≤1000000
 bo:s.orph.length≤1000000
 ba:s.early.length≤1000000
 nl:s.cfg.lim.node≤4096
 ll:s.latest.length=s.cfg.bals.length
 jf:0≤af_ s.nodes s.j.rt
theorem vh_(l:List au_)(c:Cp):-1≤bU_ l c∧bU_ l c<l.length:=by
 unfold bU_;cases h:bD_ (fun i=>decide ((tab l i).cp=c)) l.length with
 |none=>simp[mO_];omega
 |some k=>have:=cD_ h;simp[mO_];omega
theorem LM_{s:ah_}(h:StR s):(Fv_ s).length≤1000000:=by
 unfold Fv_;split
 ·simp
 ·rename_i h1;have h2:=vh_ s.tabs s.j;refine h.bb _ ?_;unfold tab;rw[List.getD_eq_getElem?_getD,List.getElem?_eq_getElem (show (bU_ s.tabs s.j).toNat<s.tabs.length by omega)];exact List.getElem_mem _
theorem Gy_(s:ah_)(h:StR s):PC Tryz.prog 258 [.agg (ak_ s.a)] (.sl 1 false (rows he_ (vM_ s))):=by
 refine PC.fact 5 Bi_ (by simp) puA puA ?_;unfold qe_;refine bd ?_;unfold vM_;have hb:=h.bn;try refine aa_ ?_
 refine de_ 3 1 ?_;simp only[go_sem];refine an_ (fun i:Nat=>[(4,.int .i64 i),(3,.hs 1 1 0 i)]) (fun i=>[.var (ak_ s.a),.vec 1 (rows he_ (av_ (vL_ s) [] i))]) (fun i=>s.nodes.length-i) (fun i=>i≤s.nodes.length) 0 (Nat.zero_le _) ?_ ?_
 ·exact SN_ [] [0,1]
 intro i hi;refine cJ_ ?_;by_cases h1:i<s.nodes.length
 ·have e1:=inT h1;have hw:=ag_ h1 (by omega);have c1:=zA_ s h.spe h.tree h.bn (s.nodes.length+1) i (by omega) (by omega);have hs:=bi_ (vL_ s) [] i;have hl:=nx_ s i;generalize av_ (vL_ s) [] i=acc at *;have hr:rows he_ acc++[[AV.bool (hJ_ s i)]]=rows he_ (acc++[hJ_ s i]):=bB_ he_ acc _;repeat(first|refine aa_ ?_|simp only[go_sem,e1])
  refine Ri_ ?_
  refine aj_ c1 ?_;have ht:List.take i (rows he_ acc)=rows he_ acc:=List.take_of_length_le (by simp[hl]);repeat(first|refine aa_ ?_|simp only[go_sem,hr,hw,hl,ht])
  refine⟨i+1,h1,by omega,?_⟩;rw[hs,show vL_ s i acc=acc++[hJ_ s i]from rfl];exact SN_ [] [0,2]
 ·obtain rfl:i=s.nodes.length:=by omega
  have e1:=inF (s.nodes.length);have hl:=nx_ s s.nodes.length;repeat(first|refine aa_ ?_|simp only[go_sem,e1])
  refine ab_ ?_;repeat(first|refine aa_ ?_|simp only[go_sem,hl])
  refine⟨_,(by first|rfl|exact evd),.inl ?_⟩;refine evg ?_;rw[hl,if_pos (Nat.le_refl _),List.take_of_length_le (by simp[hl])]
theorem LN_(s:ah_)(h:StR s):PC Tryz.prog 29 [.agg (ak_ s.a)] (.sl 1 false (aq_ .u64 (Fv_ s))):=by
 refine PC.fact 4 rC_ (by simp) puA puA ?_;unfold kg_;refine bd ?_;have c1:=ih_ s.tabs s.j h.bt;have h2:=vh_ s.tabs s.j;unfold Fv_;try refine aa_ ?_
 refine So_ c1 ?_
 by_cases h1:bU_ s.tabs s.j<0
 ·have e1:decide (bU_ s.tabs s.j<0)=true:=decide_eq_true h1;rw[if_pos h1];repeat(first|refine aa_ ?_|simp only[go_sem,e1])
  refine Ri_ ?_
  refine⟨_,by first|rfl|exact evd,.inr ⟨_,by(try simp only[go_sem,Nat.reduceAdd,Nat.reduceSub,Nat.reduceMul,Nat.reduceLT,Nat.reduceLeDiff,Nat.reduceEqDiff,reduceIte,Int.reduceToNat,Int.reduceLT,Int.reduceLE,Int.reduceEq,Int.reduceNeg,reduceCtorEq,Int.reduceBEq,Int.reduceBNe]);try rfl,puA,(by repeat'(first|exact Wk.refl _|exact Wk.empty _ _ _|exact Wk.open_ _ _ _|refine Wk.tup ?_|refine Wk.agg ?_|exact trivial|(intro h;first|exact h|rfl)|constructor))⟩⟩
 ·have e1:decide (bU_ s.tabs s.j<0)=false:=decide_eq_false h1;have hgd:(rows au_.c s.tabs).getD (bU_ s.tabs s.j).toNat []=aY_ (tab s.tabs (bU_ s.tabs s.j).toNat).a:=aA_ (f:=au_.c) default (by omega);rw[if_neg h1];repeat(first|refine aa_ ?_|simp only[go_sem,e1])
  refine ab_ ?_;repeat(first|refine aa_ ?_|simp only[go_sem,hgd])
  exact ae_
theorem CG_(s:ah_)(h:StR s):PC Tryz.prog 257 [.agg (ak_ s.a)] (.sl 1 false (aq_ .u64 (hE_ s))):=by
 refine PC.fact 9 tf_ (by simp) puA puA ?_;unfold ln_;refine bd ?_;have c1:=LN_ s h;have hl:=LM_ h;unfold hE_;generalize Fv_ s=B at *;have c2:=Ai_ B false hl;generalize sh_ B=S at *;obtain⟨S1,S2⟩:=S;have c3:=CR_ s.cfg S1;have c4:=Dl_ s.nodes s.latest s.eqv B h.bn h.bl h.be hl;have hd:=tU_ s.nodes s.latest s.eqv B s.nodes.length;rw[show av_ (Dk_ s.nodes s.latest s.eqv B) [] s.nodes.length=tV_ s.nodes s.latest s.eqv B from rfl]at hd;generalize tV_ s.nodes s.latest s.eqv B=D at *;dsimp only at c2 ⊢;generalize pR_ s.cfg.spe s.cfg.boost S1=M at *;obtain⟨M1,M2⟩:=M;have c5:=AH_ s.nodes D s.boost M1 h.bn hd;have hd2:(ka_ s.nodes D s.boost M1).length=s.nodes.length:=by unfold ka_;split<;>simp[hd]
 dsimp only at c3 ⊢;generalize ka_ s.nodes D s.boost M1=D2 at *;have c6:=Cv_ s.nodes h.tree.ok D2 h.bn hd2;try refine aa_ ?_
 refine So_ c1 ?_
 refine So_ c2 ?_
 refine So_ c3 ?_
 refine So_ c4 ?_
 refine ao_ (c5) ?_;try refine aa_ ?_
 refine ao_ (c6) ?_;try refine aa_ ?_
 exact ae_
end Go.Proofs.YtkgimpdgncakjaaGreat
namespace Go.Proofs.YtkgimpdgncakjaaGreat
open Go Go.FH Go.RowKit
set_option linter.unusedVariables false
set_option linter.unusedSimpArgs false
set_option maxRecDepth 8000
set_option maxHeartbeats 4000000
theorem gdb{l:List Bool}{i:Nat}(h:i<l.length):(rows he_ l).getD i []=[.bool (l.getD i false)]:=aA_ (f:=he_) false h
theorem IV_(t:List Nod)(ht:bG_ t)(hb:t.length≤1000000)(w:List Int)(hwl:w.length=t.length)(a:List Bool)(ha:a.length=t.length)(i0:Int):
 PC Tryz.prog 259 [.agg [nA t],.sl 1 false (aq_ .u64 w),.sl 1 false (rows he_ a),.int .i64 i0] (.int .i64 (iz_ t w a i0)):=by
 refine PC.fact 13 uX_ (by simp) puA puA ?_;unfold mj_;refine bd ?_;have c1:=zu_ t i0 hb;have hl:=zt_ t i0;have hm:∀x∈gD_ t i0,0≤x∧x<t.length:=fun x hx=>by have:=el_ ht hx;omega
 unfold iz_;generalize gD_ t i0=l at *;try refine aa_ ?_
 refine So_ c1 ?_
 refine an_ (fun i:Nat=>[(11,.int .i64 i),(9,.int .i64 (av_ (lc_ t w a l) (-1) i))]) (fun _=>[.var [nA t]]) (fun i=>l.length-i) (fun i=>i≤l.length) 0 (Nat.zero_le _) ?_ ?_
 ·exact SN_ [] [0]
 intro i hi;refine cJ_ ?_;by_cases h1:i<l.length
 ·have e1:=inT h1
  have hw:=ag_ h1 (by omega);have hgp:=gdn (k:=.i64) h1;have hx:=hm (l.getD i 0) (by rw[List.getD_eq_getElem?_getD,List.getElem?_eq_getElem h1];exact List.getElem_mem h1);have hs:=bi_ (lc_ t w a l) (-1) i;have hbi:=pV_ t w a l i hi;have hbd:av_ (lc_ t w a l) (-1) i=-1∨(0≤av_ (lc_ t w a l) (-1) i∧av_ (lc_ t w a l) (-1) i<t.length):=hbi.imp id (fun h=>hm _ h);clear hbi;generalize hB:av_ (lc_ t w a l) (-1) i=B at *;have hc:lc_ t w a l i B=if a.getD (l.getD i 0).toNat false=true∧(B<0∨w.getD B.toNat 0<w.getD (l.getD i 0).toNat 0∨(w.getD (l.getD i 0).toNat 0=w.getD B.toNat 0∧0<lG_ (nod t (l.getD i 0).toNat).blk.root (nod t B.toNat).blk.root))then l.getD i 0 else B:=rfl
  rw[hc]at hs;clear hc;generalize l.getD i 0=c at *;have hga:=gdb (l:=a) (i:=c.toNat) (by omega);have hgw:=gdn (k:=.u64) (ns:=w) (i:=c.toNat) (by omega);have hgd:=bR_ (t:=t) (i:=c.toNat) (by omega);repeat(first|refine aa_ ?_|simp only[go_sem,e1])
  refine ac_ ?_;repeat(first|refine aa_ ?_|simp only[go_sem,hgp,Nat.mul_one,hga])
  cases h2:a.getD c.toNat false with
  | false =>
    rw[if_neg (fun h=>Bool.noConfusion (h2.symm.trans h.1))]at hs;try refine aa_ ?_
    refine ab_ ?_;repeat(first|refine aa_ ?_|simp only[go_sem,hw])
    refine⟨i+1,h1,by omega,?_⟩;rw[hs];exact SN_ [] [0]
  | true =>
    by_cases h3:B<0
    ·have e3:decide (B<0)=true:=decide_eq_true h3;rw[if_pos ⟨h2,.inl h3⟩]at hs;repeat(first|refine aa_ ?_|simp only[go_sem,e3])
     refine ac_ ?_;repeat(first|refine aa_ ?_|simp only[go_sem,hw])
     refine⟨i+1,h1,by omega,?_⟩;rw[hs];exact SN_ [] [0]
    have e3:decide (B<0)=false:=decide_eq_false h3;have hgB:=gdn (k:=.u64) (ns:=w) (i:=B.toNat) (by omega);have hgE:=bR_ (t:=t) (i:=B.toNat) (by omega);by_cases h4:w.getD B.toNat 0<w.getD c.toNat 0
    ·have e4:decide (w.getD c.toNat 0 > w.getD B.toNat 0)=true:=decide_eq_true h4;have e5:decide (w.getD B.toNat 0<w.getD c.toNat 0)=true:=decide_eq_true h4;rw[if_pos ⟨h2,.inr (.inl h4)⟩]at hs;repeat(first|refine aa_ ?_|simp only[go_sem,e3,hgB,hgw,Nat.mul_one,e4,e5])
     refine ac_ ?_;repeat(first|refine aa_ ?_|simp only[go_sem,hw])
     refine⟨i+1,h1,by omega,?_⟩;rw[hs];exact SN_ [] [0]
    have e4:decide (w.getD c.toNat 0 > w.getD B.toNat 0)=false:=decide_eq_false h4;have e5:decide (w.getD B.toNat 0<w.getD c.toNat 0)=false:=decide_eq_false h4;by_cases h5:w.getD c.toNat 0=w.getD B.toNat 0
    ·have e6:(w.getD c.toNat 0==w.getD B.toNat 0)=true:=by rw[beq_iff_eq];exact h5
     have c2:=zb_ (nod t c.toNat).blk.root (nod t B.toNat).blk.root;generalize lG_ (nod t c.toNat).blk.root (nod t B.toNat).blk.root=M at *;repeat(first|refine aa_ ?_|simp only[go_sem,e3,hgB,hgw,Nat.mul_one,e4,e5,e6,hgd,hgE])
     refine ao_ (c2) ?_;by_cases h6:0<M
     ·have e7:decide (M > 0)=true:=decide_eq_true h6;have e8:decide (0<M)=true:=decide_eq_true h6;rw[if_pos ⟨h2,.inr (.inr ⟨h5,h6⟩)⟩]at hs;repeat(first|refine aa_ ?_|simp only[go_sem,e7,e8])
      refine ac_ ?_;repeat(first|refine aa_ ?_|simp only[go_sem,hw])
      refine⟨i+1,h1,by omega,?_⟩;rw[hs];exact SN_ [] [0]
     ·have e7:decide (M > 0)=false:=decide_eq_false h6;have e8:decide (0<M)=false:=decide_eq_false h6;rw[if_neg (by rintro⟨_,h|h|h⟩;exact h3 h;exact h4 h;exact h6 h.2)]at hs;repeat(first|refine aa_ ?_|simp only[go_sem,e7,e8])
      refine ab_ ?_;repeat(first|refine aa_ ?_|simp only[go_sem,hw])
      refine⟨i+1,h1,by omega,?_⟩;rw[hs];exact SN_ [] [0]
    ·have e6:(w.getD c.toNat 0==w.getD B.toNat 0)=false:=by rw[←Bool.not_eq_true,beq_iff_eq];exact h5
     rw[if_neg (by rintro⟨_,h|h|h⟩;exact h3 h;exact h4 h;exact h5 h.1)]at hs;repeat(first|refine aa_ ?_|simp only[go_sem,e3,hgB,hgw,Nat.mul_one,e4,e5,e6])
     refine ab_ ?_;repeat(first|refine aa_ ?_|simp only[go_sem,hw])
     refine⟨i+1,h1,by omega,?_⟩;rw[hs];exact SN_ [] [0]
 ·obtain rfl:i=l.length:=by omega
  have e1:=inF (l.length);repeat(first|refine aa_ ?_|simp only[go_sem,e1])
  refine Rh_ ?_
  exact ae_
end Go.Proofs.YtkgimpdgncakjaaGreat
namespace Go.Proofs.YtkgimpdgncakjaaGreat
open Go Go.FH Go.RowKit
set_option linter.unusedVariables false
set_option linter.unusedSimpArgs false
theorem CF_(s:ah_):(hE_ s).length=s.nodes.length:=ub_ s.nodes _ s.nodes.length
theorem JO_(s:ah_)(h:StR s):PC Tryz.prog 236 [.agg (ak_ s.a)] (.int .i64 (vt_ s)):=by
 refine PC.fact 7 Bh_ (by simp) puA puA ?_;unfold qd_;refine bd ?_;have c1:=CG_ s h;have c2:=Gy_ s h;have c3:=bg_ s.nodes s.j.rt h.bn;have c4:=IV_ s.nodes h.tree h.bn (hE_ s) (CF_ s) (vM_ s) (nx_ s s.nodes.length);have hbd:=LP_ h.tree (hE_ s) (vM_ s);have hF:=cH_ s.nodes s.j.rt;unfold vt_;generalize hE_ s=W at *;generalize vM_ s=L at *;generalize af_ s.nodes s.j.rt=F at *;try refine aa_ ?_
 refine ao_ (c1) ?_;try refine aa_ ?_
 refine ao_ (c2) ?_;try refine aa_ ?_
 refine So_ c3 ?_
 generalize hR:qH_ s.nodes W L (s.nodes.length+1) F=R;refine an_ (fun p:Nat×Int=>[(5,.int .i64 p.2)]) (fun _=>[.var (ak_ s.a)]) (fun p=>p.1) (fun p=>-1≤p.2∧p.2<s.nodes.length∧(s.nodes.length:Int)-p.2≤p.1∧R=qH_ s.nodes W L p.1 p.2) (s.nodes.length+1,F) ⟨hF.1,hF.2,by dsimp only;omega,hR.symm⟩ ?_ ?_
 ·exact SN_ [] [0]
 clear hR;rintro⟨f,i⟩ ⟨h0,h1,h2,hn⟩;dsimp only at h0 h1 h2 hn;rw[hn];obtain⟨g,rfl⟩:∃g,f=g+1:=⟨f-1,by omega⟩
 have c5:=c4 i;have hb:=hbd i;have hs:qH_ s.nodes W L (g+1) i=if iz_ s.nodes W L i<0 then i else qH_ s.nodes W L g (iz_ s.nodes W L i):=rfl
 generalize iz_ s.nodes W L i=B at *;dsimp only;try refine aa_ ?_
 refine So_ c5 ?_
 by_cases h3:B<0
 ·have e3:decide (B<0)=true:=decide_eq_true h3;rw[if_pos h3]at hs;rw[hs];repeat(first|refine aa_ ?_|simp only[go_sem,e3])
  refine Ri_ ?_
  exact ae_
 ·have e3:decide (B<0)=false:=decide_eq_false h3;rw[if_neg h3]at hs;rw[hs];repeat(first|refine aa_ ?_|simp only[go_sem,e3])
  refine Rh_ ?_
  refine⟨(g,B),⟨by omega,by omega,by dsimp only;omega,rfl⟩,by dsimp only;omega,?_⟩;exact SN_ [] [0]
theorem fS_(s:ah_)(e:Int):PC Tryz.prog 126 [.agg (ak_ s.a),.int .u64 e] (.tup [.int .u64 (bw_ s e).1,.bool (bw_ s e).2]):=by
 refine PC.fact 8 xE_ (by simp) puA puA ?_;unfold oA_;refine bd ?_;have c1:=Hk_ e s.cfg.spe;unfold bw_;generalize bh_ e s.cfg.spe=p at *;try refine aa_ ?_
 refine aj_ c1 ?_;have hz:(p.2==0)=decide (p.2=0):=rfl;repeat(first|refine aa_ ?_|simp only[go_sem,hz])
 exact ae_
theorem pj_(s:ah_)(i e:Int)(h0:0≤i)(h1:i<s.nodes.length):PC Tryz.prog 74 [.agg (ak_ s.a),.int .i64 i,.int .u64 e] (.bool (fz_ s i e)):=by
 refine PC.fact 9 xB_ (by simp) puA puA ?_;unfold ox_;refine bd ?_;have c1:=fS_ s e;unfold fz_;have hgd:=bR_ (t:=s.nodes) (i:=i.toNat) (by omega);generalize bw_ s e=p at *;obtain⟨p1,p2⟩:=p;dsimp only at c1 ⊢;try refine aa_ ?_
 refine aj_ c1 ?_;cases p2 with
 | false =>
   try refine aa_ ?_
   exact ae_
 | true =>
   repeat(first|refine aa_ ?_|simp only[go_sem,hgd])
   exact ae_
theorem qT_(s:ah_)(b:Blk)(h0:s.cfg.spe≠0):PC Tryz.prog 145 [.agg (ak_ s.a),.agg (ap_ b)] (.bool (jj_ s b)):=by
 refine PC.fact 9 tg_ (by simp) puA puA ?_;unfold lo_;refine bd ?_;have c1:=dI_ s b.slot h0;unfold jj_;by_cases q1:b.fin.ep≤b.just.ep
 case neg=>
  rw[decide_eq_false q1];have e1:=decide_eq_false q1;repeat(first|refine aa_ ?_|simp only[go_sem,e1])
  exact ae_
 rw[decide_eq_true q1];have e1:=decide_eq_true q1;by_cases q2:b.just.ep≤b.pul.j.ep
 case neg=>
  rw[decide_eq_false q2];have e2:=decide_eq_false q2;repeat(first|refine aa_ ?_|simp only[go_sem,e1,e2])
  exact ae_
 rw[decide_eq_true q2];have e2:=decide_eq_true q2;by_cases q3:b.fin.ep≤b.pul.f.ep
 case neg=>
  rw[decide_eq_false q3];have e3:=decide_eq_false q3;repeat(first|refine aa_ ?_|simp only[go_sem,e1,e2,e3])
  exact ae_
 rw[decide_eq_true q3];have e3:=decide_eq_true q3;by_cases q4:b.pul.f.ep≤b.pul.j.ep
 case neg=>
  rw[decide_eq_false q4];have e4:=decide_eq_false q4;repeat(first|refine aa_ ?_|simp only[go_sem,e1,e2,e3,e4])
  exact ae_
 rw[decide_eq_true q4];have e4:=decide_eq_true q4;repeat(first|refine aa_ ?_|simp only[go_sem,e1,e2,e3,e4])
 refine So_ c1 ?_
 exact ae_
end Go.Proofs.YtkgimpdgncakjaaGreat
namespace Go.FH
set_option linter.unusedVariables false
open Go Go.RowKit
def takeO(l:List Blk)(i:Nat):List Blk:=l.take i++l.drop (i+1)
theorem Ak_(l:List Blk){i:Nat}(h:i<l.length):(takeO l i).length+1=l.length:=by
 unfold takeO;rw[List.length_append,List.length_take,List.length_drop];omega
def by_(s:ah_):Int:=mO_ (bD_ (fun i=>decide (0≤af_ s.nodes (bF_ s.orph i).parent)) s.orph.length)
theorem no_(s:ah_):-1≤by_ s∧by_ s<s.orph.length:=by
 unfold by_;cases h:bD_ (fun i=>decide (0≤af_ s.nodes (bF_ s.orph i).parent)) s.orph.length with
 |none=>rw[fQ_];omega
 |some k=>have:=cD_ h;rw[dP_];omega
def ck_(s:ah_)(t:List Nod):ah_:=⟨s.cfg,s.latest,s.eqv,s.j,s.f,s.early,s.orph,t,s.now,s.boost,s.tabs⟩
def withO(s:ah_)(l:List Blk):ah_:=⟨s.cfg,s.latest,s.eqv,s.j,s.f,s.early,l,s.nodes,s.now,s.boost,s.tabs⟩
def withE(s:ah_)(l:List aD_):ah_:=⟨s.cfg,s.latest,s.eqv,s.j,s.f,l,s.orph,s.nodes,s.now,s.boost,s.tabs⟩
def withB(s:ah_)(r:Rt):ah_:=⟨s.cfg,s.latest,s.eqv,s.j,s.f,s.early,s.orph,s.nodes,s.now,r,s.tabs⟩
def withL(s:ah_)(l:List Vot):ah_:=⟨s.cfg,l,s.eqv,s.j,s.f,s.early,s.orph,s.nodes,s.now,s.boost,s.tabs⟩
def RY_(s:ah_)(l:List Int):ah_:=⟨s.cfg,s.latest,l,s.j,s.f,s.early,s.orph,s.nodes,s.now,s.boost,s.tabs⟩
def withT(s:ah_)(l:List au_):ah_:=⟨s.cfg,s.latest,s.eqv,s.j,s.f,s.early,s.orph,s.nodes,s.now,s.boost,l⟩
def fV_:ah_:=⟨⟨OP_,0,0,wd0,rt0,[]⟩,[],[],cp0,cp0,[],[],[],0,rt0,[]⟩
theorem cU_{t:List Nod}{n:Nod}{i:Nat}:nod (t++[n]) i=if i<t.length then nod t i else if i=t.length then n else gs_:=by
 unfold nod;simp only[List.getD_eq_getElem?_getD];by_cases h:i<t.length
 ·rw[if_pos h,List.getElem?_append_left h]
 ·rw[if_neg h,List.getElem?_append_right (by omega)];by_cases h2:i=t.length
  ·subst h2;simp
  ·rw[if_neg h2,List.getElem?_eq_none (by simp;omega)];rfl
theorem fO_{t:List Nod}{r:Rt}{k:Nat}(hk:k<t.length)(h:(nod t k).blk.root=r):0≤af_ t r:=by
 unfold af_;cases h1:bD_ (fun i=>decide ((nod t i).blk.root=r)) t.length with
 |none=>have:=ei_ h1 k hk;simp[h]at this
 |some i=>rw[dP_];omega
theorem cn_{t:List Nod}{r:Rt}(h:0≤af_ t r):(af_ t r).toNat<t.length∧(nod t (af_ t r).toNat).blk.root=r:=by
 unfold af_ at *;cases h1:bD_ (fun i=>decide ((nod t i).blk.root=r)) t.length with
 |none=>rw[h1,fQ_]at h;omega
 |some i=>rw[dP_];have:=cD_ h1;exact⟨by simpa using this.1,by simpa using this.2.1⟩
theorem bG_.snoc{t:List Nod}(ht:bG_ t){n:Nod}(h0:0≤n.up)(h1:n.up<t.length):bG_ (t++[n]):=by
 refine⟨fun i hi hl=>?_,by simp,?_⟩
 ·rw[cU_];by_cases h:i<t.length
  ·rw[if_pos h];exact ht.ok i hi h
  ·rw[if_neg h,if_pos (by simp at hl;omega)];simp at hl;omega
 ·rw[cU_,if_pos ht.pos];exact ht.root
theorem Bw_{t:List Nod}{b:Blk}{st:Int}(h:(dQ_ t b st).2=0):(dQ_ t b st).1=t++[⟨b,af_ t b.parent,st⟩]∧0≤af_ t b.parent:=by
 unfold dQ_ at *;split at h
 ·simp at h
 ·rename_i h1
  rw[if_neg h1];split at h
  ·simp at h
  ·rename_i h2
   rw[if_neg h2];split at h
   ·simp at h
   ·rename_i h3
    rw[if_neg h3];split at h
    ·simp at h
    ·rename_i h4
     rw[if_neg h4];split at h
     ·simp at h
     ·rename_i h5;rw[if_neg h5];exact⟨rfl,by omega⟩
theorem bG_.ins{t:List Nod}(ht:bG_ t){b:Blk}{st:Int}(h:(dQ_ t b st).2=0):bG_ (dQ_ t b st).1:=by
 obtain⟨h1,h2⟩:=Bw_ h;rw[h1];have h3:=cn_ h2;exact ht.snoc (n:=⟨b,af_ t b.parent,st⟩) h2 (show af_ t b.parent<t.length by omega)
theorem iq_{t:List Nod}(ht:bG_ t){i:Nat}(hi:i<t.length):bN_ t i i=true:=by
 unfold bN_;rcases Nat.eq_zero_or_pos i with h|h
 ·subst h;rw[show ((0:Nat):Int)=0 from rfl,eS_ hi];simp
 ·rw[eT_ ht.ok h hi];simp
theorem tS_{t:List Nod}(ht:bG_ t){a b:Int}(h:bN_ t a b=true):0≤a∧a≤b∧a<t.length:=by
 unfold bN_ at h;exact dv_ ht.ok (by simpa using h)
theorem Ay_{t:List Nod}(ht:bG_ t){a:Int}{k:Nat}(hk:k<t.length)(h:bN_ t a k=true)(hne:(k:Int)≠a):0<k∧bN_ t a (nod t k).up=true:=by
 unfold bN_ at *;rcases Nat.eq_zero_or_pos k with h0|h0
 ·subst h0;rw[show ((0:Nat):Int)=0 from rfl,eS_ hk]at h;simp at h;exact absurd h.symm hne
 ·rw[eT_ ht.ok h0 hk]at h;simp at h;refine⟨h0,?_⟩;rcases h with h|h
  ·simpa using h
  ·exact absurd h.symm hne
structure Sr_(t:List Nod)(i0:Int)(k:Nat)(p:List Nod×List Int):Prop where
 len:p.2.length=k
 kept:∀m:Nat,m<k→bN_ t i0 m=true→0≤p.2.getD m 0∧p.2.getD m 0<p.1.length∧(nod p.1 (p.2.getD m 0).toNat).blk=(nod t m).blk
 up:∀u:Nat,0<u→u<p.1.length→0≤(nod p.1 u).up∧(nod p.1 u).up<u
 root:0<p.1.length→(nod p.1 0).up<0
 some:0<p.1.length→∃m:Nat,m<k∧bN_ t i0 m=true
 blks:∀u:Nat,u<p.1.length→∃m:Nat,m<t.length∧(nod p.1 u).blk=(nod t m).blk
 le:p.1.length≤k
theorem gp_{l:List Int}{x:Int}{m:Nat}:(l++[x]).getD m 0=if m<l.length then l.getD m 0 else if m=l.length then x else 0:=by
 simp only[List.getD_eq_getElem?_getD];by_cases h:m<l.length
 ·rw[if_pos h,List.getElem?_append_left h]
 ·rw[if_neg h,List.getElem?_append_right (by omega)];by_cases h2:m=l.length
  ·subst h2;simp
  ·rw[if_neg h2,List.getElem?_eq_none (by simp;omega)];rfl
theorem GL_{t:List Nod}(ht:bG_ t)(i0:Int):∀k,k≤t.length→Sr_ t i0 k (av_ (bv_ t i0) ([],[]) k)
 |0,_=>⟨rfl,fun m h=>absurd h (Nat.not_lt_zero _),fun u _ h=>absurd h (Nat.not_lt_zero _),fun h=>absurd h (Nat.lt_irrefl _),fun h=>absurd h (Nat.lt_irrefl _),fun u h=>absurd h (Nat.not_lt_zero _),Nat.le_refl _⟩
 | k + 1, hk => by
   have ih:=GL_ ht i0 k (by omega);rw[bi_];generalize av_ (bv_ t i0) ([],[]) k=p at *;obtain⟨kp,ix⟩:=p;obtain⟨l1,l2,l3,l4,l5,l6,l7⟩:=ih;dsimp only at l1 l2 l3 l4 l5 l6 l7;unfold bv_;by_cases ha:bN_ t i0 k=true
   ·rw [if_pos ha]
    dsimp only
    have hup:0<kp.length→(k:Int)≠i0:=by
     intro h he;obtain⟨m,h1,h2⟩:=l5 h;have:=tS_ ht h2;omega
    have hu:(k:Int)≠i0→0≤ix.getD (nod t k).up.toNat 0∧ix.getD (nod t k).up.toNat 0<kp.length:=by
     intro h;obtain⟨h0,h1⟩:=Ay_ ht (by omega) ha h;obtain⟨h2,h3⟩:=ht.ok k h0 (by omega);have:=l2 (nod t k).up.toNat (by omega) (by rw[Int.toNat_of_nonneg h2];exact h1);exact⟨this.1,this.2.1⟩
    refine⟨by simp[l1],fun m hm hm2=>?_,fun u h0 h1=>?_,fun h=>?_,fun _=>⟨k,by omega,ha⟩,fun u h=>?_,by simp;omega⟩
    ·rw[gp_]
     by_cases hmk:m<k
     ·rw[if_pos (by omega)];obtain⟨a1,a2,a3⟩:=l2 m hmk hm2;refine⟨a1,by simp only[List.length_append,List.length_cons,List.length_nil];omega,?_⟩;rw[cU_,if_pos (by omega)];exact a3
     ·obtain rfl:m=k:=by omega
      rw[if_neg (by omega),if_pos (by omega)];refine⟨by omega,by simp only[List.length_append,List.length_cons,List.length_nil];omega,?_⟩;rw[cU_,if_neg (by simp),if_pos (by simp)]
    ·rw[cU_]
     by_cases hu2:u<kp.length
     ·rw[if_pos hu2];exact l3 u h0 hu2
     ·simp at h1;obtain rfl:u=kp.length:=by omega
      rw[if_neg hu2,if_pos rfl];dsimp only;have hne:=hup h0;rw[if_neg hne];exact hu hne
    ·rw[cU_]
     by_cases hz:0<kp.length
     ·rw[if_pos hz];exact l4 hz
     ·rw[if_neg hz,if_pos (by omega)];dsimp only;by_cases hne:(k:Int)=i0
      ·rw[if_pos hne];omega
      ·have:=hu hne;omega
    ·rw[cU_]
     by_cases hu2:u<kp.length
     ·rw[if_pos hu2];exact l6 u hu2
     ·simp at h;rw[if_neg hu2,if_pos (by omega)];exact⟨k,by omega,rfl⟩
   ·rw [if_neg ha]
    dsimp only;refine⟨by simp[l1],fun m hm hm2=>?_,l3,l4,fun h=>?_,l6,show kp.length≤k+1 by omega⟩
    ·by_cases hmk:m<k
     ·rw[gp_,if_pos (by omega)];exact l2 m hmk hm2
     ·obtain rfl:m=k:=by omega
      exact absurd hm2 ha
    ·obtain⟨m,h1,h2⟩:=l5 h;exact⟨m,by omega,h2⟩
theorem bG_.prune{t:List Nod}(ht:bG_ t){i0:Int}(h0:0≤i0)(h1:i0<t.length):bG_ (ce_ t i0).1:=by
 have h:=GL_ ht i0 t.length (Nat.le_refl _);have hs:=h.kept i0.toNat (by omega) (by rw[Int.toNat_of_nonneg h0];have:=iq_ ht (i:=i0.toNat) (by omega);rwa [Int.toNat_of_nonneg h0]at this);exact⟨h.up,by show 0<(av_ (bv_ t i0) ([],[]) t.length).1.length;omega,h.root (by omega)⟩
theorem nd_{t:List Nod}(ht:bG_ t){i0:Int}{r:Rt}(h:0≤af_ t r)(ha:bN_ t i0 (af_ t r)=true):0≤af_ (ce_ t i0).1 r:=by
 have h1:=GL_ ht i0 t.length (Nat.le_refl _);obtain⟨h2,h3⟩:=cn_ h;obtain⟨h4,h5,h6⟩:=h1.kept (af_ t r).toNat h2 (by rw[Int.toNat_of_nonneg h];exact ha);exact fO_ (k:=((av_ (bv_ t i0) ([],[]) t.length).2.getD (af_ t r).toNat 0).toNat) (by show _<(av_ (bv_ t i0) ([],[]) t.length).1.length;omega) (by show (nod (av_ (bv_ t i0) ([],[]) t.length).1 _).blk.root=r;rw[h6];exact h3)
theorem GN_{t:List Nod}(ht:bG_ t)(i0:Int):∀u:Nat,u<(ce_ t i0).1.length→∃m:Nat,m<t.length∧(nod (ce_ t i0).1 u).blk=(nod t m).blk:=(GL_ ht i0 t.length (Nat.le_refl _)).blks
theorem kX_{t:List Nod}(ht:bG_ t)(i0:Int):(ce_ t i0).1.length≤t.length:=(GL_ ht i0 t.length (Nat.le_refl _)).le
end Go.FH
namespace Go.Proofs.YtkgimpdgncakjaaGreat
open Go Go.FH Go.RowKit
set_option linter.unusedVariables false
set_option linter.unusedSimpArgs false
theorem CH_:Wk (.agg (ak_ eW_)) (.agg (ak_ fV_.a)):=by
 refine Wk.agg ?_;unfold eW_ fV_ ah_.a ak_;dsimp only;refine WkC.app ?_ ?_
 ·unfold nK_ bu_.a bn_;dsimp only;exact(WkC.refl _).app (.same _ (.same _ ((WkC.refl _).app ((WkC.refl _).app (.one (Wk.empty _ _ _) fun h=>h)))))
 ·exact .cons (Wk.empty _ _ _) (fun h=>h) (.cons (Wk.empty _ _ _) (fun h=>h) ((WkC.refl _).app ((WkC.refl _).app (.cons (Wk.empty _ _ _) (fun h=>h) (.cons (Wk.empty _ _ _) (fun h=>h) (.cons (Wk.empty _ _ _) (fun h=>h) (.same _ ((WkC.refl _).app (.one (Wk.empty _ _ _) fun h=>h)))))))))
def bC_(s:ah_)(b:Blk):Int:=
 if b.root=rt0 then 2 else if gL_ s b.root=true then 9 else if s.now<b.slot then 12 else if b.slot≤(bw_ s s.f.ep).1 then 13
 else if af_ s.nodes b.parent<0 then 10 else if b.slot≤(nod s.nodes (af_ s.nodes b.parent).toNat).blk.slot then 14
 else if (nod s.nodes (af_ s.nodes b.parent).toNat).status=2 then 15 else if qD_ s b=false then 16
 else if vj_ s.cfg.ttd (nod s.nodes (af_ s.nodes b.parent).toNat).blk b=false then 17 else if s.cfg.lim.node≤s.nodes.length then 11 else 0
def cm_(s:ah_)(a:aD_):Bool×Int:=
 if cd_ a.vals s.cfg.bals.length≠0 then (false,cd_ a.vals s.cfg.bals.length)
 else if a.target.ep≠aT_ s a.slot∨(a.target.ep≠aT_ s s.now∧(aT_ s s.now=0∨a.target.ep≠IntKind.u64.wrap (aT_ s s.now-1)))then (false,18)
 else if af_ s.nodes a.root<0∨af_ s.nodes a.target.rt<0 then (false,10)
 else if a.slot<(nod s.nodes (af_ s.nodes a.root).toNat).blk.slot then (false,14)
 else if atT s.nodes (af_ s.nodes a.root) (bw_ s a.target.ep).1≠af_ s.nodes a.target.rt then (false,19)
 else (decide (s.now≤a.slot),0)
def castIn(s:ah_)(a:aD_):ah_:=withL s (su_ s.latest a.target.ep a.root a.vals).1
def wit(n lo hi:Int):Bool:=decide (lo≤n)&&decide (n≤hi)
def eR_(c:bu_):Int:=
 if c.spe<1 then 3 else if 64<c.spe then 3 else if 100<c.boost then 3 else if 1024<(c.bals.length:Int)then 3 else if wit c.lim.node 1 4096=false then 3 else if wit c.lim.orph 0 64=false then 3
 else if wit c.lim.early 0 256=false then 3 else if wit c.lim.table 1 64=false then 3 else if wit c.lim.retry 0 256=false then 3 else if c.lim.backoff<1 then 3 else if 1048576<c.lim.backoff then 3
 else if c.gen=rt0 then 2 else dJ_ ⟨⟨0,c.gen⟩,c.bals⟩ c.bals.length
def xT_(r:Rt):Blk:=⟨⟨⟨0,r⟩,⟨0,r⟩⟩,0,r,rt0,rt0,wd0,wd0,⟨0,r⟩,⟨0,r⟩,false⟩
def dn_(c:bu_):ah_:=⟨c,List.replicate c.bals.length do_,[],⟨0,c.gen⟩,⟨0,c.gen⟩,[],[],[⟨xT_ c.gen,-1,1⟩],0,rt0,[⟨⟨0,c.gen⟩,c.bals⟩]⟩
def qQ_(c:bu_):ah_×Int:=if eR_ c=0 then (dn_ c,0)else (fV_,eR_ c)
def dM_(l:List aD_)(i:Nat):aD_:=l.getD i default
def tickA(s:ah_):ah_:=⟨s.cfg,s.latest,s.eqv,s.j,s.f,s.early,s.orph,s.nodes,IntKind.u64.wrap (s.now+1),rt0,s.tabs⟩
def tickB(s:ah_):ah_:=if IntKind.u64.wrap (Int.tmod s.now s.cfg.spe)=0 then ch_ s (ft_ s).j (ft_ s).f else s
def tickR(l:List aD_)(i:Nat)(s:ah_):ah_:=if s.now≤(dM_ l i).slot then withE s (s.early++[dM_ l i])else if (cm_ s (dM_ l i)).2=0 then castIn s (dM_ l i)else s
def tickC(s:ah_)(l:List aD_):ah_:=av_ (tickR l) (withE s []) l.length
def dF_(s:ah_):ah_×Int:=if 1099511627776≤s.now then (fV_,3)else (tickC (tickB (tickA s)) (tickB (tickA s)).early,0)
def gq_(s:ah_)(b:Blk):ah_:=
 if aT_ (ch_ (ck_ s (dQ_ s.nodes b (bA_ b)).1) b.just b.fin) b.slot<aT_ (ch_ (ck_ s (dQ_ s.nodes b (bA_ b)).1) b.just b.fin) (ch_ (ck_ s (dQ_ s.nodes b (bA_ b)).1) b.just b.fin).now
 then ch_ (ch_ (ck_ s (dQ_ s.nodes b (bA_ b)).1) b.just b.fin) b.pul.j b.pul.f else ch_ (ck_ s (dQ_ s.nodes b (bA_ b)).1) b.just b.fin
def waitR(p:ah_×List Rt):ah_×List Rt:=
 if bC_ (withO p.1 (takeO p.1.orph (by_ p.1).toNat)) (bF_ p.1.orph (by_ p.1).toNat)=0
 then (gq_ (withO p.1 (takeO p.1.orph (by_ p.1).toNat)) (bF_ p.1.orph (by_ p.1).toNat),p.2++[(bF_ p.1.orph (by_ p.1).toNat).root])
 else (withO p.1 (takeO p.1.orph (by_ p.1).toNat),p.2)
def waitG:Nat→ah_×List Rt→ah_×List Rt
 |0,p=>p
 |f+1,p=>if by_ p.1<0 then p else waitG f (waitR p)
def noT(b:Blk):Blk:=⟨b.pul,b.slot,b.root,b.parent,b.payload,b.diff,b.pdiff,b.just,b.fin,false⟩
def blockI(s:ah_)(b:Blk):ah_:=if b.timely=true∧b.slot=s.now∧s.boost=rt0 then withB (gq_ s b) b.root else gq_ s b
def co_(s:ah_)(b:Blk):ah_×List Rt×Int:=
 if bC_ s b=10 then (if s.cfg.lim.orph≤s.orph.length then (fV_,[],11)else (withO s (s.orph++[noT b]),[],0))
 else if bC_ s b≠0 then (fV_,[],bC_ s b)
 else ((waitG ((blockI s b).orph.length+1) (blockI s b,[b.root])).1,(waitG ((blockI s b).orph.length+1) (blockI s b,[b.root])).2,0)
def kH_(s:ah_)(a:aD_):ah_×Int:=
 if (cm_ s a).2≠0 then (fV_,(cm_ s a).2)else if (cm_ s a).1=false then (castIn s a,0)
 else if s.cfg.lim.early≤s.early.length then (fV_,11)else (withE s (s.early++[a]),0)
def ne_(s:ah_)(t:au_):ah_×Int:=
 if dJ_ t s.cfg.bals.length≠0 then (fV_,dJ_ t s.cfg.bals.length)else if t.cp.ep<s.j.ep then (fV_,13)
 else if (ep_ s.tabs t s.cfg.bals.length s.cfg.lim.table).2≠0 then (fV_,(ep_ s.tabs t s.cfg.bals.length s.cfg.lim.table).2)
 else (withT s (ep_ s.tabs t s.cfg.bals.length s.cfg.lim.table).1,0)
theorem kB_(s:ah_):PC Tryz.prog 70 [.agg (ak_ s.a)] (.int .i64 s.cfg.bals.length):=by
 refine PC.fact 3 pq_ (by simp) puA puA ?_;unfold iG_;refine bd ?_;try refine aa_ ?_
 exact ae_
def lC_(t:List Nod)(k:Nat):Pul×Bool:=av_ (vU_ t) (yb_,false) k
theorem Ic_(t:List Nod)(k:Nat):lC_ t (k+1)=vU_ t k (lC_ t k):=rfl
theorem Kn_(s:ah_)(hb:s.nodes.length≤1000000):PC Tryz.prog 44 [.agg (ak_ s.a)] (.agg (dh_ (ft_ s))):=by
 refine PC.fact 7 te_ (by simp) puA puA ?_;unfold lm_;refine bd ?_;show Tri _ _ _ _ (PQ _ (.agg (dh_ (lC_ s.nodes s.nodes.length).1))) _ _
 have hz:lC_ s.nodes 0=(yb_,false):=rfl;try refine aa_ ?_
 refine an_ (fun i:Nat=>[(4,.bool (lC_ s.nodes i).2),(5,.int .i64 i)]) (fun i=>[.var (ak_ s.a),.var (dh_ yb_),.var (dh_ (lC_ s.nodes i).1)]) (fun i=>s.nodes.length-i) (fun i=>i≤s.nodes.length) 0 (Nat.zero_le _) ?_ ?_
 ·rw[hz];exact SN_ [] [0,1,2]
 intro i hi;refine cJ_ ?_;by_cases h1:i<s.nodes.length
 ·have e1 := inT h1
  have hw:=ag_ h1 (by omega);have hgd:=bR_ h1;have hs:=Ic_ s.nodes i;generalize lC_ s.nodes i=p at *;obtain⟨⟨pj,pf⟩,sm⟩:=p;have hc:vU_ s.nodes i (⟨pj,pf⟩,sm)=if (nod s.nodes i).status=2 then (⟨pj,pf⟩,sm)else (⟨if sm=false∨pj.ep<(nod s.nodes i).blk.pul.j.ep then (nod s.nodes i).blk.pul.j else pj,if sm=false∨pf.ep<(nod s.nodes i).blk.pul.f.ep then (nod s.nodes i).blk.pul.f else pf⟩,true):=rfl
  by_cases h2:(nod s.nodes i).status=2
  ·have e2:((nod s.nodes i).status==2)=true:=by simp[h2]
   rw[if_pos h2]at hc;repeat(first|refine aa_ ?_|simp only[go_sem,e1])
   refine ac_ ?_;repeat(first|refine aa_ ?_|simp only[go_sem,hgd,e2])
   refine ac_ ?_;repeat(first|refine aa_ ?_|simp only[go_sem,hw])
   refine⟨i+1,h1,by omega,?_⟩;rw[hs,hc];exact SN_ [] [0,1,2]
  ·have e2:((nod s.nodes i).status==2)=false:=by simp[h2]
   rw[if_neg h2]at hc;repeat(first|refine aa_ ?_|simp only[go_sem,e1])
   refine ac_ ?_;repeat(first|refine aa_ ?_|simp only[go_sem,hgd,e2])
   refine ab_ ?_;cases sm with
   | false =>
     rw[if_pos (.inl rfl),if_pos (.inl rfl)]at hc;try refine aa_ ?_
     refine Ri_ ?_
     refine ac_ ?_;repeat(first|refine aa_ ?_|simp only[go_sem,hw])
     refine⟨i+1,h1,by omega,?_⟩;rw[hs,hc];exact SN_ [] [0,1,2]
   | true =>
     by_cases q1:pj.ep<(nod s.nodes i).blk.pul.j.ep
     ·have k1:decide ((nod s.nodes i).blk.pul.j.ep > pj.ep)=true:=decide_eq_true q1
      have k1':decide (pj.ep<(nod s.nodes i).blk.pul.j.ep)=true:=decide_eq_true q1;rw[if_pos (.inr q1)]at hc;by_cases q2:pf.ep<(nod s.nodes i).blk.pul.f.ep
      ·have k2:decide ((nod s.nodes i).blk.pul.f.ep > pf.ep)=true:=decide_eq_true q2;have k2':decide (pf.ep<(nod s.nodes i).blk.pul.f.ep)=true:=decide_eq_true q2;rw[if_pos (.inr q2)]at hc;repeat(first|refine aa_ ?_|simp only[go_sem,k1,k1'])
       refine ac_ ?_;repeat(first|refine aa_ ?_|simp only[go_sem,k2,k2'])
       refine ac_ ?_;repeat(first|refine aa_ ?_|simp only[go_sem,hw])
       refine⟨i+1,h1,by omega,?_⟩;rw[hs,hc];exact SN_ [] [0,1,2]
      ·have k2:decide ((nod s.nodes i).blk.pul.f.ep > pf.ep)=false:=decide_eq_false q2;have k2':decide (pf.ep<(nod s.nodes i).blk.pul.f.ep)=false:=decide_eq_false q2;rw[if_neg (by simp[q2])]at hc;repeat(first|refine aa_ ?_|simp only[go_sem,k1,k1'])
       refine ac_ ?_;repeat(first|refine aa_ ?_|simp only[go_sem,k2,k2'])
       refine ab_ ?_;repeat(first|refine aa_ ?_|simp only[go_sem,hw])
       refine⟨i+1,h1,by omega,?_⟩;rw[hs,hc];exact SN_ [] [0,1,2]
     ·have k1:decide ((nod s.nodes i).blk.pul.j.ep > pj.ep)=false:=decide_eq_false q1
      have k1':decide (pj.ep<(nod s.nodes i).blk.pul.j.ep)=false:=decide_eq_false q1;rw[if_neg (by simp[q1])]at hc;by_cases q2:pf.ep<(nod s.nodes i).blk.pul.f.ep
      ·have k2:decide ((nod s.nodes i).blk.pul.f.ep > pf.ep)=true:=decide_eq_true q2;have k2':decide (pf.ep<(nod s.nodes i).blk.pul.f.ep)=true:=decide_eq_true q2;rw[if_pos (.inr q2)]at hc;repeat(first|refine aa_ ?_|simp only[go_sem,k1,k1'])
       refine ab_ ?_;repeat(first|refine aa_ ?_|simp only[go_sem,k2,k2'])
       refine ac_ ?_;repeat(first|refine aa_ ?_|simp only[go_sem,hw])
       refine⟨i+1,h1,by omega,?_⟩;rw[hs,hc];exact SN_ [] [0,1,2]
      ·have k2:decide ((nod s.nodes i).blk.pul.f.ep > pf.ep)=false:=decide_eq_false q2;have k2':decide (pf.ep<(nod s.nodes i).blk.pul.f.ep)=false:=decide_eq_false q2;rw[if_neg (by simp[q2])]at hc;repeat(first|refine aa_ ?_|simp only[go_sem,k1,k1'])
       refine ab_ ?_;repeat(first|refine aa_ ?_|simp only[go_sem,k2,k2'])
       refine ab_ ?_;repeat(first|refine aa_ ?_|simp only[go_sem,hw])
       refine⟨i+1,h1,by omega,?_⟩;rw[hs,hc];exact SN_ [] [0,1,2]
 ·obtain rfl:i=s.nodes.length:=by omega
  have e1:=inF (s.nodes.length);repeat(first|refine aa_ ?_|simp only[go_sem,e1])
  refine Rh_ ?_
  exact ae_
theorem Gs_(s:ah_)(r:Rt)(h:StR s):PC Tryz.prog 153 [.agg (ak_ s.a),.agg (rtc r)] (.bool (gL_ s r)):=by
 refine PC.fact 6 xz_ (by simp) puA puA ?_;unfold ov_;refine bd ?_;have c1:=bg_ s.nodes r h.bn;have hb:=h.bo;unfold gL_;try refine aa_ ?_
 generalize hR:((bD_ (fun i=>decide ((bF_ s.orph i).root=r)) s.orph.length).isSome || decide (0≤af_ s.nodes r))=R;refine an_ (fun i:Nat=>[(5,.int .i64 i)]) (fun _=>[.var (ak_ s.a),.var (rtc r)]) (fun i=>s.orph.length-i) (fun i=>i≤s.orph.length∧R=((dV_ (fun i=>decide ((bF_ s.orph i).root=r)) (s.orph.length-i) i).isSome || decide (0≤af_ s.nodes r))) 0 ⟨Nat.zero_le _,hR.symm⟩ ?_ ?_
 ·exact SN_ [] [0,1]
 clear hR;rintro i ⟨hi,hn⟩;rw[hn];refine cJ_ ?_;by_cases h1:i<s.orph.length
 ·have e1:=inT h1
  have hw:=ag_ h1 (by omega);have hgd:(rows ap_ s.orph).getD i []=ap_ (bF_ s.orph i):=aA_ (f:=ap_) cF_ h1;repeat(first|refine aa_ ?_|simp only[go_sem,e1])
  refine ac_ ?_;repeat(first|refine aa_ ?_|simp only[go_sem,hgd])
  refine aW_ (fun h=>?_) (fun h=>?_)
  ·rw[fD_ h1 h];try refine aa_ ?_
   exact ae_
  ·rw[fC_ h1 h];repeat(first|refine aa_ ?_|simp only[go_sem,hw])
   refine⟨i+1,⟨h1,rfl⟩,by omega,?_⟩;exact SN_ [] [0,1]
 ·obtain rfl:i=s.orph.length:=by omega
  have e1:=inF (s.orph.length);rw[fB_];repeat(first|refine aa_ ?_|simp only[go_sem,e1])
  refine Rh_ ?_
  refine So_ c1 ?_
  exact ae_
end Go.Proofs.YtkgimpdgncakjaaGreat
namespace Go.FH
set_option linter.unusedVariables false
set_option linter.unusedSimpArgs false
open Go Go.RowKit
theorem kS_{t:List Nod}{i:Int}:isN t i=true↔0≤i∧i<t.length:=by simp[isN]
theorem Gj_{t:List Nod}{i:Int}:isN t i=false↔¬ (0≤i∧i<t.length):=by rw[←kS_];simp
theorem LJ_{t:List Nod}{i:Int}(slot:Int)(h:isN t i=false):atT t i slot=-1:=by unfold atT;rw[gV_ h];rfl
theorem Ek_{t:List Nod}(ht:bG_ t){i:Nat}(hi:i<t.length):bc_ t i=bc_ t (nod t i).up++[(i:Int)]:=by
 rcases Nat.eq_zero_or_pos i with h|h
 ·subst h;have:=ht.root;rw[gV_ (i:=(nod t 0).up) (by rw[Gj_];omega)];exact eS_ hi
 ·exact eT_ ht.ok h hi
theorem QE_{t:List Nod}(ht:bG_ t){i:Nat}(hi:i<t.length)(slot:Int):atT t i slot=if (nod t i).blk.slot≤slot then (i:Int)else atT t (nod t i).up slot:=by
 unfold atT;rw[Ek_ ht hi];generalize bc_ t (nod t i).up=p;have hg:(p++[(i:Int)]).getD p.length 0=i:=by rw[gp_,if_neg (Nat.lt_irrefl _),if_pos rfl]
 rw[List.length_append,List.length_singleton,bi_];simp only[hg,Int.toNat_natCast];split
 ·rfl
 ·refine lb_ fun k x hk=>?_
  rw[gp_,if_pos hk]
theorem Ax_{t:List Nod}(ht:bG_ t){a b:Int}(h:isN t a=false∨isN t b=false):bN_ t a b=false:=by
 unfold bN_;rw[decide_eq_false_iff_not];intro hm;rcases h with h|h
 ·have:=dv_ ht.ok hm;rw[Gj_]at h;omega
 ·rw[gV_ h]at hm;cases hm
theorem CS_{t:List Nod}(ht:bG_ t){a:Int}{b:Nat}(hb:b<t.length)(hab:a≠b):bN_ t a b=bN_ t a (nod t b).up:=by
 unfold bN_;rw[Ek_ ht hb];simp[hab]
theorem LF_{t:List Nod}(ht:bG_ t){a:Int}{b:Nat}(hb:b<t.length)(hab:(b:Int)≤a):bN_ t a b=decide (a=b):=by
 by_cases h:a=b
 ·rw[decide_eq_true h,h];exact iq_ ht hb
 ·rw[decide_eq_false h];unfold bN_;rw[decide_eq_false_iff_not];intro hm;have:=dv_ ht.ok hm;omega
theorem Ie_{t:List Nod}(ht:bG_ t)(i0:Int):∀k,k≤t.length→∀m:Nat,m<k→bN_ t i0 m=false→(av_ (bv_ t i0) ([],[]) k).2.getD m 0=-1
 |0,_,m,hm,_=>by omega
 | k + 1, hk, m, hm, ha => by
   have ih:=Ie_ ht i0 k (by omega);have hl:=(GL_ ht i0 k (by omega)).len;rw[bi_];generalize av_ (bv_ t i0) ([],[]) k=p at *;unfold bv_;by_cases hmk:m<k
   ·split
    ·rw[gp_,if_pos (by omega)];exact ih m hmk ha
    ·rw[gp_,if_pos (by omega)];exact ih m hmk ha
   ·obtain rfl:m=k:=by omega
    rw[if_neg (by rw[ha];simp)];rw[gp_,if_neg (by omega),if_pos (by omega)]
def upP(t:List Nod)(i0:Int)(k:Nat)(ix:List Int):Int:=if (k:Int)≠i0∧0≤(nod t k).up then ix.getD (nod t k).up.toNat 0 else -1
theorem Rj_{t:List Nod}(ht:bG_ t)(i0:Int){k:Nat}(hk:k<t.length):bN_ t i0 k=decide ((k:Int)=i0∨0≤upP t i0 k (av_ (bv_ t i0) ([],[]) k).2)∧
 (bN_ t i0 k=true→upP t i0 k (av_ (bv_ t i0) ([],[]) k).2=if (k:Int)=i0 then -1 else (av_ (bv_ t i0) ([],[]) k).2.getD (nod t k).up.toNat 0):=by
 have h1:=GL_ ht i0 k (by omega);have h2:=Ie_ ht i0 k (by omega);generalize av_ (bv_ t i0) ([],[]) k=p at *;unfold upP;by_cases hki:(k:Int)=i0
 ·have hs:=iq_ ht hk;rw[hki]at hs;simp[hki,hs]
 ·rw [CS_ ht hk (fun h => hki h.symm)]
  by_cases hu:0≤(nod t k).up
  ·have hlt:(nod t k).up<k:=by
    rcases Nat.eq_zero_or_pos k with h|h
    ·subst h;have:=ht.root;omega
    ·exact(ht.ok k h hk).2
   have hc:((nod t k).up.toNat:Int)=(nod t k).up:=Int.toNat_of_nonneg hu;have hn:=h2 (nod t k).up.toNat (by omega);have hy:=h1.kept (nod t k).up.toNat (by omega);rw[hc]at hn hy;have hy1:=fun h=>(hy h).1
   clear hy;generalize p.2.getD (nod t k).up.toNat 0=q at *;cases ha:bN_ t i0 (nod t k).up with
   |true=>have:=hy1 ha;simp[hki,hu,this]
   |false=>have:=hn ha;simp[hki,hu,this]
  ·rw[Ax_ ht (.inr (by rw[Gj_];omega))];simp[hki,hu]
end Go.FH
namespace Go.FH
open Go Go.RowKit
set_option linter.unusedVariables false
set_option linter.unusedSimpArgs false
def mrt(l:List Rt):List (List AV):=l.map fun r=>[.agg (rtc r),.bool true]
theorem Gx_(l:List Rt):(mrt l).length=l.length:=by simp[mrt]
theorem DY_(r:Rt):kt_ (some 32) (.agg (rtc r))=true:=by
 simp only[kt_];exact DC_ r
theorem vN_(r:Rt):∀l:List Rt,lM_ (some 32) (.agg (rtc r)) (mrt l)=some (l.findIdx? fun x=>decide (r=x))
 | []=>rfl
 | a :: m => by
   have ih:=vN_ r m;simp only[mrt,List.map_cons,lM_,DY_,if_true,keq,hc_]at ih ⊢;rw[ih,List.findIdx?_cons];by_cases h:r=a
   ·simp[h]
   ·simp[h]
theorem rR_{r:Rt}{l:List Rt}(h:r∉l):lM_ (some 32) (.agg (rtc r)) (mrt l)=some none:=by
 rw[vN_,List.findIdx?_eq_none_iff.2 fun x hx=>by simp;rintro rfl;exact h hx]
theorem ny_{r:Rt}{l:List Rt}(h:r∈l):∃j,lM_ (some 32) (.agg (rtc r)) (mrt l)=some (some j)∧((mrt l).getD j []).getD 1 .dead=.bool true∧(mrt l).set j [.agg (rtc r),.bool true]=mrt l:=by
 rw[vN_];cases hf:l.findIdx? fun x=>decide (r=x)with
 | none =>
   rw[List.findIdx?_eq_none_iff]at hf;have:=hf r h;simp at this
 | some j =>
   obtain⟨hj,h1,_⟩:=List.findIdx?_eq_some_iff_getElem.1 hf;have h1:r=l[j]:=by simpa using h1
   refine⟨j,rfl,?_,?_⟩
   ·simp[mrt,List.getD_eq_getElem?_getD,hj]
   ·apply List.ext_getElem
    ·simp
    ·intro i h2 h3;rw[List.getElem_set];split
     ·rename_i h4;subst h4;simp[mrt,←h1]
     ·rfl
theorem MQ_(l:List Rt)(r:Rt):mrt l++[[.agg (rtc r),.bool true]]=mrt (l++[r]):=by simp[mrt]
theorem CJ_(l:List Rt):dH_ (mrt l):=by
 rw[lQ_];intro x hx;obtain⟨p,_,rfl⟩:=List.mem_map.1 hx;exact⟨cw_ p,trivial,trivial⟩
theorem KA_(ρ:Nat→Nat)(l:List Rt):cg_ ρ (mrt l)=mrt l:=(CJ_ l).ren ρ
theorem Mt_(σ:St)(zs:List Nat)(l:List Rt):eQ_ σ zs (mrt l)=mrt l:=(CJ_ l).fz σ zs
attribute [go_sem] Gx_ DY_ KA_ Mt_ MQ_
def frE(f:Nat→Int):Nat→Nat→Int
 |0,_=>0
 |k+1,i=>if f i≠0 then f i else frE f k (i+1)
theorem oS_{f:Nat→Int}{n i:Nat}(hi:i<n)(h:f i≠0):frE f (n-i) i=f i:=by
 obtain⟨k,hk⟩:∃k,n-i=k+1:=⟨n-i-1,by omega⟩
 rw[hk,frE,if_pos h]
theorem oR_{f:Nat→Int}{n i:Nat}(hi:i<n)(h:f i=0):frE f (n-i) i=frE f (n-(i+1)) (i+1):=by
 obtain⟨k,hk⟩:∃k,n-i=k+1:=⟨n-i-1,by omega⟩
 rw[hk,frE,if_neg (by simp[h]),show n-(i+1)=k by omega]
theorem oQ_(f:Nat→Int)(n:Nat):frE f (n-n) n=0:=by rw[Nat.sub_self];rfl
theorem oP_{f:Nat→Int}:∀ {k i:Nat},frE f k i=0↔∀j,i≤j→j<i+k→f j=0
 |0,i=>by simp[frE];intro j h1 h2;omega
 | k + 1, i => by
   rw[frE];by_cases h:f i=0
   ·rw[if_neg (by simp[h]),oP_]
    constructor
    ·intro h2 j h3 h4;by_cases hj:j=i
     ·rw[hj,h]
     ·exact h2 j (by omega) (by omega)
    ·exact fun h2 j h3 h4=>h2 j (by omega) (by omega)
   ·rw[if_pos h];exact⟨fun h2=>absurd h2 h,fun h2=>h2 i (Nat.le_refl _) (by omega)⟩
def pK_(t:List Nod)(i:Nat):Int:=
 if ¬ (0≤(nod t i).status∧(nod t i).status≤2)then 2 else if i=0∧(nod t i).up≠-1 then 2 else if 0<i∧((nod t i).up<0∨(i:Int)≤(nod t i).up)then 2
 else if (nod t i).blk.root∈(t.take i).map (·.blk.root)then 9 else if i=0 then 0
 else if (nod t i).blk.parent≠(nod t (nod t i).up.toNat).blk.root then 10 else if (nod t i).blk.slot≤(nod t (nod t i).up.toNat).blk.slot then 14 else 0
def hX_(t:List Nod):Int:=if t.length=0∨4096<t.length then 11 else frE (pK_ t) (t.length-0) 0
def tJ_(t:List Nod)(i:Nat):Int:=
 if ((nod t (i+1)).status=1∧(nod t (nod t (i+1)).up.toNat).status≠1)∨((nod t (nod t (i+1)).up.toNat).status=2∧(nod t (i+1)).status≠2)then 15 else 0
def statV(t:List Nod):Int:=if hX_ t≠0 then hX_ t else frE (tJ_ t) (t.length-1-0) 0
theorem ri_{t:List Nod}(h:hX_ t=0):bG_ t∧t.length≤4096:=by
 unfold hX_ at h;split at h
 ·cases h
 rename_i h1;have h2:=oP_.1 h
 have key:∀i,i<t.length→¬ (i=0∧(nod t i).up≠-1)∧¬ (0<i∧((nod t i).up<0∨(i:Int)≤(nod t i).up)):=fun i hi=>by
  have:=h2 i (Nat.zero_le _) (by omega);unfold pK_ at this;split at this
  ·cases this
  ·split at this
   ·cases this
   ·split at this
    ·cases this
    ·rename_i h3 h4;exact⟨h3,h4⟩
 refine⟨⟨fun i h0 hi=>?_,by omega,?_⟩,by omega⟩
 ·have:=(key i hi).2;omega
 ·have:=(key 0 (by omega)).1;omega
end Go.FH
