/-
 My texts Jf, Lk, Ll, Lm, Ln, Jg, Lo, Lp, joined.
-/
import Derived.Test.YtipiipgpnkpejaaGreatW3
import Derived.Test.YtipiipgpnkpejaaGreatV4
import Derived.Test.YtipiipgpnkpejaaGreatW6
import Derived.Test.YtipiipgpnkpejaaGreatW9
namespace Go.FH
set_option linter.unusedVariables false
open Go Go.RowKit
structure dB_(t:List Nod):Prop where
 ok:cK_ t
 pos:0<t.length
 root:(nod t 0).up<0
theorem ef_{t:List Nod}(ht:dB_ t){i x:Int}(hx:x∈gl_ t i):i<x∧0≤x∧x<t.length∧(nod t x.toNat).up=i:=by
 unfold gl_ at hx;split at hx
 ·rename_i hi
  simp[isN]at hi
  have:=hf_ (f:=fun k l=>if (nod t k).up=i then l++[(k:Int)]else l) (a:=([]:List Int)) (fun k l=>∀x∈l,0≤x∧x<k∧(nod t x.toNat).up=i) (by simp) t.length (fun k l hk h x hx=>by
   split at hx
   ·rename_i he;rw[List.mem_append,List.mem_singleton]at hx;rcases hx with hx|hx
    ·obtain⟨h1,h2,h3⟩:=h x hx;exact⟨h1,by omega,h3⟩
    ·subst hx;exact⟨by omega,by omega,by simpa using he⟩
   ·obtain⟨h1,h2,h3⟩:=h x hx;exact⟨h1,by omega,h3⟩) t.length (Nat.le_refl _) x hx
  obtain⟨h1,h2,h3⟩:=this;refine⟨?_,h1,h2,h3⟩;obtain⟨u,rfl⟩:∃u:Nat,x=u:=⟨_,(Int.toNat_of_nonneg h1).symm⟩
  simp only[Int.toNat_natCast]at h3;by_cases h0:u=0
  ·subst h0;have:=ht.root;omega
  ·obtain⟨h4,h5⟩:=ht.ok u (by omega) (by omega);omega
 ·simp at hx
theorem Af_(t:List Nod)(i:Int):(gl_ t i).length≤t.length:=by
 unfold gl_;split
 ·have:=hg_ (f:=fun k l=>if (nod t k).up=i then l++[(k:Int)]else l) (a:=([]:List Int)) (fun k l=>by split<;>simp) t.length;simpa using this
 ·simp
def bP_(s:al_)(slot:Int):Int:=IntKind.u64.wrap (Int.tdiv slot s.cfg.spe)
def nP_(s:al_)(i:Int):Cp:=if isN s.nodes i=true then (if bP_ s (nod s.nodes i.toNat).blk.slot<bP_ s s.now then (nod s.nodes i.toNat).blk.pul.j else (nod s.nodes i.toNat).blk.just)else cp0
def wy_(s:al_)(i:Int):Bool:=isN s.nodes i&&decide ((nod s.nodes i.toNat).status≠2)&&(decide (s.j.ep=0) || decide ((nP_ s i).ep=s.j.ep) || decide (bP_ s s.now≤(nP_ s i).ep) || decide (IntKind.u64.wrap (bP_ s s.now-(nP_ s i).ep)≤2))
def tn_(s:al_):Nat→Int→Bool
 |0,_=>false
 |f+1,i=>wy_ s i || (gl_ s.nodes i).any (tn_ s f)
theorem re_{s:al_}(ht:dB_ s.nodes):∀ (n f g:Nat) (i:Int),(s.nodes.length:Int)-i<n→n≤f→n≤g→tn_ s f i=tn_ s g i
 | 0, f, g, i, h, _, _ => by
   have hn:isN s.nodes i=false:=by simp[isN];omega
   have hk:∀f,tn_ s f i=false:=fun f=>by
    cases f with
    |zero=>rfl
    |succ f=>simp[tn_,wy_,gl_,hn]
   rw[hk,hk]
 | n + 1, f + 1, g + 1, i, h, h1, h2 => by
   simp only[tn_];congr 1;rw[Bool.eq_iff_iff,List.any_eq_true,List.any_eq_true];constructor
   ·rintro⟨x,hx,h3⟩;have:=ef_ ht hx;exact⟨x,hx,by rw[←re_ ht n f g x (by omega) (by omega) (by omega)];exact h3⟩
   ·rintro⟨x,hx,h3⟩;have:=ef_ ht hx;exact⟨x,hx,by rw[re_ ht n f g x (by omega) (by omega) (by omega)];exact h3⟩
def hm_(s:al_)(i:Int):Bool:=tn_ s (s.nodes.length+2) i
theorem MH_{s:al_}(ht:dB_ s.nodes)(i:Int)(h0:-1≤i):hm_ s i=(wy_ s i || (gl_ s.nodes i).any (hm_ s)):=by
 show (wy_ s i || (gl_ s.nodes i).any (tn_ s (s.nodes.length+1)))=_
 congr 1;rw[Bool.eq_iff_iff,List.any_eq_true,List.any_eq_true];constructor
 ·rintro⟨x,hx,h3⟩;have:=ef_ ht hx;exact⟨x,hx,by unfold hm_;rw[←re_ ht (s.nodes.length+1) (s.nodes.length+1) (s.nodes.length+2) x (by omega) (by omega) (by omega)];exact h3⟩
 ·rintro⟨x,hx,h3⟩;have:=ef_ ht hx;exact⟨x,hx,by unfold hm_ at h3;rw[re_ ht (s.nodes.length+1) (s.nodes.length+1) (s.nodes.length+2) x (by omega) (by omega) (by omega)];exact h3⟩
def wk_(s:al_)(i:Nat)(l:List Bool):List Bool:=l++[hm_ s i]
def wl_(s:al_):List Bool:=aK_ (wk_ s) [] s.nodes.length
theorem nE_(s:al_):∀n,(aK_ (wk_ s) [] n).length=n
 |0=>rfl
 |n+1=>by rw[bT_];unfold wk_;simp;exact nE_ s n
def Gf_(s:al_):List Int:=if dp_ s.tabs s.j<0 then []else (tab s.tabs (dp_ s.tabs s.j).toNat).bals
def hh_(s:al_):List Int:=RM_ s.nodes (kj_ s.nodes (uC_ s.nodes s.latest s.eqv (Gf_ s)) s.boost (pV_ s.cfg.spe s.cfg.boost (zm_ (Gf_ s)).1).1)
def lx_(t:List Nod)(w:List Int)(a:List Bool)(l:List Int)(k:Nat)(best:Int):Int:=
 if a.getD (l.getD k 0).toNat false=true∧(best<0∨w.getD best.toNat 0<w.getD (l.getD k 0).toNat 0∨(w.getD (l.getD k 0).toNat 0=w.getD best.toNat 0∧0<JA_ (nod t (l.getD k 0).toNat).blk.root (nod t best.toNat).blk.root))then l.getD k 0 else best
def if_(t:List Nod)(w:List Int)(a:List Bool)(i:Int):Int:=aK_ (lx_ t w a (gl_ t i)) (-1) (gl_ t i).length
theorem pY_(t:List Nod)(w:List Int)(a:List Bool)(l:List Int):∀n,n≤l.length→aK_ (lx_ t w a l) (-1) n=-1∨aK_ (lx_ t w a l) (-1) n∈l
 |0,_=>.inl rfl
 | n + 1, h => by
   rw[bT_];have:=pY_ t w a l n (by omega);generalize aK_ (lx_ t w a l) (-1) n=b at *;unfold lx_;split
   ·right;rw[List.getD_eq_getElem?_getD,List.getElem?_eq_getElem (show n<l.length by omega)];exact List.getElem_mem _
   ·exact this
def qX_(t:List Nod)(w:List Int)(a:List Bool):Nat→Int→Int
 |0,i=>i
 |f+1,i=>if if_ t w a i<0 then i else qX_ t w a f (if_ t w a i)
theorem Ey_{t:List Nod}(ht:dB_ t)(w:List Int)(a:List Bool):∀ (f:Nat) (i:Int),i<t.length→i≤qX_ t w a f i∧qX_ t w a f i<t.length
 |0,i,h=>⟨Int.le_refl _,h⟩
 | f + 1, i, h => by
   unfold qX_;split
   ·exact⟨Int.le_refl _,h⟩
   ·rename_i hb
    rcases pY_ t w a (gl_ t i) _ (Nat.le_refl _)with h1|h1
    ·exact absurd (show if_ t w a i<0 by unfold if_;rw[h1];decide) hb
    ·have h2:=ef_ ht h1;have h3:=Ey_ ht w a f (if_ t w a i) h2.2.2.1;have h4:i<if_ t w a i:=h2.1;exact⟨by omega,h3.2⟩
theorem LI_{t:List Nod}(ht:dB_ t)(w:List Int)(a:List Bool)(i:Int):if_ t w a i=-1∨(i<if_ t w a i∧0≤if_ t w a i∧if_ t w a i<t.length):=by
 rcases pY_ t w a (gl_ t i) _ (Nat.le_refl _)with h1|h1
 ·exact .inl h1
 ·have h2:=ef_ ht h1;exact .inr ⟨h2.1,h2.2.1,h2.2.2.1⟩
def vV_(s:al_):Int:=qX_ s.nodes (hh_ s) (wl_ s) (s.nodes.length+1) (av_ s.nodes s.j.rt)
def da_(s:al_)(e:Int):Int×Bool:=((sN_ e s.cfg.spe).1,decide ((sN_ e s.cfg.spe).2=0))
def Pj_(s:al_)(b:Blk):Bool:=decide (b.fin.ep≤b.just.ep)&&decide (b.just.ep≤b.pul.j.ep)&&decide (b.fin.ep≤b.pul.f.ep)&&decide (b.pul.f.ep≤b.pul.j.ep)&&decide (b.pul.j.ep≤bP_ s b.slot)
def pz_(s:al_)(b:Blk)(p:Int)(c:Cp):Bool:=decide (c.ep≤s.f.ep) || (if (da_ s c.ep).1<b.slot then decide (0≤atT s.nodes p (da_ s c.ep).1)&&decide ((nod s.nodes (atT s.nodes p (da_ s c.ep).1).toNat).blk.root=c.rt)else decide (b.root=c.rt))
def cps(b:Blk):List Cp:=[b.just,b.fin,b.pul.j,b.pul.f]
def HZ_(s:al_)(b:Blk):Bool:=decide (0≤av_ s.nodes b.parent)&&(Pj_ s b&&(jV_ (fun k=>!pz_ s b (av_ s.nodes b.parent) ((cps b).getD k cp0)) 4).isNone)
def rU_(s:al_)(i e:Int):Bool:=!(da_ s e).2 || decide ((nod s.nodes i.toNat).blk.slot≤(da_ s e).1)
def eV_(a b:Cp):Cp:=if a.ep<b.ep then b else a
def yJ_(s:al_)(a b:Cp):Bool:=
 decide (0≤av_ s.nodes a.rt)&&decide (0≤av_ s.nodes b.rt)&&decide ((nod s.nodes (av_ s.nodes a.rt).toNat).status≠2)&&decide ((nod s.nodes (av_ s.nodes b.rt).toNat).status≠2)
 && rU_ s (av_ s.nodes a.rt) a.ep&&rU_ s (av_ s.nodes b.rt) b.ep&&fE_ s.nodes (av_ s.nodes b.rt) (av_ s.nodes a.rt)&&decide (b.ep≤a.ep)&&decide (a.ep≤bP_ s s.now)&&decide (0≤dp_ s.tabs a)
def qZ_(l:List Blk)(a:Int)(i:Nat)(o:List Blk):List Blk:=if a<(l.getD i bj_).slot then o++[l.getD i bj_]else o
def cW_(s:al_)(j f:Cp):al_:=
 if yJ_ s (eV_ s.j j) (eV_ s.f f)=false then s
 else if eV_ s.f f=s.f then ⟨s.cfg,s.latest,s.eqv,eV_ s.j j,eV_ s.f f,s.early,s.orph,s.nodes,s.now,s.boost,fS_ s.tabs (eV_ s.j j).ep⟩
 else ⟨s.cfg,s.latest,s.eqv,eV_ s.j j,eV_ s.f f,s.early,aK_ (qZ_ s.orph (da_ s (eV_ s.f f).ep).1) [] s.orph.length,(iQ_ s.nodes (av_ s.nodes (eV_ s.f f).rt)).1,s.now,
  if av_ (iQ_ s.nodes (av_ s.nodes (eV_ s.f f).rt)).1 s.boost<0 then rt0 else s.boost,fS_ s.tabs (eV_ s.j j).ep⟩
def Ar_(t:List Nod)(i:Nat)(p:Pul×Bool):Pul×Bool:=
 if (nod t i).status=2 then p else (⟨if p.2=false∨p.1.j.ep<(nod t i).blk.pul.j.ep then (nod t i).blk.pul.j else p.1.j,if p.2=false∨p.1.f.ep<(nod t i).blk.pul.f.ep then (nod t i).blk.pul.f else p.1.f⟩,true)
def ri_(s:al_):Pul:=(aK_ (Ar_ s.nodes) (ug_,false) s.nodes.length).1
def eS_(l:List Blk)(i:Nat):Blk:=l.getD i bj_
def pC_(s:al_)(r:Rt):Bool:=(jV_ (fun i=>decide ((eS_ s.orph i).root=r)) s.orph.length).isSome || decide (0≤av_ s.nodes r)
end Go.FH
namespace Go.Proofs.YtipiipgpnkpejaaGreat
open Go Go.FH Go.RowKit
set_option linter.unusedVariables false
set_option linter.unusedSimpArgs false
theorem dM_(s:al_)(n:Int)(h0:s.cfg.spe≠0):PC Tryz.prog 172 [.agg (ao_ s.a),.int .u64 n] (.int .u64 (bP_ s n)):=by
 refine PC.fact 5 ym_ (by simp) puA puA ?_;unfold oF_;refine bd ?_;have e0:(s.cfg.spe==0)=false:=by simpa using h0
 unfold bP_;repeat(first|refine aa_ ?_|simp only[go_sem,e0,h0])
 exact ah_
theorem EB_(s:al_)(n:Int):PC Tryz.prog 211 [.agg (ao_ s.a),.int .i64 n] (.bool (isN s.nodes n)):=by
 refine PC.fact 5 Gz_ (by simp) puA puA ?_;unfold vd_;refine bd ?_;unfold isN;by_cases h0:0≤n
 ·have e0:decide (n ≥ 0)=true:=decide_eq_true h0;have e1:decide (0≤n)=true:=decide_eq_true h0;repeat(first|refine aa_ ?_|simp only[go_sem,e0,e1])
  exact ah_
 ·have e0:decide (n ≥ 0)=false:=decide_eq_false h0;have e1:decide (0≤n)=false:=decide_eq_false h0;repeat(first|refine aa_ ?_|simp only[go_sem,e0,e1])
  exact ah_
theorem Fy_(s:al_)(n:Int)(h0:s.cfg.spe≠0):PC Tryz.prog 212 [.agg (ao_ s.a),.int .i64 n] (.agg (cpC (nP_ s n))):=by
 refine PC.fact 6 vz_ (by simp) puA puA ?_;unfold mr_;refine bd ?_;have c1:=EB_ s n;have c2:=dM_ s (nod s.nodes n.toNat).blk.slot h0;have c3:=dM_ s s.now h0;unfold nP_;try refine aa_ ?_
 refine ae_ c1 ?_;cases h1:isN s.nodes n with
 | false =>
   rw[if_neg (by simp)];try refine aa_ ?_
   refine Rf_ ?_
   exact ah_
 | true =>
   rw[if_pos rfl];have h2:=h1;simp[isN]at h2;have hgd:=bQ_ (t:=s.nodes) (i:=n.toNat) (by omega);try refine aa_ ?_
   refine ab_ ?_;repeat(first|refine aa_ ?_|simp only[go_sem,hgd])
   refine ay_ (c2) ?_;try refine aa_ ?_
   refine ay_ (c3) ?_;try refine aa_ ?_
   by_cases h3:bP_ s (nod s.nodes n.toNat).blk.slot<bP_ s s.now
   ·rw[if_pos h3];have e3:decide (bP_ s (nod s.nodes n.toNat).blk.slot<bP_ s s.now)=true:=decide_eq_true h3;repeat(first|refine aa_ ?_|simp only[go_sem,e3])
    refine Rf_ ?_
    exact ah_
   ·rw[if_neg h3];have e3:decide (bP_ s (nod s.nodes n.toNat).blk.slot<bP_ s s.now)=false:=decide_eq_false h3;repeat(first|refine aa_ ?_|simp only[go_sem,e3])
    refine Re_ ?_
    exact ah_
theorem Kr_(s:al_)(n:Int)(h0:s.cfg.spe≠0):PC Tryz.prog 207 [.agg (ao_ s.a),.int .i64 n] (.bool (wy_ s n)):=by
 refine PC.fact 6 qM_ (by simp) puA puA ?_;unfold jp_;refine bd ?_;have c1:=EB_ s n;have c2:=Fy_ s n h0;have c3:=dM_ s s.now h0;unfold wy_;try refine aa_ ?_
 refine ae_ c1 ?_;cases h1:isN s.nodes n with
 | false =>
   try refine aa_ ?_
   refine Rf_ ?_
   exact ah_
 | true =>
   have h2:=h1;simp[isN]at h2;have hgd:=bQ_ (t:=s.nodes) (i:=n.toNat) (by omega);generalize nP_ s n=S at *;by_cases h3:(nod s.nodes n.toNat).status=2
   ·have e3:((nod s.nodes n.toNat).status==2)=true:=by simp[h3]
    have e4:decide ((nod s.nodes n.toNat).status≠2)=false:=by simp[h3]
    rw[e4];repeat(first|refine aa_ ?_|simp only[go_sem,hgd,e3])
    refine Rf_ ?_
    exact ah_
   ·have e3:((nod s.nodes n.toNat).status==2)=false:=by simp[h3]
    have e4:decide ((nod s.nodes n.toNat).status≠2)=true:=by simp[h3]
    rw[e4];repeat(first|refine aa_ ?_|simp only[go_sem,hgd,e3])
    refine ab_ ?_;repeat(first|refine aa_ ?_|simp only[go_sem,hgd])
    refine RV_ c2 ?_
    by_cases k1:s.j.ep=0
    ·have e5:(s.j.ep==0)=true:=by simp[k1]
     rw[decide_eq_true k1];repeat(first|refine aa_ ?_|simp only[go_sem,e5])
     exact ah_
    have e5:(s.j.ep==0)=false:=by simp[k1]
    rw[decide_eq_false k1];by_cases k2:S.ep=s.j.ep
    ·have e6:(S.ep==s.j.ep)=true:=by simp[k2]
     rw[decide_eq_true k2];repeat(first|refine aa_ ?_|simp only[go_sem,e5,e6])
     exact ah_
    have e6:(S.ep==s.j.ep)=false:=by simp[k2]
    rw[decide_eq_false k2];repeat(first|refine aa_ ?_|simp only[go_sem,e5,e6])
    refine ae_ c3 ?_;by_cases k3:bP_ s s.now≤S.ep
    ·have e7:decide (bP_ s s.now≤S.ep)=true:=decide_eq_true k3;rw[decide_eq_true k3];repeat(first|refine aa_ ?_|simp only[go_sem,e7])
     exact ah_
    have e7:decide (bP_ s s.now≤S.ep)=false:=decide_eq_false k3;rw[decide_eq_false k3];repeat(first|refine aa_ ?_|simp only[go_sem,e7])
    refine RV_ c3 ?_
    exact ah_
theorem LC_{α:Type}(p:α→Bool)(d:α)(l:List α){i:Nat}(h:i<l.length):(l.drop i).any p=(p (l.getD i d) || (l.drop (i+1)).any p):=by
 rw[List.drop_eq_getElem_cons h,List.any_cons,List.getD_eq_getElem?_getD,List.getElem?_eq_getElem h];rfl
theorem Ai_(s:al_)(i0:Int)(ih:∀x∈gl_ s.nodes i0,PC Tryz.prog 194 [.agg (ao_ s.a),.int .i64 x] (.bool (hm_ s x)))(h0:s.cfg.spe≠0)(ht:dB_ s.nodes)(hb:s.nodes.length≤1000000)(hi0:0≤i0):PC Tryz.prog 194 [.agg (ao_ s.a),.int .i64 i0] (.bool (hm_ s i0)):=by
 refine PC.fact 7 Ca_ (by simp) puA puA ?_;unfold qj_;refine bd ?_;have c1:=Kr_ s i0 h0;have c2:=Ag_ s.nodes i0 hb;have hl:=Af_ s.nodes i0;rw[MH_ ht i0 (by omega)];generalize gl_ s.nodes i0=l at *;generalize hm_ s=L at *;try refine aa_ ?_
 refine ae_ c1 ?_;cases h1:wy_ s i0 with
 | true =>
   try refine aa_ ?_
   refine Rf_ ?_
   exact ah_
 | false =>
   try refine aa_ ?_
   refine Re_ ?_
   refine RV_ c2 ?_
   generalize hR:l.any L=R;refine aG_ (fun i:Nat=>[(6,.int .i64 i)]) (fun _=>[.var (ao_ s.a)]) (fun i=>l.length-i) (fun i=>i≤l.length∧R=(l.drop i).any L) 0 ⟨Nat.zero_le _,hR.symm⟩ ?_ ?_
   ·exact Sn_ [] [0]
   clear hR;rintro i ⟨hi,hn⟩;rw[hn];(try simp only[aF_,aA_,List.set_cons_zero,List.set_cons_succ])
   by_cases h1:i<l.length
   ·have e1:decide ((i:Int)<((l.length:Nat):Int))=true:=decide_eq_true (by omega)
    have hw:=ag_ h1 (by omega);have hgp:=gdn (k:=.i64) h1;have c3:=ih (l.getD i 0) (by rw[List.getD_eq_getElem?_getD,List.getElem?_eq_getElem h1];exact List.getElem_mem h1);have hd:=LC_ L 0 l h1;repeat(first|refine aa_ ?_|simp only[go_sem,e1])
    refine ac_ ?_;repeat(first|refine aa_ ?_|simp only[go_sem,hgp,Nat.mul_one])
    refine ay_ (c3) ?_;cases h2:L (l.getD i 0)with
    | true =>
      rw[hd,h2];try refine aa_ ?_
      refine Rf_ ?_
      exact ah_
    | false =>
      rw[hd,h2];try refine aa_ ?_
      refine ab_ ?_;repeat(first|refine aa_ ?_|simp only[go_sem,hw])
      refine⟨i+1,⟨h1,rfl⟩,by omega,?_⟩;exact Sn_ [] [0]
   ·obtain rfl:i=l.length:=by omega
    have e1:decide (((l.length:Nat):Int)<((l.length:Nat):Int))=false:=decide_eq_false (by omega);rw[List.drop_length];repeat(first|refine aa_ ?_|simp only[go_sem,e1])
    refine Re_ ?_
    exact ah_
theorem Aj_(s:al_)(h0:s.cfg.spe≠0)(ht:dB_ s.nodes)(hb:s.nodes.length≤1000000):∀ (n:Nat) (i:Int),0≤i→(s.nodes.length:Int)-i<n→PC Tryz.prog 194 [.agg (ao_ s.a),.int .i64 i] (.bool (hm_ s i))
 | 0, i, _, hn => by
   exact Ai_ s i (fun x hx=>by have:=ef_ ht hx;omega) h0 ht hb (by omega)
 | n + 1, i, hi, hn => by
   exact Ai_ s i (fun x hx=>Aj_ s h0 ht hb n x (by have:=ef_ ht hx;omega) (by have:=ef_ ht hx;omega)) h0 ht hb hi
structure StR(s:al_):Prop where
 tree:dB_ s.nodes
 spe:s.cfg.spe≠0
 bn:s.nodes.length≤1000000
 bl:s.latest.length≤1000000
 be:s.eqv.length≤1000000
 bt:s.tabs.length≤1000000
 bb:∀t∈s.tabs,t.bals.length≤1000000
 bo:s.orph.length≤1000000
 ba:s.early.length≤1000000
 nl:s.cfg.lim.node≤4096
 ll:s.latest.length=s.cfg.bals.length
 jf:0≤av_ s.nodes s.j.rt
theorem vJ_(l:List aR_)(c:Cp):-1≤dp_ l c∧dp_ l c<l.length:=by
 unfold dp_;cases h:jV_ (fun i=>decide ((tab l i).cp=c)) l.length with
 |none=>simp[yD_];omega
 |some k=>have:=nz_ h;simp[yD_];omega
theorem LG_{s:al_}(h:StR s):(Gf_ s).length≤1000000:=by
 unfold Gf_;split
 ·simp
 ·rename_i h1;have h2:=vJ_ s.tabs s.j;refine h.bb _ ?_;unfold tab;rw[List.getD_eq_getElem?_getD,List.getElem?_eq_getElem (show (dp_ s.tabs s.j).toNat<s.tabs.length by omega)];exact List.getElem_mem _
theorem GZ_(s:al_)(h:StR s):PC Tryz.prog 166 [.agg (ao_ s.a)] (.sl 1 false (rows gH_ (wl_ s))):=by
 refine PC.fact 5 BY_ (by simp) puA puA ?_;unfold qh_;refine bd ?_;unfold wl_;have hb:=h.bn;try refine aa_ ?_
 refine fh_ 3 1 ?_;simp only[go_sem];refine aG_ (fun i:Nat=>[(4,.int .i64 i),(3,.hs 1 1 0 i)]) (fun i=>[.var (ao_ s.a),.vec 1 (rows gH_ (aK_ (wk_ s) [] i))]) (fun i=>s.nodes.length-i) (fun i=>i≤s.nodes.length) 0 (Nat.zero_le _) ?_ ?_
 ·exact Sn_ [] [0,1]
 intro i hi;(try simp only[aF_,aA_,List.set_cons_zero,List.set_cons_succ])
 by_cases h1:i<s.nodes.length
 ·have e1:decide ((i:Int)<((s.nodes.length:Nat):Int))=true:=decide_eq_true (by omega);have hw:=ag_ h1 (by omega);have c1:=Aj_ s h.spe h.tree h.bn (s.nodes.length+1) i (by omega) (by omega);have hs:=bT_ (wk_ s) [] i;have hl:=nE_ s i;generalize aK_ (wk_ s) [] i=acc at *;have hr:rows gH_ acc++[[AV.bool (hm_ s i)]]=rows gH_ (acc++[hm_ s i]):=cx_ gH_ acc _;repeat(first|refine aa_ ?_|simp only[go_sem,e1])
  refine Rf_ ?_
  refine ae_ c1 ?_;have ht:List.take i (rows gH_ acc)=rows gH_ acc:=List.take_of_length_le (by simp[hl]);repeat(first|refine aa_ ?_|simp only[go_sem,hr,hw,hl,ht])
  refine⟨i+1,h1,by omega,?_⟩;rw[hs,show wk_ s i acc=acc++[hm_ s i]from rfl];exact Sn_ [] [0,2]
 ·obtain rfl:i=s.nodes.length:=by omega
  have e1:decide (((s.nodes.length:Nat):Int)<((s.nodes.length:Nat):Int))=false:=decide_eq_false (by omega);have hl:=nE_ s s.nodes.length;repeat(first|refine aa_ ?_|simp only[go_sem,e1])
  refine ab_ ?_;repeat(first|refine aa_ ?_|simp only[go_sem,hl])
  refine⟨_,(by first|rfl|exact evd),.inl ?_⟩;refine evg ?_;rw[hl,if_pos (Nat.le_refl _),List.take_of_length_le (by simp[hl])]
theorem LH_(s:al_)(h:StR s):PC Tryz.prog 189 [.agg (ao_ s.a)] (.sl 1 false (aq_ .u64 (Gf_ s))):=by
 refine PC.fact 4 rZ_ (by simp) puA puA ?_;unfold ko_;refine bd ?_;have c1:=li_ s.tabs s.j h.bt;have h2:=vJ_ s.tabs s.j;unfold Gf_;try refine aa_ ?_
 refine RV_ c1 ?_
 by_cases h1:dp_ s.tabs s.j<0
 ·have e1:decide (dp_ s.tabs s.j<0)=true:=decide_eq_true h1;rw[if_pos h1];repeat(first|refine aa_ ?_|simp only[go_sem,e1])
  refine Rf_ ?_
  refine⟨_,by first|rfl|exact evd,.inr ⟨_,by(try simp only[go_sem,Nat.reduceAdd,Nat.reduceSub,Nat.reduceMul,Nat.reduceLT,Nat.reduceLeDiff,Nat.reduceEqDiff,reduceIte,Int.reduceToNat,Int.reduceLT,Int.reduceLE,Int.reduceEq,Int.reduceNeg,reduceCtorEq,Int.reduceBEq,Int.reduceBNe]);try rfl,puA,(by repeat'(first|exact Wk.refl _|exact Wk.empty _ _ _|exact Wk.open_ _ _ _|refine Wk.tup ?_|refine Wk.agg ?_|exact trivial|(intro h;first|exact h|rfl)|constructor))⟩⟩
 ·have e1:decide (dp_ s.tabs s.j<0)=false:=decide_eq_false h1;have hgd:(rows aR_.c s.tabs).getD (dp_ s.tabs s.j).toNat []=aS_ (tab s.tabs (dp_ s.tabs s.j).toNat).a:=cw_ (f:=aR_.c) default (by omega);rw[if_neg h1];repeat(first|refine aa_ ?_|simp only[go_sem,e1])
  refine ab_ ?_;repeat(first|refine aa_ ?_|simp only[go_sem,hgd])
  exact ah_
theorem Dr_(s:al_)(h:StR s):PC Tryz.prog 165 [.agg (ao_ s.a)] (.sl 1 false (aq_ .u64 (hh_ s))):=by
 refine PC.fact 9 tL_ (by simp) puA puA ?_;unfold lD_;refine bd ?_;have c1:=LH_ s h;have hl:=LG_ h;unfold hh_;generalize Gf_ s=B at *;have c2:=Ba_ B false hl;generalize zm_ B=S at *;obtain⟨S1,S2⟩:=S;have c3:=DC_ s.cfg S1;have c4:=DU_ s.nodes s.latest s.eqv B h.bn h.bl h.be hl;have hd:=uB_ s.nodes s.latest s.eqv B s.nodes.length;rw[show aK_ (DT_ s.nodes s.latest s.eqv B) [] s.nodes.length=uC_ s.nodes s.latest s.eqv B from rfl]at hd;generalize uC_ s.nodes s.latest s.eqv B=D at *;dsimp only at c2 ⊢;generalize pV_ s.cfg.spe s.cfg.boost S1=M at *;obtain⟨M1,M2⟩:=M;have c5:=Bv_ s.nodes D s.boost M1 h.bn hd;have hd2:(kj_ s.nodes D s.boost M1).length=s.nodes.length:=by unfold kj_;split<;>simp[hd]
 dsimp only at c3 ⊢;generalize kj_ s.nodes D s.boost M1=D2 at *;have c6:=Dj_ s.nodes h.tree.ok D2 h.bn hd2;try refine aa_ ?_
 refine RV_ c1 ?_
 refine RV_ c2 ?_
 refine RV_ c3 ?_
 refine RV_ c4 ?_
 refine ay_ (c5) ?_;try refine aa_ ?_
 refine ay_ (c6) ?_;try refine aa_ ?_
 exact ah_
end Go.Proofs.YtipiipgpnkpejaaGreat
namespace Go.Proofs.YtipiipgpnkpejaaGreat
open Go Go.FH Go.RowKit
set_option linter.unusedVariables false
set_option linter.unusedSimpArgs false
set_option maxRecDepth 8000
set_option maxHeartbeats 4000000
theorem gdb{l:List Bool}{i:Nat}(h:i<l.length):(rows gH_ l).getD i []=[.bool (l.getD i false)]:=cw_ (f:=gH_) false h
theorem Jf_(t:List Nod)(ht:dB_ t)(hb:t.length≤1000000)(w:List Int)(hwl:w.length=t.length)(a:List Bool)(ha:a.length=t.length)(i0:Int):
 PC Tryz.prog 167 [.agg [nA t],.sl 1 false (aq_ .u64 w),.sl 1 false (rows gH_ a),.int .i64 i0] (.int .i64 (if_ t w a i0)):=by
 refine PC.fact 13 vy_ (by simp) puA puA ?_;unfold mq_;refine bd ?_;have c1:=Ag_ t i0 hb;have hl:=Af_ t i0;have hm:∀x∈gl_ t i0,0≤x∧x<t.length:=fun x hx=>by have:=ef_ ht hx;omega
 unfold if_;generalize gl_ t i0=l at *;try refine aa_ ?_
 refine RV_ c1 ?_
 refine aG_ (fun i:Nat=>[(11,.int .i64 i),(9,.int .i64 (aK_ (lx_ t w a l) (-1) i))]) (fun _=>[.var [nA t]]) (fun i=>l.length-i) (fun i=>i≤l.length) 0 (Nat.zero_le _) ?_ ?_
 ·exact Sn_ [] [0]
 intro i hi;(try simp only[aF_,aA_,List.set_cons_zero,List.set_cons_succ])
 by_cases h1:i<l.length
 ·have e1:decide ((i:Int)<((l.length:Nat):Int))=true:=decide_eq_true (by omega)
  have hw:=ag_ h1 (by omega);have hgp:=gdn (k:=.i64) h1;have hx:=hm (l.getD i 0) (by rw[List.getD_eq_getElem?_getD,List.getElem?_eq_getElem h1];exact List.getElem_mem h1);have hs:=bT_ (lx_ t w a l) (-1) i;have hbi:=pY_ t w a l i hi;have hbd:aK_ (lx_ t w a l) (-1) i=-1∨(0≤aK_ (lx_ t w a l) (-1) i∧aK_ (lx_ t w a l) (-1) i<t.length):=hbi.imp id (fun h=>hm _ h);clear hbi;generalize hB:aK_ (lx_ t w a l) (-1) i=B at *;have hc:lx_ t w a l i B=if a.getD (l.getD i 0).toNat false=true∧(B<0∨w.getD B.toNat 0<w.getD (l.getD i 0).toNat 0∨(w.getD (l.getD i 0).toNat 0=w.getD B.toNat 0∧0<JA_ (nod t (l.getD i 0).toNat).blk.root (nod t B.toNat).blk.root))then l.getD i 0 else B:=rfl
  rw[hc]at hs;clear hc;generalize l.getD i 0=c at *;have hga:=gdb (l:=a) (i:=c.toNat) (by omega);have hgw:=gdn (k:=.u64) (ns:=w) (i:=c.toNat) (by omega);have hgd:=bQ_ (t:=t) (i:=c.toNat) (by omega);repeat(first|refine aa_ ?_|simp only[go_sem,e1])
  refine ac_ ?_;repeat(first|refine aa_ ?_|simp only[go_sem,hgp,Nat.mul_one,hga])
  cases h2:a.getD c.toNat false with
  | false =>
    rw[if_neg (fun h=>Bool.noConfusion (h2.symm.trans h.1))]at hs;try refine aa_ ?_
    refine ab_ ?_;repeat(first|refine aa_ ?_|simp only[go_sem,hw])
    refine⟨i+1,h1,by omega,?_⟩;rw[hs];exact Sn_ [] [0]
  | true =>
    by_cases h3:B<0
    ·have e3:decide (B<0)=true:=decide_eq_true h3;rw[if_pos ⟨h2,.inl h3⟩]at hs;repeat(first|refine aa_ ?_|simp only[go_sem,e3])
     refine ac_ ?_;repeat(first|refine aa_ ?_|simp only[go_sem,hw])
     refine⟨i+1,h1,by omega,?_⟩;rw[hs];exact Sn_ [] [0]
    have e3:decide (B<0)=false:=decide_eq_false h3;have hgB:=gdn (k:=.u64) (ns:=w) (i:=B.toNat) (by omega);have hgE:=bQ_ (t:=t) (i:=B.toNat) (by omega);by_cases h4:w.getD B.toNat 0<w.getD c.toNat 0
    ·have e4:decide (w.getD c.toNat 0 > w.getD B.toNat 0)=true:=decide_eq_true h4;have e5:decide (w.getD B.toNat 0<w.getD c.toNat 0)=true:=decide_eq_true h4;rw[if_pos ⟨h2,.inr (.inl h4)⟩]at hs;repeat(first|refine aa_ ?_|simp only[go_sem,e3,hgB,hgw,Nat.mul_one,e4,e5])
     refine ac_ ?_;repeat(first|refine aa_ ?_|simp only[go_sem,hw])
     refine⟨i+1,h1,by omega,?_⟩;rw[hs];exact Sn_ [] [0]
    have e4:decide (w.getD c.toNat 0 > w.getD B.toNat 0)=false:=decide_eq_false h4;have e5:decide (w.getD B.toNat 0<w.getD c.toNat 0)=false:=decide_eq_false h4;by_cases h5:w.getD c.toNat 0=w.getD B.toNat 0
    ·have e6:(w.getD c.toNat 0==w.getD B.toNat 0)=true:=by rw[beq_iff_eq];exact h5
     have c2:=zL_ (nod t c.toNat).blk.root (nod t B.toNat).blk.root;generalize JA_ (nod t c.toNat).blk.root (nod t B.toNat).blk.root=M at *;repeat(first|refine aa_ ?_|simp only[go_sem,e3,hgB,hgw,Nat.mul_one,e4,e5,e6,hgd,hgE])
     refine ay_ (c2) ?_;by_cases h6:0<M
     ·have e7:decide (M > 0)=true:=decide_eq_true h6;have e8:decide (0<M)=true:=decide_eq_true h6;rw[if_pos ⟨h2,.inr (.inr ⟨h5,h6⟩)⟩]at hs;repeat(first|refine aa_ ?_|simp only[go_sem,e7,e8])
      refine ac_ ?_;repeat(first|refine aa_ ?_|simp only[go_sem,hw])
      refine⟨i+1,h1,by omega,?_⟩;rw[hs];exact Sn_ [] [0]
     ·have e7:decide (M > 0)=false:=decide_eq_false h6;have e8:decide (0<M)=false:=decide_eq_false h6;rw[if_neg (by rintro⟨_,h|h|h⟩;exact h3 h;exact h4 h;exact h6 h.2)]at hs;repeat(first|refine aa_ ?_|simp only[go_sem,e7,e8])
      refine ab_ ?_;repeat(first|refine aa_ ?_|simp only[go_sem,hw])
      refine⟨i+1,h1,by omega,?_⟩;rw[hs];exact Sn_ [] [0]
    ·have e6:(w.getD c.toNat 0==w.getD B.toNat 0)=false:=by rw[←Bool.not_eq_true,beq_iff_eq];exact h5
     rw[if_neg (by rintro⟨_,h|h|h⟩;exact h3 h;exact h4 h;exact h5 h.1)]at hs;repeat(first|refine aa_ ?_|simp only[go_sem,e3,hgB,hgw,Nat.mul_one,e4,e5,e6])
     refine ab_ ?_;repeat(first|refine aa_ ?_|simp only[go_sem,hw])
     refine⟨i+1,h1,by omega,?_⟩;rw[hs];exact Sn_ [] [0]
 ·obtain rfl:i=l.length:=by omega
  have e1:decide (((l.length:Nat):Int)<((l.length:Nat):Int))=false:=decide_eq_false (by omega);repeat(first|refine aa_ ?_|simp only[go_sem,e1])
  refine Re_ ?_
  exact ah_
end Go.Proofs.YtipiipgpnkpejaaGreat
namespace Go.Proofs.YtipiipgpnkpejaaGreat
open Go Go.FH Go.RowKit
set_option linter.unusedVariables false
set_option linter.unusedSimpArgs false
theorem Dq_(s:al_):(hh_ s).length=s.nodes.length:=uI_ s.nodes _ s.nodes.length
theorem JW_(s:al_)(h:StR s):PC Tryz.prog 144 [.agg (ao_ s.a)] (.int .i64 (vV_ s)):=by
 refine PC.fact 7 BX_ (by simp) puA puA ?_;unfold qg_;refine bd ?_;have c1:=Dr_ s h;have c2:=GZ_ s h;have c3:=bJ_ s.nodes s.j.rt h.bn;have c4:=Jf_ s.nodes h.tree h.bn (hh_ s) (Dq_ s) (wl_ s) (nE_ s s.nodes.length);have hbd:=LI_ h.tree (hh_ s) (wl_ s);have hF:=dE_ s.nodes s.j.rt;unfold vV_;generalize hh_ s=W at *;generalize wl_ s=L at *;generalize av_ s.nodes s.j.rt=F at *;try refine aa_ ?_
 refine ay_ (c1) ?_;try refine aa_ ?_
 refine ay_ (c2) ?_;try refine aa_ ?_
 refine RV_ c3 ?_
 generalize hR:qX_ s.nodes W L (s.nodes.length+1) F=R;refine aG_ (fun p:Nat×Int=>[(5,.int .i64 p.2)]) (fun _=>[.var (ao_ s.a)]) (fun p=>p.1) (fun p=>-1≤p.2∧p.2<s.nodes.length∧(s.nodes.length:Int)-p.2≤p.1∧R=qX_ s.nodes W L p.1 p.2) (s.nodes.length+1,F) ⟨hF.1,hF.2,by dsimp only;omega,hR.symm⟩ ?_ ?_
 ·exact Sn_ [] [0]
 clear hR;rintro⟨f,i⟩ ⟨h0,h1,h2,hn⟩;dsimp only at h0 h1 h2 hn;rw[hn];obtain⟨g,rfl⟩:∃g,f=g+1:=⟨f-1,by omega⟩
 have c5:=c4 i;have hb:=hbd i;have hs:qX_ s.nodes W L (g+1) i=if if_ s.nodes W L i<0 then i else qX_ s.nodes W L g (if_ s.nodes W L i):=rfl
 generalize if_ s.nodes W L i=B at *;dsimp only;try refine aa_ ?_
 refine RV_ c5 ?_
 by_cases h3:B<0
 ·have e3:decide (B<0)=true:=decide_eq_true h3;rw[if_pos h3]at hs;rw[hs];repeat(first|refine aa_ ?_|simp only[go_sem,e3])
  refine Rf_ ?_
  exact ah_
 ·have e3:decide (B<0)=false:=decide_eq_false h3;rw[if_neg h3]at hs;rw[hs];repeat(first|refine aa_ ?_|simp only[go_sem,e3])
  refine Re_ ?_
  refine⟨(g,B),⟨by omega,by omega,by dsimp only;omega,rfl⟩,by dsimp only;omega,?_⟩;exact Sn_ [] [0]
theorem hb_(s:al_)(e:Int):PC Tryz.prog 171 [.agg (ao_ s.a),.int .u64 e] (.tup [.int .u64 (da_ s e).1,.bool (da_ s e).2]):=by
 refine PC.fact 8 yn_ (by simp) puA puA ?_;unfold oG_;refine bd ?_;have c1:=HB_ e s.cfg.spe;unfold da_;generalize sN_ e s.cfg.spe=p at *;try refine aa_ ?_
 refine ae_ c1 ?_;have hz:(p.2==0)=decide (p.2=0):=rfl;repeat(first|refine aa_ ?_|simp only[go_sem,hz])
 exact ah_
theorem vp_(s:al_)(i e:Int)(h0:0≤i)(h1:i<s.nodes.length):PC Tryz.prog 197 [.agg (ao_ s.a),.int .i64 i,.int .u64 e] (.bool (rU_ s i e)):=by
 refine PC.fact 9 yl_ (by simp) puA puA ?_;unfold oE_;refine bd ?_;have c1:=hb_ s e;unfold rU_;have hgd:=bQ_ (t:=s.nodes) (i:=i.toNat) (by omega);generalize da_ s e=p at *;obtain⟨p1,p2⟩:=p;dsimp only at c1 ⊢;try refine aa_ ?_
 refine ae_ c1 ?_;cases p2 with
 | false =>
   try refine aa_ ?_
   exact ah_
 | true =>
   repeat(first|refine aa_ ?_|simp only[go_sem,hgd])
   exact ah_
theorem Ct_(s:al_)(b:Blk)(h0:s.cfg.spe≠0):PC Tryz.prog 199 [.agg (ao_ s.a),.agg (aw_ b)] (.bool (Pj_ s b)):=by
 refine PC.fact 9 tM_ (by simp) puA puA ?_;unfold lE_;refine bd ?_;have c1:=dM_ s b.slot h0;unfold Pj_;by_cases q1:b.fin.ep≤b.just.ep
 case neg=>
  rw[decide_eq_false q1];have e1:=decide_eq_false q1;repeat(first|refine aa_ ?_|simp only[go_sem,e1])
  exact ah_
 rw[decide_eq_true q1];have e1:=decide_eq_true q1;by_cases q2:b.just.ep≤b.pul.j.ep
 case neg=>
  rw[decide_eq_false q2];have e2:=decide_eq_false q2;repeat(first|refine aa_ ?_|simp only[go_sem,e1,e2])
  exact ah_
 rw[decide_eq_true q2];have e2:=decide_eq_true q2;by_cases q3:b.fin.ep≤b.pul.f.ep
 case neg=>
  rw[decide_eq_false q3];have e3:=decide_eq_false q3;repeat(first|refine aa_ ?_|simp only[go_sem,e1,e2,e3])
  exact ah_
 rw[decide_eq_true q3];have e3:=decide_eq_true q3;by_cases q4:b.pul.f.ep≤b.pul.j.ep
 case neg=>
  rw[decide_eq_false q4];have e4:=decide_eq_false q4;repeat(first|refine aa_ ?_|simp only[go_sem,e1,e2,e3,e4])
  exact ah_
 rw[decide_eq_true q4];have e4:=decide_eq_true q4;repeat(first|refine aa_ ?_|simp only[go_sem,e1,e2,e3,e4])
 refine RV_ c1 ?_
 exact ah_
end Go.Proofs.YtipiipgpnkpejaaGreat
namespace Go.FH
set_option linter.unusedVariables false
open Go Go.RowKit
def takeO(l:List Blk)(i:Nat):List Blk:=l.take i++l.drop (i+1)
theorem Le_(l:List Blk){i:Nat}(h:i<l.length):(takeO l i).length+1=l.length:=by
 unfold takeO;rw[List.length_append,List.length_take,List.length_drop];omega
def cA_(s:al_):Int:=yD_ (jV_ (fun i=>decide (0≤av_ s.nodes (eS_ s.orph i).parent)) s.orph.length)
theorem xs_(s:al_):-1≤cA_ s∧cA_ s<s.orph.length:=by
 unfold cA_;cases h:jV_ (fun i=>decide (0≤av_ s.nodes (eS_ s.orph i).parent)) s.orph.length with
 |none=>rw[nB_];omega
 |some k=>have:=nz_ h;rw[kK_];omega
def dg_(s:al_)(t:List Nod):al_:=⟨s.cfg,s.latest,s.eqv,s.j,s.f,s.early,s.orph,t,s.now,s.boost,s.tabs⟩
def withO(s:al_)(l:List Blk):al_:=⟨s.cfg,s.latest,s.eqv,s.j,s.f,s.early,l,s.nodes,s.now,s.boost,s.tabs⟩
def withE(s:al_)(l:List aW_):al_:=⟨s.cfg,s.latest,s.eqv,s.j,s.f,l,s.orph,s.nodes,s.now,s.boost,s.tabs⟩
def withB(s:al_)(r:Rt):al_:=⟨s.cfg,s.latest,s.eqv,s.j,s.f,s.early,s.orph,s.nodes,s.now,r,s.tabs⟩
def withL(s:al_)(l:List Vot):al_:=⟨s.cfg,l,s.eqv,s.j,s.f,s.early,s.orph,s.nodes,s.now,s.boost,s.tabs⟩
def RP_(s:al_)(l:List Int):al_:=⟨s.cfg,s.latest,l,s.j,s.f,s.early,s.orph,s.nodes,s.now,s.boost,s.tabs⟩
def withT(s:al_)(l:List aR_):al_:=⟨s.cfg,s.latest,s.eqv,s.j,s.f,s.early,s.orph,s.nodes,s.now,s.boost,l⟩
def fA_:al_:=⟨⟨QN_,0,0,wd0,rt0,[]⟩,[],[],cp0,cp0,[],[],[],0,rt0,[]⟩
theorem jA_{t:List Nod}{n:Nod}{i:Nat}:nod (t++[n]) i=if i<t.length then nod t i else if i=t.length then n else sv_:=by
 unfold nod;simp only[List.getD_eq_getElem?_getD];by_cases h:i<t.length
 ·rw[if_pos h,List.getElem?_append_left h]
 ·rw[if_neg h,List.getElem?_append_right (by omega)];by_cases h2:i=t.length
  ·subst h2;simp
  ·rw[if_neg h2,List.getElem?_eq_none (by simp;omega)];rfl
theorem so_{t:List Nod}{r:Rt}{k:Nat}(hk:k<t.length)(h:(nod t k).blk.root=r):0≤av_ t r:=by
 unfold av_;cases h1:jV_ (fun i=>decide ((nod t i).blk.root=r)) t.length with
 |none=>have:=JU_ h1 k hk;simp[h]at this
 |some i=>rw[kK_];omega
theorem qU_{t:List Nod}{r:Rt}(h:0≤av_ t r):(av_ t r).toNat<t.length∧(nod t (av_ t r).toNat).blk.root=r:=by
 unfold av_ at *;cases h1:jV_ (fun i=>decide ((nod t i).blk.root=r)) t.length with
 |none=>rw[h1,nB_]at h;omega
 |some i=>rw[kK_];have:=nz_ h1;exact⟨by simpa using this.1,by simpa using this.2.1⟩
theorem dB_.snoc{t:List Nod}(ht:dB_ t){n:Nod}(h0:0≤n.up)(h1:n.up<t.length):dB_ (t++[n]):=by
 refine⟨fun i hi hl=>?_,by simp,?_⟩
 ·rw[jA_];by_cases h:i<t.length
  ·rw[if_pos h];exact ht.ok i hi h
  ·rw[if_neg h,if_pos (by simp at hl;omega)];simp at hl;omega
 ·rw[jA_,if_pos ht.pos];exact ht.root
theorem Ic_{t:List Nod}{b:Blk}{st:Int}(h:(ga_ t b st).2=0):(ga_ t b st).1=t++[⟨b,av_ t b.parent,st⟩]∧0≤av_ t b.parent:=by
 unfold ga_ at *;split at h
 ·simp at h
 ·rename_i h1
  rw[if_neg h1];split at h
  ·simp at h
  ·rename_i h2
   rw[if_neg h2];split at h
   ·simp at h
   ·rename_i h3
    rw[if_neg h3];split at h
    ·simp at h
    ·rename_i h4
     rw[if_neg h4];split at h
     ·simp at h
     ·rename_i h5;rw[if_neg h5];exact⟨rfl,by omega⟩
theorem dB_.ins{t:List Nod}(ht:dB_ t){b:Blk}{st:Int}(h:(ga_ t b st).2=0):dB_ (ga_ t b st).1:=by
 obtain⟨h1,h2⟩:=Ic_ h;rw[h1];have h3:=qU_ h2;exact ht.snoc (n:=⟨b,av_ t b.parent,st⟩) h2 (show av_ t b.parent<t.length by omega)
theorem IY_{t:List Nod}(ht:dB_ t){i:Nat}(hi:i<t.length):fE_ t i i=true:=by
 unfold fE_;rcases Nat.eq_zero_or_pos i with h|h
 ·subst h;rw[show ((0:Nat):Int)=0 from rfl,jB_ hi];simp
 ·rw[nG_ ht.ok h hi];simp
theorem Ox_{t:List Nod}(ht:dB_ t){a b:Int}(h:fE_ t a b=true):0≤a∧a≤b∧a<t.length:=by
 unfold fE_ at h;exact gw_ ht.ok (by simpa using h)
theorem Oy_{t:List Nod}(ht:dB_ t){a:Int}{k:Nat}(hk:k<t.length)(h:fE_ t a k=true)(hne:(k:Int)≠a):0<k∧fE_ t a (nod t k).up=true:=by
 unfold fE_ at *;rcases Nat.eq_zero_or_pos k with h0|h0
 ·subst h0;rw[show ((0:Nat):Int)=0 from rfl,jB_ hk]at h;simp at h;exact absurd h.symm hne
 ·rw[nG_ ht.ok h0 hk]at h;simp at h;refine⟨h0,?_⟩;rcases h with h|h
  ·simpa using h
  ·exact absurd h.symm hne
structure RW_(t:List Nod)(i0:Int)(k:Nat)(p:List Nod×List Int):Prop where
 len:p.2.length=k
 kept:∀m:Nat,m<k→fE_ t i0 m=true→0≤p.2.getD m 0∧p.2.getD m 0<p.1.length∧(nod p.1 (p.2.getD m 0).toNat).blk=(nod t m).blk
 up:∀u:Nat,0<u→u<p.1.length→0≤(nod p.1 u).up∧(nod p.1 u).up<u
 root:0<p.1.length→(nod p.1 0).up<0
 some:0<p.1.length→∃m:Nat,m<k∧fE_ t i0 m=true
 blks:∀u:Nat,u<p.1.length→∃m:Nat,m<t.length∧(nod p.1 u).blk=(nod t m).blk
 le:p.1.length≤k
theorem Ev_{l:List Int}{x:Int}{m:Nat}:(l++[x]).getD m 0=if m<l.length then l.getD m 0 else if m=l.length then x else 0:=by
 simp only[List.getD_eq_getElem?_getD];by_cases h:m<l.length
 ·rw[if_pos h,List.getElem?_append_left h]
 ·rw[if_neg h,List.getElem?_append_right (by omega)];by_cases h2:m=l.length
  ·subst h2;simp
  ·rw[if_neg h2,List.getElem?_eq_none (by simp;omega)];rfl
theorem Nf_{t:List Nod}(ht:dB_ t)(i0:Int):∀k,k≤t.length→RW_ t i0 k (aK_ (dv_ t i0) ([],[]) k)
 |0,_=>⟨rfl,fun m h=>absurd h (Nat.not_lt_zero _),fun u _ h=>absurd h (Nat.not_lt_zero _),fun h=>absurd h (Nat.lt_irrefl _),fun h=>absurd h (Nat.lt_irrefl _),fun u h=>absurd h (Nat.not_lt_zero _),Nat.le_refl _⟩
 | k + 1, hk => by
   have ih:=Nf_ ht i0 k (by omega);rw[bT_];generalize aK_ (dv_ t i0) ([],[]) k=p at *;obtain⟨kp,ix⟩:=p;obtain⟨l1,l2,l3,l4,l5,l6,l7⟩:=ih;dsimp only at l1 l2 l3 l4 l5 l6 l7;unfold dv_;by_cases ha:fE_ t i0 k=true
   ·rw [if_pos ha]
    dsimp only
    have hup:0<kp.length→(k:Int)≠i0:=by
     intro h he;obtain⟨m,h1,h2⟩:=l5 h;have:=Ox_ ht h2;omega
    have hu:(k:Int)≠i0→0≤ix.getD (nod t k).up.toNat 0∧ix.getD (nod t k).up.toNat 0<kp.length:=by
     intro h;obtain⟨h0,h1⟩:=Oy_ ht (by omega) ha h;obtain⟨h2,h3⟩:=ht.ok k h0 (by omega);have:=l2 (nod t k).up.toNat (by omega) (by rw[Int.toNat_of_nonneg h2];exact h1);exact⟨this.1,this.2.1⟩
    refine⟨by simp[l1],fun m hm hm2=>?_,fun u h0 h1=>?_,fun h=>?_,fun _=>⟨k,by omega,ha⟩,fun u h=>?_,by simp;omega⟩
    ·rw[Ev_]
     by_cases hmk:m<k
     ·rw[if_pos (by omega)];obtain⟨a1,a2,a3⟩:=l2 m hmk hm2;refine⟨a1,by simp only[List.length_append,List.length_cons,List.length_nil];omega,?_⟩;rw[jA_,if_pos (by omega)];exact a3
     ·obtain rfl:m=k:=by omega
      rw[if_neg (by omega),if_pos (by omega)];refine⟨by omega,by simp only[List.length_append,List.length_cons,List.length_nil];omega,?_⟩;rw[jA_,if_neg (by simp),if_pos (by simp)]
    ·rw[jA_]
     by_cases hu2:u<kp.length
     ·rw[if_pos hu2];exact l3 u h0 hu2
     ·simp at h1;obtain rfl:u=kp.length:=by omega
      rw[if_neg hu2,if_pos rfl];dsimp only;have hne:=hup h0;rw[if_neg hne];exact hu hne
    ·rw[jA_]
     by_cases hz:0<kp.length
     ·rw[if_pos hz];exact l4 hz
     ·rw[if_neg hz,if_pos (by omega)];dsimp only;by_cases hne:(k:Int)=i0
      ·rw[if_pos hne];omega
      ·have:=hu hne;omega
    ·rw[jA_]
     by_cases hu2:u<kp.length
     ·rw[if_pos hu2];exact l6 u hu2
     ·simp at h;rw[if_neg hu2,if_pos (by omega)];exact⟨k,by omega,rfl⟩
   ·rw [if_neg ha]
    dsimp only;refine⟨by simp[l1],fun m hm hm2=>?_,l3,l4,fun h=>?_,l6,show kp.length≤k+1 by omega⟩
    ·by_cases hmk:m<k
     ·rw[Ev_,if_pos (by omega)];exact l2 m hmk hm2
     ·obtain rfl:m=k:=by omega
      exact absurd hm2 ha
    ·obtain⟨m,h1,h2⟩:=l5 h;exact⟨m,by omega,h2⟩
theorem dB_.prune{t:List Nod}(ht:dB_ t){i0:Int}(h0:0≤i0)(h1:i0<t.length):dB_ (iQ_ t i0).1:=by
 have h:=Nf_ ht i0 t.length (Nat.le_refl _);have hs:=h.kept i0.toNat (by omega) (by rw[Int.toNat_of_nonneg h0];have:=IY_ ht (i:=i0.toNat) (by omega);rwa [Int.toNat_of_nonneg h0]at this);exact⟨h.up,by show 0<(aK_ (dv_ t i0) ([],[]) t.length).1.length;omega,h.root (by omega)⟩
theorem EP_{t:List Nod}(ht:dB_ t){i0:Int}{r:Rt}(h:0≤av_ t r)(ha:fE_ t i0 (av_ t r)=true):0≤av_ (iQ_ t i0).1 r:=by
 have h1:=Nf_ ht i0 t.length (Nat.le_refl _);obtain⟨h2,h3⟩:=qU_ h;obtain⟨h4,h5,h6⟩:=h1.kept (av_ t r).toNat h2 (by rw[Int.toNat_of_nonneg h];exact ha);exact so_ (k:=((aK_ (dv_ t i0) ([],[]) t.length).2.getD (av_ t r).toNat 0).toNat) (by show _<(aK_ (dv_ t i0) ([],[]) t.length).1.length;omega) (by show (nod (aK_ (dv_ t i0) ([],[]) t.length).1 _).blk.root=r;rw[h6];exact h3)
theorem Hj_{t:List Nod}(ht:dB_ t)(i0:Int):∀u:Nat,u<(iQ_ t i0).1.length→∃m:Nat,m<t.length∧(nod (iQ_ t i0).1 u).blk=(nod t m).blk:=(Nf_ ht i0 t.length (Nat.le_refl _)).blks
theorem pG_{t:List Nod}(ht:dB_ t)(i0:Int):(iQ_ t i0).1.length≤t.length:=(Nf_ ht i0 t.length (Nat.le_refl _)).le
end Go.FH
namespace Go.Proofs.YtipiipgpnkpejaaGreat
open Go Go.FH Go.RowKit
set_option linter.unusedVariables false
set_option linter.unusedSimpArgs false
theorem Ds_:Wk (.agg (ao_ cQ_)) (.agg (ao_ fA_.a)):=by
 refine Wk.agg ?_;unfold cQ_ fA_ al_.a ao_;dsimp only;refine WkC.app ?_ ?_
 ·unfold hl_ bV_.a bm_;dsimp only;exact(WkC.refl _).app (.same _ (.same _ ((WkC.refl _).app ((WkC.refl _).app (.one (Wk.empty _ _ _) fun h=>h)))))
 ·exact .cons (Wk.empty _ _ _) (fun h=>h) (.cons (Wk.empty _ _ _) (fun h=>h) ((WkC.refl _).app ((WkC.refl _).app (.cons (Wk.empty _ _ _) (fun h=>h) (.cons (Wk.empty _ _ _) (fun h=>h) (.cons (Wk.empty _ _ _) (fun h=>h) (.same _ ((WkC.refl _).app (.one (Wk.empty _ _ _) fun h=>h)))))))))
def cE_(s:al_)(b:Blk):Int:=
 if b.root=rt0 then 2 else if pC_ s b.root=true then 9 else if s.now<b.slot then 12 else if b.slot≤(da_ s s.f.ep).1 then 13
 else if av_ s.nodes b.parent<0 then 10 else if b.slot≤(nod s.nodes (av_ s.nodes b.parent).toNat).blk.slot then 14
 else if (nod s.nodes (av_ s.nodes b.parent).toNat).status=2 then 15 else if HZ_ s b=false then 16
 else if HY_ s.cfg.ttd (nod s.nodes (av_ s.nodes b.parent).toNat).blk b=false then 17 else if s.cfg.lim.node≤s.nodes.length then 11 else 0
def dC_(s:al_)(a:aW_):Bool×Int:=
 if bt_ a.vals s.cfg.bals.length≠0 then (false,bt_ a.vals s.cfg.bals.length)
 else if a.target.ep≠bP_ s a.slot∨(a.target.ep≠bP_ s s.now∧(bP_ s s.now=0∨a.target.ep≠IntKind.u64.wrap (bP_ s s.now-1)))then (false,18)
 else if av_ s.nodes a.root<0∨av_ s.nodes a.target.rt<0 then (false,10)
 else if a.slot<(nod s.nodes (av_ s.nodes a.root).toNat).blk.slot then (false,14)
 else if atT s.nodes (av_ s.nodes a.root) (da_ s a.target.ep).1≠av_ s.nodes a.target.rt then (false,19)
 else (decide (s.now≤a.slot),0)
def castIn(s:al_)(a:aW_):al_:=withL s (zI_ s.latest a.target.ep a.root a.vals).1
def wit(n lo hi:Int):Bool:=decide (lo≤n)&&decide (n≤hi)
def rf_(c:bV_):Int:=
 if c.spe<1 then 3 else if 64<c.spe then 3 else if 100<c.boost then 3 else if 1024<(c.bals.length:Int)then 3 else if wit c.lim.node 1 4096=false then 3 else if wit c.lim.orph 0 64=false then 3
 else if wit c.lim.early 0 256=false then 3 else if wit c.lim.table 1 64=false then 3 else if wit c.lim.retry 0 256=false then 3 else if c.lim.backoff<1 then 3 else if 1048576<c.lim.backoff then 3
 else if c.gen=rt0 then 2 else hA_ ⟨⟨0,c.gen⟩,c.bals⟩ c.bals.length
def QK_(r:Rt):Blk:=⟨⟨⟨0,r⟩,⟨0,r⟩⟩,0,r,rt0,rt0,wd0,wd0,⟨0,r⟩,⟨0,r⟩,false⟩
def pE_(c:bV_):al_:=⟨c,List.replicate c.bals.length uu_,[],⟨0,c.gen⟩,⟨0,c.gen⟩,[],[],[⟨QK_ c.gen,-1,1⟩],0,rt0,[⟨⟨0,c.gen⟩,c.bals⟩]⟩
def Kg_(c:bV_):al_×Int:=if rf_ c=0 then (pE_ c,0)else (fA_,rf_ c)
def lY_(l:List aW_)(i:Nat):aW_:=l.getD i default
def tickA(s:al_):al_:=⟨s.cfg,s.latest,s.eqv,s.j,s.f,s.early,s.orph,s.nodes,IntKind.u64.wrap (s.now+1),rt0,s.tabs⟩
def tickB(s:al_):al_:=if IntKind.u64.wrap (Int.tmod s.now s.cfg.spe)=0 then cW_ s (ri_ s).j (ri_ s).f else s
def tickR(l:List aW_)(i:Nat)(s:al_):al_:=if s.now≤(lY_ l i).slot then withE s (s.early++[lY_ l i])else if (dC_ s (lY_ l i)).2=0 then castIn s (lY_ l i)else s
def tickC(s:al_)(l:List aW_):al_:=aK_ (tickR l) (withE s []) l.length
def jI_(s:al_):al_×Int:=if 1099511627776≤s.now then (fA_,3)else (tickC (tickB (tickA s)) (tickB (tickA s)).early,0)
def jW_(s:al_)(b:Blk):al_:=
 if bP_ (cW_ (dg_ s (ga_ s.nodes b (dZ_ b)).1) b.just b.fin) b.slot<bP_ (cW_ (dg_ s (ga_ s.nodes b (dZ_ b)).1) b.just b.fin) (cW_ (dg_ s (ga_ s.nodes b (dZ_ b)).1) b.just b.fin).now
 then cW_ (cW_ (dg_ s (ga_ s.nodes b (dZ_ b)).1) b.just b.fin) b.pul.j b.pul.f else cW_ (dg_ s (ga_ s.nodes b (dZ_ b)).1) b.just b.fin
def waitR(p:al_×List Rt):al_×List Rt:=
 if cE_ (withO p.1 (takeO p.1.orph (cA_ p.1).toNat)) (eS_ p.1.orph (cA_ p.1).toNat)=0
 then (jW_ (withO p.1 (takeO p.1.orph (cA_ p.1).toNat)) (eS_ p.1.orph (cA_ p.1).toNat),p.2++[(eS_ p.1.orph (cA_ p.1).toNat).root])
 else (withO p.1 (takeO p.1.orph (cA_ p.1).toNat),p.2)
def waitG:Nat→al_×List Rt→al_×List Rt
 |0,p=>p
 |f+1,p=>if cA_ p.1<0 then p else waitG f (waitR p)
def noT(b:Blk):Blk:=⟨b.pul,b.slot,b.root,b.parent,b.payload,b.diff,b.pdiff,b.just,b.fin,false⟩
def blockI(s:al_)(b:Blk):al_:=if b.timely=true∧b.slot=s.now∧s.boost=rt0 then withB (jW_ s b) b.root else jW_ s b
def dL_(s:al_)(b:Blk):al_×List Rt×Int:=
 if cE_ s b=10 then (if s.cfg.lim.orph≤s.orph.length then (fA_,[],11)else (withO s (s.orph++[noT b]),[],0))
 else if cE_ s b≠0 then (fA_,[],cE_ s b)
 else ((waitG ((blockI s b).orph.length+1) (blockI s b,[b.root])).1,(waitG ((blockI s b).orph.length+1) (blockI s b,[b.root])).2,0)
def rO_(s:al_)(a:aW_):al_×Int:=
 if (dC_ s a).2≠0 then (fA_,(dC_ s a).2)else if (dC_ s a).1=false then (castIn s a,0)
 else if s.cfg.lim.early≤s.early.length then (fA_,11)else (withE s (s.early++[a]),0)
def wH_(s:al_)(t:aR_):al_×Int:=
 if hA_ t s.cfg.bals.length≠0 then (fA_,hA_ t s.cfg.bals.length)else if t.cp.ep<s.j.ep then (fA_,13)
 else if (iU_ s.tabs t s.cfg.bals.length s.cfg.lim.table).2≠0 then (fA_,(iU_ s.tabs t s.cfg.bals.length s.cfg.lim.table).2)
 else (withT s (iU_ s.tabs t s.cfg.bals.length s.cfg.lim.table).1,0)
theorem sQ_(s:al_):PC Tryz.prog 157 [.agg (ao_ s.a)] (.int .i64 s.cfg.bals.length):=by
 refine PC.fact 3 pm_ (by simp) puA puA ?_;unfold im_;refine bd ?_;try refine aa_ ?_
 exact ah_
def wv_(t:List Nod)(k:Nat):Pul×Bool:=aK_ (Ar_ t) (ug_,false) k
theorem Pn_(t:List Nod)(k:Nat):wv_ t (k+1)=Ar_ t k (wv_ t k):=rfl
theorem Kn_(s:al_)(hb:s.nodes.length≤1000000):PC Tryz.prog 146 [.agg (ao_ s.a)] (.agg (cT_ (ri_ s))):=by
 refine PC.fact 7 tK_ (by simp) puA puA ?_;unfold lC_;refine bd ?_;show Tri _ _ _ _ (PQ _ (.agg (cT_ (wv_ s.nodes s.nodes.length).1))) _ _
 have hz:wv_ s.nodes 0=(ug_,false):=rfl;try refine aa_ ?_
 refine aG_ (fun i:Nat=>[(4,.bool (wv_ s.nodes i).2),(5,.int .i64 i)]) (fun i=>[.var (ao_ s.a),.var (cT_ ug_),.var (cT_ (wv_ s.nodes i).1)]) (fun i=>s.nodes.length-i) (fun i=>i≤s.nodes.length) 0 (Nat.zero_le _) ?_ ?_
 ·rw[hz];exact Sn_ [] [0,1,2]
 intro i hi;(try simp only[aF_,aA_,List.set_cons_zero,List.set_cons_succ])
 by_cases h1:i<s.nodes.length
 ·have e1 : decide ((i : Int) < ((s.nodes.length : Nat) : Int)) = true := decide_eq_true (by omega)
  have hw:=ag_ h1 (by omega);have hgd:=bQ_ h1;have hs:=Pn_ s.nodes i;generalize wv_ s.nodes i=p at *;obtain⟨⟨pj,pf⟩,sm⟩:=p;have hc:Ar_ s.nodes i (⟨pj,pf⟩,sm)=if (nod s.nodes i).status=2 then (⟨pj,pf⟩,sm)else (⟨if sm=false∨pj.ep<(nod s.nodes i).blk.pul.j.ep then (nod s.nodes i).blk.pul.j else pj,if sm=false∨pf.ep<(nod s.nodes i).blk.pul.f.ep then (nod s.nodes i).blk.pul.f else pf⟩,true):=rfl
  by_cases h2:(nod s.nodes i).status=2
  ·have e2:((nod s.nodes i).status==2)=true:=by simp[h2]
   rw[if_pos h2]at hc;repeat(first|refine aa_ ?_|simp only[go_sem,e1])
   refine ac_ ?_;repeat(first|refine aa_ ?_|simp only[go_sem,hgd,e2])
   refine ac_ ?_;repeat(first|refine aa_ ?_|simp only[go_sem,hw])
   refine⟨i+1,h1,by omega,?_⟩;rw[hs,hc];exact Sn_ [] [0,1,2]
  ·have e2:((nod s.nodes i).status==2)=false:=by simp[h2]
   rw[if_neg h2]at hc;repeat(first|refine aa_ ?_|simp only[go_sem,e1])
   refine ac_ ?_;repeat(first|refine aa_ ?_|simp only[go_sem,hgd,e2])
   refine ab_ ?_;cases sm with
   | false =>
     rw[if_pos (.inl rfl),if_pos (.inl rfl)]at hc;try refine aa_ ?_
     refine Rf_ ?_
     refine ac_ ?_;repeat(first|refine aa_ ?_|simp only[go_sem,hw])
     refine⟨i+1,h1,by omega,?_⟩;rw[hs,hc];exact Sn_ [] [0,1,2]
   | true =>
     by_cases q1:pj.ep<(nod s.nodes i).blk.pul.j.ep
     ·have k1:decide ((nod s.nodes i).blk.pul.j.ep > pj.ep)=true:=decide_eq_true q1
      have k1':decide (pj.ep<(nod s.nodes i).blk.pul.j.ep)=true:=decide_eq_true q1;rw[if_pos (.inr q1)]at hc;by_cases q2:pf.ep<(nod s.nodes i).blk.pul.f.ep
      ·have k2:decide ((nod s.nodes i).blk.pul.f.ep > pf.ep)=true:=decide_eq_true q2;have k2':decide (pf.ep<(nod s.nodes i).blk.pul.f.ep)=true:=decide_eq_true q2;rw[if_pos (.inr q2)]at hc;repeat(first|refine aa_ ?_|simp only[go_sem,k1,k1'])
       refine ac_ ?_;repeat(first|refine aa_ ?_|simp only[go_sem,k2,k2'])
       refine ac_ ?_;repeat(first|refine aa_ ?_|simp only[go_sem,hw])
       refine⟨i+1,h1,by omega,?_⟩;rw[hs,hc];exact Sn_ [] [0,1,2]
      ·have k2:decide ((nod s.nodes i).blk.pul.f.ep > pf.ep)=false:=decide_eq_false q2;have k2':decide (pf.ep<(nod s.nodes i).blk.pul.f.ep)=false:=decide_eq_false q2;rw[if_neg (by simp[q2])]at hc;repeat(first|refine aa_ ?_|simp only[go_sem,k1,k1'])
       refine ac_ ?_;repeat(first|refine aa_ ?_|simp only[go_sem,k2,k2'])
       refine ab_ ?_;repeat(first|refine aa_ ?_|simp only[go_sem,hw])
       refine⟨i+1,h1,by omega,?_⟩;rw[hs,hc];exact Sn_ [] [0,1,2]
     ·have k1:decide ((nod s.nodes i).blk.pul.j.ep > pj.ep)=false:=decide_eq_false q1
      have k1':decide (pj.ep<(nod s.nodes i).blk.pul.j.ep)=false:=decide_eq_false q1;rw[if_neg (by simp[q1])]at hc;by_cases q2:pf.ep<(nod s.nodes i).blk.pul.f.ep
      ·have k2:decide ((nod s.nodes i).blk.pul.f.ep > pf.ep)=true:=decide_eq_true q2;have k2':decide (pf.ep<(nod s.nodes i).blk.pul.f.ep)=true:=decide_eq_true q2;rw[if_pos (.inr q2)]at hc;repeat(first|refine aa_ ?_|simp only[go_sem,k1,k1'])
       refine ab_ ?_;repeat(first|refine aa_ ?_|simp only[go_sem,k2,k2'])
       refine ac_ ?_;repeat(first|refine aa_ ?_|simp only[go_sem,hw])
       refine⟨i+1,h1,by omega,?_⟩;rw[hs,hc];exact Sn_ [] [0,1,2]
      ·have k2:decide ((nod s.nodes i).blk.pul.f.ep > pf.ep)=false:=decide_eq_false q2;have k2':decide (pf.ep<(nod s.nodes i).blk.pul.f.ep)=false:=decide_eq_false q2;rw[if_neg (by simp[q2])]at hc;repeat(first|refine aa_ ?_|simp only[go_sem,k1,k1'])
       refine ab_ ?_;repeat(first|refine aa_ ?_|simp only[go_sem,k2,k2'])
       refine ab_ ?_;repeat(first|refine aa_ ?_|simp only[go_sem,hw])
       refine⟨i+1,h1,by omega,?_⟩;rw[hs,hc];exact Sn_ [] [0,1,2]
 ·obtain rfl:i=s.nodes.length:=by omega
  have e1:decide (((s.nodes.length:Nat):Int)<((s.nodes.length:Nat):Int))=false:=decide_eq_false (by omega);repeat(first|refine aa_ ?_|simp only[go_sem,e1])
  refine Re_ ?_
  exact ah_
theorem GQ_(s:al_)(r:Rt)(h:StR s):PC Tryz.prog 174 [.agg (ao_ s.a),.agg (rtc r)] (.bool (pC_ s r)):=by
 refine PC.fact 6 yj_ (by simp) puA puA ?_;unfold oC_;refine bd ?_;have c1:=bJ_ s.nodes r h.bn;have hb:=h.bo;unfold pC_;try refine aa_ ?_
 generalize hR:((jV_ (fun i=>decide ((eS_ s.orph i).root=r)) s.orph.length).isSome || decide (0≤av_ s.nodes r))=R;refine aG_ (fun i:Nat=>[(5,.int .i64 i)]) (fun _=>[.var (ao_ s.a),.var (rtc r)]) (fun i=>s.orph.length-i) (fun i=>i≤s.orph.length∧R=((hL_ (fun i=>decide ((eS_ s.orph i).root=r)) (s.orph.length-i) i).isSome || decide (0≤av_ s.nodes r))) 0 ⟨Nat.zero_le _,hR.symm⟩ ?_ ?_
 ·exact Sn_ [] [0,1]
 clear hR;rintro i ⟨hi,hn⟩;rw[hn];(try simp only[aF_,aA_,List.set_cons_zero,List.set_cons_succ])
 by_cases h1:i<s.orph.length
 ·have e1:decide ((i:Int)<((s.orph.length:Nat):Int))=true:=decide_eq_true (by omega)
  have hw:=ag_ h1 (by omega);have hgd:(rows aw_ s.orph).getD i []=aw_ (eS_ s.orph i):=cw_ (f:=aw_) bj_ h1;repeat(first|refine aa_ ?_|simp only[go_sem,e1])
  refine ac_ ?_;repeat(first|refine aa_ ?_|simp only[go_sem,hgd])
  refine aZ_ (fun h=>?_) (fun h=>?_)
  ·rw[mT_ h1 h];try refine aa_ ?_
   exact ah_
  ·rw[mS_ h1 h];repeat(first|refine aa_ ?_|simp only[go_sem,hw])
   refine⟨i+1,⟨h1,rfl⟩,by omega,?_⟩;exact Sn_ [] [0,1]
 ·obtain rfl:i=s.orph.length:=by omega
  have e1:decide (((s.orph.length:Nat):Int)<((s.orph.length:Nat):Int))=false:=decide_eq_false (by omega);rw[mR_];repeat(first|refine aa_ ?_|simp only[go_sem,e1])
  refine Re_ ?_
  refine RV_ c1 ?_
  exact ah_
end Go.Proofs.YtipiipgpnkpejaaGreat
