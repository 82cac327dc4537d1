/-
 My texts Jf, Jg, Pa, Lk, Ll, Lm, Ln, Lo, Lp, Pc, joined.
-/
import Derived.Test.YtkgimpdgncakjaaW3
import Derived.Test.YtkgimpdgncakjaaV4
import Derived.Test.YtkgimpdgncakjaaW6
import Derived.Test.YtkgimpdgncakjaaW9
namespace Go.FH
set_option linter.unusedVariables false
open Go Go.RowKit
structure cd_(t:List Nod):Prop where
 ok:hE_ t
 pos:0<t.length
 root:(nod t 0).up<0
def ce_(s:ag_)(slot:Int):Int:=IntKind.u64.wrap (Int.tdiv slot s.cfg.spe)
def sg_(s:ag_)(i:Int):Cp:=if isN s.nodes i=true then (if ce_ s (nod s.nodes i.toNat).blk.slot<ce_ s s.now then (nod s.nodes i.toNat).blk.pul.j else (nod s.nodes i.toNat).blk.just)else cp0
def Ft_(s:ag_)(i:Int):Bool:=isN s.nodes i&&decide ((nod s.nodes i.toNat).status≠2)&&(decide (s.j.ep=0) || decide ((sg_ s i).ep=s.j.ep) || decide (ce_ s s.now≤(sg_ s i).ep) || decide (IntKind.u64.wrap (ce_ s s.now-(sg_ s i).ep)≤2))
def DJ_(s:ag_):Nat→Int→Bool
 |0,_=>false
 |f+1,i=>Ft_ s i || (Aw_ s.nodes i).any (DJ_ s f)
def Ek_(s:ag_)(i:Int):Bool:=DJ_ s (s.nodes.length+2) i
def Fk_(s:ag_)(i:Nat)(l:List Bool):List Bool:=l++[Ek_ s i]
def Fl_(s:ag_):List Bool:=bd_ (Fk_ s) [] s.nodes.length
def EP_(s:ag_):List Int:=if kA_ s.tabs s.j<0 then []else (tab s.tabs (kA_ s.tabs s.j).toNat).bals
def BM_(s:ag_):List Int:=GA_ s.nodes (zD_ s.nodes (Ch_ s.nodes s.latest s.eqv (EP_ s)) s.boost (BU_ s.cfg.spe s.cfg.boost (mx_ (EP_ s)).1).1)
def EQ_(t:List Nod)(w:List Int)(a:List Bool)(l:List Int)(k:Nat)(best:Int):Int:=
 if a.getD (l.getD k 0).toNat false=true∧(best<0∨w.getD best.toNat 0<w.getD (l.getD k 0).toNat 0∨(w.getD (l.getD k 0).toNat 0=w.getD best.toNat 0∧0<sT_ (nod t (l.getD k 0).toNat).blk.root (nod t best.toNat).blk.root))then l.getD k 0 else best
def Dy_(t:List Nod)(w:List Int)(a:List Bool)(i:Int):Int:=bd_ (EQ_ t w a (Aw_ t i)) (-1) (Aw_ t i).length
def DF_(t:List Nod)(w:List Int)(a:List Bool):Nat→Int→Int
 |0,i=>i
 |f+1,i=>if Dy_ t w a i<0 then i else DF_ t w a f (Dy_ t w a i)
def Fg_(s:ag_):Int:=DF_ s.nodes (BM_ s) (Fl_ s) (s.nodes.length+1) (al_ s.nodes s.j.rt)
def fR_(s:ag_)(e:Int):Int×Bool:=((bL_ e s.cfg.spe).1,decide ((bL_ e s.cfg.spe).2=0))
def Gy_(s:ag_)(b:Blk):Bool:=decide (b.fin.ep≤b.just.ep)&&decide (b.just.ep≤b.pul.j.ep)&&decide (b.fin.ep≤b.pul.f.ep)&&decide (b.pul.f.ep≤b.pul.j.ep)&&decide (b.pul.j.ep≤ce_ s b.slot)
def Gu_(s:ag_)(b:Blk)(p:Int)(c:Cp):Bool:=decide (c.ep≤s.f.ep) || (if (fR_ s c.ep).1<b.slot then decide (0≤atT s.nodes p (fR_ s c.ep).1)&&decide ((nod s.nodes (atT s.nodes p (fR_ s c.ep).1).toNat).blk.root=c.rt)else decide (b.root=c.rt))
def cps(b:Blk):List Cp:=[b.just,b.fin,b.pul.j,b.pul.f]
def Fe_(s:ag_)(b:Blk):Bool:=decide (0≤al_ s.nodes b.parent)&&(Gy_ s b&&(cb_ (fun k=>!Gu_ s b (al_ s.nodes b.parent) ((cps b).getD k cp0)) 4).isNone)
def vb_(s:ag_)(i e:Int):Bool:=!(fR_ s e).2 || decide ((nod s.nodes i.toNat).blk.slot≤(fR_ s e).1)
def cA_(a b:Cp):Cp:=if a.ep<b.ep then b else a
def rH_(s:ag_)(a b:Cp):Bool:=
 decide (0≤al_ s.nodes a.rt)&&decide (0≤al_ s.nodes b.rt)&&decide ((nod s.nodes (al_ s.nodes a.rt).toNat).status≠2)&&decide ((nod s.nodes (al_ s.nodes b.rt).toNat).status≠2)
 && vb_ s (al_ s.nodes a.rt) a.ep&&vb_ s (al_ s.nodes b.rt) b.ep&&dg_ s.nodes (al_ s.nodes b.rt) (al_ s.nodes a.rt)&&decide (b.ep≤a.ep)&&decide (a.ep≤ce_ s s.now)&&decide (0≤kA_ s.tabs a)
def kE_(l:List Blk)(a:Int)(i:Nat)(o:List Blk):List Blk:=if a<(l.getD i eW_).slot then o++[l.getD i eW_]else o
def cN_(s:ag_)(j f:Cp):ag_:=
 if rH_ s (cA_ s.j j) (cA_ s.f f)=false then s
 else if cA_ s.f f=s.f then ⟨s.cfg,s.latest,s.eqv,cA_ s.j j,cA_ s.f f,s.early,s.orph,s.nodes,s.now,s.boost,cW_ s.tabs (cA_ s.j j).ep⟩
 else ⟨s.cfg,s.latest,s.eqv,cA_ s.j j,cA_ s.f f,s.early,bd_ (kE_ s.orph (fR_ s (cA_ s.f f).ep).1) [] s.orph.length,(ef_ s.nodes (al_ s.nodes (cA_ s.f f).rt)).1,s.now,
  if al_ (ef_ s.nodes (al_ s.nodes (cA_ s.f f).rt)).1 s.boost<0 then rt0 else s.boost,cW_ s.tabs (cA_ s.j j).ep⟩
def qA_(t:List Nod)(i:Nat)(p:Pul×Bool):Pul×Bool:=
 if (nod t i).status=2 then p else (⟨if p.2=false∨p.1.j.ep<(nod t i).blk.pul.j.ep then (nod t i).blk.pul.j else p.1.j,if p.2=false∨p.1.f.ep<(nod t i).blk.pul.f.ep then (nod t i).blk.pul.f else p.1.f⟩,true)
def fd_(s:ag_):Pul:=(bd_ (qA_ s.nodes) (tU_,false) s.nodes.length).1
def gT_(l:List Blk)(i:Nat):Blk:=l.getD i eW_
def rG_(s:ag_)(r:Rt):Bool:=(cb_ (fun i=>decide ((gT_ s.orph i).root=r)) s.orph.length).isSome || decide (0≤al_ s.nodes r)
def takeO(l:List Blk)(i:Nat):List Blk:=l.take i++l.drop (i+1)
def ht_(s:ag_):Int:=mk_ (cb_ (fun i=>decide (0≤al_ s.nodes (gT_ s.orph i).parent)) s.orph.length)
theorem BJ_(s:ag_):-1≤ht_ s∧ht_ s<s.orph.length:=by
 unfold ht_;cases h:cb_ (fun i=>decide (0≤al_ s.nodes (gT_ s.orph i).parent)) s.orph.length with
 |none=>rw[iH_];omega
 |some k=>have:=dj_ h;rw[fs_];omega
def lR_(s:ag_)(t:List Nod):ag_:=⟨s.cfg,s.latest,s.eqv,s.j,s.f,s.early,s.orph,t,s.now,s.boost,s.tabs⟩
def withO(s:ag_)(l:List Blk):ag_:=⟨s.cfg,s.latest,s.eqv,s.j,s.f,s.early,l,s.nodes,s.now,s.boost,s.tabs⟩
def withE(s:ag_)(l:List aB_):ag_:=⟨s.cfg,s.latest,s.eqv,s.j,s.f,l,s.orph,s.nodes,s.now,s.boost,s.tabs⟩
def withB(s:ag_)(r:Rt):ag_:=⟨s.cfg,s.latest,s.eqv,s.j,s.f,s.early,s.orph,s.nodes,s.now,r,s.tabs⟩
def withL(s:ag_)(l:List Vot):ag_:=⟨s.cfg,l,s.eqv,s.j,s.f,s.early,s.orph,s.nodes,s.now,s.boost,s.tabs⟩
def FH_(s:ag_)(l:List Int):ag_:=⟨s.cfg,s.latest,l,s.j,s.f,s.early,s.orph,s.nodes,s.now,s.boost,s.tabs⟩
def withT(s:ag_)(l:List as_):ag_:=⟨s.cfg,s.latest,s.eqv,s.j,s.f,s.early,s.orph,s.nodes,s.now,s.boost,l⟩
def ct_:ag_:=⟨⟨Cq_,0,0,wd0,rt0,[]⟩,[],[],cp0,cp0,[],[],[],0,rt0,[]⟩
theorem gg_{t:List Nod}{n:Nod}{i:Nat}:nod (t++[n]) i=if i<t.length then nod t i else if i=t.length then n else fX_:=by
 unfold nod;simp only[List.getD_eq_getElem?_getD];by_cases h:i<t.length
 ·rw[if_pos h,List.getElem?_append_left h]
 ·rw[if_neg h,List.getElem?_append_right (by omega)];by_cases h2:i=t.length
  ·subst h2;simp
  ·rw[if_neg h2,List.getElem?_eq_none (by simp;omega)];rfl
theorem iE_{t:List Nod}{r:Rt}{k:Nat}(hk:k<t.length)(h:(nod t k).blk.root=r):0≤al_ t r:=by
 unfold al_;cases h1:cb_ (fun i=>decide ((nod t i).blk.root=r)) t.length with
 |none=>have:=lg_ h1 k hk;simp[h]at this
 |some i=>rw[fs_];omega
theorem kz_{t:List Nod}{r:Rt}(h:0≤al_ t r):(al_ t r).toNat<t.length∧(nod t (al_ t r).toNat).blk.root=r:=by
 unfold al_ at *;cases h1:cb_ (fun i=>decide ((nod t i).blk.root=r)) t.length with
 |none=>rw[h1,iH_]at h;omega
 |some i=>rw[fs_];have:=dj_ h1;exact⟨by simpa using this.1,by simpa using this.2.1⟩
theorem cd_.snoc{t:List Nod}(ht:cd_ t){n:Nod}(h0:0≤n.up)(h1:n.up<t.length):cd_ (t++[n]):=by
 refine⟨fun i hi hl=>?_,by simp,?_⟩
 ·rw[gg_];by_cases h:i<t.length
  ·rw[if_pos h];exact ht.ok i hi h
  ·rw[if_neg h,if_pos (by simp at hl;omega)];simp at hl;omega
 ·rw[gg_,if_pos ht.pos];exact ht.root
theorem wB_{t:List Nod}{b:Blk}{st:Int}(h:(lh_ t b st).2=0):(lh_ t b st).1=t++[⟨b,al_ t b.parent,st⟩]∧0≤al_ t b.parent:=by
 unfold lh_ at *;split at h
 ·simp at h
 ·rename_i h1
  rw[if_neg h1];split at h
  ·simp at h
  ·rename_i h2
   rw[if_neg h2];split at h
   ·simp at h
   ·rename_i h3
    rw[if_neg h3];split at h
    ·simp at h
    ·rename_i h4
     rw[if_neg h4];split at h
     ·simp at h
     ·rename_i h5;rw[if_neg h5];exact⟨rfl,by omega⟩
theorem cd_.ins{t:List Nod}(ht:cd_ t){b:Blk}{st:Int}(h:(lh_ t b st).2=0):cd_ (lh_ t b st).1:=by
 obtain⟨h1,h2⟩:=wB_ h;rw[h1];have h3:=kz_ h2;exact ht.snoc (n:=⟨b,al_ t b.parent,st⟩) h2 (show al_ t b.parent<t.length by omega)
theorem kT_{t:List Nod}(ht:cd_ t){i:Nat}(hi:i<t.length):dg_ t i i=true:=by
 unfold dg_;rcases Nat.eq_zero_or_pos i with h|h
 ·subst h;rw[show ((0:Nat):Int)=0 from rfl,mG_ hi];simp
 ·rw[mH_ ht.ok h hi];simp
theorem BV_{t:List Nod}(ht:cd_ t){a b:Int}(h:dg_ t a b=true):0≤a∧a≤b∧a<t.length:=by
 unfold dg_ at h;exact jS_ ht.ok (by simpa using h)
theorem BW_{t:List Nod}(ht:cd_ t){a:Int}{k:Nat}(hk:k<t.length)(h:dg_ t a k=true)(hne:(k:Int)≠a):0<k∧dg_ t a (nod t k).up=true:=by
 unfold dg_ at *;rcases Nat.eq_zero_or_pos k with h0|h0
 ·subst h0;rw[show ((0:Nat):Int)=0 from rfl,mG_ hk]at h;simp at h;exact absurd h.symm hne
 ·rw[mH_ ht.ok h0 hk]at h;simp at h;refine⟨h0,?_⟩;rcases h with h|h
  ·simpa using h
  ·exact absurd h.symm hne
structure Gb_(t:List Nod)(i0:Int)(k:Nat)(p:List Nod×List Int):Prop where
 len:p.2.length=k
 kept:∀m:Nat,m<k→dg_ t i0 m=true→0≤p.2.getD m 0∧p.2.getD m 0<p.1.length∧(nod p.1 (p.2.getD m 0).toNat).blk=(nod t m).blk
 up:∀u:Nat,0<u→u<p.1.length→0≤(nod p.1 u).up∧(nod p.1 u).up<u
 root:0<p.1.length→(nod p.1 0).up<0
 some:0<p.1.length→∃m:Nat,m<k∧dg_ t i0 m=true
 blks:∀u:Nat,u<p.1.length→∃m:Nat,m<t.length∧(nod p.1 u).blk=(nod t m).blk
 le:p.1.length≤k
theorem fH_{l:List Int}{x:Int}{m:Nat}:(l++[x]).getD m 0=if m<l.length then l.getD m 0 else if m=l.length then x else 0:=by
 simp only[List.getD_eq_getElem?_getD];by_cases h:m<l.length
 ·rw[if_pos h,List.getElem?_append_left h]
 ·rw[if_neg h,List.getElem?_append_right (by omega)];by_cases h2:m=l.length
  ·subst h2;simp
  ·rw[if_neg h2,List.getElem?_eq_none (by simp;omega)];rfl
theorem vI_{t:List Nod}(ht:cd_ t)(i0:Int):∀k,k≤t.length→Gb_ t i0 k (bd_ (bt_ t i0) ([],[]) k)
 |0,_=>⟨rfl,fun m h=>absurd h (Nat.not_lt_zero _),fun u _ h=>absurd h (Nat.not_lt_zero _),fun h=>absurd h (Nat.lt_irrefl _),fun h=>absurd h (Nat.lt_irrefl _),fun u h=>absurd h (Nat.not_lt_zero _),Nat.le_refl _⟩
 | k + 1, hk => by
   have ih:=vI_ ht i0 k (by omega);rw[dq_];generalize bd_ (bt_ t i0) ([],[]) k=p at *;obtain⟨kp,ix⟩:=p;obtain⟨l1,l2,l3,l4,l5,l6,l7⟩:=ih;dsimp only at l1 l2 l3 l4 l5 l6 l7;unfold bt_;by_cases ha:dg_ t i0 k=true
   ·rw [if_pos ha]
    dsimp only
    have hup:0<kp.length→(k:Int)≠i0:=by
     intro h he;obtain⟨m,h1,h2⟩:=l5 h;have:=BV_ ht h2;omega
    have hu:(k:Int)≠i0→0≤ix.getD (nod t k).up.toNat 0∧ix.getD (nod t k).up.toNat 0<kp.length:=by
     intro h;obtain⟨h0,h1⟩:=BW_ ht (by omega) ha h;obtain⟨h2,h3⟩:=ht.ok k h0 (by omega);have:=l2 (nod t k).up.toNat (by omega) (by rw[Int.toNat_of_nonneg h2];exact h1);exact⟨this.1,this.2.1⟩
    refine⟨by simp[l1],fun m hm hm2=>?_,fun u h0 h1=>?_,fun h=>?_,fun _=>⟨k,by omega,ha⟩,fun u h=>?_,by simp;omega⟩
    ·rw[fH_]
     by_cases hmk:m<k
     ·rw[if_pos (by omega)];obtain⟨a1,a2,a3⟩:=l2 m hmk hm2;refine⟨a1,by simp only[List.length_append,List.length_cons,List.length_nil];omega,?_⟩;rw[gg_,if_pos (by omega)];exact a3
     ·obtain rfl:m=k:=by omega
      rw[if_neg (by omega),if_pos (by omega)];refine⟨by omega,by simp only[List.length_append,List.length_cons,List.length_nil];omega,?_⟩;rw[gg_,if_neg (by simp),if_pos (by simp)]
    ·rw[gg_]
     by_cases hu2:u<kp.length
     ·rw[if_pos hu2];exact l3 u h0 hu2
     ·simp at h1;obtain rfl:u=kp.length:=by omega
      rw[if_neg hu2,if_pos rfl];dsimp only;have hne:=hup h0;rw[if_neg hne];exact hu hne
    ·rw[gg_]
     by_cases hz:0<kp.length
     ·rw[if_pos hz];exact l4 hz
     ·rw[if_neg hz,if_pos (by omega)];dsimp only;by_cases hne:(k:Int)=i0
      ·rw[if_pos hne];omega
      ·have:=hu hne;omega
    ·rw[gg_]
     by_cases hu2:u<kp.length
     ·rw[if_pos hu2];exact l6 u hu2
     ·simp at h;rw[if_neg hu2,if_pos (by omega)];exact⟨k,by omega,rfl⟩
   ·rw [if_neg ha]
    dsimp only;refine⟨by simp[l1],fun m hm hm2=>?_,l3,l4,fun h=>?_,l6,show kp.length≤k+1 by omega⟩
    ·by_cases hmk:m<k
     ·rw[fH_,if_pos (by omega)];exact l2 m hmk hm2
     ·obtain rfl:m=k:=by omega
      exact absurd hm2 ha
    ·obtain⟨m,h1,h2⟩:=l5 h;exact⟨m,by omega,h2⟩
theorem cd_.prune{t:List Nod}(ht:cd_ t){i0:Int}(h0:0≤i0)(h1:i0<t.length):cd_ (ef_ t i0).1:=by
 have h:=vI_ ht i0 t.length (Nat.le_refl _);have hs:=h.kept i0.toNat (by omega) (by rw[Int.toNat_of_nonneg h0];have:=kT_ ht (i:=i0.toNat) (by omega);rwa [Int.toNat_of_nonneg h0]at this);exact⟨h.up,by show 0<(bd_ (bt_ t i0) ([],[]) t.length).1.length;omega,h.root (by omega)⟩
theorem tS_{t:List Nod}(ht:cd_ t){i0:Int}{r:Rt}(h:0≤al_ t r)(ha:dg_ t i0 (al_ t r)=true):0≤al_ (ef_ t i0).1 r:=by
 have h1:=vI_ ht i0 t.length (Nat.le_refl _);obtain⟨h2,h3⟩:=kz_ h;obtain⟨h4,h5,h6⟩:=h1.kept (al_ t r).toNat h2 (by rw[Int.toNat_of_nonneg h];exact ha);exact iE_ (k:=((bd_ (bt_ t i0) ([],[]) t.length).2.getD (al_ t r).toNat 0).toNat) (by show _<(bd_ (bt_ t i0) ([],[]) t.length).1.length;omega) (by show (nod (bd_ (bt_ t i0) ([],[]) t.length).1 _).blk.root=r;rw[h6];exact h3)
theorem vK_{t:List Nod}(ht:cd_ t)(i0:Int):∀u:Nat,u<(ef_ t i0).1.length→∃m:Nat,m<t.length∧(nod (ef_ t i0).1 u).blk=(nod t m).blk:=(vI_ ht i0 t.length (Nat.le_refl _)).blks
theorem nW_{t:List Nod}(ht:cd_ t)(i0:Int):(ef_ t i0).1.length≤t.length:=(vI_ ht i0 t.length (Nat.le_refl _)).le
end Go.FH
namespace Go.FH
set_option linter.unusedVariables false
set_option linter.unusedSimpArgs false
open Go Go.RowKit
theorem he_{t:List Nod}{i:Int}:isN t i=true↔0≤i∧i<t.length:=by simp[isN]
theorem vi_{t:List Nod}{i:Int}:isN t i=false↔¬ (0≤i∧i<t.length):=by rw[←he_];simp
theorem zz_{t:List Nod}{i:Int}(slot:Int)(h:isN t i=false):atT t i slot=-1:=by unfold atT;rw[kK_ h];rfl
theorem tN_{t:List Nod}(ht:cd_ t){i:Nat}(hi:i<t.length):cr_ t i=cr_ t (nod t i).up++[(i:Int)]:=by
 rcases Nat.eq_zero_or_pos i with h|h
 ·subst h;have:=ht.root;rw[kK_ (i:=(nod t 0).up) (by rw[vi_];omega)];exact mG_ hi
 ·exact mH_ ht.ok h hi
theorem DX_{t:List Nod}(ht:cd_ t){i:Nat}(hi:i<t.length)(slot:Int):atT t i slot=if (nod t i).blk.slot≤slot then (i:Int)else atT t (nod t i).up slot:=by
 unfold atT;rw[tN_ ht hi];generalize cr_ t (nod t i).up=p;have hg:(p++[(i:Int)]).getD p.length 0=i:=by rw[fH_,if_neg (Nat.lt_irrefl _),if_pos rfl]
 rw[List.length_append,List.length_singleton,dq_];simp only[hg,Int.toNat_natCast];split
 ·rfl
 ·refine hi_ fun k x hk=>?_
  rw[fH_,if_pos hk]
theorem rb_{t:List Nod}(ht:cd_ t){a b:Int}(h:isN t a=false∨isN t b=false):dg_ t a b=false:=by
 unfold dg_;rw[decide_eq_false_iff_not];intro hm;rcases h with h|h
 ·have:=jS_ ht.ok hm;rw[vi_]at h;omega
 ·rw[kK_ h]at hm;cases hm
theorem sL_{t:List Nod}(ht:cd_ t){a:Int}{b:Nat}(hb:b<t.length)(hab:a≠b):dg_ t a b=dg_ t a (nod t b).up:=by
 unfold dg_;rw[tN_ ht hb];simp[hab]
theorem zx_{t:List Nod}(ht:cd_ t){a:Int}{b:Nat}(hb:b<t.length)(hab:(b:Int)≤a):dg_ t a b=decide (a=b):=by
 by_cases h:a=b
 ·rw[decide_eq_true h,h];exact kT_ ht hb
 ·rw[decide_eq_false h];unfold dg_;rw[decide_eq_false_iff_not];intro hm;have:=jS_ ht.ok hm;omega
theorem wK_{t:List Nod}(ht:cd_ t)(i0:Int):∀k,k≤t.length→∀m:Nat,m<k→dg_ t i0 m=false→(bd_ (bt_ t i0) ([],[]) k).2.getD m 0=-1
 |0,_,m,hm,_=>by omega
 | k + 1, hk, m, hm, ha => by
   have ih:=wK_ ht i0 k (by omega);have hl:=(vI_ ht i0 k (by omega)).len;rw[dq_];generalize bd_ (bt_ t i0) ([],[]) k=p at *;unfold bt_;by_cases hmk:m<k
   ·split
    ·rw[fH_,if_pos (by omega)];exact ih m hmk ha
    ·rw[fH_,if_pos (by omega)];exact ih m hmk ha
   ·obtain rfl:m=k:=by omega
    rw[if_neg (by rw[ha];simp)];rw[fH_,if_neg (by omega),if_pos (by omega)]
def upP(t:List Nod)(i0:Int)(k:Nat)(ix:List Int):Int:=if (k:Int)≠i0∧0≤(nod t k).up then ix.getD (nod t k).up.toNat 0 else -1
theorem EC_{t:List Nod}(ht:cd_ t)(i0:Int){k:Nat}(hk:k<t.length):dg_ t i0 k=decide ((k:Int)=i0∨0≤upP t i0 k (bd_ (bt_ t i0) ([],[]) k).2)∧
 (dg_ t i0 k=true→upP t i0 k (bd_ (bt_ t i0) ([],[]) k).2=if (k:Int)=i0 then -1 else (bd_ (bt_ t i0) ([],[]) k).2.getD (nod t k).up.toNat 0):=by
 have h1:=vI_ ht i0 k (by omega);have h2:=wK_ ht i0 k (by omega);generalize bd_ (bt_ t i0) ([],[]) k=p at *;unfold upP;by_cases hki:(k:Int)=i0
 ·have hs:=kT_ ht hk;rw[hki]at hs;simp[hki,hs]
 ·rw [sL_ ht hk (fun h => hki h.symm)]
  by_cases hu:0≤(nod t k).up
  ·have hlt:(nod t k).up<k:=by
    rcases Nat.eq_zero_or_pos k with h|h
    ·subst h;have:=ht.root;omega
    ·exact(ht.ok k h hk).2
   have hc:((nod t k).up.toNat:Int)=(nod t k).up:=Int.toNat_of_nonneg hu;have hn:=h2 (nod t k).up.toNat (by omega);have hy:=h1.kept (nod t k).up.toNat (by omega);rw[hc]at hn hy;have hy1:=fun h=>(hy h).1
   clear hy;generalize p.2.getD (nod t k).up.toNat 0=q at *;cases ha:dg_ t i0 (nod t k).up with
   |true=>have:=hy1 ha;simp[hki,hu,this]
   |false=>have:=hn ha;simp[hki,hu,this]
  ·rw[rb_ ht (.inr (by rw[vi_];omega))];simp[hki,hu]
end Go.FH
namespace Go.Proofs.Ytkgimpdgncakjaa
open Go Go.FH Go.RowKit
set_option linter.unusedVariables false
set_option linter.unusedSimpArgs false
structure StR(s:ag_):Prop where
 tree:cd_ s.nodes
 spe:s.cfg.spe≠0
 bn:s.nodes.length≤1000000
 bl:s.latest.length≤1000000
 be:s.eqv.length≤1000000
 bt:s.tabs.length≤1000000
 bb:∀t∈s.tabs,t.bals.length≤1000000
 bo:s.orph.length≤1000000
 ba:s.early.length≤1000000
 nl:s.cfg.lim.node≤4096
 ll:s.latest.length=s.cfg.bals.length
 jf:0≤al_ s.nodes s.j.rt
end Go.Proofs.Ytkgimpdgncakjaa
namespace Go.Proofs.Ytkgimpdgncakjaa
open Go Go.FH Go.RowKit
set_option linter.unusedVariables false
set_option linter.unusedSimpArgs false
set_option maxRecDepth 8000
set_option maxHeartbeats 4000000
end Go.Proofs.Ytkgimpdgncakjaa
namespace Go.Proofs.Ytkgimpdgncakjaa
open Go Go.FH Go.RowKit
set_option linter.unusedVariables false
set_option linter.unusedSimpArgs false
theorem wY_:Wk (.agg (ak_ kQ_)) (.agg (ak_ ct_.a)):=by
 refine Wk.agg ?_;unfold kQ_ ct_ ag_.a ak_;dsimp only;refine WkC.app ?_ ?_
 ·unfold mZ_ aX_.a aU_;dsimp only;exact(WkC.refl _).app (.same _ (.same _ ((WkC.refl _).app ((WkC.refl _).app (.one (Wk.empty _ _ _) fun h=>h)))))
 ·exact .cons (Wk.empty _ _ _) (fun h=>h) (.cons (Wk.empty _ _ _) (fun h=>h) ((WkC.refl _).app ((WkC.refl _).app (.cons (Wk.empty _ _ _) (fun h=>h) (.cons (Wk.empty _ _ _) (fun h=>h) (.cons (Wk.empty _ _ _) (fun h=>h) (.same _ ((WkC.refl _).app (.one (Wk.empty _ _ _) fun h=>h)))))))))
def fG_(s:ag_)(b:Blk):Int:=
 if b.root=rt0 then 2 else if rG_ s b.root=true then 9 else if s.now<b.slot then 12 else if b.slot≤(fR_ s s.f.ep).1 then 13
 else if al_ s.nodes b.parent<0 then 10 else if b.slot≤(nod s.nodes (al_ s.nodes b.parent).toNat).blk.slot then 14
 else if (nod s.nodes (al_ s.nodes b.parent).toNat).status=2 then 15 else if Fe_ s b=false then 16
 else if Fd_ s.cfg.ttd (nod s.nodes (al_ s.nodes b.parent).toNat).blk b=false then 17 else if s.cfg.lim.node≤s.nodes.length then 11 else 0
def dm_(s:ag_)(a:aB_):Bool×Int:=
 if fV_ a.vals s.cfg.bals.length≠0 then (false,fV_ a.vals s.cfg.bals.length)
 else if a.target.ep≠ce_ s a.slot∨(a.target.ep≠ce_ s s.now∧(ce_ s s.now=0∨a.target.ep≠IntKind.u64.wrap (ce_ s s.now-1)))then (false,18)
 else if al_ s.nodes a.root<0∨al_ s.nodes a.target.rt<0 then (false,10)
 else if a.slot<(nod s.nodes (al_ s.nodes a.root).toNat).blk.slot then (false,14)
 else if atT s.nodes (al_ s.nodes a.root) (fR_ s a.target.ep).1≠al_ s.nodes a.target.rt then (false,19)
 else (decide (s.now≤a.slot),0)
def castIn(s:ag_)(a:aB_):ag_:=withL s (Dz_ s.latest a.target.ep a.root a.vals).1
def wit(n lo hi:Int):Bool:=decide (lo≤n)&&decide (n≤hi)
def hg_(c:aX_):Int:=
 if c.spe<1 then 3 else if 64<c.spe then 3 else if 100<c.boost then 3 else if 1024<(c.bals.length:Int)then 3 else if wit c.lim.node 1 4096=false then 3 else if wit c.lim.orph 0 64=false then 3
 else if wit c.lim.early 0 256=false then 3 else if wit c.lim.table 1 64=false then 3 else if wit c.lim.retry 0 256=false then 3 else if c.lim.backoff<1 then 3 else if 1048576<c.lim.backoff then 3
 else if c.gen=rt0 then 2 else dD_ ⟨⟨0,c.gen⟩,c.bals⟩ c.bals.length
def pr_(r:Rt):Blk:=⟨⟨⟨0,r⟩,⟨0,r⟩⟩,0,r,rt0,rt0,wd0,wd0,⟨0,r⟩,⟨0,r⟩,false⟩
def cv_(c:aX_):ag_:=⟨c,List.replicate c.bals.length eu_,[],⟨0,c.gen⟩,⟨0,c.gen⟩,[],[],[⟨pr_ c.gen,-1,1⟩],0,rt0,[⟨⟨0,c.gen⟩,c.bals⟩]⟩
def kJ_(c:aX_):ag_×Int:=if hg_ c=0 then (cv_ c,0)else (ct_,hg_ c)
def dG_(l:List aB_)(i:Nat):aB_:=l.getD i default
def tickA(s:ag_):ag_:=⟨s.cfg,s.latest,s.eqv,s.j,s.f,s.early,s.orph,s.nodes,IntKind.u64.wrap (s.now+1),rt0,s.tabs⟩
def tickB(s:ag_):ag_:=if IntKind.u64.wrap (Int.tmod s.now s.cfg.spe)=0 then cN_ s (fd_ s).j (fd_ s).f else s
def tickR(l:List aB_)(i:Nat)(s:ag_):ag_:=if s.now≤(dG_ l i).slot then withE s (s.early++[dG_ l i])else if (dm_ s (dG_ l i)).2=0 then castIn s (dG_ l i)else s
def tickC(s:ag_)(l:List aB_):ag_:=bd_ (tickR l) (withE s []) l.length
def fT_(s:ag_):ag_×Int:=if 1099511627776≤s.now then (ct_,3)else (tickC (tickB (tickA s)) (tickB (tickA s)).early,0)
def Aq_(s:ag_)(b:Blk):ag_:=
 if ce_ (cN_ (lR_ s (lh_ s.nodes b (jC_ b)).1) b.just b.fin) b.slot<ce_ (cN_ (lR_ s (lh_ s.nodes b (jC_ b)).1) b.just b.fin) (cN_ (lR_ s (lh_ s.nodes b (jC_ b)).1) b.just b.fin).now
 then cN_ (cN_ (lR_ s (lh_ s.nodes b (jC_ b)).1) b.just b.fin) b.pul.j b.pul.f else cN_ (lR_ s (lh_ s.nodes b (jC_ b)).1) b.just b.fin
def waitR(p:ag_×List Rt):ag_×List Rt:=
 if fG_ (withO p.1 (takeO p.1.orph (ht_ p.1).toNat)) (gT_ p.1.orph (ht_ p.1).toNat)=0
 then (Aq_ (withO p.1 (takeO p.1.orph (ht_ p.1).toNat)) (gT_ p.1.orph (ht_ p.1).toNat),p.2++[(gT_ p.1.orph (ht_ p.1).toNat).root])
 else (withO p.1 (takeO p.1.orph (ht_ p.1).toNat),p.2)
def waitG:Nat→ag_×List Rt→ag_×List Rt
 |0,p=>p
 |f+1,p=>if ht_ p.1<0 then p else waitG f (waitR p)
def noT(b:Blk):Blk:=⟨b.pul,b.slot,b.root,b.parent,b.payload,b.diff,b.pdiff,b.just,b.fin,false⟩
def blockI(s:ag_)(b:Blk):ag_:=if b.timely=true∧b.slot=s.now∧s.boost=rt0 then withB (Aq_ s b) b.root else Aq_ s b
def en_(s:ag_)(b:Blk):ag_×List Rt×Int:=
 if fG_ s b=10 then (if s.cfg.lim.orph≤s.orph.length then (ct_,[],11)else (withO s (s.orph++[noT b]),[],0))
 else if fG_ s b≠0 then (ct_,[],fG_ s b)
 else ((waitG ((blockI s b).orph.length+1) (blockI s b,[b.root])).1,(waitG ((blockI s b).orph.length+1) (blockI s b,[b.root])).2,0)
def re_(s:ag_)(a:aB_):ag_×Int:=
 if (dm_ s a).2≠0 then (ct_,(dm_ s a).2)else if (dm_ s a).1=false then (castIn s a,0)
 else if s.cfg.lim.early≤s.early.length then (ct_,11)else (withE s (s.early++[a]),0)
def vU_(s:ag_)(t:as_):ag_×Int:=
 if dD_ t s.cfg.bals.length≠0 then (ct_,dD_ t s.cfg.bals.length)else if t.cp.ep<s.j.ep then (ct_,13)
 else if (jU_ s.tabs t s.cfg.bals.length s.cfg.lim.table).2≠0 then (ct_,(jU_ s.tabs t s.cfg.bals.length s.cfg.lim.table).2)
 else (withT s (jU_ s.tabs t s.cfg.bals.length s.cfg.lim.table).1,0)
def nU_(t:List Nod)(k:Nat):Pul×Bool:=bd_ (qA_ t) (tU_,false) k
theorem Cy_(t:List Nod)(k:Nat):nU_ t (k+1)=qA_ t k (nU_ t k):=rfl
end Go.Proofs.Ytkgimpdgncakjaa
namespace Go.FH
open Go Go.RowKit
set_option linter.unusedVariables false
set_option linter.unusedSimpArgs false
def mrt(l:List Rt):List (List AV):=l.map fun r=>[.agg (rtc r),.bool true]
theorem vw_(l:List Rt):(mrt l).length=l.length:=by simp[mrt]
theorem tA_(r:Rt):gJ_ (some 32) (.agg (rtc r))=true:=by
 simp only[gJ_];exact tg_ r
theorem nP_(r:Rt):∀l:List Rt,hA_ (some 32) (.agg (rtc r)) (mrt l)=some (l.findIdx? fun x=>decide (r=x))
 | []=>rfl
 | a :: m => by
   have ih:=nP_ r m;simp only[mrt,List.map_cons,hA_,tA_,if_true,keq,ez_]at ih ⊢;rw[ih,List.findIdx?_cons];by_cases h:r=a
   ·simp[h]
   ·simp[h]
theorem lm_{r:Rt}{l:List Rt}(h:r∉l):hA_ (some 32) (.agg (rtc r)) (mrt l)=some none:=by
 rw[nP_,List.findIdx?_eq_none_iff.2 fun x hx=>by simp;rintro rfl;exact h hx]
theorem iI_{r:Rt}{l:List Rt}(h:r∈l):∃j,hA_ (some 32) (.agg (rtc r)) (mrt l)=some (some j)∧((mrt l).getD j []).getD 1 .dead=.bool true∧(mrt l).set j [.agg (rtc r),.bool true]=mrt l:=by
 rw[nP_];cases hf:l.findIdx? fun x=>decide (r=x)with
 | none =>
   rw[List.findIdx?_eq_none_iff]at hf;have:=hf r h;simp at this
 | some j =>
   obtain⟨hj,h1,_⟩:=List.findIdx?_eq_some_iff_getElem.1 hf;have h1:r=l[j]:=by simpa using h1
   refine⟨j,rfl,?_,?_⟩
   ·simp[mrt,List.getD_eq_getElem?_getD,hj]
   ·apply List.ext_getElem
    ·simp
    ·intro i h2 h3;rw[List.getElem_set];split
     ·rename_i h4;subst h4;simp[mrt,←h1]
     ·rfl
theorem AC_(l:List Rt)(r:Rt):mrt l++[[.agg (rtc r),.bool true]]=mrt (l++[r]):=by simp[mrt]
theorem sF_(l:List Rt):cy_ (mrt l):=by
 rw[hC_];intro x hx;obtain⟨p,_,rfl⟩:=List.mem_map.1 hx;exact⟨bT_ p,trivial,trivial⟩
theorem yw_(ρ:Nat→Nat)(l:List Rt):bi_ ρ (mrt l)=mrt l:=(sF_ l).ren ρ
theorem Ah_(σ:St)(zs:List Nat)(l:List Rt):dx_ σ zs (mrt l)=mrt l:=(sF_ l).fz σ zs
attribute [go_sem] vw_ tA_ yw_ Ah_ AC_
def frE(f:Nat→Int):Nat→Nat→Int
 |0,_=>0
 |k+1,i=>if f i≠0 then f i else frE f k (i+1)
theorem tk_{f:Nat→Int}{n i:Nat}(hi:i<n)(h:f i≠0):frE f (n-i) i=f i:=by
 obtain⟨k,hk⟩:∃k,n-i=k+1:=⟨n-i-1,by omega⟩
 rw[hk,frE,if_pos h]
theorem tj_{f:Nat→Int}{n i:Nat}(hi:i<n)(h:f i=0):frE f (n-i) i=frE f (n-(i+1)) (i+1):=by
 obtain⟨k,hk⟩:∃k,n-i=k+1:=⟨n-i-1,by omega⟩
 rw[hk,frE,if_neg (by simp[h]),show n-(i+1)=k by omega]
theorem ti_(f:Nat→Int)(n:Nat):frE f (n-n) n=0:=by rw[Nat.sub_self];rfl
theorem th_{f:Nat→Int}:∀ {k i:Nat},frE f k i=0↔∀j,i≤j→j<i+k→f j=0
 |0,i=>by simp[frE];intro j h1 h2;omega
 | k + 1, i => by
   rw[frE];by_cases h:f i=0
   ·rw[if_neg (by simp[h]),th_]
    constructor
    ·intro h2 j h3 h4;by_cases hj:j=i
     ·rw[hj,h]
     ·exact h2 j (by omega) (by omega)
    ·exact fun h2 j h3 h4=>h2 j (by omega) (by omega)
   ·rw[if_pos h];exact⟨fun h2=>absurd h2 h,fun h2=>h2 i (Nat.le_refl _) (by omega)⟩
def us_(t:List Nod)(i:Nat):Int:=
 if ¬ (0≤(nod t i).status∧(nod t i).status≤2)then 2 else if i=0∧(nod t i).up≠-1 then 2 else if 0<i∧((nod t i).up<0∨(i:Int)≤(nod t i).up)then 2
 else if (nod t i).blk.root∈(t.take i).map (·.blk.root)then 9 else if i=0 then 0
 else if (nod t i).blk.parent≠(nod t (nod t i).up.toNat).blk.root then 10 else if (nod t i).blk.slot≤(nod t (nod t i).up.toNat).blk.slot then 14 else 0
def jE_(t:List Nod):Int:=if t.length=0∨4096<t.length then 11 else frE (us_ t) (t.length-0) 0
def yN_(t:List Nod)(i:Nat):Int:=
 if ((nod t (i+1)).status=1∧(nod t (nod t (i+1)).up.toNat).status≠1)∨((nod t (nod t (i+1)).up.toNat).status=2∧(nod t (i+1)).status≠2)then 15 else 0
def jD_(t:List Nod):Int:=if jE_ t≠0 then jE_ t else frE (yN_ t) (t.length-1-0) 0
theorem up_{t:List Nod}(h:jE_ t=0):cd_ t∧t.length≤4096:=by
 unfold jE_ at h;split at h
 ·cases h
 rename_i h1;have h2:=th_.1 h
 have key:∀i,i<t.length→¬ (i=0∧(nod t i).up≠-1)∧¬ (0<i∧((nod t i).up<0∨(i:Int)≤(nod t i).up)):=fun i hi=>by
  have:=h2 i (Nat.zero_le _) (by omega);unfold us_ at this;split at this
  ·cases this
  ·split at this
   ·cases this
   ·split at this
    ·cases this
    ·rename_i h3 h4;exact⟨h3,h4⟩
 refine⟨⟨fun i h0 hi=>?_,by omega,?_⟩,by omega⟩
 ·have:=(key i hi).2;omega
 ·have:=(key 0 (by omega)).1;omega
end Go.FH
