/-
 My texts Jf, Jg, Pa, Lk, Ll, Lm, Ln, Lo, Lp, Pc, joined.
-/
import Derived.Test.YtkgimpdgncakjaaGreatW3
import Derived.Test.YtkgimpdgncakjaaGreatV4
import Derived.Test.YtkgimpdgncakjaaGreatW6
import Derived.Test.YtkgimpdgncakjaaGreatW9
namespace Go.FH
set_option linter.unusedVariables false
open Go Go.RowKit
structure cm_(t:List Nod):Prop where
 ok:cF_ t
 pos:0<t.length
 root:(nod t 0).up<0
theorem dU_{t:List Nod}(ht:cm_ t){i x:Int}(hx:x∈gc_ t i):i<x∧0≤x∧x<t.length∧(nod t x.toNat).up=i:=by
 unfold gc_ at hx;split at hx
 ·rename_i hi
  simp[isN]at hi
  have:=ha_ (f:=fun k l=>if (nod t k).up=i then l++[(k:Int)]else l) (a:=([]:List Int)) (fun k l=>∀x∈l,0≤x∧x<k∧(nod t x.toNat).up=i) (by simp) t.length (fun k l hk h x hx=>by
   split at hx
   ·rename_i he;rw[List.mem_append,List.mem_singleton]at hx;rcases hx with hx|hx
    ·obtain⟨h1,h2,h3⟩:=h x hx;exact⟨h1,by omega,h3⟩
    ·subst hx;exact⟨by omega,by omega,by simpa using he⟩
   ·obtain⟨h1,h2,h3⟩:=h x hx;exact⟨h1,by omega,h3⟩) t.length (Nat.le_refl _) x hx
  obtain⟨h1,h2,h3⟩:=this;refine⟨?_,h1,h2,h3⟩;obtain⟨u,rfl⟩:∃u:Nat,x=u:=⟨_,(Int.toNat_of_nonneg h1).symm⟩
  simp only[Int.toNat_natCast]at h3;by_cases h0:u=0
  ·subst h0;have:=ht.root;omega
  ·obtain⟨h4,h5⟩:=ht.ok u (by omega) (by omega);omega
 ·simp at hx
theorem yf_(t:List Nod)(i:Int):(gc_ t i).length≤t.length:=by
 unfold gc_;split
 ·have:=hb_ (f:=fun k l=>if (nod t k).up=i then l++[(k:Int)]else l) (a:=([]:List Int)) (fun k l=>by split<;>simp) t.length;simpa using this
 ·simp
def bj_(s:aj_)(slot:Int):Int:=IntKind.u64.wrap (Int.tdiv slot s.cfg.spe)
def mQ_(s:aj_)(i:Int):Cp:=if isN s.nodes i=true then (if bj_ s (nod s.nodes i.toNat).blk.slot<bj_ s s.now then (nod s.nodes i.toNat).blk.pul.j else (nod s.nodes i.toNat).blk.just)else cp0
def uQ_(s:aj_)(i:Int):Bool:=isN s.nodes i&&decide ((nod s.nodes i.toNat).status≠2)&&(decide (s.j.ep=0) || decide ((mQ_ s i).ep=s.j.ep) || decide (bj_ s s.now≤(mQ_ s i).ep) || decide (IntKind.u64.wrap (bj_ s s.now-(mQ_ s i).ep)≤2))
def rF_(s:aj_):Nat→Int→Bool
 |0,_=>false
 |f+1,i=>uQ_ s i || (gc_ s.nodes i).any (rF_ s f)
theorem pV_{s:aj_}(ht:cm_ s.nodes):∀ (n f g:Nat) (i:Int),(s.nodes.length:Int)-i<n→n≤f→n≤g→rF_ s f i=rF_ s g i
 | 0, f, g, i, h, _, _ => by
   have hn:isN s.nodes i=false:=by simp[isN];omega
   have hk:∀f,rF_ s f i=false:=fun f=>by
    cases f with
    |zero=>rfl
    |succ f=>simp[rF_,uQ_,gc_,hn]
   rw[hk,hk]
 | n + 1, f + 1, g + 1, i, h, h1, h2 => by
   simp only[rF_];congr 1;rw[Bool.eq_iff_iff,List.any_eq_true,List.any_eq_true];constructor
   ·rintro⟨x,hx,h3⟩;have:=dU_ ht hx;exact⟨x,hx,by rw[←pV_ ht n f g x (by omega) (by omega) (by omega)];exact h3⟩
   ·rintro⟨x,hx,h3⟩;have:=dU_ ht hx;exact⟨x,hx,by rw[pV_ ht n f g x (by omega) (by omega) (by omega)];exact h3⟩
def hh_(s:aj_)(i:Int):Bool:=rF_ s (s.nodes.length+2) i
theorem Ln_{s:aj_}(ht:cm_ s.nodes)(i:Int)(h0:-1≤i):hh_ s i=(uQ_ s i || (gc_ s.nodes i).any (hh_ s)):=by
 show (uQ_ s i || (gc_ s.nodes i).any (rF_ s (s.nodes.length+1)))=_
 congr 1;rw[Bool.eq_iff_iff,List.any_eq_true,List.any_eq_true];constructor
 ·rintro⟨x,hx,h3⟩;have:=dU_ ht hx;exact⟨x,hx,by unfold hh_;rw[←pV_ ht (s.nodes.length+1) (s.nodes.length+1) (s.nodes.length+2) x (by omega) (by omega) (by omega)];exact h3⟩
 ·rintro⟨x,hx,h3⟩;have:=dU_ ht hx;exact⟨x,hx,by unfold hh_ at h3;rw[pV_ ht (s.nodes.length+1) (s.nodes.length+1) (s.nodes.length+2) x (by omega) (by omega) (by omega)];exact h3⟩
def uE_(s:aj_)(i:Nat)(l:List Bool):List Bool:=l++[hh_ s i]
def uF_(s:aj_):List Bool:=ay_ (uE_ s) [] s.nodes.length
theorem mH_(s:aj_):∀n,(ay_ (uE_ s) [] n).length=n
 |0=>rfl
 |n+1=>by rw[br_];unfold uE_;simp;exact mH_ s n
def DX_(s:aj_):List Int:=if dg_ s.tabs s.j<0 then []else (tab s.tabs (dg_ s.tabs s.j).toNat).bals
def hd_(s:aj_):List Int:=Qp_ s.nodes (jx_ s.nodes (sQ_ s.nodes s.latest s.eqv (DX_ s)) s.boost (oW_ s.cfg.spe s.cfg.boost (re_ (DX_ s)).1).1)
def kx_(t:List Nod)(w:List Int)(a:List Bool)(l:List Int)(k:Nat)(best:Int):Int:=
 if a.getD (l.getD k 0).toNat false=true∧(best<0∨w.getD best.toNat 0<w.getD (l.getD k 0).toNat 0∨(w.getD (l.getD k 0).toNat 0=w.getD best.toNat 0∧0<rT_ (nod t (l.getD k 0).toNat).blk.root (nod t best.toNat).blk.root))then l.getD k 0 else best
def hT_(t:List Nod)(w:List Int)(a:List Bool)(i:Int):Int:=ay_ (kx_ t w a (gc_ t i)) (-1) (gc_ t i).length
theorem oZ_(t:List Nod)(w:List Int)(a:List Bool)(l:List Int):∀n,n≤l.length→ay_ (kx_ t w a l) (-1) n=-1∨ay_ (kx_ t w a l) (-1) n∈l
 |0,_=>.inl rfl
 | n + 1, h => by
   rw[br_];have:=oZ_ t w a l n (by omega);generalize ay_ (kx_ t w a l) (-1) n=b at *;unfold kx_;split
   ·right;rw[List.getD_eq_getElem?_getD,List.getElem?_eq_getElem (show n<l.length by omega)];exact List.getElem_mem _
   ·exact this
def pO_(t:List Nod)(w:List Int)(a:List Bool):Nat→Int→Int
 |0,i=>i
 |f+1,i=>if hT_ t w a i<0 then i else pO_ t w a f (hT_ t w a i)
theorem Co_{t:List Nod}(ht:cm_ t)(w:List Int)(a:List Bool):∀ (f:Nat) (i:Int),i<t.length→i≤pO_ t w a f i∧pO_ t w a f i<t.length
 |0,i,h=>⟨Int.le_refl _,h⟩
 | f + 1, i, h => by
   unfold pO_;split
   ·exact⟨Int.le_refl _,h⟩
   ·rename_i hb
    rcases oZ_ t w a (gc_ t i) _ (Nat.le_refl _)with h1|h1
    ·exact absurd (show hT_ t w a i<0 by unfold hT_;rw[h1];decide) hb
    ·have h2:=dU_ ht h1;have h3:=Co_ ht w a f (hT_ t w a i) h2.2.2.1;have h4:i<hT_ t w a i:=h2.1;exact⟨by omega,h3.2⟩
theorem Ko_{t:List Nod}(ht:cm_ t)(w:List Int)(a:List Bool)(i:Int):hT_ t w a i=-1∨(i<hT_ t w a i∧0≤hT_ t w a i∧hT_ t w a i<t.length):=by
 rcases oZ_ t w a (gc_ t i) _ (Nat.le_refl _)with h1|h1
 ·exact .inl h1
 ·have h2:=dU_ ht h1;exact .inr ⟨h2.1,h2.2.1,h2.2.2.1⟩
def um_(s:aj_):Int:=pO_ s.nodes (hd_ s) (uF_ s) (s.nodes.length+1) (an_ s.nodes s.j.rt)
def cw_(s:aj_)(e:Int):Int×Bool:=((cf_ e s.cfg.spe).1,decide ((cf_ e s.cfg.spe).2=0))
def NF_(s:aj_)(b:Blk):Bool:=decide (b.fin.ep≤b.just.ep)&&decide (b.just.ep≤b.pul.j.ep)&&decide (b.fin.ep≤b.pul.f.ep)&&decide (b.pul.f.ep≤b.pul.j.ep)&&decide (b.pul.j.ep≤bj_ s b.slot)
def oz_(s:aj_)(b:Blk)(p:Int)(c:Cp):Bool:=decide (c.ep≤s.f.ep) || (if (cw_ s c.ep).1<b.slot then decide (0≤atT s.nodes p (cw_ s c.ep).1)&&decide ((nod s.nodes (atT s.nodes p (cw_ s c.ep).1).toNat).blk.root=c.rt)else decide (b.root=c.rt))
def cps(b:Blk):List Cp:=[b.just,b.fin,b.pul.j,b.pul.f]
def Gn_(s:aj_)(b:Blk):Bool:=decide (0≤an_ s.nodes b.parent)&&(NF_ s b&&(cD_ (fun k=>!oz_ s b (an_ s.nodes b.parent) ((cps b).getD k cp0)) 4).isNone)
def om_(s:aj_)(i e:Int):Bool:=!(cw_ s e).2 || decide ((nod s.nodes i.toNat).blk.slot≤(cw_ s e).1)
def cL_(a b:Cp):Cp:=if a.ep<b.ep then b else a
def oC_(s:aj_)(a b:Cp):Bool:=
 decide (0≤an_ s.nodes a.rt)&&decide (0≤an_ s.nodes b.rt)&&decide ((nod s.nodes (an_ s.nodes a.rt).toNat).status≠2)&&decide ((nod s.nodes (an_ s.nodes b.rt).toNat).status≠2)
 && om_ s (an_ s.nodes a.rt) a.ep&&om_ s (an_ s.nodes b.rt) b.ep&&db_ s.nodes (an_ s.nodes b.rt) (an_ s.nodes a.rt)&&decide (b.ep≤a.ep)&&decide (a.ep≤bj_ s s.now)&&decide (0≤dg_ s.tabs a)
def kW_(l:List Blk)(a:Int)(i:Nat)(o:List Blk):List Blk:=if a<(l.getD i bR_).slot then o++[l.getD i bR_]else o
def cp_(s:aj_)(j f:Cp):aj_:=
 if oC_ s (cL_ s.j j) (cL_ s.f f)=false then s
 else if cL_ s.f f=s.f then ⟨s.cfg,s.latest,s.eqv,cL_ s.j j,cL_ s.f f,s.early,s.orph,s.nodes,s.now,s.boost,dx_ s.tabs (cL_ s.j j).ep⟩
 else ⟨s.cfg,s.latest,s.eqv,cL_ s.j j,cL_ s.f f,s.early,ay_ (kW_ s.orph (cw_ s (cL_ s.f f).ep).1) [] s.orph.length,(eb_ s.nodes (an_ s.nodes (cL_ s.f f).rt)).1,s.now,
  if an_ (eb_ s.nodes (an_ s.nodes (cL_ s.f f).rt)).1 s.boost<0 then rt0 else s.boost,dx_ s.tabs (cL_ s.j j).ep⟩
def uN_(t:List Nod)(i:Nat)(p:Pul×Bool):Pul×Bool:=
 if (nod t i).status=2 then p else (⟨if p.2=false∨p.1.j.ep<(nod t i).blk.pul.j.ep then (nod t i).blk.pul.j else p.1.j,if p.2=false∨p.1.f.ep<(nod t i).blk.pul.f.ep then (nod t i).blk.pul.f else p.1.f⟩,true)
def fa_(s:aj_):Pul:=(ay_ (uN_ s.nodes) (ks_,false) s.nodes.length).1
def di_(l:List Blk)(i:Nat):Blk:=l.getD i bR_
def oA_(s:aj_)(r:Rt):Bool:=(cD_ (fun i=>decide ((di_ s.orph i).root=r)) s.orph.length).isSome || decide (0≤an_ s.nodes r)
def takeO(l:List Blk)(i:Nat):List Blk:=l.take i++l.drop (i+1)
theorem JF_(l:List Blk){i:Nat}(h:i<l.length):(takeO l i).length+1=l.length:=by
 unfold takeO;rw[List.length_append,List.length_take,List.length_drop];omega
def co_(s:aj_):Int:=me_ (cD_ (fun i=>decide (0≤an_ s.nodes (di_ s.orph i).parent)) s.orph.length)
theorem vC_(s:aj_):-1≤co_ s∧co_ s<s.orph.length:=by
 unfold co_;cases h:cD_ (fun i=>decide (0≤an_ s.nodes (di_ s.orph i).parent)) s.orph.length with
 |none=>rw[mF_];omega
 |some k=>have:=dR_ h;rw[hK_];omega
def df_(s:aj_)(t:List Nod):aj_:=⟨s.cfg,s.latest,s.eqv,s.j,s.f,s.early,s.orph,t,s.now,s.boost,s.tabs⟩
def withO(s:aj_)(l:List Blk):aj_:=⟨s.cfg,s.latest,s.eqv,s.j,s.f,s.early,l,s.nodes,s.now,s.boost,s.tabs⟩
def withE(s:aj_)(l:List aH_):aj_:=⟨s.cfg,s.latest,s.eqv,s.j,s.f,l,s.orph,s.nodes,s.now,s.boost,s.tabs⟩
def withB(s:aj_)(r:Rt):aj_:=⟨s.cfg,s.latest,s.eqv,s.j,s.f,s.early,s.orph,s.nodes,s.now,r,s.tabs⟩
def withL(s:aj_)(l:List Vot):aj_:=⟨s.cfg,l,s.eqv,s.j,s.f,s.early,s.orph,s.nodes,s.now,s.boost,s.tabs⟩
def Qs_(s:aj_)(l:List Int):aj_:=⟨s.cfg,s.latest,l,s.j,s.f,s.early,s.orph,s.nodes,s.now,s.boost,s.tabs⟩
def withT(s:aj_)(l:List aw_):aj_:=⟨s.cfg,s.latest,s.eqv,s.j,s.f,s.early,s.orph,s.nodes,s.now,s.boost,l⟩
def de_:aj_:=⟨⟨Po_,0,0,wd0,rt0,[]⟩,[],[],cp0,cp0,[],[],[],0,rt0,[]⟩
theorem iT_{t:List Nod}{n:Nod}{i:Nat}:nod (t++[n]) i=if i<t.length then nod t i else if i=t.length then n else dE_:=by
 unfold nod;simp only[List.getD_eq_getElem?_getD];by_cases h:i<t.length
 ·rw[if_pos h,List.getElem?_append_left h]
 ·rw[if_neg h,List.getElem?_append_right (by omega)];by_cases h2:i=t.length
  ·subst h2;simp
  ·rw[if_neg h2,List.getElem?_eq_none (by simp;omega)];rfl
theorem mD_{t:List Nod}{r:Rt}{k:Nat}(hk:k<t.length)(h:(nod t k).blk.root=r):0≤an_ t r:=by
 unfold an_;cases h1:cD_ (fun i=>decide ((nod t i).blk.root=r)) t.length with
 |none=>have:=qJ_ h1 k hk;simp[h]at this
 |some i=>rw[hK_];omega
theorem pK_{t:List Nod}{r:Rt}(h:0≤an_ t r):(an_ t r).toNat<t.length∧(nod t (an_ t r).toNat).blk.root=r:=by
 unfold an_ at *;cases h1:cD_ (fun i=>decide ((nod t i).blk.root=r)) t.length with
 |none=>rw[h1,mF_]at h;omega
 |some i=>rw[hK_];have:=dR_ h1;exact⟨by simpa using this.1,by simpa using this.2.1⟩
theorem cm_.snoc{t:List Nod}(ht:cm_ t){n:Nod}(h0:0≤n.up)(h1:n.up<t.length):cm_ (t++[n]):=by
 refine⟨fun i hi hl=>?_,by simp,?_⟩
 ·rw[iT_];by_cases h:i<t.length
  ·rw[if_pos h];exact ht.ok i hi h
  ·rw[if_neg h,if_pos (by simp at hl;omega)];simp at hl;omega
 ·rw[iT_,if_pos ht.pos];exact ht.root
theorem Gq_{t:List Nod}{b:Blk}{st:Int}(h:(fX_ t b st).2=0):(fX_ t b st).1=t++[⟨b,an_ t b.parent,st⟩]∧0≤an_ t b.parent:=by
 unfold fX_ at *;split at h
 ·simp at h
 ·rename_i h1
  rw[if_neg h1];split at h
  ·simp at h
  ·rename_i h2
   rw[if_neg h2];split at h
   ·simp at h
   ·rename_i h3
    rw[if_neg h3];split at h
    ·simp at h
    ·rename_i h4
     rw[if_neg h4];split at h
     ·simp at h
     ·rename_i h5;rw[if_neg h5];exact⟨rfl,by omega⟩
theorem cm_.ins{t:List Nod}(ht:cm_ t){b:Blk}{st:Int}(h:(fX_ t b st).2=0):cm_ (fX_ t b st).1:=by
 obtain⟨h1,h2⟩:=Gq_ h;rw[h1];have h3:=pK_ h2;exact ht.snoc (n:=⟨b,an_ t b.parent,st⟩) h2 (show an_ t b.parent<t.length by omega)
theorem qn_{t:List Nod}(ht:cm_ t){i:Nat}(hi:i<t.length):db_ t i i=true:=by
 unfold db_;rcases Nat.eq_zero_or_pos i with h|h
 ·subst h;rw[show ((0:Nat):Int)=0 from rfl,hG_ hi];simp
 ·rw[kq_ ht.ok h hi];simp
theorem MS_{t:List Nod}(ht:cm_ t){a b:Int}(h:db_ t a b=true):0≤a∧a≤b∧a<t.length:=by
 unfold db_ at h;exact er_ ht.ok (by simpa using h)
theorem MT_{t:List Nod}(ht:cm_ t){a:Int}{k:Nat}(hk:k<t.length)(h:db_ t a k=true)(hne:(k:Int)≠a):0<k∧db_ t a (nod t k).up=true:=by
 unfold db_ at *;rcases Nat.eq_zero_or_pos k with h0|h0
 ·subst h0;rw[show ((0:Nat):Int)=0 from rfl,hG_ hk]at h;simp at h;exact absurd h.symm hne
 ·rw[kq_ ht.ok h0 hk]at h;simp at h;refine⟨h0,?_⟩;rcases h with h|h
  ·simpa using h
  ·exact absurd h.symm hne
structure Qz_(t:List Nod)(i0:Int)(k:Nat)(p:List Nod×List Int):Prop where
 len:p.2.length=k
 kept:∀m:Nat,m<k→db_ t i0 m=true→0≤p.2.getD m 0∧p.2.getD m 0<p.1.length∧(nod p.1 (p.2.getD m 0).toNat).blk=(nod t m).blk
 up:∀u:Nat,0<u→u<p.1.length→0≤(nod p.1 u).up∧(nod p.1 u).up<u
 root:0<p.1.length→(nod p.1 0).up<0
 some:0<p.1.length→∃m:Nat,m<k∧db_ t i0 m=true
 blks:∀u:Nat,u<p.1.length→∃m:Nat,m<t.length∧(nod p.1 u).blk=(nod t m).blk
 le:p.1.length≤k
theorem il_{l:List Int}{x:Int}{m:Nat}:(l++[x]).getD m 0=if m<l.length then l.getD m 0 else if m=l.length then x else 0:=by
 simp only[List.getD_eq_getElem?_getD];by_cases h:m<l.length
 ·rw[if_pos h,List.getElem?_append_left h]
 ·rw[if_neg h,List.getElem?_append_right (by omega)];by_cases h2:m=l.length
  ·subst h2;simp
  ·rw[if_neg h2,List.getElem?_eq_none (by simp;omega)];rfl
theorem Fp_{t:List Nod}(ht:cm_ t)(i0:Int):∀k,k≤t.length→Qz_ t i0 k (ay_ (bL_ t i0) ([],[]) k)
 |0,_=>⟨rfl,fun m h=>absurd h (Nat.not_lt_zero _),fun u _ h=>absurd h (Nat.not_lt_zero _),fun h=>absurd h (Nat.lt_irrefl _),fun h=>absurd h (Nat.lt_irrefl _),fun u h=>absurd h (Nat.not_lt_zero _),Nat.le_refl _⟩
 | k + 1, hk => by
   have ih:=Fp_ ht i0 k (by omega);rw[br_];generalize ay_ (bL_ t i0) ([],[]) k=p at *;obtain⟨kp,ix⟩:=p;obtain⟨l1,l2,l3,l4,l5,l6,l7⟩:=ih;dsimp only at l1 l2 l3 l4 l5 l6 l7;unfold bL_;by_cases ha:db_ t i0 k=true
   ·rw [if_pos ha]
    dsimp only
    have hup:0<kp.length→(k:Int)≠i0:=by
     intro h he;obtain⟨m,h1,h2⟩:=l5 h;have:=MS_ ht h2;omega
    have hu:(k:Int)≠i0→0≤ix.getD (nod t k).up.toNat 0∧ix.getD (nod t k).up.toNat 0<kp.length:=by
     intro h;obtain⟨h0,h1⟩:=MT_ ht (by omega) ha h;obtain⟨h2,h3⟩:=ht.ok k h0 (by omega);have:=l2 (nod t k).up.toNat (by omega) (by rw[Int.toNat_of_nonneg h2];exact h1);exact⟨this.1,this.2.1⟩
    refine⟨by simp[l1],fun m hm hm2=>?_,fun u h0 h1=>?_,fun h=>?_,fun _=>⟨k,by omega,ha⟩,fun u h=>?_,by simp;omega⟩
    ·rw[il_]
     by_cases hmk:m<k
     ·rw[if_pos (by omega)];obtain⟨a1,a2,a3⟩:=l2 m hmk hm2;refine⟨a1,by simp only[List.length_append,List.length_cons,List.length_nil];omega,?_⟩;rw[iT_,if_pos (by omega)];exact a3
     ·obtain rfl:m=k:=by omega
      rw[if_neg (by omega),if_pos (by omega)];refine⟨by omega,by simp only[List.length_append,List.length_cons,List.length_nil];omega,?_⟩;rw[iT_,if_neg (by simp),if_pos (by simp)]
    ·rw[iT_]
     by_cases hu2:u<kp.length
     ·rw[if_pos hu2];exact l3 u h0 hu2
     ·simp at h1;obtain rfl:u=kp.length:=by omega
      rw[if_neg hu2,if_pos rfl];dsimp only;have hne:=hup h0;rw[if_neg hne];exact hu hne
    ·rw[iT_]
     by_cases hz:0<kp.length
     ·rw[if_pos hz];exact l4 hz
     ·rw[if_neg hz,if_pos (by omega)];dsimp only;by_cases hne:(k:Int)=i0
      ·rw[if_pos hne];omega
      ·have:=hu hne;omega
    ·rw[iT_]
     by_cases hu2:u<kp.length
     ·rw[if_pos hu2];exact l6 u hu2
     ·simp at h;rw[if_neg hu2,if_pos (by omega)];exact⟨k,by omega,rfl⟩
   ·rw [if_neg ha]
    dsimp only;refine⟨by simp[l1],fun m hm hm2=>?_,l3,l4,fun h=>?_,l6,show kp.length≤k+1 by omega⟩
    ·by_cases hmk:m<k
     ·rw[il_,if_pos (by omega)];exact l2 m hmk hm2
     ·obtain rfl:m=k:=by omega
      exact absurd hm2 ha
    ·obtain⟨m,h1,h2⟩:=l5 h;exact⟨m,by omega,h2⟩
theorem cm_.prune{t:List Nod}(ht:cm_ t){i0:Int}(h0:0≤i0)(h1:i0<t.length):cm_ (eb_ t i0).1:=by
 have h:=Fp_ ht i0 t.length (Nat.le_refl _);have hs:=h.kept i0.toNat (by omega) (by rw[Int.toNat_of_nonneg h0];have:=qn_ ht (i:=i0.toNat) (by omega);rwa [Int.toNat_of_nonneg h0]at this);exact⟨h.up,by show 0<(ay_ (bL_ t i0) ([],[]) t.length).1.length;omega,h.root (by omega)⟩
theorem CO_{t:List Nod}(ht:cm_ t){i0:Int}{r:Rt}(h:0≤an_ t r)(ha:db_ t i0 (an_ t r)=true):0≤an_ (eb_ t i0).1 r:=by
 have h1:=Fp_ ht i0 t.length (Nat.le_refl _);obtain⟨h2,h3⟩:=pK_ h;obtain⟨h4,h5,h6⟩:=h1.kept (an_ t r).toNat h2 (by rw[Int.toNat_of_nonneg h];exact ha);exact mD_ (k:=((ay_ (bL_ t i0) ([],[]) t.length).2.getD (an_ t r).toNat 0).toNat) (by show _<(ay_ (bL_ t i0) ([],[]) t.length).1.length;omega) (by show (nod (ay_ (bL_ t i0) ([],[]) t.length).1 _).blk.root=r;rw[h6];exact h3)
theorem Fr_{t:List Nod}(ht:cm_ t)(i0:Int):∀u:Nat,u<(eb_ t i0).1.length→∃m:Nat,m<t.length∧(nod (eb_ t i0).1 u).blk=(nod t m).blk:=(Fp_ ht i0 t.length (Nat.le_refl _)).blks
theorem oE_{t:List Nod}(ht:cm_ t)(i0:Int):(eb_ t i0).1.length≤t.length:=(Fp_ ht i0 t.length (Nat.le_refl _)).le
end Go.FH
namespace Go.FH
set_option linter.unusedVariables false
set_option linter.unusedSimpArgs false
open Go Go.RowKit
theorem kn_{t:List Nod}{i:Int}:isN t i=true↔0≤i∧i<t.length:=by simp[isN]
theorem EJ_{t:List Nod}{i:Int}:isN t i=false↔¬ (0≤i∧i<t.length):=by rw[←kn_];simp
theorem Kk_{t:List Nod}{i:Int}(slot:Int)(h:isN t i=false):atT t i slot=-1:=by unfold atT;rw[iV_ h];rfl
theorem CI_{t:List Nod}(ht:cm_ t){i:Nat}(hi:i<t.length):bG_ t i=bG_ t (nod t i).up++[(i:Int)]:=by
 rcases Nat.eq_zero_or_pos i with h|h
 ·subst h;have:=ht.root;rw[iV_ (i:=(nod t 0).up) (by rw[EJ_];omega)];exact hG_ hi
 ·exact kq_ ht.ok h hi
theorem Pf_{t:List Nod}(ht:cm_ t){i:Nat}(hi:i<t.length)(slot:Int):atT t i slot=if (nod t i).blk.slot≤slot then (i:Int)else atT t (nod t i).up slot:=by
 unfold atT;rw[CI_ ht hi];generalize bG_ t (nod t i).up=p;have hg:(p++[(i:Int)]).getD p.length 0=i:=by rw[il_,if_neg (Nat.lt_irrefl _),if_pos rfl]
 rw[List.length_append,List.length_singleton,br_];simp only[hg,Int.toNat_natCast];split
 ·rfl
 ·refine kv_ fun k x hk=>?_
  rw[il_,if_pos hk]
theorem zb_{t:List Nod}(ht:cm_ t){a b:Int}(h:isN t a=false∨isN t b=false):db_ t a b=false:=by
 unfold db_;rw[decide_eq_false_iff_not];intro hm;rcases h with h|h
 ·have:=er_ ht.ok hm;rw[EJ_]at h;omega
 ·rw[iV_ h]at hm;cases hm
theorem Bq_{t:List Nod}(ht:cm_ t){a:Int}{b:Nat}(hb:b<t.length)(hab:a≠b):db_ t a b=db_ t a (nod t b).up:=by
 unfold db_;rw[CI_ ht hb];simp[hab]
theorem Kg_{t:List Nod}(ht:cm_ t){a:Int}{b:Nat}(hb:b<t.length)(hab:(b:Int)≤a):db_ t a b=decide (a=b):=by
 by_cases h:a=b
 ·rw[decide_eq_true h,h];exact qn_ ht hb
 ·rw[decide_eq_false h];unfold db_;rw[decide_eq_false_iff_not];intro hm;have:=er_ ht.ok hm;omega
theorem GF_{t:List Nod}(ht:cm_ t)(i0:Int):∀k,k≤t.length→∀m:Nat,m<k→db_ t i0 m=false→(ay_ (bL_ t i0) ([],[]) k).2.getD m 0=-1
 |0,_,m,hm,_=>by omega
 | k + 1, hk, m, hm, ha => by
   have ih:=GF_ ht i0 k (by omega);have hl:=(Fp_ ht i0 k (by omega)).len;rw[br_];generalize ay_ (bL_ t i0) ([],[]) k=p at *;unfold bL_;by_cases hmk:m<k
   ·split
    ·rw[il_,if_pos (by omega)];exact ih m hmk ha
    ·rw[il_,if_pos (by omega)];exact ih m hmk ha
   ·obtain rfl:m=k:=by omega
    rw[if_neg (by rw[ha];simp)];rw[il_,if_neg (by omega),if_pos (by omega)]
def upP(t:List Nod)(i0:Int)(k:Nat)(ix:List Int):Int:=if (k:Int)≠i0∧0≤(nod t k).up then ix.getD (nod t k).up.toNat 0 else -1
theorem PI_{t:List Nod}(ht:cm_ t)(i0:Int){k:Nat}(hk:k<t.length):db_ t i0 k=decide ((k:Int)=i0∨0≤upP t i0 k (ay_ (bL_ t i0) ([],[]) k).2)∧
 (db_ t i0 k=true→upP t i0 k (ay_ (bL_ t i0) ([],[]) k).2=if (k:Int)=i0 then -1 else (ay_ (bL_ t i0) ([],[]) k).2.getD (nod t k).up.toNat 0):=by
 have h1:=Fp_ ht i0 k (by omega);have h2:=GF_ ht i0 k (by omega);generalize ay_ (bL_ t i0) ([],[]) k=p at *;unfold upP;by_cases hki:(k:Int)=i0
 ·have hs:=qn_ ht hk;rw[hki]at hs;simp[hki,hs]
 ·rw [Bq_ ht hk (fun h => hki h.symm)]
  by_cases hu:0≤(nod t k).up
  ·have hlt:(nod t k).up<k:=by
    rcases Nat.eq_zero_or_pos k with h|h
    ·subst h;have:=ht.root;omega
    ·exact(ht.ok k h hk).2
   have hc:((nod t k).up.toNat:Int)=(nod t k).up:=Int.toNat_of_nonneg hu;have hn:=h2 (nod t k).up.toNat (by omega);have hy:=h1.kept (nod t k).up.toNat (by omega);rw[hc]at hn hy;have hy1:=fun h=>(hy h).1
   clear hy;generalize p.2.getD (nod t k).up.toNat 0=q at *;cases ha:db_ t i0 (nod t k).up with
   |true=>have:=hy1 ha;simp[hki,hu,this]
   |false=>have:=hn ha;simp[hki,hu,this]
  ·rw[zb_ ht (.inr (by rw[EJ_];omega))];simp[hki,hu]
end Go.FH
namespace Go.Proofs.YtkgimpdgncakjaaGreat
open Go Go.FH Go.RowKit
set_option linter.unusedVariables false
set_option linter.unusedSimpArgs false
theorem dC_(s:aj_)(n:Int)(h0:s.cfg.spe≠0):PC Tryz.prog 73 [.agg (ai_ s.a),.int .u64 n] (.int .u64 (bj_ s n)):=by
 refine PC.fact 5 wz_ (by simp) puA puA ?_;unfold nG_;refine bd ?_;have e0:(s.cfg.spe==0)=false:=by simpa using h0
 unfold bj_;repeat(first|refine aa_ ?_|simp only[go_sem,e0,h0])
 exact af_
theorem Cr_(s:aj_)(n:Int):PC Tryz.prog 281 [.agg (ai_ s.a),.int .i64 n] (.bool (isN s.nodes n)):=by
 refine PC.fact 5 Ez_ (by simp) puA puA ?_;unfold tq_;refine bd ?_;unfold isN;by_cases h0:0≤n
 ·have e0:decide (n ≥ 0)=true:=decide_eq_true h0;have e1:decide (0≤n)=true:=decide_eq_true h0;repeat(first|refine aa_ ?_|simp only[go_sem,e0,e1])
  exact af_
 ·have e0:decide (n ≥ 0)=false:=decide_eq_false h0;have e1:decide (0≤n)=false:=decide_eq_false h0;repeat(first|refine aa_ ?_|simp only[go_sem,e0,e1])
  exact af_
theorem Dm_(s:aj_)(n:Int)(h0:s.cfg.spe≠0):PC Tryz.prog 282 [.agg (ai_ s.a),.int .i64 n] (.agg (cpC (mQ_ s n))):=by
 refine PC.fact 6 tT_ (by simp) puA puA ?_;unfold lA_;refine bd ?_;have c1:=Cr_ s n;have c2:=dC_ s (nod s.nodes n.toNat).blk.slot h0;have c3:=dC_ s s.now h0;unfold mQ_;try refine aa_ ?_
 refine ah_ c1 ?_;cases h1:isN s.nodes n with
 | false =>
   rw[if_neg (by simp)];try refine aa_ ?_
   refine PH_ ?_
   exact af_
 | true =>
   rw[if_pos rfl];have h2:=h1;simp[isN]at h2;have hgd:=bD_ (t:=s.nodes) (i:=n.toNat) (by omega);try refine aa_ ?_
   refine ab_ ?_;repeat(first|refine aa_ ?_|simp only[go_sem,hgd])
   refine au_ (c2) ?_;try refine aa_ ?_
   refine au_ (c3) ?_;try refine aa_ ?_
   by_cases h3:bj_ s (nod s.nodes n.toNat).blk.slot<bj_ s s.now
   ·rw[if_pos h3];have e3:decide (bj_ s (nod s.nodes n.toNat).blk.slot<bj_ s s.now)=true:=decide_eq_true h3;repeat(first|refine aa_ ?_|simp only[go_sem,e3])
    refine PH_ ?_
    exact af_
   ·rw[if_neg h3];have e3:decide (bj_ s (nod s.nodes n.toNat).blk.slot<bj_ s s.now)=false:=decide_eq_false h3;repeat(first|refine aa_ ?_|simp only[go_sem,e3])
    refine PG_ ?_
    exact af_
theorem IT_(s:aj_)(n:Int)(h0:s.cfg.spe≠0):PC Tryz.prog 280 [.agg (ai_ s.a),.int .i64 n] (.bool (uQ_ s n)):=by
 refine PC.fact 6 pC_ (by simp) puA puA ?_;unfold iI_;refine bd ?_;have c1:=Cr_ s n;have c2:=Dm_ s n h0;have c3:=dC_ s s.now h0;unfold uQ_;try refine aa_ ?_
 refine ah_ c1 ?_;cases h1:isN s.nodes n with
 | false =>
   try refine aa_ ?_
   refine PH_ ?_
   exact af_
 | true =>
   have h2:=h1;simp[isN]at h2;have hgd:=bD_ (t:=s.nodes) (i:=n.toNat) (by omega);generalize mQ_ s n=S at *;by_cases h3:(nod s.nodes n.toNat).status=2
   ·have e3:((nod s.nodes n.toNat).status==2)=true:=by simp[h3]
    have e4:decide ((nod s.nodes n.toNat).status≠2)=false:=by simp[h3]
    rw[e4];repeat(first|refine aa_ ?_|simp only[go_sem,hgd,e3])
    refine PH_ ?_
    exact af_
   ·have e3:((nod s.nodes n.toNat).status==2)=false:=by simp[h3]
    have e4:decide ((nod s.nodes n.toNat).status≠2)=true:=by simp[h3]
    rw[e4];repeat(first|refine aa_ ?_|simp only[go_sem,hgd,e3])
    refine ab_ ?_;repeat(first|refine aa_ ?_|simp only[go_sem,hgd])
    refine Qy_ c2 ?_
    by_cases k1:s.j.ep=0
    ·have e5:(s.j.ep==0)=true:=by simp[k1]
     rw[decide_eq_true k1];repeat(first|refine aa_ ?_|simp only[go_sem,e5])
     exact af_
    have e5:(s.j.ep==0)=false:=by simp[k1]
    rw[decide_eq_false k1];by_cases k2:S.ep=s.j.ep
    ·have e6:(S.ep==s.j.ep)=true:=by simp[k2]
     rw[decide_eq_true k2];repeat(first|refine aa_ ?_|simp only[go_sem,e5,e6])
     exact af_
    have e6:(S.ep==s.j.ep)=false:=by simp[k2]
    rw[decide_eq_false k2];repeat(first|refine aa_ ?_|simp only[go_sem,e5,e6])
    refine ah_ c3 ?_;by_cases k3:bj_ s s.now≤S.ep
    ·have e7:decide (bj_ s s.now≤S.ep)=true:=decide_eq_true k3;rw[decide_eq_true k3];repeat(first|refine aa_ ?_|simp only[go_sem,e7])
     exact af_
    have e7:decide (bj_ s s.now≤S.ep)=false:=decide_eq_false k3;rw[decide_eq_false k3];repeat(first|refine aa_ ?_|simp only[go_sem,e7])
    refine Qy_ c3 ?_
    exact af_
theorem Kh_{α:Type}(p:α→Bool)(d:α)(l:List α){i:Nat}(h:i<l.length):(l.drop i).any p=(p (l.getD i d) || (l.drop (i+1)).any p):=by
 rw[List.drop_eq_getElem_cons h,List.any_cons,List.getD_eq_getElem?_getD,List.getElem?_eq_getElem h];rfl
theorem yk_(s:aj_)(i0:Int)(ih:∀x∈gc_ s.nodes i0,PC Tryz.prog 275 [.agg (ai_ s.a),.int .i64 x] (.bool (hh_ s x)))(h0:s.cfg.spe≠0)(ht:cm_ s.nodes)(hb:s.nodes.length≤1000000)(hi0:0≤i0):PC Tryz.prog 275 [.agg (ai_ s.a),.int .i64 i0] (.bool (hh_ s i0)):=by
 refine PC.fact 7 zO_ (by simp) puA puA ?_;unfold pm_;refine bd ?_;have c1:=IT_ s i0 h0;have c2:=yg_ s.nodes i0 hb;have hl:=yf_ s.nodes i0;rw[Ln_ ht i0 (by omega)];generalize gc_ s.nodes i0=l at *;generalize hh_ s=L at *;try refine aa_ ?_
 refine ah_ c1 ?_;cases h1:uQ_ s i0 with
 | true =>
   try refine aa_ ?_
   refine PH_ ?_
   exact af_
 | false =>
   try refine aa_ ?_
   refine PG_ ?_
   refine Qy_ c2 ?_
   generalize hR:l.any L=R;refine am_ (fun i:Nat=>[(6,.int .i64 i)]) (fun _=>[.var (ai_ s.a)]) (fun i=>l.length-i) (fun i=>i≤l.length∧R=(l.drop i).any L) 0 ⟨Nat.zero_le _,hR.symm⟩ ?_ ?_
   ·exact QV_ [] [0]
   clear hR;rintro i ⟨hi,hn⟩;rw[hn];(try simp only[ao_,ar_,List.set_cons_zero,List.set_cons_succ])
   by_cases h1:i<l.length
   ·have e1:decide ((i:Int)<((l.length:Nat):Int))=true:=decide_eq_true (by omega)
    have hw:=ae_ h1 (by omega);have hgp:=gdn (k:=.i64) h1;have c3:=ih (l.getD i 0) (by rw[List.getD_eq_getElem?_getD,List.getElem?_eq_getElem h1];exact List.getElem_mem h1);have hd:=Kh_ L 0 l h1;repeat(first|refine aa_ ?_|simp only[go_sem,e1])
    refine ac_ ?_;repeat(first|refine aa_ ?_|simp only[go_sem,hgp,Nat.mul_one])
    refine au_ (c3) ?_;cases h2:L (l.getD i 0)with
    | true =>
      rw[hd,h2];try refine aa_ ?_
      refine PH_ ?_
      exact af_
    | false =>
      rw[hd,h2];try refine aa_ ?_
      refine ab_ ?_;repeat(first|refine aa_ ?_|simp only[go_sem,hw])
      refine⟨i+1,⟨h1,rfl⟩,by omega,?_⟩;exact QV_ [] [0]
   ·obtain rfl:i=l.length:=by omega
    have e1:decide (((l.length:Nat):Int)<((l.length:Nat):Int))=false:=decide_eq_false (by omega);rw[List.drop_length];repeat(first|refine aa_ ?_|simp only[go_sem,e1])
    refine PG_ ?_
    exact af_
theorem yl_(s:aj_)(h0:s.cfg.spe≠0)(ht:cm_ s.nodes)(hb:s.nodes.length≤1000000):∀ (n:Nat) (i:Int),0≤i→(s.nodes.length:Int)-i<n→PC Tryz.prog 275 [.agg (ai_ s.a),.int .i64 i] (.bool (hh_ s i))
 | 0, i, _, hn => by
   exact yk_ s i (fun x hx=>by have:=dU_ ht hx;omega) h0 ht hb (by omega)
 | n + 1, i, hi, hn => by
   exact yk_ s i (fun x hx=>yl_ s h0 ht hb n x (by have:=dU_ ht hx;omega) (by have:=dU_ ht hx;omega)) h0 ht hb hi
structure StR(s:aj_):Prop where
 tree:cm_ s.nodes
 spe:s.cfg.spe≠0
 bn:s.nodes.length≤1000000
 bl:s.latest.length≤1000000
 be:s.eqv.length≤1000000
 bt:s.tabs.length≤1000000
 bb:∀t∈s.tabs,t.bals.length≤1000000
 bo:s.orph.length≤1000000
 ba:s.early.length≤1000000
 nl:s.cfg.lim.node≤4096
 ll:s.latest.length=s.cfg.bals.length
 jf:0≤an_ s.nodes s.j.rt
theorem uc_(l:List aw_)(c:Cp):-1≤dg_ l c∧dg_ l c<l.length:=by
 unfold dg_;cases h:cD_ (fun i=>decide ((tab l i).cp=c)) l.length with
 |none=>simp[me_];omega
 |some k=>have:=dR_ h;simp[me_];omega
theorem Km_{s:aj_}(h:StR s):(DX_ s).length≤1000000:=by
 unfold DX_;split
 ·simp
 ·rename_i h1;have h2:=uc_ s.tabs s.j;refine h.bb _ ?_;unfold tab;rw[List.getD_eq_getElem?_getD,List.getElem?_eq_getElem (show (dg_ s.tabs s.j).toNat<s.tabs.length by omega)];exact List.getElem_mem _
theorem Fb_(s:aj_)(h:StR s):PC Tryz.prog 258 [.agg (ai_ s.a)] (.sl 1 false (rows gD_ (uF_ s))):=by
 refine PC.fact 5 zL_ (by simp) puA puA ?_;unfold pj_;refine bd ?_;unfold uF_;have hb:=h.bn;try refine aa_ ?_
 refine cP_ 3 1 ?_;simp only[go_sem];refine am_ (fun i:Nat=>[(4,.int .i64 i),(3,.hs 1 1 0 i)]) (fun i=>[.var (ai_ s.a),.vec 1 (rows gD_ (ay_ (uE_ s) [] i))]) (fun i=>s.nodes.length-i) (fun i=>i≤s.nodes.length) 0 (Nat.zero_le _) ?_ ?_
 ·exact QV_ [] [0,1]
 intro i hi;(try simp only[ao_,ar_,List.set_cons_zero,List.set_cons_succ])
 by_cases h1:i<s.nodes.length
 ·have e1:decide ((i:Int)<((s.nodes.length:Nat):Int))=true:=decide_eq_true (by omega);have hw:=ae_ h1 (by omega);have c1:=yl_ s h.spe h.tree h.bn (s.nodes.length+1) i (by omega) (by omega);have hs:=br_ (uE_ s) [] i;have hl:=mH_ s i;generalize ay_ (uE_ s) [] i=acc at *;have hr:rows gD_ acc++[[AV.bool (hh_ s i)]]=rows gD_ (acc++[hh_ s i]):=bP_ gD_ acc _;repeat(first|refine aa_ ?_|simp only[go_sem,e1])
  refine PH_ ?_
  refine ah_ c1 ?_;have ht:List.take i (rows gD_ acc)=rows gD_ acc:=List.take_of_length_le (by simp[hl]);repeat(first|refine aa_ ?_|simp only[go_sem,hr,hw,hl,ht])
  refine⟨i+1,h1,by omega,?_⟩;rw[hs,show uE_ s i acc=acc++[hh_ s i]from rfl];exact QV_ [] [0,2]
 ·obtain rfl:i=s.nodes.length:=by omega
  have e1:decide (((s.nodes.length:Nat):Int)<((s.nodes.length:Nat):Int))=false:=decide_eq_false (by omega);have hl:=mH_ s s.nodes.length;repeat(first|refine aa_ ?_|simp only[go_sem,e1])
  refine ab_ ?_;repeat(first|refine aa_ ?_|simp only[go_sem,hl])
  refine⟨_,(by first|rfl|exact evd),.inl ?_⟩;refine evg ?_;rw[hl,if_pos (Nat.le_refl _),List.take_of_length_le (by simp[hl])]
theorem Kn_(s:aj_)(h:StR s):PC Tryz.prog 29 [.agg (ai_ s.a)] (.sl 1 false (aq_ .u64 (DX_ s))):=by
 refine PC.fact 4 qA_ (by simp) puA puA ?_;unfold jC_;refine bd ?_;have c1:=km_ s.tabs s.j h.bt;have h2:=uc_ s.tabs s.j;unfold DX_;try refine aa_ ?_
 refine Qy_ c1 ?_
 by_cases h1:dg_ s.tabs s.j<0
 ·have e1:decide (dg_ s.tabs s.j<0)=true:=decide_eq_true h1;rw[if_pos h1];repeat(first|refine aa_ ?_|simp only[go_sem,e1])
  refine PH_ ?_
  refine⟨_,by first|rfl|exact evd,.inr ⟨_,by(try simp only[go_sem,Nat.reduceAdd,Nat.reduceSub,Nat.reduceMul,Nat.reduceLT,Nat.reduceLeDiff,Nat.reduceEqDiff,reduceIte,Int.reduceToNat,Int.reduceLT,Int.reduceLE,Int.reduceEq,Int.reduceNeg,reduceCtorEq,Int.reduceBEq,Int.reduceBNe]);try rfl,puA,(by repeat'(first|exact Wk.refl _|exact Wk.empty _ _ _|exact Wk.open_ _ _ _|refine Wk.tup ?_|refine Wk.agg ?_|exact trivial|(intro h;first|exact h|rfl)|constructor))⟩⟩
 ·have e1:decide (dg_ s.tabs s.j<0)=false:=decide_eq_false h1;have hgd:(rows aw_.c s.tabs).getD (dg_ s.tabs s.j).toNat []=aT_ (tab s.tabs (dg_ s.tabs s.j).toNat).a:=aK_ (f:=aw_.c) default (by omega);rw[if_neg h1];repeat(first|refine aa_ ?_|simp only[go_sem,e1])
  refine ab_ ?_;repeat(first|refine aa_ ?_|simp only[go_sem,hgd])
  exact af_
theorem Be_(s:aj_)(h:StR s):PC Tryz.prog 257 [.agg (ai_ s.a)] (.sl 1 false (aq_ .u64 (hd_ s))):=by
 refine PC.fact 9 se_ (by simp) puA puA ?_;unfold kI_;refine bd ?_;have c1:=Kn_ s h;have hl:=Km_ h;unfold hd_;generalize DX_ s=B at *;have c2:=yO_ B false hl;generalize re_ B=S at *;obtain⟨S1,S2⟩:=S;have c3:=Bp_ s.cfg S1;have c4:=BF_ s.nodes s.latest s.eqv B h.bn h.bl h.be hl;have hd:=sP_ s.nodes s.latest s.eqv B s.nodes.length;rw[show ay_ (BE_ s.nodes s.latest s.eqv B) [] s.nodes.length=sQ_ s.nodes s.latest s.eqv B from rfl]at hd;generalize sQ_ s.nodes s.latest s.eqv B=D at *;dsimp only at c2 ⊢;generalize oW_ s.cfg.spe s.cfg.boost S1=M at *;obtain⟨M1,M2⟩:=M;have c5:=zk_ s.nodes D s.boost M1 h.bn hd;have hd2:(jx_ s.nodes D s.boost M1).length=s.nodes.length:=by unfold jx_;split<;>simp[hd]
 dsimp only at c3 ⊢;generalize jx_ s.nodes D s.boost M1=D2 at *;have c6:=AV_ s.nodes h.tree.ok D2 h.bn hd2;try refine aa_ ?_
 refine Qy_ c1 ?_
 refine Qy_ c2 ?_
 refine Qy_ c3 ?_
 refine Qy_ c4 ?_
 refine au_ (c5) ?_;try refine aa_ ?_
 refine au_ (c6) ?_;try refine aa_ ?_
 exact af_
end Go.Proofs.YtkgimpdgncakjaaGreat
namespace Go.Proofs.YtkgimpdgncakjaaGreat
open Go Go.FH Go.RowKit
set_option linter.unusedVariables false
set_option linter.unusedSimpArgs false
set_option maxRecDepth 8000
set_option maxHeartbeats 4000000
theorem gdb{l:List Bool}{i:Nat}(h:i<l.length):(rows gD_ l).getD i []=[.bool (l.getD i false)]:=aK_ (f:=gD_) false h
theorem Hs_(t:List Nod)(ht:cm_ t)(hb:t.length≤1000000)(w:List Int)(hwl:w.length=t.length)(a:List Bool)(ha:a.length=t.length)(i0:Int):
 PC Tryz.prog 259 [.agg [nA t],.sl 1 false (aq_ .u64 w),.sl 1 false (rows gD_ a),.int .i64 i0] (.int .i64 (hT_ t w a i0)):=by
 refine PC.fact 13 tS_ (by simp) puA puA ?_;unfold lz_;refine bd ?_;have c1:=yg_ t i0 hb;have hl:=yf_ t i0;have hm:∀x∈gc_ t i0,0≤x∧x<t.length:=fun x hx=>by have:=dU_ ht hx;omega
 unfold hT_;generalize gc_ t i0=l at *;try refine aa_ ?_
 refine Qy_ c1 ?_
 refine am_ (fun i:Nat=>[(11,.int .i64 i),(9,.int .i64 (ay_ (kx_ t w a l) (-1) i))]) (fun _=>[.var [nA t]]) (fun i=>l.length-i) (fun i=>i≤l.length) 0 (Nat.zero_le _) ?_ ?_
 ·exact QV_ [] [0]
 intro i hi;(try simp only[ao_,ar_,List.set_cons_zero,List.set_cons_succ])
 by_cases h1:i<l.length
 ·have e1:decide ((i:Int)<((l.length:Nat):Int))=true:=decide_eq_true (by omega)
  have hw:=ae_ h1 (by omega);have hgp:=gdn (k:=.i64) h1;have hx:=hm (l.getD i 0) (by rw[List.getD_eq_getElem?_getD,List.getElem?_eq_getElem h1];exact List.getElem_mem h1);have hs:=br_ (kx_ t w a l) (-1) i;have hbi:=oZ_ t w a l i hi;have hbd:ay_ (kx_ t w a l) (-1) i=-1∨(0≤ay_ (kx_ t w a l) (-1) i∧ay_ (kx_ t w a l) (-1) i<t.length):=hbi.imp id (fun h=>hm _ h);clear hbi;generalize hB:ay_ (kx_ t w a l) (-1) i=B at *;have hc:kx_ t w a l i B=if a.getD (l.getD i 0).toNat false=true∧(B<0∨w.getD B.toNat 0<w.getD (l.getD i 0).toNat 0∨(w.getD (l.getD i 0).toNat 0=w.getD B.toNat 0∧0<rT_ (nod t (l.getD i 0).toNat).blk.root (nod t B.toNat).blk.root))then l.getD i 0 else B:=rfl
  rw[hc]at hs;clear hc;generalize l.getD i 0=c at *;have hga:=gdb (l:=a) (i:=c.toNat) (by omega);have hgw:=gdn (k:=.u64) (ns:=w) (i:=c.toNat) (by omega);have hgd:=bD_ (t:=t) (i:=c.toNat) (by omega);repeat(first|refine aa_ ?_|simp only[go_sem,e1])
  refine ac_ ?_;repeat(first|refine aa_ ?_|simp only[go_sem,hgp,Nat.mul_one,hga])
  cases h2:a.getD c.toNat false with
  | false =>
    rw[if_neg (fun h=>Bool.noConfusion (h2.symm.trans h.1))]at hs;try refine aa_ ?_
    refine ab_ ?_;repeat(first|refine aa_ ?_|simp only[go_sem,hw])
    refine⟨i+1,h1,by omega,?_⟩;rw[hs];exact QV_ [] [0]
  | true =>
    by_cases h3:B<0
    ·have e3:decide (B<0)=true:=decide_eq_true h3;rw[if_pos ⟨h2,.inl h3⟩]at hs;repeat(first|refine aa_ ?_|simp only[go_sem,e3])
     refine ac_ ?_;repeat(first|refine aa_ ?_|simp only[go_sem,hw])
     refine⟨i+1,h1,by omega,?_⟩;rw[hs];exact QV_ [] [0]
    have e3:decide (B<0)=false:=decide_eq_false h3;have hgB:=gdn (k:=.u64) (ns:=w) (i:=B.toNat) (by omega);have hgE:=bD_ (t:=t) (i:=B.toNat) (by omega);by_cases h4:w.getD B.toNat 0<w.getD c.toNat 0
    ·have e4:decide (w.getD c.toNat 0 > w.getD B.toNat 0)=true:=decide_eq_true h4;have e5:decide (w.getD B.toNat 0<w.getD c.toNat 0)=true:=decide_eq_true h4;rw[if_pos ⟨h2,.inr (.inl h4)⟩]at hs;repeat(first|refine aa_ ?_|simp only[go_sem,e3,hgB,hgw,Nat.mul_one,e4,e5])
     refine ac_ ?_;repeat(first|refine aa_ ?_|simp only[go_sem,hw])
     refine⟨i+1,h1,by omega,?_⟩;rw[hs];exact QV_ [] [0]
    have e4:decide (w.getD c.toNat 0 > w.getD B.toNat 0)=false:=decide_eq_false h4;have e5:decide (w.getD B.toNat 0<w.getD c.toNat 0)=false:=decide_eq_false h4;by_cases h5:w.getD c.toNat 0=w.getD B.toNat 0
    ·have e6:(w.getD c.toNat 0==w.getD B.toNat 0)=true:=by rw[beq_iff_eq];exact h5
     have c2:=xP_ (nod t c.toNat).blk.root (nod t B.toNat).blk.root;generalize rT_ (nod t c.toNat).blk.root (nod t B.toNat).blk.root=M at *;repeat(first|refine aa_ ?_|simp only[go_sem,e3,hgB,hgw,Nat.mul_one,e4,e5,e6,hgd,hgE])
     refine au_ (c2) ?_;by_cases h6:0<M
     ·have e7:decide (M > 0)=true:=decide_eq_true h6;have e8:decide (0<M)=true:=decide_eq_true h6;rw[if_pos ⟨h2,.inr (.inr ⟨h5,h6⟩)⟩]at hs;repeat(first|refine aa_ ?_|simp only[go_sem,e7,e8])
      refine ac_ ?_;repeat(first|refine aa_ ?_|simp only[go_sem,hw])
      refine⟨i+1,h1,by omega,?_⟩;rw[hs];exact QV_ [] [0]
     ·have e7:decide (M > 0)=false:=decide_eq_false h6;have e8:decide (0<M)=false:=decide_eq_false h6;rw[if_neg (by rintro⟨_,h|h|h⟩;exact h3 h;exact h4 h;exact h6 h.2)]at hs;repeat(first|refine aa_ ?_|simp only[go_sem,e7,e8])
      refine ab_ ?_;repeat(first|refine aa_ ?_|simp only[go_sem,hw])
      refine⟨i+1,h1,by omega,?_⟩;rw[hs];exact QV_ [] [0]
    ·have e6:(w.getD c.toNat 0==w.getD B.toNat 0)=false:=by rw[←Bool.not_eq_true,beq_iff_eq];exact h5
     rw[if_neg (by rintro⟨_,h|h|h⟩;exact h3 h;exact h4 h;exact h5 h.1)]at hs;repeat(first|refine aa_ ?_|simp only[go_sem,e3,hgB,hgw,Nat.mul_one,e4,e5,e6])
     refine ab_ ?_;repeat(first|refine aa_ ?_|simp only[go_sem,hw])
     refine⟨i+1,h1,by omega,?_⟩;rw[hs];exact QV_ [] [0]
 ·obtain rfl:i=l.length:=by omega
  have e1:decide (((l.length:Nat):Int)<((l.length:Nat):Int))=false:=decide_eq_false (by omega);repeat(first|refine aa_ ?_|simp only[go_sem,e1])
  refine PG_ ?_
  exact af_
end Go.Proofs.YtkgimpdgncakjaaGreat
namespace Go.Proofs.YtkgimpdgncakjaaGreat
open Go Go.FH Go.RowKit
set_option linter.unusedVariables false
set_option linter.unusedSimpArgs false
theorem Bd_(s:aj_):(hd_ s).length=s.nodes.length:=sW_ s.nodes _ s.nodes.length
theorem Ik_(s:aj_)(h:StR s):PC Tryz.prog 236 [.agg (ai_ s.a)] (.int .i64 (um_ s)):=by
 refine PC.fact 7 zK_ (by simp) puA puA ?_;unfold pi_;refine bd ?_;have c1:=Be_ s h;have c2:=Fb_ s h;have c3:=bv_ s.nodes s.j.rt h.bn;have c4:=Hs_ s.nodes h.tree h.bn (hd_ s) (Bd_ s) (uF_ s) (mH_ s s.nodes.length);have hbd:=Ko_ h.tree (hd_ s) (uF_ s);have hF:=cq_ s.nodes s.j.rt;unfold um_;generalize hd_ s=W at *;generalize uF_ s=L at *;generalize an_ s.nodes s.j.rt=F at *;try refine aa_ ?_
 refine au_ (c1) ?_;try refine aa_ ?_
 refine au_ (c2) ?_;try refine aa_ ?_
 refine Qy_ c3 ?_
 generalize hR:pO_ s.nodes W L (s.nodes.length+1) F=R;refine am_ (fun p:Nat×Int=>[(5,.int .i64 p.2)]) (fun _=>[.var (ai_ s.a)]) (fun p=>p.1) (fun p=>-1≤p.2∧p.2<s.nodes.length∧(s.nodes.length:Int)-p.2≤p.1∧R=pO_ s.nodes W L p.1 p.2) (s.nodes.length+1,F) ⟨hF.1,hF.2,by dsimp only;omega,hR.symm⟩ ?_ ?_
 ·exact QV_ [] [0]
 clear hR;rintro⟨f,i⟩ ⟨h0,h1,h2,hn⟩;dsimp only at h0 h1 h2 hn;rw[hn];obtain⟨g,rfl⟩:∃g,f=g+1:=⟨f-1,by omega⟩
 have c5:=c4 i;have hb:=hbd i;have hs:pO_ s.nodes W L (g+1) i=if hT_ s.nodes W L i<0 then i else pO_ s.nodes W L g (hT_ s.nodes W L i):=rfl
 generalize hT_ s.nodes W L i=B at *;dsimp only;try refine aa_ ?_
 refine Qy_ c5 ?_
 by_cases h3:B<0
 ·have e3:decide (B<0)=true:=decide_eq_true h3;rw[if_pos h3]at hs;rw[hs];repeat(first|refine aa_ ?_|simp only[go_sem,e3])
  refine PH_ ?_
  exact af_
 ·have e3:decide (B<0)=false:=decide_eq_false h3;rw[if_neg h3]at hs;rw[hs];repeat(first|refine aa_ ?_|simp only[go_sem,e3])
  refine PG_ ?_
  refine⟨(g,B),⟨by omega,by omega,by dsimp only;omega,rfl⟩,by dsimp only;omega,?_⟩;exact QV_ [] [0]
theorem gW_(s:aj_)(e:Int):PC Tryz.prog 126 [.agg (ai_ s.a),.int .u64 e] (.tup [.int .u64 (cw_ s e).1,.bool (cw_ s e).2]):=by
 refine PC.fact 8 wA_ (by simp) puA puA ?_;unfold nH_;refine bd ?_;have c1:=FL_ e s.cfg.spe;unfold cw_;generalize cf_ e s.cfg.spe=p at *;try refine aa_ ?_
 refine ah_ c1 ?_;have hz:(p.2==0)=decide (p.2=0):=rfl;repeat(first|refine aa_ ?_|simp only[go_sem,hz])
 exact af_
theorem tF_(s:aj_)(i e:Int)(h0:0≤i)(h1:i<s.nodes.length):PC Tryz.prog 74 [.agg (ai_ s.a),.int .i64 i,.int .u64 e] (.bool (om_ s i e)):=by
 refine PC.fact 9 wy_ (by simp) puA puA ?_;unfold nF_;refine bd ?_;have c1:=gW_ s e;unfold om_;have hgd:=bD_ (t:=s.nodes) (i:=i.toNat) (by omega);generalize cw_ s e=p at *;obtain⟨p1,p2⟩:=p;dsimp only at c1 ⊢;try refine aa_ ?_
 refine ah_ c1 ?_;cases p2 with
 | false =>
   try refine aa_ ?_
   exact af_
 | true =>
   repeat(first|refine aa_ ?_|simp only[go_sem,hgd])
   exact af_
theorem Ah_(s:aj_)(b:Blk)(h0:s.cfg.spe≠0):PC Tryz.prog 145 [.agg (ai_ s.a),.agg (ap_ b)] (.bool (NF_ s b)):=by
 refine PC.fact 9 sf_ (by simp) puA puA ?_;unfold kJ_;refine bd ?_;have c1:=dC_ s b.slot h0;unfold NF_;by_cases q1:b.fin.ep≤b.just.ep
 case neg=>
  rw[decide_eq_false q1];have e1:=decide_eq_false q1;repeat(first|refine aa_ ?_|simp only[go_sem,e1])
  exact af_
 rw[decide_eq_true q1];have e1:=decide_eq_true q1;by_cases q2:b.just.ep≤b.pul.j.ep
 case neg=>
  rw[decide_eq_false q2];have e2:=decide_eq_false q2;repeat(first|refine aa_ ?_|simp only[go_sem,e1,e2])
  exact af_
 rw[decide_eq_true q2];have e2:=decide_eq_true q2;by_cases q3:b.fin.ep≤b.pul.f.ep
 case neg=>
  rw[decide_eq_false q3];have e3:=decide_eq_false q3;repeat(first|refine aa_ ?_|simp only[go_sem,e1,e2,e3])
  exact af_
 rw[decide_eq_true q3];have e3:=decide_eq_true q3;by_cases q4:b.pul.f.ep≤b.pul.j.ep
 case neg=>
  rw[decide_eq_false q4];have e4:=decide_eq_false q4;repeat(first|refine aa_ ?_|simp only[go_sem,e1,e2,e3,e4])
  exact af_
 rw[decide_eq_true q4];have e4:=decide_eq_true q4;repeat(first|refine aa_ ?_|simp only[go_sem,e1,e2,e3,e4])
 refine Qy_ c1 ?_
 exact af_
theorem Bf_:Wk (.agg (ai_ bI_)) (.agg (ai_ de_.a)):=by
 refine Wk.agg ?_;unfold bI_ de_ aj_.a ai_;dsimp only;refine WkC.app ?_ ?_
 ·unfold ih_ bt_.a bf_;dsimp only;exact(WkC.refl _).app (.same _ (.same _ ((WkC.refl _).app ((WkC.refl _).app (.one (Wk.empty _ _ _) fun h=>h)))))
 ·exact .cons (Wk.empty _ _ _) (fun h=>h) (.cons (Wk.empty _ _ _) (fun h=>h) ((WkC.refl _).app ((WkC.refl _).app (.cons (Wk.empty _ _ _) (fun h=>h) (.cons (Wk.empty _ _ _) (fun h=>h) (.cons (Wk.empty _ _ _) (fun h=>h) (.same _ ((WkC.refl _).app (.one (Wk.empty _ _ _) fun h=>h)))))))))
def cs_(s:aj_)(b:Blk):Int:=
 if b.root=rt0 then 2 else if oA_ s b.root=true then 9 else if s.now<b.slot then 12 else if b.slot≤(cw_ s s.f.ep).1 then 13
 else if an_ s.nodes b.parent<0 then 10 else if b.slot≤(nod s.nodes (an_ s.nodes b.parent).toNat).blk.slot then 14
 else if (nod s.nodes (an_ s.nodes b.parent).toNat).status=2 then 15 else if Gn_ s b=false then 16
 else if Gm_ s.cfg.ttd (nod s.nodes (an_ s.nodes b.parent).toNat).blk b=false then 17 else if s.cfg.lim.node≤s.nodes.length then 11 else 0
def cd_(s:aj_)(a:aH_):Bool×Int:=
 if cM_ a.vals s.cfg.bals.length≠0 then (false,cM_ a.vals s.cfg.bals.length)
 else if a.target.ep≠bj_ s a.slot∨(a.target.ep≠bj_ s s.now∧(bj_ s s.now=0∨a.target.ep≠IntKind.u64.wrap (bj_ s s.now-1)))then (false,18)
 else if an_ s.nodes a.root<0∨an_ s.nodes a.target.rt<0 then (false,10)
 else if a.slot<(nod s.nodes (an_ s.nodes a.root).toNat).blk.slot then (false,14)
 else if atT s.nodes (an_ s.nodes a.root) (cw_ s a.target.ep).1≠an_ s.nodes a.target.rt then (false,19)
 else (decide (s.now≤a.slot),0)
def castIn(s:aj_)(a:aH_):aj_:=withL s (tv_ s.latest a.target.ep a.root a.vals).1
def wit(n lo hi:Int):Bool:=decide (lo≤n)&&decide (n≤hi)
def hi_(c:bt_):Int:=
 if c.spe<1 then 3 else if 64<c.spe then 3 else if 100<c.boost then 3 else if 1024<(c.bals.length:Int)then 3 else if wit c.lim.node 1 4096=false then 3 else if wit c.lim.orph 0 64=false then 3
 else if wit c.lim.early 0 256=false then 3 else if wit c.lim.table 1 64=false then 3 else if wit c.lim.retry 0 256=false then 3 else if c.lim.backoff<1 then 3 else if 1048576<c.lim.backoff then 3
 else if c.gen=rt0 then 2 else eu_ ⟨⟨0,c.gen⟩,c.bals⟩ c.bals.length
def wO_(r:Rt):Blk:=⟨⟨⟨0,r⟩,⟨0,r⟩⟩,0,r,rt0,rt0,wd0,wd0,⟨0,r⟩,⟨0,r⟩,false⟩
def ea_(c:bt_):aj_:=⟨c,List.replicate c.bals.length eh_,[],⟨0,c.gen⟩,⟨0,c.gen⟩,[],[],[⟨wO_ c.gen,-1,1⟩],0,rt0,[⟨⟨0,c.gen⟩,c.bals⟩]⟩
def uH_(c:bt_):aj_×Int:=if hi_ c=0 then (ea_ c,0)else (de_,hi_ c)
def dt_(l:List aH_)(i:Nat):aH_:=l.getD i default
def tickA(s:aj_):aj_:=⟨s.cfg,s.latest,s.eqv,s.j,s.f,s.early,s.orph,s.nodes,IntKind.u64.wrap (s.now+1),rt0,s.tabs⟩
def tickB(s:aj_):aj_:=if IntKind.u64.wrap (Int.tmod s.now s.cfg.spe)=0 then cp_ s (fa_ s).j (fa_ s).f else s
def tickR(l:List aH_)(i:Nat)(s:aj_):aj_:=if s.now≤(dt_ l i).slot then withE s (s.early++[dt_ l i])else if (cd_ s (dt_ l i)).2=0 then castIn s (dt_ l i)else s
def tickC(s:aj_)(l:List aH_):aj_:=ay_ (tickR l) (withE s []) l.length
def dd_(s:aj_):aj_×Int:=if 1099511627776≤s.now then (de_,3)else (tickC (tickB (tickA s)) (tickB (tickA s)).early,0)
def jj_(s:aj_)(b:Blk):aj_:=
 if bj_ (cp_ (df_ s (fX_ s.nodes b (dO_ b)).1) b.just b.fin) b.slot<bj_ (cp_ (df_ s (fX_ s.nodes b (dO_ b)).1) b.just b.fin) (cp_ (df_ s (fX_ s.nodes b (dO_ b)).1) b.just b.fin).now
 then cp_ (cp_ (df_ s (fX_ s.nodes b (dO_ b)).1) b.just b.fin) b.pul.j b.pul.f else cp_ (df_ s (fX_ s.nodes b (dO_ b)).1) b.just b.fin
def waitR(p:aj_×List Rt):aj_×List Rt:=
 if cs_ (withO p.1 (takeO p.1.orph (co_ p.1).toNat)) (di_ p.1.orph (co_ p.1).toNat)=0
 then (jj_ (withO p.1 (takeO p.1.orph (co_ p.1).toNat)) (di_ p.1.orph (co_ p.1).toNat),p.2++[(di_ p.1.orph (co_ p.1).toNat).root])
 else (withO p.1 (takeO p.1.orph (co_ p.1).toNat),p.2)
def waitG:Nat→aj_×List Rt→aj_×List Rt
 |0,p=>p
 |f+1,p=>if co_ p.1<0 then p else waitG f (waitR p)
def noT(b:Blk):Blk:=⟨b.pul,b.slot,b.root,b.parent,b.payload,b.diff,b.pdiff,b.just,b.fin,false⟩
def blockI(s:aj_)(b:Blk):aj_:=if b.timely=true∧b.slot=s.now∧s.boost=rt0 then withB (jj_ s b) b.root else jj_ s b
def dB_(s:aj_)(b:Blk):aj_×List Rt×Int:=
 if cs_ s b=10 then (if s.cfg.lim.orph≤s.orph.length then (de_,[],11)else (withO s (s.orph++[noT b]),[],0))
 else if cs_ s b≠0 then (de_,[],cs_ s b)
 else ((waitG ((blockI s b).orph.length+1) (blockI s b,[b.root])).1,(waitG ((blockI s b).orph.length+1) (blockI s b,[b.root])).2,0)
def qp_(s:aj_)(a:aH_):aj_×Int:=
 if (cd_ s a).2≠0 then (de_,(cd_ s a).2)else if (cd_ s a).1=false then (castIn s a,0)
 else if s.cfg.lim.early≤s.early.length then (de_,11)else (withE s (s.early++[a]),0)
def uU_(s:aj_)(t:aw_):aj_×Int:=
 if eu_ t s.cfg.bals.length≠0 then (de_,eu_ t s.cfg.bals.length)else if t.cp.ep<s.j.ep then (de_,13)
 else if (iu_ s.tabs t s.cfg.bals.length s.cfg.lim.table).2≠0 then (de_,(iu_ s.tabs t s.cfg.bals.length s.cfg.lim.table).2)
 else (withT s (iu_ s.tabs t s.cfg.bals.length s.cfg.lim.table).1,0)
theorem rh_(s:aj_):PC Tryz.prog 70 [.agg (ai_ s.a)] (.int .i64 s.cfg.bals.length):=by
 refine PC.fact 3 ot_ (by simp) puA puA ?_;unfold ib_;refine bd ?_;try refine aa_ ?_
 exact af_
def kX_(t:List Nod)(k:Nat):Pul×Bool:=ay_ (uN_ t) (ks_,false) k
theorem GD_(t:List Nod)(k:Nat):kX_ t (k+1)=uN_ t k (kX_ t k):=rfl
theorem IK_(s:aj_)(hb:s.nodes.length≤1000000):PC Tryz.prog 44 [.agg (ai_ s.a)] (.agg (cg_ (fa_ s))):=by
 refine PC.fact 7 sd_ (by simp) puA puA ?_;unfold kH_;refine bd ?_;show Tri _ _ _ _ (PQ _ (.agg (cg_ (kX_ s.nodes s.nodes.length).1))) _ _
 have hz:kX_ s.nodes 0=(ks_,false):=rfl;try refine aa_ ?_
 refine am_ (fun i:Nat=>[(4,.bool (kX_ s.nodes i).2),(5,.int .i64 i)]) (fun i=>[.var (ai_ s.a),.var (cg_ ks_),.var (cg_ (kX_ s.nodes i).1)]) (fun i=>s.nodes.length-i) (fun i=>i≤s.nodes.length) 0 (Nat.zero_le _) ?_ ?_
 ·rw[hz];exact QV_ [] [0,1,2]
 intro i hi;(try simp only[ao_,ar_,List.set_cons_zero,List.set_cons_succ])
 by_cases h1:i<s.nodes.length
 ·have e1 : decide ((i : Int) < ((s.nodes.length : Nat) : Int)) = true := decide_eq_true (by omega)
  have hw:=ae_ h1 (by omega);have hgd:=bD_ h1;have hs:=GD_ s.nodes i;generalize kX_ s.nodes i=p at *;obtain⟨⟨pj,pf⟩,sm⟩:=p;have hc:uN_ s.nodes i (⟨pj,pf⟩,sm)=if (nod s.nodes i).status=2 then (⟨pj,pf⟩,sm)else (⟨if sm=false∨pj.ep<(nod s.nodes i).blk.pul.j.ep then (nod s.nodes i).blk.pul.j else pj,if sm=false∨pf.ep<(nod s.nodes i).blk.pul.f.ep then (nod s.nodes i).blk.pul.f else pf⟩,true):=rfl
  by_cases h2:(nod s.nodes i).status=2
  ·have e2:((nod s.nodes i).status==2)=true:=by simp[h2]
   rw[if_pos h2]at hc;repeat(first|refine aa_ ?_|simp only[go_sem,e1])
   refine ac_ ?_;repeat(first|refine aa_ ?_|simp only[go_sem,hgd,e2])
   refine ac_ ?_;repeat(first|refine aa_ ?_|simp only[go_sem,hw])
   refine⟨i+1,h1,by omega,?_⟩;rw[hs,hc];exact QV_ [] [0,1,2]
  ·have e2:((nod s.nodes i).status==2)=false:=by simp[h2]
   rw[if_neg h2]at hc;repeat(first|refine aa_ ?_|simp only[go_sem,e1])
   refine ac_ ?_;repeat(first|refine aa_ ?_|simp only[go_sem,hgd,e2])
   refine ab_ ?_;cases sm with
   | false =>
     rw[if_pos (.inl rfl),if_pos (.inl rfl)]at hc;try refine aa_ ?_
     refine PH_ ?_
     refine ac_ ?_;repeat(first|refine aa_ ?_|simp only[go_sem,hw])
     refine⟨i+1,h1,by omega,?_⟩;rw[hs,hc];exact QV_ [] [0,1,2]
   | true =>
     by_cases q1:pj.ep<(nod s.nodes i).blk.pul.j.ep
     ·have k1:decide ((nod s.nodes i).blk.pul.j.ep > pj.ep)=true:=decide_eq_true q1
      have k1':decide (pj.ep<(nod s.nodes i).blk.pul.j.ep)=true:=decide_eq_true q1;rw[if_pos (.inr q1)]at hc;by_cases q2:pf.ep<(nod s.nodes i).blk.pul.f.ep
      ·have k2:decide ((nod s.nodes i).blk.pul.f.ep > pf.ep)=true:=decide_eq_true q2;have k2':decide (pf.ep<(nod s.nodes i).blk.pul.f.ep)=true:=decide_eq_true q2;rw[if_pos (.inr q2)]at hc;repeat(first|refine aa_ ?_|simp only[go_sem,k1,k1'])
       refine ac_ ?_;repeat(first|refine aa_ ?_|simp only[go_sem,k2,k2'])
       refine ac_ ?_;repeat(first|refine aa_ ?_|simp only[go_sem,hw])
       refine⟨i+1,h1,by omega,?_⟩;rw[hs,hc];exact QV_ [] [0,1,2]
      ·have k2:decide ((nod s.nodes i).blk.pul.f.ep > pf.ep)=false:=decide_eq_false q2;have k2':decide (pf.ep<(nod s.nodes i).blk.pul.f.ep)=false:=decide_eq_false q2;rw[if_neg (by simp[q2])]at hc;repeat(first|refine aa_ ?_|simp only[go_sem,k1,k1'])
       refine ac_ ?_;repeat(first|refine aa_ ?_|simp only[go_sem,k2,k2'])
       refine ab_ ?_;repeat(first|refine aa_ ?_|simp only[go_sem,hw])
       refine⟨i+1,h1,by omega,?_⟩;rw[hs,hc];exact QV_ [] [0,1,2]
     ·have k1:decide ((nod s.nodes i).blk.pul.j.ep > pj.ep)=false:=decide_eq_false q1
      have k1':decide (pj.ep<(nod s.nodes i).blk.pul.j.ep)=false:=decide_eq_false q1;rw[if_neg (by simp[q1])]at hc;by_cases q2:pf.ep<(nod s.nodes i).blk.pul.f.ep
      ·have k2:decide ((nod s.nodes i).blk.pul.f.ep > pf.ep)=true:=decide_eq_true q2;have k2':decide (pf.ep<(nod s.nodes i).blk.pul.f.ep)=true:=decide_eq_true q2;rw[if_pos (.inr q2)]at hc;repeat(first|refine aa_ ?_|simp only[go_sem,k1,k1'])
       refine ab_ ?_;repeat(first|refine aa_ ?_|simp only[go_sem,k2,k2'])
       refine ac_ ?_;repeat(first|refine aa_ ?_|simp only[go_sem,hw])
       refine⟨i+1,h1,by omega,?_⟩;rw[hs,hc];exact QV_ [] [0,1,2]
      ·have k2:decide ((nod s.nodes i).blk.pul.f.ep > pf.ep)=false:=decide_eq_false q2;have k2':decide (pf.ep<(nod s.nodes i).blk.pul.f.ep)=false:=decide_eq_false q2;rw[if_neg (by simp[q2])]at hc;repeat(first|refine aa_ ?_|simp only[go_sem,k1,k1'])
       refine ab_ ?_;repeat(first|refine aa_ ?_|simp only[go_sem,k2,k2'])
       refine ab_ ?_;repeat(first|refine aa_ ?_|simp only[go_sem,hw])
       refine⟨i+1,h1,by omega,?_⟩;rw[hs,hc];exact QV_ [] [0,1,2]
 ·obtain rfl:i=s.nodes.length:=by omega
  have e1:decide (((s.nodes.length:Nat):Int)<((s.nodes.length:Nat):Int))=false:=decide_eq_false (by omega);repeat(first|refine aa_ ?_|simp only[go_sem,e1])
  refine PG_ ?_
  exact af_
theorem ES_(s:aj_)(r:Rt)(h:StR s):PC Tryz.prog 153 [.agg (ai_ s.a),.agg (rtc r)] (.bool (oA_ s r)):=by
 refine PC.fact 6 ww_ (by simp) puA puA ?_;unfold nD_;refine bd ?_;have c1:=bv_ s.nodes r h.bn;have hb:=h.bo;unfold oA_;try refine aa_ ?_
 generalize hR:((cD_ (fun i=>decide ((di_ s.orph i).root=r)) s.orph.length).isSome || decide (0≤an_ s.nodes r))=R;refine am_ (fun i:Nat=>[(5,.int .i64 i)]) (fun _=>[.var (ai_ s.a),.var (rtc r)]) (fun i=>s.orph.length-i) (fun i=>i≤s.orph.length∧R=((eF_ (fun i=>decide ((di_ s.orph i).root=r)) (s.orph.length-i) i).isSome || decide (0≤an_ s.nodes r))) 0 ⟨Nat.zero_le _,hR.symm⟩ ?_ ?_
 ·exact QV_ [] [0,1]
 clear hR;rintro i ⟨hi,hn⟩;rw[hn];(try simp only[ao_,ar_,List.set_cons_zero,List.set_cons_succ])
 by_cases h1:i<s.orph.length
 ·have e1:decide ((i:Int)<((s.orph.length:Nat):Int))=true:=decide_eq_true (by omega)
  have hw:=ae_ h1 (by omega);have hgd:(rows ap_ s.orph).getD i []=ap_ (di_ s.orph i):=aK_ (f:=ap_) bR_ h1;repeat(first|refine aa_ ?_|simp only[go_sem,e1])
  refine ac_ ?_;repeat(first|refine aa_ ?_|simp only[go_sem,hgd])
  refine aW_ (fun h=>?_) (fun h=>?_)
  ·rw[gm_ h1 h];try refine aa_ ?_
   exact af_
  ·rw[gl_ h1 h];repeat(first|refine aa_ ?_|simp only[go_sem,hw])
   refine⟨i+1,⟨h1,rfl⟩,by omega,?_⟩;exact QV_ [] [0,1]
 ·obtain rfl:i=s.orph.length:=by omega
  have e1:decide (((s.orph.length:Nat):Int)<((s.orph.length:Nat):Int))=false:=decide_eq_false (by omega);rw[gk_];repeat(first|refine aa_ ?_|simp only[go_sem,e1])
  refine PG_ ?_
  refine Qy_ c1 ?_
  exact af_
end Go.Proofs.YtkgimpdgncakjaaGreat
namespace Go.FH
open Go Go.RowKit
set_option linter.unusedVariables false
set_option linter.unusedSimpArgs false
def mrt(l:List Rt):List (List AV):=l.map fun r=>[.agg (rtc r),.bool true]
theorem EZ_(l:List Rt):(mrt l).length=l.length:=by simp[mrt]
theorem Cv_(r:Rt):jk_ (some 32) (.agg (rtc r))=true:=by
 simp only[jk_];exact BV_ r
theorem uG_(r:Rt):∀l:List Rt,jQ_ (some 32) (.agg (rtc r)) (mrt l)=some (l.findIdx? fun x=>decide (r=x))
 | []=>rfl
 | a :: m => by
   have ih:=uG_ r m;simp only[mrt,List.map_cons,jQ_,Cv_,if_true,keq,gB_]at ih ⊢;rw[ih,List.findIdx?_cons];by_cases h:r=a
   ·simp[h]
   ·simp[h]
theorem qP_{r:Rt}{l:List Rt}(h:r∉l):jQ_ (some 32) (.agg (rtc r)) (mrt l)=some none:=by
 rw[uG_,List.findIdx?_eq_none_iff.2 fun x hx=>by simp;rintro rfl;exact h hx]
theorem mI_{r:Rt}{l:List Rt}(h:r∈l):∃j,jQ_ (some 32) (.agg (rtc r)) (mrt l)=some (some j)∧((mrt l).getD j []).getD 1 .dead=.bool true∧(mrt l).set j [.agg (rtc r),.bool true]=mrt l:=by
 rw[uG_];cases hf:l.findIdx? fun x=>decide (r=x)with
 | none =>
   rw[List.findIdx?_eq_none_iff]at hf;have:=hf r h;simp at this
 | some j =>
   obtain⟨hj,h1,_⟩:=List.findIdx?_eq_some_iff_getElem.1 hf;have h1:r=l[j]:=by simpa using h1
   refine⟨j,rfl,?_,?_⟩
   ·simp[mrt,List.getD_eq_getElem?_getD,hj]
   ·apply List.ext_getElem
    ·simp
    ·intro i h2 h3;rw[List.getElem_set];split
     ·rename_i h4;subst h4;simp[mrt,←h1]
     ·rfl
theorem Lv_(l:List Rt)(r:Rt):mrt l++[[.agg (rtc r),.bool true]]=mrt (l++[r]):=by simp[mrt]
theorem Bh_(l:List Rt):dh_ (mrt l):=by
 rw[hQ_];intro x hx;obtain⟨p,_,rfl⟩:=List.mem_map.1 hx;exact⟨cc_ p,trivial,trivial⟩
theorem IZ_(ρ:Nat→Nat)(l:List Rt):bH_ ρ (mrt l)=mrt l:=(Bh_ l).ren ρ
theorem KX_(σ:St)(zs:List Nat)(l:List Rt):dZ_ σ zs (mrt l)=mrt l:=(Bh_ l).fz σ zs
attribute [go_sem] EZ_ Cv_ IZ_ KX_ Lv_
def frE(f:Nat→Int):Nat→Nat→Int
 |0,_=>0
 |k+1,i=>if f i≠0 then f i else frE f k (i+1)
theorem BZ_{f:Nat→Int}{n i:Nat}(hi:i<n)(h:f i≠0):frE f (n-i) i=f i:=by
 obtain⟨k,hk⟩:∃k,n-i=k+1:=⟨n-i-1,by omega⟩
 rw[hk,frE,if_pos h]
theorem BY_{f:Nat→Int}{n i:Nat}(hi:i<n)(h:f i=0):frE f (n-i) i=frE f (n-(i+1)) (i+1):=by
 obtain⟨k,hk⟩:∃k,n-i=k+1:=⟨n-i-1,by omega⟩
 rw[hk,frE,if_neg (by simp[h]),show n-(i+1)=k by omega]
theorem BX_(f:Nat→Int)(n:Nat):frE f (n-n) n=0:=by rw[Nat.sub_self];rfl
theorem BW_{f:Nat→Int}:∀ {k i:Nat},frE f k i=0↔∀j,i≤j→j<i+k→f j=0
 |0,i=>by simp[frE];intro j h1 h2;omega
 | k + 1, i => by
   rw[frE];by_cases h:f i=0
   ·rw[if_neg (by simp[h]),BW_]
    constructor
    ·intro h2 j h3 h4;by_cases hj:j=i
     ·rw[hj,h]
     ·exact h2 j (by omega) (by omega)
    ·exact fun h2 j h3 h4=>h2 j (by omega) (by omega)
   ·rw[if_pos h];exact⟨fun h2=>absurd h2 h,fun h2=>h2 i (Nat.le_refl _) (by omega)⟩
def DB_(t:List Nod)(i:Nat):Int:=
 if ¬ (0≤(nod t i).status∧(nod t i).status≤2)then 2 else if i=0∧(nod t i).up≠-1 then 2 else if 0<i∧((nod t i).up<0∨(i:Int)≤(nod t i).up)then 2
 else if (nod t i).blk.root∈(t.take i).map (·.blk.root)then 9 else if i=0 then 0
 else if (nod t i).blk.parent≠(nod t (nod t i).up.toNat).blk.root then 10 else if (nod t i).blk.slot≤(nod t (nod t i).up.toNat).blk.slot then 14 else 0
def of_(t:List Nod):Int:=if t.length=0∨4096<t.length then 11 else frE (DB_ t) (t.length-0) 0
def Jx_(t:List Nod)(i:Nat):Int:=
 if ((nod t (i+1)).status=1∧(nod t (nod t (i+1)).up.toNat).status≠1)∨((nod t (nod t (i+1)).up.toNat).status=2∧(nod t (i+1)).status≠2)then 15 else 0
def ob_(t:List Nod):Int:=if of_ t≠0 then of_ t else frE (Jx_ t) (t.length-1-0) 0
theorem Dy_{t:List Nod}(h:of_ t=0):cm_ t∧t.length≤4096:=by
 unfold of_ at h;split at h
 ·cases h
 rename_i h1;have h2:=BW_.1 h
 have key:∀i,i<t.length→¬ (i=0∧(nod t i).up≠-1)∧¬ (0<i∧((nod t i).up<0∨(i:Int)≤(nod t i).up)):=fun i hi=>by
  have:=h2 i (Nat.zero_le _) (by omega);unfold DB_ at this;split at this
  ·cases this
  ·split at this
   ·cases this
   ·split at this
    ·cases this
    ·rename_i h3 h4;exact⟨h3,h4⟩
 refine⟨⟨fun i h0 hi=>?_,by omega,?_⟩,by omega⟩
 ·have:=(key i hi).2;omega
 ·have:=(key 0 (by omega)).1;omega
end Go.FH
