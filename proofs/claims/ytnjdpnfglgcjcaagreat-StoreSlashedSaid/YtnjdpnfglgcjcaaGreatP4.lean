/-
 My texts Ta, Tb, Tc, Td, Te, Tf, joined.
-/
import Derived.Test.YtnjdpnfglgcjcaaGreatV7
import Derived.Test.YtnjdpnfglgcjcaaGreatV5
import Derived.Test.YtnjdpnfglgcjcaaGreatP1
import Derived.Test.YtnjdpnfglgcjcaaGreatT3
set_option linter.unusedVariables false
set_option linter.unusedSimpArgs false
namespace Go.Proofs.YtnjdpnfglgcjcaaGreat
open Go Go.FH Go.RowKit
structure TrV(t:List Nod):Prop where
 pos:0<t.length
 st:∀i,i<t.length->0<=(nod t i).status/\(nod t i).status<=2
 r0:(nod t 0).up=-1
 up:∀i,0<i->i<t.length->0<=(nod t i).up/\(nod t i).up<i
 ds:∀i j,i<j->j<t.length->(nod t i).blk.root≠(nod t j).blk.root
 pr:∀i,0<i->i<t.length->(nod t i).blk.parent=(nod t (nod t i).up.toNat).blk.root
 sl:∀i,0<i->i<t.length->(nod t (nod t i).up.toNat).blk.slot<(nod t i).blk.slot
 va:∀i,0<i->i<t.length->(nod t i).status=1->(nod t (nod t i).up.toNat).status=1
 iv:∀i,0<i->i<t.length->(nod t (nod t i).up.toNat).status=2->(nod t i).status=2
 py:∀i,i<t.length->(nod t i).blk.payload=rt0->(nod t i).status=1
theorem TrV.r{t:List Nod}(h:TrV t):dc t:=⟨h.up,h.pos,by rw[h.r0];decide⟩
theorem TrV.statV{t:List Nod}(h:TrV t)(hl:t.length<=4096):statV t=0:=by
 have h1:mG t=0:=by
  unfold mG;rw[if_neg (by have:=h.pos;omega)];refine vS.2 fun i _ hi=>?_
  have hi:i<t.length:=by omega
  unfold xN;rw[if_neg (by have:=h.st i hi;omega),if_neg (fun hh=>hh.2 (by rw[hh.1];exact h.r0)),if_neg (fun hh=>by have:=h.up i hh.1 hi;omega)]
  rw[if_neg (fun hm=>by
   obtain⟨n,hn,he⟩:=List.mem_map.1 hm;obtain⟨k,hk,hk2⟩:=List.mem_take_iff_getElem.1 hn;refine h.ds k i (by omega) hi ?_;rw[<-he,<-hk2];unfold nod;rw[List.getD_eq_getElem?_getD,List.getElem?_eq_getElem (by omega)];rfl)]
  by_cases h0:i=0
  ·rw[if_pos h0]
  ·rw[if_neg h0,if_neg (fun hh=>hh (h.pr i (by omega) hi)),if_neg (by have:=h.sl i (by omega) hi;omega)]
 unfold Go.FH.statV;rw[if_neg (by rw[h1];decide)];refine vS.2 fun i _ hi=>?_
 have hi:i+1<t.length:=by omega
 unfold C9;rw[if_neg];rintro (⟨h1,h2⟩|⟨h1,h2⟩)
 ·exact h2 (h.va (i+1) (by omega) hi h1)
 ·exact h2 (h.iv (i+1) (by omega) hi h1)
theorem TrV.snoc{t:List Nod}(h:TrV t){n:Nod}(u0:0<=n.up)(u1:n.up<t.length)(hs:0<=n.status/\n.status<=2)(hd:∀i,i<t.length->(nod t i).blk.root≠n.blk.root)(hp:n.blk.parent=(nod t n.up.toNat).blk.root)
 (hl:(nod t n.up.toNat).blk.slot<n.blk.slot) (hv:n.status=1->(nod t n.up.toNat).status=1) (hi:(nod t n.up.toNat).status≠2) (hy:n.blk.payload=rt0->n.status=1):TrV (t++[n]):=by
 have hln:(t++[n]).length=t.length+1:=by simp
 have old:∀i,i<t.length->nod (t++[n]) i=nod t i:=fun i hi=>by rw[eK,if_pos hi]
 have new:nod (t++[n]) t.length=n:=by rw[eK,if_neg (Nat.lt_irrefl _),if_pos rfl]
 have cs:∀i,i<(t++[n]).length->i<t.length\/i=t.length:=fun i hi=>by omega
 have hup:∀i,0<i->i<t.length->(nod t i).up.toNat<t.length:=fun i h0 h1=>by have:=h.up i h0 h1;omega
 refine⟨by omega,fun i hi'=>?_,by rw[old 0 h.pos];exact h.r0,fun i h0 hi'=>?_,fun i j hij hj=>?_,fun i h0 hi'=>?_,fun i h0 hi'=>?_,fun i h0 hi'=>?_,fun i h0 hi'=>?_,fun i hi'=>?_⟩
 ·rcases cs i hi' with h1|rfl
  ·rw[old i h1];exact h.st i h1
  ·rw[new];exact hs
 ·rcases cs i hi' with h1|rfl
  ·rw[old i h1];exact h.up i h0 h1
  ·rw[new];exact⟨u0,u1⟩
 ·rcases cs j hj with h1|rfl
  ·rw[old i (by omega),old j h1];exact h.ds i j hij h1
  ·rw[old i hij,new];exact hd i hij
 ·rcases cs i hi' with h1|rfl
  ·rw[old i h1,old _ (hup i h0 h1)];exact h.pr i h0 h1
  ·rw[new,old _ (by omega)];exact hp
 ·rcases cs i hi' with h1|rfl
  ·rw[old i h1,old _ (hup i h0 h1)];exact h.sl i h0 h1
  ·rw[new,old _ (by omega)];exact hl
 ·rcases cs i hi' with h1|rfl
  ·rw[old i h1,old _ (hup i h0 h1)];exact h.va i h0 h1
  ·rw[new,old _ (by omega)];exact hv
 ·rcases cs i hi' with h1|rfl
  ·rw[old i h1,old _ (hup i h0 h1)];exact h.iv i h0 h1
  ·rw[new,old _ (by omega)];exact fun h2=>absurd h2 hi
 ·rcases cs i hi' with h1|rfl
  ·rw[old i h1];exact h.py i h1
  ·rw[new];exact hy
theorem TrV.stat{t u:List Nod}(h:TrV t)(hl:u.length=t.length)(hu:∀k,(nod u k).up=(nod t k).up/\(nod u k).blk=(nod t k).blk)(hs:∀i,i<t.length->0<=(nod u i).status/\(nod u i).status<=2)
 (hv:∀i,0<i->i<t.length->(nod u i).status=1->(nod u (nod t i).up.toNat).status=1) (hi:∀i,0<i->i<t.length->(nod u (nod t i).up.toNat).status=2->(nod u i).status=2)
 (hk:∀i,i<t.length->(nod t i).status=1->(nod u i).status=1):TrV u:=by
 refine⟨by rw[hl];exact h.pos,fun i h1=>hs i (by omega),by rw[(hu 0).1];exact h.r0,fun i h0 h1=>by rw[(hu i).1];exact h.up i h0 (by omega),fun i j hij hj=>by rw[(hu i).2,(hu j).2];exact h.ds i j hij (by omega),
  fun i h0 h1=>by rw[(hu i).1,(hu i).2,(hu _).2];exact h.pr i h0 (by omega),fun i h0 h1=>by rw[(hu i).1,(hu i).2,(hu _).2];exact h.sl i h0 (by omega),fun i h0 h1=>by rw[(hu i).1];exact hv i h0 (by omega),fun i h0 h1=>by rw[(hu i).1];exact hi i h0 (by omega),
  fun i h1=>by rw[(hu i).2];exact fun h2=>hk i (by omega) (h.py i (by omega) h2)⟩
theorem Tt{t:List Nod}{l:List Int}{status forbidden:Int}(hsf:status≠forbidden)(hm:∀x∈l,0<=x/\x<t.length):∀ {k:Nat} {u:List Nod},k<=l.length->aL (tS l status forbidden) (some t) k=some u->
 ∀i,i<t.length->((i:Int)∈l.take k->(nod t i).status≠forbidden/\(nod u i).status=status)/\((i:Int)∉l.take k->(nod u i).status=(nod t i).status)
 |0,u,_,h,i,hi=>by cases h;simp
 | k + 1, u, hk, h, i, hi => by
   rw[bH]at h;cases h2:aL (tS l status forbidden) (some t) k with
   |none=>rw[h2]at h;cases h
   | some v =>
     rw[h2]at h;simp only[tS,Option.bind_some]at h;obtain⟨ih1,ih2⟩:=Tt hsf hm (by omega) h2 i hi;have hvl:=l8 h2;have hx:l.getD k 0∈l:=cG 0 (by omega);obtain⟨x0,x1⟩:=hm _ hx
     have htk:l.take (k+1)=l.take k++[l.getD k 0]:=by
      rw[List.take_add_one,List.getElem?_eq_getElem (by omega),List.getD_eq_getElem?_getD,List.getElem?_eq_getElem (by omega)];rfl
     split at h
     ·cases h
     ·rename_i hne
      cases h;rw[htk];simp only[List.mem_append,List.mem_singleton];rw[S0];by_cases he:(i:Int)=l.getD k 0
      ·rw[if_pos ⟨by omega,by omega⟩];have hei:(l.getD k 0).toNat=i:=by omega
       rw[hei]at hne;refine⟨fun _=>⟨?_,rfl⟩,fun hh=>absurd (.inr he) hh⟩;by_cases hin:(i:Int)∈l.take k
       ·exact(ih1 hin).1
       ·rw[<-ih2 hin];exact hne
      ·rw[if_neg (by omega)];refine⟨fun hh=>ih1 (hh.resolve_right he),fun hh=>ih2 fun h3=>hh (.inl h3)⟩
theorem Tw{t u:List Nod}{l:List Int}{status forbidden:Int}(hsf:status≠forbidden)(hm:∀x∈l,0<=x/\x<t.length)(h:zn t l status forbidden=some u):
 ∀i,i<t.length->((i:Int)∈l->(nod t i).status≠forbidden/\(nod u i).status=status)/\((i:Int)∉l->(nod u i).status=(nod t i).status):=by
 have:=Tt hsf hm (Nat.le_refl _) h;rwa [List.take_length]at this
theorem Z7{t:List Nod}(ht:dc t){a:Int}{k:Nat}(h0:0<k)(hk:k<t.length)(h:(k:Int)∈bW t a):(nod t k).up∈bW t a:=by
 have key:∀n i:Nat,i<n->i<t.length->(k:Int)∈bW t i->(nod t k).up∈bW t i:=by
  intro n;induction n with
  |zero=>intro i h;omega
  | succ n ih =>
    intro i hin hil hm;rcases Nat.eq_zero_or_pos i with hz|hz
    ·subst hz;rw[show ((0:Nat):Int)=0 from rfl,iI hil]at hm;simp at hm;omega
    ·rw[iJ ht.ok hz hil]at hm ⊢
     obtain⟨v0,v1⟩:=ht.ok i hz hil;obtain⟨v,hv⟩:∃v:Nat,(nod t i).up=v:=⟨_,(Int.toNat_of_nonneg v0).symm⟩
     rw[List.mem_append,List.mem_singleton]at hm;rcases hm with hm|hm
     ·rw[hv]at hm ⊢;exact List.mem_append_left _ (ih v (by omega) (by omega) hm)
     ·obtain rfl:k=i:=by omega
      refine List.mem_append_left _ ?_;rw[hv];rcases Nat.eq_zero_or_pos v with hz|hz
      ·subst hz;rw[show ((0:Nat):Int)=0 from rfl,iI (by omega)];simp
      ·rw[iJ ht.ok hz (by omega)];simp
 have h1:=fD ht.ok h;by_cases ha:0<=a
 ·obtain⟨i,rfl⟩:∃i:Nat,a=i:=⟨_,(Int.toNat_of_nonneg ha).symm⟩
  by_cases hi:i<t.length
  ·exact key (i+1) i (by omega) hi h
  ·rw[lq (by simp[isN];omega)]at h;simp at h
 ·rw[lq (by simp[isN];omega)]at h;simp at h
theorem NO {t : List Nod} {a : Int} {k : Nat} : (k : Int) ∈ ij t a ↔ k < t.length /\ dv t a k = true := by
 have key:∀n,(k:Int)∈aL (fun k l=>if dv t a k=true then l++[(k:Int)]else l) [] n↔k<n/\dv t a k=true:=by
  intro n;induction n with
  |zero=>simp[aL]
  | succ n ih =>
    rw[bH];split
    ·rename_i h
     rw[List.mem_append,List.mem_singleton,ih];constructor
     ·rintro (⟨h1,h2⟩|h1)
      ·exact⟨by omega,h2⟩
      ·obtain rfl:k=n:=by omega
       exact⟨by omega,h⟩
     ·rintro⟨h1,h2⟩;by_cases hk:k=n
      ·right;omega
      ·left;exact⟨by omega,h2⟩
    ·rename_i h
     rw[ih];constructor
     ·rintro⟨h1,h2⟩;exact⟨by omega,h2⟩
     ·rintro⟨h1,h2⟩;by_cases hk:k=n
      ·subst hk;exact absurd h2 h
      ·exact⟨by omega,h2⟩
 exact key t.length
theorem ZD{t:List Nod}{a:Int}:∀x∈ij t a,0<=x/\x<t.length:=by
 have key:∀n,n<=t.length->∀x∈aL (fun k l=>if dv t a k=true then l++[(k:Int)]else l) [] n,0<=x/\x<t.length:=by
  intro n;induction n with
  |zero=>intro _ x hx;simp[aL]at hx
  | succ n ih =>
    intro hn x hx;rw[bH]at hx;split at hx
    ·rw[List.mem_append,List.mem_singleton]at hx;rcases hx with hx|hx
     ·exact ih (by omega) x hx
     ·omega
    ·exact ih (by omega) x hx
 exact key _ (Nat.le_refl _)
theorem Nv{t:List Nod}(ht:dc t){a:Int}{k:Nat}(h0:0<k)(hk:k<t.length)(h:dv t a (nod t k).up=true):dv t a k=true:=by
 unfold dv at *;rw[iJ ht.ok h0 hk];have h:a∈bW t (nod t k).up:=by simpa using h
 exact ak (List.mem_append_left _ h)
theorem TrV.raise{t:List Nod}(h:TrV t){i:Int}(h2:(dV t i).2=0):TrV (dV t i).1/\(∀k,k<t.length->(nod t k).status=1->(nod (dV t i).1 k).status=1)/\(∀k,k<t.length->(nod (dV t i).1 k).status=2->(nod t k).status=2):=by
 have hu:=zh h2;unfold dV at *;split at h2
 ·rename_i h1
  rw[if_pos h1]at hu ⊢;cases h3:zn t (bW t i) 1 2 with
  |none=>rw[h3]at h2;simp at h2
  | some u =>
    rw[h3]at hu;dsimp only at hu ⊢;have hs:=Tw (by decide) (fun x hx=>by have:=fD h.r.ok hx;omega) h3
    have k1:∀k,k<t.length->(nod t k).status=1->(nod u k).status=1:=fun k hk h4=>by
     by_cases hp:(k:Int)∈bW t i
     ·exact((hs k hk).1 hp).2
     ·rw[(hs k hk).2 hp];exact h4
    have k2:∀k,k<t.length->(nod u k).status=2->(nod t k).status=2:=fun k hk h4=>by
     by_cases hp:(k:Int)∈bW t i
     ·rw[((hs k hk).1 hp).2]at h4;cases h4
     ·rw[(hs k hk).2 hp]at h4;exact h4
    have hup:∀k,0<k->k<t.length->((nod t k).up.toNat:Int)=(nod t k).up/\(nod t k).up.toNat<t.length:=fun k a b=>by have:=h.up k a b;omega
    refine⟨h.stat hu.1 hu.2 (fun k hk=>?_) (fun k h0 hk h4=>?_) (fun k h0 hk h4=>?_) k1,k1,k2⟩
    ·by_cases hp:(k:Int)∈bW t i
     ·rw[((hs k hk).1 hp).2];decide
     ·rw[(hs k hk).2 hp];exact h.st k hk
    ·obtain⟨a,b⟩:=hup k h0 hk
     by_cases hp:(k:Int)∈bW t i
     ·have:=Z7 h.r h0 hk hp;rw[<-a]at this;exact((hs _ b).1 this).2
     ·rw[(hs k hk).2 hp]at h4;exact k1 _ b (h.va k h0 hk h4)
    ·obtain⟨a,b⟩:=hup k h0 hk;have h5:=h.iv k h0 hk (k2 _ b h4);by_cases hp:(k:Int)∈bW t i
     ·exact absurd h5 ((hs k hk).1 hp).1
     ·rw[(hs k hk).2 hp];exact h5
 ·simp at h2
theorem TrV.cond{t:List Nod}(h:TrV t){i:Int}(h2:(kh t i).2=0):TrV (kh t i).1/\(∀k,k<t.length->(nod t k).status=1->(nod (kh t i).1 k).status=1)/\(∀k,k<t.length->(nod (kh t i).1 k).status=2->(nod t k).status=2\/dv t i k=true):=by
 have hu:=KZ h2;unfold kh at *;split at h2
 ·rename_i h1
  rw[if_pos h1]at hu ⊢;cases h3:zn t (ij t i) 2 1 with
  |none=>rw[h3]at h2;simp at h2
  | some u =>
    rw[h3]at hu;dsimp only at hu ⊢;have hs:=Tw (by decide) ZD h3
    have k1:∀k,k<t.length->(nod t k).status=1->(nod u k).status=1:=fun k hk h4=>by
     by_cases hp:(k:Int)∈ij t i
     ·exact absurd h4 ((hs k hk).1 hp).1
     ·rw[(hs k hk).2 hp];exact h4
    have k2:∀k,k<t.length->(nod u k).status=2->(nod t k).status=2\/dv t i k=true:=fun k hk h4=>by
     by_cases hp:(k:Int)∈ij t i
     ·exact .inr (NO.1 hp).2
     ·rw[(hs k hk).2 hp]at h4;exact .inl h4
    have hup:∀k,0<k->k<t.length->((nod t k).up.toNat:Int)=(nod t k).up/\(nod t k).up.toNat<t.length:=fun k a b=>by have:=h.up k a b;omega
    refine⟨h.stat hu.1 hu.2 (fun k hk=>?_) (fun k h0 hk h4=>?_) (fun k h0 hk h4=>?_) k1,k1,k2⟩
    ·by_cases hp:(k:Int)∈ij t i
     ·rw[((hs k hk).1 hp).2];decide
     ·rw[(hs k hk).2 hp];exact h.st k hk
    ·obtain⟨a,b⟩:=hup k h0 hk
     by_cases hp:(k:Int)∈ij t i
     ·rw[((hs k hk).1 hp).2]at h4;cases h4
     ·rw[(hs k hk).2 hp]at h4;exact k1 _ b (h.va k h0 hk h4)
    ·obtain⟨a,b⟩:=hup k h0 hk
     rcases k2 _ b h4 with h5|h5
     ·have h6:=h.iv k h0 hk h5;by_cases hp:(k:Int)∈ij t i
      ·exact((hs k hk).1 hp).2
      ·rw[(hs k hk).2 hp];exact h6
     ·rw[a]at h5;exact((hs k hk).1 (NO.2 ⟨hk,Nv h.r h0 hk h5⟩)).2
 ·simp at h2
structure acX(t:List Nod)(i0:Int)(k:Nat)(p:List Nod×List Int)(ms:List Nat):Prop where
 len:ms.length=p.1.length
 ixl:p.2.length=k
 src:∀u,u<p.1.length->ms.getD u 0<k/\dv t i0 (ms.getD u 0)=true/\(nod p.1 u).blk=(nod t (ms.getD u 0)).blk/\(nod p.1 u).status=(nod t (ms.getD u 0)).status
 up:∀u,u<p.1.length->((ms.getD u 0:Int)=i0->(nod p.1 u).up=-1)/\((ms.getD u 0:Int)≠i0->0<=(nod p.1 u).up/\(nod p.1 u).up<u/\ms.getD (nod p.1 u).up.toNat 0=(nod t (ms.getD u 0)).up.toNat)
 mono:∀u v,u<v->v<p.1.length->ms.getD u 0<ms.getD v 0
 ix:∀m:Nat,m<k->dv t i0 m=true->0<=p.2.getD m 0/\p.2.getD m 0<p.1.length/\ms.getD (p.2.getD m 0).toNat 0=m
theorem Om{l:List Nat}{x:Nat}{m:Nat}:(l++[x]).getD m 0=if m<l.length then l.getD m 0 else if m=l.length then x else 0:=by
 simp only[List.getD_eq_getElem?_getD];by_cases h:m<l.length
 ·rw[if_pos h,List.getElem?_append_left h]
 ·rw[if_neg h,List.getElem?_append_right (by omega)];by_cases h2:m=l.length
  ·subst h2;simp
  ·rw[if_neg h2,List.getElem?_eq_none (by simp;omega)];rfl
theorem acr{t:List Nod}(ht:dc t)(i0:Int):∀k,k<=t.length->∃ms,acX t i0 k (aL (cX t i0) ([],[]) k) ms
 |0,_=>⟨[],⟨rfl,rfl,fun u h=>absurd h (Nat.not_lt_zero _),fun u h=>absurd h (Nat.not_lt_zero _),fun u v _ h=>absurd h (Nat.not_lt_zero _),fun m h=>absurd h (Nat.not_lt_zero _)⟩⟩
 | k + 1, hk => by
   obtain⟨ms,ih⟩:=acr ht i0 k (by omega);rw[bH];generalize aL (cX t i0) ([],[]) k=p at *;obtain⟨kp,ix⟩:=p;obtain⟨l1,l2,l3,l4,l5,l6⟩:=ih;dsimp only at l1 l2 l3 l4 l5 l6;unfold cX;by_cases ha:dv t i0 k=true
   ·rw [if_pos ha]
    dsimp only;have hln:(kp++[(⟨(nod t k).blk,if (k:Int)=i0 then -1 else ix.getD (nod t k).up.toNat 0,(nod t k).status⟩:Nod)]).length=kp.length+1:=by simp
    have oldN:∀ (n:Nod) u,u<kp.length->nod (kp++[n]) u=nod kp u:=fun n u hu=>by rw[eK,if_pos hu]
    have newN:∀ (n:Nod),nod (kp++[n]) kp.length=n:=fun n=>by rw[eK,if_neg (Nat.lt_irrefl _),if_pos rfl]
    have oldM:∀u,u<kp.length->(ms++[k]).getD u 0=ms.getD u 0:=fun u hu=>by rw[Om,if_pos (by omega)]
    have newM:(ms++[k]).getD kp.length 0=k:=by rw[Om,if_neg (by omega),if_pos (by omega)]
    refine⟨ms++[k],by simp[l1],by simp[l2],fun u hu=>?_,fun u hu=>?_,fun u v huv hv=>?_,fun m hm hma=>?_⟩
    ·rw[hln]at hu
     by_cases h1:u<kp.length
     ·rw[oldM u h1,oldN _ u h1];obtain⟨a1,a2,a3,a4⟩:=l3 u h1;exact⟨by omega,a2,a3,a4⟩
     ·obtain rfl:u=kp.length:=by omega
      rw[newM,newN];exact⟨by omega,ha,rfl,rfl⟩
    ·rw[hln]at hu
     by_cases h1:u<kp.length
     ·rw[oldM u h1,oldN _ u h1];obtain⟨a1,a2⟩:=l4 u h1;refine⟨a1,fun h=>?_⟩;obtain⟨b1,b2,b3⟩:=a2 h;exact⟨b1,b2,by rw[oldM _ (by omega)];exact b3⟩
     ·obtain rfl:u=kp.length:=by omega
      rw[newM,newN];dsimp only;refine⟨fun h=>if_pos h,fun h=>?_⟩;rw[if_neg h];obtain⟨h0,h1⟩:=KB ht (by omega) ha h;obtain⟨h2,h3⟩:=ht.ok k h0 (by omega);obtain⟨b1,b2,b3⟩:=l6 (nod t k).up.toNat (by omega) (by rw[Int.toNat_of_nonneg h2];exact h1);exact⟨b1,b2,by rw[oldM _ (by omega)];exact b3⟩
    ·rw[hln]at hv
     by_cases h1:v<kp.length
     ·rw[oldM u (by omega),oldM v h1];exact l5 u v huv h1
     ·obtain rfl:v=kp.length:=by omega
      rw[newM,oldM u huv];exact(l3 u huv).1
    ·rw[kv]
     by_cases hmk:m<k
     ·rw[if_pos (by omega)];obtain⟨b1,b2,b3⟩:=l6 m hmk hma;exact⟨b1,by rw[hln];omega,by rw[oldM _ (by omega)];exact b3⟩
     ·obtain rfl:m=k:=by omega
      rw[if_neg (by omega),if_pos (by omega)];exact⟨by omega,by rw[hln];omega,by rw[Int.toNat_natCast];exact newM⟩
   ·rw [if_neg ha]
    dsimp only;refine⟨ms,l1,by simp[l2],fun u hu=>?_,l4,l5,fun m hm hma=>?_⟩
    ·obtain⟨a1,a2,a3,a4⟩:=l3 u hu;exact⟨by omega,a2,a3,a4⟩
    ·by_cases hmk:m<k
     ·rw[kv,if_pos (by omega)];exact l6 m hmk hma
     ·obtain rfl:m=k:=by omega
      exact absurd hma ha
structure qt(t:List Nod)(i0:Nat)(u:List Nod)(ms:List Nat):Prop where
 len:ms.length=u.length
 pos:0<u.length
 src:∀k,k<u.length->ms.getD k 0<t.length/\dv t i0 (ms.getD k 0)=true/\(nod u k).blk=(nod t (ms.getD k 0)).blk/\(nod u k).status=(nod t (ms.getD k 0)).status
 up:∀k,0<k->k<u.length->0<ms.getD k 0/\0<=(nod u k).up/\(nod u k).up<k/\ms.getD (nod u k).up.toNat 0=(nod t (ms.getD k 0)).up.toNat
 mono:∀k v,k<v->v<u.length->ms.getD k 0<ms.getD v 0
 zero:ms.getD 0 0=i0/\(nod u 0).up=-1
 all:∀m:Nat,m<t.length->dv t i0 m=true->∃k,k<u.length/\ms.getD k 0=m
theorem L7{t:List Nod}(ht:dc t){i0:Nat}(hi:i0<t.length):∃ms,qt t i0 (dL t i0).1 ms:=by
 obtain⟨ms,h⟩:=acr ht i0 t.length (Nat.le_refl _);have hself:=m0 ht hi;obtain⟨s1,s2,s3⟩:=h.ix i0 hi hself
 have hle:∀k,k<(dL t i0).1.length->i0<=ms.getD k 0:=fun k hk=>by
  have:=Dm ht (h.src k hk).2.1;omega
 have hpos:0<(dL t i0).1.length:=by show 0<(aL (cX t i0) ([],[]) t.length).1.length;omega
 have h0:ms.getD 0 0=i0:=by
  by_cases hz:((aL (cX t i0) ([],[]) t.length).2.getD i0 0).toNat=0
  ·rw[hz]at s3;exact s3
  ·have h1:=h.mono 0 ((aL (cX t i0) ([],[]) t.length).2.getD i0 0).toNat (by omega) (by omega);rw[s3]at h1;have:=hle 0 hpos;omega
 refine⟨ms,h.len,hpos,h.src,fun k hk hk2=>?_,h.mono,⟨h0,(h.up 0 hpos).1 (by rw[h0])⟩,fun m hm hma=>?_⟩
 ·have h1:=h.mono 0 k hk hk2;rw[h0]at h1;obtain⟨a1,a2,a3⟩:=(h.up k hk2).2 (by omega);exact⟨by omega,a1,a2,a3⟩
 ·obtain⟨b1,b2,b3⟩:=h.ix m hm hma;exact⟨_,by show _<(aL (cX t i0) ([],[]) t.length).1.length;omega,b3⟩
theorem TrV.prune{t:List Nod}(h:TrV t){i0:Nat}(hi:i0<t.length):TrV (dL t i0).1:=by
 obtain⟨ms,p⟩:=L7 h.r hi;have hr:=h.r.prune (i0:=(i0:Int)) (by omega) (by omega);have U:∀k,0<k->k<(dL t i0).1.length->(nod (dL t i0).1 k).up.toNat<(dL t i0).1.length:=fun k h0 h1=>by have:=hr.ok k h0 h1;omega
 have B:∀k,0<k->(hk:k<(dL t i0).1.length)->(nod (dL t i0).1 (nod (dL t i0).1 k).up.toNat).blk=(nod t (nod t (ms.getD k 0)).up.toNat).blk/\(nod (dL t i0).1 (nod (dL t i0).1 k).up.toNat).status=(nod t (nod t (ms.getD k 0)).up.toNat).status:=fun k h0 h1=>by
  have:=p.src _ (U k h0 h1);rw[(p.up k h0 h1).2.2.2]at this;exact⟨this.2.2.1,this.2.2.2⟩
 refine⟨p.pos,fun k hk=>?_,p.zero.2,fun k h0 hk=>⟨(p.up k h0 hk).2.1,(p.up k h0 hk).2.2.1⟩,fun i j hij hj=>?_,fun k h0 hk=>?_,fun k h0 hk=>?_,fun k h0 hk=>?_,fun k h0 hk=>?_,fun k hk=>?_⟩
 ·rw[(p.src k hk).2.2.2];exact h.st _ (p.src k hk).1
 ·rw[(p.src i (by omega)).2.2.1,(p.src j hj).2.2.1];exact h.ds _ _ (p.mono i j hij hj) (p.src j hj).1
 ·rw[(p.src k hk).2.2.1,(B k h0 hk).1];exact h.pr _ (p.up k h0 hk).1 (p.src k hk).1
 ·rw[(p.src k hk).2.2.1,(B k h0 hk).1];exact h.sl _ (p.up k h0 hk).1 (p.src k hk).1
 ·rw[(p.src k hk).2.2.2,(B k h0 hk).2];exact h.va _ (p.up k h0 hk).1 (p.src k hk).1
 ·rw[(p.src k hk).2.2.2,(B k h0 hk).2];exact h.iv _ (p.up k h0 hk).1 (p.src k hk).1
 ·rw[(p.src k hk).2.2.1,(p.src k hk).2.2.2];exact h.py _ (p.src k hk).1
theorem Cd{α:Type}(l:List α)(d:α)(p:α->Prop)[DecidablePred p]:aL (fun i o=>if p (l.getD i d)then o++[l.getD i d]else o) [] l.length=l.filter (fun x=>decide (p x)):=by
 have key:∀n,n<=l.length->aL (fun i o=>if p (l.getD i d)then o++[l.getD i d]else o) [] n=(l.take n).filter (fun x=>decide (p x)):=by
  intro n;induction n with
  |zero=>intro _;rfl
  | succ n ih =>
    intro hn;have e0:l[n]'(by omega)=l.getD n d:=by rw[List.getD_eq_getElem?_getD,List.getElem?_eq_getElem (by omega)];rfl
    rw[bH,ih (by omega),List.take_add_one,List.getElem?_eq_getElem (by omega),Option.toList_some,List.filter_append,e0];by_cases q:p (l.getD n d)
    ·rw[if_pos q,List.filter_cons,if_pos (ak q),List.filter_nil]
    ·rw[if_neg q,List.filter_cons,if_neg (by rw[au q];decide),List.filter_nil,List.append_nil]
 rw[key _ (Nat.le_refl _),List.take_length]
theorem rC(l:List aH)(e:Int):eM l e=l.filter (fun t=>decide (e<=t.cp.ep)):=Cd l default (fun t:aH=>e<=t.cp.ep)
theorem tq(l:List Blk)(a:Int):aL (nS l a) [] l.length=l.filter (fun b=>decide (a<b.slot)):=Cd l dO (fun b:Blk=>a<b.slot)
theorem ZR{l:List aH}{c:Cp}(h:0<=cS l c):∃t∈l,t.cp=c:=by
 unfold cS at h;cases hf:cE (fun i=>decide ((tab l i).cp=c)) l.length with
 |none=>rw[hf,jO]at h;exact absurd h (by decide)
 | some k =>
   obtain⟨h1,h2,_⟩:=dY hf;exact⟨tab l k,cG _ h1,of_decide_eq_true h2⟩
theorem Dz{l:List aH}{t:aH}(h:t∈l):0<=cS l t.cp:=by
 unfold cS;cases hf:cE (fun i=>decide ((tab l i).cp=t.cp)) l.length with
 | none =>
   obtain⟨k,hk,he⟩:=List.getElem_of_mem h;have:=gI hf k hk;unfold tab at this;rw[List.getD_eq_getElem?_getD,List.getElem?_eq_getElem hk]at this;have h2:(l[k]).cp≠t.cp:=of_decide_eq_false this;rw[he]at h2;exact absurd rfl h2
 |some k=>rw[gc];omega
theorem zb{t:List Nod}{r:Rt}:aj t r<0↔∀n∈t,n.blk.root≠r:=by
 have h:=tc t r;constructor
 ·intro h1 n hn he;have:=h.2 (List.mem_map.2 ⟨n,hn,he⟩);omega
 ·intro h1
  by_cases h2:0<=aj t r
  ·obtain⟨n,hn,he⟩:=List.mem_map.1 (h.1 h2);exact absurd he (h1 n hn)
  ·omega
def AY(l:List aH)(n:Int):Prop:=(∀t∈l,fJ t n=0)/\l.Pairwise fun a b=>gh a.cp b.cp<0
structure acV(s:am)(b:Blk):Prop where
 rt:b.root≠rt0
 un:aj s.nodes b.root<0
 ti:b.timely=false
 nw:b.slot<=s.now
 ol:(bD s.f.ep s.cfg.spe).1<b.slot
structure StW(s:am):Prop where
 ne:iH s.cfg=0
 tree:TrV s.nodes
 z1:(s.nodes.length:Int)<=s.cfg.lim.node
 z2:(s.orph.length:Int)<=s.cfg.lim.orph
 z3:(s.early.length:Int)<=s.cfg.lim.early
 z4:(s.tabs.length:Int)<=s.cfg.lim.table
 fr:(nod s.nodes 0).blk.root=s.f.rt
 jf:0<=aj s.nodes s.j.rt
 ji:(nod s.nodes (aj s.nodes s.j.rt).toNat).status≠2
 fj:s.f.ep<=s.j.ep
 tj:∃t∈s.tabs,t.cp=s.j
 tv:AY s.tabs s.cfg.bals.length
 ll:s.latest.length=s.cfg.bals.length
 lv:∀v∈s.latest,v.has=false->v=fg
 qv:s.eqv=[]\/dr s.eqv s.cfg.bals.length=0
 bo:s.boost=rt0\/0<=aj s.nodes s.boost
 nm:s.now<=1099511627776
 je:s.j.ep<=bY s s.now
 ea:(bD s.f.ep s.cfg.spe).2=0/\(nod s.nodes 0).blk.slot<=(bD s.f.ep s.cfg.spe).1
 nd:∀n∈s.nodes,n.blk.slot<=s.now/\lX s n.blk=true
 av:∀a∈s.early,dr a.vals s.cfg.bals.length=0
 ob:∀b∈s.orph,acV s b
 od:s.orph.Pairwise fun a b=>a.root≠b.root
structure StV(s:am):Prop where
 w:StW s
 op:∀b∈s.orph,aj s.nodes b.parent<0
theorem za{t:List Nod}{k:Nat}(h:k<t.length):nod t k∈t:=cG _ h
structure acU(s:am)(a b:Cp):Prop where
 i0:0<=aj s.nodes a.rt
 k0:0<=aj s.nodes b.rt
 i2:(nod s.nodes (aj s.nodes a.rt).toNat).status≠2
 k2:(nod s.nodes (aj s.nodes b.rt).toNat).status≠2
 ea:jz s (aj s.nodes a.rt) a.ep=true
 eb:jz s (aj s.nodes b.rt) b.ep=true
 an:dv s.nodes (aj s.nodes b.rt) (aj s.nodes a.rt)=true
 le:b.ep<=a.ep
 nw:a.ep<=bY s s.now
 tb:0<=cS s.tabs a
theorem acm{s:am}{a b:Cp}(h:¬qP s a b=false):acU s a b:=by
 unfold qP at h;simp only[Bool.not_eq_false,Bool.and_eq_true,decide_eq_true_eq]at h;obtain⟨⟨⟨⟨⟨⟨⟨⟨⟨h1,h2⟩,h3⟩,h4⟩,h5⟩,h6⟩,h7⟩,h8⟩,h9⟩,h10⟩:=h;exact⟨h1,h2,h3,h4,h5,h6,h7,h8,h9,h10⟩
theorem JD{t u:List Nod}{i0:Nat}{ms:List Nat}(p:qt t i0 u ms){n:Nod}(h:n∈u):∃m∈t,n.blk=m.blk/\n.status=m.status:=by
 obtain⟨k,hk,rfl⟩:=y7 h;obtain⟨a1,a2,a3,a4⟩:=p.src k hk;exact⟨_,za a1,a3,a4⟩
theorem StW.upd{s:am}{i:Nat}(h:StW s)(hI:bi s i){j f:Cp}(hj:U64 j.ep)(hf:U64 f.ep):StW (dl s j f):=by
 have hcf:(dl s j f).cfg=s.cfg:=M0 s j f;have hue:=Y8 j f hI.uj hI.uf hj hf;unfold dl at *;by_cases hm:qP s (dK s.j j) (dK s.f f)=false
 ·rw[if_pos hm];exact h
 rw[if_neg hm]at hue ⊢;have m:=acm hm;have hbu:U64 (dK s.f f).ep:=nV hI.uf hf;generalize dK s.j j=a at *;generalize dK s.f f=b at *;have hst:(bD b.ep s.cfg.spe).2=0:=tU hbu.lo hI.cfg.s1 (by have:=hI.cfg.s4;omega) hI.nw.1.lo hI.nw.1.hi (Int.le_trans m.le m.nw);have htl:((eM s.tabs a.ep).length:Int)<=s.cfg.lim.table:=by have:=mM s.tabs a.ep;have:=h.z4;omega
 have htv:AY (eM s.tabs a.ep) s.cfg.bals.length:=⟨fun t ht=>h.tv.1 t (mN _ _ t ht),by rw[rC];exact h.tv.2.filter _⟩
 have htj:∃t∈eM s.tabs a.ep,t.cp=a:=by
  obtain⟨t,h1,h2⟩:=ZR m.tb;refine⟨t,?_,h2⟩;rw[rC,List.mem_filter];exact⟨h1,ak (by rw[h2];exact Int.le_refl _)⟩
 by_cases hb:b=s.f
 ·rw[if_pos hb];refine⟨h.ne,h.tree,h.z1,h.z2,h.z3,htl,by rw[hb];exact h.fr,m.i0,m.i2,m.le,htj,htv,h.ll,h.lv,h.qv,h.bo,h.nm,m.nw,by rw[hb];exact h.ea,h.nd,h.av,fun x hx=>?_,h.od⟩;obtain⟨a1,a2,a3,a4,a5⟩:=h.ob x hx;exact⟨a1,a2,a3,a4,by rw[hb];exact a5⟩
 ·rw [if_neg hb]
  obtain⟨k1,k2⟩:=dU m.k0;obtain⟨ms,p⟩:=L7 h.tree.r k1;have hK:(((aj s.nodes b.rt).toNat:Nat):Int)=aj s.nodes b.rt:=Int.toNat_of_nonneg m.k0;have htr:=h.tree.prune k1;have hfi:=tM h.tree.r m.i0 m.an;rw[hK]at p htr;have hle:=qR h.tree.r (aj s.nodes b.rt);have hI0:=dU m.i0;have hI1:=dU hfi;have z0:=p.src 0 p.pos;rw[p.zero.1]at z0;generalize (dL s.nodes (aj s.nodes b.rt)).1=u at *
  have hun:∀r,aj s.nodes r<0->aj u r<0:=fun r hr=>by
   rw[zb]at hr ⊢;intro n hn;obtain⟨q,h1,h2,_⟩:=JD p hn;rw[h2];exact hr q h1
  refine⟨h.ne,htr,by have:=h.z1;show (u.length:Int)<=s.cfg.lim.node;omega,?_,h.z3,htl,?_,hfi,?_,m.le,htj,htv,h.ll,h.lv,h.qv,?_,h.nm,m.nw,⟨hst,?_⟩,fun n hn=>?_,h.av,fun x hx=>?_,?_⟩
  ·rw[tq];have:=List.length_filter_le (fun x:Blk=>decide ((cR s b.ep).1<x.slot)) s.orph;have:=h.z2;show ((List.filter _ s.orph).length:Int)<=s.cfg.lim.orph
   omega
  ·show (nod u 0).blk.root=b.rt
   rw[z0.2.2.1];exact k2
  ·show (nod u (aj u a.rt).toNat).status≠2
   obtain⟨a1,a2,a3,a4⟩:=p.src _ hI1.1;rw[a4]
   have e:ms.getD (aj u a.rt).toNat 0=(aj s.nodes a.rt).toNat:=by
    have e1:(nod s.nodes (ms.getD (aj u a.rt).toNat 0)).blk.root=(nod s.nodes (aj s.nodes a.rt).toNat).blk.root:=by rw[<-a3,hI1.2,hI0.2]
    rcases Nat.lt_trichotomy (ms.getD (aj u a.rt).toNat 0) (aj s.nodes a.rt).toNat with h1|h1|h1
    ·exact absurd e1 (h.tree.ds _ _ h1 hI0.1)
    ·exact h1
    ·exact absurd e1.symm (h.tree.ds _ _ h1 a1)
   rw[e];exact m.i2
  ·show (if aj u s.boost<0 then rt0 else s.boost)=rt0\/0<=aj u (if aj u s.boost<0 then rt0 else s.boost)
   split
   ·exact .inl rfl
   ·right;omega
  ·show (nod u 0).blk.slot<=(bD b.ep s.cfg.spe).1
   rw[z0.2.2.1];have:=m.eb;unfold jz cR at this;rw[hst]at this;simpa using this
  ·obtain⟨q,h1,h2,_⟩:=JD p hn;rw[h2];exact h.nd q h1
  ·have hx:x∈aL (nS s.orph (cR s b.ep).1) [] s.orph.length:=hx;rw[tq,List.mem_filter]at hx;obtain⟨a1,a2,a3,a4,a5⟩:=h.ob x hx.1;exact⟨a1,hun _ a2,a3,a4,of_decide_eq_true hx.2⟩
  ·show (aL (nS s.orph (cR s b.ep).1) [] s.orph.length).Pairwise _
   rw[tq];exact h.od.filter _
theorem abZ{s:am}(h:dc s.nodes)(j f:Cp){r:Rt}(hr:aj s.nodes r<0):aj (dl s j f).nodes r<0:=by
 rw[zb]at hr ⊢;intro n hn;obtain⟨m,h1,h2⟩:=(J7 h j f).2 n hn;rw[h2];exact hr _ (za h1)
theorem StV.upd{s:am}{i:Nat}(h:StV s)(hI:bi s i){j f:Cp}(hj:U64 j.ep)(hf:U64 f.ep):StV (dl s j f):=
 ⟨h.w.upd hI hj hf,fun b hb=>abZ h.w.tree.r j f (h.op b ((oh s j f).2 b hb))⟩
theorem QI{p a b:Int}(hp:1<=p)(ha:0<=a)(hab:a<=b)(hb:b<18446744073709551616):IntKind.u64.wrap (Int.tdiv a p)<=IntKind.u64.wrap (Int.tdiv b p):=by
 have h1:Int.tdiv a p=a / p:=Int.tdiv_eq_ediv_of_nonneg ha;have h2:Int.tdiv b p=b / p:=Int.tdiv_eq_ediv_of_nonneg (by omega);have h3:a / p<=b / p:=Int.ediv_le_ediv (by omega) hab;have h4:0<=a / p:=Int.ediv_nonneg ha (by omega);have h5:b / p<=b:=Int.ediv_le_self _ (by omega);rw[h1,h2,aU h4 (by omega),aU (by omega) (by omega)];exact h3
theorem StV.tickA{s:am}{i:Nat}(h:StV s)(hI:bi s i)(h3:¬1099511627776<=s.now):StV (tickA s):=by
 have hw:=hI.nw.1;have e:IntKind.u64.wrap (s.now+1)=s.now+1:=aU (by have:=hw.lo;omega) (by omega);have hne:(Go.Proofs.YtnjdpnfglgcjcaaGreat.tickA s).now=s.now+1:=e;obtain⟨w,op⟩:=h;refine⟨⟨w.ne,w.tree,w.z1,w.z2,w.z3,w.z4,w.fr,w.jf,w.ji,w.fj,w.tj,w.tv,w.ll,w.lv,w.qv,.inl rfl,by rw[hne];omega,?_,w.ea,fun n hn=>⟨?_,(w.nd n hn).2⟩,w.av,fun b hb=>?_,w.od⟩,op⟩
 ·have h1:=QI hI.cfg.s1 hw.lo (show s.now<=s.now+1 by omega) (by omega);have h2:=w.je;show s.j.ep<=IntKind.u64.wrap (Int.tdiv (Go.Proofs.YtnjdpnfglgcjcaaGreat.tickA s).now s.cfg.spe)
  rw[hne];exact Int.le_trans h2 h1
 ·have:=(w.nd n hn).1;rw[hne];omega
 ·obtain⟨a1,a2,a3,a4,a5⟩:=w.ob b hb;exact⟨a1,a2,a3,by rw[hne];omega,a5⟩
theorem StV.tickB{s:am}{i:Nat}(h:StV s)(hI:bi s i):StV (tickB s):=by
 unfold Go.Proofs.YtnjdpnfglgcjcaaGreat.tickB;split
 ·have:=L6 (s:=s) fun k hk=>hI.blk hk
  exact h.upd hI this.1 this.2
 ·exact h
theorem StV.withE{s:am}(h:StV s){l:List aW}(h1:(l.length:Int)<=s.cfg.lim.early)(h2:∀a∈l,dr a.vals s.cfg.bals.length=0):StV (withE s l):=by
 obtain⟨w,op⟩:=h;exact⟨⟨w.ne,w.tree,w.z1,w.z2,h1,w.z4,w.fr,w.jf,w.ji,w.fj,w.tj,w.tv,w.ll,w.lv,w.qv,w.bo,w.nm,w.je,w.ea,w.nd,h2,fun b hb=>⟨(w.ob b hb).rt,(w.ob b hb).un,(w.ob b hb).ti,(w.ob b hb).nw,(w.ob b hb).ol⟩,w.od⟩,op⟩
theorem StV.withL{s:am}(h:StV s){l:List Vot}(h1:l.length=s.latest.length)(h2:∀v∈l,v.has=false->v=fg):StV (withL s l):=by
 obtain⟨w,op⟩:=h;exact⟨⟨w.ne,w.tree,w.z1,w.z2,w.z3,w.z4,w.fr,w.jf,w.ji,w.fj,w.tj,w.tv,h1.trans w.ll,h2,w.qv,w.bo,w.nm,w.je,w.ea,w.nd,w.av,fun b hb=>⟨(w.ob b hb).rt,(w.ob b hb).un,(w.ob b hb).ti,(w.ob b hb).nw,(w.ob b hb).ol⟩,w.od⟩,op⟩
theorem Zt{l:List Vot}(h:∀v∈l,v.has=false->v=fg)(ep:Int)(root:Rt)(m:List Int):∀v∈(BI l ep root m).1,v.has=false->v=fg:=by
 refine fE (f:=mD ep root m) (a:=(l,0)) (fun _ p=>∀v∈p.1,v.has=false->v=fg) h m.length (fun i p hi hp=>?_) _ (Nat.le_refl _);unfold mD;split
 ·intro v hv hh;rcases List.mem_or_eq_of_mem_set hv with h1|h1
  ·exact hp v h1 hh
  ·subst h1;cases hh
 ·exact hp
theorem StV.castIn{s:am}(h:StV s)(a:aW):StV (castIn s a):=h.withL (nM _ _ _ _ _) (Zt h.w.lv _ _ _)
theorem StV.tickR{l:List aW}{s:am}(h:StV s)(hl:(l.length:Int)<=s.cfg.lim.early)(ha:∀a∈l,dr a.vals s.cfg.bals.length=0):∀k,k<=l.length->StV (aL (tickR l) (Go.FH.withE s []) k)/\(aL (tickR l) (Go.FH.withE s []) k).early.length<=k/\(aL (tickR l) (Go.FH.withE s []) k).cfg=s.cfg/\(∀a∈(aL (tickR l) (Go.FH.withE s []) k).early,dr a.vals s.cfg.bals.length=0)
 |0,_=>⟨h.withE (by have:=h.w.z3;simp;omega) (by simp),Nat.le_refl _,rfl,fun a ha=>(by cases ha)⟩
 | k + 1, hk => by
   obtain⟨h1,h2,h3,h4⟩:=StV.tickR h hl ha k (by omega);rw[bH];generalize aL (Go.Proofs.YtnjdpnfglgcjcaaGreat.tickR l) (Go.FH.withE s []) k=t at *;unfold Go.Proofs.YtnjdpnfglgcjcaaGreat.tickR
   have hm:∀x∈t.early++[fk l k],dr x.vals s.cfg.bals.length=0:=fun x hx=>by
    rcases List.mem_append.1 hx with hx|hx
    ·exact h4 x hx
    ·rw[List.mem_singleton]at hx;subst hx;exact ha _ (xV (by omega))
   split
   ·refine⟨h1.withE (by rw[h3];simp;omega) (by rw[h3];exact hm),by show (t.early++[fk l k]).length<=k+1;simp;omega,h3,hm⟩
   ·split
    ·exact⟨h1.castIn _,Nat.le_succ_of_le h2,h3,h4⟩
    ·exact⟨h1,Nat.le_succ_of_le h2,h3,h4⟩
theorem StV.tick{s:am}{i:Nat}(h:StV s)(hI:bi s i)(h2:(dH s).2=0):StV (dH s).1:=by
 unfold dH at *;split at h2
 ·simp at h2
 ·rename_i h3;rw[if_neg h3];have hb:=(h.tickA hI h3).tickB (hI.tickA h3);exact(StV.tickR hb hb.w.z3 hb.w.av _ (Nat.le_refl _)).1
theorem Ur{s:am}{a:aW}(h:(dB s a).2=0):dr a.vals s.cfg.bals.length=0:=by
 unfold dB at h;split at h
 ·rename_i h1;exact absurd h h1
 ·rename_i h1;simpa using h1
theorem StV.att{s:am}(h:StV s){a:aW}(h2:(i9 s a).2=0):StV (i9 s a).1:=by
 unfold i9 at *;split at h2
 ·rename_i h3;exact absurd h2 h3
 ·rename_i h3
  rw[if_neg h3];split at h2
  ·rename_i h4;rw[if_pos h4];exact h.castIn a
  ·rename_i h4
   rw[if_neg h4];split at h2
   ·simp at h2
   ·rename_i h5;rw[if_neg h5];refine h.withE (by simp;omega) (fun x hx=>?_);rcases List.mem_append.1 hx with hx|hx
    ·exact h.w.av x hx
    ·rw[List.mem_singleton]at hx;subst hx;exact Ur (by simpa using h3)
theorem Y5{x y:UInt8}(h1:¬x<y)(h2:¬y<x):x=y:=by
 rw[UInt8.lt_iff_toNat_lt]at h1 h2;exact UInt8.toNat_inj.1 (by omega)
theorem D5(a b:Rt):∀f i,oM b a f i=- oM a b f i
 |0,_=>rfl
 | f + 1, i => by
   unfold oM;by_cases h1:a.1.getD i 0<b.1.getD i 0
   ·have h2:¬b.1.getD i 0<a.1.getD i 0:=by rw[UInt8.lt_iff_toNat_lt]at *;omega
    rw[if_neg h2,if_pos h1,if_pos h1];rfl
   ·by_cases h2:b.1.getD i 0<a.1.getD i 0
    ·rw[if_pos h2,if_neg h1,if_pos h2]
    ·rw[if_neg h2,if_neg h1,if_neg h1,if_neg h2];exact D5 a b f (i+1)
theorem SF(a b:Rt):∀f i,oM a b f i=0->∀k,i<=k->k<i+f->a.1.getD k 0=b.1.getD k 0
 |0,i,_,k,h1,h2=>by omega
 | f + 1, i, h, k, h1, h2 => by
   unfold oM at h;split at h
   ·cases h
   ·rename_i h3
    split at h
    ·cases h
    ·rename_i h4;by_cases hk:k=i
     ·subst hk;exact Y5 h3 h4
     ·exact SF a b f (i+1) h k (by omega) (by omega)
theorem NM(a b:Rt):∀f i,oM a b f i<0↔∃m,i<=m/\m<i+f/\(∀k,i<=k->k<m->a.1.getD k 0=b.1.getD k 0)/\a.1.getD m 0<b.1.getD m 0
 |0,i=>⟨fun h=>absurd (show (0:Int)<0 from h) (by decide),fun ⟨m,h1,h2,_⟩=>by omega⟩
 | f + 1, i => by
   unfold oM;by_cases h1:a.1.getD i 0<b.1.getD i 0
   ·rw[if_pos h1];exact⟨fun _=>⟨i,Nat.le_refl _,by omega,fun k h2 h3=>by omega,h1⟩,fun _=>by decide⟩
   ·rw [if_neg h1]
    by_cases h2:b.1.getD i 0<a.1.getD i 0
    ·rw[if_pos h2]
     refine⟨fun h=>absurd h (by decide),fun ⟨m,h3,h4,h5,h6⟩=>?_⟩;by_cases hm:m=i
     ·subst hm;exact absurd h6 h1
     ·have:=h5 i (Nat.le_refl _) (by omega);rw[this]at h2;rw[UInt8.lt_iff_toNat_lt]at h2;omega
    ·rw[if_neg h2,NM a b f (i+1)]
     have he:=Y5 h1 h2;constructor
     ·rintro⟨m,h3,h4,h5,h6⟩;refine⟨m,by omega,by omega,fun k h7 h8=>?_,h6⟩;by_cases hk:k=i
      ·subst hk;exact he
      ·exact h5 k (by omega) h8
     ·rintro⟨m,h3,h4,h5,h6⟩;have hm:m≠i:=fun h=>by subst h;exact h1 h6
      exact⟨m,by omega,by omega,fun k h7 h8=>h5 k (by omega) h8,h6⟩
theorem Qr{a b c:Rt}(h1:rI a b<0)(h2:rI b c<0):rI a c<0:=by
 unfold rI at *;rw[NM]at *;obtain⟨m,a1,a2,a3,a4⟩:=h1;obtain⟨n,b1,b2,b3,b4⟩:=h2;rcases Nat.lt_trichotomy m n with h|h|h
 ·exact⟨m,a1,a2,fun k h3 h4=>(a3 k h3 h4).trans (b3 k h3 (by omega)),by rw[<-b3 m a1 h];exact a4⟩
 ·subst h;exact⟨m,a1,a2,fun k h3 h4=>(a3 k h3 h4).trans (b3 k h3 h4),by rw[UInt8.lt_iff_toNat_lt]at *;omega⟩
 ·exact⟨n,b1,b2,fun k h3 h4=>(a3 k h3 (by omega)).trans (b3 k h3 h4),by rw[a3 n b1 h];exact b4⟩
theorem abw{a b:Rt}(h:rI a b=0):a=b:=by
 have h1:=SF a b 32 0 h;refine Subtype.ext (List.ext_getElem (by rw[a.2,b.2]) fun i h2 h3=>?_);have:=h1 i (Nat.zero_le _) (by have:=a.2;omega);rwa [List.getD_eq_getElem?_getD,List.getD_eq_getElem?_getD,List.getElem?_eq_getElem h2,List.getElem?_eq_getElem h3]at this
theorem IJ(a b:Cp):gh b a=- gh a b:=by
 unfold gh;by_cases h:a.ep=b.ep
 ·rw[if_neg (fun hh=>hh h.symm),if_neg (fun hh=>hh h)];exact D5 _ _ _ _
 ·rw[if_pos h,if_pos (fun hh=>h hh.symm)];by_cases h1:a.ep<b.ep
  ·rw[if_pos h1,if_neg (by omega)];rfl
  ·rw[if_neg h1,if_pos (by omega)]
theorem W8{a b:Cp}(h:gh a b=0):a=b:=by
 unfold gh at h;obtain⟨ae,ar⟩:=a;obtain⟨be,br⟩:=b;dsimp only at h;by_cases h1:ae=be
 ·rw[if_neg (fun hh=>hh h1)]at h;rw[h1,abw h]
 ·rw[if_pos h1]at h;split at h<;>cases h
theorem ZA{a b:Cp}:gh a b<0↔a.ep<b.ep\/(a.ep=b.ep/\rI a.rt b.rt<0):=by
 unfold gh;by_cases h1:a.ep=b.ep
 ·rw[if_neg (fun hh=>hh h1)];exact⟨fun h=>.inr ⟨h1,h⟩,fun h=>h.elim (fun h=>by omega) fun h=>h.2⟩
 ·rw[if_pos h1];split
  ·rename_i h2;exact⟨fun _=>.inl h2,fun _=>by decide⟩
  ·rename_i h2;exact⟨fun h=>absurd h (by decide),fun h=>h.elim (fun h=>absurd h h2) fun h=>absurd h.1 h1⟩
theorem D4{a b c:Cp}(h1:gh a b<0)(h2:gh b c<0):gh a c<0:=by
 rw[ZA]at *;rcases h1 with h1|⟨h1,h3⟩
 ·rcases h2 with h2|⟨h2,h4⟩
  ·exact .inl (by omega)
  ·exact .inl (by omega)
 ·rcases h2 with h2|⟨h2,h4⟩
  ·exact .inl (by omega)
  ·exact .inr ⟨h1.trans h2,Qr h3 h4⟩
theorem FJ(l:List aH)(c:Cp):∀f i,i+f=l.length->(∀k,k<i->gh (tab l k).cp c<0)->gR l c f i<=l.length/\(∀k,k<gR l c f i->gh (tab l k).cp c<0)/\(gR l c f i<l.length->¬gh (tab l (gR l c f i)).cp c<0)
 |0,i,h,hb=>⟨by show i<=_;omega,hb,fun hh=>by have hh:i<l.length:=hh;omega⟩
 | f + 1, i, h, hb => by
   unfold gR;split
   ·rename_i h1;refine FJ l c f (i+1) (by omega) fun k hk=>?_
    by_cases h2:k=i
    ·subst h2;exact h1
    ·exact hb k (by omega)
   ·rename_i h1;exact⟨by omega,hb,fun _=>h1⟩
theorem AY.add{l:List aH}{n:Int}(h:AY l n){t:aH}(hv:fJ t n=0)(hf:¬0<=cS l t.cp):AY (mg l t) n:=by
 obtain⟨p1,p2,p3⟩:=FJ l t.cp l.length 0 (by omega) (fun k hk=>absurd hk (Nat.not_lt_zero k));refine⟨fun x hx=>?_,?_⟩
 ·rcases wt l t x hx with h1|rfl
  ·exact h.1 x h1
  ·exact hv
 unfold mg;generalize gR l t.cp l.length 0=k at *;have hpw:=List.pairwise_iff_getElem.1 h.2;have kI:∀j (hj:j<l.length),tab l j=l[j]:=fun j hj=>by unfold tab;rw[List.getD_eq_getElem?_getD,List.getElem?_eq_getElem hj];rfl
 have hbig:∀j,k<=j->(hj:j<l.length)->gh t.cp l[j].cp<0:=fun j hkj hj=>by
  have h1:=p3 (by omega)
  have hk:gh t.cp l[k].cp<0:=by
   rw[kI k (by omega)]at h1;have h2:gh l[k].cp t.cp≠0:=fun h3=>hf (by rw[<-W8 h3];exact Dz (List.getElem_mem _))
   have h3:=IJ l[k].cp t.cp;omega
  by_cases he:k=j
  ·subst he;exact hk
  ·exact D4 hk (hpw k j (by omega) hj (by omega))
 show (l.take k++[t]++l.drop k).Pairwise _
 rw[List.pairwise_append,List.pairwise_append];refine⟨⟨h.2.sublist (List.take_sublist _ _),by simp,fun x hx y hy=>?_⟩,h.2.sublist (List.drop_sublist _ _),fun x hx y hy=>?_⟩
 ·rw[List.mem_singleton]at hy;subst hy;obtain⟨j,hj,he⟩:=List.mem_take_iff_getElem.1 hx;have:=p2 j (by omega);rw[kI j (by omega),he]at this;exact this
 ·obtain⟨j,hj,he⟩:=List.mem_drop_iff_getElem.1 hy
  have hy2:=hbig (k+j) (by omega) (by omega);rw[he]at hy2;rcases List.mem_append.1 hx with hx|hx
  ·obtain⟨m,hm,hme⟩:=List.mem_take_iff_getElem.1 hx;have:=hpw m (k+j) (by omega) (by omega) (by omega);rw[hme,he]at this;exact this
  ·rw[List.mem_singleton]at hx;subst hx;exact hy2
theorem StV.reg{s:am}(h:StV s){t:aH}(h2:(iu s t).2=0):StV (iu s t).1:=by
 unfold iu at *;split at h2
 ·rename_i h3;exact absurd h2 h3
 ·rename_i h3
  rw[if_neg h3];split at h2
  ·simp at h2
  ·rename_i h4
   rw[if_neg h4];split at h2
   ·rename_i h5;exact absurd h2 h5
   ·rename_i h5
    rw[if_neg h5];have hv:fJ t s.cfg.bals.length=0:=by simpa using h3
    obtain⟨w,op⟩:=h
    have key:((gu s.tabs t s.cfg.bals.length s.cfg.lim.table).1.length:Int)<=s.cfg.lim.table/\AY (gu s.tabs t s.cfg.bals.length s.cfg.lim.table).1 s.cfg.bals.length/\∀x∈s.tabs,x∈(gu s.tabs t s.cfg.bals.length s.cfg.lim.table).1:=by
     unfold gu;rw[if_neg (by simpa using hv)];split
     ·exact⟨w.z4,w.tv,fun x hx=>hx⟩
     ·rename_i h6
      split
      ·exact⟨w.z4,w.tv,fun x hx=>hx⟩
      ·refine⟨by rw[DG];omega,w.tv.add hv h6,fun x hx=>?_⟩;unfold mg;rw[<-List.take_append_drop (gR s.tabs t.cp s.tabs.length 0) s.tabs]at hx;simp only[List.mem_append,List.mem_singleton];rcases List.mem_append.1 hx with hx|hx
       ·exact .inl (.inl hx)
       ·exact .inr hx
    obtain⟨k1,k2,k3⟩:=key
    have hj:∃x∈(gu s.tabs t s.cfg.bals.length s.cfg.lim.table).1,x.cp=s.j:=by
     obtain⟨x,hx,he⟩:=w.tj;exact⟨x,k3 x hx,he⟩
    exact⟨⟨w.ne,w.tree,w.z1,w.z2,w.z3,k1,w.fr,w.jf,w.ji,w.fj,hj,k2,w.ll,w.lv,w.qv,w.bo,w.nm,w.je,w.ea,w.nd,w.av,fun b hb=>⟨(w.ob b hb).rt,(w.ob b hb).un,(w.ob b hb).ti,(w.ob b hb).nw,(w.ob b hb).ol⟩,w.od⟩,op⟩
theorem tp(v x:Int):∀l:List Int,x∈jj l v↔x=v\/x∈l
 | []=>by simp[jj]
 | a :: r => by
   have ih:=tp v x r;unfold jj;split
   ·simp only[List.mem_cons,ih]
    constructor
    ·rintro (h|h|h)
     ·exact .inr (.inl h)
     ·exact .inl h
     ·exact .inr (.inr h)
    ·rintro (h|h|h)
     ·exact .inr (.inl h)
     ·exact .inl h
     ·exact .inr (.inr h)
   ·split
    ·rename_i h;subst h
     simp only[List.mem_cons];constructor
     ·exact fun h=>.inr h
     ·rintro (h|h)
      ·exact .inl h
      ·exact h
    ·simp only[List.mem_cons]
theorem BT(v:Int):∀l:List Int,l.Pairwise (· < ·)->(jj l v).Pairwise (· < ·)
 | [],_=>by simp[jj]
 | a :: r, h => by
   rw[List.pairwise_cons]at h;have ih:=BT v r h.2;unfold jj;split
   ·rename_i h1;rw[List.pairwise_cons];refine⟨fun x hx=>?_,ih⟩;rcases (tp v x r).1 hx with e|e
    ·omega
    ·exact h.1 x e
   ·split
    ·rw[List.pairwise_cons];exact h
    ·rename_i h1 h2;rw[List.pairwise_cons,List.pairwise_cons];refine⟨fun x hx=>?_,h.1,h.2⟩;rcases List.mem_cons.1 hx with e|e
     ·omega
     ·have:=h.1 x e;omega
def Kg(l:List Int)(n:Int):Prop:=(∀x∈l,0<=x/\x<n)/\l.Pairwise (· < ·)
theorem Gu{l:List Int}{n:Int}(h:dr l n=0):Kg l n:=by
 obtain⟨h1,h2⟩:=jw h
 have mono:∀d i,i+d+1<l.length+0->l.getD i 0<l.getD (i+d+1) 0:=by
  intro d;induction d with
  |zero=>intro i hi;exact(h2 (i+1) (by omega)).2.2 (by omega)
  | succ d ih =>
    intro i hi;have a:=ih i (by omega);have b:=(h2 (i+(d+1)+1) (by omega)).2.2 (by omega);exact Int.lt_trans a b
 refine⟨fun x hx=>?_,List.pairwise_iff_getElem.2 fun i j hi hj hij=>?_⟩
 ·obtain⟨k,hk,rfl⟩:=List.getElem_of_mem hx;have:=h2 k hk;rw[List.getD_eq_getElem?_getD,List.getElem?_eq_getElem hk]at this;exact⟨this.1,this.2.1⟩
 ·have:=mono (j-i-1) i (by omega);rw[show i+(j-i-1)+1=j by omega,List.getD_eq_getElem?_getD,List.getD_eq_getElem?_getD,List.getElem?_eq_getElem hi,List.getElem?_eq_getElem hj]at this;exact this
theorem XR{l:List Int}{n:Int}(h:Kg l n)(hl:l≠[]):dr l n=0:=by
 have key:∀k i,i+k=l.length->o7 l n i=0:=by
  intro k;induction k with
  |zero=>intro i hi;exact uA (by omega)
  | succ k ih =>
    intro i hi;have hil:i<l.length:=by omega
    rw[oq hil];have h1:=h.1 (l.getD i 0) (cG 0 hil);rw[if_neg (by omega),if_neg]
    ·exact ih (i+1) (by omega)
    ·rintro⟨h2,h3⟩;have:=List.pairwise_iff_getElem.1 h.2 (i-1) i (by omega) hil (by omega);rw[List.getD_eq_getElem?_getD,List.getD_eq_getElem?_getD,List.getElem?_eq_getElem hil,List.getElem?_eq_getElem (by omega)]at h3;exact absurd this (by simpa using h3)
 unfold dr;rw[if_neg hl];exact key l.length 0 (by omega)
theorem Kg.ins{l:List Int}{n:Int}(h:Kg l n){v:Int}(hv:0<=v/\v<n):Kg (jj l v) n:=
 ⟨fun x hx=>((tp v x l).1 hx).elim (fun e=>e▸hv) fun hx=>h.1 x hx,BT v l h.2⟩
theorem ZB{l m:List Int}{n:Int}(h:∀x∈l,0<=x/\x<n)(i:Nat):∀x∈ee l m i,0<=x/\x<n:=by
 unfold ee
 have key:∀ (k a:List Int),(∀x∈k,0<=x/\x<n)->(∀x∈a,0<=x/\x<n)->∀x∈k.foldl (fun a v=>if v∈m then jj a v else a) a,0<=x/\x<n:=by
  intro k;induction k with
  |nil=>intro a _ ha;exact ha
  | cons y k ih =>
    intro a hk ha;rw[List.foldl_cons];refine ih _ (fun x hx=>hk x (List.mem_cons_of_mem _ hx)) ?_;split
    ·intro x hx;rcases (tp y x a).1 hx with e|e
     ·rw[e];exact hk y (List.mem_cons_self ..)
     ·exact ha x e
    ·exact ha
 exact key _ _ (fun x hx=>h x (List.mem_of_mem_take hx)) (by simp)
theorem Z8{set l:List Int}{n:Int}(h:Kg set n)(hl:∀x∈l,0<=x/\x<n):Kg (mV set l) n:=by
 refine fE (f:=oz l) (a:=set) (fun _ o=>Kg o n) h l.length (fun i o hi ho=>?_) _ (Nat.le_refl _);exact ho.ins (hl _ (cG 0 hi))
theorem StV.slash{s:am}(h:StV s){x:eR}(h2:(di s x).2=0):StV (di s x).1:=by
 unfold di at *;split at h2
 ·rename_i h3;exact absurd h2 h3
 ·rename_i h3
  rw[if_neg h3];split at h2
  ·simp at h2
  ·rename_i h4
   rw[if_neg h4];have he:evE x.a x.fst.vals x.snd.vals s.cfg.bals.length=0:=by simpa using h3
   have hv:dr x.fst.vals s.cfg.bals.length=0:=by
    unfold evE at he;split at he
    ·rename_i h5;exact absurd he h5
    ·rename_i h5;simpa using h5
   obtain⟨w,op⟩:=h
   have hset:Kg s.eqv s.cfg.bals.length:=by
    rcases w.qv with h5|h5
    ·rw[h5];exact⟨by simp,by simp⟩
    ·exact Gu h5
   have hq:=Z8 hset (ZB (Gu hv).1 (m:=x.snd.vals) x.fst.vals.length)
   have hq2:mV s.eqv (ee x.fst.vals x.snd.vals x.fst.vals.length)=[]\/dr (mV s.eqv (ee x.fst.vals x.snd.vals x.fst.vals.length)) s.cfg.bals.length=0:=by
    by_cases h5:mV s.eqv (ee x.fst.vals x.snd.vals x.fst.vals.length)=[]
    ·exact .inl h5
    ·exact .inr (XR hq h5)
   exact⟨⟨w.ne,w.tree,w.z1,w.z2,w.z3,w.z4,w.fr,w.jf,w.ji,w.fj,w.tj,w.tv,w.ll,w.lv,hq2,w.bo,w.nm,w.je,w.ea,w.nd,w.av,fun b hb=>⟨(w.ob b hb).rt,(w.ob b hb).un,(w.ob b hb).ti,(w.ob b hb).nw,(w.ob b hb).ol⟩,w.od⟩,op⟩
structure abg(s:am)(b:Blk):Prop where
 root:b.root≠rt0
 kn:iW s b.root=false
 now:b.slot<=s.now
 old:(cR s s.f.ep).1<b.slot
 par:0<=aj s.nodes b.parent
 slot:(nod s.nodes (aj s.nodes b.parent).toNat).blk.slot<b.slot
 st:(nod s.nodes (aj s.nodes b.parent).toNat).status≠2
 fit:rD s b=true
 mrg:vR s.cfg.ttd (nod s.nodes (aj s.nodes b.parent).toNat).blk b=true
 lim:(s.nodes.length:Int)<s.cfg.lim.node
theorem NF{s:am}{b:Blk}(h:bG s b=0):abg s b:=by
 unfold bG at h;by_cases q1:b.root=rt0
 ·rw[if_pos q1]at h;cases h
 rw[if_neg q1]at h;by_cases q2:iW s b.root=true
 ·rw[if_pos q2]at h;cases h
 rw[if_neg q2]at h;by_cases q3:s.now<b.slot
 ·rw[if_pos q3]at h;cases h
 rw[if_neg q3]at h;by_cases q4:b.slot<=(cR s s.f.ep).1
 ·rw[if_pos q4]at h;cases h
 rw[if_neg q4]at h;by_cases q5:aj s.nodes b.parent<0
 ·rw[if_pos q5]at h;cases h
 rw[if_neg q5]at h;by_cases q6:b.slot<=(nod s.nodes (aj s.nodes b.parent).toNat).blk.slot
 ·rw[if_pos q6]at h;cases h
 rw[if_neg q6]at h;by_cases q7:(nod s.nodes (aj s.nodes b.parent).toNat).status=2
 ·rw[if_pos q7]at h;cases h
 rw[if_neg q7]at h;by_cases q8:rD s b=false
 ·rw[if_pos q8]at h;cases h
 rw[if_neg q8]at h;by_cases q9:vR s.cfg.ttd (nod s.nodes (aj s.nodes b.parent).toNat).blk b=false
 ·rw[if_pos q9]at h;cases h
 rw[if_neg q9]at h;by_cases q10:s.cfg.lim.node<=s.nodes.length
 ·rw[if_pos q10]at h;cases h
 exact⟨q1,by simpa using q2,by omega,by omega,by omega,by omega,q7,by simpa using q8,by simpa using q9,by omega⟩
structure ab7(s:am)(b:Blk):Prop where
 root:b.root≠rt0
 kn:iW s b.root=false
 now:b.slot<=s.now
 old:(cR s s.f.ep).1<b.slot
 par:aj s.nodes b.parent<0
theorem Us{s:am}{b:Blk}(h:bG s b=10):ab7 s b:=by
 unfold bG at h;by_cases q1:b.root=rt0
 ·rw[if_pos q1]at h;cases h
 rw[if_neg q1]at h;by_cases q2:iW s b.root=true
 ·rw[if_pos q2]at h;cases h
 rw[if_neg q2]at h;by_cases q3:s.now<b.slot
 ·rw[if_pos q3]at h;cases h
 rw[if_neg q3]at h;by_cases q4:b.slot<=(cR s s.f.ep).1
 ·rw[if_pos q4]at h;cases h
 rw[if_neg q4]at h;by_cases q5:aj s.nodes b.parent<0
 ·exact⟨q1,by simpa using q2,by omega,by omega,q5⟩
 rw[if_neg q5]at h;(repeat' split at h)<;>cases h
theorem OC{s:am}{r:Rt}(h:iW s r=false):aj s.nodes r<0/\∀b∈s.orph,b.root≠r:=by
 unfold iW at h;rw[Bool.or_eq_false_iff]at h;obtain⟨h1,h2⟩:=h;refine⟨by have:=of_decide_eq_false h2;omega,fun b hb he=>?_⟩;cases hf:cE (fun i=>decide ((cF s.orph i).root=r)) s.orph.length with
 | none =>
   obtain⟨k,hk,hke⟩:=List.getElem_of_mem hb;have:=of_decide_eq_false (gI hf k hk);unfold cF at this;rw[List.getD_eq_getElem?_getD,List.getElem?_eq_getElem hk]at this;have h3:(s.orph[k]).root≠r:=this;rw[hke]at h3;exact h3 he
 |some k=>rw[hf]at h1;cases h1
theorem UI{t:List Nod}(n:Nod){r:Rt}(h:0<=aj t r):aj (t++[n]) r=aj t r:=by
 obtain⟨h1,h2⟩:=dU h;have h3:=Ah (n:=n) h;obtain⟨h4,h5⟩:=dU h3;unfold aj at h h3 h1 h4 ⊢;cases ha:cE (fun i=>decide ((nod t i).blk.root=r)) t.length with
 |none=>rw[ha,jO]at h;exact absurd h (by decide)
 | some a =>
   cases hb:cE (fun i=>decide ((nod (t++[n]) i).blk.root=r)) (t++[n]).length with
   |none=>rw[hb,jO]at h3;exact absurd h3 (by decide)
   | some b =>
     obtain⟨a1,a2,a3⟩:=dY ha;obtain⟨b1,b2,b3⟩:=dY hb;rw[gc,gc]
     have hle:b<=a:=by
      rcases Nat.lt_or_ge a b with hlt|hge
      ·have:=b3 a hlt;rw[eK,if_pos a1]at this;rw[this]at a2;cases a2
      ·exact hge
     have hge:a<=b:=by
      rcases Nat.lt_or_ge b a with hlt|hge
      ·have:=a3 b hlt;rw[eK,if_pos (by omega)]at b2;rw[this]at b2;cases b2
      ·exact hge
     omega
theorem StW.insN{s:am}(h:StW s){b:Blk}(hc:abg s b):StW (dh s (s.nodes++[⟨b,aj s.nodes b.parent,ck b⟩])):=by
 obtain⟨p1,p2⟩:=dU hc.par;obtain⟨k1,k2⟩:=OC hc.kn;have hy:b.payload=rt0->ck b=1:=fun hh=>by unfold ck;rw[if_pos hh]
 have hv:ck b=1->(nod s.nodes (aj s.nodes b.parent).toNat).status=1:=fun hh=>by
  have h1:b.payload=rt0:=by
   unfold ck at hh;split at hh
   ·assumption
   ·cases hh
  have h2:=hc.mrg;unfold vR at h2;rw[if_pos h1]at h2;exact h.tree.py _ p1 (of_decide_eq_true h2)
 have tr:=h.tree.snoc (n:=⟨b,aj s.nodes b.parent,ck b⟩) hc.par (by show aj s.nodes b.parent<_;omega) (Pw b) (fun i hi=>(zb.1 k1) _ (za hi)) p2.symm hc.slot hv hc.st hy;have n0:nod (s.nodes++[⟨b,aj s.nodes b.parent,ck b⟩]) 0=nod s.nodes 0:=by rw[eK,if_pos h.tree.pos]
 have hjf:=UI ⟨b,aj s.nodes b.parent,ck b⟩ h.jf;refine⟨h.ne,tr,?_,h.z2,h.z3,h.z4,?_,?_,?_,h.fj,h.tj,h.tv,h.ll,h.lv,h.qv,?_,h.nm,h.je,⟨h.ea.1,?_⟩,fun n hn=>?_,h.av,fun x hx=>?_,h.od⟩
 ·have:=hc.lim;show (((s.nodes++[_]).length:Nat):Int)<=s.cfg.lim.node
  rw[List.length_append,List.length_singleton];omega
 ·show (nod (s.nodes++[_]) 0).blk.root=s.f.rt
  rw[n0];exact h.fr
 ·show 0<=aj (s.nodes++[_]) s.j.rt
  rw[hjf];exact h.jf
 ·show (nod (s.nodes++[_]) (aj (s.nodes++[_]) s.j.rt).toNat).status≠2
  rw[hjf,eK,if_pos (dU h.jf).1];exact h.ji
 ·rcases h.bo with h1|h1
  ·exact .inl h1
  ·exact .inr (Ah h1)
 ·show (nod (s.nodes++[_]) 0).blk.slot<=_
  rw[n0];exact h.ea.2
 ·rcases List.mem_append.1 hn with hn|hn
  ·exact h.nd n hn
  ·rw[List.mem_singleton]at hn;subst hn;have h1:=hc.fit;unfold rD at h1;simp only[Bool.and_eq_true]at h1;exact⟨hc.now,h1.2.1⟩
 ·obtain⟨a1,a2,a3,a4,a5⟩:=h.ob x hx
  refine⟨a1,?_,a3,a4,a5⟩;rw[zb]at a2 ⊢;intro n hn;rcases List.mem_append.1 hn with hn|hn
  ·exact a2 n hn
  ·rw[List.mem_singleton]at hn;subst hn;exact fun he=>k2 x hx he.symm
theorem SO{s:am}{i:Nat}(hI:bi s i){b:Blk}(hc:bG s b=0):(eP s.nodes b (ck b)).1=s.nodes++[⟨b,aj s.nodes b.parent,ck b⟩]:=(LW (SP (IH hc) (by have:=hI.cfg.ln;omega))).1
theorem StW.ins{s:am}{i:Nat}(h:StW s)(hI:bi s i){b:Blk}(hc:bG s b=0)(hb:jx i b):StW (gi s b):=by
 have h0:=hI.insN hc hb;have h1:StW (dh s (eP s.nodes b (ck b)).1):=by rw[SO hI hc];exact h.insN (NF hc)
 unfold gi;split
 ·exact(h1.upd h0 hb.just hb.fin).upd (h0.upd hb.just hb.fin) hb.j hb.f
 ·exact h1.upd h0 hb.just hb.fin
theorem StW.withO{s:am}(h:StW s){l:List Blk}(hl:l.Sublist s.orph):StW (Go.FH.withO s l):=by
 have hle:=hl.length_le;exact⟨h.ne,h.tree,h.z1,by have:=h.z2;show (l.length:Int)<=s.cfg.lim.orph;omega,h.z3,h.z4,h.fr,h.jf,h.ji,h.fj,h.tj,h.tv,h.ll,h.lv,h.qv,h.bo,h.nm,h.je,h.ea,h.nd,h.av,fun b hb=>⟨(h.ob b (hl.subset hb)).rt,(h.ob b (hl.subset hb)).un,(h.ob b (hl.subset hb)).ti,(h.ob b (hl.subset hb)).nw,(h.ob b (hl.subset hb)).ol⟩,h.od.sublist hl⟩
theorem Wn(l:List Blk)(i:Nat):(takeO l i).Sublist l:=by
 unfold takeO;have h:=List.take_append_drop i l;conv=>rhs;rw[<-h]
 refine List.Sublist.append (List.Sublist.refl _) ?_;rw[<-List.drop_drop];exact List.drop_sublist _ _
theorem StW.waitR{p:am×List Rt}{i:Nat}(h:StW p.1)(hI:bi p.1 i)(h0:0<=bR p.1):StW (waitR p).1:=by
 have h1:=qr p.1;have h2:=h.withO (Wn p.1.orph (bR p.1).toNat);have hI2:=hI.takeO (bR p.1).toNat
 unfold Go.Proofs.YtnjdpnfglgcjcaaGreat.waitR;split
 ·rename_i hc;exact h2.ins hI2 hc (hI.uo _ (cG _ (by omega)))
 ·exact h2
theorem XJ(s:am)(b:Blk):(gi s b).orph.length<=s.orph.length:=by
 unfold gi;split
 ·exact Nat.le_trans (oh _ _ _).1 (oh _ _ _).1
 ·exact(oh _ _ _).1
theorem WE{p:am×List Rt}(h0:0<=bR p.1):(waitR p).1.orph.length<p.1.orph.length:=by
 have h1:=qr p.1;have h2:=J4 p.1.orph (i:=(bR p.1).toNat) (by omega);unfold waitR;split
 ·have:=XJ (withO p.1 (takeO p.1.orph (bR p.1).toNat)) (cF p.1.orph (bR p.1).toNat);have h3:(withO p.1 (takeO p.1.orph (bR p.1).toNat)).orph=takeO p.1.orph (bR p.1).toNat:=rfl;rw[h3]at this;dsimp only;omega
 ·show (takeO p.1.orph (bR p.1).toNat).length<_
  omega
theorem StW.waitG{i:Nat}:∀ (f:Nat) {p:am×List Rt},StW p.1->bi p.1 i->p.1.orph.length<f->StW (waitG f p).1/\bR (waitG f p).1<0
 |0,_,_,_,h=>by omega
 | f + 1, p, h, hI, hf => by
   unfold Go.Proofs.YtnjdpnfglgcjcaaGreat.waitG;split
   ·rename_i h0;exact⟨h,h0⟩
   ·rename_i h0;have h0:0<=bR p.1:=by omega
    exact StW.waitG f (h.waitR hI h0) (hI.waitR h0) (by have:=WE h0;omega)
theorem aaX{s:am}(h:bR s<0):∀b∈s.orph,aj s.nodes b.parent<0:=by
 intro b hb;unfold bR at h;cases hf:cE (fun i=>decide (0<=aj s.nodes (cF s.orph i).parent)) s.orph.length with
 |some k=>rw[hf,gc]at h;omega
 | none =>
   obtain⟨k,hk,hke⟩:=List.getElem_of_mem hb;have:=of_decide_eq_false (gI hf k hk);unfold cF at this;rw[List.getD_eq_getElem?_getD,List.getElem?_eq_getElem hk]at this;have h3:¬0<=aj s.nodes (s.orph[k]).parent:=this;rw[hke]at h3;omega
theorem Jy{t:List Nod}{n:Nod}(ht:dc t)(hu:dc (t++[n])):∀m i:Nat,i<m->i<t.length->bW (t++[n]) i=bW t i
 |0,_,h,_=>by omega
 | m + 1, i, hm, hi => by
   have hl:i<(t++[n]).length:=by simp;omega
   rcases Nat.eq_zero_or_pos i with hz|hz
   ·subst hz;rw[show ((0:Nat):Int)=0 from rfl,iI hi,iI hl]
   ·have e:(nod (t++[n]) i).up=(nod t i).up:=by rw[eK,if_pos hi]
    obtain⟨v0,v1⟩:=ht.ok i hz hi;obtain⟨v,hv⟩:∃v:Nat,(nod t i).up=v:=⟨_,(Int.toNat_of_nonneg v0).symm⟩
    rw[iJ hu.ok hz hl,iJ ht.ok hz hi,e,hv,Jy ht hu m v (by omega) (by omega)]
theorem Zo{t:List Nod}{n:Nod}(ht:dc t)(hu:dc (t++[n]))(h0:0<=n.up)(h1:n.up<t.length){m:Int}(hm:m∈bW t n.up):dv (t++[n]) m t.length=true:=by
 have hl:t.length<(t++[n]).length:=by simp
 have e:(nod (t++[n]) t.length).up=n.up:=by rw[eK,if_neg (Nat.lt_irrefl _),if_pos rfl]
 obtain⟨v,hv⟩:∃v:Nat,n.up=v:=⟨_,(Int.toNat_of_nonneg h0).symm⟩
 unfold dv;rw[iJ hu.ok ht.pos hl,e,hv,Jy ht hu (v+1) v (by omega) (by omega),<-hv];exact ak (List.mem_append_left _ hm)
theorem qt.inj{t u:List Nod}{i0:Nat}{ms:List Nat}(p:qt t i0 u ms){a k:Nat}(ha:a<u.length)(hk:k<u.length)(h:ms.getD a 0=ms.getD k 0):a=k:=by
 rcases Nat.lt_trichotomy a k with h1|h1|h1
 ·have:=p.mono a k h1 hk;omega
 ·exact h1
 ·have:=p.mono k a h1 ha;omega
theorem qt.anc{t u:List Nod}{i0:Nat}{ms:List Nat}(ht:dc t)(hu:dc u)(p:qt t i0 u ms):∀m k a,k<m->a<u.length->k<u.length->dv t (ms.getD a 0) (ms.getD k 0)=true->dv u a k=true
 |0,k,a,h,_,_,_=>by omega
 | m + 1, k, a, hkm, ha, hk, h => by
   by_cases he:ms.getD a 0=ms.getD k 0
   ·obtain rfl:=p.inj ha hk he;exact m0 hu hk
   ·have hkt:=(p.src k hk).1
    obtain⟨h0,h1⟩:=KB ht hkt h (by omega)
    have hk0:0<k:=by
     rcases Nat.eq_zero_or_pos k with hz|hz
     ·subst hz;have b1:=Dm ht h;have b2:=Dm ht (p.src a ha).2.1;rw[p.zero.1]at b1 he;omega
     ·exact hz
    obtain⟨b0,b1,b2,b3⟩:=p.up k hk0 hk;obtain⟨c0,c1⟩:=ht.ok _ h0 hkt;have hup:(((nod u k).up.toNat:Nat):Int)=(nod u k).up:=Int.toNat_of_nonneg b1;have ih:=qt.anc ht hu p m (nod u k).up.toNat a (by omega) ha (by omega) (by rw[b3,Int.toNat_of_nonneg c0];exact h1);rw[hup]at ih;exact Nv hu hk0 hk ih
def o9(u:List Nod)(r r':Rt):Prop:=0<=aj u r'/\(0<=aj u r->dv u (aj u r) (aj u r')=true)
theorem ud{t:List Nod}(h:TrV t){k:Nat}(hk:k<t.length){r:Rt}(hr:(nod t k).blk.root=r):aj t r=k:=by
 have h1:=jL hk hr;obtain⟨h2,h3⟩:=dU h1;rcases Nat.lt_trichotomy k (aj t r).toNat with h4|h4|h4
 ·exact absurd (hr.trans h3.symm) (h.ds _ _ h4 h2)
 ·omega
 ·exact absurd (h3.trans hr.symm) (h.ds _ _ h4 hk)
theorem PI{s:am}(h:StW s){j f:Cp}{r':Rt}(hin:0<=aj s.nodes r')(hp:s.f.ep<f.ep->o9 s.nodes f.rt r'):0<=aj (dl s j f).nodes r'/\∀r,o9 s.nodes r r'->o9 (dl s j f).nodes r r':=by
 unfold dl;by_cases hm:qP s (dK s.j j) (dK s.f f)=false
 ·rw[if_pos hm];exact⟨hin,fun r hr=>hr⟩
 rw[if_neg hm];have m:=acm hm;by_cases hb:dK s.f f=s.f
 ·rw[if_pos hb];exact⟨hin,fun r hr=>hr⟩
 rw[if_neg hb]
 have hlt:s.f.ep<f.ep:=by
  unfold dK at hb;split at hb
  ·assumption
  ·exact absurd rfl hb
 have hbf:dK s.f f=f:=by unfold dK;rw[if_pos hlt]
 rw[hbf]at m ⊢;obtain⟨k1,k2⟩:=dU m.k0;obtain⟨ms,p⟩:=L7 h.tree.r k1;have hK:(((aj s.nodes f.rt).toNat:Nat):Int)=aj s.nodes f.rt:=Int.toNat_of_nonneg m.k0;have htr:=h.tree.prune k1;rw[hK]at p htr;have hr':=tM h.tree.r hin ((hp hlt).2 m.k0);show 0<=aj (dL s.nodes (aj s.nodes f.rt)).1 r'/\∀r,o9 s.nodes r r'->o9 (dL s.nodes (aj s.nodes f.rt)).1 r r'
 generalize (dL s.nodes (aj s.nodes f.rt)).1=u at *;refine⟨hr',fun r hr=>⟨hr',fun h0=>?_⟩⟩;obtain⟨a1,a2⟩:=dU h0;obtain⟨b1,b2⟩:=dU hr';have e1:=ud h.tree (p.src _ a1).1 (r:=r) (by rw[<- (p.src _ a1).2.2.1];exact a2);have e2:=ud h.tree (p.src _ b1).1 (r:=r') (by rw[<- (p.src _ b1).2.2.1];exact b2);have h3:=hr.2 (by rw[e1];omega);rw[e1,e2]at h3;have:=p.anc h.tree.r htr.r _ _ _ (Nat.lt_succ_self _) a1 b1 h3;rwa [Int.toNat_of_nonneg h0,Int.toNat_of_nonneg hr']at this
theorem WR(t:List Nod)(i slot:Int):atT t i slot=-1\/atT t i slot∈bW t i:=by
 unfold atT;refine fE (f:=fun k at_=>if (nod t ((bW t i).getD k 0).toNat).blk.slot<=slot then (bW t i).getD k 0 else at_) (a:=(-1:Int)) (fun _ x=>x=-1\/x∈bW t i) (.inl rfl) (bW t i).length (fun k x hk hx=>?_) _ (Nat.le_refl _);split
 ·exact .inr (cG _ hk)
 ·exact hx
theorem Ou{s:am}(h:StW s){b:Blk}(hc:abg s b){c:Cp}(hcs:nP s b (aj s.nodes b.parent) c=true)(hlt:s.f.ep<c.ep):o9 (s.nodes++[⟨b,aj s.nodes b.parent,ck b⟩]) c.rt b.root:=by
 have hN:=h.insN hc;have tr:TrV (s.nodes++[⟨b,aj s.nodes b.parent,ck b⟩]):=hN.tree;obtain⟨p1,p2⟩:=dU hc.par;have hl:s.nodes.length<(s.nodes++[(⟨b,aj s.nodes b.parent,ck b⟩:Nod)]).length:=by simp
 have hnew:nod (s.nodes++[(⟨b,aj s.nodes b.parent,ck b⟩:Nod)]) s.nodes.length=⟨b,aj s.nodes b.parent,ck b⟩:=by rw[eK,if_neg (Nat.lt_irrefl _),if_pos rfl]
 have hB:=ud tr hl (r:=b.root) (by rw[hnew]);refine⟨by rw[hB];omega,fun h0=>?_⟩;rw[hB];unfold nP at hcs;rw[au (by omega),Bool.false_or]at hcs;by_cases q:(cR s c.ep).1<b.slot
 ·rw[if_pos q,Bool.and_eq_true,decide_eq_true_eq,decide_eq_true_eq]at hcs;obtain⟨h1,h2⟩:=hcs;have h3:=(WR s.nodes (aj s.nodes b.parent) (cR s c.ep).1).resolve_left (by omega);have h4:=fD h.tree.r.ok h3;have h5:(atT s.nodes (aj s.nodes b.parent) (cR s c.ep).1).toNat<s.nodes.length:=by omega
  have hC:=ud tr (k:=(atT s.nodes (aj s.nodes b.parent) (cR s c.ep).1).toNat) (by omega) (r:=c.rt) (by rw[eK,if_pos h5];exact h2);rw[hC,Int.toNat_of_nonneg h1];exact Zo (n:=⟨b,aj s.nodes b.parent,ck b⟩) h.tree.r tr.r hc.par (by show aj s.nodes b.parent<_;omega) h3
 ·rw[if_neg q]at hcs;have h1:b.root=c.rt:=of_decide_eq_true hcs;rw[<-h1,hB];exact m0 tr.r hl
theorem abz{s:am}{b:Blk}(h:rD s b=true):nP s b (aj s.nodes b.parent) b.fin=true/\nP s b (aj s.nodes b.parent) b.pul.f=true:=by
 unfold rD at h;simp only[Bool.and_eq_true]at h;obtain⟨_,_,h⟩:=h;cases hf:cE (fun k=>!nP s b (aj s.nodes b.parent) ((cps b).getD k cp0)) 4 with
 |some k=>rw[hf]at h;cases h
 | none =>
   have h1:=gI hf 1 (by decide);have h3:=gI hf 3 (by decide);simp only[Bool.not_eq_false']at h1 h3;exact⟨h1,h3⟩
theorem UX{s:am}{i:Nat}(h:StW s)(hI:bi s i){b:Blk}(hc:bG s b=0)(hb:jx i b):0<=aj (gi s b).nodes b.root:=by
 have hv:=NF hc;obtain⟨f1,f2⟩:=abz hv.fit;have h0:=hI.insN hc hb;have e0:=SO hI hc;have h1:StW (dh s (eP s.nodes b (ck b)).1):=by rw[e0];exact h.insN hv
 have p1:s.f.ep<b.fin.ep->o9 (dh s (eP s.nodes b (ck b)).1).nodes b.fin.rt b.root:=fun hl=>by
  show o9 (eP s.nodes b (ck b)).1 _ _
  rw[e0];exact Ou h hv f1 hl
 have p2:s.f.ep<b.pul.f.ep->o9 (dh s (eP s.nodes b (ck b)).1).nodes b.pul.f.rt b.root:=fun hl=>by
  show o9 (eP s.nodes b (ck b)).1 _ _
  rw[e0];exact Ou h hv f2 hl
 have hin:0<=aj (dh s (eP s.nodes b (ck b)).1).nodes b.root:=by
  show 0<=aj (eP s.nodes b (ck b)).1 b.root
  rw[e0];exact jL (k:=s.nodes.length) (by simp) (by rw[eK,if_neg (Nat.lt_irrefl _),if_pos rfl])
 have hf:(dh s (eP s.nodes b (ck b)).1).f=s.f:=rfl;have u1:=PI h1 (j:=b.just) (f:=b.fin) hin (by rw[hf];exact p1)
 have hfe:s.f.ep<=(dl (dh s (eP s.nodes b (ck b)).1) b.just b.fin).f.ep:=by
  unfold dl;split
  ·exact Int.le_refl _
  ·split
   ·show s.f.ep<=(dK s.f b.fin).ep
    unfold dK;split<;>omega
   ·show s.f.ep<=(dK s.f b.fin).ep
    unfold dK;split<;>omega
 unfold gi;generalize dh s (eP s.nodes b (ck b)).1=s1 at *;split
 ·exact(PI (h1.upd h0 hb.just hb.fin) u1.1 (fun hl=>u1.2 _ (p2 (by omega)))).1
 ·exact u1.1
theorem StW.withB{s:am}(h:StW s){r:Rt}(hr:r=rt0\/0<=aj s.nodes r):StW (Go.FH.withB s r):=
 ⟨h.ne,h.tree,h.z1,h.z2,h.z3,h.z4,h.fr,h.jf,h.ji,h.fj,h.tj,h.tv,h.ll,h.lv,h.qv,hr,h.nm,h.je,h.ea,h.nd,h.av,fun b hb=>⟨(h.ob b hb).rt,(h.ob b hb).un,(h.ob b hb).ti,(h.ob b hb).nw,(h.ob b hb).ol⟩,h.od⟩
theorem StV.block{s:am}{i:Nat}(h:StV s)(hI:bi s i){b:Blk}(hb:jx i b)(h2:(cq s b).2.2=0):StV (cq s b).1:=by
 unfold cq at *;by_cases h3:bG s b=10
 ·rw [if_pos h3] at h2 ⊢
  by_cases h4:s.cfg.lim.orph<=s.orph.length
  ·rw[if_pos h4]at h2;cases h2
  ·rw [if_neg h4]
   have c:=Us h3;obtain⟨k1,k2⟩:=OC c.kn;obtain⟨w,op⟩:=h;refine⟨⟨w.ne,w.tree,w.z1,?_,w.z3,w.z4,w.fr,w.jf,w.ji,w.fj,w.tj,w.tv,w.ll,w.lv,w.qv,w.bo,w.nm,w.je,w.ea,w.nd,w.av,fun x hx=>?_,?_⟩,fun x hx=>?_⟩
   ·show (((s.orph++[noT b]).length:Nat):Int)<=s.cfg.lim.orph
    rw[List.length_append,List.length_singleton];omega
   ·rcases List.mem_append.1 hx with hx|hx
    ·obtain⟨a1,a2,a3,a4,a5⟩:=w.ob x hx;exact⟨a1,a2,a3,a4,a5⟩
    ·rw[List.mem_singleton]at hx;subst hx;exact⟨c.root,k1,rfl,c.now,c.old⟩
   ·show (s.orph++[noT b]).Pairwise _
    rw[List.pairwise_append];refine⟨w.od,by simp,fun x hx y hy=>?_⟩;rw[List.mem_singleton]at hy;subst hy;exact k2 x hx
   ·rcases List.mem_append.1 hx with hx|hx
    ·exact op x hx
    ·rw[List.mem_singleton]at hx;subst hx;exact c.par
 ·rw [if_neg h3] at h2 ⊢
  by_cases h4:bG s b≠0
  ·rw[if_pos h4]at h2;exact absurd h2 h4
  ·rw[if_neg h4]
   have h4:bG s b=0:=by simpa using h4
   have hw:StW (blockI s b):=by
    unfold blockI;split
    ·exact(h.w.ins hI h4 hb).withB (.inr (UX h.w hI h4 hb))
    ·exact h.w.ins hI h4 hb
   obtain⟨g1,g2⟩:=StW.waitG ((blockI s b).orph.length+1) (p:=(blockI s b,[b.root])) hw (hI.blockI h4 hb) (Nat.lt_succ_self _);exact⟨g1,aaX g2⟩
end Go.Proofs.YtnjdpnfglgcjcaaGreat
