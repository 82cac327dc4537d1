/-
 My texts Ta, Tb, Tc, Td, Te, Tf, joined.
-/
import Derived.Test.YtkgimpdgncakjaaGreatV7
import Derived.Test.YtkgimpdgncakjaaGreatV5
import Derived.Test.YtkgimpdgncakjaaGreatP1
import Derived.Test.YtkgimpdgncakjaaGreatT3
namespace Go.Proofs.YtkgimpdgncakjaaGreat
set_option linter.unusedVariables false
set_option linter.unusedSimpArgs false
open Go Go.FH Go.RowKit
structure TrV(t:List Nod):Prop where
 pos:0<t.length
 st:∀i,i<t.length→0≤(nod t i).status∧(nod t i).status≤2
 r0:(nod t 0).up=-1
 up:∀i,0<i→i<t.length→0≤(nod t i).up∧(nod t i).up<i
 ds:∀i j,i<j→j<t.length→(nod t i).blk.root≠(nod t j).blk.root
 pr:∀i,0<i→i<t.length→(nod t i).blk.parent=(nod t (nod t i).up.toNat).blk.root
 sl:∀i,0<i→i<t.length→(nod t (nod t i).up.toNat).blk.slot<(nod t i).blk.slot
 va:∀i,0<i→i<t.length→(nod t i).status=1→(nod t (nod t i).up.toNat).status=1
 iv:∀i,0<i→i<t.length→(nod t (nod t i).up.toNat).status=2→(nod t i).status=2
 py:∀i,i<t.length→(nod t i).blk.payload=rt0→(nod t i).status=1
theorem TrV.r{t:List Nod}(h:TrV t):bG_ t:=⟨h.up,h.pos,by rw[h.r0];decide⟩
theorem TrV.statV{t:List Nod}(h:TrV t)(hl:t.length≤4096):statV t=0:=by
 have h1:hX_ t=0:=by
  unfold hX_;rw[if_neg (by have:=h.pos;omega)];refine oP_.2 fun i _ hi=>?_
  have hi:i<t.length:=by omega
  unfold pK_;rw[if_neg (by have:=h.st i hi;omega),if_neg (fun hh=>hh.2 (by rw[hh.1];exact h.r0)),if_neg (fun hh=>by have:=h.up i hh.1 hi;omega)]
  rw[if_neg (fun hm=>by
   obtain⟨n,hn,he⟩:=List.mem_map.1 hm;obtain⟨k,hk,hk2⟩:=List.mem_take_iff_getElem.1 hn;refine h.ds k i (by omega) hi ?_;rw[←he,←hk2];unfold nod;rw[List.getD_eq_getElem?_getD,List.getElem?_eq_getElem (by omega)];rfl)]
  by_cases h0:i=0
  ·rw[if_pos h0]
  ·rw[if_neg h0,if_neg (fun hh=>hh (h.pr i (by omega) hi)),if_neg (by have:=h.sl i (by omega) hi;omega)]
 unfold Go.FH.statV;rw[if_neg (by rw[h1];decide)];refine oP_.2 fun i _ hi=>?_
 have hi:i+1<t.length:=by omega
 unfold tJ_;rw[if_neg];rintro (⟨h1,h2⟩|⟨h1,h2⟩)
 ·exact h2 (h.va (i+1) (by omega) hi h1)
 ·exact h2 (h.iv (i+1) (by omega) hi h1)
theorem TrV.snoc{t:List Nod}(h:TrV t){n:Nod}(u0:0≤n.up)(u1:n.up<t.length)(hs:0≤n.status∧n.status≤2)(hd:∀i,i<t.length→(nod t i).blk.root≠n.blk.root)(hp:n.blk.parent=(nod t n.up.toNat).blk.root)
 (hl:(nod t n.up.toNat).blk.slot<n.blk.slot) (hv:n.status=1→(nod t n.up.toNat).status=1) (hi:(nod t n.up.toNat).status≠2) (hy:n.blk.payload=rt0→n.status=1):TrV (t++[n]):=by
 have hln:(t++[n]).length=t.length+1:=by simp
 have old:∀i,i<t.length→nod (t++[n]) i=nod t i:=fun i hi=>by rw[cU_,if_pos hi]
 have new:nod (t++[n]) t.length=n:=by rw[cU_,if_neg (Nat.lt_irrefl _),if_pos rfl]
 have cs:∀i,i<(t++[n]).length→i<t.length∨i=t.length:=fun i hi=>by omega
 have hup:∀i,0<i→i<t.length→(nod t i).up.toNat<t.length:=fun i h0 h1=>by have:=h.up i h0 h1;omega
 refine⟨by omega,fun i hi'=>?_,by rw[old 0 h.pos];exact h.r0,fun i h0 hi'=>?_,fun i j hij hj=>?_,fun i h0 hi'=>?_,fun i h0 hi'=>?_,fun i h0 hi'=>?_,fun i h0 hi'=>?_,fun i hi'=>?_⟩
 ·rcases cs i hi' with h1|rfl
  ·rw[old i h1];exact h.st i h1
  ·rw[new];exact hs
 ·rcases cs i hi' with h1|rfl
  ·rw[old i h1];exact h.up i h0 h1
  ·rw[new];exact⟨u0,u1⟩
 ·rcases cs j hj with h1|rfl
  ·rw[old i (by omega),old j h1];exact h.ds i j hij h1
  ·rw[old i hij,new];exact hd i hij
 ·rcases cs i hi' with h1|rfl
  ·rw[old i h1,old _ (hup i h0 h1)];exact h.pr i h0 h1
  ·rw[new,old _ (by omega)];exact hp
 ·rcases cs i hi' with h1|rfl
  ·rw[old i h1,old _ (hup i h0 h1)];exact h.sl i h0 h1
  ·rw[new,old _ (by omega)];exact hl
 ·rcases cs i hi' with h1|rfl
  ·rw[old i h1,old _ (hup i h0 h1)];exact h.va i h0 h1
  ·rw[new,old _ (by omega)];exact hv
 ·rcases cs i hi' with h1|rfl
  ·rw[old i h1,old _ (hup i h0 h1)];exact h.iv i h0 h1
  ·rw[new,old _ (by omega)];exact fun h2=>absurd h2 hi
 ·rcases cs i hi' with h1|rfl
  ·rw[old i h1];exact h.py i h1
  ·rw[new];exact hy
theorem TrV.stat{t u:List Nod}(h:TrV t)(hl:u.length=t.length)(hu:∀k,(nod u k).up=(nod t k).up∧(nod u k).blk=(nod t k).blk)(hs:∀i,i<t.length→0≤(nod u i).status∧(nod u i).status≤2)
 (hv:∀i,0<i→i<t.length→(nod u i).status=1→(nod u (nod t i).up.toNat).status=1) (hi:∀i,0<i→i<t.length→(nod u (nod t i).up.toNat).status=2→(nod u i).status=2)
 (hk:∀i,i<t.length→(nod t i).status=1→(nod u i).status=1):TrV u:=by
 refine⟨by rw[hl];exact h.pos,fun i h1=>hs i (by omega),by rw[(hu 0).1];exact h.r0,fun i h0 h1=>by rw[(hu i).1];exact h.up i h0 (by omega),fun i j hij hj=>by rw[(hu i).2,(hu j).2];exact h.ds i j hij (by omega),
  fun i h0 h1=>by rw[(hu i).1,(hu i).2,(hu _).2];exact h.pr i h0 (by omega),fun i h0 h1=>by rw[(hu i).1,(hu i).2,(hu _).2];exact h.sl i h0 (by omega),fun i h0 h1=>by rw[(hu i).1];exact hv i h0 (by omega),fun i h0 h1=>by rw[(hu i).1];exact hi i h0 (by omega),
  fun i h1=>by rw[(hu i).2];exact fun h2=>hk i (by omega) (h.py i (by omega) h2)⟩
theorem Ik_{t:List Nod}{l:List Int}{status forbidden:Int}(hsf:status≠forbidden)(hm:∀x∈l,0≤x∧x<t.length):∀ {k:Nat} {u:List Nod},k≤l.length→av_ (nk_ l status forbidden) (some t) k=some u→
 ∀i,i<t.length→((i:Int)∈l.take k→(nod t i).status≠forbidden∧(nod u i).status=status)∧((i:Int)∉l.take k→(nod u i).status=(nod t i).status)
 |0,u,_,h,i,hi=>by cases h;simp
 | k + 1, u, hk, h, i, hi => by
   rw[bi_]at h;cases h2:av_ (nk_ l status forbidden) (some t) k with
   |none=>rw[h2]at h;cases h
   | some v =>
     rw[h2]at h;simp only[nk_,Option.bind_some]at h;obtain⟨ih1,ih2⟩:=Ik_ hsf hm (by omega) h2 i hi;have hvl:=hy_ h2;have hx:l.getD k 0∈l:=bH_ 0 (by omega);obtain⟨x0,x1⟩:=hm _ hx
     have htk:l.take (k+1)=l.take k++[l.getD k 0]:=by
      rw[List.take_add_one,List.getElem?_eq_getElem (by omega),List.getD_eq_getElem?_getD,List.getElem?_eq_getElem (by omega)];rfl
     split at h
     ·cases h
     ·rename_i hne
      cases h;rw[htk];simp only[List.mem_append,List.mem_singleton];rw[HV_];by_cases he:(i:Int)=l.getD k 0
      ·rw[if_pos ⟨by omega,by omega⟩];have hei:(l.getD k 0).toNat=i:=by omega
       rw[hei]at hne;refine⟨fun _=>⟨?_,rfl⟩,fun hh=>absurd (.inr he) hh⟩;by_cases hin:(i:Int)∈l.take k
       ·exact(ih1 hin).1
       ·rw[←ih2 hin];exact hne
      ·rw[if_neg (by omega)];refine⟨fun hh=>ih1 (hh.resolve_right he),fun hh=>ih2 fun h3=>hh (.inl h3)⟩
theorem Im_{t u:List Nod}{l:List Int}{status forbidden:Int}(hsf:status≠forbidden)(hm:∀x∈l,0≤x∧x<t.length)(h:rb_ t l status forbidden=some u):
 ∀i,i<t.length→((i:Int)∈l→(nod t i).status≠forbidden∧(nod u i).status=status)∧((i:Int)∉l→(nod u i).status=(nod t i).status):=by
 have:=Ik_ hsf hm (Nat.le_refl _) h;rwa [List.take_length]at this
theorem Pg_{t:List Nod}(ht:bG_ t){a:Int}{k:Nat}(h0:0<k)(hk:k<t.length)(h:(k:Int)∈bc_ t a):(nod t k).up∈bc_ t a:=by
 have key:∀n i:Nat,i<n→i<t.length→(k:Int)∈bc_ t i→(nod t k).up∈bc_ t i:=by
  intro n;induction n with
  |zero=>intro i h;omega
  | succ n ih =>
    intro i hin hil hm;rcases Nat.eq_zero_or_pos i with hz|hz
    ·subst hz;rw[show ((0:Nat):Int)=0 from rfl,eS_ hil]at hm;simp at hm;omega
    ·rw[eT_ ht.ok hz hil]at hm ⊢
     obtain⟨v0,v1⟩:=ht.ok i hz hil;obtain⟨v,hv⟩:∃v:Nat,(nod t i).up=v:=⟨_,(Int.toNat_of_nonneg v0).symm⟩
     rw[List.mem_append,List.mem_singleton]at hm;rcases hm with hm|hm
     ·rw[hv]at hm ⊢;exact List.mem_append_left _ (ih v (by omega) (by omega) hm)
     ·obtain rfl:k=i:=by omega
      refine List.mem_append_left _ ?_;rw[hv];rcases Nat.eq_zero_or_pos v with hz|hz
      ·subst hz;rw[show ((0:Nat):Int)=0 from rfl,eS_ (by omega)];simp
      ·rw[eT_ ht.ok hz (by omega)];simp
 have h1:=dv_ ht.ok h;by_cases ha:0≤a
 ·obtain⟨i,rfl⟩:∃i:Nat,a=i:=⟨_,(Int.toNat_of_nonneg ha).symm⟩
  by_cases hi:i<t.length
  ·exact key (i+1) i (by omega) hi h
  ·rw[gV_ (by simp[isN];omega)]at h;simp at h
 ·rw[gV_ (by simp[isN];omega)]at h;simp at h
theorem Dj_{t:List Nod}{a:Int}{k:Nat}:(k:Int)∈eB_ t a↔k<t.length∧bN_ t a k=true:=by
 have key:∀n,(k:Int)∈av_ (fun k l=>if bN_ t a k=true then l++[(k:Int)]else l) [] n↔k<n∧bN_ t a k=true:=by
  intro n;induction n with
  |zero=>simp[av_]
  | succ n ih =>
    rw[bi_];split
    ·rename_i h
     rw[List.mem_append,List.mem_singleton,ih];constructor
     ·rintro (⟨h1,h2⟩|h1)
      ·exact⟨by omega,h2⟩
      ·obtain rfl:k=n:=by omega
       exact⟨by omega,h⟩
     ·rintro⟨h1,h2⟩;by_cases hk:k=n
      ·right;omega
      ·left;exact⟨by omega,h2⟩
    ·rename_i h
     rw[ih];constructor
     ·rintro⟨h1,h2⟩;exact⟨by omega,h2⟩
     ·rintro⟨h1,h2⟩;by_cases hk:k=n
      ·subst hk;exact absurd h2 h
      ·exact⟨by omega,h2⟩
 exact key t.length
theorem OD_{t:List Nod}{a:Int}:∀x∈eB_ t a,0≤x∧x<t.length:=by
 have key:∀n,n≤t.length→∀x∈av_ (fun k l=>if bN_ t a k=true then l++[(k:Int)]else l) [] n,0≤x∧x<t.length:=by
  intro n;induction n with
  |zero=>intro _ x hx;simp[av_]at hx
  | succ n ih =>
    intro hn x hx;rw[bi_]at hx;split at hx
    ·rw[List.mem_append,List.mem_singleton]at hx;rcases hx with hx|hx
     ·exact ih (by omega) x hx
     ·omega
    ·exact ih (by omega) x hx
 exact key _ (Nat.le_refl _)
theorem CT_{t:List Nod}(ht:bG_ t){a:Int}{k:Nat}(h0:0<k)(hk:k<t.length)(h:bN_ t a (nod t k).up=true):bN_ t a k=true:=by
 unfold bN_ at *;rw[eT_ ht.ok h0 hk];have h:a∈bc_ t (nod t k).up:=by simpa using h
 exact decide_eq_true (List.mem_append_left _ h)
theorem TrV.raise{t:List Nod}(h:TrV t){i:Int}(h2:(cp_ t i).2=0):TrV (cp_ t i).1∧(∀k,k<t.length→(nod t k).status=1→(nod (cp_ t i).1 k).status=1)∧(∀k,k<t.length→(nod (cp_ t i).1 k).status=2→(nod t k).status=2):=by
 have hu:=qV_ h2;unfold cp_ at *;split at h2
 ·rename_i h1
  rw[if_pos h1]at hu ⊢;cases h3:rb_ t (bc_ t i) 1 2 with
  |none=>rw[h3]at h2;simp at h2
  | some u =>
    rw[h3]at hu;dsimp only at hu ⊢;have hs:=Im_ (by decide) (fun x hx=>by have:=dv_ h.r.ok hx;omega) h3
    have k1:∀k,k<t.length→(nod t k).status=1→(nod u k).status=1:=fun k hk h4=>by
     by_cases hp:(k:Int)∈bc_ t i
     ·exact((hs k hk).1 hp).2
     ·rw[(hs k hk).2 hp];exact h4
    have k2:∀k,k<t.length→(nod u k).status=2→(nod t k).status=2:=fun k hk h4=>by
     by_cases hp:(k:Int)∈bc_ t i
     ·rw[((hs k hk).1 hp).2]at h4;cases h4
     ·rw[(hs k hk).2 hp]at h4;exact h4
    have hup:∀k,0<k→k<t.length→((nod t k).up.toNat:Int)=(nod t k).up∧(nod t k).up.toNat<t.length:=fun k a b=>by have:=h.up k a b;omega
    refine⟨h.stat hu.1 hu.2 (fun k hk=>?_) (fun k h0 hk h4=>?_) (fun k h0 hk h4=>?_) k1,k1,k2⟩
    ·by_cases hp:(k:Int)∈bc_ t i
     ·rw[((hs k hk).1 hp).2];decide
     ·rw[(hs k hk).2 hp];exact h.st k hk
    ·obtain⟨a,b⟩:=hup k h0 hk
     by_cases hp:(k:Int)∈bc_ t i
     ·have:=Pg_ h.r h0 hk hp;rw[←a]at this;exact((hs _ b).1 this).2
     ·rw[(hs k hk).2 hp]at h4;exact k1 _ b (h.va k h0 hk h4)
    ·obtain⟨a,b⟩:=hup k h0 hk;have h5:=h.iv k h0 hk (k2 _ b h4);by_cases hp:(k:Int)∈bc_ t i
     ·exact absurd h5 ((hs k hk).1 hp).1
     ·rw[(hs k hk).2 hp];exact h5
 ·simp at h2
theorem TrV.cond{t:List Nod}(h:TrV t){i:Int}(h2:(gj_ t i).2=0):TrV (gj_ t i).1∧(∀k,k<t.length→(nod t k).status=1→(nod (gj_ t i).1 k).status=1)∧(∀k,k<t.length→(nod (gj_ t i).1 k).status=2→(nod t k).status=2∨bN_ t i k=true):=by
 have hu:=AW_ h2;unfold gj_ at *;split at h2
 ·rename_i h1
  rw[if_pos h1]at hu ⊢;cases h3:rb_ t (eB_ t i) 2 1 with
  |none=>rw[h3]at h2;simp at h2
  | some u =>
    rw[h3]at hu;dsimp only at hu ⊢;have hs:=Im_ (by decide) OD_ h3
    have k1:∀k,k<t.length→(nod t k).status=1→(nod u k).status=1:=fun k hk h4=>by
     by_cases hp:(k:Int)∈eB_ t i
     ·exact absurd h4 ((hs k hk).1 hp).1
     ·rw[(hs k hk).2 hp];exact h4
    have k2:∀k,k<t.length→(nod u k).status=2→(nod t k).status=2∨bN_ t i k=true:=fun k hk h4=>by
     by_cases hp:(k:Int)∈eB_ t i
     ·exact .inr (Dj_.1 hp).2
     ·rw[(hs k hk).2 hp]at h4;exact .inl h4
    have hup:∀k,0<k→k<t.length→((nod t k).up.toNat:Int)=(nod t k).up∧(nod t k).up.toNat<t.length:=fun k a b=>by have:=h.up k a b;omega
    refine⟨h.stat hu.1 hu.2 (fun k hk=>?_) (fun k h0 hk h4=>?_) (fun k h0 hk h4=>?_) k1,k1,k2⟩
    ·by_cases hp:(k:Int)∈eB_ t i
     ·rw[((hs k hk).1 hp).2];decide
     ·rw[(hs k hk).2 hp];exact h.st k hk
    ·obtain⟨a,b⟩:=hup k h0 hk
     by_cases hp:(k:Int)∈eB_ t i
     ·rw[((hs k hk).1 hp).2]at h4;cases h4
     ·rw[(hs k hk).2 hp]at h4;exact k1 _ b (h.va k h0 hk h4)
    ·obtain⟨a,b⟩:=hup k h0 hk
     rcases k2 _ b h4 with h5|h5
     ·have h6:=h.iv k h0 hk h5;by_cases hp:(k:Int)∈eB_ t i
      ·exact((hs k hk).1 hp).2
      ·rw[(hs k hk).2 hp];exact h6
     ·rw[a]at h5;exact((hs k hk).1 (Dj_.2 ⟨hk,CT_ h.r h0 hk h5⟩)).2
 ·simp at h2
structure Ss_(t:List Nod)(i0:Int)(k:Nat)(p:List Nod×List Int)(ms:List Nat):Prop where
 len:ms.length=p.1.length
 ixl:p.2.length=k
 src:∀u,u<p.1.length→ms.getD u 0<k∧bN_ t i0 (ms.getD u 0)=true∧(nod p.1 u).blk=(nod t (ms.getD u 0)).blk∧(nod p.1 u).status=(nod t (ms.getD u 0)).status
 up:∀u,u<p.1.length→((ms.getD u 0:Int)=i0→(nod p.1 u).up=-1)∧((ms.getD u 0:Int)≠i0→0≤(nod p.1 u).up∧(nod p.1 u).up<u∧ms.getD (nod p.1 u).up.toNat 0=(nod t (ms.getD u 0)).up.toNat)
 mono:∀u v,u<v→v<p.1.length→ms.getD u 0<ms.getD v 0
 ix:∀m:Nat,m<k→bN_ t i0 m=true→0≤p.2.getD m 0∧p.2.getD m 0<p.1.length∧ms.getD (p.2.getD m 0).toNat 0=m
theorem DP_{l:List Nat}{x:Nat}{m:Nat}:(l++[x]).getD m 0=if m<l.length then l.getD m 0 else if m=l.length then x else 0:=by
 simp only[List.getD_eq_getElem?_getD];by_cases h:m<l.length
 ·rw[if_pos h,List.getElem?_append_left h]
 ·rw[if_neg h,List.getElem?_append_right (by omega)];by_cases h2:m=l.length
  ·subst h2;simp
  ·rw[if_neg h2,List.getElem?_eq_none (by simp;omega)];rfl
theorem RL_{t:List Nod}(ht:bG_ t)(i0:Int):∀k,k≤t.length→∃ms,Ss_ t i0 k (av_ (bv_ t i0) ([],[]) k) ms
 |0,_=>⟨[],⟨rfl,rfl,fun u h=>absurd h (Nat.not_lt_zero _),fun u h=>absurd h (Nat.not_lt_zero _),fun u v _ h=>absurd h (Nat.not_lt_zero _),fun m h=>absurd h (Nat.not_lt_zero _)⟩⟩
 | k + 1, hk => by
   obtain⟨ms,ih⟩:=RL_ ht i0 k (by omega);rw[bi_];generalize av_ (bv_ t i0) ([],[]) k=p at *;obtain⟨kp,ix⟩:=p;obtain⟨l1,l2,l3,l4,l5,l6⟩:=ih;dsimp only at l1 l2 l3 l4 l5 l6;unfold bv_;by_cases ha:bN_ t i0 k=true
   ·rw [if_pos ha]
    dsimp only;have hln:(kp++[(⟨(nod t k).blk,if (k:Int)=i0 then -1 else ix.getD (nod t k).up.toNat 0,(nod t k).status⟩:Nod)]).length=kp.length+1:=by simp
    have oldN:∀ (n:Nod) u,u<kp.length→nod (kp++[n]) u=nod kp u:=fun n u hu=>by rw[cU_,if_pos hu]
    have newN:∀ (n:Nod),nod (kp++[n]) kp.length=n:=fun n=>by rw[cU_,if_neg (Nat.lt_irrefl _),if_pos rfl]
    have oldM:∀u,u<kp.length→(ms++[k]).getD u 0=ms.getD u 0:=fun u hu=>by rw[DP_,if_pos (by omega)]
    have newM:(ms++[k]).getD kp.length 0=k:=by rw[DP_,if_neg (by omega),if_pos (by omega)]
    refine⟨ms++[k],by simp[l1],by simp[l2],fun u hu=>?_,fun u hu=>?_,fun u v huv hv=>?_,fun m hm hma=>?_⟩
    ·rw[hln]at hu
     by_cases h1:u<kp.length
     ·rw[oldM u h1,oldN _ u h1];obtain⟨a1,a2,a3,a4⟩:=l3 u h1;exact⟨by omega,a2,a3,a4⟩
     ·obtain rfl:u=kp.length:=by omega
      rw[newM,newN];exact⟨by omega,ha,rfl,rfl⟩
    ·rw[hln]at hu
     by_cases h1:u<kp.length
     ·rw[oldM u h1,oldN _ u h1];obtain⟨a1,a2⟩:=l4 u h1;refine⟨a1,fun h=>?_⟩;obtain⟨b1,b2,b3⟩:=a2 h;exact⟨b1,b2,by rw[oldM _ (by omega)];exact b3⟩
     ·obtain rfl:u=kp.length:=by omega
      rw[newM,newN];dsimp only;refine⟨fun h=>if_pos h,fun h=>?_⟩;rw[if_neg h];obtain⟨h0,h1⟩:=Ay_ ht (by omega) ha h;obtain⟨h2,h3⟩:=ht.ok k h0 (by omega);obtain⟨b1,b2,b3⟩:=l6 (nod t k).up.toNat (by omega) (by rw[Int.toNat_of_nonneg h2];exact h1);exact⟨b1,b2,by rw[oldM _ (by omega)];exact b3⟩
    ·rw[hln]at hv
     by_cases h1:v<kp.length
     ·rw[oldM u (by omega),oldM v h1];exact l5 u v huv h1
     ·obtain rfl:v=kp.length:=by omega
      rw[newM,oldM u huv];exact(l3 u huv).1
    ·rw[gp_]
     by_cases hmk:m<k
     ·rw[if_pos (by omega)];obtain⟨b1,b2,b3⟩:=l6 m hmk hma;exact⟨b1,by rw[hln];omega,by rw[oldM _ (by omega)];exact b3⟩
     ·obtain rfl:m=k:=by omega
      rw[if_neg (by omega),if_pos (by omega)];exact⟨by omega,by rw[hln];omega,by rw[Int.toNat_natCast];exact newM⟩
   ·rw [if_neg ha]
    dsimp only;refine⟨ms,l1,by simp[l2],fun u hu=>?_,l4,l5,fun m hm hma=>?_⟩
    ·obtain⟨a1,a2,a3,a4⟩:=l3 u hu;exact⟨by omega,a2,a3,a4⟩
    ·by_cases hmk:m<k
     ·rw[gp_,if_pos (by omega)];exact l6 m hmk hma
     ·obtain rfl:m=k:=by omega
      exact absurd hma ha
structure kC_(t:List Nod)(i0:Nat)(u:List Nod)(ms:List Nat):Prop where
 len:ms.length=u.length
 pos:0<u.length
 src:∀k,k<u.length→ms.getD k 0<t.length∧bN_ t i0 (ms.getD k 0)=true∧(nod u k).blk=(nod t (ms.getD k 0)).blk∧(nod u k).status=(nod t (ms.getD k 0)).status
 up:∀k,0<k→k<u.length→0<ms.getD k 0∧0≤(nod u k).up∧(nod u k).up<k∧ms.getD (nod u k).up.toNat 0=(nod t (ms.getD k 0)).up.toNat
 mono:∀k v,k<v→v<u.length→ms.getD k 0<ms.getD v 0
 zero:ms.getD 0 0=i0∧(nod u 0).up=-1
 all:∀m:Nat,m<t.length→bN_ t i0 m=true→∃k,k<u.length∧ms.getD k 0=m
theorem BE_{t:List Nod}(ht:bG_ t){i0:Nat}(hi:i0<t.length):∃ms,kC_ t i0 (ce_ t i0).1 ms:=by
 obtain⟨ms,h⟩:=RL_ ht i0 t.length (Nat.le_refl _);have hself:=iq_ ht hi;obtain⟨s1,s2,s3⟩:=h.ix i0 hi hself
 have hle:∀k,k<(ce_ t i0).1.length→i0≤ms.getD k 0:=fun k hk=>by
  have:=tS_ ht (h.src k hk).2.1;omega
 have hpos:0<(ce_ t i0).1.length:=by show 0<(av_ (bv_ t i0) ([],[]) t.length).1.length;omega
 have h0:ms.getD 0 0=i0:=by
  by_cases hz:((av_ (bv_ t i0) ([],[]) t.length).2.getD i0 0).toNat=0
  ·rw[hz]at s3;exact s3
  ·have h1:=h.mono 0 ((av_ (bv_ t i0) ([],[]) t.length).2.getD i0 0).toNat (by omega) (by omega);rw[s3]at h1;have:=hle 0 hpos;omega
 refine⟨ms,h.len,hpos,h.src,fun k hk hk2=>?_,h.mono,⟨h0,(h.up 0 hpos).1 (by rw[h0])⟩,fun m hm hma=>?_⟩
 ·have h1:=h.mono 0 k hk hk2;rw[h0]at h1;obtain⟨a1,a2,a3⟩:=(h.up k hk2).2 (by omega);exact⟨by omega,a1,a2,a3⟩
 ·obtain⟨b1,b2,b3⟩:=h.ix m hm hma;exact⟨_,by show _<(av_ (bv_ t i0) ([],[]) t.length).1.length;omega,b3⟩
theorem TrV.prune{t:List Nod}(h:TrV t){i0:Nat}(hi:i0<t.length):TrV (ce_ t i0).1:=by
 obtain⟨ms,p⟩:=BE_ h.r hi;have hr:=h.r.prune (i0:=(i0:Int)) (by omega) (by omega);have U:∀k,0<k→k<(ce_ t i0).1.length→(nod (ce_ t i0).1 k).up.toNat<(ce_ t i0).1.length:=fun k h0 h1=>by have:=hr.ok k h0 h1;omega
 have B:∀k,0<k→(hk:k<(ce_ t i0).1.length)→(nod (ce_ t i0).1 (nod (ce_ t i0).1 k).up.toNat).blk=(nod t (nod t (ms.getD k 0)).up.toNat).blk∧(nod (ce_ t i0).1 (nod (ce_ t i0).1 k).up.toNat).status=(nod t (nod t (ms.getD k 0)).up.toNat).status:=fun k h0 h1=>by
  have:=p.src _ (U k h0 h1);rw[(p.up k h0 h1).2.2.2]at this;exact⟨this.2.2.1,this.2.2.2⟩
 refine⟨p.pos,fun k hk=>?_,p.zero.2,fun k h0 hk=>⟨(p.up k h0 hk).2.1,(p.up k h0 hk).2.2.1⟩,fun i j hij hj=>?_,fun k h0 hk=>?_,fun k h0 hk=>?_,fun k h0 hk=>?_,fun k h0 hk=>?_,fun k hk=>?_⟩
 ·rw[(p.src k hk).2.2.2];exact h.st _ (p.src k hk).1
 ·rw[(p.src i (by omega)).2.2.1,(p.src j hj).2.2.1];exact h.ds _ _ (p.mono i j hij hj) (p.src j hj).1
 ·rw[(p.src k hk).2.2.1,(B k h0 hk).1];exact h.pr _ (p.up k h0 hk).1 (p.src k hk).1
 ·rw[(p.src k hk).2.2.1,(B k h0 hk).1];exact h.sl _ (p.up k h0 hk).1 (p.src k hk).1
 ·rw[(p.src k hk).2.2.2,(B k h0 hk).2];exact h.va _ (p.up k h0 hk).1 (p.src k hk).1
 ·rw[(p.src k hk).2.2.2,(B k h0 hk).2];exact h.iv _ (p.up k h0 hk).1 (p.src k hk).1
 ·rw[(p.src k hk).2.2.1,(p.src k hk).2.2.2];exact h.py _ (p.src k hk).1
theorem sJ_{α:Type}(l:List α)(d:α)(p:α→Prop)[DecidablePred p]:av_ (fun i o=>if p (l.getD i d)then o++[l.getD i d]else o) [] l.length=l.filter (fun x=>decide (p x)):=by
 have key:∀n,n≤l.length→av_ (fun i o=>if p (l.getD i d)then o++[l.getD i d]else o) [] n=(l.take n).filter (fun x=>decide (p x)):=by
  intro n;induction n with
  |zero=>intro _;rfl
  | succ n ih =>
    intro hn;have e0:l[n]'(by omega)=l.getD n d:=by rw[List.getD_eq_getElem?_getD,List.getElem?_eq_getElem (by omega)];rfl
    rw[bi_,ih (by omega),List.take_add_one,List.getElem?_eq_getElem (by omega),Option.toList_some,List.filter_append,e0];by_cases q:p (l.getD n d)
    ·rw[if_pos q,List.filter_cons,if_pos (decide_eq_true q),List.filter_nil]
    ·rw[if_neg q,List.filter_cons,if_neg (by rw[decide_eq_false q];decide),List.filter_nil,List.append_nil]
 rw[key _ (Nat.le_refl _),List.take_length]
theorem lB_(l:List au_)(e:Int):cY_ l e=l.filter (fun t=>decide (e≤t.cp.ep)):=sJ_ l default (fun t:au_=>e≤t.cp.ep)
theorem mP_(l:List Blk)(a:Int):av_ (iQ_ l a) [] l.length=l.filter (fun b=>decide (a<b.slot)):=sJ_ l cF_ (fun b:Blk=>a<b.slot)
theorem OR_{l:List au_}{c:Cp}(h:0≤bU_ l c):∃t∈l,t.cp=c:=by
 unfold bU_ at h;cases hf:bD_ (fun i=>decide ((tab l i).cp=c)) l.length with
 |none=>rw[hf,fQ_]at h;exact absurd h (by decide)
 | some k =>
   obtain⟨h1,h2,_⟩:=cD_ hf;exact⟨tab l k,bH_ _ h1,of_decide_eq_true h2⟩
theorem Ix_{l:List au_}{t:au_}(h:t∈l):0≤bU_ l t.cp:=by
 unfold bU_;cases hf:bD_ (fun i=>decide ((tab l i).cp=t.cp)) l.length with
 | none =>
   obtain⟨k,hk,he⟩:=List.getElem_of_mem h;have:=ei_ hf k hk;unfold tab at this;rw[List.getD_eq_getElem?_getD,List.getElem?_eq_getElem hk]at this;have h2:(l[k]).cp≠t.cp:=of_decide_eq_false this;rw[he]at h2;exact absurd rfl h2
 |some k=>rw[dP_];omega
theorem qS_{t:List Nod}{r:Rt}:af_ t r<0↔∀n∈t,n.blk.root≠r:=by
 have h:=mL_ t r;constructor
 ·intro h1 n hn he;have:=h.2 (List.mem_map.2 ⟨n,hn,he⟩);omega
 ·intro h1
  by_cases h2:0≤af_ t r
  ·obtain⟨n,hn,he⟩:=List.mem_map.1 (h.1 h2);exact absurd he (h1 n hn)
  ·omega
def yK_(l:List au_)(n:Int):Prop:=(∀t∈l,dJ_ t n=0)∧l.Pairwise fun a b=>gy_ a.cp b.cp<0
structure Sq_(s:ah_)(b:Blk):Prop where
 rt:b.root≠rt0
 un:af_ s.nodes b.root<0
 ti:b.timely=false
 nw:b.slot≤s.now
 ol:(bh_ s.f.ep s.cfg.spe).1<b.slot
structure StW(s:ah_):Prop where
 ne:eR_ s.cfg=0
 tree:TrV s.nodes
 z1:(s.nodes.length:Int)≤s.cfg.lim.node
 z2:(s.orph.length:Int)≤s.cfg.lim.orph
 z3:(s.early.length:Int)≤s.cfg.lim.early
 z4:(s.tabs.length:Int)≤s.cfg.lim.table
 fr:(nod s.nodes 0).blk.root=s.f.rt
 jf:0≤af_ s.nodes s.j.rt
 ji:(nod s.nodes (af_ s.nodes s.j.rt).toNat).status≠2
 fj:s.f.ep≤s.j.ep
 tj:∃t∈s.tabs,t.cp=s.j
 tv:yK_ s.tabs s.cfg.bals.length
 ll:s.latest.length=s.cfg.bals.length
 lv:∀v∈s.latest,v.has=false→v=do_
 qv:s.eqv=[]∨cd_ s.eqv s.cfg.bals.length=0
 bo:s.boost=rt0∨0≤af_ s.nodes s.boost
 nm:s.now≤1099511627776
 je:s.j.ep≤aT_ s s.now
 ea:(bh_ s.f.ep s.cfg.spe).2=0∧(nod s.nodes 0).blk.slot≤(bh_ s.f.ep s.cfg.spe).1
 nd:∀n∈s.nodes,n.blk.slot≤s.now∧jj_ s n.blk=true
 av:∀a∈s.early,cd_ a.vals s.cfg.bals.length=0
 ob:∀b∈s.orph,Sq_ s b
 od:s.orph.Pairwise fun a b=>a.root≠b.root
structure StV(s:ah_):Prop where
 w:StW s
 op:∀b∈s.orph,af_ s.nodes b.parent<0
theorem qR_{t:List Nod}{k:Nat}(h:k<t.length):nod t k∈t:=bH_ _ h
structure Sp_(s:ah_)(a b:Cp):Prop where
 i0:0≤af_ s.nodes a.rt
 k0:0≤af_ s.nodes b.rt
 i2:(nod s.nodes (af_ s.nodes a.rt).toNat).status≠2
 k2:(nod s.nodes (af_ s.nodes b.rt).toNat).status≠2
 ea:fz_ s (af_ s.nodes a.rt) a.ep=true
 eb:fz_ s (af_ s.nodes b.rt) b.ep=true
 an:bN_ s.nodes (af_ s.nodes b.rt) (af_ s.nodes a.rt)=true
 le:b.ep≤a.ep
 nw:a.ep≤aT_ s s.now
 tb:0≤bU_ s.tabs a
theorem RH_{s:ah_}{a b:Cp}(h:¬kV_ s a b=false):Sp_ s a b:=by
 unfold kV_ at h;simp only[Bool.not_eq_false,Bool.and_eq_true,decide_eq_true_eq]at h;obtain⟨⟨⟨⟨⟨⟨⟨⟨⟨h1,h2⟩,h3⟩,h4⟩,h5⟩,h6⟩,h7⟩,h8⟩,h9⟩,h10⟩:=h;exact⟨h1,h2,h3,h4,h5,h6,h7,h8,h9,h10⟩
theorem zN_{t u:List Nod}{i0:Nat}{ms:List Nat}(p:kC_ t i0 u ms){n:Nod}(h:n∈u):∃m∈t,n.blk=m.blk∧n.status=m.status:=by
 obtain⟨k,hk,rfl⟩:=qP_ h;obtain⟨a1,a2,a3,a4⟩:=p.src k hk;exact⟨_,qR_ a1,a3,a4⟩
theorem StW.upd{s:ah_}{i:Nat}(h:StW s)(hI:aK_ s i){j f:Cp}(hj:U64 j.ep)(hf:U64 f.ep):StW (ch_ s j f):=by
 have hcf:(ch_ s j f).cfg=s.cfg:=Cy_ s j f;have hue:=Oa_ j f hI.uj hI.uf hj hf;unfold ch_ at *;by_cases hm:kV_ s (cf_ s.j j) (cf_ s.f f)=false
 ·rw[if_pos hm];exact h
 rw[if_neg hm]at hue ⊢;have m:=RH_ hm;have hbu:U64 (cf_ s.f f).ep:=iT_ hI.uf hf;generalize cf_ s.j j=a at *;generalize cf_ s.f f=b at *;have hst:(bh_ b.ep s.cfg.spe).2=0:=re_ hbu.lo hI.cfg.s1 (by have:=hI.cfg.s4;omega) hI.nw.1.lo hI.nw.1.hi (Int.le_trans m.le m.nw);have htl:((cY_ s.tabs a.ep).length:Int)≤s.cfg.lim.table:=by have:=id_ s.tabs a.ep;have:=h.z4;omega
 have htv:yK_ (cY_ s.tabs a.ep) s.cfg.bals.length:=⟨fun t ht=>h.tv.1 t (ie_ _ _ t ht),by rw[lB_];exact h.tv.2.filter _⟩
 have htj:∃t∈cY_ s.tabs a.ep,t.cp=a:=by
  obtain⟨t,h1,h2⟩:=OR_ m.tb;refine⟨t,?_,h2⟩;rw[lB_,List.mem_filter];exact⟨h1,decide_eq_true (by rw[h2];exact Int.le_refl _)⟩
 by_cases hb:b=s.f
 ·rw[if_pos hb];refine⟨h.ne,h.tree,h.z1,h.z2,h.z3,htl,by rw[hb];exact h.fr,m.i0,m.i2,m.le,htj,htv,h.ll,h.lv,h.qv,h.bo,h.nm,m.nw,by rw[hb];exact h.ea,h.nd,h.av,fun x hx=>?_,h.od⟩;obtain⟨a1,a2,a3,a4,a5⟩:=h.ob x hx;exact⟨a1,a2,a3,a4,by rw[hb];exact a5⟩
 ·rw [if_neg hb]
  obtain⟨k1,k2⟩:=cn_ m.k0;obtain⟨ms,p⟩:=BE_ h.tree.r k1;have hK:(((af_ s.nodes b.rt).toNat:Nat):Int)=af_ s.nodes b.rt:=Int.toNat_of_nonneg m.k0;have htr:=h.tree.prune k1;have hfi:=nd_ h.tree.r m.i0 m.an;rw[hK]at p htr;have hle:=kX_ h.tree.r (af_ s.nodes b.rt);have hI0:=cn_ m.i0;have hI1:=cn_ hfi;have z0:=p.src 0 p.pos;rw[p.zero.1]at z0;generalize (ce_ s.nodes (af_ s.nodes b.rt)).1=u at *
  have hun:∀r,af_ s.nodes r<0→af_ u r<0:=fun r hr=>by
   rw[qS_]at hr ⊢;intro n hn;obtain⟨q,h1,h2,_⟩:=zN_ p hn;rw[h2];exact hr q h1
  refine⟨h.ne,htr,by have:=h.z1;show (u.length:Int)≤s.cfg.lim.node;omega,?_,h.z3,htl,?_,hfi,?_,m.le,htj,htv,h.ll,h.lv,h.qv,?_,h.nm,m.nw,⟨hst,?_⟩,fun n hn=>?_,h.av,fun x hx=>?_,?_⟩
  ·rw[mP_];have:=List.length_filter_le (fun x:Blk=>decide ((bw_ s b.ep).1<x.slot)) s.orph;have:=h.z2;show ((List.filter _ s.orph).length:Int)≤s.cfg.lim.orph
   omega
  ·show (nod u 0).blk.root=b.rt
   rw[z0.2.2.1];exact k2
  ·show (nod u (af_ u a.rt).toNat).status≠2
   obtain⟨a1,a2,a3,a4⟩:=p.src _ hI1.1;rw[a4]
   have e:ms.getD (af_ u a.rt).toNat 0=(af_ s.nodes a.rt).toNat:=by
    have e1:(nod s.nodes (ms.getD (af_ u a.rt).toNat 0)).blk.root=(nod s.nodes (af_ s.nodes a.rt).toNat).blk.root:=by rw[←a3,hI1.2,hI0.2]
    rcases Nat.lt_trichotomy (ms.getD (af_ u a.rt).toNat 0) (af_ s.nodes a.rt).toNat with h1|h1|h1
    ·exact absurd e1 (h.tree.ds _ _ h1 hI0.1)
    ·exact h1
    ·exact absurd e1.symm (h.tree.ds _ _ h1 a1)
   rw[e];exact m.i2
  ·show (if af_ u s.boost<0 then rt0 else s.boost)=rt0∨0≤af_ u (if af_ u s.boost<0 then rt0 else s.boost)
   split
   ·exact .inl rfl
   ·right;omega
  ·show (nod u 0).blk.slot≤(bh_ b.ep s.cfg.spe).1
   rw[z0.2.2.1];have:=m.eb;unfold fz_ bw_ at this;rw[hst]at this;simpa using this
  ·obtain⟨q,h1,h2,_⟩:=zN_ p hn;rw[h2];exact h.nd q h1
  ·have hx:x∈av_ (iQ_ s.orph (bw_ s b.ep).1) [] s.orph.length:=hx;rw[mP_,List.mem_filter]at hx;obtain⟨a1,a2,a3,a4,a5⟩:=h.ob x hx.1;exact⟨a1,hun _ a2,a3,a4,of_decide_eq_true hx.2⟩
  ·show (av_ (iQ_ s.orph (bw_ s b.ep).1) [] s.orph.length).Pairwise _
   rw[mP_];exact h.od.filter _
theorem Rk_{s:ah_}(h:bG_ s.nodes)(j f:Cp){r:Rt}(hr:af_ s.nodes r<0):af_ (ch_ s j f).nodes r<0:=by
 rw[qS_]at hr ⊢;intro n hn;obtain⟨m,h1,h2⟩:=(An_ h j f).2 n hn;rw[h2];exact hr _ (qR_ h1)
theorem StV.upd{s:ah_}{i:Nat}(h:StV s)(hI:aK_ s i){j f:Cp}(hj:U64 j.ep)(hf:U64 f.ep):StV (ch_ s j f):=
 ⟨h.w.upd hI hj hf,fun b hb=>Rk_ h.w.tree.r j f (h.op b ((je_ s j f).2 b hb))⟩
theorem FW_{p a b:Int}(hp:1≤p)(ha:0≤a)(hab:a≤b)(hb:b<18446744073709551616):IntKind.u64.wrap (Int.tdiv a p)≤IntKind.u64.wrap (Int.tdiv b p):=by
 have h1:Int.tdiv a p=a / p:=Int.tdiv_eq_ediv_of_nonneg ha;have h2:Int.tdiv b p=b / p:=Int.tdiv_eq_ediv_of_nonneg (by omega);have h3:a / p≤b / p:=Int.ediv_le_ediv (by omega) hab;have h4:0≤a / p:=Int.ediv_nonneg ha (by omega);have h5:b / p≤b:=Int.ediv_le_self _ (by omega);rw[h1,h2,aH_ h4 (by omega),aH_ (by omega) (by omega)];exact h3
theorem StV.tickA{s:ah_}{i:Nat}(h:StV s)(hI:aK_ s i)(h3:¬1099511627776≤s.now):StV (tickA s):=by
 have hw:=hI.nw.1;have e:IntKind.u64.wrap (s.now+1)=s.now+1:=aH_ (by have:=hw.lo;omega) (by omega);have hne:(Go.Proofs.YtkgimpdgncakjaaGreat.tickA s).now=s.now+1:=e;obtain⟨w,op⟩:=h;refine⟨⟨w.ne,w.tree,w.z1,w.z2,w.z3,w.z4,w.fr,w.jf,w.ji,w.fj,w.tj,w.tv,w.ll,w.lv,w.qv,.inl rfl,by rw[hne];omega,?_,w.ea,fun n hn=>⟨?_,(w.nd n hn).2⟩,w.av,fun b hb=>?_,w.od⟩,op⟩
 ·have h1:=FW_ hI.cfg.s1 hw.lo (show s.now≤s.now+1 by omega) (by omega);have h2:=w.je;show s.j.ep≤IntKind.u64.wrap (Int.tdiv (Go.Proofs.YtkgimpdgncakjaaGreat.tickA s).now s.cfg.spe)
  rw[hne];exact Int.le_trans h2 h1
 ·have:=(w.nd n hn).1;rw[hne];omega
 ·obtain⟨a1,a2,a3,a4,a5⟩:=w.ob b hb;exact⟨a1,a2,a3,by rw[hne];omega,a5⟩
theorem StV.tickB{s:ah_}{i:Nat}(h:StV s)(hI:aK_ s i):StV (tickB s):=by
 unfold Go.Proofs.YtkgimpdgncakjaaGreat.tickB;split
 ·have:=BD_ (s:=s) fun k hk=>hI.blk hk
  exact h.upd hI this.1 this.2
 ·exact h
theorem StV.withE{s:ah_}(h:StV s){l:List aD_}(h1:(l.length:Int)≤s.cfg.lim.early)(h2:∀a∈l,cd_ a.vals s.cfg.bals.length=0):StV (withE s l):=by
 obtain⟨w,op⟩:=h;exact⟨⟨w.ne,w.tree,w.z1,w.z2,h1,w.z4,w.fr,w.jf,w.ji,w.fj,w.tj,w.tv,w.ll,w.lv,w.qv,w.bo,w.nm,w.je,w.ea,w.nd,h2,fun b hb=>⟨(w.ob b hb).rt,(w.ob b hb).un,(w.ob b hb).ti,(w.ob b hb).nw,(w.ob b hb).ol⟩,w.od⟩,op⟩
theorem StV.withL{s:ah_}(h:StV s){l:List Vot}(h1:l.length=s.latest.length)(h2:∀v∈l,v.has=false→v=do_):StV (withL s l):=by
 obtain⟨w,op⟩:=h;exact⟨⟨w.ne,w.tree,w.z1,w.z2,w.z3,w.z4,w.fr,w.jf,w.ji,w.fj,w.tj,w.tv,h1.trans w.ll,h2,w.qv,w.bo,w.nm,w.je,w.ea,w.nd,w.av,fun b hb=>⟨(w.ob b hb).rt,(w.ob b hb).un,(w.ob b hb).ti,(w.ob b hb).nw,(w.ob b hb).ol⟩,w.od⟩,op⟩
theorem Ou_{l:List Vot}(h:∀v∈l,v.has=false→v=do_)(ep:Int)(root:Rt)(m:List Int):∀v∈(su_ l ep root m).1,v.has=false→v=do_:=by
 refine dG_ (f:=hU_ ep root m) (a:=(l,0)) (fun _ p=>∀v∈p.1,v.has=false→v=do_) h m.length (fun i p hi hp=>?_) _ (Nat.le_refl _);unfold hU_;split
 ·intro v hv hh;rcases List.mem_or_eq_of_mem_set hv with h1|h1
  ·exact hp v h1 hh
  ·subst h1;cases hh
 ·exact hp
theorem StV.castIn{s:ah_}(h:StV s)(a:aD_):StV (castIn s a):=h.withL (iM_ _ _ _ _ _) (Ou_ h.w.lv _ _ _)
theorem StV.tickR{l:List aD_}{s:ah_}(h:StV s)(hl:(l.length:Int)≤s.cfg.lim.early)(ha:∀a∈l,cd_ a.vals s.cfg.bals.length=0):∀k,k≤l.length→StV (av_ (tickR l) (Go.FH.withE s []) k)∧(av_ (tickR l) (Go.FH.withE s []) k).early.length≤k∧(av_ (tickR l) (Go.FH.withE s []) k).cfg=s.cfg∧(∀a∈(av_ (tickR l) (Go.FH.withE s []) k).early,cd_ a.vals s.cfg.bals.length=0)
 |0,_=>⟨h.withE (by have:=h.w.z3;simp;omega) (by simp),Nat.le_refl _,rfl,fun a ha=>(by cases ha)⟩
 | k + 1, hk => by
   obtain⟨h1,h2,h3,h4⟩:=StV.tickR h hl ha k (by omega);rw[bi_];generalize av_ (Go.Proofs.YtkgimpdgncakjaaGreat.tickR l) (Go.FH.withE s []) k=t at *;unfold Go.Proofs.YtkgimpdgncakjaaGreat.tickR
   have hm:∀x∈t.early++[dM_ l k],cd_ x.vals s.cfg.bals.length=0:=fun x hx=>by
    rcases List.mem_append.1 hx with hx|hx
    ·exact h4 x hx
    ·rw[List.mem_singleton]at hx;subst hx;exact ha _ (pT_ (by omega))
   split
   ·refine⟨h1.withE (by rw[h3];simp;omega) (by rw[h3];exact hm),by show (t.early++[dM_ l k]).length≤k+1;simp;omega,h3,hm⟩
   ·split
    ·exact⟨h1.castIn _,Nat.le_succ_of_le h2,h3,h4⟩
    ·exact⟨h1,Nat.le_succ_of_le h2,h3,h4⟩
theorem StV.tick{s:ah_}{i:Nat}(h:StV s)(hI:aK_ s i)(h2:(dF_ s).2=0):StV (dF_ s).1:=by
 unfold dF_ at *;split at h2
 ·simp at h2
 ·rename_i h3;rw[if_neg h3];have hb:=(h.tickA hI h3).tickB (hI.tickA h3);exact(StV.tickR hb hb.w.z3 hb.w.av _ (Nat.le_refl _)).1
theorem Ji_{s:ah_}{a:aD_}(h:(cm_ s a).2=0):cd_ a.vals s.cfg.bals.length=0:=by
 unfold cm_ at h;split at h
 ·rename_i h1;exact absurd h h1
 ·rename_i h1;simpa using h1
theorem StV.att{s:ah_}(h:StV s){a:aD_}(h2:(kH_ s a).2=0):StV (kH_ s a).1:=by
 unfold kH_ at *;split at h2
 ·rename_i h3;exact absurd h2 h3
 ·rename_i h3
  rw[if_neg h3];split at h2
  ·rename_i h4;rw[if_pos h4];exact h.castIn a
  ·rename_i h4
   rw[if_neg h4];split at h2
   ·simp at h2
   ·rename_i h5;rw[if_neg h5];refine h.withE (by simp;omega) (fun x hx=>?_);rcases List.mem_append.1 hx with hx|hx
    ·exact h.w.av x hx
    ·rw[List.mem_singleton]at hx;subst hx;exact Ji_ (by simpa using h3)
theorem NY_{x y:UInt8}(h1:¬x<y)(h2:¬y<x):x=y:=by
 rw[UInt8.lt_iff_toNat_lt]at h1 h2;exact UInt8.toNat_inj.1 (by omega)
theorem uF_(a b:Rt):∀f i,js_ b a f i=- js_ a b f i
 |0,_=>rfl
 | f + 1, i => by
   unfold js_;by_cases h1:a.1.getD i 0<b.1.getD i 0
   ·have h2:¬b.1.getD i 0<a.1.getD i 0:=by rw[UInt8.lt_iff_toNat_lt]at *;omega
    rw[if_neg h2,if_pos h1,if_pos h1];rfl
   ·by_cases h2:b.1.getD i 0<a.1.getD i 0
    ·rw[if_pos h2,if_neg h1,if_pos h2]
    ·rw[if_neg h2,if_neg h1,if_neg h1,if_neg h2];exact uF_ a b f (i+1)
theorem HD_(a b:Rt):∀f i,js_ a b f i=0→∀k,i≤k→k<i+f→a.1.getD k 0=b.1.getD k 0
 |0,i,_,k,h1,h2=>by omega
 | f + 1, i, h, k, h1, h2 => by
   unfold js_ at h;split at h
   ·cases h
   ·rename_i h3
    split at h
    ·cases h
    ·rename_i h4;by_cases hk:k=i
     ·subst hk;exact NY_ h3 h4
     ·exact HD_ a b f (i+1) h k (by omega) (by omega)
theorem Dg_(a b:Rt):∀f i,js_ a b f i<0↔∃m,i≤m∧m<i+f∧(∀k,i≤k→k<m→a.1.getD k 0=b.1.getD k 0)∧a.1.getD m 0<b.1.getD m 0
 |0,i=>⟨fun h=>absurd (show (0:Int)<0 from h) (by decide),fun ⟨m,h1,h2,_⟩=>by omega⟩
 | f + 1, i => by
   unfold js_;by_cases h1:a.1.getD i 0<b.1.getD i 0
   ·rw[if_pos h1];exact⟨fun _=>⟨i,Nat.le_refl _,by omega,fun k h2 h3=>by omega,h1⟩,fun _=>by decide⟩
   ·rw [if_neg h1]
    by_cases h2:b.1.getD i 0<a.1.getD i 0
    ·rw[if_pos h2]
     refine⟨fun h=>absurd h (by decide),fun ⟨m,h3,h4,h5,h6⟩=>?_⟩;by_cases hm:m=i
     ·subst hm;exact absurd h6 h1
     ·have:=h5 i (Nat.le_refl _) (by omega);rw[this]at h2;rw[UInt8.lt_iff_toNat_lt]at h2;omega
    ·rw[if_neg h2,Dg_ a b f (i+1)]
     have he:=NY_ h1 h2;constructor
     ·rintro⟨m,h3,h4,h5,h6⟩;refine⟨m,by omega,by omega,fun k h7 h8=>?_,h6⟩;by_cases hk:k=i
      ·subst hk;exact he
      ·exact h5 k (by omega) h8
     ·rintro⟨m,h3,h4,h5,h6⟩;have hm:m≠i:=fun h=>by subst h;exact h1 h6
      exact⟨m,by omega,by omega,fun k h7 h8=>h5 k (by omega) h8,h6⟩
theorem FF_{a b c:Rt}(h1:lG_ a b<0)(h2:lG_ b c<0):lG_ a c<0:=by
 unfold lG_ at *;rw[Dg_]at *;obtain⟨m,a1,a2,a3,a4⟩:=h1;obtain⟨n,b1,b2,b3,b4⟩:=h2;rcases Nat.lt_trichotomy m n with h|h|h
 ·exact⟨m,a1,a2,fun k h3 h4=>(a3 k h3 h4).trans (b3 k h3 (by omega)),by rw[←b3 m a1 h];exact a4⟩
 ·subst h;exact⟨m,a1,a2,fun k h3 h4=>(a3 k h3 h4).trans (b3 k h3 h4),by rw[UInt8.lt_iff_toNat_lt]at *;omega⟩
 ·exact⟨n,b1,b2,fun k h3 h4=>(a3 k h3 (by omega)).trans (b3 k h3 h4),by rw[a3 n b1 h];exact b4⟩
theorem QK_{a b:Rt}(h:lG_ a b=0):a=b:=by
 have h1:=HD_ a b 32 0 h;refine Subtype.ext (List.ext_getElem (by rw[a.2,b.2]) fun i h2 h3=>?_);have:=h1 i (Nat.zero_le _) (by have:=a.2;omega);rwa [List.getD_eq_getElem?_getD,List.getD_eq_getElem?_getD,List.getElem?_eq_getElem h2,List.getElem?_eq_getElem h3]at this
theorem Jt_(a b:Cp):gy_ b a=- gy_ a b:=by
 unfold gy_;by_cases h:a.ep=b.ep
 ·rw[if_neg (fun hh=>hh h.symm),if_neg (fun hh=>hh h)];exact uF_ _ _ _ _
 ·rw[if_pos h,if_pos (fun hh=>h hh.symm)];by_cases h1:a.ep<b.ep
  ·rw[if_pos h1,if_neg (by omega)];rfl
  ·rw[if_neg h1,if_pos (by omega)]
theorem QJ_{a b:Cp}(h:gy_ a b=0):a=b:=by
 unfold gy_ at h;obtain⟨ae,ar⟩:=a;obtain⟨be,br⟩:=b;dsimp only at h;by_cases h1:ae=be
 ·rw[if_neg (fun hh=>hh h1)]at h;rw[h1,QK_ h]
 ·rw[if_pos h1]at h;split at h<;>cases h
theorem OA_{a b:Cp}:gy_ a b<0↔a.ep<b.ep∨(a.ep=b.ep∧lG_ a.rt b.rt<0):=by
 unfold gy_;by_cases h1:a.ep=b.ep
 ·rw[if_neg (fun hh=>hh h1)];exact⟨fun h=>.inr ⟨h1,h⟩,fun h=>h.elim (fun h=>by omega) fun h=>h.2⟩
 ·rw[if_pos h1];split
  ·rename_i h2;exact⟨fun _=>.inl h2,fun _=>by decide⟩
  ·rename_i h2;exact⟨fun h=>absurd h (by decide),fun h=>h.elim (fun h=>absurd h h2) fun h=>absurd h.1 h1⟩
theorem FE_{a b c:Cp}(h1:gy_ a b<0)(h2:gy_ b c<0):gy_ a c<0:=by
 rw[OA_]at *;rcases h1 with h1|⟨h1,h3⟩
 ·rcases h2 with h2|⟨h2,h4⟩
  ·exact .inl (by omega)
  ·exact .inl (by omega)
 ·rcases h2 with h2|⟨h2,h4⟩
  ·exact .inl (by omega)
  ·exact .inr ⟨h1.trans h2,FF_ h3 h4⟩
theorem Eo_(l:List au_)(c:Cp):∀f i,i+f=l.length→(∀k,k<i→gy_ (tab l k).cp c<0)→fg_ l c f i≤l.length∧(∀k,k<fg_ l c f i→gy_ (tab l k).cp c<0)∧(fg_ l c f i<l.length→¬gy_ (tab l (fg_ l c f i)).cp c<0)
 |0,i,h,hb=>⟨by show i≤_;omega,hb,fun hh=>by have hh:i<l.length:=hh;omega⟩
 | f + 1, i, h, hb => by
   unfold fg_;split
   ·rename_i h1;refine Eo_ l c f (i+1) (by omega) fun k hk=>?_
    by_cases h2:k=i
    ·subst h2;exact h1
    ·exact hb k (by omega)
   ·rename_i h1;exact⟨by omega,hb,fun _=>h1⟩
theorem yK_.add{l:List au_}{n:Int}(h:yK_ l n){t:au_}(hv:dJ_ t n=0)(hf:¬0≤bU_ l t.cp):yK_ (iy_ l t) n:=by
 obtain⟨p1,p2,p3⟩:=Eo_ l t.cp l.length 0 (by omega) (fun k hk=>absurd hk (Nat.not_lt_zero k));refine⟨fun x hx=>?_,?_⟩
 ·rcases pf_ l t x hx with h1|rfl
  ·exact h.1 x h1
  ·exact hv
 unfold iy_;generalize fg_ l t.cp l.length 0=k at *;have hpw:=List.pairwise_iff_getElem.1 h.2;have hL_:∀j (hj:j<l.length),tab l j=l[j]:=fun j hj=>by unfold tab;rw[List.getD_eq_getElem?_getD,List.getElem?_eq_getElem hj];rfl
 have hbig:∀j,k≤j→(hj:j<l.length)→gy_ t.cp l[j].cp<0:=fun j hkj hj=>by
  have h1:=p3 (by omega)
  have hk:gy_ t.cp l[k].cp<0:=by
   rw[hL_ k (by omega)]at h1;have h2:gy_ l[k].cp t.cp≠0:=fun h3=>hf (by rw[←QJ_ h3];exact Ix_ (List.getElem_mem _))
   have h3:=Jt_ l[k].cp t.cp;omega
  by_cases he:k=j
  ·subst he;exact hk
  ·exact FE_ hk (hpw k j (by omega) hj (by omega))
 show (l.take k++[t]++l.drop k).Pairwise _
 rw[List.pairwise_append,List.pairwise_append];refine⟨⟨h.2.sublist (List.take_sublist _ _),by simp,fun x hx y hy=>?_⟩,h.2.sublist (List.drop_sublist _ _),fun x hx y hy=>?_⟩
 ·rw[List.mem_singleton]at hy;subst hy;obtain⟨j,hj,he⟩:=List.mem_take_iff_getElem.1 hx;have:=p2 j (by omega);rw[hL_ j (by omega),he]at this;exact this
 ·obtain⟨j,hj,he⟩:=List.mem_drop_iff_getElem.1 hy
  have hy2:=hbig (k+j) (by omega) (by omega);rw[he]at hy2;rcases List.mem_append.1 hx with hx|hx
  ·obtain⟨m,hm,hme⟩:=List.mem_take_iff_getElem.1 hx;have:=hpw m (k+j) (by omega) (by omega) (by omega);rw[hme,he]at this;exact this
  ·rw[List.mem_singleton]at hx;subst hx;exact hy2
theorem StV.reg{s:ah_}(h:StV s){t:au_}(h2:(ne_ s t).2=0):StV (ne_ s t).1:=by
 unfold ne_ at *;split at h2
 ·rename_i h3;exact absurd h2 h3
 ·rename_i h3
  rw[if_neg h3];split at h2
  ·simp at h2
  ·rename_i h4
   rw[if_neg h4];split at h2
   ·rename_i h5;exact absurd h2 h5
   ·rename_i h5
    rw[if_neg h5];have hv:dJ_ t s.cfg.bals.length=0:=by simpa using h3
    obtain⟨w,op⟩:=h
    have key:((ep_ s.tabs t s.cfg.bals.length s.cfg.lim.table).1.length:Int)≤s.cfg.lim.table∧yK_ (ep_ s.tabs t s.cfg.bals.length s.cfg.lim.table).1 s.cfg.bals.length∧∀x∈s.tabs,x∈(ep_ s.tabs t s.cfg.bals.length s.cfg.lim.table).1:=by
     unfold ep_;rw[if_neg (by simpa using hv)];split
     ·exact⟨w.z4,w.tv,fun x hx=>hx⟩
     ·rename_i h6
      split
      ·exact⟨w.z4,w.tv,fun x hx=>hx⟩
      ·refine⟨by rw[ui_];omega,w.tv.add hv h6,fun x hx=>?_⟩;unfold iy_;rw[←List.take_append_drop (fg_ s.tabs t.cp s.tabs.length 0) s.tabs]at hx;simp only[List.mem_append,List.mem_singleton];rcases List.mem_append.1 hx with hx|hx
       ·exact .inl (.inl hx)
       ·exact .inr hx
    obtain⟨k1,k2,k3⟩:=key
    have hj:∃x∈(ep_ s.tabs t s.cfg.bals.length s.cfg.lim.table).1,x.cp=s.j:=by
     obtain⟨x,hx,he⟩:=w.tj;exact⟨x,k3 x hx,he⟩
    exact⟨⟨w.ne,w.tree,w.z1,w.z2,w.z3,k1,w.fr,w.jf,w.ji,w.fj,hj,k2,w.ll,w.lv,w.qv,w.bo,w.nm,w.je,w.ea,w.nd,w.av,fun b hb=>⟨(w.ob b hb).rt,(w.ob b hb).un,(w.ob b hb).ti,(w.ob b hb).nw,(w.ob b hb).ol⟩,w.od⟩,op⟩
theorem qJ_(v x:Int):∀l:List Int,x∈ji_ l v↔x=v∨x∈l
 | []=>by simp[ji_]
 | a :: r => by
   have ih:=qJ_ v x r;unfold ji_;split
   ·simp only[List.mem_cons,ih]
    constructor
    ·rintro (h|h|h)
     ·exact .inr (.inl h)
     ·exact .inl h
     ·exact .inr (.inr h)
    ·rintro (h|h|h)
     ·exact .inr (.inl h)
     ·exact .inl h
     ·exact .inr (.inr h)
   ·split
    ·rename_i h;subst h
     simp only[List.mem_cons];constructor
     ·exact fun h=>.inr h
     ·rintro (h|h)
      ·exact .inl h
      ·exact h
    ·simp only[List.mem_cons]
theorem sC_(v:Int):∀l:List Int,l.Pairwise (· < ·)→(ji_ l v).Pairwise (· < ·)
 | [],_=>by simp[ji_]
 | a :: r, h => by
   rw[List.pairwise_cons]at h;have ih:=sC_ v r h.2;unfold ji_;split
   ·rename_i h1;rw[List.pairwise_cons];refine⟨fun x hx=>?_,ih⟩;rcases (qJ_ v x r).1 hx with e|e
    ·omega
    ·exact h.1 x e
   ·split
    ·rw[List.pairwise_cons];exact h
    ·rename_i h1 h2;rw[List.pairwise_cons,List.pairwise_cons];refine⟨fun x hx=>?_,h.1,h.2⟩;rcases List.mem_cons.1 hx with e|e
     ·omega
     ·have:=h.1 x e;omega
def As_(l:List Int)(n:Int):Prop:=(∀x∈l,0≤x∧x<n)∧l.Pairwise (· < ·)
theorem Ff_{l:List Int}{n:Int}(h:cd_ l n=0):As_ l n:=by
 obtain⟨h1,h2⟩:=gw_ h
 have mono:∀d i,i+d+1<l.length+0→l.getD i 0<l.getD (i+d+1) 0:=by
  intro d;induction d with
  |zero=>intro i hi;exact(h2 (i+1) (by omega)).2.2 (by omega)
  | succ d ih =>
    intro i hi;have a:=ih i (by omega);have b:=(h2 (i+(d+1)+1) (by omega)).2.2 (by omega);exact Int.lt_trans a b
 refine⟨fun x hx=>?_,List.pairwise_iff_getElem.2 fun i j hi hj hij=>?_⟩
 ·obtain⟨k,hk,rfl⟩:=List.getElem_of_mem hx;have:=h2 k hk;rw[List.getD_eq_getElem?_getD,List.getElem?_eq_getElem hk]at this;exact⟨this.1,this.2.1⟩
 ·have:=mono (j-i-1) i (by omega);rw[show i+(j-i-1)+1=j by omega,List.getD_eq_getElem?_getD,List.getD_eq_getElem?_getD,List.getElem?_eq_getElem hi,List.getElem?_eq_getElem hj]at this;exact this
theorem ML_{l:List Int}{n:Int}(h:As_ l n)(hl:l≠[]):cd_ l n=0:=by
 have key:∀k i,i+k=l.length→jF_ l n i=0:=by
  intro k;induction k with
  |zero=>intro i hi;exact nH_ (by omega)
  | succ k ih =>
    intro i hi;have hil:i<l.length:=by omega
    rw[jf_ hil];have h1:=h.1 (l.getD i 0) (bH_ 0 hil);rw[if_neg (by omega),if_neg]
    ·exact ih (i+1) (by omega)
    ·rintro⟨h2,h3⟩;have:=List.pairwise_iff_getElem.1 h.2 (i-1) i (by omega) hil (by omega);rw[List.getD_eq_getElem?_getD,List.getD_eq_getElem?_getD,List.getElem?_eq_getElem hil,List.getElem?_eq_getElem (by omega)]at h3;exact absurd this (by simpa using h3)
 unfold cd_;rw[if_neg hl];exact key l.length 0 (by omega)
theorem As_.ins{l:List Int}{n:Int}(h:As_ l n){v:Int}(hv:0≤v∧v<n):As_ (ji_ l v) n:=
 ⟨fun x hx=>((qJ_ v x l).1 hx).elim (fun e=>e▸hv) fun hx=>h.1 x hx,sC_ v l h.2⟩
theorem OB_{l m:List Int}{n:Int}(h:∀x∈l,0≤x∧x<n)(i:Nat):∀x∈fp_ l m i,0≤x∧x<n:=by
 unfold fp_
 have key:∀ (k a:List Int),(∀x∈k,0≤x∧x<n)→(∀x∈a,0≤x∧x<n)→∀x∈k.foldl (fun a v=>if v∈m then ji_ a v else a) a,0≤x∧x<n:=by
  intro k;induction k with
  |nil=>intro a _ ha;exact ha
  | cons y k ih =>
    intro a hk ha;rw[List.foldl_cons];refine ih _ (fun x hx=>hk x (List.mem_cons_of_mem _ hx)) ?_;split
    ·intro x hx;rcases (qJ_ y x a).1 hx with e|e
     ·rw[e];exact hk y (List.mem_cons_self ..)
     ·exact ha x e
    ·exact ha
 exact key _ _ (fun x hx=>h x (List.mem_of_mem_take hx)) (by simp)
theorem Ph_{set l:List Int}{n:Int}(h:As_ set n)(hl:∀x∈l,0≤x∧x<n):As_ (tz_ set l) n:=by
 refine dG_ (f:=vW_ l) (a:=set) (fun _ o=>As_ o n) h l.length (fun i o hi ho=>?_) _ (Nat.le_refl _);exact ho.ins (hl _ (bH_ 0 hi))
theorem StV.slash{s:ah_}(h:StV s){x:dl_}(h2:(eI_ s x).2=0):StV (eI_ s x).1:=by
 unfold eI_ at *;split at h2
 ·rename_i h3;exact absurd h2 h3
 ·rename_i h3
  rw[if_neg h3];split at h2
  ·simp at h2
  ·rename_i h4
   rw[if_neg h4];have he:evE x.a x.fst.vals x.snd.vals s.cfg.bals.length=0:=by simpa using h3
   have hv:cd_ x.fst.vals s.cfg.bals.length=0:=by
    unfold evE at he;split at he
    ·rename_i h5;exact absurd he h5
    ·rename_i h5;simpa using h5
   obtain⟨w,op⟩:=h
   have hset:As_ s.eqv s.cfg.bals.length:=by
    rcases w.qv with h5|h5
    ·rw[h5];exact⟨by simp,by simp⟩
    ·exact Ff_ h5
   have hq:=Ph_ hset (OB_ (Ff_ hv).1 (m:=x.snd.vals) x.fst.vals.length)
   have hq2:tz_ s.eqv (fp_ x.fst.vals x.snd.vals x.fst.vals.length)=[]∨cd_ (tz_ s.eqv (fp_ x.fst.vals x.snd.vals x.fst.vals.length)) s.cfg.bals.length=0:=by
    by_cases h5:tz_ s.eqv (fp_ x.fst.vals x.snd.vals x.fst.vals.length)=[]
    ·exact .inl h5
    ·exact .inr (ML_ hq h5)
   exact⟨⟨w.ne,w.tree,w.z1,w.z2,w.z3,w.z4,w.fr,w.jf,w.ji,w.fj,w.tj,w.tv,w.ll,w.lv,hq2,w.bo,w.nm,w.je,w.ea,w.nd,w.av,fun b hb=>⟨(w.ob b hb).rt,(w.ob b hb).un,(w.ob b hb).ti,(w.ob b hb).nw,(w.ob b hb).ol⟩,w.od⟩,op⟩
structure Qv_(s:ah_)(b:Blk):Prop where
 root:b.root≠rt0
 kn:gL_ s b.root=false
 now:b.slot≤s.now
 old:(bw_ s s.f.ep).1<b.slot
 par:0≤af_ s.nodes b.parent
 slot:(nod s.nodes (af_ s.nodes b.parent).toNat).blk.slot<b.slot
 st:(nod s.nodes (af_ s.nodes b.parent).toNat).status≠2
 fit:qD_ s b=true
 mrg:vj_ s.cfg.ttd (nod s.nodes (af_ s.nodes b.parent).toNat).blk b=true
 lim:(s.nodes.length:Int)<s.cfg.lim.node
theorem Da_{s:ah_}{b:Blk}(h:bC_ s b=0):Qv_ s b:=by
 unfold bC_ at h;by_cases q1:b.root=rt0
 ·rw[if_pos q1]at h;cases h
 rw[if_neg q1]at h;by_cases q2:gL_ s b.root=true
 ·rw[if_pos q2]at h;cases h
 rw[if_neg q2]at h;by_cases q3:s.now<b.slot
 ·rw[if_pos q3]at h;cases h
 rw[if_neg q3]at h;by_cases q4:b.slot≤(bw_ s s.f.ep).1
 ·rw[if_pos q4]at h;cases h
 rw[if_neg q4]at h;by_cases q5:af_ s.nodes b.parent<0
 ·rw[if_pos q5]at h;cases h
 rw[if_neg q5]at h;by_cases q6:b.slot≤(nod s.nodes (af_ s.nodes b.parent).toNat).blk.slot
 ·rw[if_pos q6]at h;cases h
 rw[if_neg q6]at h;by_cases q7:(nod s.nodes (af_ s.nodes b.parent).toNat).status=2
 ·rw[if_pos q7]at h;cases h
 rw[if_neg q7]at h;by_cases q8:qD_ s b=false
 ·rw[if_pos q8]at h;cases h
 rw[if_neg q8]at h;by_cases q9:vj_ s.cfg.ttd (nod s.nodes (af_ s.nodes b.parent).toNat).blk b=false
 ·rw[if_pos q9]at h;cases h
 rw[if_neg q9]at h;by_cases q10:s.cfg.lim.node≤s.nodes.length
 ·rw[if_pos q10]at h;cases h
 exact⟨q1,by simpa using q2,by omega,by omega,by omega,by omega,q7,by simpa using q8,by simpa using q9,by omega⟩
structure Rs_(s:ah_)(b:Blk):Prop where
 root:b.root≠rt0
 kn:gL_ s b.root=false
 now:b.slot≤s.now
 old:(bw_ s s.f.ep).1<b.slot
 par:af_ s.nodes b.parent<0
theorem Jj_{s:ah_}{b:Blk}(h:bC_ s b=10):Rs_ s b:=by
 unfold bC_ at h;by_cases q1:b.root=rt0
 ·rw[if_pos q1]at h;cases h
 rw[if_neg q1]at h;by_cases q2:gL_ s b.root=true
 ·rw[if_pos q2]at h;cases h
 rw[if_neg q2]at h;by_cases q3:s.now<b.slot
 ·rw[if_pos q3]at h;cases h
 rw[if_neg q3]at h;by_cases q4:b.slot≤(bw_ s s.f.ep).1
 ·rw[if_pos q4]at h;cases h
 rw[if_neg q4]at h;by_cases q5:af_ s.nodes b.parent<0
 ·exact⟨q1,by simpa using q2,by omega,by omega,q5⟩
 rw[if_neg q5]at h;(repeat' split at h)<;>cases h
theorem DZ_{s:ah_}{r:Rt}(h:gL_ s r=false):af_ s.nodes r<0∧∀b∈s.orph,b.root≠r:=by
 unfold gL_ at h;rw[Bool.or_eq_false_iff]at h;obtain⟨h1,h2⟩:=h;refine⟨by have:=of_decide_eq_false h2;omega,fun b hb he=>?_⟩;cases hf:bD_ (fun i=>decide ((bF_ s.orph i).root=r)) s.orph.length with
 | none =>
   obtain⟨k,hk,hke⟩:=List.getElem_of_mem hb;have:=of_decide_eq_false (ei_ hf k hk);unfold bF_ at this;rw[List.getD_eq_getElem?_getD,List.getElem?_eq_getElem hk]at this;have h3:(s.orph[k]).root≠r:=this;rw[hke]at h3;exact h3 he
 |some k=>rw[hf]at h1;cases h1
theorem JD_{t:List Nod}(n:Nod){r:Rt}(h:0≤af_ t r):af_ (t++[n]) r=af_ t r:=by
 obtain⟨h1,h2⟩:=cn_ h;have h3:=rL_ (n:=n) h;obtain⟨h4,h5⟩:=cn_ h3;unfold af_ at h h3 h1 h4 ⊢;cases ha:bD_ (fun i=>decide ((nod t i).blk.root=r)) t.length with
 |none=>rw[ha,fQ_]at h;exact absurd h (by decide)
 | some a =>
   cases hb:bD_ (fun i=>decide ((nod (t++[n]) i).blk.root=r)) (t++[n]).length with
   |none=>rw[hb,fQ_]at h3;exact absurd h3 (by decide)
   | some b =>
     obtain⟨a1,a2,a3⟩:=cD_ ha;obtain⟨b1,b2,b3⟩:=cD_ hb;rw[dP_,dP_]
     have hle:b≤a:=by
      rcases Nat.lt_or_ge a b with hlt|hge
      ·have:=b3 a hlt;rw[cU_,if_pos a1]at this;rw[this]at a2;cases a2
      ·exact hge
     have hge:a≤b:=by
      rcases Nat.lt_or_ge b a with hlt|hge
      ·have:=a3 b hlt;rw[cU_,if_pos (by omega)]at b2;rw[this]at b2;cases b2
      ·exact hge
     omega
theorem StW.insN{s:ah_}(h:StW s){b:Blk}(hc:Qv_ s b):StW (ck_ s (s.nodes++[⟨b,af_ s.nodes b.parent,bA_ b⟩])):=by
 obtain⟨p1,p2⟩:=cn_ hc.par;obtain⟨k1,k2⟩:=DZ_ hc.kn;have hy:b.payload=rt0→bA_ b=1:=fun hh=>by unfold bA_;rw[if_pos hh]
 have hv:bA_ b=1→(nod s.nodes (af_ s.nodes b.parent).toNat).status=1:=fun hh=>by
  have h1:b.payload=rt0:=by
   unfold bA_ at hh;split at hh
   ·assumption
   ·cases hh
  have h2:=hc.mrg;unfold vj_ at h2;rw[if_pos h1]at h2;exact h.tree.py _ p1 (of_decide_eq_true h2)
 have tr:=h.tree.snoc (n:=⟨b,af_ s.nodes b.parent,bA_ b⟩) hc.par (by show af_ s.nodes b.parent<_;omega) (EQ_ b) (fun i hi=>(qS_.1 k1) _ (qR_ hi)) p2.symm hc.slot hv hc.st hy;have n0:nod (s.nodes++[⟨b,af_ s.nodes b.parent,bA_ b⟩]) 0=nod s.nodes 0:=by rw[cU_,if_pos h.tree.pos]
 have hjf:=JD_ ⟨b,af_ s.nodes b.parent,bA_ b⟩ h.jf;refine⟨h.ne,tr,?_,h.z2,h.z3,h.z4,?_,?_,?_,h.fj,h.tj,h.tv,h.ll,h.lv,h.qv,?_,h.nm,h.je,⟨h.ea.1,?_⟩,fun n hn=>?_,h.av,fun x hx=>?_,h.od⟩
 ·have:=hc.lim;show (((s.nodes++[_]).length:Nat):Int)≤s.cfg.lim.node
  rw[List.length_append,List.length_singleton];omega
 ·show (nod (s.nodes++[_]) 0).blk.root=s.f.rt
  rw[n0];exact h.fr
 ·show 0≤af_ (s.nodes++[_]) s.j.rt
  rw[hjf];exact h.jf
 ·show (nod (s.nodes++[_]) (af_ (s.nodes++[_]) s.j.rt).toNat).status≠2
  rw[hjf,cU_,if_pos (cn_ h.jf).1];exact h.ji
 ·rcases h.bo with h1|h1
  ·exact .inl h1
  ·exact .inr (rL_ h1)
 ·show (nod (s.nodes++[_]) 0).blk.slot≤_
  rw[n0];exact h.ea.2
 ·rcases List.mem_append.1 hn with hn|hn
  ·exact h.nd n hn
  ·rw[List.mem_singleton]at hn;subst hn;have h1:=hc.fit;unfold qD_ at h1;simp only[Bool.and_eq_true]at h1;exact⟨hc.now,h1.2.1⟩
 ·obtain⟨a1,a2,a3,a4,a5⟩:=h.ob x hx
  refine⟨a1,?_,a3,a4,a5⟩;rw[qS_]at a2 ⊢;intro n hn;rcases List.mem_append.1 hn with hn|hn
  ·exact a2 n hn
  ·rw[List.mem_singleton]at hn;subst hn;exact fun he=>k2 x hx he.symm
theorem HO_{s:ah_}{i:Nat}(hI:aK_ s i){b:Blk}(hc:bC_ s b=0):(dQ_ s.nodes b (bA_ b)).1=s.nodes++[⟨b,af_ s.nodes b.parent,bA_ b⟩]:=(Bw_ (HP_ (yY_ hc) (by have:=hI.cfg.ln;omega))).1
theorem StW.ins{s:ah_}{i:Nat}(h:StW s)(hI:aK_ s i){b:Blk}(hc:bC_ s b=0)(hb:hF_ i b):StW (gq_ s b):=by
 have h0:=hI.insN hc hb;have h1:StW (ck_ s (dQ_ s.nodes b (bA_ b)).1):=by rw[HO_ hI hc];exact h.insN (Da_ hc)
 unfold gq_;split
 ·exact(h1.upd h0 hb.just hb.fin).upd (h0.upd hb.just hb.fin) hb.j hb.f
 ·exact h1.upd h0 hb.just hb.fin
theorem StW.withO{s:ah_}(h:StW s){l:List Blk}(hl:l.Sublist s.orph):StW (Go.FH.withO s l):=by
 have hle:=hl.length_le;exact⟨h.ne,h.tree,h.z1,by have:=h.z2;show (l.length:Int)≤s.cfg.lim.orph;omega,h.z3,h.z4,h.fr,h.jf,h.ji,h.fj,h.tj,h.tv,h.ll,h.lv,h.qv,h.bo,h.nm,h.je,h.ea,h.nd,h.av,fun b hb=>⟨(h.ob b (hl.subset hb)).rt,(h.ob b (hl.subset hb)).un,(h.ob b (hl.subset hb)).ti,(h.ob b (hl.subset hb)).nw,(h.ob b (hl.subset hb)).ol⟩,h.od.sublist hl⟩
theorem Lf_(l:List Blk)(i:Nat):(takeO l i).Sublist l:=by
 unfold takeO;have h:=List.take_append_drop i l;conv=>rhs;rw[←h]
 refine List.Sublist.append (List.Sublist.refl _) ?_;rw[←List.drop_drop];exact List.drop_sublist _ _
theorem StW.waitR{p:ah_×List Rt}{i:Nat}(h:StW p.1)(hI:aK_ p.1 i)(h0:0≤by_ p.1):StW (waitR p).1:=by
 have h1:=no_ p.1;have h2:=h.withO (Lf_ p.1.orph (by_ p.1).toNat);have hI2:=hI.takeO (by_ p.1).toNat
 unfold Go.Proofs.YtkgimpdgncakjaaGreat.waitR;split
 ·rename_i hc;exact h2.ins hI2 hc (hI.uo _ (bH_ _ (by omega)))
 ·exact h2
theorem ME_(s:ah_)(b:Blk):(gq_ s b).orph.length≤s.orph.length:=by
 unfold gq_;split
 ·exact Nat.le_trans (je_ _ _ _).1 (je_ _ _ _).1
 ·exact(je_ _ _ _).1
theorem Lx_{p:ah_×List Rt}(h0:0≤by_ p.1):(waitR p).1.orph.length<p.1.orph.length:=by
 have h1:=no_ p.1;have h2:=Ak_ p.1.orph (i:=(by_ p.1).toNat) (by omega);unfold waitR;split
 ·have:=ME_ (withO p.1 (takeO p.1.orph (by_ p.1).toNat)) (bF_ p.1.orph (by_ p.1).toNat);have h3:(withO p.1 (takeO p.1.orph (by_ p.1).toNat)).orph=takeO p.1.orph (by_ p.1).toNat:=rfl;rw[h3]at this;dsimp only;omega
 ·show (takeO p.1.orph (by_ p.1).toNat).length<_
  omega
theorem StW.waitG{i:Nat}:∀ (f:Nat) {p:ah_×List Rt},StW p.1→aK_ p.1 i→p.1.orph.length<f→StW (waitG f p).1∧by_ (waitG f p).1<0
 |0,_,_,_,h=>by omega
 | f + 1, p, h, hI, hf => by
   unfold Go.Proofs.YtkgimpdgncakjaaGreat.waitG;split
   ·rename_i h0;exact⟨h,h0⟩
   ·rename_i h0;have h0:0≤by_ p.1:=by omega
    exact StW.waitG f (h.waitR hI h0) (hI.waitR h0) (by have:=Lx_ h0;omega)
theorem Qd_{s:ah_}(h:by_ s<0):∀b∈s.orph,af_ s.nodes b.parent<0:=by
 intro b hb;unfold by_ at h;cases hf:bD_ (fun i=>decide (0≤af_ s.nodes (bF_ s.orph i).parent)) s.orph.length with
 |some k=>rw[hf,dP_]at h;omega
 | none =>
   obtain⟨k,hk,hke⟩:=List.getElem_of_mem hb;have:=of_decide_eq_false (ei_ hf k hk);unfold bF_ at this;rw[List.getD_eq_getElem?_getD,List.getElem?_eq_getElem hk]at this;have h3:¬0≤af_ s.nodes (s.orph[k]).parent:=this;rw[hke]at h3;omega
theorem zK_{t:List Nod}{n:Nod}(ht:bG_ t)(hu:bG_ (t++[n])):∀m i:Nat,i<m→i<t.length→bc_ (t++[n]) i=bc_ t i
 |0,_,h,_=>by omega
 | m + 1, i, hm, hi => by
   have hl:i<(t++[n]).length:=by simp;omega
   rcases Nat.eq_zero_or_pos i with hz|hz
   ·subst hz;rw[show ((0:Nat):Int)=0 from rfl,eS_ hi,eS_ hl]
   ·have e:(nod (t++[n]) i).up=(nod t i).up:=by rw[cU_,if_pos hi]
    obtain⟨v0,v1⟩:=ht.ok i hz hi;obtain⟨v,hv⟩:∃v:Nat,(nod t i).up=v:=⟨_,(Int.toNat_of_nonneg v0).symm⟩
    rw[eT_ hu.ok hz hl,eT_ ht.ok hz hi,e,hv,zK_ ht hu m v (by omega) (by omega)]
theorem Op_{t:List Nod}{n:Nod}(ht:bG_ t)(hu:bG_ (t++[n]))(h0:0≤n.up)(h1:n.up<t.length){m:Int}(hm:m∈bc_ t n.up):bN_ (t++[n]) m t.length=true:=by
 have hl:t.length<(t++[n]).length:=by simp
 have e:(nod (t++[n]) t.length).up=n.up:=by rw[cU_,if_neg (Nat.lt_irrefl _),if_pos rfl]
 obtain⟨v,hv⟩:∃v:Nat,n.up=v:=⟨_,(Int.toNat_of_nonneg h0).symm⟩
 unfold bN_;rw[eT_ hu.ok ht.pos hl,e,hv,zK_ ht hu (v+1) v (by omega) (by omega),←hv];exact decide_eq_true (List.mem_append_left _ hm)
theorem kC_.inj{t u:List Nod}{i0:Nat}{ms:List Nat}(p:kC_ t i0 u ms){a k:Nat}(ha:a<u.length)(hk:k<u.length)(h:ms.getD a 0=ms.getD k 0):a=k:=by
 rcases Nat.lt_trichotomy a k with h1|h1|h1
 ·have:=p.mono a k h1 hk;omega
 ·exact h1
 ·have:=p.mono k a h1 ha;omega
theorem kC_.anc{t u:List Nod}{i0:Nat}{ms:List Nat}(ht:bG_ t)(hu:bG_ u)(p:kC_ t i0 u ms):∀m k a,k<m→a<u.length→k<u.length→bN_ t (ms.getD a 0) (ms.getD k 0)=true→bN_ u a k=true
 |0,k,a,h,_,_,_=>by omega
 | m + 1, k, a, hkm, ha, hk, h => by
   by_cases he:ms.getD a 0=ms.getD k 0
   ·obtain rfl:=p.inj ha hk he;exact iq_ hu hk
   ·have hkt:=(p.src k hk).1
    obtain⟨h0,h1⟩:=Ay_ ht hkt h (by omega)
    have hk0:0<k:=by
     rcases Nat.eq_zero_or_pos k with hz|hz
     ·subst hz;have b1:=tS_ ht h;have b2:=tS_ ht (p.src a ha).2.1;rw[p.zero.1]at b1 he;omega
     ·exact hz
    obtain⟨b0,b1,b2,b3⟩:=p.up k hk0 hk;obtain⟨c0,c1⟩:=ht.ok _ h0 hkt;have hup:(((nod u k).up.toNat:Nat):Int)=(nod u k).up:=Int.toNat_of_nonneg b1;have ih:=kC_.anc ht hu p m (nod u k).up.toNat a (by omega) ha (by omega) (by rw[b3,Int.toNat_of_nonneg c0];exact h1);rw[hup]at ih;exact CT_ hu hk0 hk ih
def jH_(u:List Nod)(r r':Rt):Prop:=0≤af_ u r'∧(0≤af_ u r→bN_ u (af_ u r) (af_ u r')=true)
theorem nu_{t:List Nod}(h:TrV t){k:Nat}(hk:k<t.length){r:Rt}(hr:(nod t k).blk.root=r):af_ t r=k:=by
 have h1:=fO_ hk hr;obtain⟨h2,h3⟩:=cn_ h1;rcases Nat.lt_trichotomy k (af_ t r).toNat with h4|h4|h4
 ·exact absurd (hr.trans h3.symm) (h.ds _ _ h4 h2)
 ·omega
 ·exact absurd (h3.trans hr.symm) (h.ds _ _ h4 hk)
theorem Fc_{s:ah_}(h:StW s){j f:Cp}{r':Rt}(hin:0≤af_ s.nodes r')(hp:s.f.ep<f.ep→jH_ s.nodes f.rt r'):0≤af_ (ch_ s j f).nodes r'∧∀r,jH_ s.nodes r r'→jH_ (ch_ s j f).nodes r r':=by
 unfold ch_;by_cases hm:kV_ s (cf_ s.j j) (cf_ s.f f)=false
 ·rw[if_pos hm];exact⟨hin,fun r hr=>hr⟩
 rw[if_neg hm];have m:=RH_ hm;by_cases hb:cf_ s.f f=s.f
 ·rw[if_pos hb];exact⟨hin,fun r hr=>hr⟩
 rw[if_neg hb]
 have hlt:s.f.ep<f.ep:=by
  unfold cf_ at hb;split at hb
  ·assumption
  ·exact absurd rfl hb
 have hbf:cf_ s.f f=f:=by unfold cf_;rw[if_pos hlt]
 rw[hbf]at m ⊢;obtain⟨k1,k2⟩:=cn_ m.k0;obtain⟨ms,p⟩:=BE_ h.tree.r k1;have hK:(((af_ s.nodes f.rt).toNat:Nat):Int)=af_ s.nodes f.rt:=Int.toNat_of_nonneg m.k0;have htr:=h.tree.prune k1;rw[hK]at p htr;have hr':=nd_ h.tree.r hin ((hp hlt).2 m.k0);show 0≤af_ (ce_ s.nodes (af_ s.nodes f.rt)).1 r'∧∀r,jH_ s.nodes r r'→jH_ (ce_ s.nodes (af_ s.nodes f.rt)).1 r r'
 generalize (ce_ s.nodes (af_ s.nodes f.rt)).1=u at *;refine⟨hr',fun r hr=>⟨hr',fun h0=>?_⟩⟩;obtain⟨a1,a2⟩:=cn_ h0;obtain⟨b1,b2⟩:=cn_ hr';have e1:=nu_ h.tree (p.src _ a1).1 (r:=r) (by rw[← (p.src _ a1).2.2.1];exact a2);have e2:=nu_ h.tree (p.src _ b1).1 (r:=r') (by rw[← (p.src _ b1).2.2.1];exact b2);have h3:=hr.2 (by rw[e1];omega);rw[e1,e2]at h3;have:=p.anc h.tree.r htr.r _ _ _ (Nat.lt_succ_self _) a1 b1 h3;rwa [Int.toNat_of_nonneg h0,Int.toNat_of_nonneg hr']at this
theorem LK_(t:List Nod)(i slot:Int):atT t i slot=-1∨atT t i slot∈bc_ t i:=by
 unfold atT;refine dG_ (f:=fun k at_=>if (nod t ((bc_ t i).getD k 0).toNat).blk.slot≤slot then (bc_ t i).getD k 0 else at_) (a:=(-1:Int)) (fun _ x=>x=-1∨x∈bc_ t i) (.inl rfl) (bc_ t i).length (fun k x hk hx=>?_) _ (Nat.le_refl _);split
 ·exact .inr (bH_ _ hk)
 ·exact hx
theorem DT_{s:ah_}(h:StW s){b:Blk}(hc:Qv_ s b){c:Cp}(hcs:ks_ s b (af_ s.nodes b.parent) c=true)(hlt:s.f.ep<c.ep):jH_ (s.nodes++[⟨b,af_ s.nodes b.parent,bA_ b⟩]) c.rt b.root:=by
 have hN:=h.insN hc;have tr:TrV (s.nodes++[⟨b,af_ s.nodes b.parent,bA_ b⟩]):=hN.tree;obtain⟨p1,p2⟩:=cn_ hc.par;have hl:s.nodes.length<(s.nodes++[(⟨b,af_ s.nodes b.parent,bA_ b⟩:Nod)]).length:=by simp
 have hnew:nod (s.nodes++[(⟨b,af_ s.nodes b.parent,bA_ b⟩:Nod)]) s.nodes.length=⟨b,af_ s.nodes b.parent,bA_ b⟩:=by rw[cU_,if_neg (Nat.lt_irrefl _),if_pos rfl]
 have hB:=nu_ tr hl (r:=b.root) (by rw[hnew]);refine⟨by rw[hB];omega,fun h0=>?_⟩;rw[hB];unfold ks_ at hcs;rw[decide_eq_false (by omega),Bool.false_or]at hcs;by_cases q:(bw_ s c.ep).1<b.slot
 ·rw[if_pos q,Bool.and_eq_true,decide_eq_true_eq,decide_eq_true_eq]at hcs;obtain⟨h1,h2⟩:=hcs;have h3:=(LK_ s.nodes (af_ s.nodes b.parent) (bw_ s c.ep).1).resolve_left (by omega);have h4:=dv_ h.tree.r.ok h3;have h5:(atT s.nodes (af_ s.nodes b.parent) (bw_ s c.ep).1).toNat<s.nodes.length:=by omega
  have hC:=nu_ tr (k:=(atT s.nodes (af_ s.nodes b.parent) (bw_ s c.ep).1).toNat) (by omega) (r:=c.rt) (by rw[cU_,if_pos h5];exact h2);rw[hC,Int.toNat_of_nonneg h1];exact Op_ (n:=⟨b,af_ s.nodes b.parent,bA_ b⟩) h.tree.r tr.r hc.par (by show af_ s.nodes b.parent<_;omega) h3
 ·rw[if_neg q]at hcs;have h1:b.root=c.rt:=of_decide_eq_true hcs;rw[←h1,hB];exact iq_ tr.r hl
theorem QL_{s:ah_}{b:Blk}(h:qD_ s b=true):ks_ s b (af_ s.nodes b.parent) b.fin=true∧ks_ s b (af_ s.nodes b.parent) b.pul.f=true:=by
 unfold qD_ at h;simp only[Bool.and_eq_true]at h;obtain⟨_,_,h⟩:=h;cases hf:bD_ (fun k=>!ks_ s b (af_ s.nodes b.parent) ((cps b).getD k cp0)) 4 with
 |some k=>rw[hf]at h;cases h
 | none =>
   have h1:=ei_ hf 1 (by decide);have h3:=ei_ hf 3 (by decide);simp only[Bool.not_eq_false']at h1 h3;exact⟨h1,h3⟩
theorem JR_{s:ah_}{i:Nat}(h:StW s)(hI:aK_ s i){b:Blk}(hc:bC_ s b=0)(hb:hF_ i b):0≤af_ (gq_ s b).nodes b.root:=by
 have hv:=Da_ hc;obtain⟨f1,f2⟩:=QL_ hv.fit;have h0:=hI.insN hc hb;have e0:=HO_ hI hc;have h1:StW (ck_ s (dQ_ s.nodes b (bA_ b)).1):=by rw[e0];exact h.insN hv
 have p1:s.f.ep<b.fin.ep→jH_ (ck_ s (dQ_ s.nodes b (bA_ b)).1).nodes b.fin.rt b.root:=fun hl=>by
  show jH_ (dQ_ s.nodes b (bA_ b)).1 _ _
  rw[e0];exact DT_ h hv f1 hl
 have p2:s.f.ep<b.pul.f.ep→jH_ (ck_ s (dQ_ s.nodes b (bA_ b)).1).nodes b.pul.f.rt b.root:=fun hl=>by
  show jH_ (dQ_ s.nodes b (bA_ b)).1 _ _
  rw[e0];exact DT_ h hv f2 hl
 have hin:0≤af_ (ck_ s (dQ_ s.nodes b (bA_ b)).1).nodes b.root:=by
  show 0≤af_ (dQ_ s.nodes b (bA_ b)).1 b.root
  rw[e0];exact fO_ (k:=s.nodes.length) (by simp) (by rw[cU_,if_neg (Nat.lt_irrefl _),if_pos rfl])
 have hf:(ck_ s (dQ_ s.nodes b (bA_ b)).1).f=s.f:=rfl;have u1:=Fc_ h1 (j:=b.just) (f:=b.fin) hin (by rw[hf];exact p1)
 have hfe:s.f.ep≤(ch_ (ck_ s (dQ_ s.nodes b (bA_ b)).1) b.just b.fin).f.ep:=by
  unfold ch_;split
  ·exact Int.le_refl _
  ·split
   ·show s.f.ep≤(cf_ s.f b.fin).ep
    unfold cf_;split<;>omega
   ·show s.f.ep≤(cf_ s.f b.fin).ep
    unfold cf_;split<;>omega
 unfold gq_;generalize ck_ s (dQ_ s.nodes b (bA_ b)).1=s1 at *;split
 ·exact(Fc_ (h1.upd h0 hb.just hb.fin) u1.1 (fun hl=>u1.2 _ (p2 (by omega)))).1
 ·exact u1.1
theorem StW.withB{s:ah_}(h:StW s){r:Rt}(hr:r=rt0∨0≤af_ s.nodes r):StW (Go.FH.withB s r):=
 ⟨h.ne,h.tree,h.z1,h.z2,h.z3,h.z4,h.fr,h.jf,h.ji,h.fj,h.tj,h.tv,h.ll,h.lv,h.qv,hr,h.nm,h.je,h.ea,h.nd,h.av,fun b hb=>⟨(h.ob b hb).rt,(h.ob b hb).un,(h.ob b hb).ti,(h.ob b hb).nw,(h.ob b hb).ol⟩,h.od⟩
theorem StV.block{s:ah_}{i:Nat}(h:StV s)(hI:aK_ s i){b:Blk}(hb:hF_ i b)(h2:(co_ s b).2.2=0):StV (co_ s b).1:=by
 unfold co_ at *;by_cases h3:bC_ s b=10
 ·rw [if_pos h3] at h2 ⊢
  by_cases h4:s.cfg.lim.orph≤s.orph.length
  ·rw[if_pos h4]at h2;cases h2
  ·rw [if_neg h4]
   have c:=Jj_ h3;obtain⟨k1,k2⟩:=DZ_ c.kn;obtain⟨w,op⟩:=h;refine⟨⟨w.ne,w.tree,w.z1,?_,w.z3,w.z4,w.fr,w.jf,w.ji,w.fj,w.tj,w.tv,w.ll,w.lv,w.qv,w.bo,w.nm,w.je,w.ea,w.nd,w.av,fun x hx=>?_,?_⟩,fun x hx=>?_⟩
   ·show (((s.orph++[noT b]).length:Nat):Int)≤s.cfg.lim.orph
    rw[List.length_append,List.length_singleton];omega
   ·rcases List.mem_append.1 hx with hx|hx
    ·obtain⟨a1,a2,a3,a4,a5⟩:=w.ob x hx;exact⟨a1,a2,a3,a4,a5⟩
    ·rw[List.mem_singleton]at hx;subst hx;exact⟨c.root,k1,rfl,c.now,c.old⟩
   ·show (s.orph++[noT b]).Pairwise _
    rw[List.pairwise_append];refine⟨w.od,by simp,fun x hx y hy=>?_⟩;rw[List.mem_singleton]at hy;subst hy;exact k2 x hx
   ·rcases List.mem_append.1 hx with hx|hx
    ·exact op x hx
    ·rw[List.mem_singleton]at hx;subst hx;exact c.par
 ·rw [if_neg h3] at h2 ⊢
  by_cases h4:bC_ s b≠0
  ·rw[if_pos h4]at h2;exact absurd h2 h4
  ·rw[if_neg h4]
   have h4:bC_ s b=0:=by simpa using h4
   have hw:StW (blockI s b):=by
    unfold blockI;split
    ·exact(h.w.ins hI h4 hb).withB (.inr (JR_ h.w hI h4 hb))
    ·exact h.w.ins hI h4 hb
   obtain⟨g1,g2⟩:=StW.waitG ((blockI s b).orph.length+1) (p:=(blockI s b,[b.root])) hw (hI.blockI h4 hb) (Nat.lt_succ_self _);exact⟨g1,Qd_ g2⟩
end Go.Proofs.YtkgimpdgncakjaaGreat
