/- Joined. -/
import Derived.Test.YtmpddimhleianaaGreatV7
import Derived.Test.YtmpddimhleianaaGreatV5
import Derived.Test.YtmpddimhleianaaGreatP1
import Derived.Test.YtmpddimhleianaaGreatT1
set_option linter.unusedVariables false
set_option linter.unusedSimpArgs false
namespace Go.Proofs.YtmpddimhleianaaGreat
open Go Go.FH Go.RowKit
structure TrV(t:List Nod):Prop where
 pos:0<t.length
 st:∀i,i<t.length->0<=(nod t i).status/\(nod t i).status<=2
 r0:(nod t 0).up=-1
 up:∀i,0<i->i<t.length->0<=(nod t i).up/\(nod t i).up<i
 ds:∀i j,i<j->j<t.length->(nod t i).blk.root≠(nod t j).blk.root
 pr:∀i,0<i->i<t.length->(nod t i).blk.parent=(nod t (nod t i).up.toNat).blk.root
 sl:∀i,0<i->i<t.length->(nod t (nod t i).up.toNat).blk.slot<(nod t i).blk.slot
 va:∀i,0<i->i<t.length->(nod t i).status=1->(nod t (nod t i).up.toNat).status=1
 iv:∀i,0<i->i<t.length->(nod t (nod t i).up.toNat).status=2->(nod t i).status=2
 py:∀i,i<t.length->(nod t i).blk.payload=rt0->(nod t i).status=1
theorem TrV.r{t:List Nod}(h:TrV t):dU t:=⟨h.up,h.pos,by rw[h.r0];simp⟩
theorem TrV.statV{t:List Nod}(h:TrV t)(m:t.length<=4096):statV t=0:=by
 have c:nU t=0:=by
  unfold nU;rw[al5 (by have:=h.pos;omega)];refine sJ.2 fun i _ a=>?_
  have a:i<t.length:=WL
  unfold An;rw[al5 (by have:=h.st i a;omega),al5 (fun b=>b.2 (by rw[b.1];exact h.r0)),al5 (fun b=>by have:=h.up i b.1 a;omega)]
  rw[al5 (fun g=>by
   obtain⟨n,f,j⟩:=amV.1 g;obtain⟨k,o,e⟩:=ajt.1 f;refine h.ds k i WL a ?_;rw[<-j,<-e];unfold nod;rw[alt,al6 WL];rfl)]
  by_cases l:i=0
  ·omega
  ·rw[al5 l,al5 (fun b=>b (h.pr i WL a)),al5 (by have:=h.sl i WL a;omega)]
 unfold Go.FH.statV;rw[al5 WL];refine sJ.2 fun i _ a=>?_
 have a:i+1<t.length:=WL
 unfold ej;rw[al5];rintro (⟨c,d⟩|⟨c,d⟩)
 ·exact d (h.va (i+1) WL a c)
 ·exact d (h.iv (i+1) WL a c)
theorem TrV.snoc{t:List Nod}(h:TrV t){n:Nod}(u0:0<=n.up)(u1:n.up<t.length)(hs:0<=n.status/\n.status<=2)(hd:∀i,i<t.length->(nod t i).blk.root≠n.blk.root)(hp:n.blk.parent=(nod t n.up.toNat).blk.root)
 (hl:(nod t n.up.toNat).blk.slot<n.blk.slot) (hv:n.status=1->(nod t n.up.toNat).status=1) (hi:(nod t n.up.toNat).status≠2) (hy:n.blk.payload=rt0->n.status=1):TrV (t++[n]):=by
 have hln:(t++[n]).length=t.length+1:=WM
 have old:∀i,i<t.length->nod (t++[n]) i=nod t i:=fun i hi=>by rw[eO,al7 hi]
 have new:nod (t++[n]) t.length=n:=by rw[eO,al5 (aj3 _),al7 rfl]
 have cs:∀i,i<(t++[n]).length->i<t.length\/i=t.length:=fun i hi=>by omega
 have hup:∀i,0<i->i<t.length->(nod t i).up.toNat<t.length:=fun i h0 h1=>by have:=h.up i h0 h1;omega
 refine⟨WL,fun i hi'=>?_,by rw[old 0 h.pos];exact h.r0,fun i h0 hi'=>?_,fun i j hij hj=>?_,fun i h0 hi'=>?_,fun i h0 hi'=>?_,fun i h0 hi'=>?_,fun i h0 hi'=>?_,fun i hi'=>?_⟩
 ·rcases cs i hi' with h1|rfl
  ·rw[old i h1];exact h.st i h1
  grind
 ·rcases cs i hi' with h1|rfl
  ·rw[old i h1];exact h.up i h0 h1
  grind
 ·rcases cs j hj with h1|rfl
  ·rw[old i WL,old j h1];exact h.ds i j hij h1
  grind
 ·rcases cs i hi' with h1|rfl
  ·rw[old i h1,old _ (hup i h0 h1)];exact h.pr i h0 h1
  grind
 ·rcases cs i hi' with h1|rfl
  ·rw[old i h1,old _ (hup i h0 h1)];exact h.sl i h0 h1
  ·rw[new,old _ WL];exact hl
 ·rcases cs i hi' with h1|rfl
  ·rw[old i h1,old _ (hup i h0 h1)];exact h.va i h0 h1
  ·rw[new,old _ WL];exact hv
 ·rcases cs i hi' with h1|rfl
  ·rw[old i h1,old _ (hup i h0 h1)];exact h.iv i h0 h1
  ·rw[new,old _ WL];exact fun h2=>absurd h2 hi
 ·rcases cs i hi' with h1|rfl
  ·rw[old i h1];exact h.py i h1
  ·rw[new];exact hy
theorem TrV.stat{t u:List Nod}(h:TrV t)(m:u.length=t.length)(b:∀k,(nod u k).up=(nod t k).up/\(nod u k).blk=(nod t k).blk)(o:∀i,i<t.length->0<=(nod u i).status/\(nod u i).status<=2)
 (q:∀i,0<i->i<t.length->(nod u i).status=1->(nod u (nod t i).up.toNat).status=1) (p:∀i,0<i->i<t.length->(nod u (nod t i).up.toNat).status=2->(nod u i).status=2)
 (n:∀i,i<t.length->(nod t i).status=1->(nod u i).status=1):TrV u:=by
 refine⟨by rw[m];exact h.pos,fun i d=>o i WL,by rw[(b 0).1];exact h.r0,fun i c d=>by rw[(b i).1];exact h.up i c WL,fun i j g r=>by rw[(b i).2,(b j).2];exact h.ds i j g WL,
  fun i c d=>by rw[(b i).1,(b i).2,(b _).2];exact h.pr i c WL,fun i c d=>by rw[(b i).1,(b i).2,(b _).2];exact h.sl i c WL,fun i c d=>WO,fun i c d=>WO,
  fun i d=>by rw[(b i).2];exact fun l=>n i WL (h.py i WL l)⟩
theorem Fe{t:List Nod}{l:List Int}{status b:Int}(e:status≠b)(j:∀x∈l,0<=x/\x<t.length):∀ {k:Nat} {u:List Nod},k<=l.length->bg (qf l status b) (some t) k=some u->
 ∀i,i<t.length->((i:Int)∈l.take k->(nod t i).status≠b/\(nod u i).status=status)/\((i:Int)∉l.take k->(nod u i).status=(nod t i).status)
 |0,u,_,h,i,f=>by cases h;simp
 | k + 1, u, r, h, i, f => by
   rw[cX]at h;cases d:bg (qf l status b) (some t) k with
   |none=>rw[d]at h;cases h
   | some v =>
     rw[d]at h;simp only[qf,ale]at h;obtain⟨m,g⟩:=Fe e j WL d i f;have n:=ml d;have q:l.getD k 0∈l:=bK 0 WL
     have o:l.take (k+1)=l.take k++[l.getD k 0]:=by
      rw[amY,al6 WL,alt,al6 WL];rfl
     split at h
     ·grind
     ·cases h;rw[E6];by_cases p:(i:Int)=l.getD k 0
      ·grind
      grind
theorem Fg{t u:List Nod}{l:List Int}{status b:Int}(d:status≠b)(e:∀x∈l,0<=x/\x<t.length)(h:tD t l status b=some u):
 ∀i,i<t.length->((i:Int)∈l->(nod t i).status≠b/\(nod u i).status=status)/\((i:Int)∉l->(nod u i).status=(nod t i).status):=by
 have:=Fe d e (amb _) h;grind
theorem Lx{t:List Nod}(g:dU t){a:Int}{k:Nat}(w:0<k)(r:k<t.length)(h:(k:Int)∈AI t a):(nod t k).up∈AI t a:=by
 have m:∀n i:Nat,i<n->i<t.length->(k:Int)∈AI t i->(nod t k).up∈AI t i:=by
  intro n;induction n with
  |zero=>omega
  | succ n u =>
    intro i o c d;rcases ajQ i with b|b
    ·subst b;rw[show ((0:Nat):Int)=0 from rfl,jv c]at d;grind
    ·rw[jw g.ok b c]at d ⊢
     obtain⟨l,s⟩:=g.ok i b c;obtain⟨v,p⟩:∃v:Nat,(nod t i).up=v:=⟨_,(amC l).symm⟩
     rw[amm,amn]at d;rcases d with d|d
     ·grind
     ·obtain rfl:k=i:=WL
      rw[p];rcases ajQ v with b|b
      ·subst b;rw[show ((0:Nat):Int)=0 from rfl,jv WL];simp
      ·rw[jw g.ok b WL];simp
 have x:=gu g.ok h;by_cases q:0<=a
 ·obtain⟨i,rfl⟩:∃i:Nat,a=i:=⟨_,(amC q).symm⟩
  by_cases y:i<t.length
  ·grind
  ·rw[te (by simp[isN];omega)]at h;grind
 omega
theorem BU{t:List Nod}{a:Int}{k:Nat}:(k:Int)∈im t a↔k<t.length/\eh t a k=true:=by
 have c:∀n,(k:Int)∈bg (fun k l=>if eh t a k=true then l++[(k:Int)]else l) [] n↔k<n/\eh t a k=true:=by
  intro n;induction n with
  |zero=>simp[bg]
  | succ n d =>
    rw[cX];split
    ·grind
    grind
 exact c t.length
theorem Lg{t:List Nod}{a:Int}:∀x∈im t a,0<=x/\x<t.length:=by
 have d:∀n,n<=t.length->∀x∈bg (fun k l=>if eh t a k=true then l++[(k:Int)]else l) [] n,0<=x/\x<t.length:=by
  intro n;induction n with
  |zero=>intro _ x c;simp[bg]at c
  | succ n f =>
    intro e x c;rw[cX]at c;split at c
    ·grind
    grind
 exact d _ (amb _)
theorem QB{t:List Nod}(d:dU t){a:Int}{k:Nat}(c:0<k)(e:k<t.length)(h:eh t a (nod t k).up=true):eh t a k=true:=by
 unfold eh at *;rw[jw d.ok c e];grind
theorem TrV.raise{t:List Nod}(h:TrV t){i:Int}(h2:(fD t i).2=0):TrV (fD t i).1/\(∀k,k<t.length->(nod t k).status=1->(nod (fD t i).1 k).status=1)/\(∀k,k<t.length->(nod (fD t i).1 k).status=2->(nod t k).status=2):=by
 have hu:=sS h2;unfold fD at *;split at h2
 ·rename_i h1
  rw[al7 h1]at hu ⊢;cases h3:tD t (AI t i) 1 2 with
  |none=>grind
  | some u =>
    rw[h3]at hu;dsimp only at hu ⊢;have hs:=Fg WM (fun x hx=>by have:=gu h.r.ok hx;omega) h3
    have k1:∀k,k<t.length->(nod t k).status=1->(nod u k).status=1:=fun k hk h4=>by
     grind
    have k2:∀k,k<t.length->(nod u k).status=2->(nod t k).status=2:=fun k hk h4=>by
     grind
    have hup:∀k,0<k->k<t.length->((nod t k).up.toNat:Int)=(nod t k).up/\(nod t k).up.toNat<t.length:=fun k a b=>by have:=h.up k a b;omega
    refine⟨h.stat hu.1 hu.2 (fun k hk=>?_) (fun k h0 hk h4=>?_) (fun k h0 hk h4=>?_) k1,k1,k2⟩
    ·by_cases hp:(k:Int)∈AI t i
     ·grind
     ·rw[(hs k hk).2 hp];exact h.st k hk
    ·obtain⟨a,b⟩:=hup k h0 hk
     by_cases hp:(k:Int)∈AI t i
     ·have:=Lx h.r h0 hk hp;grind
     ·rw[(hs k hk).2 hp]at h4;exact k1 _ b (h.va k h0 hk h4)
    ·obtain⟨a,b⟩:=hup k h0 hk;have h5:=h.iv k h0 hk (k2 _ b h4);by_cases hp:(k:Int)∈AI t i
     ·exact absurd h5 ((hs k hk).1 hp).1
     ·rw[(hs k hk).2 hp];exact h5
 omega
theorem TrV.cond{t:List Nod}(h:TrV t){i:Int}(h2:(kF t i).2=0):TrV (kF t i).1/\(∀k,k<t.length->(nod t k).status=1->(nod (kF t i).1 k).status=1)/\(∀k,k<t.length->(nod (kF t i).1 k).status=2->(nod t k).status=2\/eh t i k=true):=by
 have hu:=zP h2;unfold kF at *;split at h2
 ·rename_i h1
  rw[al7 h1]at hu ⊢;cases h3:tD t (im t i) 2 1 with
  |none=>grind
  | some u =>
    rw[h3]at hu;dsimp only at hu ⊢;have hs:=Fg WM Lg h3
    have k1:∀k,k<t.length->(nod t k).status=1->(nod u k).status=1:=fun k hk h4=>by
     grind
    have k2:∀k,k<t.length->(nod u k).status=2->(nod t k).status=2\/eh t i k=true:=fun k hk h4=>by
     by_cases hp:(k:Int)∈im t i
     ·exact .inr (BU.1 hp).2
     grind
    have hup:∀k,0<k->k<t.length->((nod t k).up.toNat:Int)=(nod t k).up/\(nod t k).up.toNat<t.length:=fun k a b=>by have:=h.up k a b;omega
    refine⟨h.stat hu.1 hu.2 (fun k hk=>?_) (fun k h0 hk h4=>?_) (fun k h0 hk h4=>?_) k1,k1,k2⟩
    ·by_cases hp:(k:Int)∈im t i
     ·grind
     ·rw[(hs k hk).2 hp];exact h.st k hk
    ·obtain⟨a,b⟩:=hup k h0 hk
     by_cases hp:(k:Int)∈im t i
     ·grind
     ·rw[(hs k hk).2 hp]at h4;exact k1 _ b (h.va k h0 hk h4)
    ·obtain⟨a,b⟩:=hup k h0 hk
     rcases k2 _ b h4 with h5|h5
     ·have h6:=h.iv k h0 hk h5;by_cases hp:(k:Int)∈im t i
      ·exact((hs k hk).1 hp).2
      ·rw[(hs k hk).2 hp];exact h6
     ·rw[a]at h5;exact((hs k hk).1 (BU.2 ⟨hk,QB h.r h0 hk h5⟩)).2
 omega
structure ahK(t:List Nod)(i0:Int)(k:Nat)(p:List Nod×List Int)(ms:List Nat):Prop where
 len:ms.length=p.1.length
 ixl:p.2.length=k
 src:∀u,u<p.1.length->ms.getD u 0<k/\eh t i0 (ms.getD u 0)=true/\(nod p.1 u).blk=(nod t (ms.getD u 0)).blk/\(nod p.1 u).status=(nod t (ms.getD u 0)).status
 up:∀u,u<p.1.length->((ms.getD u 0:Int)=i0->(nod p.1 u).up=-1)/\((ms.getD u 0:Int)≠i0->0<=(nod p.1 u).up/\(nod p.1 u).up<u/\ms.getD (nod p.1 u).up.toNat 0=(nod t (ms.getD u 0)).up.toNat)
 mono:∀u v,u<v->v<p.1.length->ms.getD u 0<ms.getD v 0
 ix:∀m:Nat,m<k->eh t i0 m=true->0<=p.2.getD m 0/\p.2.getD m 0<p.1.length/\ms.getD (p.2.getD m 0).toNat 0=m
theorem Ru{l:List Nat}{x:Nat}{m:Nat}:(l++[x]).getD m 0=if m<l.length then l.getD m 0 else if m=l.length then x else 0:=by
 grind
theorem ahb{t:List Nod}(ht:dU t)(i0:Int):∀k,k<=t.length->∃ms,ahK t i0 k (bg (ei t i0) ([],[]) k) ms
 |0,_=>⟨[],⟨rfl,rfl,fun u h=>absurd h (aju _),fun u h=>absurd h (aju _),fun u v _ h=>absurd h (aju _),fun m h=>absurd h (aju _)⟩⟩
 | k + 1, hk => by
   obtain⟨ms,ih⟩:=ahb ht i0 k WL;rw[cX];generalize bg (ei t i0) ([],[]) k=p at *;obtain⟨kp,ix⟩:=p;obtain⟨l1,l2,l3,l4,l5,l6⟩:=ih;dsimp only at l1 l2 l3 l4 l5 l6;unfold ei;by_cases ha:eh t i0 k=true
   ·rw [al7 ha]
    dsimp only;have hln:(kp++[(⟨(nod t k).blk,if (k:Int)=i0 then -1 else ix.getD (nod t k).up.toNat 0,(nod t k).status⟩:Nod)]).length=kp.length+1:=WM
    have oldN:∀ (n:Nod) u,u<kp.length->nod (kp++[n]) u=nod kp u:=fun n u hu=>by rw[eO,al7 hu]
    have newN:∀ (n:Nod),nod (kp++[n]) kp.length=n:=fun n=>by rw[eO,al5 (aj3 _),al7 rfl]
    have oldM:∀u,u<kp.length->(ms++[k]).getD u 0=ms.getD u 0:=fun u hu=>by rw[Ru,al7 WL]
    have newM:(ms++[k]).getD kp.length 0=k:=by rw[Ru,al5 WL,al7 WL]
    refine⟨ms++[k],by simp[l1],by simp[l2],fun u hu=>?_,fun u hu=>?_,fun u v huv hv=>?_,fun m hm hma=>?_⟩
    ·rw[hln]at hu
     by_cases h1:u<kp.length
     ·rw[oldM u h1,oldN _ u h1];obtain⟨a1,a2,a3,a4⟩:=l3 u h1;exact⟨WL,a2,a3,a4⟩
     ·obtain rfl:u=kp.length:=WL
      rw[newM,newN];exact⟨WL,ha,rfl,rfl⟩
    ·rw[hln]at hu
     by_cases h1:u<kp.length
     ·rw[oldM u h1,oldN _ u h1];obtain⟨a1,a2⟩:=l4 u h1;refine⟨a1,fun h=>?_⟩;obtain⟨b1,b2,b3⟩:=a2 h;exact⟨b1,b2,by rw[oldM _ WL];exact b3⟩
     ·obtain rfl:u=kp.length:=WL
      rw[newM,newN];dsimp only;refine⟨fun h=>al7 h,fun h=>?_⟩;rw[al5 h];obtain⟨h0,h1⟩:=NY ht WL ha h;obtain⟨h2,h3⟩:=ht.ok k h0 WL;obtain⟨b1,b2,b3⟩:=l6 (nod t k).up.toNat WL (by rw[amC h2];exact h1);exact⟨b1,b2,by rw[oldM _ WL];exact b3⟩
    ·rw[hln]at hv
     by_cases h1:v<kp.length
     ·rw[oldM u WL,oldM v h1];exact l5 u v huv h1
     ·obtain rfl:v=kp.length:=WL
      rw[newM,oldM u huv];exact(l3 u huv).1
    ·rw[Ce]
     by_cases hmk:m<k
     ·rw[al7 WL];obtain⟨b1,b2,b3⟩:=l6 m hmk hma;exact⟨b1,by rw[hln];omega,by rw[oldM _ WL];exact b3⟩
     ·obtain rfl:m=k:=WL
      rw[al5 WL,al7 WL];exact⟨WL,by rw[hln];omega,by rw[amw];exact newM⟩
   ·rw [al5 ha]
    dsimp only;refine⟨ms,l1,by simp[l2],fun u hu=>?_,l4,l5,fun m hm hma=>?_⟩
    ·obtain⟨a1,a2,a3,a4⟩:=l3 u hu;exact⟨WL,a2,a3,a4⟩
    ·by_cases hmk:m<k
     ·rw[Ce,al7 WL];exact l6 m hmk hma
     ·obtain rfl:m=k:=WL
      exact absurd hma ha
structure sr(t:List Nod)(i0:Nat)(u:List Nod)(ms:List Nat):Prop where
 len:ms.length=u.length
 pos:0<u.length
 src:∀k,k<u.length->ms.getD k 0<t.length/\eh t i0 (ms.getD k 0)=true/\(nod u k).blk=(nod t (ms.getD k 0)).blk/\(nod u k).status=(nod t (ms.getD k 0)).status
 up:∀k,0<k->k<u.length->0<ms.getD k 0/\0<=(nod u k).up/\(nod u k).up<k/\ms.getD (nod u k).up.toNat 0=(nod t (ms.getD k 0)).up.toNat
 mono:∀k v,k<v->v<u.length->ms.getD k 0<ms.getD v 0
 zero:ms.getD 0 0=i0/\(nod u 0).up=-1
 all:∀m:Nat,m<t.length->eh t i0 m=true->∃k,k<u.length/\ms.getD k 0=m
theorem O4{t:List Nod}(ht:dU t){i0:Nat}(hi:i0<t.length):∃ms,sr t i0 (eF t i0).1 ms:=by
 obtain⟨ms,h⟩:=ahb ht i0 t.length (amb _);have hself:=xz ht hi;obtain⟨s1,s2,s3⟩:=h.ix i0 hi hself
 have hle:∀k,k<(eF t i0).1.length->i0<=ms.getD k 0:=fun k hk=>by
  have:=Gt ht (h.src k hk).2.1;omega
 have hpos:0<(eF t i0).1.length:=by show 0<(bg (ei t i0) ([],[]) t.length).1.length;omega
 have h0:ms.getD 0 0=i0:=by
  by_cases hz:((bg (ei t i0) ([],[]) t.length).2.getD i0 0).toNat=0
  ·grind
  ·have h1:=h.mono 0 ((bg (ei t i0) ([],[]) t.length).2.getD i0 0).toNat WL WL;grind
 refine⟨ms,h.len,hpos,h.src,fun k hk hk2=>?_,h.mono,⟨h0,(h.up 0 hpos).1 WL⟩,fun m hm hma=>?_⟩
 ·have h1:=h.mono 0 k hk hk2;obtain⟨a1,a2,a3⟩:=(h.up k hk2).2 WL;exact⟨WL,a1,a2,a3⟩
 ·obtain⟨b1,b2,b3⟩:=h.ix m hm hma;exact⟨_,by show _<(bg (ei t i0) ([],[]) t.length).1.length;omega,b3⟩
theorem TrV.prune{t:List Nod}(h:TrV t){i0:Nat}(hi:i0<t.length):TrV (eF t i0).1:=by
 obtain⟨ms,p⟩:=O4 h.r hi;have hr:=h.r.prune (i0:=(i0:Int)) WL WL;have U:∀k,0<k->k<(eF t i0).1.length->(nod (eF t i0).1 k).up.toNat<(eF t i0).1.length:=fun k h0 h1=>by have:=hr.ok k h0 h1;omega
 have B:∀k,0<k->(hk:k<(eF t i0).1.length)->(nod (eF t i0).1 (nod (eF t i0).1 k).up.toNat).blk=(nod t (nod t (ms.getD k 0)).up.toNat).blk/\(nod (eF t i0).1 (nod (eF t i0).1 k).up.toNat).status=(nod t (nod t (ms.getD k 0)).up.toNat).status:=fun k h0 h1=>by
  have:=p.src _ (U k h0 h1);rw[(p.up k h0 h1).2.2.2]at this;grind
 refine⟨p.pos,fun k hk=>?_,p.zero.2,fun k h0 hk=>⟨(p.up k h0 hk).2.1,(p.up k h0 hk).2.2.1⟩,fun i j hij hj=>?_,fun k h0 hk=>?_,fun k h0 hk=>?_,fun k h0 hk=>?_,fun k h0 hk=>?_,fun k hk=>?_⟩
 ·rw[(p.src k hk).2.2.2];exact h.st _ (p.src k hk).1
 ·rw[(p.src i WL).2.2.1,(p.src j hj).2.2.1];exact h.ds _ _ (p.mono i j hij hj) (p.src j hj).1
 ·rw[(p.src k hk).2.2.1,(B k h0 hk).1];exact h.pr _ (p.up k h0 hk).1 (p.src k hk).1
 ·rw[(p.src k hk).2.2.1,(B k h0 hk).1];exact h.sl _ (p.up k h0 hk).1 (p.src k hk).1
 ·rw[(p.src k hk).2.2.2,(B k h0 hk).2];exact h.va _ (p.up k h0 hk).1 (p.src k hk).1
 ·rw[(p.src k hk).2.2.2,(B k h0 hk).2];exact h.iv _ (p.up k h0 hk).1 (p.src k hk).1
 ·rw[(p.src k hk).2.2.1,(p.src k hk).2.2.2];exact h.py _ (p.src k hk).1
theorem Ft{α:Type}(l:List α)(d:α)(p:α->Prop)[DecidablePred p]:bg (fun i o=>if p (l.getD i d)then o++[l.getD i d]else o) [] l.length=l.filter (fun x=>decide (p x)):=by
 have c:∀n,n<=l.length->bg (fun i o=>if p (l.getD i d)then o++[l.getD i d]else o) [] n=(l.take n).filter (fun x=>decide (p x)):=by
  intro n;induction n with
  |zero=>intro _;rfl
  | succ n e =>
    intro f;have e0:l[n]' WL=l.getD n d:=WO
    rw[cX,e WL,amY,al6 WL,ak1,alw,e0];grind
 grind
theorem tV(l:List aW)(e:Int):fX l e=l.filter (fun t=>decide (e<=t.cp.ep)):=Ft l default (fun t:aW=>e<=t.cp.ep)
theorem wh(l:List Blk)(a:Int):bg (tW l a) [] l.length=l.filter (fun b=>decide (a<b.slot)):=Ft l cw (fun b:Blk=>a<b.slot)
theorem adY{l:List aW}{c:Cp}(h:0<=dJ l c):∃t∈l,t.cp=c:=by
 unfold dJ at h;cases b:dW (fun i=>decide ((tab l i).cp=c)) l.length with
 |none=>rw[b,jP]at h;omega
 | some k =>
   obtain⟨e,d,_⟩:=fZ b;exact⟨tab l k,bK _ e,aks d⟩
theorem Xc{l:List aW}{t:aW}(h:t∈l):0<=dJ l t.cp:=by
 unfold dJ;cases b:dW (fun i=>decide ((tab l i).cp=t.cp)) l.length with
 | none =>
   obtain⟨k,c,d⟩:=amJ h;have:=iL b k c;unfold tab at this;grind
 |some k=>rw[Ck];omega
theorem Cy{t:List Nod}{r:Rt}:aj t r<0↔∀n∈t,n.blk.root≠r:=by
 have h:=vW t r;constructor
 ·grind
 grind
def sc(l:List aW)(n:Int):Prop:=(∀t∈l,gh t n=0)/\l.Pairwise fun a b=>kW a.cp b.cp<0
structure ahI(s:ap)(b:Blk):Prop where
 rt:b.root≠rt0
 un:aj s.nodes b.root<0
 ti:b.timely=false
 nw:b.slot<=s.now
 ol:(dk s.f.ep s.cfg.spe).1<b.slot
structure StW(s:ap):Prop where
 ne:ib s.cfg=0
 tree:TrV s.nodes
 z1:(s.nodes.length:Int)<=s.cfg.lim.node
 z2:(s.orph.length:Int)<=s.cfg.lim.orph
 z3:(s.early.length:Int)<=s.cfg.lim.early
 z4:(s.tabs.length:Int)<=s.cfg.lim.table
 fr:(nod s.nodes 0).blk.root=s.f.rt
 jf:0<=aj s.nodes s.j.rt
 ji:(nod s.nodes (aj s.nodes s.j.rt).toNat).status≠2
 fj:s.f.ep<=s.j.ep
 tj:∃t∈s.tabs,t.cp=s.j
 tv:sc s.tabs s.cfg.bals.length
 ll:s.latest.length=s.cfg.bals.length
 lv:∀v∈s.latest,v.has=false->v=dL
 qv:s.eqv=[]\/cE s.eqv s.cfg.bals.length=0
 bo:s.boost=rt0\/0<=aj s.nodes s.boost
 nm:s.now<=1099511627776
 je:s.j.ep<=dg s s.now
 ea:(dk s.f.ep s.cfg.spe).2=0/\(nod s.nodes 0).blk.slot<=(dk s.f.ep s.cfg.spe).1
 nd:∀n∈s.nodes,n.blk.slot<=s.now/\pY s n.blk=true
 av:∀a∈s.early,cE a.vals s.cfg.bals.length=0
 ob:∀b∈s.orph,ahI s b
 od:s.orph.Pairwise fun a b=>a.root≠b.root
structure StV(s:ap):Prop where
 w:StW s
 op:∀b∈s.orph,aj s.nodes b.parent<0
theorem Cw{t:List Nod}{k:Nat}(h:k<t.length):nod t k∈t:=bK _ h
structure ahH(s:ap)(a b:Cp):Prop where
 i0:0<=aj s.nodes a.rt
 k0:0<=aj s.nodes b.rt
 i2:(nod s.nodes (aj s.nodes a.rt).toNat).status≠2
 k2:(nod s.nodes (aj s.nodes b.rt).toNat).status≠2
 ea:jA s (aj s.nodes a.rt) a.ep=true
 eb:jA s (aj s.nodes b.rt) b.ep=true
 an:eh s.nodes (aj s.nodes b.rt) (aj s.nodes a.rt)=true
 le:b.ep<=a.ep
 nw:a.ep<=dg s s.now
 tb:0<=dJ s.tabs a
theorem ag8{s:ap}{a b:Cp}(h:¬wv s a b=false):ahH s a b:=by
 unfold wv at h;simp only[akc,amk,amg]at h;obtain⟨⟨⟨⟨⟨⟨⟨⟨⟨e,f⟩,g⟩,i⟩,j⟩,k⟩,l⟩,m⟩,n⟩,c⟩:=h;exact⟨e,f,g,i,j,k,l,m,n,c⟩
theorem OP{t u:List Nod}{i0:Nat}{c:List Nat}(p:sr t i0 u c){n:Nod}(h:n∈u):∃m∈t,n.blk=m.blk/\n.status=m.status:=by
 obtain⟨k,d,rfl⟩:=Ct h;obtain⟨e,g,f,b⟩:=p.src k d;exact⟨_,Cw e,f,b⟩
theorem StW.upd{s:ap}{i:Nat}(h:StW s)(hI:bP s i){j f:Cp}(hj:U64 j.ep)(hf:U64 f.ep):StW (dK s j f):=by
 have hcf:(dK s j f).cfg=s.cfg:=CF s j f;have hue:=ac2 j f hI.uj hI.uf hj hf;unfold dK at *;by_cases hm:wv s (fh s.j j) (fh s.f f)=false
 ·grind
 rw[al5 hm]at hue ⊢;have m:=ag8 hm;have hbu:U64 (fh s.f f).ep:=Im hI.uf hf;generalize fh s.j j=a at *;generalize fh s.f f=b at *;have hst:(dk b.ep s.cfg.spe).2=0:=CY hbu.lo hI.cfg.s1 (by have:=hI.cfg.s4;omega) hI.nw.1.lo hI.nw.1.hi (akT m.le m.nw);have htl:((fX s.tabs a.ep).length:Int)<=s.cfg.lim.table:=by have:=oe s.tabs a.ep;have:=h.z4;omega
 have htv:sc (fX s.tabs a.ep) s.cfg.bals.length:=⟨fun t ht=>h.tv.1 t (oh _ _ t ht),by rw[tV];exact h.tv.2.filter _⟩
 have htj:∃t∈fX s.tabs a.ep,t.cp=a:=by
  obtain⟨t,h1,h2⟩:=adY m.tb;refine⟨t,?_,h2⟩;rw[tV,List.mem_filter];grind
 by_cases hb:b=s.f
 ·rw[al7 hb];refine⟨h.ne,h.tree,h.z1,h.z2,h.z3,htl,by rw[hb];exact h.fr,m.i0,m.i2,m.le,htj,htv,h.ll,h.lv,h.qv,h.bo,h.nm,m.nw,by rw[hb];exact h.ea,h.nd,h.av,fun x hx=>?_,h.od⟩;obtain⟨a1,a2,a3,a4,a5⟩:=h.ob x hx;exact⟨a1,a2,a3,a4,WO⟩
 ·rw [al5 hb]
  obtain⟨k1,k2⟩:=dO m.k0;obtain⟨ms,p⟩:=O4 h.tree.r k1;have hK:(((aj s.nodes b.rt).toNat:Nat):Int)=aj s.nodes b.rt:=amC m.k0;have htr:=h.tree.prune k1;have hfi:=xd h.tree.r m.i0 m.an;rw[hK]at p htr;have hle:=tf h.tree.r (aj s.nodes b.rt);have hI0:=dO m.i0;have hI1:=dO hfi;have z0:=p.src 0 p.pos;rw[p.zero.1]at z0;generalize (eF s.nodes (aj s.nodes b.rt)).1=u at *
  have hun:∀r,aj s.nodes r<0->aj u r<0:=fun r hr=>by
   rw[Cy]at hr ⊢;intro n hn;obtain⟨q,h1,h2,_⟩:=OP p hn;rw[h2];exact hr q h1
  refine⟨h.ne,htr,by have:=h.z1;show (u.length:Int)<=s.cfg.lim.node;omega,?_,h.z3,htl,?_,hfi,?_,m.le,htj,htv,h.ll,h.lv,h.qv,?_,h.nm,m.nw,⟨hst,?_⟩,fun n hn=>?_,h.av,fun x hx=>?_,?_⟩
  ·rw[wh];have:=alR (fun x:Blk=>decide ((da s b.ep).1<x.slot)) s.orph;have:=h.z2;show ((List.filter _ s.orph).length:Int)<=s.cfg.lim.orph
   omega
  ·show (nod u 0).blk.root=b.rt
   rw[z0.2.2.1];exact k2
  ·show (nod u (aj u a.rt).toNat).status≠2
   obtain⟨a1,a2,a3,a4⟩:=p.src _ hI1.1;rw[a4]
   have e:ms.getD (aj u a.rt).toNat 0=(aj s.nodes a.rt).toNat:=by
    have e1:(nod s.nodes (ms.getD (aj u a.rt).toNat 0)).blk.root=(nod s.nodes (aj s.nodes a.rt).toNat).blk.root:=by rw[<-a3,hI1.2,hI0.2]
    rcases alb (ms.getD (aj u a.rt).toNat 0) (aj s.nodes a.rt).toNat with h1|h1|h1
    ·exact absurd e1 (h.tree.ds _ _ h1 hI0.1)
    ·exact h1
    ·exact absurd e1.symm (h.tree.ds _ _ h1 a1)
   rw[e];exact m.i2
  ·show (if aj u s.boost<0 then rt0 else s.boost)=rt0\/0<=aj u (if aj u s.boost<0 then rt0 else s.boost)
   split
   ·exact .inl rfl
   ·right;omega
  ·show (nod u 0).blk.slot<=(dk b.ep s.cfg.spe).1
   rw[z0.2.2.1];have:=m.eb;unfold jA da at this;rw[hst]at this;simpa using this
  ·obtain⟨q,h1,h2,_⟩:=OP p hn;rw[h2];exact h.nd q h1
  ·have hx:x∈bg (tW s.orph (da s b.ep).1) [] s.orph.length:=hx;rw[wh,List.mem_filter]at hx;obtain⟨a1,a2,a3,a4,a5⟩:=h.ob x hx.1;exact⟨a1,hun _ a2,a3,a4,aks hx.2⟩
  ·show (bg (tW s.orph (da s b.ep).1) [] s.orph.length).Pairwise _
   rw[wh];exact h.od.filter _
theorem Nb{s:ap}(h:dU s.nodes)(j f:Cp){r:Rt}(c:aj s.nodes r<0):aj (dK s j f).nodes r<0:=by
 rw[Cy]at c ⊢;intro n e;obtain⟨m,g,d⟩:=(NM h j f).2 n e;rw[d];exact c _ (Cw g)
theorem StV.upd{s:ap}{i:Nat}(h:StV s)(hI:bP s i){j f:Cp}(hj:U64 j.ep)(hf:U64 f.ep):StV (dK s j f):=
 ⟨h.w.upd hI hj hf,fun b hb=>Nb h.w.tree.r j f (h.op b ((pT s j f).2 b hb))⟩
theorem DI{p a b:Int}(l:1<=p)(e:0<=a)(d:a<=b)(j:b<18446744073709551616):IntKind.u64.wrap (Int.tdiv a p)<=IntKind.u64.wrap (Int.tdiv b p):=by
 have f:Int.tdiv a p=a / p:=ajC e;have h:Int.tdiv b p=b / p:=ajC WL;have k:a / p<=b / p:=Int.ediv_le_ediv WL d;have g:0<=a / p:=akD e WL;have i:b / p<=b:=akS _ WL;rw[f,h,aN g WL,aN WL WL];omega
theorem StV.tickA{s:ap}{i:Nat}(h:StV s)(d:bP s i)(v:¬1099511627776<=s.now):StV (tickA s):=by
 have f:=d.nw.1;have e:IntKind.u64.wrap (s.now+1)=s.now+1:=aN (by have:=f.lo;omega) WL;have a:(Go.Proofs.YtmpddimhleianaaGreat.tickA s).now=s.now+1:=e;obtain⟨w,l⟩:=h;refine⟨⟨w.ne,w.tree,w.z1,w.z2,w.z3,w.z4,w.fr,w.jf,w.ji,w.fj,w.tj,w.tv,w.ll,w.lv,w.qv,.inl rfl,WL,?_,w.ea,fun n c=>⟨?_,(w.nd n c).2⟩,w.av,fun b g=>?_,w.od⟩,l⟩
 ·have j:=DI d.cfg.s1 f.lo (show s.now<=s.now+1 by omega) WL;have r:=w.je;rw[a];exact akT r j
 ·have:=(w.nd n c).1;omega
 ·obtain⟨p,q,t,x,o⟩:=w.ob b g;exact⟨p,q,t,WL,o⟩
theorem StV.tickB{s:ap}{i:Nat}(h:StV s)(a:bP s i):StV (tickB s):=by
 unfold Go.Proofs.YtmpddimhleianaaGreat.tickB;split
 ·have:=E9 (s:=s) fun k b=>a.blk b
  exact h.upd a this.1 this.2
 omega
theorem StV.withE{s:ap}(h:StV s){l:List bp}(f:(l.length:Int)<=s.cfg.lim.early)(e:∀a∈l,cE a.vals s.cfg.bals.length=0):StV (withE s l):=by
 obtain⟨w,d⟩:=h;exact⟨⟨w.ne,w.tree,w.z1,w.z2,f,w.z4,w.fr,w.jf,w.ji,w.fj,w.tj,w.tv,w.ll,w.lv,w.qv,w.bo,w.nm,w.je,w.ea,w.nd,e,fun b c=>⟨(w.ob b c).rt,(w.ob b c).un,(w.ob b c).ti,(w.ob b c).nw,(w.ob b c).ol⟩,w.od⟩,d⟩
theorem StV.withL{s:ap}(h:StV s){l:List Vot}(e:l.length=s.latest.length)(d:∀v∈l,v.has=false->v=dL):StV (withL s l):=by
 obtain⟨w,c⟩:=h;exact⟨⟨w.ne,w.tree,w.z1,w.z2,w.z3,w.z4,w.fr,w.jf,w.ji,w.fj,w.tj,w.tv,e.trans w.ll,d,w.qv,w.bo,w.nm,w.je,w.ea,w.nd,w.av,fun b a=>⟨(w.ob b a).rt,(w.ob b a).un,(w.ob b a).ti,(w.ob b a).nw,(w.ob b a).ol⟩,w.od⟩,c⟩
theorem KW{l:List Vot}(h:∀v∈l,v.has=false->v=dL)(d:Int)(b:Rt)(m:List Int):∀v∈(uM l d b m).1,v.has=false->v=dL:=by
 refine Yy (f:=mK d b m) (a:=(l,0)) (fun _ p=>∀v∈p.1,v.has=false->v=dL) h m.length (fun i p g e=>?_) _ (amb _);unfold mK;split
 ·grind
 omega
theorem StV.castIn{s:ap}(h:StV s)(a:bp):StV (castIn s a):=h.withL (pd _ _ _ _ _) (KW h.w.lv _ _ _)
theorem StV.tickR{l:List bp}{s:ap}(h:StV s)(hl:(l.length:Int)<=s.cfg.lim.early)(e:∀a∈l,cE a.vals s.cfg.bals.length=0):∀k,k<=l.length->StV (bg (tickR l) (Go.FH.withE s []) k)/\(bg (tickR l) (Go.FH.withE s []) k).early.length<=k/\(bg (tickR l) (Go.FH.withE s []) k).cfg=s.cfg/\(∀a∈(bg (tickR l) (Go.FH.withE s []) k).early,cE a.vals s.cfg.bals.length=0)
 |0,_=>⟨h.withE WO WM,amb _,rfl,fun a e=>(by cases e)⟩
 | k + 1, hk => by
   obtain⟨f,h2,g,i⟩:=StV.tickR h hl e k WL;rw[cX];generalize bg (Go.Proofs.YtmpddimhleianaaGreat.tickR l) (Go.FH.withE s []) k=t at *;unfold Go.Proofs.YtmpddimhleianaaGreat.tickR
   have hm:∀x∈t.early++[gO l k],cE x.vals s.cfg.bals.length=0:=fun x c=>by
    rcases amm.1 c with c|c
    ·grind
    ·rw[amn]at c;subst c;exact e _ (ru WL)
   split
   ·refine⟨f.withE WO WO,by show (t.early++[gO l k]).length<=k+1;simp;omega,g,hm⟩
   ·split
    ·exact⟨f.castIn _,akK h2,g,i⟩
    grind
theorem StV.tick{s:ap}{i:Nat}(h:StV s)(c:bP s i)(d:(gp s).2=0):StV (gp s).1:=by
 unfold gp at *;split at d
 ·omega
 ·rename_i a;rw[al5 a];have b:=(h.tickA c a).tickB (c.tickA a);exact(StV.tickR b b.w.z3 b.w.av _ (amb _)).1
theorem Gp{s:ap}{a:bp}(h:(cm s a).2=0):cE a.vals s.cfg.bals.length=0:=by
 unfold cm at h;split at h
 ·omega
 omega
theorem StV.att{s:ap}(h:StV s){a:bp}(c:(mA s a).2=0):StV (mA s a).1:=by
 unfold mA at *;split at c
 ·omega
 ·rename_i e
  rw[al5 e];split at c
  ·rename_i d;rw[al7 d];exact h.castIn a
  ·rename_i d
   rw[al5 d];split at c
   ·omega
   ·rename_i f;rw[al5 f];refine h.withE WO (fun x b=>?_);rcases amm.1 b with b|b
    ·exact h.w.av x b
    ·rw[amn]at b;subst b;exact Gp WL
theorem NA{x y:UInt8}(c:¬x<y)(b:¬y<x):x=y:=by
 grind
theorem vG(a b:Rt):∀f i,qz b a f i=- qz a b f i
 |0,_=>rfl
 | f + 1, i => by
   unfold qz;by_cases g:a.1.getD i 0<b.1.getD i 0
   ·grind
   ·by_cases e:b.1.getD i 0<a.1.getD i 0
    ·grind
    ·rw[al5 e,al5 g,al5 g,al5 e];exact vG a b f (i+1)
theorem E3(a b:Rt):∀f i,qz a b f i=0->∀k,i<=k->k<i+f->a.1.getD k 0=b.1.getD k 0
 |0,i,_,k,e,g=>by omega
 | f + 1, i, h, k, e, g => by
   unfold qz at h;split at h
   ·omega
   ·split at h
    ·omega
    ·by_cases j:k=i
     ·grind
     ·exact E3 a b f (i+1) h k WL WL
theorem BT(a b:Rt):∀f i,qz a b f i<0↔∃m,i<=m/\m<i+f/\(∀k,i<=k->k<m->a.1.getD k 0=b.1.getD k 0)/\a.1.getD m 0<b.1.getD m 0
 |0,i=>⟨fun h=>absurd (show (0:Int)<0 from h) WM,fun ⟨m,g,e,_⟩=>WL⟩
 | f + 1, i => by
   unfold qz;by_cases g:a.1.getD i 0<b.1.getD i 0
   ·grind
   ·rw[al5 g]
    by_cases e:b.1.getD i 0<a.1.getD i 0
    ·grind
    ·rw[al5 e,BT a b f (i+1)];constructor
     ·grind
     grind
theorem DE{a b c:Rt}(f:uk a b<0)(e:uk b c<0):uk a c<0:=by
 unfold uk at *;rw[BT]at *;grind
theorem MA{a b:Rt}(h:uk a b=0):a=b:=by
 have d:=E3 a b 32 0 h;refine Subtype.ext (alJ WL fun i f e=>?_);have:=d i (amc _) WL;grind
theorem GX(a b:Cp):kW b a=- kW a b:=by
 unfold kW;by_cases h:a.ep=b.ep
 ·rw[al5 (fun d=>d h.symm),al5 (fun d=>d h)];exact vG _ _ _ _
 omega
theorem Mz{a b:Cp}(h:kW a b=0):a=b:=by
 unfold kW at h;obtain⟨f,i⟩:=a;obtain⟨g,j⟩:=b;dsimp only at h;by_cases d:f=g
 ·rw[al5 (fun e=>e d)]at h;rw[d,MA h]
 omega
theorem Le{a b:Cp}:kW a b<0↔a.ep<b.ep\/(a.ep=b.ep/\uk a.rt b.rt<0):=by
 unfold kW;by_cases d:a.ep=b.ep
 ·omega
 omega
theorem DD{a b c:Cp}(f:kW a b<0)(e:kW b c<0):kW a c<0:=by
 rw[Le]at *;rcases f with f|⟨f,h⟩
 ·omega
 ·rcases e with e|⟨e,i⟩
  ·omega
  ·exact .inr ⟨f.trans e,DE h i⟩
theorem CE(l:List aW)(c:Cp):∀f i,i+f=l.length->(∀k,k<i->kW (tab l k).cp c<0)->kf l c f i<=l.length/\(∀k,k<kf l c f i->kW (tab l k).cp c<0)/\(kf l c f i<l.length->¬kW (tab l (kf l c f i)).cp c<0)
 |0,i,h,b=>⟨by show i<=_;omega,b,fun e=>by have e:i<l.length:=e;omega⟩
 | f + 1, i, h, b => by
   unfold kf;split
   ·refine CE l c f (i+1) WL fun k j=>?_
    by_cases g:k=i
    ·grind
    grind
   grind
theorem sc.add{l:List aW}{n:Int}(h:sc l n){t:aW}(hv:gh t n=0)(hf:¬0<=dJ l t.cp):sc (my l t) n:=by
 obtain⟨p1,p2,p3⟩:=CE l t.cp l.length 0 WL (fun k hk=>absurd hk (aju k));refine⟨fun x hx=>?_,?_⟩
 ·rcases qC l t x hx with h1|rfl
  ·exact h.1 x h1
  omega
 unfold my;generalize kf l t.cp l.length 0=k at *;have hpw:=ajW.1 h.2;have pR:∀j (hj:j<l.length),tab l j=l[j]:=fun j hj=>by unfold tab;rw[alt,al6 hj];rfl
 have hbig:∀j,k<=j->(hj:j<l.length)->kW t.cp l[j].cp<0:=fun j hkj hj=>by
  have h1:=p3 WL
  have hk:kW t.cp l[k].cp<0:=by
   rw[pR k WL]at h1;have h2:kW l[k].cp t.cp≠0:=fun h3=>hf (by rw[<-Mz h3];exact Xc (amS _))
   have h3:=GX l[k].cp t.cp;omega
  by_cases he:k=j
  ·grind
  ·exact DD hk (hpw k j WL hj WL)
 show (l.take k++[t]++l.drop k).Pairwise _
 rw[ajw,ajw];refine⟨⟨h.2.sublist (List.take_sublist _ _),WM,fun x hx y hy=>?_⟩,h.2.sublist (List.drop_sublist _ _),fun x hx y hy=>?_⟩
 ·rw[amn]at hy;subst hy;obtain⟨j,hj,he⟩:=ajt.1 hx;grind
 ·obtain⟨j,hj,he⟩:=List.mem_drop_iff_getElem.1 hy
  have hy2:=hbig (k+j) WL WL;rw[he]at hy2;rcases amm.1 hx with hx|hx
  ·obtain⟨m,hm,hme⟩:=ajt.1 hx;have:=hpw m (k+j) WL WL WL;rw[hme,he]at this;exact this
  ·rw[amn]at hx;subst hx;exact hy2
theorem StV.reg{s:ap}(h:StV s){t:aW}(h2:(kY s t).2=0):StV (kY s t).1:=by
 unfold kY at *;split at h2
 ·omega
 ·rename_i h3
  rw[al5 h3];split at h2
  ·omega
  ·rename_i h4
   rw[al5 h4];split at h2
   ·omega
   ·rename_i h5
    rw[al5 h5];have hv:gh t s.cfg.bals.length=0:=WL
    obtain⟨w,op⟩:=h
    have key:((iZ s.tabs t s.cfg.bals.length s.cfg.lim.table).1.length:Int)<=s.cfg.lim.table/\sc (iZ s.tabs t s.cfg.bals.length s.cfg.lim.table).1 s.cfg.bals.length/\∀x∈s.tabs,x∈(iZ s.tabs t s.cfg.bals.length s.cfg.lim.table).1:=by
     unfold iZ;rw[al5 WL];split
     ·exact⟨w.z4,w.tv,fun x hx=>hx⟩
     ·rename_i h6
      split
      ·exact⟨w.z4,w.tv,fun x hx=>hx⟩
      ·refine⟨by rw[vB];omega,w.tv.add hv h6,fun x hx=>?_⟩;unfold my;rw[<-amF (kf s.tabs t.cp s.tabs.length 0) s.tabs]at hx;grind
    obtain⟨k1,k2,k3⟩:=key
    have hj:∃x∈(iZ s.tabs t s.cfg.bals.length s.cfg.lim.table).1,x.cp=s.j:=by
     obtain⟨x,hx,he⟩:=w.tj;grind
    exact⟨⟨w.ne,w.tree,w.z1,w.z2,w.z3,k1,w.fr,w.jf,w.ji,w.fj,hj,k2,w.ll,w.lv,w.qv,w.bo,w.nm,w.je,w.ea,w.nd,w.av,fun b hb=>⟨(w.ob b hb).rt,(w.ob b hb).un,(w.ob b hb).ti,(w.ob b hb).nw,(w.ob b hb).ol⟩,w.od⟩,op⟩
theorem sK(v x:Int):∀l:List Int,x∈pX l v↔x=v\/x∈l
 | []=>by simp[pX]
 | a :: r => by
   have c:=sK v x r;unfold pX;split
   ·grind
   grind
theorem uP(v:Int):∀l:List Int,l.Pairwise (· < ·)->(pX l v).Pairwise (· < ·)
 | [],_=>by simp[pX]
 | a :: r, h => by
   rw[aj8]at h;have f:=uP v r h.2;unfold pX;split
   ·rw[aj8];refine⟨fun x d=>?_,f⟩;rcases (sK v x r).1 d with e|e
    ·omega
    grind
   ·split
    ·simp_all
    ·rw[aj8,aj8];grind
def zD(l:List Int)(n:Int):Prop:=(∀x∈l,0<=x/\x<n)/\l.Pairwise (· < ·)
theorem Df{l:List Int}{n:Int}(h:cE l n=0):zD l n:=by
 obtain⟨h1,h2⟩:=iS h
 have mono:∀d i,i+d+1<l.length+0->l.getD i 0<l.getD (i+d+1) 0:=by
  intro d;induction d with
  |zero=>grind
  | succ d ih =>
    grind
 refine⟨fun x hx=>?_,ajW.2 fun i j hi hj hij=>?_⟩
 ·obtain⟨k,hk,rfl⟩:=amJ hx;grind
 ·have:=mono (j-i-1) i WL;grind
theorem Jf{l:List Int}{n:Int}(h:zD l n)(g:l≠[]):cE l n=0:=by
 have d:∀k i,i+k=l.length->nV l n i=0:=by
  intro k;induction k with
  |zero=>intro i c;exact oQ WL
  | succ k f =>
    intro i c;have a:i<l.length:=WL
    rw[lY a];have j:=h.1 (l.getD i 0) (bK 0 a);rw[al5 WL,al5]
    ·grind
    ·rintro⟨m,e⟩;have:=ajW.1 h.2 (i-1) i WL a WL;grind
 unfold cE;simp_all
theorem zD.ins{l:List Int}{n:Int}(h:zD l n){v:Int}(hv:0<=v/\v<n):zD (pX l v) n:=
 ⟨fun x hx=>((sK v x l).1 hx).elim (fun e=>e▸hv) fun hx=>h.1 x hx,uP v l h.2⟩
theorem Lf{l m:List Int}{n:Int}(h:∀x∈l,0<=x/\x<n)(i:Nat):∀x∈kr l m i,0<=x/\x<n:=by
 have d:∀ (k a:List Int),(∀x∈k,0<=x/\x<n)->(∀x∈a,0<=x/\x<n)->∀x∈k.foldl (fun a v=>if v∈m then pX a v else a) a,0<=x/\x<n:=by
  intro k;induction k with
  |nil=>simp
  | cons y k f =>
    intro a g j;rw[akY];refine f _ (fun x b=>g x (amM _ b)) ?_;split
    ·intro x b;rcases (sK y x a).1 b with e|e
     ·simp_all
     grind
    omega
 exact d _ _ (fun x b=>h x (akq b)) WM
theorem Lz{set l:List Int}{n:Int}(h:zD set n)(d:∀x∈l,0<=x/\x<n):zD (Gb set l) n:=by
 refine Yy (f:=IB l) (a:=set) (fun _ o=>zD o n) h l.length (fun i o e c=>?_) _ (amb _);exact c.ins (d _ (bK 0 e))
theorem StV.slash{s:ap}(h:StV s){x:fe}(h2:(ik s x).2=0):StV (ik s x).1:=by
 unfold ik at *;split at h2
 ·omega
 ·rename_i h3
  rw[al5 h3];split at h2
  ·omega
  ·rename_i h4
   rw[al5 h4];have he:evE x.a x.fst.vals x.snd.vals s.cfg.bals.length=0:=WL
   have hv:cE x.fst.vals s.cfg.bals.length=0:=by
    unfold evE at he;split at he
    ·omega
    omega
   obtain⟨w,op⟩:=h
   have hset:zD s.eqv s.cfg.bals.length:=by
    rcases w.qv with h5|h5
    ·rw[h5];exact⟨WM,WM⟩
    ·exact Df h5
   have hq:=Lz hset (Lf (Df hv).1 (m:=x.snd.vals) x.fst.vals.length)
   have hq2:Gb s.eqv (kr x.fst.vals x.snd.vals x.fst.vals.length)=[]\/cE (Gb s.eqv (kr x.fst.vals x.snd.vals x.fst.vals.length)) s.cfg.bals.length=0:=by
    by_cases h5:Gb s.eqv (kr x.fst.vals x.snd.vals x.fst.vals.length)=[]
    ·grind
    ·exact .inr (Jf hq h5)
   exact⟨⟨w.ne,w.tree,w.z1,w.z2,w.z3,w.z4,w.fr,w.jf,w.ji,w.fj,w.tj,w.tv,w.ll,w.lv,hq2,w.bo,w.nm,w.je,w.ea,w.nd,w.av,fun b hb=>⟨(w.ob b hb).rt,(w.ob b hb).un,(w.ob b hb).ti,(w.ob b hb).nw,(w.ob b hb).ol⟩,w.od⟩,op⟩
structure afJ(s:ap)(b:Blk):Prop where
 root:b.root≠rt0
 kn:nL s b.root=false
 now:b.slot<=s.now
 old:(da s s.f.ep).1<b.slot
 par:0<=aj s.nodes b.parent
 slot:(nod s.nodes (aj s.nodes b.parent).toNat).blk.slot<b.slot
 st:(nod s.nodes (aj s.nodes b.parent).toNat).status≠2
 fit:EG s b=true
 mrg:HP s.cfg.ttd (nod s.nodes (aj s.nodes b.parent).toNat).blk b=true
 lim:(s.nodes.length:Int)<s.cfg.lim.node
theorem QK{s:ap}{b:Blk}(h:de s b=0):afJ s b:=by
 unfold de at h;by_cases g:b.root=rt0
 ·grind
 by_cases l:nL s b.root=true
 ·grind
 by_cases n:s.now<b.slot
 ·omega
 by_cases j:b.slot<=(da s s.f.ep).1
 ·omega
 by_cases m:aj s.nodes b.parent<0
 ·omega
 by_cases k:b.slot<=(nod s.nodes (aj s.nodes b.parent).toNat).blk.slot
 ·omega
 by_cases i:(nod s.nodes (aj s.nodes b.parent).toNat).status=2
 ·omega
 by_cases o:EG s b=false
 ·grind
 by_cases p:HP s.cfg.ttd (nod s.nodes (aj s.nodes b.parent).toNat).blk b=false
 ·grind
 by_cases f:s.cfg.lim.node<=s.nodes.length
 ·omega
 exact⟨g,WO,WL,WL,WL,WL,i,WO,WO,WL⟩
structure agU(s:ap)(b:Blk):Prop where
 root:b.root≠rt0
 kn:nL s b.root=false
 now:b.slot<=s.now
 old:(da s s.f.ep).1<b.slot
 par:aj s.nodes b.parent<0
theorem XT{s:ap}{b:Blk}(h:de s b=10):agU s b:=by
 unfold de at h;by_cases d:b.root=rt0
 ·grind
 by_cases e:nL s b.root=true
 ·grind
 by_cases f:s.now<b.slot
 ·omega
 by_cases g:b.slot<=(da s s.f.ep).1
 ·omega
 by_cases c:aj s.nodes b.parent<0
 ·exact⟨d,WO,WL,WL,c⟩
 omega
theorem RF{s:ap}{r:Rt}(h:nL s r=false):aj s.nodes r<0/\∀b∈s.orph,b.root≠r:=by
 unfold nL at h;refine⟨WO,fun b e j=>?_⟩;cases f:dW (fun i=>decide ((dn s.orph i).root=r)) s.orph.length with
 | none =>
   obtain⟨k,g,d⟩:=amJ e;have:=aky (iL f k g);unfold dn at this;grind
 |some k=>grind
theorem Yj{t:List Nod}(n:Nod){r:Rt}(h:0<=aj t r):aj (t++[n]) r=aj t r:=by
 obtain⟨m,w⟩:=dO h;have g:=DR (n:=n) h;obtain⟨u,v⟩:=dO g;unfold aj at h g m u ⊢;cases l:dW (fun i=>decide ((nod t i).blk.root=r)) t.length with
 |none=>rw[l,jP]at h;omega
 | some a =>
   cases k:dW (fun i=>decide ((nod (t++[n]) i).blk.root=r)) (t++[n]).length with
   |none=>rw[k,jP]at g;omega
   | some b =>
     obtain⟨p,x,y⟩:=fZ l;obtain⟨z,q,o⟩:=fZ k;rw[Ck,Ck]
     have s:b<=a:=by
      rcases akP a b with e|d
      ·have:=o a e;rw[eO,al7 p]at this;grind
      omega
     have d:a<=b:=by
      rcases akP b a with e|d
      ·rw[eO,al7 WL]at q;grind
      omega
     omega
theorem StW.insN{s:ap}(h:StW s){b:Blk}(hc:afJ s b):StW (dD s (s.nodes++[⟨b,aj s.nodes b.parent,dc b⟩])):=by
 obtain⟨p1,p2⟩:=dO hc.par;obtain⟨k1,k2⟩:=RF hc.kn;have hy:b.payload=rt0->dc b=1:=fun hh=>by unfold dc;grind
 have hv:dc b=1->(nod s.nodes (aj s.nodes b.parent).toNat).status=1:=fun hh=>by
  have h1:b.payload=rt0:=by
   unfold dc at hh;split at hh
   ·omega
   omega
  have h2:=hc.mrg;unfold HP at h2;rw[al7 h1]at h2;exact h.tree.py _ p1 (aks h2)
 have tr:=h.tree.snoc (n:=⟨b,aj s.nodes b.parent,dc b⟩) hc.par WO (SV b) (fun i hi=>(Cy.1 k1) _ (Cw hi)) p2.symm hc.slot hv hc.st hy;have n0:nod (s.nodes++[⟨b,aj s.nodes b.parent,dc b⟩]) 0=nod s.nodes 0:=by rw[eO,al7 h.tree.pos]
 have hjf:=Yj ⟨b,aj s.nodes b.parent,dc b⟩ h.jf;refine⟨h.ne,tr,?_,h.z2,h.z3,h.z4,?_,?_,?_,h.fj,h.tj,h.tv,h.ll,h.lv,h.qv,?_,h.nm,h.je,⟨h.ea.1,?_⟩,fun n hn=>?_,h.av,fun x hx=>?_,h.od⟩
 ·have:=hc.lim;show (((s.nodes++[_]).length:Nat):Int)<=s.cfg.lim.node
  grind
 ·show (nod (s.nodes++[_]) 0).blk.root=s.f.rt
  rw[n0];exact h.fr
 ·show 0<=aj (s.nodes++[_]) s.j.rt
  rw[hjf];exact h.jf
 ·show (nod (s.nodes++[_]) (aj (s.nodes++[_]) s.j.rt).toNat).status≠2
  rw[hjf,eO,al7 (dO h.jf).1];exact h.ji
 ·rcases h.bo with h1|h1
  ·exact .inl h1
  ·exact .inr (DR h1)
 ·show (nod (s.nodes++[_]) 0).blk.slot<=_
  rw[n0];exact h.ea.2
 ·rcases amm.1 hn with hn|hn
  ·exact h.nd n hn
  ·rw[amn]at hn;subst hn;have h1:=hc.fit;unfold EG at h1;simp only[amk]at h1;exact⟨hc.now,h1.2.1⟩
 ·obtain⟨a1,a2,a3,a4,a5⟩:=h.ob x hx
  refine⟨a1,?_,a3,a4,a5⟩;rw[Cy]at a2 ⊢;intro n hn;rcases amm.1 hn with hn|hn
  ·grind
  ·rw[amn]at hn;subst hn;exact fun he=>k2 x hx he.symm
theorem VW{s:ap}{i:Nat}(d:bP s i){b:Blk}(c:de s b=0):(BV s.nodes b (dc b)).1=s.nodes++[⟨b,aj s.nodes b.parent,dc b⟩]:=(OX (VX (Mp c) (by have:=d.cfg.ln;omega))).1
theorem StW.ins{s:ap}{i:Nat}(h:StW s)(e:bP s i){b:Blk}(c:de s b=0)(a:np i b):StW (kL s b):=by
 have d:=e.insN c a;have f:StW (dD s (BV s.nodes b (dc b)).1):=by rw[VW e c];exact h.insN (QK c)
 unfold kL;split
 ·exact(f.upd d a.just a.fin).upd (d.upd a.just a.fin) a.j a.f
 ·exact f.upd d a.just a.fin
theorem StW.withO{s:ap}(h:StW s){l:List Blk}(a:l.Sublist s.orph):StW (Go.FH.withO s l):=by
 have d:=a.length_le;exact⟨h.ne,h.tree,h.z1,by have:=h.z2;show (l.length:Int)<=s.cfg.lim.orph;omega,h.z3,h.z4,h.fr,h.jf,h.ji,h.fj,h.tj,h.tv,h.ll,h.lv,h.qv,h.bo,h.nm,h.je,h.ea,h.nd,h.av,fun b c=>⟨(h.ob b (a.subset c)).rt,(h.ob b (a.subset c)).un,(h.ob b (a.subset c)).ti,(h.ob b (a.subset c)).nw,(h.ob b (a.subset c)).ol⟩,h.od.sublist a⟩
theorem ZZ(l:List Blk)(i:Nat):(takeO l i).Sublist l:=by
 unfold takeO;have h:=amF i l;grind
theorem StW.waitR{p:ap×List Rt}{i:Nat}(h:StW p.1)(d:bP p.1 i)(j:0<=cY p.1):StW (waitR p).1:=by
 have g:=i6 p.1;have e:=h.withO (ZZ p.1.orph (cY p.1).toNat);have b:=d.takeO (cY p.1).toNat
 unfold Go.Proofs.YtmpddimhleianaaGreat.waitR;split
 ·rename_i f;exact e.ins b f (d.uo _ (bK _ WL))
 omega
theorem abs(s:ap)(b:Blk):(kL s b).orph.length<=s.orph.length:=by
 unfold kL;split
 ·exact ams (pT _ _ _).1 (pT _ _ _).1
 ·exact(pT _ _ _).1
theorem aag{p:ap×List Rt}(g:0<=cY p.1):(waitR p).1.orph.length<p.1.orph.length:=by
 have e:=i6 p.1;have f:=NI p.1.orph (i:=(cY p.1).toNat) WL;unfold waitR;split
 ·have:=abs (withO p.1 (takeO p.1.orph (cY p.1).toNat)) (dn p.1.orph (cY p.1).toNat);have h:(withO p.1 (takeO p.1.orph (cY p.1).toNat)).orph=takeO p.1.orph (cY p.1).toNat:=rfl;grind
 ·show (takeO p.1.orph (cY p.1).toNat).length<_
  omega
theorem StW.waitG{i:Nat}:∀ (f:Nat) {p:ap×List Rt},StW p.1->bP p.1 i->p.1.orph.length<f->StW (waitG f p).1/\cY (waitG f p).1<0
 |0,_,_,_,h=>by omega
 | f + 1, p, h, c, d => by
   unfold Go.Proofs.YtmpddimhleianaaGreat.waitG;split
   ·grind
   ·have a:0<=cY p.1:=WL
    exact StW.waitG f (h.waitR c a) (c.waitR a) (by have:=aag a;omega)
theorem afm{s:ap}(h:cY s<0):∀b∈s.orph,aj s.nodes b.parent<0:=by
 intro b f;unfold cY at h;cases d:dW (fun i=>decide (0<=aj s.nodes (dn s.orph i).parent)) s.orph.length with
 |some k=>rw[d,Ck]at h;omega
 | none =>
   obtain⟨k,g,e⟩:=amJ f;have:=aky (iL d k g);unfold dn at this;grind
theorem MX{t:List Nod}{n:Nod}(f:dU t)(g:dU (t++[n])):∀m i:Nat,i<m->i<t.length->AI (t++[n]) i=AI t i
 |0,_,h,_=>by omega
 | m + 1, i, q, d => by
   have j:i<(t++[n]).length:=WO
   rcases ajQ i with b|b
   ·subst b;rw[show ((0:Nat):Int)=0 from rfl,jv d,jv j]
   ·have e:(nod (t++[n]) i).up=(nod t i).up:=by rw[eO,al7 d]
    obtain⟨o,r⟩:=f.ok i b d;obtain⟨v,p⟩:∃v:Nat,(nod t i).up=v:=⟨_,(amC o).symm⟩
    rw[jw g.ok b j,jw f.ok b d,e,p,MX f g m v WL WL]
theorem adr{t:List Nod}{n:Nod}(d:dU t)(f:dU (t++[n]))(h:0<=n.up)(j:n.up<t.length){m:Int}(l:m∈AI t n.up):eh (t++[n]) m t.length=true:=by
 have i:t.length<(t++[n]).length:=WM
 have e:(nod (t++[n]) t.length).up=n.up:=by rw[eO,al5 (aj3 _),al7 rfl]
 obtain⟨v,g⟩:∃v:Nat,n.up=v:=⟨_,(amC h).symm⟩
 unfold eh;rw[jw f.ok d.pos i,e,g,MX d f (v+1) v WL WL,<-g];grind
theorem sr.inj{t u:List Nod}{i0:Nat}{c:List Nat}(p:sr t i0 u c){a k:Nat}(d:a<u.length)(e:k<u.length)(h:c.getD a 0=c.getD k 0):a=k:=by
 rcases alb a k with b|b|b
 ·have:=p.mono a k b e;omega
 ·omega
 ·have:=p.mono k a b d;omega
theorem sr.anc{t u:List Nod}{i0:Nat}{c:List Nat}(e:dU t)(g:dU u)(p:sr t i0 u c):∀m k a,k<m->a<u.length->k<u.length->eh t (c.getD a 0) (c.getD k 0)=true->eh u a k=true
 |0,k,a,h,_,_,_=>by omega
 | m + 1, k, a, s, j, d, h => by
   by_cases q:c.getD a 0=c.getD k 0
   ·obtain rfl:=p.inj j d q;exact xz g d
   ·have f:=(p.src k d).1
    obtain⟨v,A⟩:=NY e f h WL
    have b:0<k:=by
     rcases ajQ k with n|n
     ·subst n;have i:=Gt e h;have w:=Gt e (p.src a j).2.1;rw[p.zero.1]at i q;omega
     omega
    obtain⟨x,i,w,B⟩:=p.up k b d;obtain⟨y,z⟩:=e.ok _ v f;have l:(((nod u k).up.toNat:Nat):Int)=(nod u k).up:=amC i;have o:=sr.anc e g p m (nod u k).up.toNat a WL j WL WO;rw[l]at o;exact QB g b d o
def qQ(u:List Nod)(r r':Rt):Prop:=0<=aj u r'/\(0<=aj u r->eh u (aj u r) (aj u r')=true)
theorem xC{t:List Nod}(h:TrV t){k:Nat}(e:k<t.length){r:Rt}(d:(nod t k).blk.root=r):aj t r=k:=by
 have g:=lH e d;obtain⟨i,f⟩:=dO g;rcases alb k (aj t r).toNat with b|b|b
 ·exact absurd (d.trans f.symm) (h.ds _ _ b i)
 ·omega
 ·exact absurd (f.trans d.symm) (h.ds _ _ b e)
theorem Tl{s:ap}(h:StW s){j f:Cp}{d:Rt}(n:0<=aj s.nodes d)(x:s.f.ep<f.ep->qQ s.nodes f.rt d):0<=aj (dK s j f).nodes d/\∀r,qQ s.nodes r d->qQ (dK s j f).nodes r d:=by
 unfold dK;by_cases v:wv s (fh s.j j) (fh s.f f)=false
 ·grind
 rw[al5 v];have m:=ag8 v;by_cases k:fh s.f f=s.f
 ·grind
 rw[al5 k]
 have i:s.f.ep<f.ep:=by
  unfold fh at k;split at k
  ·omega
  grind
 have g:fh s.f f=f:=by unfold fh;grind
 rw[g]at m ⊢;obtain⟨u,C⟩:=dO m.k0;obtain⟨F,p⟩:=O4 h.tree.r u;have w:(((aj s.nodes f.rt).toNat:Nat):Int)=aj s.nodes f.rt:=amC m.k0;have e:=h.tree.prune u;rw[w]at p e;have a:=xd h.tree.r n ((x i).2 m.k0);refine⟨a,fun r y=>⟨a,fun A=>?_⟩⟩;obtain⟨o,E⟩:=dO A;obtain⟨q,D⟩:=dO a;have z:=xC h.tree (p.src _ o).1 (r:=r) (by rw[<- (p.src _ o).2.2.1];omega);have B:=xC h.tree (p.src _ q).1 (r:=d) (by rw[<- (p.src _ q).2.2.1];omega);have t:=y.2 WL;rw[z,B]at t;have:=p.anc h.tree.r e.r _ _ _ (akR _) o q t;grind
theorem aaw(t:List Nod)(i b:Int):atT t i b=-1\/atT t i b∈AI t i:=by
 refine Yy (f:=fun k h=>if (nod t ((AI t i).getD k 0).toNat).blk.slot<=b then (AI t i).getD k 0 else h) (a:=(-1:Int)) (fun _ x=>x=-1\/x∈AI t i) (.inl rfl) (AI t i).length (fun k x n m=>?_) _ (amb _);split
 ·grind
 omega
theorem Rz{s:ap}(h:StW s){b:Blk}(j:afJ s b){c:Cp}(a:rV s b (aj s.nodes b.parent) c=true)(w:s.f.ep<c.ep):qQ (s.nodes++[⟨b,aj s.nodes b.parent,dc b⟩]) c.rt b.root:=by
 have u:=h.insN j;have i:TrV (s.nodes++[⟨b,aj s.nodes b.parent,dc b⟩]):=u.tree;obtain⟨z,C⟩:=dO j.par;have p:s.nodes.length<(s.nodes++[(⟨b,aj s.nodes b.parent,dc b⟩:Nod)]).length:=WM
 have m:nod (s.nodes++[(⟨b,aj s.nodes b.parent,dc b⟩:Nod)]) s.nodes.length=⟨b,aj s.nodes b.parent,dc b⟩:=by rw[eO,al5 (aj3 _),al7 rfl]
 have o:=xC i p (r:=b.root) WO;refine⟨WL,fun y=>?_⟩;rw[o];unfold rV at a;rw[aA WL,aj9]at a;by_cases q:(da s c.ep).1<b.slot
 ·rw[al7 q,amk,amg,amg]at a;obtain⟨l,B⟩:=a;have t:=(aaw s.nodes (aj s.nodes b.parent) (da s c.ep).1).resolve_left WL;have A:=gu h.tree.r.ok t;have x:(atT s.nodes (aj s.nodes b.parent) (da s c.ep).1).toNat<s.nodes.length:=WL
  have v:=xC i (k:=(atT s.nodes (aj s.nodes b.parent) (da s c.ep).1).toNat) WL (r:=c.rt) (by rw[eO,al7 x];omega);rw[v,amC l];exact adr (n:=⟨b,aj s.nodes b.parent,dc b⟩) h.tree.r i.r j.par WO t
 ·rw[al5 q]at a;have l:b.root=c.rt:=aks a;rw[<-l,o];exact xz i.r p
theorem aga{s:ap}{b:Blk}(h:EG s b=true):rV s b (aj s.nodes b.parent) b.fin=true/\rV s b (aj s.nodes b.parent) b.pul.f=true:=by
 unfold EG at h;cases d:dW (fun k=>!rV s b (aj s.nodes b.parent) ((cps b).getD k cp0)) 4 with
 |some k=>grind
 | none =>
   have f:=iL d 1 WM;have c:=iL d 3 WM;simp only[akz]at f c;exact⟨f,c⟩
theorem Yx{s:ap}{i:Nat}(h:StW s)(n:bP s i){b:Blk}(g:de s b=0)(m:np i b):0<=aj (kL s b).nodes b.root:=by
 have d:=QK g;obtain⟨u,t⟩:=aga d.fit;have r:=n.insN g m;have e0:=VW n g;have p:StW (dD s (BV s.nodes b (dc b)).1):=by rw[e0];exact h.insN d
 have w:s.f.ep<b.fin.ep->qQ (dD s (BV s.nodes b (dc b)).1).nodes b.fin.rt b.root:=fun e=>by
  rw[e0];exact Rz h d u e
 have v:s.f.ep<b.pul.f.ep->qQ (dD s (BV s.nodes b (dc b)).1).nodes b.pul.f.rt b.root:=fun e=>by
  rw[e0];exact Rz h d t e
 have l:0<=aj (dD s (BV s.nodes b (dc b)).1).nodes b.root:=by
  show 0<=aj (BV s.nodes b (dc b)).1 b.root
  rw[e0];exact lH (k:=s.nodes.length) WM (by rw[eO,al5 (aj3 _),al7 rfl])
 have x:(dD s (BV s.nodes b (dc b)).1).f=s.f:=rfl;have o:=Tl p (j:=b.just) (f:=b.fin) l WO
 have q:s.f.ep<=(dK (dD s (BV s.nodes b (dc b)).1) b.just b.fin).f.ep:=by
  unfold dK;split
  ·grind
  ·split
   ·grind
   ·unfold fh;grind
 unfold kL;split
 ·exact(Tl (p.upd r m.just m.fin) o.1 (fun e=>o.2 _ (v WL))).1
 omega
theorem StW.withB{s:ap}(h:StW s){r:Rt}(hr:r=rt0\/0<=aj s.nodes r):StW (Go.FH.withB s r):=
 ⟨h.ne,h.tree,h.z1,h.z2,h.z3,h.z4,h.fr,h.jf,h.ji,h.fj,h.tj,h.tv,h.ll,h.lv,h.qv,hr,h.nm,h.je,h.ea,h.nd,h.av,fun b hb=>⟨(h.ob b hb).rt,(h.ob b hb).un,(h.ob b hb).ti,(h.ob b hb).nw,(h.ob b hb).ol⟩,h.od⟩
theorem StV.block{s:ap}{i:Nat}(h:StV s)(f:bP s i){b:Blk}(j:np i b)(n:(di s b).2.2=0):StV (di s b).1:=by
 unfold di at *;by_cases k:de s b=10
 ·rw [al7 k] at n ⊢
  by_cases d:s.cfg.lim.orph<=s.orph.length
  ·grind
  ·rw [al5 d]
   have c:=XT k;obtain⟨A,z⟩:=RF c.kn;obtain⟨w,o⟩:=h;refine⟨⟨w.ne,w.tree,w.z1,?_,w.z3,w.z4,w.fr,w.jf,w.ji,w.fj,w.tj,w.tv,w.ll,w.lv,w.qv,w.bo,w.nm,w.je,w.ea,w.nd,w.av,fun x a=>?_,?_⟩,fun x a=>?_⟩
   ·show (((s.orph++[noT b]).length:Nat):Int)<=s.cfg.lim.orph
    rw[akC,ajr];omega
   ·rcases amm.1 a with a|a
    ·obtain⟨q,r,t,u,v⟩:=w.ob x a;exact⟨q,r,t,u,v⟩
    ·rw[amn]at a;subst a;exact⟨c.root,A,rfl,c.now,c.old⟩
   ·show (s.orph++[noT b]).Pairwise _
    rw[ajw];refine⟨w.od,WM,fun x a y m=>?_⟩;rw[amn]at m;subst m;exact z x a
   ·rcases amm.1 a with a|a
    ·exact o x a
    ·rw[amn]at a;subst a;exact c.par
 ·rw [al5 k] at n ⊢
  by_cases d:de s b≠0
  ·grind
  ·rw[al5 d]
   have d:de s b=0:=WL
   have B:StW (blockI s b):=by
    unfold blockI;split
    ·exact(h.w.ins f d j).withB (.inr (Yx h.w f d j))
    ·exact h.w.ins f d j
   obtain⟨D,E⟩:=StW.waitG ((blockI s b).orph.length+1) (p:=(blockI s b,[b.root])) B (f.blockI d j) (akR _);exact⟨D,afm E⟩
end Go.Proofs.YtmpddimhleianaaGreat
