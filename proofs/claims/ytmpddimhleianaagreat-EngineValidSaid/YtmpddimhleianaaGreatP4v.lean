/- Joined. -/
import Derived.Test.YtmpddimhleianaaGreatV7v
import Derived.Test.YtmpddimhleianaaGreatV5v
import Derived.Test.YtmpddimhleianaaGreatP1v
import Derived.Test.YtmpddimhleianaaGreatT1v
set_option linter.unusedVariables false
set_option linter.unusedSimpArgs false
namespace Go.Proofs.YtmpddimhleianaaGreat
open Go Go.FH Go.RowKit
structure TrV(t:List Nod):Prop where
 pos:0<t.length
 st:∀i,i<t.length->0<=(nod t i).status/\(nod t i).status<=2
 r0:(nod t 0).up=-1
 up:∀i,0<i->i<t.length->0<=(nod t i).up/\(nod t i).up<i
 ds:∀i j,i<j->j<t.length->(nod t i).blk.root≠(nod t j).blk.root
 pr:∀i,0<i->i<t.length->(nod t i).blk.parent=(nod t (nod t i).up.toNat).blk.root
 sl:∀i,0<i->i<t.length->(nod t (nod t i).up.toNat).blk.slot<(nod t i).blk.slot
 va:∀i,0<i->i<t.length->(nod t i).status=1->(nod t (nod t i).up.toNat).status=1
 iv:∀i,0<i->i<t.length->(nod t (nod t i).up.toNat).status=2->(nod t i).status=2
 py:∀i,i<t.length->(nod t i).blk.payload=rt0->(nod t i).status=1
theorem TrV.r{t:List Nod}(h:TrV t):bk t:=⟨h.up,h.pos,by rw[h.r0];simp⟩
theorem TrV.statV{t:List Nod}(h:TrV t)(m:t.length<=4096):statV t=0:=by
 have c:mW t=0:=by
  unfold mW;rw[afx (by have:=h.pos;omega)];refine vZ.2 fun i _ a=>?_
  have a:i<t.length:=af0
  unfold vo;rw[afx (by have:=h.st i a;omega),afx (fun b=>b.2 (by rw[b.1];exact h.r0)),afx (fun b=>by have:=h.up i b.1 a;omega)]
  rw[afx (fun g=>by
   obtain⟨n,f,j⟩:=acz.1 g;obtain⟨k,o,e⟩:=adt.1 f;refine h.ds k i af0 a ?_;rw[<-j,<-e];unfold nod;rw[afy,afz af0];rfl)]
  by_cases l:i=0
  ·omega
  ·rw[afx l,afx (fun b=>b (h.pr i af0 a)),afx (by have:=h.sl i af0 a;omega)]
 unfold Go.FH.statV;rw[afx af0];refine vZ.2 fun i _ a=>?_
 have a:i+1<t.length:=af0
 unfold pp;rw[afx];rintro (⟨c,d⟩|⟨c,d⟩)
 ·exact d (h.va (i+1) af0 a c)
 ·exact d (h.iv (i+1) af0 a c)
theorem TrV.snoc{t:List Nod}(h:TrV t){n:Nod}(u0:0<=n.up)(u1:n.up<t.length)(hs:0<=n.status/\n.status<=2)(hd:∀i,i<t.length->(nod t i).blk.root≠n.blk.root)(hp:n.blk.parent=(nod t n.up.toNat).blk.root)
 (hl:(nod t n.up.toNat).blk.slot<n.blk.slot) (hv:n.status=1->(nod t n.up.toNat).status=1) (hi:(nod t n.up.toNat).status≠2) (hy:n.blk.payload=rt0->n.status=1):TrV (t++[n]):=by
 have hln:(t++[n]).length=t.length+1:=af1
 have old:∀i,i<t.length->nod (t++[n]) i=nod t i:=fun i hi=>by rw[eW,afA hi]
 have new:nod (t++[n]) t.length=n:=by rw[eW,afx (adJ _),afA rfl]
 have cs:∀i,i<(t++[n]).length->i<t.length\/i=t.length:=fun i hi=>by omega
 have hup:∀i,0<i->i<t.length->(nod t i).up.toNat<t.length:=fun i h0 h1=>by have:=h.up i h0 h1;omega
 refine⟨af0,fun i hi'=>?_,by rw[old 0 h.pos];exact h.r0,fun i h0 hi'=>?_,fun i j hij hj=>?_,fun i h0 hi'=>?_,fun i h0 hi'=>?_,fun i h0 hi'=>?_,fun i h0 hi'=>?_,fun i hi'=>?_⟩
 ·rcases cs i hi' with h1|rfl
  ·rw[old i h1];exact h.st i h1
  grind
 ·rcases cs i hi' with h1|rfl
  ·rw[old i h1];exact h.up i h0 h1
  grind
 ·rcases cs j hj with h1|rfl
  ·rw[old i af0,old j h1];exact h.ds i j hij h1
  grind
 ·rcases cs i hi' with h1|rfl
  ·rw[old i h1,old _ (hup i h0 h1)];exact h.pr i h0 h1
  grind
 ·rcases cs i hi' with h1|rfl
  ·rw[old i h1,old _ (hup i h0 h1)];exact h.sl i h0 h1
  ·rw[new,old _ af0];exact hl
 ·rcases cs i hi' with h1|rfl
  ·rw[old i h1,old _ (hup i h0 h1)];exact h.va i h0 h1
  ·rw[new,old _ af0];exact hv
 ·rcases cs i hi' with h1|rfl
  ·rw[old i h1,old _ (hup i h0 h1)];exact h.iv i h0 h1
  ·rw[new,old _ af0];exact fun h2=>absurd h2 hi
 ·rcases cs i hi' with h1|rfl
  ·rw[old i h1];exact h.py i h1
  ·rw[new];exact hy
theorem TrV.stat{t u:List Nod}(h:TrV t)(m:u.length=t.length)(b:∀k,(nod u k).up=(nod t k).up/\(nod u k).blk=(nod t k).blk)(o:∀i,i<t.length->0<=(nod u i).status/\(nod u i).status<=2)
 (q:∀i,0<i->i<t.length->(nod u i).status=1->(nod u (nod t i).up.toNat).status=1) (p:∀i,0<i->i<t.length->(nod u (nod t i).up.toNat).status=2->(nod u i).status=2)
 (n:∀i,i<t.length->(nod t i).status=1->(nod u i).status=1):TrV u:=by
 refine⟨by rw[m];exact h.pos,fun i d=>o i af0,by rw[(b 0).1];exact h.r0,fun i c d=>by rw[(b i).1];exact h.up i c af0,fun i j g r=>by rw[(b i).2,(b j).2];exact h.ds i j g af0,
  fun i c d=>by rw[(b i).1,(b i).2,(b _).2];exact h.pr i c af0,fun i c d=>by rw[(b i).1,(b i).2,(b _).2];exact h.sl i c af0,fun i c d=>af3,fun i c d=>af3,
  fun i d=>by rw[(b i).2];exact fun l=>n i af0 (h.py i af0 l)⟩
theorem OS{t:List Nod}{l:List Int}{status b:Int}(e:status≠b)(j:∀x∈l,0<=x/\x<t.length):∀ {k:Nat} {u:List Nod},k<=l.length->aH (lR l status b) (some t) k=some u->
 ∀i,i<t.length->((i:Int)∈l.take k->(nod t i).status≠b/\(nod u i).status=status)/\((i:Int)∉l.take k->(nod u i).status=(nod t i).status)
 |0,u,_,h,i,f=>by cases h;simp
 | k + 1, u, r, h, i, f => by
   rw[bg]at h;cases d:aH (lR l status b) (some t) k with
   |none=>rw[d]at h;cases h
   | some v =>
     rw[d]at h;simp only[lR,adT]at h;obtain⟨m,g⟩:=OS e j af0 d i f;have n:=jD d;have q:l.getD k 0∈l:=cR 0 af0
     have o:l.take (k+1)=l.take k++[l.getD k 0]:=by
      rw[acB,afz af0,afy,afz af0];rfl
     split at h
     ·grind
     ·cases h;rw[HU];by_cases p:(i:Int)=l.getD k 0
      ·grind
      grind
theorem Ij{t u:List Nod}{l:List Int}{status b:Int}(d:status≠b)(e:∀x∈l,0<=x/\x<t.length)(h:qK t l status b=some u):
 ∀i,i<t.length->((i:Int)∈l->(nod t i).status≠b/\(nod u i).status=status)/\((i:Int)∉l->(nod u i).status=(nod t i).status):=by
 have:=OS d e (afE _) h;grind
theorem XO{t:List Nod}(g:bk t){a:Int}{k:Nat}(w:0<k)(r:k<t.length)(h:(k:Int)∈aZ t a):(nod t k).up∈aZ t a:=by
 have m:∀n i:Nat,i<n->i<t.length->(k:Int)∈aZ t i->(nod t k).up∈aZ t i:=by
  intro n;induction n with
  |zero=>omega
  | succ n u =>
    intro i o c d;rcases acF i with b|b
    ·subst b;rw[show ((0:Nat):Int)=0 from rfl,gu c]at d;grind
    ·rw[ia g.ok b c]at d ⊢
     obtain⟨l,s⟩:=g.ok i b c;obtain⟨v,p⟩:∃v:Nat,(nod t i).up=v:=⟨_,(afW l).symm⟩
     rw[afR,afN]at d;rcases d with d|d
     ·grind
     ·obtain rfl:k=i:=af0
      rw[p];rcases acF v with b|b
      ·subst b;rw[show ((0:Nat):Int)=0 from rfl,gu af0];simp
      ·rw[ia g.ok b af0];simp
 have x:=dL g.ok h;by_cases q:0<=a
 ·obtain⟨i,rfl⟩:∃i:Nat,a=i:=⟨_,(afW q).symm⟩
  by_cases y:i<t.length
  ·grind
  ·rw[jg (by simp[isN];omega)]at h;grind
 omega
theorem Jw{t:List Nod}{a:Int}{k:Nat}:(k:Int)∈ej t a↔k<t.length/\bw t a k=true:=by
 have c:∀n,(k:Int)∈aH (fun k l=>if bw t a k=true then l++[(k:Int)]else l) [] n↔k<n/\bw t a k=true:=by
  intro n;induction n with
  |zero=>simp[aH]
  | succ n d =>
    rw[bg];split
    ·grind
    grind
 exact c t.length
theorem W2{t:List Nod}{a:Int}:∀x∈ej t a,0<=x/\x<t.length:=by
 have d:∀n,n<=t.length->∀x∈aH (fun k l=>if bw t a k=true then l++[(k:Int)]else l) [] n,0<=x/\x<t.length:=by
  intro n;induction n with
  |zero=>intro _ x c;simp[aH]at c
  | succ n f =>
    intro e x c;rw[bg]at c;split at c
    ·grind
    grind
 exact d _ (afE _)
theorem Jd{t:List Nod}(d:bk t){a:Int}{k:Nat}(c:0<k)(e:k<t.length)(h:bw t a (nod t k).up=true):bw t a k=true:=by
 unfold bw at *;rw[ia d.ok c e];grind
theorem TrV.raise{t:List Nod}(h:TrV t){i:Int}(h2:(bL t i).2=0):TrV (bL t i).1/\(∀k,k<t.length->(nod t k).status=1->(nod (bL t i).1 k).status=1)/\(∀k,k<t.length->(nod (bL t i).1 k).status=2->(nod t k).status=2):=by
 have hu:=pW h2;unfold bL at *;split at h2
 ·rename_i h1
  rw[afA h1]at hu ⊢;cases h3:qK t (aZ t i) 1 2 with
  |none=>grind
  | some u =>
    rw[h3]at hu;dsimp only at hu ⊢;have hs:=Ij af1 (fun x hx=>by have:=dL h.r.ok hx;omega) h3
    have k1:∀k,k<t.length->(nod t k).status=1->(nod u k).status=1:=fun k hk h4=>by
     grind
    have k2:∀k,k<t.length->(nod u k).status=2->(nod t k).status=2:=fun k hk h4=>by
     grind
    have hup:∀k,0<k->k<t.length->((nod t k).up.toNat:Int)=(nod t k).up/\(nod t k).up.toNat<t.length:=fun k a b=>by have:=h.up k a b;omega
    refine⟨h.stat hu.1 hu.2 (fun k hk=>?_) (fun k h0 hk h4=>?_) (fun k h0 hk h4=>?_) k1,k1,k2⟩
    ·by_cases hp:(k:Int)∈aZ t i
     ·grind
     ·rw[(hs k hk).2 hp];exact h.st k hk
    ·obtain⟨a,b⟩:=hup k h0 hk
     by_cases hp:(k:Int)∈aZ t i
     ·have:=XO h.r h0 hk hp;grind
     ·rw[(hs k hk).2 hp]at h4;exact k1 _ b (h.va k h0 hk h4)
    ·obtain⟨a,b⟩:=hup k h0 hk;have h5:=h.iv k h0 hk (k2 _ b h4);by_cases hp:(k:Int)∈aZ t i
     ·exact absurd h5 ((hs k hk).1 hp).1
     ·rw[(hs k hk).2 hp];exact h5
 omega
theorem TrV.cond{t:List Nod}(h:TrV t){i:Int}(h2:(fg t i).2=0):TrV (fg t i).1/\(∀k,k<t.length->(nod t k).status=1->(nod (fg t i).1 k).status=1)/\(∀k,k<t.length->(nod (fg t i).1 k).status=2->(nod t k).status=2\/bw t i k=true):=by
 have hu:=zZ h2;unfold fg at *;split at h2
 ·rename_i h1
  rw[afA h1]at hu ⊢;cases h3:qK t (ej t i) 2 1 with
  |none=>grind
  | some u =>
    rw[h3]at hu;dsimp only at hu ⊢;have hs:=Ij af1 W2 h3
    have k1:∀k,k<t.length->(nod t k).status=1->(nod u k).status=1:=fun k hk h4=>by
     grind
    have k2:∀k,k<t.length->(nod u k).status=2->(nod t k).status=2\/bw t i k=true:=fun k hk h4=>by
     by_cases hp:(k:Int)∈ej t i
     ·exact .inr (Jw.1 hp).2
     grind
    have hup:∀k,0<k->k<t.length->((nod t k).up.toNat:Int)=(nod t k).up/\(nod t k).up.toNat<t.length:=fun k a b=>by have:=h.up k a b;omega
    refine⟨h.stat hu.1 hu.2 (fun k hk=>?_) (fun k h0 hk h4=>?_) (fun k h0 hk h4=>?_) k1,k1,k2⟩
    ·by_cases hp:(k:Int)∈ej t i
     ·grind
     ·rw[(hs k hk).2 hp];exact h.st k hk
    ·obtain⟨a,b⟩:=hup k h0 hk
     by_cases hp:(k:Int)∈ej t i
     ·grind
     ·rw[(hs k hk).2 hp]at h4;exact k1 _ b (h.va k h0 hk h4)
    ·obtain⟨a,b⟩:=hup k h0 hk
     rcases k2 _ b h4 with h5|h5
     ·have h6:=h.iv k h0 hk h5;by_cases hp:(k:Int)∈ej t i
      ·exact((hs k hk).1 hp).2
      ·rw[(hs k hk).2 hp];exact h6
     ·rw[a]at h5;exact((hs k hk).1 (Jw.2 ⟨hk,Jd h.r h0 hk h5⟩)).2
 omega
structure abr(t:List Nod)(i0:Int)(k:Nat)(p:List Nod×List Int)(ms:List Nat):Prop where
 len:ms.length=p.1.length
 ixl:p.2.length=k
 src:∀u,u<p.1.length->ms.getD u 0<k/\bw t i0 (ms.getD u 0)=true/\(nod p.1 u).blk=(nod t (ms.getD u 0)).blk/\(nod p.1 u).status=(nod t (ms.getD u 0)).status
 up:∀u,u<p.1.length->((ms.getD u 0:Int)=i0->(nod p.1 u).up=-1)/\((ms.getD u 0:Int)≠i0->0<=(nod p.1 u).up/\(nod p.1 u).up<u/\ms.getD (nod p.1 u).up.toNat 0=(nod t (ms.getD u 0)).up.toNat)
 mono:∀u v,u<v->v<p.1.length->ms.getD u 0<ms.getD v 0
 ix:∀m:Nat,m<k->bw t i0 m=true->0<=p.2.getD m 0/\p.2.getD m 0<p.1.length/\ms.getD (p.2.getD m 0).toNat 0=m
theorem JX{l:List Nat}{x:Nat}{m:Nat}:(l++[x]).getD m 0=if m<l.length then l.getD m 0 else if m=l.length then x else 0:=by
 grind
theorem aaV{t:List Nod}(ht:bk t)(i0:Int):∀k,k<=t.length->∃ms,abr t i0 k (aH (dM t i0) ([],[]) k) ms
 |0,_=>⟨[],⟨rfl,rfl,fun u h=>absurd h (acJ _),fun u h=>absurd h (acJ _),fun u v _ h=>absurd h (acJ _),fun m h=>absurd h (acJ _)⟩⟩
 | k + 1, hk => by
   obtain⟨ms,ih⟩:=aaV ht i0 k af0;rw[bg];generalize aH (dM t i0) ([],[]) k=p at *;obtain⟨kp,ix⟩:=p;obtain⟨l1,l2,l3,l4,l5,l6⟩:=ih;dsimp only at l1 l2 l3 l4 l5 l6;unfold dM;by_cases ha:bw t i0 k=true
   ·rw [afA ha]
    dsimp only;have hln:(kp++[(⟨(nod t k).blk,if (k:Int)=i0 then -1 else ix.getD (nod t k).up.toNat 0,(nod t k).status⟩:Nod)]).length=kp.length+1:=af1
    have oldN:∀ (n:Nod) u,u<kp.length->nod (kp++[n]) u=nod kp u:=fun n u hu=>by rw[eW,afA hu]
    have newN:∀ (n:Nod),nod (kp++[n]) kp.length=n:=fun n=>by rw[eW,afx (adJ _),afA rfl]
    have oldM:∀u,u<kp.length->(ms++[k]).getD u 0=ms.getD u 0:=fun u hu=>by rw[JX,afA af0]
    have newM:(ms++[k]).getD kp.length 0=k:=by rw[JX,afx af0,afA af0]
    refine⟨ms++[k],by simp[l1],by simp[l2],fun u hu=>?_,fun u hu=>?_,fun u v huv hv=>?_,fun m hm hma=>?_⟩
    ·rw[hln]at hu
     by_cases h1:u<kp.length
     ·rw[oldM u h1,oldN _ u h1];obtain⟨a1,a2,a3,a4⟩:=l3 u h1;exact⟨af0,a2,a3,a4⟩
     ·obtain rfl:u=kp.length:=af0
      rw[newM,newN];exact⟨af0,ha,rfl,rfl⟩
    ·rw[hln]at hu
     by_cases h1:u<kp.length
     ·rw[oldM u h1,oldN _ u h1];obtain⟨a1,a2⟩:=l4 u h1;refine⟨a1,fun h=>?_⟩;obtain⟨b1,b2,b3⟩:=a2 h;exact⟨b1,b2,by rw[oldM _ af0];exact b3⟩
     ·obtain rfl:u=kp.length:=af0
      rw[newM,newN];dsimp only;refine⟨fun h=>afA h,fun h=>?_⟩;rw[afx h];obtain⟨h0,h1⟩:=G5 ht af0 ha h;obtain⟨h2,h3⟩:=ht.ok k h0 af0;obtain⟨b1,b2,b3⟩:=l6 (nod t k).up.toNat af0 (by rw[afW h2];exact h1);exact⟨b1,b2,by rw[oldM _ af0];exact b3⟩
    ·rw[hln]at hv
     by_cases h1:v<kp.length
     ·rw[oldM u af0,oldM v h1];exact l5 u v huv h1
     ·obtain rfl:v=kp.length:=af0
      rw[newM,oldM u huv];exact(l3 u huv).1
    ·rw[wa]
     by_cases hmk:m<k
     ·rw[afA af0];obtain⟨b1,b2,b3⟩:=l6 m hmk hma;exact⟨b1,by rw[hln];omega,by rw[oldM _ af0];exact b3⟩
     ·obtain rfl:m=k:=af0
      rw[afx af0,afA af0];exact⟨af0,by rw[hln];omega,by rw[afH];exact newM⟩
   ·rw [afx ha]
    dsimp only;refine⟨ms,l1,by simp[l2],fun u hu=>?_,l4,l5,fun m hm hma=>?_⟩
    ·obtain⟨a1,a2,a3,a4⟩:=l3 u hu;exact⟨af0,a2,a3,a4⟩
    ·by_cases hmk:m<k
     ·rw[wa,afA af0];exact l6 m hmk hma
     ·obtain rfl:m=k:=af0
      exact absurd hma ha
structure qd(t:List Nod)(i0:Nat)(u:List Nod)(ms:List Nat):Prop where
 len:ms.length=u.length
 pos:0<u.length
 src:∀k,k<u.length->ms.getD k 0<t.length/\bw t i0 (ms.getD k 0)=true/\(nod u k).blk=(nod t (ms.getD k 0)).blk/\(nod u k).status=(nod t (ms.getD k 0)).status
 up:∀k,0<k->k<u.length->0<ms.getD k 0/\0<=(nod u k).up/\(nod u k).up<k/\ms.getD (nod u k).up.toNat 0=(nod t (ms.getD k 0)).up.toNat
 mono:∀k v,k<v->v<u.length->ms.getD k 0<ms.getD v 0
 zero:ms.getD 0 0=i0/\(nod u 0).up=-1
 all:∀m:Nat,m<t.length->bw t i0 m=true->∃k,k<u.length/\ms.getD k 0=m
theorem H0{t:List Nod}(ht:bk t){i0:Nat}(hi:i0<t.length):∃ms,qd t i0 (fo t i0).1 ms:=by
 obtain⟨ms,h⟩:=aaV ht i0 t.length (afE _);have hself:=lD ht hi;obtain⟨s1,s2,s3⟩:=h.ix i0 hi hself
 have hle:∀k,k<(fo t i0).1.length->i0<=ms.getD k 0:=fun k hk=>by
  have:=zY ht (h.src k hk).2.1;omega
 have hpos:0<(fo t i0).1.length:=by show 0<(aH (dM t i0) ([],[]) t.length).1.length;omega
 have h0:ms.getD 0 0=i0:=by
  by_cases hz:((aH (dM t i0) ([],[]) t.length).2.getD i0 0).toNat=0
  ·grind
  ·have h1:=h.mono 0 ((aH (dM t i0) ([],[]) t.length).2.getD i0 0).toNat af0 af0;grind
 refine⟨ms,h.len,hpos,h.src,fun k hk hk2=>?_,h.mono,⟨h0,(h.up 0 hpos).1 af0⟩,fun m hm hma=>?_⟩
 ·have h1:=h.mono 0 k hk hk2;obtain⟨a1,a2,a3⟩:=(h.up k hk2).2 af0;exact⟨af0,a1,a2,a3⟩
 ·obtain⟨b1,b2,b3⟩:=h.ix m hm hma;exact⟨_,by show _<(aH (dM t i0) ([],[]) t.length).1.length;omega,b3⟩
theorem TrV.prune{t:List Nod}(h:TrV t){i0:Nat}(hi:i0<t.length):TrV (fo t i0).1:=by
 obtain⟨ms,p⟩:=H0 h.r hi;have hr:=h.r.prune (i0:=(i0:Int)) af0 af0;have U:∀k,0<k->k<(fo t i0).1.length->(nod (fo t i0).1 k).up.toNat<(fo t i0).1.length:=fun k h0 h1=>by have:=hr.ok k h0 h1;omega
 have B:∀k,0<k->(hk:k<(fo t i0).1.length)->(nod (fo t i0).1 (nod (fo t i0).1 k).up.toNat).blk=(nod t (nod t (ms.getD k 0)).up.toNat).blk/\(nod (fo t i0).1 (nod (fo t i0).1 k).up.toNat).status=(nod t (nod t (ms.getD k 0)).up.toNat).status:=fun k h0 h1=>by
  have:=p.src _ (U k h0 h1);rw[(p.up k h0 h1).2.2.2]at this;grind
 refine⟨p.pos,fun k hk=>?_,p.zero.2,fun k h0 hk=>⟨(p.up k h0 hk).2.1,(p.up k h0 hk).2.2.1⟩,fun i j hij hj=>?_,fun k h0 hk=>?_,fun k h0 hk=>?_,fun k h0 hk=>?_,fun k h0 hk=>?_,fun k hk=>?_⟩
 ·rw[(p.src k hk).2.2.2];exact h.st _ (p.src k hk).1
 ·rw[(p.src i af0).2.2.1,(p.src j hj).2.2.1];exact h.ds _ _ (p.mono i j hij hj) (p.src j hj).1
 ·rw[(p.src k hk).2.2.1,(B k h0 hk).1];exact h.pr _ (p.up k h0 hk).1 (p.src k hk).1
 ·rw[(p.src k hk).2.2.1,(B k h0 hk).1];exact h.sl _ (p.up k h0 hk).1 (p.src k hk).1
 ·rw[(p.src k hk).2.2.2,(B k h0 hk).2];exact h.va _ (p.up k h0 hk).1 (p.src k hk).1
 ·rw[(p.src k hk).2.2.2,(B k h0 hk).2];exact h.iv _ (p.up k h0 hk).1 (p.src k hk).1
 ·rw[(p.src k hk).2.2.1,(p.src k hk).2.2.2];exact h.py _ (p.src k hk).1
theorem zi{α:Type}(l:List α)(d:α)(p:α->Prop)[DecidablePred p]:aH (fun i o=>if p (l.getD i d)then o++[l.getD i d]else o) [] l.length=l.filter (fun x=>decide (p x)):=by
 have c:∀n,n<=l.length->aH (fun i o=>if p (l.getD i d)then o++[l.getD i d]else o) [] n=(l.take n).filter (fun x=>decide (p x)):=by
  intro n;induction n with
  |zero=>intro _;rfl
  | succ n e =>
    intro f;have e0:l[n]' af0=l.getD n d:=af3
    rw[bg,e af0,acB,afz af0,adY,ae5,e0];grind
 grind
theorem qY(l:List aB)(e:Int):eJ l e=l.filter (fun t=>decide (e<=t.cp.ep)):=zi l default (fun t:aB=>e<=t.cp.ep)
theorem sf(l:List Blk)(a:Int):aH (pO l a) [] l.length=l.filter (fun b=>decide (a<b.slot)):=zi l dx (fun b:Blk=>a<b.slot)
theorem Xq{l:List aB}{c:Cp}(h:0<=dr l c):∃t∈l,t.cp=c:=by
 unfold dr at h;cases b:cm (fun i=>decide ((tab l i).cp=c)) l.length with
 |none=>rw[b,j7]at h;omega
 | some k =>
   obtain⟨e,d,_⟩:=cJ b;exact⟨tab l k,cR _ e,ac3 d⟩
theorem IP{l:List aB}{t:aB}(h:t∈l):0<=dr l t.cp:=by
 unfold dr;cases b:cm (fun i=>decide ((tab l i).cp=t.cp)) l.length with
 | none =>
   obtain⟨k,c,d⟩:=acp h;have:=fh b k c;unfold tab at this;grind
 |some k=>rw[iu];omega
theorem mr{t:List Nod}{r:Rt}:ab t r<0↔∀n∈t,n.blk.root≠r:=by
 have h:=rZ t r;constructor
 ·grind
 grind
def yK(l:List aB)(n:Int):Prop:=(∀t∈l,fY t n=0)/\l.Pairwise fun a b=>gT a.cp b.cp<0
structure abp(s:af)(b:Blk):Prop where
 rt:b.root≠rt0
 un:ab s.nodes b.root<0
 ti:b.timely=false
 nw:b.slot<=s.now
 ol:(cH s.f.ep s.cfg.spe).1<b.slot
structure StW(s:af):Prop where
 ne:gF s.cfg=0
 tree:TrV s.nodes
 z1:(s.nodes.length:Int)<=s.cfg.lim.node
 z2:(s.orph.length:Int)<=s.cfg.lim.orph
 z3:(s.early.length:Int)<=s.cfg.lim.early
 z4:(s.tabs.length:Int)<=s.cfg.lim.table
 fr:(nod s.nodes 0).blk.root=s.f.rt
 jf:0<=ab s.nodes s.j.rt
 ji:(nod s.nodes (ab s.nodes s.j.rt).toNat).status≠2
 fj:s.f.ep<=s.j.ep
 tj:∃t∈s.tabs,t.cp=s.j
 tv:yK s.tabs s.cfg.bals.length
 ll:s.latest.length=s.cfg.bals.length
 lv:∀v∈s.latest,v.has=false->v=eY
 qv:s.eqv=[]\/cM s.eqv s.cfg.bals.length=0
 bo:s.boost=rt0\/0<=ab s.nodes s.boost
 nm:s.now<=1099511627776
 je:s.j.ep<=dg s s.now
 ea:(cH s.f.ep s.cfg.spe).2=0/\(nod s.nodes 0).blk.slot<=(cH s.f.ep s.cfg.spe).1
 nd:∀n∈s.nodes,n.blk.slot<=s.now/\mw s n.blk=true
 av:∀a∈s.early,cM a.vals s.cfg.bals.length=0
 ob:∀b∈s.orph,abp s b
 od:s.orph.Pairwise fun a b=>a.root≠b.root
structure StV(s:af):Prop where
 w:StW s
 op:∀b∈s.orph,ab s.nodes b.parent<0
theorem nj{t:List Nod}{k:Nat}(h:k<t.length):nod t k∈t:=cR _ h
structure abo(s:af)(a b:Cp):Prop where
 i0:0<=ab s.nodes a.rt
 k0:0<=ab s.nodes b.rt
 i2:(nod s.nodes (ab s.nodes a.rt).toNat).status≠2
 k2:(nod s.nodes (ab s.nodes b.rt).toNat).status≠2
 ea:lI s (ab s.nodes a.rt) a.ep=true
 eb:lI s (ab s.nodes b.rt) b.ep=true
 an:bw s.nodes (ab s.nodes b.rt) (ab s.nodes a.rt)=true
 le:b.ep<=a.ep
 nw:a.ep<=dg s s.now
 tb:0<=dr s.tabs a
theorem aaO{s:af}{a b:Cp}(h:¬zG s a b=false):abo s a b:=by
 unfold zG at h;simp only[adM,afL,afJ]at h;obtain⟨⟨⟨⟨⟨⟨⟨⟨⟨e,f⟩,g⟩,i⟩,j⟩,k⟩,l⟩,m⟩,n⟩,c⟩:=h;exact⟨e,f,g,i,j,k,l,m,n,c⟩
theorem Gk{t u:List Nod}{i0:Nat}{c:List Nat}(p:qd t i0 u c){n:Nod}(h:n∈u):∃m∈t,n.blk=m.blk/\n.status=m.status:=by
 obtain⟨k,d,rfl⟩:=qD h;obtain⟨e,g,f,b⟩:=p.src k d;exact⟨_,nj e,f,b⟩
theorem StW.upd{s:af}{i:Nat}(h:StW s)(hI:bi s i){j f:Cp}(hj:U64 j.ep)(hf:U64 f.ep):StW (dw s j f):=by
 have hcf:(dw s j f).cfg=s.cfg:=IR s j f;have hue:=Wi j f hI.uj hI.uf hj hf;unfold dw at *;by_cases hm:zG s (eU s.j j) (eU s.f f)=false
 ·grind
 rw[afx hm]at hue ⊢;have m:=aaO hm;have hbu:U64 (eU s.f f).ep:=u7 hI.uf hf;generalize eU s.j j=a at *;generalize eU s.f f=b at *;have hst:(cH b.ep s.cfg.spe).2=0:=sM hbu.lo hI.cfg.s1 (by have:=hI.cfg.s4;omega) hI.nw.1.lo hI.nw.1.hi (adK m.le m.nw);have htl:((eJ s.tabs a.ep).length:Int)<=s.cfg.lim.table:=by have:=na s.tabs a.ep;have:=h.z4;omega
 have htv:yK (eJ s.tabs a.ep) s.cfg.bals.length:=⟨fun t ht=>h.tv.1 t (nc _ _ t ht),by rw[qY];exact h.tv.2.filter _⟩
 have htj:∃t∈eJ s.tabs a.ep,t.cp=a:=by
  obtain⟨t,h1,h2⟩:=Xq m.tb;refine⟨t,?_,h2⟩;rw[qY,List.mem_filter];grind
 by_cases hb:b=s.f
 ·rw[afA hb];refine⟨h.ne,h.tree,h.z1,h.z2,h.z3,htl,by rw[hb];exact h.fr,m.i0,m.i2,m.le,htj,htv,h.ll,h.lv,h.qv,h.bo,h.nm,m.nw,by rw[hb];exact h.ea,h.nd,h.av,fun x hx=>?_,h.od⟩;obtain⟨a1,a2,a3,a4,a5⟩:=h.ob x hx;exact⟨a1,a2,a3,a4,af3⟩
 ·rw [afx hb]
  obtain⟨k1,k2⟩:=dD m.k0;obtain⟨ms,p⟩:=H0 h.tree.r k1;have hK:(((ab s.nodes b.rt).toNat:Nat):Int)=ab s.nodes b.rt:=afW m.k0;have htr:=h.tree.prune k1;have hfi:=sD h.tree.r m.i0 m.an;rw[hK]at p htr;have hle:=qI h.tree.r (ab s.nodes b.rt);have hI0:=dD m.i0;have hI1:=dD hfi;have z0:=p.src 0 p.pos;rw[p.zero.1]at z0;generalize (fo s.nodes (ab s.nodes b.rt)).1=u at *
  have hun:∀r,ab s.nodes r<0->ab u r<0:=fun r hr=>by
   rw[mr]at hr ⊢;intro n hn;obtain⟨q,h1,h2,_⟩:=Gk p hn;rw[h2];exact hr q h1
  refine⟨h.ne,htr,by have:=h.z1;show (u.length:Int)<=s.cfg.lim.node;omega,?_,h.z3,htl,?_,hfi,?_,m.le,htj,htv,h.ll,h.lv,h.qv,?_,h.nm,m.nw,⟨hst,?_⟩,fun n hn=>?_,h.av,fun x hx=>?_,?_⟩
  ·rw[sf];have:=aeV (fun x:Blk=>decide ((di s b.ep).1<x.slot)) s.orph;have:=h.z2;show ((List.filter _ s.orph).length:Int)<=s.cfg.lim.orph
   omega
  ·show (nod u 0).blk.root=b.rt
   rw[z0.2.2.1];exact k2
  ·show (nod u (ab u a.rt).toNat).status≠2
   obtain⟨a1,a2,a3,a4⟩:=p.src _ hI1.1;rw[a4]
   have e:ms.getD (ab u a.rt).toNat 0=(ab s.nodes a.rt).toNat:=by
    have e1:(nod s.nodes (ms.getD (ab u a.rt).toNat 0)).blk.root=(nod s.nodes (ab s.nodes a.rt).toNat).blk.root:=by rw[<-a3,hI1.2,hI0.2]
    rcases aeo (ms.getD (ab u a.rt).toNat 0) (ab s.nodes a.rt).toNat with h1|h1|h1
    ·exact absurd e1 (h.tree.ds _ _ h1 hI0.1)
    ·exact h1
    ·exact absurd e1.symm (h.tree.ds _ _ h1 a1)
   rw[e];exact m.i2
  ·show (if ab u s.boost<0 then rt0 else s.boost)=rt0\/0<=ab u (if ab u s.boost<0 then rt0 else s.boost)
   split
   ·exact .inl rfl
   ·right;omega
  ·show (nod u 0).blk.slot<=(cH b.ep s.cfg.spe).1
   rw[z0.2.2.1];have:=m.eb;unfold lI di at this;rw[hst]at this;simpa using this
  ·obtain⟨q,h1,h2,_⟩:=Gk p hn;rw[h2];exact h.nd q h1
  ·have hx:x∈aH (pO s.orph (di s b.ep).1) [] s.orph.length:=hx;rw[sf,List.mem_filter]at hx;obtain⟨a1,a2,a3,a4,a5⟩:=h.ob x hx.1;exact⟨a1,hun _ a2,a3,a4,ac3 hx.2⟩
  ·show (aH (pO s.orph (di s b.ep).1) [] s.orph.length).Pairwise _
   rw[sf];exact h.od.filter _
theorem aad{s:af}(h:bk s.nodes)(j f:Cp){r:Rt}(c:ab s.nodes r<0):ab (dw s j f).nodes r<0:=by
 rw[mr]at c ⊢;intro n e;obtain⟨m,g,d⟩:=(GW h j f).2 n e;rw[d];exact c _ (nj g)
theorem StV.upd{s:af}{i:Nat}(h:StV s)(hI:bi s i){j f:Cp}(hj:U64 j.ep)(hf:U64 f.ep):StV (dw s j f):=
 ⟨h.w.upd hI hj hf,fun b hb=>aad h.w.tree.r j f (h.op b ((mD s j f).2 b hb))⟩
theorem Md{p a b:Int}(l:1<=p)(e:0<=a)(d:a<=b)(j:b<18446744073709551616):IntKind.u64.wrap (Int.tdiv a p)<=IntKind.u64.wrap (Int.tdiv b p):=by
 have f:Int.tdiv a p=a / p:=acy e;have h:Int.tdiv b p=b / p:=acy af0;have k:a / p<=b / p:=Int.ediv_le_ediv af0 d;have g:0<=a / p:=adx e af0;have i:b / p<=b:=adB _ af0;rw[f,h,aC g af0,aC af0 af0];omega
theorem StV.tickA{s:af}{i:Nat}(h:StV s)(d:bi s i)(v:¬1099511627776<=s.now):StV (tickA s):=by
 have f:=d.nw.1;have e:IntKind.u64.wrap (s.now+1)=s.now+1:=aC (by have:=f.lo;omega) af0;have a:(Go.Proofs.YtmpddimhleianaaGreat.tickA s).now=s.now+1:=e;obtain⟨w,l⟩:=h;refine⟨⟨w.ne,w.tree,w.z1,w.z2,w.z3,w.z4,w.fr,w.jf,w.ji,w.fj,w.tj,w.tv,w.ll,w.lv,w.qv,.inl rfl,af0,?_,w.ea,fun n c=>⟨?_,(w.nd n c).2⟩,w.av,fun b g=>?_,w.od⟩,l⟩
 ·have j:=Md d.cfg.s1 f.lo (show s.now<=s.now+1 by omega) af0;have r:=w.je;rw[a];exact adK r j
 ·have:=(w.nd n c).1;omega
 ·obtain⟨p,q,t,x,o⟩:=w.ob b g;exact⟨p,q,t,af0,o⟩
theorem StV.tickB{s:af}{i:Nat}(h:StV s)(a:bi s i):StV (tickB s):=by
 unfold Go.Proofs.YtmpddimhleianaaGreat.tickB;split
 ·have:=HY (s:=s) fun k b=>a.blk b
  exact h.upd a this.1 this.2
 omega
theorem StV.withE{s:af}(h:StV s){l:List aX}(f:(l.length:Int)<=s.cfg.lim.early)(e:∀a∈l,cM a.vals s.cfg.bals.length=0):StV (withE s l):=by
 obtain⟨w,d⟩:=h;exact⟨⟨w.ne,w.tree,w.z1,w.z2,f,w.z4,w.fr,w.jf,w.ji,w.fj,w.tj,w.tv,w.ll,w.lv,w.qv,w.bo,w.nm,w.je,w.ea,w.nd,e,fun b c=>⟨(w.ob b c).rt,(w.ob b c).un,(w.ob b c).ti,(w.ob b c).nw,(w.ob b c).ol⟩,w.od⟩,d⟩
theorem StV.withL{s:af}(h:StV s){l:List Vot}(e:l.length=s.latest.length)(d:∀v∈l,v.has=false->v=eY):StV (withL s l):=by
 obtain⟨w,c⟩:=h;exact⟨⟨w.ne,w.tree,w.z1,w.z2,w.z3,w.z4,w.fr,w.jf,w.ji,w.fj,w.tj,w.tv,e.trans w.ll,d,w.qv,w.bo,w.nm,w.je,w.ea,w.nd,w.av,fun b a=>⟨(w.ob b a).rt,(w.ob b a).un,(w.ob b a).ti,(w.ob b a).nw,(w.ob b a).ol⟩,w.od⟩,c⟩
theorem WO{l:List Vot}(h:∀v∈l,v.has=false->v=eY)(d:Int)(b:Rt)(m:List Int):∀v∈(vJ l d b m).1,v.has=false->v=eY:=by
 refine dp (f:=kP d b m) (a:=(l,0)) (fun _ p=>∀v∈p.1,v.has=false->v=eY) h m.length (fun i p g e=>?_) _ (afE _);unfold kP;split
 ·grind
 omega
theorem StV.castIn{s:af}(h:StV s)(a:aX):StV (castIn s a):=h.withL (nP _ _ _ _ _) (WO h.w.lv _ _ _)
theorem StV.tickR{l:List aX}{s:af}(h:StV s)(hl:(l.length:Int)<=s.cfg.lim.early)(e:∀a∈l,cM a.vals s.cfg.bals.length=0):∀k,k<=l.length->StV (aH (tickR l) (Go.FH.withE s []) k)/\(aH (tickR l) (Go.FH.withE s []) k).early.length<=k/\(aH (tickR l) (Go.FH.withE s []) k).cfg=s.cfg/\(∀a∈(aH (tickR l) (Go.FH.withE s []) k).early,cM a.vals s.cfg.bals.length=0)
 |0,_=>⟨h.withE af3 af1,afE _,rfl,fun a e=>(by cases e)⟩
 | k + 1, hk => by
   obtain⟨f,h2,g,i⟩:=StV.tickR h hl e k af0;rw[bg];generalize aH (Go.Proofs.YtmpddimhleianaaGreat.tickR l) (Go.FH.withE s []) k=t at *;unfold Go.Proofs.YtmpddimhleianaaGreat.tickR
   have hm:∀x∈t.early++[fB l k],cM x.vals s.cfg.bals.length=0:=fun x c=>by
    rcases afR.1 c with c|c
    ·grind
    ·rw[afN]at c;subst c;exact e _ (rH af0)
   split
   ·refine⟨f.withE af3 af3,by show (t.early++[fB l k]).length<=k+1;simp;omega,g,hm⟩
   ·split
    ·exact⟨f.castIn _,aer h2,g,i⟩
    grind
theorem StV.tick{s:af}{i:Nat}(h:StV s)(c:bi s i)(d:(dF s).2=0):StV (dF s).1:=by
 unfold dF at *;split at d
 ·omega
 ·rename_i a;rw[afx a];have b:=(h.tickA c a).tickB (c.tickA a);exact(StV.tickR b b.w.z3 b.w.av _ (afE _)).1
theorem PP{s:af}{a:aX}(h:(ei s a).2=0):cM a.vals s.cfg.bals.length=0:=by
 unfold ei at h;split at h
 ·omega
 omega
theorem StV.att{s:af}(h:StV s){a:aX}(c:(kH s a).2=0):StV (kH s a).1:=by
 unfold kH at *;split at c
 ·omega
 ·rename_i e
  rw[afx e];split at c
  ·rename_i d;rw[afA d];exact h.castIn a
  ·rename_i d
   rw[afx d];split at c
   ·omega
   ·rename_i f;rw[afx f];refine h.withE af3 (fun x b=>?_);rcases afR.1 b with b|b
    ·exact h.w.av x b
    ·rw[afN]at b;subst b;exact PP af0
theorem abM{x y:UInt8}(c:¬x<y)(b:¬y<x):x=y:=by
 grind
theorem Bt(a b:Rt):∀f i,oL b a f i=- oL a b f i
 |0,_=>rfl
 | f + 1, i => by
   unfold oL;by_cases g:a.1.getD i 0<b.1.getD i 0
   ·grind
   ·by_cases e:b.1.getD i 0<a.1.getD i 0
    ·grind
    ·rw[afx e,afx g,afx g,afx e];exact Bt a b f (i+1)
theorem Ob(a b:Rt):∀f i,oL a b f i=0->∀k,i<=k->k<i+f->a.1.getD k 0=b.1.getD k 0
 |0,i,_,k,e,g=>by omega
 | f + 1, i, h, k, e, g => by
   unfold oL at h;split at h
   ·omega
   ·split at h
    ·omega
    ·by_cases j:k=i
     ·grind
     ·exact Ob a b f (i+1) h k af0 af0
theorem Js(a b:Rt):∀f i,oL a b f i<0↔∃m,i<=m/\m<i+f/\(∀k,i<=k->k<m->a.1.getD k 0=b.1.getD k 0)/\a.1.getD m 0<b.1.getD m 0
 |0,i=>⟨fun h=>absurd (show (0:Int)<0 from h) af1,fun ⟨m,g,e,_⟩=>af0⟩
 | f + 1, i => by
   unfold oL;by_cases g:a.1.getD i 0<b.1.getD i 0
   ·grind
   ·rw[afx g]
    by_cases e:b.1.getD i 0<a.1.getD i 0
    ·grind
    ·rw[afx e,Js a b f (i+1)];constructor
     ·grind
     grind
theorem LV{a b c:Rt}(f:qm a b<0)(e:qm b c<0):qm a c<0:=by
 unfold qm at *;rw[Js]at *;grind
theorem Zs{a b:Rt}(h:qm a b=0):a=b:=by
 have d:=Ob a b 32 0 h;refine Subtype.ext (aeA af0 fun i f e=>?_);have:=d i (afK _) af0;grind
theorem Fs(a b:Cp):gT b a=- gT a b:=by
 unfold gT;by_cases h:a.ep=b.ep
 ·rw[afx (fun d=>d h.symm),afx (fun d=>d h)];exact Bt _ _ _ _
 omega
theorem Tg{a b:Cp}(h:gT a b=0):a=b:=by
 unfold gT at h;obtain⟨f,i⟩:=a;obtain⟨g,j⟩:=b;dsimp only at h;by_cases d:f=g
 ·rw[afx (fun e=>e d)]at h;rw[d,Zs h]
 omega
theorem WZ{a b:Cp}:gT a b<0↔a.ep<b.ep\/(a.ep=b.ep/\qm a.rt b.rt<0):=by
 unfold gT;by_cases d:a.ep=b.ep
 ·omega
 omega
theorem Bs{a b c:Cp}(f:gT a b<0)(e:gT b c<0):gT a c<0:=by
 rw[WZ]at *;rcases f with f|⟨f,h⟩
 ·omega
 ·rcases e with e|⟨e,i⟩
  ·omega
  ·exact .inr ⟨f.trans e,LV h i⟩
theorem CL(l:List aB)(c:Cp):∀f i,i+f=l.length->(∀k,k<i->gT (tab l k).cp c<0)->iF l c f i<=l.length/\(∀k,k<iF l c f i->gT (tab l k).cp c<0)/\(iF l c f i<l.length->¬gT (tab l (iF l c f i)).cp c<0)
 |0,i,h,b=>⟨by show i<=_;omega,b,fun e=>by have e:i<l.length:=e;omega⟩
 | f + 1, i, h, b => by
   unfold iF;split
   ·refine CL l c f (i+1) af0 fun k j=>?_
    by_cases g:k=i
    ·grind
    grind
   grind
theorem yK.add{l:List aB}{n:Int}(h:yK l n){t:aB}(hv:fY t n=0)(hf:¬0<=dr l t.cp):yK (mF l t) n:=by
 obtain⟨p1,p2,p3⟩:=CL l t.cp l.length 0 af0 (fun k hk=>absurd hk (acJ k));refine⟨fun x hx=>?_,?_⟩
 ·rcases uQ l t x hx with h1|rfl
  ·exact h.1 x h1
  omega
 unfold mF;generalize iF l t.cp l.length 0=k at *;have hpw:=acY.1 h.2;have mO:∀j (hj:j<l.length),tab l j=l[j]:=fun j hj=>by unfold tab;rw[afy,afz hj];rfl
 have hbig:∀j,k<=j->(hj:j<l.length)->gT t.cp l[j].cp<0:=fun j hkj hj=>by
  have h1:=p3 af0
  have hk:gT t.cp l[k].cp<0:=by
   rw[mO k af0]at h1;have h2:gT l[k].cp t.cp≠0:=fun h3=>hf (by rw[<-Tg h3];exact IP (afY _))
   have h3:=Fs l[k].cp t.cp;omega
  by_cases he:k=j
  ·grind
  ·exact Bs hk (hpw k j af0 hj af0)
 show (l.take k++[t]++l.drop k).Pairwise _
 rw[ac6,ac6];refine⟨⟨h.2.sublist (List.take_sublist _ _),af1,fun x hx y hy=>?_⟩,h.2.sublist (List.drop_sublist _ _),fun x hx y hy=>?_⟩
 ·rw[afN]at hy;subst hy;obtain⟨j,hj,he⟩:=adt.1 hx;grind
 ·obtain⟨j,hj,he⟩:=List.mem_drop_iff_getElem.1 hy
  have hy2:=hbig (k+j) af0 af0;rw[he]at hy2;rcases afR.1 hx with hx|hx
  ·obtain⟨m,hm,hme⟩:=adt.1 hx;have:=hpw m (k+j) af0 af0 af0;rw[hme,he]at this;exact this
  ·rw[afN]at hx;subst hx;exact hy2
theorem StV.reg{s:af}(h:StV s){t:aB}(h2:(iL s t).2=0):StV (iL s t).1:=by
 unfold iL at *;split at h2
 ·omega
 ·rename_i h3
  rw[afx h3];split at h2
  ·omega
  ·rename_i h4
   rw[afx h4];split at h2
   ·omega
   ·rename_i h5
    rw[afx h5];have hv:fY t s.cfg.bals.length=0:=af0
    obtain⟨w,op⟩:=h
    have key:((ib s.tabs t s.cfg.bals.length s.cfg.lim.table).1.length:Int)<=s.cfg.lim.table/\yK (ib s.tabs t s.cfg.bals.length s.cfg.lim.table).1 s.cfg.bals.length/\∀x∈s.tabs,x∈(ib s.tabs t s.cfg.bals.length s.cfg.lim.table).1:=by
     unfold ib;rw[afx af0];split
     ·exact⟨w.z4,w.tv,fun x hx=>hx⟩
     ·rename_i h6
      split
      ·exact⟨w.z4,w.tv,fun x hx=>hx⟩
      ·refine⟨by rw[AL];omega,w.tv.add hv h6,fun x hx=>?_⟩;unfold mF;rw[<-afX (iF s.tabs t.cp s.tabs.length 0) s.tabs]at hx;grind
    obtain⟨k1,k2,k3⟩:=key
    have hj:∃x∈(ib s.tabs t s.cfg.bals.length s.cfg.lim.table).1,x.cp=s.j:=by
     obtain⟨x,hx,he⟩:=w.tj;grind
    exact⟨⟨w.ne,w.tree,w.z1,w.z2,w.z3,k1,w.fr,w.jf,w.ji,w.fj,hj,k2,w.ll,w.lv,w.qv,w.bo,w.nm,w.je,w.ea,w.nd,w.av,fun b hb=>⟨(w.ob b hb).rt,(w.ob b hb).un,(w.ob b hb).ti,(w.ob b hb).nw,(w.ob b hb).ol⟩,w.od⟩,op⟩
theorem wd(v x:Int):∀l:List Int,x∈kV l v↔x=v\/x∈l
 | []=>by simp[kV]
 | a :: r => by
   have c:=wd v x r;unfold kV;split
   ·grind
   grind
theorem yT(v:Int):∀l:List Int,l.Pairwise (· < ·)->(kV l v).Pairwise (· < ·)
 | [],_=>by simp[kV]
 | a :: r, h => by
   rw[ac5]at h;have f:=yT v r h.2;unfold kV;split
   ·rw[ac5];refine⟨fun x d=>?_,f⟩;rcases (wd v x r).1 d with e|e
    ·omega
    grind
   ·split
    ·simp_all
    ·rw[ac5,ac5];grind
def G0(l:List Int)(n:Int):Prop:=(∀x∈l,0<=x/\x<n)/\l.Pairwise (· < ·)
theorem Dz{l:List Int}{n:Int}(h:cM l n=0):G0 l n:=by
 obtain⟨h1,h2⟩:=ie h
 have mono:∀d i,i+d+1<l.length+0->l.getD i 0<l.getD (i+d+1) 0:=by
  intro d;induction d with
  |zero=>grind
  | succ d ih =>
    grind
 refine⟨fun x hx=>?_,acY.2 fun i j hi hj hij=>?_⟩
 ·obtain⟨k,hk,rfl⟩:=acp hx;grind
 ·have:=mono (j-i-1) i af0;grind
theorem UF{l:List Int}{n:Int}(h:G0 l n)(g:l≠[]):cM l n=0:=by
 have d:∀k i,i+k=l.length->mX l n i=0:=by
  intro k;induction k with
  |zero=>intro i c;exact nH af0
  | succ k f =>
    intro i c;have a:i<l.length:=af0
    rw[lU a];have j:=h.1 (l.getD i 0) (cR 0 a);rw[afx af0,afx]
    ·grind
    ·rintro⟨m,e⟩;have:=acY.1 h.2 (i-1) i af0 a af0;grind
 unfold cM;simp_all
theorem G0.ins{l:List Int}{n:Int}(h:G0 l n){v:Int}(hv:0<=v/\v<n):G0 (kV l v) n:=
 ⟨fun x hx=>((wd v x l).1 hx).elim (fun e=>e▸hv) fun hx=>h.1 x hx,yT v l h.2⟩
theorem W0{l m:List Int}{n:Int}(h:∀x∈l,0<=x/\x<n)(i:Nat):∀x∈gk l m i,0<=x/\x<n:=by
 have d:∀ (k a:List Int),(∀x∈k,0<=x/\x<n)->(∀x∈a,0<=x/\x<n)->∀x∈k.foldl (fun a v=>if v∈m then kV a v else a) a,0<=x/\x<n:=by
  intro k;induction k with
  |nil=>simp
  | cons y k f =>
    intro a g j;rw[ad1];refine f _ (fun x b=>g x (acA _ b)) ?_;split
    ·intro x b;rcases (wd y x a).1 b with e|e
     ·simp_all
     grind
    omega
 exact d _ _ (fun x b=>h x (adL b)) af1
theorem XS{set l:List Int}{n:Int}(h:G0 set n)(d:∀x∈l,0<=x/\x<n):G0 (ym set l) n:=by
 refine dp (f:=pV l) (a:=set) (fun _ o=>G0 o n) h l.length (fun i o e c=>?_) _ (afE _);exact c.ins (d _ (cR 0 e))
theorem StV.slash{s:af}(h:StV s){x:gi}(h2:(d7 s x).2=0):StV (d7 s x).1:=by
 unfold d7 at *;split at h2
 ·omega
 ·rename_i h3
  rw[afx h3];split at h2
  ·omega
  ·rename_i h4
   rw[afx h4];have he:evE x.a x.fst.vals x.snd.vals s.cfg.bals.length=0:=af0
   have hv:cM x.fst.vals s.cfg.bals.length=0:=by
    unfold evE at he;split at he
    ·omega
    omega
   obtain⟨w,op⟩:=h
   have hset:G0 s.eqv s.cfg.bals.length:=by
    rcases w.qv with h5|h5
    ·rw[h5];exact⟨af1,af1⟩
    ·exact Dz h5
   have hq:=XS hset (W0 (Dz hv).1 (m:=x.snd.vals) x.fst.vals.length)
   have hq2:ym s.eqv (gk x.fst.vals x.snd.vals x.fst.vals.length)=[]\/cM (ym s.eqv (gk x.fst.vals x.snd.vals x.fst.vals.length)) s.cfg.bals.length=0:=by
    by_cases h5:ym s.eqv (gk x.fst.vals x.snd.vals x.fst.vals.length)=[]
    ·grind
    ·exact .inr (UF hq h5)
   exact⟨⟨w.ne,w.tree,w.z1,w.z2,w.z3,w.z4,w.fr,w.jf,w.ji,w.fj,w.tj,w.tv,w.ll,w.lv,hq2,w.bo,w.nm,w.je,w.ea,w.nd,w.av,fun b hb=>⟨(w.ob b hb).rt,(w.ob b hb).un,(w.ob b hb).ti,(w.ob b hb).nw,(w.ob b hb).ol⟩,w.od⟩,op⟩
structure Ze(s:af)(b:Blk):Prop where
 root:b.root≠rt0
 kn:ju s b.root=false
 now:b.slot<=s.now
 old:(di s s.f.ep).1<b.slot
 par:0<=ab s.nodes b.parent
 slot:(nod s.nodes (ab s.nodes b.parent).toNat).blk.slot<b.slot
 st:(nod s.nodes (ab s.nodes b.parent).toNat).status≠2
 fit:rc s b=true
 mrg:uw s.cfg.ttd (nod s.nodes (ab s.nodes b.parent).toNat).blk b=true
 lim:(s.nodes.length:Int)<s.cfg.lim.node
theorem vK{s:af}{b:Blk}(h:bG s b=0):Ze s b:=by
 unfold bG at h;by_cases g:b.root=rt0
 ·grind
 by_cases l:ju s b.root=true
 ·grind
 by_cases n:s.now<b.slot
 ·omega
 by_cases j:b.slot<=(di s s.f.ep).1
 ·omega
 by_cases m:ab s.nodes b.parent<0
 ·omega
 by_cases k:b.slot<=(nod s.nodes (ab s.nodes b.parent).toNat).blk.slot
 ·omega
 by_cases i:(nod s.nodes (ab s.nodes b.parent).toNat).status=2
 ·omega
 by_cases o:rc s b=false
 ·grind
 by_cases p:uw s.cfg.ttd (nod s.nodes (ab s.nodes b.parent).toNat).blk b=false
 ·grind
 by_cases f:s.cfg.lim.node<=s.nodes.length
 ·omega
 exact⟨g,af3,af0,af0,af0,af0,i,af3,af3,af0⟩
structure aap(s:af)(b:Blk):Prop where
 root:b.root≠rt0
 kn:ju s b.root=false
 now:b.slot<=s.now
 old:(di s s.f.ep).1<b.slot
 par:ab s.nodes b.parent<0
theorem xK{s:af}{b:Blk}(h:bG s b=10):aap s b:=by
 unfold bG at h;by_cases d:b.root=rt0
 ·grind
 by_cases e:ju s b.root=true
 ·grind
 by_cases f:s.now<b.slot
 ·omega
 by_cases g:b.slot<=(di s s.f.ep).1
 ·omega
 by_cases c:ab s.nodes b.parent<0
 ·exact⟨d,af3,af0,af0,c⟩
 omega
theorem wm{s:af}{r:Rt}(h:ju s r=false):ab s.nodes r<0/\∀b∈s.orph,b.root≠r:=by
 unfold ju at h;refine⟨af3,fun b e j=>?_⟩;cases f:cm (fun i=>decide ((cU s.orph i).root=r)) s.orph.length with
 | none =>
   obtain⟨k,g,d⟩:=acp e;have:=adi (fh f k g);unfold cU at this;grind
 |some k=>grind
theorem Qc{t:List Nod}(n:Nod){r:Rt}(h:0<=ab t r):ab (t++[n]) r=ab t r:=by
 obtain⟨m,w⟩:=dD h;have g:=xT (n:=n) h;obtain⟨u,v⟩:=dD g;unfold ab at h g m u ⊢;cases l:cm (fun i=>decide ((nod t i).blk.root=r)) t.length with
 |none=>rw[l,j7]at h;omega
 | some a =>
   cases k:cm (fun i=>decide ((nod (t++[n]) i).blk.root=r)) (t++[n]).length with
   |none=>rw[k,j7]at g;omega
   | some b =>
     obtain⟨p,x,y⟩:=cJ l;obtain⟨z,q,o⟩:=cJ k;rw[iu,iu]
     have s:b<=a:=by
      rcases aeg a b with e|d
      ·have:=o a e;rw[eW,afA p]at this;grind
      omega
     have d:a<=b:=by
      rcases aeg b a with e|d
      ·rw[eW,afA af0]at q;grind
      omega
     omega
theorem StW.insN{s:af}(h:StW s){b:Blk}(hc:Ze s b):StW (bQ s (s.nodes++[⟨b,ab s.nodes b.parent,cC b⟩])):=by
 obtain⟨p1,p2⟩:=dD hc.par;obtain⟨k1,k2⟩:=wm hc.kn;have hy:b.payload=rt0->cC b=1:=fun hh=>by unfold cC;grind
 have hv:cC b=1->(nod s.nodes (ab s.nodes b.parent).toNat).status=1:=fun hh=>by
  have h1:b.payload=rt0:=by
   unfold cC at hh;split at hh
   ·omega
   omega
  have h2:=hc.mrg;unfold uw at h2;rw[afA h1]at h2;exact h.tree.py _ p1 (ac3 h2)
 have tr:=h.tree.snoc (n:=⟨b,ab s.nodes b.parent,cC b⟩) hc.par af3 (K4 b) (fun i hi=>(mr.1 k1) _ (nj hi)) p2.symm hc.slot hv hc.st hy;have n0:nod (s.nodes++[⟨b,ab s.nodes b.parent,cC b⟩]) 0=nod s.nodes 0:=by rw[eW,afA h.tree.pos]
 have hjf:=Qc ⟨b,ab s.nodes b.parent,cC b⟩ h.jf;refine⟨h.ne,tr,?_,h.z2,h.z3,h.z4,?_,?_,?_,h.fj,h.tj,h.tv,h.ll,h.lv,h.qv,?_,h.nm,h.je,⟨h.ea.1,?_⟩,fun n hn=>?_,h.av,fun x hx=>?_,h.od⟩
 ·have:=hc.lim;show (((s.nodes++[_]).length:Nat):Int)<=s.cfg.lim.node
  grind
 ·show (nod (s.nodes++[_]) 0).blk.root=s.f.rt
  rw[n0];exact h.fr
 ·show 0<=ab (s.nodes++[_]) s.j.rt
  rw[hjf];exact h.jf
 ·show (nod (s.nodes++[_]) (ab (s.nodes++[_]) s.j.rt).toNat).status≠2
  rw[hjf,eW,afA (dD h.jf).1];exact h.ji
 ·rcases h.bo with h1|h1
  ·exact .inl h1
  ·exact .inr (xT h1)
 ·show (nod (s.nodes++[_]) 0).blk.slot<=_
  rw[n0];exact h.ea.2
 ·rcases afR.1 hn with hn|hn
  ·exact h.nd n hn
  ·rw[afN]at hn;subst hn;have h1:=hc.fit;unfold rc at h1;simp only[afL]at h1;exact⟨hc.now,h1.2.1⟩
 ·obtain⟨a1,a2,a3,a4,a5⟩:=h.ob x hx
  refine⟨a1,?_,a3,a4,a5⟩;rw[mr]at a2 ⊢;intro n hn;rcases afR.1 hn with hn|hn
  ·grind
  ·rw[afN]at hn;subst hn;exact fun he=>k2 x hx he.symm
theorem Ot{s:af}{i:Nat}(d:bi s i){b:Blk}(c:bG s b=0):(eZ s.nodes b (cC b)).1=s.nodes++[⟨b,ab s.nodes b.parent,cC b⟩]:=(HP (Ou (Fp c) (by have:=d.cfg.ln;omega))).1
theorem StW.ins{s:af}{i:Nat}(h:StW s)(e:bi s i){b:Blk}(c:bG s b=0)(a:jL i b):StW (gE s b):=by
 have d:=e.insN c a;have f:StW (bQ s (eZ s.nodes b (cC b)).1):=by rw[Ot e c];exact h.insN (vK c)
 unfold gE;split
 ·exact(f.upd d a.just a.fin).upd (d.upd a.just a.fin) a.j a.f
 ·exact f.upd d a.just a.fin
theorem StW.withO{s:af}(h:StW s){l:List Blk}(a:l.Sublist s.orph):StW (Go.FH.withO s l):=by
 have d:=a.length_le;exact⟨h.ne,h.tree,h.z1,by have:=h.z2;show (l.length:Int)<=s.cfg.lim.orph;omega,h.z3,h.z4,h.fr,h.jf,h.ji,h.fj,h.tj,h.tv,h.ll,h.lv,h.qv,h.bo,h.nm,h.je,h.ea,h.nd,h.av,fun b c=>⟨(h.ob b (a.subset c)).rt,(h.ob b (a.subset c)).un,(h.ob b (a.subset c)).ti,(h.ob b (a.subset c)).nw,(h.ob b (a.subset c)).ol⟩,h.od.sublist a⟩
theorem GS(l:List Blk)(i:Nat):(takeO l i).Sublist l:=by
 unfold takeO;have h:=afX i l;grind
theorem StW.waitR{p:af×List Rt}{i:Nat}(h:StW p.1)(d:bi p.1 i)(j:0<=bW p.1):StW (waitR p).1:=by
 have g:=oA p.1;have e:=h.withO (GS p.1.orph (bW p.1).toNat);have b:=d.takeO (bW p.1).toNat
 unfold Go.Proofs.YtmpddimhleianaaGreat.waitR;split
 ·rename_i f;exact e.ins b f (d.uo _ (cR _ af0))
 omega
theorem T0(s:af)(b:Blk):(gE s b).orph.length<=s.orph.length:=by
 unfold gE;split
 ·exact acn (mD _ _ _).1 (mD _ _ _).1
 ·exact(mD _ _ _).1
theorem Sy{p:af×List Rt}(g:0<=bW p.1):(waitR p).1.orph.length<p.1.orph.length:=by
 have e:=oA p.1;have f:=GR p.1.orph (i:=(bW p.1).toNat) af0;unfold waitR;split
 ·have:=T0 (withO p.1 (takeO p.1.orph (bW p.1).toNat)) (cU p.1.orph (bW p.1).toNat);have h:(withO p.1 (takeO p.1.orph (bW p.1).toNat)).orph=takeO p.1.orph (bW p.1).toNat:=rfl;grind
 ·show (takeO p.1.orph (bW p.1).toNat).length<_
  omega
theorem StW.waitG{i:Nat}:∀ (f:Nat) {p:af×List Rt},StW p.1->bi p.1 i->p.1.orph.length<f->StW (waitG f p).1/\bW (waitG f p).1<0
 |0,_,_,_,h=>by omega
 | f + 1, p, h, c, d => by
   unfold Go.Proofs.YtmpddimhleianaaGreat.waitG;split
   ·grind
   ·have a:0<=bW p.1:=af0
    exact StW.waitG f (h.waitR c a) (c.waitR a) (by have:=Sy a;omega)
theorem YV{s:af}(h:bW s<0):∀b∈s.orph,ab s.nodes b.parent<0:=by
 intro b f;unfold bW at h;cases d:cm (fun i=>decide (0<=ab s.nodes (cU s.orph i).parent)) s.orph.length with
 |some k=>rw[d,iu]at h;omega
 | none =>
   obtain⟨k,g,e⟩:=acp f;have:=adi (fh d k g);unfold cU at this;grind
theorem Gd{t:List Nod}{n:Nod}(f:bk t)(g:bk (t++[n])):∀m i:Nat,i<m->i<t.length->aZ (t++[n]) i=aZ t i
 |0,_,h,_=>by omega
 | m + 1, i, q, d => by
   have j:i<(t++[n]).length:=af3
   rcases acF i with b|b
   ·subst b;rw[show ((0:Nat):Int)=0 from rfl,gu d,gu j]
   ·have e:(nod (t++[n]) i).up=(nod t i).up:=by rw[eW,afA d]
    obtain⟨o,r⟩:=f.ok i b d;obtain⟨v,p⟩:∃v:Nat,(nod t i).up=v:=⟨_,(afW o).symm⟩
    rw[ia g.ok b j,ia f.ok b d,e,p,Gd f g m v af0 af0]
theorem WD{t:List Nod}{n:Nod}(d:bk t)(f:bk (t++[n]))(h:0<=n.up)(j:n.up<t.length){m:Int}(l:m∈aZ t n.up):bw (t++[n]) m t.length=true:=by
 have i:t.length<(t++[n]).length:=af1
 have e:(nod (t++[n]) t.length).up=n.up:=by rw[eW,afx (adJ _),afA rfl]
 obtain⟨v,g⟩:∃v:Nat,n.up=v:=⟨_,(afW h).symm⟩
 unfold bw;rw[ia f.ok d.pos i,e,g,Gd d f (v+1) v af0 af0,<-g];grind
theorem qd.inj{t u:List Nod}{i0:Nat}{c:List Nat}(p:qd t i0 u c){a k:Nat}(d:a<u.length)(e:k<u.length)(h:c.getD a 0=c.getD k 0):a=k:=by
 rcases aeo a k with b|b|b
 ·have:=p.mono a k b e;omega
 ·omega
 ·have:=p.mono k a b d;omega
theorem qd.anc{t u:List Nod}{i0:Nat}{c:List Nat}(e:bk t)(g:bk u)(p:qd t i0 u c):∀m k a,k<m->a<u.length->k<u.length->bw t (c.getD a 0) (c.getD k 0)=true->bw u a k=true
 |0,k,a,h,_,_,_=>by omega
 | m + 1, k, a, s, j, d, h => by
   by_cases q:c.getD a 0=c.getD k 0
   ·obtain rfl:=p.inj j d q;exact lD g d
   ·have f:=(p.src k d).1
    obtain⟨v,A⟩:=G5 e f h af0
    have b:0<k:=by
     rcases acF k with n|n
     ·subst n;have i:=zY e h;have w:=zY e (p.src a j).2.1;rw[p.zero.1]at i q;omega
     omega
    obtain⟨x,i,w,B⟩:=p.up k b d;obtain⟨y,z⟩:=e.ok _ v f;have l:(((nod u k).up.toNat:Nat):Int)=(nod u k).up:=afW i;have o:=qd.anc e g p m (nod u k).up.toNat a af0 j af0 af3;rw[l]at o;exact Jd g b d o
def xE(u:List Nod)(r r':Rt):Prop:=0<=ab u r'/\(0<=ab u r->bw u (ab u r) (ab u r')=true)
theorem j6{t:List Nod}(h:TrV t){k:Nat}(e:k<t.length){r:Rt}(d:(nod t k).blk.root=r):ab t r=k:=by
 have g:=j5 e d;obtain⟨i,f⟩:=dD g;rcases aeo k (ab t r).toNat with b|b|b
 ·exact absurd (d.trans f.symm) (h.ds _ _ b i)
 ·omega
 ·exact absurd (f.trans d.symm) (h.ds _ _ b e)
theorem Lj{s:af}(h:StW s){j f:Cp}{d:Rt}(n:0<=ab s.nodes d)(x:s.f.ep<f.ep->xE s.nodes f.rt d):0<=ab (dw s j f).nodes d/\∀r,xE s.nodes r d->xE (dw s j f).nodes r d:=by
 unfold dw;by_cases v:zG s (eU s.j j) (eU s.f f)=false
 ·grind
 rw[afx v];have m:=aaO v;by_cases k:eU s.f f=s.f
 ·grind
 rw[afx k]
 have i:s.f.ep<f.ep:=by
  unfold eU at k;split at k
  ·omega
  grind
 have g:eU s.f f=f:=by unfold eU;grind
 rw[g]at m ⊢;obtain⟨u,C⟩:=dD m.k0;obtain⟨F,p⟩:=H0 h.tree.r u;have w:(((ab s.nodes f.rt).toNat:Nat):Int)=ab s.nodes f.rt:=afW m.k0;have e:=h.tree.prune u;rw[w]at p e;have a:=sD h.tree.r n ((x i).2 m.k0);refine⟨a,fun r y=>⟨a,fun A=>?_⟩⟩;obtain⟨o,E⟩:=dD A;obtain⟨q,D⟩:=dD a;have z:=j6 h.tree (p.src _ o).1 (r:=r) (by rw[<- (p.src _ o).2.2.1];omega);have B:=j6 h.tree (p.src _ q).1 (r:=d) (by rw[<- (p.src _ q).2.2.1];omega);have t:=y.2 af0;rw[z,B]at t;have:=p.anc h.tree.r e.r _ _ _ (adS _) o q t;grind
theorem SX(t:List Nod)(i b:Int):atT t i b=-1\/atT t i b∈aZ t i:=by
 refine dp (f:=fun k h=>if (nod t ((aZ t i).getD k 0).toNat).blk.slot<=b then (aZ t i).getD k 0 else h) (a:=(-1:Int)) (fun _ x=>x=-1\/x∈aZ t i) (.inl rfl) (aZ t i).length (fun k x n m=>?_) _ (afE _);split
 ·grind
 omega
theorem J0{s:af}(h:StW s){b:Blk}(j:Ze s b){c:Cp}(a:nV s b (ab s.nodes b.parent) c=true)(w:s.f.ep<c.ep):xE (s.nodes++[⟨b,ab s.nodes b.parent,cC b⟩]) c.rt b.root:=by
 have u:=h.insN j;have i:TrV (s.nodes++[⟨b,ab s.nodes b.parent,cC b⟩]):=u.tree;obtain⟨z,C⟩:=dD j.par;have p:s.nodes.length<(s.nodes++[(⟨b,ab s.nodes b.parent,cC b⟩:Nod)]).length:=af1
 have m:nod (s.nodes++[(⟨b,ab s.nodes b.parent,cC b⟩:Nod)]) s.nodes.length=⟨b,ab s.nodes b.parent,cC b⟩:=by rw[eW,afx (adJ _),afA rfl]
 have o:=j6 i p (r:=b.root) af3;refine⟨af0,fun y=>?_⟩;rw[o];unfold nV at a;rw[aD af0,ac9]at a;by_cases q:(di s c.ep).1<b.slot
 ·rw[afA q,afL,afJ,afJ]at a;obtain⟨l,B⟩:=a;have t:=(SX s.nodes (ab s.nodes b.parent) (di s c.ep).1).resolve_left af0;have A:=dL h.tree.r.ok t;have x:(atT s.nodes (ab s.nodes b.parent) (di s c.ep).1).toNat<s.nodes.length:=af0
  have v:=j6 i (k:=(atT s.nodes (ab s.nodes b.parent) (di s c.ep).1).toNat) af0 (r:=c.rt) (by rw[eW,afA x];omega);rw[v,afW l];exact WD (n:=⟨b,ab s.nodes b.parent,cC b⟩) h.tree.r i.r j.par af3 t
 ·rw[afx q]at a;have l:b.root=c.rt:=ac3 a;rw[<-l,o];exact lD i.r p
theorem Zx{s:af}{b:Blk}(h:rc s b=true):nV s b (ab s.nodes b.parent) b.fin=true/\nV s b (ab s.nodes b.parent) b.pul.f=true:=by
 unfold rc at h;cases d:cm (fun k=>!nV s b (ab s.nodes b.parent) ((cps b).getD k cp0)) 4 with
 |some k=>grind
 | none =>
   have f:=fh d 1 af1;have c:=fh d 3 af1;simp only[aej]at f c;exact⟨f,c⟩
theorem Qr{s:af}{i:Nat}(h:StW s)(n:bi s i){b:Blk}(g:bG s b=0)(m:jL i b):0<=ab (gE s b).nodes b.root:=by
 have d:=vK g;obtain⟨u,t⟩:=Zx d.fit;have r:=n.insN g m;have e0:=Ot n g;have p:StW (bQ s (eZ s.nodes b (cC b)).1):=by rw[e0];exact h.insN d
 have w:s.f.ep<b.fin.ep->xE (bQ s (eZ s.nodes b (cC b)).1).nodes b.fin.rt b.root:=fun e=>by
  rw[e0];exact J0 h d u e
 have v:s.f.ep<b.pul.f.ep->xE (bQ s (eZ s.nodes b (cC b)).1).nodes b.pul.f.rt b.root:=fun e=>by
  rw[e0];exact J0 h d t e
 have l:0<=ab (bQ s (eZ s.nodes b (cC b)).1).nodes b.root:=by
  show 0<=ab (eZ s.nodes b (cC b)).1 b.root
  rw[e0];exact j5 (k:=s.nodes.length) af1 (by rw[eW,afx (adJ _),afA rfl])
 have x:(bQ s (eZ s.nodes b (cC b)).1).f=s.f:=rfl;have o:=Lj p (j:=b.just) (f:=b.fin) l af3
 have q:s.f.ep<=(dw (bQ s (eZ s.nodes b (cC b)).1) b.just b.fin).f.ep:=by
  unfold dw;split
  ·grind
  ·split
   ·grind
   ·unfold eU;grind
 unfold gE;split
 ·exact(Lj (p.upd r m.just m.fin) o.1 (fun e=>o.2 _ (v af0))).1
 omega
theorem StW.withB{s:af}(h:StW s){r:Rt}(hr:r=rt0\/0<=ab s.nodes r):StW (Go.FH.withB s r):=
 ⟨h.ne,h.tree,h.z1,h.z2,h.z3,h.z4,h.fr,h.jf,h.ji,h.fj,h.tj,h.tv,h.ll,h.lv,h.qv,hr,h.nm,h.je,h.ea,h.nd,h.av,fun b hb=>⟨(h.ob b hb).rt,(h.ob b hb).un,(h.ob b hb).ti,(h.ob b hb).nw,(h.ob b hb).ol⟩,h.od⟩
theorem StV.block{s:af}{i:Nat}(h:StV s)(f:bi s i){b:Blk}(j:jL i b)(n:(bR s b).2.2=0):StV (bR s b).1:=by
 unfold bR at *;by_cases k:bG s b=10
 ·rw [afA k] at n ⊢
  by_cases d:s.cfg.lim.orph<=s.orph.length
  ·grind
  ·rw [afx d]
   have c:=xK k;obtain⟨A,z⟩:=wm c.kn;obtain⟨w,o⟩:=h;refine⟨⟨w.ne,w.tree,w.z1,?_,w.z3,w.z4,w.fr,w.jf,w.ji,w.fj,w.tj,w.tv,w.ll,w.lv,w.qv,w.bo,w.nm,w.je,w.ea,w.nd,w.av,fun x a=>?_,?_⟩,fun x a=>?_⟩
   ·show (((s.orph++[noT b]).length:Nat):Int)<=s.cfg.lim.orph
    rw[afB,ad0];omega
   ·rcases afR.1 a with a|a
    ·obtain⟨q,r,t,u,v⟩:=w.ob x a;exact⟨q,r,t,u,v⟩
    ·rw[afN]at a;subst a;exact⟨c.root,A,rfl,c.now,c.old⟩
   ·show (s.orph++[noT b]).Pairwise _
    rw[ac6];refine⟨w.od,af1,fun x a y m=>?_⟩;rw[afN]at m;subst m;exact z x a
   ·rcases afR.1 a with a|a
    ·exact o x a
    ·rw[afN]at a;subst a;exact c.par
 ·rw [afx k] at n ⊢
  by_cases d:bG s b≠0
  ·grind
  ·rw[afx d]
   have d:bG s b=0:=af0
   have B:StW (blockI s b):=by
    unfold blockI;split
    ·exact(h.w.ins f d j).withB (.inr (Qr h.w f d j))
    ·exact h.w.ins f d j
   obtain⟨D,E⟩:=StW.waitG ((blockI s b).orph.length+1) (p:=(blockI s b,[b.root])) B (f.blockI d j) (adS _);exact⟨D,YV E⟩
end Go.Proofs.YtmpddimhleianaaGreat
