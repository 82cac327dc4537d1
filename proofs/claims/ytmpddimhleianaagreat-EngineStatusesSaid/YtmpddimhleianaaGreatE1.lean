/- Joined. -/
import Derived.Test.YtmpddimhleianaaGreatV5
import Derived.Test.YtmpddimhleianaaGreatW3
import Derived.Test.YtmpddimhleianaaGreatV6
set_option linter.unusedVariables false
set_option linter.unusedSimpArgs false
set_option maxRecDepth 8000
set_option maxHeartbeats 4000000
namespace Go.FH
open Go Go.RowKit
def lP(s:ap)(i j:Nat):Bool:=if i<=j then nE s j else (ly s.nodes j).any fun k=>decide ((i:Int)<=k)&&nE s k
def fO(s:ap)(i:Nat):List Bool:=(List.range s.nodes.length).map (lP s i)
theorem gw(s:ap)(i:Nat):(fO s i).length=s.nodes.length:=by simp[fO]
theorem ND{s:ap}{i j:Nat}(h:j<s.nodes.length):(fO s i).getD j false=lP s i j:=by
 simp[fO,alt,h]
theorem DH(s:ap):∀n,bg (Ik s) [] n=(List.range n).map fun j=>nE s (j:Nat)
 |0=>rfl
 |n+1=>by rw[cX,DH s n,ake,amN];rfl
theorem Rr(s:ap):fO s 0=Il s:=by
 unfold Il fO;rw[DH];apply ajK
 intro j _;unfold lP;rw[al7 (amc _)]
theorem Rw{s:ap}(ht:dU s.nodes):fO s s.nodes.length=List.replicate s.nodes.length false:=by
 unfold fO;rw[show List.replicate s.nodes.length false=(List.range s.nodes.length).map (fun _=>false)by simp[List.map_const']];apply ajK
 intro j hj;rw[List.mem_range]at hj;unfold lP;rw[al5 WL,List.any_eq_false];intro x hx;have:=(gK ht hx).2.2.1;simp;omega
theorem RA{s:ap}(ht:dU s.nodes){i:Nat}(h:i<s.nodes.length):((fO s (i+1)).getD i false || IC s i)=nE s i:=by
 rw[ND h,abx ht i WL,Bool.or_comm];congr 1;unfold lP;rw[al5 WL,ajZ,alg,alg];constructor
 ·rintro⟨x,hx,h2⟩;rw[amk]at h2;exact⟨x,hx,h2.2⟩
 ·rintro⟨x,hx,h2⟩;have:=(gK ht hx).1;exact⟨x,hx,by rw[h2,akF,amg];omega⟩
theorem NF{t:List Nod}{i k:Nat}(hi:i<t.length)(hk:k<t.length)(h:(nod t k).up=i):(k:Int)∈ly t i:=by
 unfold ly;rw[al7 (by simp[isN,hi])]
 have:∀n,k<n->(k:Int)∈bg (fun k l=>if (nod t k).up=i then l++[(k:Int)]else l) [] n:=by
  intro n;induction n with
  |zero=>intro h;omega
  | succ n ih =>
    intro h2;rw[cX];by_cases hkn:k=n
    ·subst hkn;rw[al7 h];simp
    ·have:=ih WL;split
     ·exact aka _ this
     ·exact this
 exact this _ hk
theorem GS {s : ap} (ht : dU s.nodes) {i : Nat} (h : i < s.nodes.length) : fO s i = if 0 <= (nod s.nodes i).up /\ nE s i = true then ((fO s (i + 1)).set i (nE s i)).set (nod s.nodes i).up.toNat true else (fO s (i + 1)).set i (nE s i) := by
 have key:∀j,j<s.nodes.length->lP s i j=if j=i then nE s i else if (nod s.nodes i).up=j/\nE s i=true then true else lP s (i+1) j:=by
  intro j hj;by_cases h1:j=i
  ·subst h1;rw[al7 rfl];unfold lP;rw[al7 (amb _)]
  rw[al5 h1];by_cases h2:i<=j
  ·have hn:¬ ((nod s.nodes i).up=j/\nE s i=true):=by
    rintro⟨q,_⟩;by_cases h0:i=0
    ·subst h0;have:=ht.root;omega
    ·have:=ht.ok i WL h;omega
   rw[al5 hn];unfold lP;rw[al7 h2,al7 WL]
  ·unfold lP
   rw[al5 h2,al5 (show ¬i+1<=j by omega)];split
   ·rename_i hq;rw[alg];exact⟨i,NF WL h hq.1,by rw[hq.2];simp⟩
   ·rename_i hq
    rw[ajZ,alg,alg];constructor
    ·rintro⟨x,hx,h3⟩
     rw[amk,amg]at h3;refine⟨x,hx,?_⟩;rw[h3.2,akF,amg];by_cases hxi:x=i
     ·subst hxi;have:=(gK ht hx).2.2.2;rw[amw]at this;exact absurd ⟨this,h3.2⟩ hq
     ·omega
    ·rintro⟨x,hx,h3⟩;rw[amk,amg]at h3;exact⟨x,hx,by rw[h3.2,akF,amg];omega⟩
 have hu:0<=(nod s.nodes i).up->(nod s.nodes i).up.toNat<s.nodes.length:=fun h0=>by
  by_cases hi0:i=0
  ·subst hi0;have:=ht.root;omega
  ·have:=ht.ok i WL h;omega
 apply akb
 intro j
 have hg:∀k,(fO s k)[j]?=if j<s.nodes.length then some (lP s k j)else none:=by
  intro k;unfold fO;rw[ajv];by_cases hj:j<s.nodes.length
  ·rw[al7 hj,al6 (by simp[hj])];simp
  ·rw[al5 hj,ajn (by simp;omega)];rfl
 rw[hg];by_cases hj:j<s.nodes.length
 ·rw [al7 hj, key j hj]
  by_cases hc:0<=(nod s.nodes i).up/\nE s i=true
  ·rw [al7 hc, ak8, akB, gw]
   by_cases hji:j=i
   ·subst hji
    have:(nod s.nodes j).up.toNat≠j:=by
     by_cases h0:j=0
     ·subst h0;have:=ht.root;omega
     ·have:=ht.ok j WL h;omega
    rw[al7 rfl,al5 this,ak8,al7 rfl,al7 (by rw[gw];exact hj)]
   ·rw[al5 hji];by_cases hju:(nod s.nodes i).up.toNat=j
    ·rw[al7 hju,al7 ⟨WL,hc.2⟩,al7 WL]
    ·rw[al5 hju,al5 WL,ak8,al5 (fun q=>hji q.symm),hg,al7 hj]
  ·rw[al5 hc,ak8]
   by_cases hji:j=i
   ·subst hji;rw[al7 rfl,al7 rfl,al7 (by rw[gw];exact hj)]
   ·rw[al5 hji,al5 (fun q=>hc ⟨WL,q.2⟩),al5 (fun q=>hji q.symm),hg,al7 hj]
 ·rw[al5 hj];symm;split<;>(rw[ajn];simp[gw];omega)
def su(f:Nat->Int)(n:Nat):Int:=bg (fun k a=>a+f k) 0 n
theorem xL(f:Nat->Int)(n:Nat):su f (n+1)=su f n+f n:=rfl
theorem eL{f g:Nat->Int}:∀ {n:Nat},(∀k,k<n->f k=g k)->su f n=su g n
 |0,_=>rfl
 |n+1,h=>by rw[xL,xL,eL fun k hk=>h k WL,h n WL]
theorem xI(f g:Nat->Int):∀n,su (fun k=>f k+g k) n=su f n+su g n
 |0=>rfl
 |n+1=>by rw[xL,xL,xL,xI f g n];omega
theorem OS{f:Nat->Int}:∀ {n:Nat},(∀k,k<n->f k=0)->su f n=0
 |0,_=>rfl
 |n+1,h=>by rw[xL,OS fun k hk=>h k WL,h n WL];rfl
theorem KS(f:Nat->Nat->Int)(m:Nat):∀n,su (fun i=>su (f i) m) n=su (fun j=>su (fun i=>f i j) n) m
 |0=>(OS fun _ _=>rfl).symm
 | n + 1 => by
   rw[xL,KS f m n,<-xI];exact eL fun k _=>rfl
theorem CD{f:Nat->Int}{i:Nat}:∀ {n:Nat},i<n->su (fun k=>if k=i then f k else 0) n=f i
 |0,h=>by omega
 | n + 1, h => by
   rw[xL];by_cases hn:n=i
   ·subst hn;rw[al7 rfl,OS fun k hk=>al5 WL];omega
   ·rw[al5 hn,CD WL];omega
theorem SP{p:Prop}[Decidable p](f:Nat->Int)(n:Nat):su (fun k=>if p then f k else 0) n=if p then su f n else 0:=by
 by_cases h:p
 ·rw[al7 h];exact eL fun k _=>al7 h
 ·rw[al5 h];exact OS fun k _=>al5 h
theorem Pe{t:List Nod}(ht:eQ t){k u:Nat}(h0:0<k)(hk:k<t.length)(hu:(nod t k).up=u)(a:Nat):eh t a k=(eh t a u || decide (a=k))/\(eh t a u=true->a≠k):=by
 have hlt:u<k:=by have:=ht k h0 hk;omega
 constructor
 ·unfold eh;rw[jw ht h0 hk,hu];simp only[amm,amn];rw[ajZ];simp only[ajY,amg];rw[show ((a:Int)=(k:Int))=(a=k)by simp only[eq_iff_iff];omega]
 ·unfold eh;intro h;rw[amg]at h;have:=(gu ht h).2.1;omega
theorem Kf{t:List Nod}(ht:dU t){j:Nat}(hj:j<t.length):∀ (n k:Nat),k<n->k<t.length->(if eh t j k=true then (1:Int)else 0)=(if k=j then 1 else 0)+su (fun c=>if (nod t c).up=j/\eh t c k=true then 1 else 0) t.length
 |0,k,h,_=>by omega
 | n + 1, k, h, hk => by
   by_cases h0:k=0
   ·subst h0
    have hp:∀a:Nat,eh t a (0:Nat)=decide (a=0):=fun a=>by
     unfold eh;rw[show ((0:Nat):Int)=0 from rfl,jv hk];rw[ajZ];simp
    rw[OS fun c hc=>?_]
    ·rw[hp];by_cases hj0:j=0
     ·subst hj0;rfl
     ·rw[al5 (by simpa using hj0),al5 (fun q=>hj0 q.symm)];rfl
    ·rw[al5];rintro⟨h1,h2⟩;rw[hp,amg]at h2;subst h2;have:=ht.root;omega
   ·have hb:=ht.ok k WL hk
    obtain⟨u,hu⟩:∃u:Nat,(nod t k).up=u:=⟨_,(amC hb.1).symm⟩
    have ih:=Kf ht hj n u WL WL
    have e1:∀a:Nat,(if eh t a k=true then (1:Int)else 0)=(if eh t a u=true then 1 else 0)+if a=k then 1 else 0:=fun a=>by
     obtain⟨g1,g2⟩:=Pe ht.ok WL hk hu a;rw[g1];by_cases q:eh t a u=true
     ·rw[q,al5 (g2 q)];simp
     ·rw[al5 q];have q':eh t a u=false:=by simpa using q
      rw[q',aj9];by_cases q2:a=k
      ·simp[q2]
      ·simp[q2]
    have e2:su (fun c=>if (nod t c).up=j/\eh t c k=true then (1:Int)else 0) t.length=su (fun c=>if (nod t c).up=j/\eh t c u=true then (1:Int)else 0) t.length+if u=j then 1 else 0:=by
     have:∀c,c<t.length->(if (nod t c).up=j/\eh t c k=true then (1:Int)else 0)=(if (nod t c).up=j/\eh t c u=true then (1:Int)else 0)+if c=k then (if (nod t c).up=j then 1 else 0)else 0:=fun c hc=>by
      have:=e1 c;by_cases q:(nod t c).up=j
      ·simp only[q,alh,amt];exact this
      ·simp[q]
     rw[eL this,xI,CD (f:=fun c=>if (nod t c).up=j then 1 else 0) hk,hu];congr 1;by_cases q:u=j
     ·rw[al7 q,al7 WL]
     ·rw[al5 q,al5 WL]
    rw[e1,e2,ih];by_cases q:j=k
    ·rw[al7 q,al7 q.symm];omega
    ·rw[al5 q,al5 (fun h:k=j=>q h.symm)];omega
def tS(t:List Nod)(D:Nat->Int)(j:Nat):Int:=su (fun k=>if eh t j k=true then D k else 0) t.length
def kS(t:List Nod)(D:Nat->Int)(i j:Nat):Int:=su (fun c=>if (nod t c).up=j/\i<=c then tS t D c else 0) t.length
theorem KV{t:List Nod}(ht:dU t)(D:Nat->Int){j:Nat}(hj:j<t.length):tS t D j=D j+kS t D 0 j:=by
 have h1:∀k,k<t.length->(if eh t j k=true then D k else 0)=(if k=j then D k else 0)+su (fun c=>if (nod t c).up=j then (if eh t c k=true then D k else 0)else 0) t.length:=fun k hk=>by
  have:=Kf ht hj (k+1) k WL hk
  have hm:∀ (f:Nat->Int) (x:Int) n,su f n*x=su (fun c=>f c*x) n:=fun f x n=>by
   induction n with
   |zero=>simp[su,ac3]
   |succ n ih=>rw[xL,xL,Int.add_mul,ih]
  have h2:(if eh t j k=true then D k else 0)=(if eh t j k=true then (1:Int)else 0)*D k:=by split<;>simp
  rw[h2,this,Int.add_mul,hm];congr 1
  ·split<;>simp
  ·refine eL fun c _=>?_
   by_cases q1:(nod t c).up=j
   ·by_cases q2:eh t c k=true
    ·simp[q1,q2]
    ·simp[q1,q2]
   ·simp[q1]
 unfold tS;rw[eL h1,xI,CD hj,KS];congr 1;unfold kS;refine eL fun c _=>?_
 rw[SP];unfold tS;by_cases q:(nod t c).up=j
 ·rw[al7 q,al7 ⟨q,amc _⟩]
 ·rw[al5 q,al5 (fun h=>q h.1)]
theorem GK{t:List Nod}(ht:dU t)(D:Nat->Int){i j:Nat}(hij:i<=j+1):kS t D i j=kS t D 0 j:=by
 refine eL fun c hc=>?_
 by_cases q:(nod t c).up=j
 ·have:i<=c:=by
   by_cases h0:c=0
   ·subst h0;have:=ht.root;omega
   ·have:=ht.ok c WL hc;omega
  rw[al7 ⟨q,this⟩,al7 ⟨q,amc _⟩]
 ·rw[al5 (fun h=>q h.1),al5 (fun h=>q h.1)]
theorem Ta{t:List Nod}(D:Nat->Int){i:Nat}(hi:i<t.length)(j:Nat):kS t D i j=kS t D (i+1) j+if (nod t i).up=j then tS t D i else 0:=by
 have:∀c,c<t.length->(if (nod t c).up=j/\i<=c then tS t D c else 0)=(if (nod t c).up=j/\i+1<=c then tS t D c else 0)+if c=i then (if (nod t c).up=j then tS t D c else 0)else 0:=fun c hc=>by
  by_cases q:c=i
  ·subst q;rw[al7 rfl,al5 (fun h=>by omega:¬ ((nod t c).up=j/\c+1<=c))];by_cases q2:(nod t c).up=j
   ·rw[al7 ⟨q2,amb _⟩,al7 q2];omega
   ·rw[al5 (fun h=>q2 h.1),al5 q2];omega
  ·rw[al5 q];by_cases q2:(nod t c).up=j/\i<=c
   ·rw[al7 q2,al7 ⟨q2.1,WL⟩];omega
   ·rw[al5 q2,al5 (fun h=>q2 ⟨h.1,WL⟩)];omega
 unfold kS;rw[eL this,xI,CD (f:=fun c=>if (nod t c).up=j then tS t D c else 0) hi]
theorem w64(n:Int):IntKind.u64.wrap n=n%18446744073709551616:=by rfl
theorem Sb(a b:Int):IntKind.u64.wrap (IntKind.u64.wrap a+IntKind.u64.wrap b)=IntKind.u64.wrap (a+b):=by simp only[w64];omega
theorem QN(a b:Int):IntKind.u64.wrap (IntKind.u64.wrap a+b)=IntKind.u64.wrap (a+b):=by simp only[w64];omega
def oq(t:List Nod)(d:List Int)(i:Nat):List Int:=(List.range t.length).map fun j=>IntKind.u64.wrap (if i<=j then tS t (d.getD · 0) j else d.getD j 0+kS t (d.getD · 0) i j)
theorem mV(t:List Nod)(d:List Int)(i:Nat):(oq t d i).length=t.length:=by simp[oq]
theorem xM{t:List Nod}(d:List Int)(i:Nat){j:Nat}(h:j<t.length):(oq t d i).getD j 0=IntKind.u64.wrap (if i<=j then tS t (d.getD · 0) j else d.getD j 0+kS t (d.getD · 0) i j):=by
 simp[oq,alt,h]
theorem SS{t:List Nod}(d:List Int)(hd:d.length=t.length)(hu:∀n∈d,0<=n/\n<18446744073709551616):oq t d t.length=d:=by
 apply alJ (by rw[mV,hd])
 intro j h1 h2;have hj:j<t.length:=by rw[mV]at h1;exact h1
 have:=xM d t.length hj;rw[alt,al6 h1,amT]at this;rw[this,al5 WL];have hk:kS t (d.getD · 0) t.length j=0:=OS fun c hc=>al5 WL
 rw[hk,alt,al6 h2,amT,Int.add_zero,w64];have:=hu _ (amS h2);omega
theorem OT{t:List Nod}(ht:dU t)(d:List Int){i:Nat}(h0:0<i)(hi:i<t.length):oq t d i=(oq t d (i+1)).set (nod t i).up.toNat (IntKind.u64.wrap ((oq t d (i+1)).getD (nod t i).up.toNat 0+(oq t d (i+1)).getD i 0)):=by
 have hb:=ht.ok i h0 hi;obtain⟨u,hu⟩:∃u:Nat,(nod t i).up=u:=⟨_,(amC hb.1).symm⟩
 have hti:=KV ht (d.getD · 0) hi;rw[hu,amw,xM d _ hi,xM d _ (show u<t.length by omega),al5 WL,al5 WL,Sb,GK ht _ (amb _),<-hti];apply akb
 intro j
 have hg:∀k,(oq t d k)[j]?=if j<t.length then some (IntKind.u64.wrap (if k<=j then tS t (d.getD · 0) j else d.getD j 0+kS t (d.getD · 0) k j))else none:=by
  intro k;unfold oq;rw[ajv];by_cases hj:j<t.length
  ·rw[al7 hj,al6 (by simp[hj])];simp
  ·rw[al5 hj,ajn (by simp;omega)];rfl
 rw[hg,ak8,mV,hg];by_cases hj:j<t.length
 ·rw [al7 hj]
  by_cases hju:u=j
  ·subst hju;rw[al7 rfl,al7 hj,al5 WL,Ta _ hi u,al7 hu];congr 2;omega
  ·rw [al5 hju, al7 hj]
   congr 2;by_cases hij:i+1<=j
   ·rw[al7 hij,al7 WL]
   ·rw[al5 hij]
    by_cases hij2:i<=j
    ·have:j=i:=WL
     subst this;rw[al7 (amb _),GK ht _ (amb _)];exact hti
    ·rw[al5 hij2,Ta _ hi j,al5 WL,Int.add_zero]
 ·rw[al5 hj,al5 hj];split
  ·omega
  ·rfl
theorem Js{α β:Type}(g:α->β->α)(x:β)(l:List β)(a:α):∀n,n<=l.length->bg (fun k a=>g a (l.getD k x)) a n=(l.take n).foldl g a
 |0,_=>rfl
 | n + 1, h => by
   rw[cX,Js g x l a n WL,<-List.take_append_getElem (by omega:n<l.length),Wu,alt,al6 WL];rfl
theorem tz(p:Nat->Bool)(d:List Int):∀n,(bg (fun k l=>if p k=true then l++[(k:Int)]else l) [] n).foldl (fun a x=>IntKind.u64.wrap (a+d.getD x.toNat 0)) 0=IntKind.u64.wrap (su (fun k=>if p k=true then d.getD k 0 else 0) n)
 |0=>rfl
 | n + 1 => by
   rw[cX,xL];by_cases h:p n=true
   ·rw[al7 h,al7 h,Wu,tz p d n];show IntKind.u64.wrap (_+d.getD (n:Int).toNat 0)=_
    rw[QN,amw]
   ·rw[al5 h,al5 h,tz p d n,Int.add_zero]
theorem KU(t:List Nod)(d:List Int):∀n,bg (fun i l=>l++[bg (fun k n=>IntKind.u64.wrap (n+d.getD ((im t i).getD k 0).toNat 0)) 0 (im t i).length]) [] n=(List.range n).map fun i=>IntKind.u64.wrap (tS t (d.getD · 0) i)
 |0=>rfl
 | n + 1 => by
   rw[cX,KU t d n,ake,amN];congr 1;show [_]=[_]
   congr 1;rw[Js (fun a x=>IntKind.u64.wrap (a+d.getD x.toNat 0)) 0 (im t n) 0 _ (amb _),ajp];exact tz (fun k=>eh t n k) d t.length
theorem SQ{t:List Nod}(ht:dU t)(d:List Int):oq t d 1=ahl t d:=by
 unfold ahl;rw[KU];unfold oq;apply ajK
 intro j hj;rw[List.mem_range]at hj;by_cases h:1<=j
 ·rw[al7 h]
 ·have:j=0:=WL
  subst this;rw[al5 h,KV ht _ hj,GK ht _ (amb _)]
def Pa(latest:List Vot)(eqv bals:List Int)(r:Rt)(v:Nat):Int:=bg (fun i n=>if (vot latest i).has=true/\(i:Int)∉eqv/\(vot latest i).root∈[r]then IntKind.u64.wrap (n+bals.getD i 0)else n) 0 v
def BF(t:List Nod)(latest:List Vot)(eqv bals:List Int)(v i:Nat):Int:=if (nod t i).status≠2 then Pa latest eqv bals (nod t i).blk.root v else 0
def nP(t:List Nod)(latest:List Vot)(eqv bals:List Int)(v:Nat):List Int:=(List.range t.length).map (BF t latest eqv bals v)
theorem pH(t:List Nod)(latest:List Vot)(eqv bals:List Int)(v:Nat):(nP t latest eqv bals v).length=t.length:=by simp[nP]
theorem Pt{t:List Nod}(latest:List Vot)(eqv bals:List Int)(v:Nat){i:Nat}(h:i<t.length):(nP t latest eqv bals v).getD i 0=BF t latest eqv bals v i:=by
 simp[nP,alt,h]
theorem Sn(t:List Nod)(latest:List Vot)(eqv bals:List Int):nP t latest eqv bals 0=List.replicate t.length 0:=by
 rw[show List.replicate t.length (0:Int)=(List.range t.length).map (fun _=>0)by simp[List.map_const']];apply ajK
 intro i _;unfold BF Pa;rw[ac3];split<;>rfl
theorem Gd(t:List Nod)(latest:List Vot)(eqv bals:List Int)(hb:bals.length<=latest.length):nP t latest eqv bals bals.length=Gw t latest eqv bals:=by
 have:∀n,bg (fun i l=>l++[if (nod t i).status≠2 then GI latest eqv bals [(nod t i).blk.root]else 0]) [] n=(List.range n).map (BF t latest eqv bals bals.length):=by
  intro n;induction n with
  |zero=>rfl
  | succ n ih =>
    rw[cX,ih,ake,amN];congr 1;show [_]=[_]
    congr 1;unfold BF GI Pa;rw[akA hb]
 exact(this _).symm
theorem Kj{t:List Nod}{latest:List Vot}{eqv bals:List Int}{v:Nat}(j:Nat):(nP t latest eqv bals v)[j]?=if j<t.length then some (BF t latest eqv bals v j)else none:=by
 unfold nP;rw[ajv];by_cases hj:j<t.length
 ·rw[al7 hj,al6 (by simp[hj])];simp
 ·rw[al5 hj,ajn (by simp;omega)];rfl
theorem Pv{t:List Nod}(latest:List Vot)(eqv bals:List Int){v i:Nat}(hi:i<t.length)(hd:∀j,j<t.length->(nod t j).blk.root=(nod t i).blk.root->(nod t j).status≠2->j=i)(hs:(nod t i).status≠2)
 (h1:(vot latest v).has=true) (h2:(v:Int)∉eqv) (h3:(vot latest v).root=(nod t i).blk.root):nP t latest eqv bals (v+1)=(nP t latest eqv bals v).set i (IntKind.u64.wrap ((nP t latest eqv bals v).getD i 0+bals.getD v 0)):=by
 rw[Pt _ _ _ _ hi];apply akb
 intro j;rw[ak8,pH,Kj,Kj];by_cases hj:j<t.length
 ·rw [al7 hj, al7 hj]
  by_cases hji:i=j
  ·subst hji;rw[al7 rfl,al7 hi];unfold BF;rw[al7 hs,al7 hs];unfold Pa;rw[cX,al7 ⟨h1,h2,amn.2 h3⟩]
  ·rw[al5 hji]
   congr 1;unfold BF;by_cases hs2:(nod t j).status≠2
   ·rw[al7 hs2,al7 hs2];unfold Pa;rw[cX,al5];rintro⟨_,_,q⟩;rw[amn,h3]at q;exact hji (hd j hj q.symm hs2).symm
   ·rw[al5 hs2,al5 hs2]
 ·rw[al5 hj,al5 hj];split
  ·omega
  ·rfl
theorem M6{t:List Nod}(latest:List Vot)(eqv bals:List Int){v:Nat}(h:(vot latest v).has=true->(v:Int)∉eqv->∀j,j<t.length->(nod t j).status≠2->(nod t j).blk.root≠(vot latest v).root):nP t latest eqv bals (v+1)=nP t latest eqv bals v:=by
 apply ajK
 intro j hj;rw[List.mem_range]at hj;unfold BF;by_cases hs2:(nod t j).status≠2
 ·rw[al7 hs2,al7 hs2];unfold Pa;rw[cX,al5];rintro⟨q1,q2,q⟩;rw[amn]at q;exact h q1 q2 j hj hs2 q.symm
 ·rw[al5 hs2,al5 hs2]
theorem CK{t:List Nod}(ht:dU t){k:Nat}(hk:k<t.length)(i:Nat):eh t i k=(decide ((k:Int)=i) || (decide (0<=(nod t k).up)&&eh t i (nod t k).up)):=by
 by_cases h0:k=0
 ·subst h0;have hr:=ht.root;unfold eh;rw[show ((0:Nat):Int)=0 from rfl,jv hk,aA (p:=(0:Int)<=(nod t 0).up) WL,ajq,alG,ajZ];simp only[amn,amg];omega
 ·have hb:=ht.ok k WL hk;obtain⟨u,hu⟩:∃u:Nat,(nod t k).up=u:=⟨_,(amC hb.1).symm⟩
  rw[(Pe ht.ok WL hk hu i).1,hu,au (p:=(0:Int)<=(u:Int)) WL,am2,Bool.or_comm];congr 1;rw[ajZ];simp only[amg];omega
def tm(t:List Nod)(i k:Nat):List Bool:=(List.range t.length).map fun j=>decide (j<k)&&eh t i j
theorem tu(t:List Nod)(i k:Nat):(tm t i k).length=t.length:=by simp[tm]
theorem Pk{t:List Nod}(i k:Nat){j:Nat}(h:j<t.length):(tm t i k).getD j false=(decide (j<k)&&eh t i j):=by
 simp[tm,alt,h]
theorem Si(t:List Nod)(i:Nat):tm t i 0=List.replicate t.length false:=by
 rw[show List.replicate t.length false=(List.range t.length).map (fun _=>false)by simp[List.map_const']];apply ajK
 intro j _;rw[aA WL,ajq]
theorem Sj{t:List Nod}(i:Nat){k:Nat}(hk:k<t.length):tm t i (k+1)=if eh t i k=true then (tm t i k).set k true else tm t i k:=by
 have hg:∀m j,(tm t i m)[j]?=if j<t.length then some (decide (j<m)&&eh t i j)else none:=by
  intro m j;unfold tm;rw[ajv];by_cases hj:j<t.length
  ·rw[al7 hj,al6 (by simp[hj])];simp
  ·rw[al5 hj,ajn (by simp;omega)];rfl
 apply akb
 intro j;rw[hg];by_cases hj:j<t.length
 ·rw [al7 hj]
  by_cases hc:eh t i k=true
  ·rw[al7 hc,ak8,tu,hg,al7 hj,al7 hk]
   by_cases hjk:k=j
   ·subst hjk;rw[al7 rfl,hc];simp
   ·rw[al5 hjk];congr 2;rw[ajZ];simp only[amg];omega
  ·rw[al5 hc,hg,al7 hj]
   by_cases hjk:k=j
   ·subst hjk;have:eh t i k=false:=by simpa using hc
    rw[this,alB,alB]
   ·congr 2;rw[ajZ];simp only[amg];omega
 ·rw[al5 hj]
  symm;split
  ·rw[ak8,hg,al5 hj,tu];split
   ·omega
   ·rfl
  ·rw[hg,al5 hj]
theorem gE{t:List Nod}(ht:dU t){c:Nat}(hc:c<t.length):AI t c=AI t (nod t c).up++[(c:Int)]:=by
 by_cases h0:c=0
 ·subst h0;have hr:=ht.root;rw[show ((0:Nat):Int)=0 from rfl,jv hc,te (i:=(nod t 0).up) (by unfold isN;rw[aA (p:=(0:Int)<=(nod t 0).up) WL,ajq])];rfl
 ·exact jw ht.ok WL hc
def Dv(l:List Int)(k:Nat):List Int:=(List.range l.length).map fun j=>if j<k\/l.length<=j+k then l.getD (l.length-1-j) 0 else l.getD j 0
theorem mL(l:List Int)(k:Nat):(Dv l k).length=l.length:=by simp[Dv]
theorem qu{l:List Int}(k:Nat){j:Nat}(h:j<l.length):(Dv l k).getD j 0=if j<k\/l.length<=j+k then l.getD (l.length-1-j) 0 else l.getD j 0:=by
 simp[Dv,alt,h]
theorem SH(l:List Int):Dv l 0=l:=by
 apply alJ (by rw[mL])
 intro j h1 h2;have:=qu 0 h2;rw[al5 WL,alt,alt,al6 h1,al6 h2]at this;exact this
theorem SL{l:List Int}{k:Nat}(h:l.length<=2*k+1):Dv l k=l.reverse:=by
 apply alJ (by rw[mL,List.length_reverse])
 intro j h1 h2;have hj:j<l.length:=by rw[mL]at h1;exact h1
 have:=qu k hj;rw[alt,al6 h1]at this;rw[List.getElem_reverse];rw[amT]at this;rw[this];by_cases q:j<k\/l.length<=j+k
 ·rw[al7 q,alt,al6 WL];rfl
 ·rw[al5 q,alt,al6 hj,amT];congr 1;omega
theorem SM{l:List Int}{k:Nat}(h:2*k+1<l.length):Dv l (k+1)=((Dv l k).set k ((Dv l k).getD (l.length-1-k) 0)).set (l.length-1-k) ((Dv l k).getD k 0):=by
 rw[qu k (show l.length-1-k<l.length by omega),qu k (show k<l.length by omega),al5 WL,al5 WL]
 have hg:∀m j,(Dv l m)[j]?=if j<l.length then some (if j<m\/l.length<=j+m then l.getD (l.length-1-j) 0 else l.getD j 0)else none:=by
  intro m j;unfold Dv;rw[ajv];by_cases hj:j<l.length
  ·rw[al7 hj,al6 (by simp[hj])];simp
  ·rw[al5 hj,ajn (by simp;omega)];rfl
 apply akb
 intro j;rw[hg,ak8,ak8,akB,mL,hg];by_cases hj:j<l.length
 ·rw [al7 hj]
  by_cases h1:l.length-1-k=j
  ·rw[al7 h1,al7 WL,al7 WL];congr 2;omega
  ·rw[al5 h1]
   by_cases h2:k=j
   ·subst h2;rw[al7 rfl,al7 WL,al7 WL]
   ·rw[al5 h2,al7 hj];congr 1;by_cases q:j<k\/l.length<=j+k
    ·rw[al7 WL,al7 q]
    ·rw[al5 WL,al5 q]
 ·rw[al5 hj]
  symm;split
  ·omega
  ·split
   ·omega
   ·rfl
end Go.FH
namespace Go.Proofs.YtmpddimhleianaaGreat
open Go Go.FH Go.RowKit
theorem zf{b:Int}(hb:b<18446744073709551616):∀ (f j:Nat),(2:Int) ^ j<=b->qS b f (2 ^ j)=min (2 ^ (j+f)) b
 |0,j,h=>by unfold qS;rw[ajV,Int.min_eq_left h]
 | f + 1, j, h => by
   have hp:(0:Int)<2 ^ j:=Int.pow_pos WN;have hs:(2:Int) ^ (j+1)=2*2 ^ j:=by rw[Int.pow_succ];omega
   unfold qS;rw[aN WL WL];by_cases q:b-2 ^ j<=2 ^ j
   ·rw[al7 q,Int.min_eq_right];have h3:(2:Int) ^ (j+(f+1))=2 ^ (j+1)*2 ^ f:=by rw[show j+(f+1)=(j+1)+f by omega,Int.pow_add]
    have h1:(0:Int)<2 ^ f:=Int.pow_pos WN;have h2:=Int.mul_le_mul_of_nonneg_left (show (1:Int)<=2 ^ f by omega) (show (0:Int)<=2 ^ (j+1)by omega);rw[h3];generalize (2:Int) ^ (j+1)*2 ^ f=P at *;omega
   ·rw[al5 q,aN WL WL,<-hs,zf hb f (j+1) WL];congr 2;omega
theorem LR{b tries:Int}(h0:0<=b)(hb:b<18446744073709551616):vx tries b=if 64<tries then b else min (2 ^ (tries-1).toNat) b:=by
 unfold vx;by_cases q:b=0
 ·rw[al7 q,q]
  split
  ·rfl
  ·have hp:(0:Int)<2 ^ (tries-1).toNat:=Int.pow_pos WN;rw[Int.min_eq_right (ala hp)]
 ·rw [al5 q]
  have:=zf hb (tries-1).toNat 0 (by rw[Int.pow_zero];omega);rw[Int.pow_zero,amO]at this;rw[this];split
  ·rename_i ht
   rw[Int.min_eq_right]
   have:(2:Int) ^ 64<=2 ^ (tries-1).toNat:=by
    rw[show (tries-1).toNat=64+((tries-1).toNat-64)by omega,Int.pow_add];have h1:(0:Int)<2 ^ ((tries-1).toNat-64):=Int.pow_pos WN;have:=Int.mul_le_mul_of_nonneg_left (show (1:Int)<=2 ^ ((tries-1).toNat-64)by omega) (show (0:Int)<=2 ^ 64 by decide);omega
   have:(2:Int) ^ 64=18446744073709551616:=WN
   omega
  ·rfl
def fE(l:List Req)(i:Nat)(s:aI):aI:=if Cz s.sto (bm l i).block=true then nH s (bm l i).block (bm l i).tries else s
theorem pK(l:List Req)(s:aI):∀n,(bg (fE l) s n).sto=s.sto
 |0=>rfl
 | n + 1 => by
   rw[cX];unfold fE;split
   ·exact pK l s n
   ·exact pK l s n
theorem Sd(l:List Req)(s:aI):∀n,(∀i,i<n->(bm l i).due<=s.sto.now)->bg (oZ l) (gi s []) n=gi (bg (fE l) s n) []
 |0,_=>rfl
 | n + 1, h => by
   rw[cX,cX,Sd l s n fun i hi=>h i WL];have h1:=h n (akR n);have h2:=pK l s n;generalize bg (fE l) s n=u at *;unfold oZ fE;rw[al5 (by show ¬u.sto.now<_;rw[h2];omega)];show (if Cz u.sto _=true then _ else _)=_
   by_cases q:Cz u.sto (bm l n).block=true
   ·rw[al7 q,al7 q];rfl
   ·rw[al5 q,al5 q]
theorem Se(l:List Req)(s:aI){n:Nat}(h:∀i,i<n->(bm l i).due<=s.sto.now)(h2:∀i,n<=i->i<l.length->s.sto.now<(bm l i).due):∀m,n+m<=l.length->bg (oZ l) (gi s []) (n+m)=gi (bg (fE l) s n) ((l.drop n).take m)
 |0,_=>Sd l s n h
 | m + 1, hm => by
   rw[<-am1,cX,Se l s h h2 m WL];have h3:=h2 (n+m) WL WL;have h4:=pK l s n;generalize bg (fE l) s n=u at *;unfold oZ;rw[al7 (by show u.sto.now<_;rw[h4];exact h3)];show gi u ((l.drop n).take m++[bm l (n+m)])=_
   congr 1;rw[<-List.take_append_getElem (show m<(l.drop n).length by rw[ajJ];omega)];congr 1;rw[List.getElem_drop];unfold bm;rw[alt,al6 WL];rfl
theorem Re(s:aI){n:Nat}(hn:n<=s.rets.length)(h:∀i,i<n->(bm s.rets i).due<=s.sto.now)(h2:∀i,n<=i->i<s.rets.length->s.sto.now<(bm s.rets i).due):zQ s=gi (bg (fE s.rets) s n) (s.rets.drop n):=by
 unfold zQ;have:=Se s.rets s h h2 (s.rets.length-n) WL;rw[Nat.add_sub_cancel' hn]at this;rw[this,amf (by rw[ajJ];omega)]
theorem Fo{spe boost total:Int}(h1:1<=spe)(h2:spe<=64)(h3:0<=boost)(h4:boost<=100)(h5:0<=total)(h6:total<=4611686018427387904):AC spe boost total=(total / spe*boost / 100,0):=by
 unfold AC;rw[al5 WL,ajC h5];have hq0:0<=total / spe:=akD h5 WL;have hq1:total / spe<=total:=akS _ h5;generalize total / spe=q at *;rw[aN hq0 WL,ajC hq0,aly hq0];have ha0:0<=q / 100:=WL
 have hr0:0<=q%100:=WL
 have hr1:q%100<100:=WL
 have hqe:q=100*(q / 100)+q%100:=WL
 have hA:q / 100<=46116860184273880:=WL
 generalize q / 100=a at *;generalize q%100=r at *;have hab:a*boost<=a*100:=Int.mul_le_mul_of_nonneg_left h4 ha0;have hab0:0<=a*boost:=Wz ha0 h3;have hrb:r*boost<=r*100:=Int.mul_le_mul_of_nonneg_left h4 hr0;have hrb0:0<=r*boost:=Wz hr0 h3;have hprod:q*boost=100*(a*boost)+r*boost:=by rw[hqe,Int.add_mul,Int.mul_assoc]
 rw[hprod,aN (n:=a) ha0 WL];generalize a*boost=x at *;generalize r*boost=y at *;rw[aN (n:=x) hab0 WL,aN (n:=y) hrb0 WL,ajC hrb0,aN (n:=y / 100) WL WL,aN WL WL];congr 1;omega
end Go.Proofs.YtmpddimhleianaaGreat
