/- Joined. -/
import Derived.Test.YtmpddimhleianaaGreatV5v
import Derived.Test.YtmpddimhleianaaGreatW3v
import Derived.Test.YtmpddimhleianaaGreatV6v
set_option linter.unusedVariables false
set_option linter.unusedSimpArgs false
set_option maxRecDepth 8000
set_option maxHeartbeats 4000000
namespace Go.FH
open Go Go.RowKit
def re(s:af)(i j:Nat):Bool:=if i<=j then eP s j else (gp s.nodes j).any fun k=>decide ((i:Int)<=k)&&eP s k
def mU(s:af)(i:Nat):List Bool:=(List.range s.nodes.length).map (re s i)
theorem nC(s:af)(i:Nat):(mU s i).length=s.nodes.length:=by simp[mU]
theorem F2{s:af}{i j:Nat}(h:j<s.nodes.length):(mU s i).getD j false=re s i j:=by
 simp[mU,afy,h]
theorem J9(s:af):∀n,aH (yZ s) [] n=(List.range n).map fun j=>eP s (j:Nat)
 |0=>rfl
 |n+1=>by rw[bg,J9 s n,acV,acu];rfl
theorem Oz(s:af):mU s 0=iK s:=by
 unfold iK mU;rw[J9];apply acN
 intro j _;unfold re;rw[afA (afK _)]
theorem Xm{s:af}(ht:bk s.nodes):mU s s.nodes.length=List.replicate s.nodes.length false:=by
 unfold mU;rw[show List.replicate s.nodes.length false=(List.range s.nodes.length).map (fun _=>false)by simp[List.map_const']];apply acN
 intro j hj;rw[List.mem_range]at hj;unfold re;rw[afx af0,List.any_eq_false];intro x hx;have:=(eO ht hx).2.2.1;simp;omega
theorem Xn{s:af}(ht:bk s.nodes){i:Nat}(h:i<s.nodes.length):((mU s (i+1)).getD i false || rg s i)=eP s i:=by
 rw[F2 h,Cm ht i af0,Bool.or_comm];congr 1;unfold re;rw[afx af0,acU,ads,ads];constructor
 ·rintro⟨x,hx,h2⟩;rw[afL]at h2;exact⟨x,hx,h2.2⟩
 ·rintro⟨x,hx,h2⟩;have:=(eO ht hx).1;exact⟨x,hx,by rw[h2,adI,afJ];omega⟩
theorem QH{t:List Nod}{i k:Nat}(hi:i<t.length)(hk:k<t.length)(h:(nod t k).up=i):(k:Int)∈gp t i:=by
 unfold gp;rw[afA (by simp[isN,hi])]
 have:∀n,k<n->(k:Int)∈aH (fun k l=>if (nod t k).up=i then l++[(k:Int)]else l) [] n:=by
  intro n;induction n with
  |zero=>intro h;omega
  | succ n ih =>
    intro h2;rw[bg];by_cases hkn:k=n
    ·subst hkn;rw[afA h];simp
    ·have:=ih af0;split
     ·exact adf _ this
     ·exact this
 exact this _ hk
theorem MF {s : af} (ht : bk s.nodes) {i : Nat} (h : i < s.nodes.length) : mU s i = if 0 <= (nod s.nodes i).up /\ eP s i = true then ((mU s (i + 1)).set i (eP s i)).set (nod s.nodes i).up.toNat true else (mU s (i + 1)).set i (eP s i) := by
 have key:∀j,j<s.nodes.length->re s i j=if j=i then eP s i else if (nod s.nodes i).up=j/\eP s i=true then true else re s (i+1) j:=by
  intro j hj;by_cases h1:j=i
  ·subst h1;rw[afA rfl];unfold re;rw[afA (afE _)]
  rw[afx h1];by_cases h2:i<=j
  ·have hn:¬ ((nod s.nodes i).up=j/\eP s i=true):=by
    rintro⟨q,_⟩;by_cases h0:i=0
    ·subst h0;have:=ht.root;omega
    ·have:=ht.ok i af0 h;omega
   rw[afx hn];unfold re;rw[afA h2,afA af0]
  ·unfold re
   rw[afx h2,afx (show ¬i+1<=j by omega)];split
   ·rename_i hq;rw[ads];exact⟨i,QH af0 h hq.1,by rw[hq.2];simp⟩
   ·rename_i hq
    rw[acU,ads,ads];constructor
    ·rintro⟨x,hx,h3⟩
     rw[afL,afJ]at h3;refine⟨x,hx,?_⟩;rw[h3.2,adI,afJ];by_cases hxi:x=i
     ·subst hxi;have:=(eO ht hx).2.2.2;rw[afH]at this;exact absurd ⟨this,h3.2⟩ hq
     ·omega
    ·rintro⟨x,hx,h3⟩;rw[afL,afJ]at h3;exact⟨x,hx,by rw[h3.2,adI,afJ];omega⟩
 have hu:0<=(nod s.nodes i).up->(nod s.nodes i).up.toNat<s.nodes.length:=fun h0=>by
  by_cases hi0:i=0
  ·subst hi0;have:=ht.root;omega
  ·have:=ht.ok i af0 h;omega
 apply ac1
 intro j
 have hg:∀k,(mU s k)[j]?=if j<s.nodes.length then some (re s k j)else none:=by
  intro k;unfold mU;rw[acs];by_cases hj:j<s.nodes.length
  ·rw[afA hj,afz (by simp[hj])];simp
  ·rw[afx hj,adb (by simp;omega)];rfl
 rw[hg];by_cases hj:j<s.nodes.length
 ·rw [afA hj, key j hj]
  by_cases hc:0<=(nod s.nodes i).up/\eP s i=true
  ·rw [afA hc, ac4, adO, nC]
   by_cases hji:j=i
   ·subst hji
    have:(nod s.nodes j).up.toNat≠j:=by
     by_cases h0:j=0
     ·subst h0;have:=ht.root;omega
     ·have:=ht.ok j af0 h;omega
    rw[afA rfl,afx this,ac4,afA rfl,afA (by rw[nC];exact hj)]
   ·rw[afx hji];by_cases hju:(nod s.nodes i).up.toNat=j
    ·rw[afA hju,afA ⟨af0,hc.2⟩,afA af0]
    ·rw[afx hju,afx af0,ac4,afx (fun q=>hji q.symm),hg,afA hj]
  ·rw[afx hc,ac4]
   by_cases hji:j=i
   ·subst hji;rw[afA rfl,afA rfl,afA (by rw[nC];exact hj)]
   ·rw[afx hji,afx (fun q=>hc ⟨af0,q.2⟩),afx (fun q=>hji q.symm),hg,afA hj]
 ·rw[afx hj];symm;split<;>(rw[adb];simp[nC];omega)
def su(f:Nat->Int)(n:Nat):Int:=aH (fun k a=>a+f k) 0 n
theorem Dl(f:Nat->Int)(n:Nat):su f (n+1)=su f n+f n:=rfl
theorem li{f g:Nat->Int}:∀ {n:Nat},(∀k,k<n->f k=g k)->su f n=su g n
 |0,_=>rfl
 |n+1,h=>by rw[Dl,Dl,li fun k hk=>h k af0,h n af0]
theorem Dk(f g:Nat->Int):∀n,su (fun k=>f k+g k) n=su f n+su g n
 |0=>rfl
 |n+1=>by rw[Dl,Dl,Dl,Dk f g n];omega
theorem NP{f:Nat->Int}:∀ {n:Nat},(∀k,k<n->f k=0)->su f n=0
 |0,_=>rfl
 |n+1,h=>by rw[Dl,NP fun k hk=>h k af0,h n af0];rfl
theorem O2(f:Nat->Nat->Int)(m:Nat):∀n,su (fun i=>su (f i) m) n=su (fun j=>su (fun i=>f i j) n) m
 |0=>(NP fun _ _=>rfl).symm
 | n + 1 => by
   rw[Dl,O2 f m n,<-Dk];exact li fun k _=>rfl
theorem II{f:Nat->Int}{i:Nat}:∀ {n:Nat},i<n->su (fun k=>if k=i then f k else 0) n=f i
 |0,h=>by omega
 | n + 1, h => by
   rw[Dl];by_cases hn:n=i
   ·subst hn;rw[afA rfl,NP fun k hk=>afx af0];omega
   ·rw[afx hn,II af0];omega
theorem Z7{p:Prop}[Decidable p](f:Nat->Int)(n:Nat):su (fun k=>if p then f k else 0) n=if p then su f n else 0:=by
 by_cases h:p
 ·rw[afA h];exact li fun k _=>afA h
 ·rw[afx h];exact NP fun k _=>afx h
theorem SS{t:List Nod}(ht:eL t){k u:Nat}(h0:0<k)(hk:k<t.length)(hu:(nod t k).up=u)(a:Nat):bw t a k=(bw t a u || decide (a=k))/\(bw t a u=true->a≠k):=by
 have hlt:u<k:=by have:=ht k h0 hk;omega
 constructor
 ·unfold bw;rw[ia ht h0 hk,hu];simp only[afR,afN];rw[acU];simp only[adm,afJ];rw[show ((a:Int)=(k:Int))=(a=k)by simp only[eq_iff_iff];omega]
 ·unfold bw;intro h;rw[afJ]at h;have:=(dL ht h).2.1;omega
theorem N8{t:List Nod}(ht:bk t){j:Nat}(hj:j<t.length):∀ (n k:Nat),k<n->k<t.length->(if bw t j k=true then (1:Int)else 0)=(if k=j then 1 else 0)+su (fun c=>if (nod t c).up=j/\bw t c k=true then 1 else 0) t.length
 |0,k,h,_=>by omega
 | n + 1, k, h, hk => by
   by_cases h0:k=0
   ·subst h0
    have hp:∀a:Nat,bw t a (0:Nat)=decide (a=0):=fun a=>by
     unfold bw;rw[show ((0:Nat):Int)=0 from rfl,gu hk];rw[acU];simp
    rw[NP fun c hc=>?_]
    ·rw[hp];by_cases hj0:j=0
     ·subst hj0;rfl
     ·rw[afx (by simpa using hj0),afx (fun q=>hj0 q.symm)];rfl
    ·rw[afx];rintro⟨h1,h2⟩;rw[hp,afJ]at h2;subst h2;have:=ht.root;omega
   ·have hb:=ht.ok k af0 hk
    obtain⟨u,hu⟩:∃u:Nat,(nod t k).up=u:=⟨_,(afW hb.1).symm⟩
    have ih:=N8 ht hj n u af0 af0
    have e1:∀a:Nat,(if bw t a k=true then (1:Int)else 0)=(if bw t a u=true then 1 else 0)+if a=k then 1 else 0:=fun a=>by
     obtain⟨g1,g2⟩:=SS ht.ok af0 hk hu a;rw[g1];by_cases q:bw t a u=true
     ·rw[q,afx (g2 q)];simp
     ·rw[afx q];have q':bw t a u=false:=by simpa using q
      rw[q',ac9];by_cases q2:a=k
      ·simp[q2]
      ·simp[q2]
    have e2:su (fun c=>if (nod t c).up=j/\bw t c k=true then (1:Int)else 0) t.length=su (fun c=>if (nod t c).up=j/\bw t c u=true then (1:Int)else 0) t.length+if u=j then 1 else 0:=by
     have:∀c,c<t.length->(if (nod t c).up=j/\bw t c k=true then (1:Int)else 0)=(if (nod t c).up=j/\bw t c u=true then (1:Int)else 0)+if c=k then (if (nod t c).up=j then 1 else 0)else 0:=fun c hc=>by
      have:=e1 c;by_cases q:(nod t c).up=j
      ·simp only[q,aes,aco];exact this
      ·simp[q]
     rw[li this,Dk,II (f:=fun c=>if (nod t c).up=j then 1 else 0) hk,hu];congr 1;by_cases q:u=j
     ·rw[afA q,afA af0]
     ·rw[afx q,afx af0]
    rw[e1,e2,ih];by_cases q:j=k
    ·rw[afA q,afA q.symm];omega
    ·rw[afx q,afx (fun h:k=j=>q h.symm)];omega
def tS(t:List Nod)(D:Nat->Int)(j:Nat):Int:=su (fun k=>if bw t j k=true then D k else 0) t.length
def kS(t:List Nod)(D:Nat->Int)(i j:Nat):Int:=su (fun c=>if (nod t c).up=j/\i<=c then tS t D c else 0) t.length
theorem O6{t:List Nod}(ht:bk t)(D:Nat->Int){j:Nat}(hj:j<t.length):tS t D j=D j+kS t D 0 j:=by
 have h1:∀k,k<t.length->(if bw t j k=true then D k else 0)=(if k=j then D k else 0)+su (fun c=>if (nod t c).up=j then (if bw t c k=true then D k else 0)else 0) t.length:=fun k hk=>by
  have:=N8 ht hj (k+1) k af0 hk
  have hm:∀ (f:Nat->Int) (x:Int) n,su f n*x=su (fun c=>f c*x) n:=fun f x n=>by
   induction n with
   |zero=>simp[su,Dy]
   |succ n ih=>rw[Dl,Dl,Int.add_mul,ih]
  have h2:(if bw t j k=true then D k else 0)=(if bw t j k=true then (1:Int)else 0)*D k:=by split<;>simp
  rw[h2,this,Int.add_mul,hm];congr 1
  ·split<;>simp
  ·refine li fun c _=>?_
   by_cases q1:(nod t c).up=j
   ·by_cases q2:bw t c k=true
    ·simp[q1,q2]
    ·simp[q1,q2]
   ·simp[q1]
 unfold tS;rw[li h1,Dk,II hj,O2];congr 1;unfold kS;refine li fun c _=>?_
 rw[Z7];unfold tS;by_cases q:(nod t c).up=j
 ·rw[afA q,afA ⟨q,afK _⟩]
 ·rw[afx q,afx (fun h=>q h.1)]
theorem Mq{t:List Nod}(ht:bk t)(D:Nat->Int){i j:Nat}(hij:i<=j+1):kS t D i j=kS t D 0 j:=by
 refine li fun c hc=>?_
 by_cases q:(nod t c).up=j
 ·have:i<=c:=by
   by_cases h0:c=0
   ·subst h0;have:=ht.root;omega
   ·have:=ht.ok c af0 hc;omega
  rw[afA ⟨q,this⟩,afA ⟨q,afK _⟩]
 ·rw[afx (fun h=>q h.1),afx (fun h=>q h.1)]
theorem aaM{t:List Nod}(D:Nat->Int){i:Nat}(hi:i<t.length)(j:Nat):kS t D i j=kS t D (i+1) j+if (nod t i).up=j then tS t D i else 0:=by
 have:∀c,c<t.length->(if (nod t c).up=j/\i<=c then tS t D c else 0)=(if (nod t c).up=j/\i+1<=c then tS t D c else 0)+if c=i then (if (nod t c).up=j then tS t D c else 0)else 0:=fun c hc=>by
  by_cases q:c=i
  ·subst q;rw[afA rfl,afx (fun h=>by omega:¬ ((nod t c).up=j/\c+1<=c))];by_cases q2:(nod t c).up=j
   ·rw[afA ⟨q2,afE _⟩,afA q2];omega
   ·rw[afx (fun h=>q2 h.1),afx q2];omega
  ·rw[afx q];by_cases q2:(nod t c).up=j/\i<=c
   ·rw[afA q2,afA ⟨q2.1,af0⟩];omega
   ·rw[afx q2,afx (fun h=>q2 ⟨h.1,af0⟩)];omega
 unfold kS;rw[li this,Dk,II (f:=fun c=>if (nod t c).up=j then tS t D c else 0) hi]
theorem w64(n:Int):IntKind.u64.wrap n=n%18446744073709551616:=by rfl
theorem YU(a b:Int):IntKind.u64.wrap (IntKind.u64.wrap a+IntKind.u64.wrap b)=IntKind.u64.wrap (a+b):=by simp only[w64];omega
theorem Wp(a b:Int):IntKind.u64.wrap (IntKind.u64.wrap a+b)=IntKind.u64.wrap (a+b):=by simp only[w64];omega
def tU(t:List Nod)(d:List Int)(i:Nat):List Int:=(List.range t.length).map fun j=>IntKind.u64.wrap (if i<=j then tS t (d.getD · 0) j else d.getD j 0+kS t (d.getD · 0) i j)
theorem sP(t:List Nod)(d:List Int)(i:Nat):(tU t d i).length=t.length:=by simp[tU]
theorem Dm{t:List Nod}(d:List Int)(i:Nat){j:Nat}(h:j<t.length):(tU t d i).getD j 0=IntKind.u64.wrap (if i<=j then tS t (d.getD · 0) j else d.getD j 0+kS t (d.getD · 0) i j):=by
 simp[tU,afy,h]
theorem Z9{t:List Nod}(d:List Int)(hd:d.length=t.length)(hu:∀n∈d,0<=n/\n<18446744073709551616):tU t d t.length=d:=by
 apply aeA (by rw[sP,hd])
 intro j h1 h2;have hj:j<t.length:=by rw[sP]at h1;exact h1
 have:=Dm d t.length hj;rw[afy,afz h1,ac7]at this;rw[this,afx af0];have hk:kS t (d.getD · 0) t.length j=0:=NP fun c hc=>afx af0
 rw[hk,afy,afz h2,ac7,Int.add_zero,w64];have:=hu _ (afY h2);omega
theorem R5{t:List Nod}(ht:bk t)(d:List Int){i:Nat}(h0:0<i)(hi:i<t.length):tU t d i=(tU t d (i+1)).set (nod t i).up.toNat (IntKind.u64.wrap ((tU t d (i+1)).getD (nod t i).up.toNat 0+(tU t d (i+1)).getD i 0)):=by
 have hb:=ht.ok i h0 hi;obtain⟨u,hu⟩:∃u:Nat,(nod t i).up=u:=⟨_,(afW hb.1).symm⟩
 have hti:=O6 ht (d.getD · 0) hi;rw[hu,afH,Dm d _ hi,Dm d _ (show u<t.length by omega),afx af0,afx af0,YU,Mq ht _ (afE _),<-hti];apply ac1
 intro j
 have hg:∀k,(tU t d k)[j]?=if j<t.length then some (IntKind.u64.wrap (if k<=j then tS t (d.getD · 0) j else d.getD j 0+kS t (d.getD · 0) k j))else none:=by
  intro k;unfold tU;rw[acs];by_cases hj:j<t.length
  ·rw[afA hj,afz (by simp[hj])];simp
  ·rw[afx hj,adb (by simp;omega)];rfl
 rw[hg,ac4,sP,hg];by_cases hj:j<t.length
 ·rw [afA hj]
  by_cases hju:u=j
  ·subst hju;rw[afA rfl,afA hj,afx af0,aaM _ hi u,afA hu];congr 2;omega
  ·rw [afx hju, afA hj]
   congr 2;by_cases hij:i+1<=j
   ·rw[afA hij,afA af0]
   ·rw[afx hij]
    by_cases hij2:i<=j
    ·have:j=i:=af0
     subst this;rw[afA (afE _),Mq ht _ (afE _)];exact hti
    ·rw[afx hij2,aaM _ hi j,afx af0,Int.add_zero]
 ·rw[afx hj,afx hj];split
  ·omega
  ·rfl
theorem Dx{α β:Type}(g:α->β->α)(x:β)(l:List β)(a:α):∀n,n<=l.length->aH (fun k a=>g a (l.getD k x)) a n=(l.take n).foldl g a
 |0,_=>rfl
 | n + 1, h => by
   rw[bg,Dx g x l a n af0,<-List.take_append_getElem (by omega:n<l.length),aep,afy,afz af0];rfl
theorem Bw(p:Nat->Bool)(d:List Int):∀n,(aH (fun k l=>if p k=true then l++[(k:Int)]else l) [] n).foldl (fun a x=>IntKind.u64.wrap (a+d.getD x.toNat 0)) 0=IntKind.u64.wrap (su (fun k=>if p k=true then d.getD k 0 else 0) n)
 |0=>rfl
 | n + 1 => by
   rw[bg,Dl];by_cases h:p n=true
   ·rw[afA h,afA h,aep,Bw p d n];show IntKind.u64.wrap (_+d.getD (n:Int).toNat 0)=_
    rw[Wp,afH]
   ·rw[afx h,afx h,Bw p d n,Int.add_zero]
theorem IK(t:List Nod)(d:List Int):∀n,aH (fun i l=>l++[aH (fun k n=>IntKind.u64.wrap (n+d.getD ((ej t i).getD k 0).toNat 0)) 0 (ej t i).length]) [] n=(List.range n).map fun i=>IntKind.u64.wrap (tS t (d.getD · 0) i)
 |0=>rfl
 | n + 1 => by
   rw[bg,IK t d n,acV,acu];congr 1;show [_]=[_]
   congr 1;rw[Dx (fun a x=>IntKind.u64.wrap (a+d.getD x.toNat 0)) 0 (ej t n) 0 _ (afE _),acL];exact Bw (fun k=>bw t n k) d t.length
theorem Z8{t:List Nod}(ht:bk t)(d:List Int):tU t d 1=R6 t d:=by
 unfold R6;rw[IK];unfold tU;apply acN
 intro j hj;rw[List.mem_range]at hj;by_cases h:1<=j
 ·rw[afA h]
 ·have:j=0:=af0
  subst this;rw[afx h,O6 ht _ hj,Mq ht _ (afE _)]
def SB(latest:List Vot)(eqv bals:List Int)(r:Rt)(v:Nat):Int:=aH (fun i n=>if (vot latest i).has=true/\(i:Int)∉eqv/\(vot latest i).root∈[r]then IntKind.u64.wrap (n+bals.getD i 0)else n) 0 v
def HB(t:List Nod)(latest:List Vot)(eqv bals:List Int)(v i:Nat):Int:=if (nod t i).status≠2 then SB latest eqv bals (nod t i).blk.root v else 0
def tJ(t:List Nod)(latest:List Vot)(eqv bals:List Int)(v:Nat):List Int:=(List.range t.length).map (HB t latest eqv bals v)
theorem vR(t:List Nod)(latest:List Vot)(eqv bals:List Int)(v:Nat):(tJ t latest eqv bals v).length=t.length:=by simp[tJ]
theorem Tp{t:List Nod}(latest:List Vot)(eqv bals:List Int)(v:Nat){i:Nat}(h:i<t.length):(tJ t latest eqv bals v).getD i 0=HB t latest eqv bals v i:=by
 simp[tJ,afy,h]
theorem Zu(t:List Nod)(latest:List Vot)(eqv bals:List Int):tJ t latest eqv bals 0=List.replicate t.length 0:=by
 rw[show List.replicate t.length (0:Int)=(List.range t.length).map (fun _=>0)by simp[List.map_const']];apply acN
 intro i _;unfold HB SB;rw[Dy];split<;>rfl
theorem L7(t:List Nod)(latest:List Vot)(eqv bals:List Int)(hb:bals.length<=latest.length):tJ t latest eqv bals bals.length=gX t latest eqv bals:=by
 have:∀n,aH (fun i l=>l++[if (nod t i).status≠2 then oZ latest eqv bals [(nod t i).blk.root]else 0]) [] n=(List.range n).map (HB t latest eqv bals bals.length):=by
  intro n;induction n with
  |zero=>rfl
  | succ n ih =>
    rw[bg,ih,acV,acu];congr 1;show [_]=[_]
    congr 1;unfold HB oZ SB;rw[adk hb]
 exact(this _).symm
theorem Oh{t:List Nod}{latest:List Vot}{eqv bals:List Int}{v:Nat}(j:Nat):(tJ t latest eqv bals v)[j]?=if j<t.length then some (HB t latest eqv bals v j)else none:=by
 unfold tJ;rw[acs];by_cases hj:j<t.length
 ·rw[afA hj,afz (by simp[hj])];simp
 ·rw[afx hj,adb (by simp;omega)];rfl
theorem Tq{t:List Nod}(latest:List Vot)(eqv bals:List Int){v i:Nat}(hi:i<t.length)(hd:∀j,j<t.length->(nod t j).blk.root=(nod t i).blk.root->(nod t j).status≠2->j=i)(hs:(nod t i).status≠2)
 (h1:(vot latest v).has=true) (h2:(v:Int)∉eqv) (h3:(vot latest v).root=(nod t i).blk.root):tJ t latest eqv bals (v+1)=(tJ t latest eqv bals v).set i (IntKind.u64.wrap ((tJ t latest eqv bals v).getD i 0+bals.getD v 0)):=by
 rw[Tp _ _ _ _ hi];apply ac1
 intro j;rw[ac4,vR,Oh,Oh];by_cases hj:j<t.length
 ·rw [afA hj, afA hj]
  by_cases hji:i=j
  ·subst hji;rw[afA rfl,afA hi];unfold HB;rw[afA hs,afA hs];unfold SB;rw[bg,afA ⟨h1,h2,afN.2 h3⟩]
  ·rw[afx hji]
   congr 1;unfold HB;by_cases hs2:(nod t j).status≠2
   ·rw[afA hs2,afA hs2];unfold SB;rw[bg,afx];rintro⟨_,_,q⟩;rw[afN,h3]at q;exact hji (hd j hj q.symm hs2).symm
   ·rw[afx hs2,afx hs2]
 ·rw[afx hj,afx hj];split
  ·omega
  ·rfl
theorem P5{t:List Nod}(latest:List Vot)(eqv bals:List Int){v:Nat}(h:(vot latest v).has=true->(v:Int)∉eqv->∀j,j<t.length->(nod t j).status≠2->(nod t j).blk.root≠(vot latest v).root):tJ t latest eqv bals (v+1)=tJ t latest eqv bals v:=by
 apply acN
 intro j hj;rw[List.mem_range]at hj;unfold HB;by_cases hs2:(nod t j).status≠2
 ·rw[afA hs2,afA hs2];unfold SB;rw[bg,afx];rintro⟨q1,q2,q⟩;rw[afN]at q;exact h q1 q2 j hj hs2 q.symm
 ·rw[afx hs2,afx hs2]
theorem rG{t:List Nod}(ht:bk t){k:Nat}(hk:k<t.length)(i:Nat):bw t i k=(decide ((k:Int)=i) || (decide (0<=(nod t k).up)&&bw t i (nod t k).up)):=by
 by_cases h0:k=0
 ·subst h0;have hr:=ht.root;unfold bw;rw[show ((0:Nat):Int)=0 from rfl,gu hk,aD (p:=(0:Int)<=(nod t 0).up) af0,acI,aeE,acU];simp only[afN,afJ];omega
 ·have hb:=ht.ok k af0 hk;obtain⟨u,hu⟩:∃u:Nat,(nod t k).up=u:=⟨_,(afW hb.1).symm⟩
  rw[(SS ht.ok af0 hk hu i).1,hu,ax (p:=(0:Int)<=(u:Int)) af0,acD,Bool.or_comm];congr 1;rw[acU];simp only[afJ];omega
def AP(t:List Nod)(i k:Nat):List Bool:=(List.range t.length).map fun j=>decide (j<k)&&bw t i j
theorem AQ(t:List Nod)(i k:Nat):(AP t i k).length=t.length:=by simp[AP]
theorem S5{t:List Nod}(i k:Nat){j:Nat}(h:j<t.length):(AP t i k).getD j false=(decide (j<k)&&bw t i j):=by
 simp[AP,afy,h]
theorem Zq(t:List Nod)(i:Nat):AP t i 0=List.replicate t.length false:=by
 rw[show List.replicate t.length false=(List.range t.length).map (fun _=>false)by simp[List.map_const']];apply acN
 intro j _;rw[aD af0,acI]
theorem Zr{t:List Nod}(i:Nat){k:Nat}(hk:k<t.length):AP t i (k+1)=if bw t i k=true then (AP t i k).set k true else AP t i k:=by
 have hg:∀m j,(AP t i m)[j]?=if j<t.length then some (decide (j<m)&&bw t i j)else none:=by
  intro m j;unfold AP;rw[acs];by_cases hj:j<t.length
  ·rw[afA hj,afz (by simp[hj])];simp
  ·rw[afx hj,adb (by simp;omega)];rfl
 apply ac1
 intro j;rw[hg];by_cases hj:j<t.length
 ·rw [afA hj]
  by_cases hc:bw t i k=true
  ·rw[afA hc,ac4,AQ,hg,afA hj,afA hk]
   by_cases hjk:k=j
   ·subst hjk;rw[afA rfl,hc];simp
   ·rw[afx hjk];congr 2;rw[acU];simp only[afJ];omega
  ·rw[afx hc,hg,afA hj]
   by_cases hjk:k=j
   ·subst hjk;have:bw t i k=false:=by simpa using hc
    rw[this,aef,aef]
   ·congr 2;rw[acU];simp only[afJ];omega
 ·rw[afx hj]
  symm;split
  ·rw[ac4,hg,afx hj,AQ];split
   ·omega
   ·rfl
  ·rw[hg,afx hj]
theorem nE{t:List Nod}(ht:bk t){c:Nat}(hc:c<t.length):aZ t c=aZ t (nod t c).up++[(c:Int)]:=by
 by_cases h0:c=0
 ·subst h0;have hr:=ht.root;rw[show ((0:Nat):Int)=0 from rfl,gu hc,jg (i:=(nod t 0).up) (by unfold isN;rw[aD (p:=(0:Int)<=(nod t 0).up) af0,acI])];rfl
 ·exact ia ht.ok af0 hc
def xg(l:List Int)(k:Nat):List Int:=(List.range l.length).map fun j=>if j<k\/l.length<=j+k then l.getD (l.length-1-j) 0 else l.getD j 0
theorem sF(l:List Int)(k:Nat):(xg l k).length=l.length:=by simp[xg]
theorem xi{l:List Int}(k:Nat){j:Nat}(h:j<l.length):(xg l k).getD j 0=if j<k\/l.length<=j+k then l.getD (l.length-1-j) 0 else l.getD j 0:=by
 simp[xg,afy,h]
theorem ZW(l:List Int):xg l 0=l:=by
 apply aeA (by rw[sF])
 intro j h1 h2;have:=xi 0 h2;rw[afx af0,afy,afy,afz h1,afz h2]at this;exact this
theorem ZX{l:List Int}{k:Nat}(h:l.length<=2*k+1):xg l k=l.reverse:=by
 apply aeA (by rw[sF,List.length_reverse])
 intro j h1 h2;have hj:j<l.length:=by rw[sF]at h1;exact h1
 have:=xi k hj;rw[afy,afz h1]at this;rw[List.getElem_reverse];rw[ac7]at this;rw[this];by_cases q:j<k\/l.length<=j+k
 ·rw[afA q,afy,afz af0];rfl
 ·rw[afx q,afy,afz hj,ac7];congr 1;omega
theorem ZY{l:List Int}{k:Nat}(h:2*k+1<l.length):xg l (k+1)=((xg l k).set k ((xg l k).getD (l.length-1-k) 0)).set (l.length-1-k) ((xg l k).getD k 0):=by
 rw[xi k (show l.length-1-k<l.length by omega),xi k (show k<l.length by omega),afx af0,afx af0]
 have hg:∀m j,(xg l m)[j]?=if j<l.length then some (if j<m\/l.length<=j+m then l.getD (l.length-1-j) 0 else l.getD j 0)else none:=by
  intro m j;unfold xg;rw[acs];by_cases hj:j<l.length
  ·rw[afA hj,afz (by simp[hj])];simp
  ·rw[afx hj,adb (by simp;omega)];rfl
 apply ac1
 intro j;rw[hg,ac4,ac4,adO,sF,hg];by_cases hj:j<l.length
 ·rw [afA hj]
  by_cases h1:l.length-1-k=j
  ·rw[afA h1,afA af0,afA af0];congr 2;omega
  ·rw[afx h1]
   by_cases h2:k=j
   ·subst h2;rw[afA rfl,afA af0,afA af0]
   ·rw[afx h2,afA hj];congr 1;by_cases q:j<k\/l.length<=j+k
    ·rw[afA af0,afA q]
    ·rw[afx af0,afx q]
 ·rw[afx hj]
  symm;split
  ·omega
  ·split
   ·omega
   ·rfl
end Go.FH
namespace Go.Proofs.YtmpddimhleianaaGreat
open Go Go.FH Go.RowKit
theorem FF{b:Int}(hb:b<18446744073709551616):∀ (f j:Nat),(2:Int) ^ j<=b->mI b f (2 ^ j)=min (2 ^ (j+f)) b
 |0,j,h=>by unfold mI;rw[acR,Int.min_eq_left h]
 | f + 1, j, h => by
   have hp:(0:Int)<2 ^ j:=Int.pow_pos af2;have hs:(2:Int) ^ (j+1)=2*2 ^ j:=by rw[Int.pow_succ];omega
   unfold mI;rw[aC af0 af0];by_cases q:b-2 ^ j<=2 ^ j
   ·rw[afA q,Int.min_eq_right];have h3:(2:Int) ^ (j+(f+1))=2 ^ (j+1)*2 ^ f:=by rw[show j+(f+1)=(j+1)+f by omega,Int.pow_add]
    have h1:(0:Int)<2 ^ f:=Int.pow_pos af2;have h2:=Int.mul_le_mul_of_nonneg_left (show (1:Int)<=2 ^ f by omega) (show (0:Int)<=2 ^ (j+1)by omega);rw[h3];generalize (2:Int) ^ (j+1)*2 ^ f=P at *;omega
   ·rw[afx q,aC af0 af0,<-hs,FF hb f (j+1) af0];congr 2;omega
theorem aci{b tries:Int}(h0:0<=b)(hb:b<18446744073709551616):mJ tries b=if 64<tries then b else min (2 ^ (tries-1).toNat) b:=by
 unfold mJ;by_cases q:b=0
 ·rw[afA q,q]
  split
  ·rfl
  ·have hp:(0:Int)<2 ^ (tries-1).toNat:=Int.pow_pos af2;rw[Int.min_eq_right (aez hp)]
 ·rw [afx q]
  have:=FF hb (tries-1).toNat 0 (by rw[Int.pow_zero];omega);rw[Int.pow_zero,acC]at this;rw[this];split
  ·rename_i ht
   rw[Int.min_eq_right]
   have:(2:Int) ^ 64<=2 ^ (tries-1).toNat:=by
    rw[show (tries-1).toNat=64+((tries-1).toNat-64)by omega,Int.pow_add];have h1:(0:Int)<2 ^ ((tries-1).toNat-64):=Int.pow_pos af2;have:=Int.mul_le_mul_of_nonneg_left (show (1:Int)<=2 ^ ((tries-1).toNat-64)by omega) (show (0:Int)<=2 ^ 64 by decide);omega
   have:(2:Int) ^ 64=18446744073709551616:=af2
   omega
  ·rfl
def mK(l:List Req)(i:Nat)(s:al):al:=if mu s.sto (aO l i).block=true then jo s (aO l i).block (aO l i).tries else s
theorem vS(l:List Req)(s:al):∀n,(aH (mK l) s n).sto=s.sto
 |0=>rfl
 | n + 1 => by
   rw[bg];unfold mK;split
   ·exact vS l s n
   ·exact vS l s n
theorem YZ(l:List Req)(s:al):∀n,(∀i,i<n->(aO l i).due<=s.sto.now)->aH (oD l) (fw s []) n=fw (aH (mK l) s n) []
 |0,_=>rfl
 | n + 1, h => by
   rw[bg,bg,YZ l s n fun i hi=>h i af0];have h1:=h n (adS n);have h2:=vS l s n;generalize aH (mK l) s n=u at *;unfold oD mK;rw[afx (by show ¬u.sto.now<_;rw[h2];omega)];show (if mu u.sto _=true then _ else _)=_
   by_cases q:mu u.sto (aO l n).block=true
   ·rw[afA q,afA q];rfl
   ·rw[afx q,afx q]
theorem Y0(l:List Req)(s:al){n:Nat}(h:∀i,i<n->(aO l i).due<=s.sto.now)(h2:∀i,n<=i->i<l.length->s.sto.now<(aO l i).due):∀m,n+m<=l.length->aH (oD l) (fw s []) (n+m)=fw (aH (mK l) s n) ((l.drop n).take m)
 |0,_=>YZ l s n h
 | m + 1, hm => by
   rw[<-acZ,bg,Y0 l s h h2 m af0];have h3:=h2 (n+m) af0 af0;have h4:=vS l s n;generalize aH (mK l) s n=u at *;unfold oD;rw[afA (by show u.sto.now<_;rw[h4];exact h3)];show fw u ((l.drop n).take m++[aO l (n+m)])=_
   congr 1;rw[<-List.take_append_getElem (show m<(l.drop n).length by rw[acT];omega)];congr 1;rw[List.getElem_drop];unfold aO;rw[afy,afz af0];rfl
theorem W5(s:al){n:Nat}(hn:n<=s.rets.length)(h:∀i,i<n->(aO s.rets i).due<=s.sto.now)(h2:∀i,n<=i->i<s.rets.length->s.sto.now<(aO s.rets i).due):tK s=fw (aH (mK s.rets) s n) (s.rets.drop n):=by
 unfold tK;have:=Y0 s.rets s h h2 (s.rets.length-n) af0;rw[Nat.add_sub_cancel' hn]at this;rw[this,afD (by rw[acT];omega)]
theorem LD{spe boost total:Int}(h1:1<=spe)(h2:spe<=64)(h3:0<=boost)(h4:boost<=100)(h5:0<=total)(h6:total<=4611686018427387904):jb spe boost total=(total / spe*boost / 100,0):=by
 unfold jb;rw[afx af0,acy h5];have hq0:0<=total / spe:=adx h5 af0;have hq1:total / spe<=total:=adB _ h5;generalize total / spe=q at *;rw[aC hq0 af0,acy hq0,adC hq0];have ha0:0<=q / 100:=af0
 have hr0:0<=q%100:=af0
 have hr1:q%100<100:=af0
 have hqe:q=100*(q / 100)+q%100:=af0
 have hA:q / 100<=46116860184273880:=af0
 generalize q / 100=a at *;generalize q%100=r at *;have hab:a*boost<=a*100:=Int.mul_le_mul_of_nonneg_left h4 ha0;have hab0:0<=a*boost:=aeR ha0 h3;have hrb:r*boost<=r*100:=Int.mul_le_mul_of_nonneg_left h4 hr0;have hrb0:0<=r*boost:=aeR hr0 h3;have hprod:q*boost=100*(a*boost)+r*boost:=by rw[hqe,Int.add_mul,Int.mul_assoc]
 rw[hprod,aC (n:=a) ha0 af0];generalize a*boost=x at *;generalize r*boost=y at *;rw[aC (n:=x) hab0 af0,aC (n:=y) hrb0 af0,acy hrb0,aC (n:=y / 100) af0 af0,aC af0 af0];congr 1;omega
end Go.Proofs.YtmpddimhleianaaGreat
