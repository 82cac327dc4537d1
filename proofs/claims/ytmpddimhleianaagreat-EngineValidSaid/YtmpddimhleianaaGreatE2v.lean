/- Joined. -/
import Derived.Test.YtmpddimhleianaaGreatE1v
import Derived.Test.YtmpddimhleianaaGreatT1v
import Derived.Test.YtmpddimhleianaaGreatKev
import Derived.Test.YtmpddimhleianaaGreatW3v
import Derived.Test.YtmpddimhleianaaGreatR1v
import Derived.Test.YtmpddimhleianaaGreatV9v
import Derived.Test.YtmpddimhleianaaGreatT6v
set_option linter.unusedVariables false
set_option linter.unusedSimpArgs false
set_option maxRecDepth 8000
set_option maxHeartbeats 4000000
namespace Go.Proofs.YtmpddimhleianaaGreat
open Go Go.FH Go.RowKit
theorem Xz(k:IntKind)(l:List Int)(i:Nat)(n:Int):(ah k l).set i [AV.int k n]=ah k (l.set i n):=by simp[ah,afk]
theorem Dq{k:IntKind}{l:List Int}{n:Nat}(h:l.length<=n):List.take n (ah k l)=ah k l:=afD (by simpa using h)
attribute [go_sem] Dq Xz gdn dv Int.lt_irrefl List.length_reverse
theorem M4(t:List Nod)(i0:Int)(hb:t.length<=2097152)(h0:isN t i0=true):PC Tryz.prog 223 [.agg [nA t],.int .i64 i0] (.sl 1 false (ah .i64 (gp t i0))):=by
 refine aQ 14 ?_;have c1:¬i0<0:=by simp[isN]at h0;omega
 unfold gp;rw[afA h0];refine nx fun H=>?_
 refine dT 5 1 ?_;simp only[go_sem];refine dI t.length (fun i=>[(13,.int .i64 i),(5,.hs 1 1 0 (aH (xY t i0) [] i).length)]) (fun i=>[.var [nA t],.vec 1 (ah .i64 (aH (xY t i0) [] i))]) (fun i h1 hw h2=>?_) fun h=>?_
 ·have hs:=bg (xY t i0) [] i;have hl:=HQ t i0 i;have hc:=xY.eq_1 t i0 i;exact aw
 ·exact aw
theorem Rb(l:List Int)(hb:l.length<=2097152):aJ Tryz.prog 362 [.hs 1 0 0 l.length] [.vec 1 (ah .i64 l)] (.tup []) [.vec 1 (ah .i64 l.reverse)]:=by
 refine cZ 4 ?_;have hw0:IntKind.i64.wrap ((l.length:Int)-1)=(l.length:Int)-1:=ar af0 af0;refine nx fun H=>?_
 refine aE (fun k:Nat=>[(2,.int .i64 k),(3,.int .i64 ((l.length:Int)-1-k))]) (fun k=>[.vec 1 (ah .i64 (xg l k))]) (fun k=>l.length-k) (fun k=>2*k<=l.length+1) 0 af0 ?_ ?_
 ·rw[ZW,Int.natCast_zero,Int.sub_zero];exact gcA
 intro k hk;have hl:=sF l k;by_cases h:(k:Int)<(l.length:Int)-1-k
 ·have hs:=ZY (l:=l) (k:=k) af0;obtain⟨m,hm⟩:∃m:Nat,(l.length:Int)-1-k=m:=⟨l.length-1-k,af0⟩
  have hm2:l.length-1-k=m:=af0
  have hw1:IntKind.i64.wrap ((k:Int)+1)=((k+1:Nat):Int):=ae (n:=l.length) af0 af0;have hw2:IntKind.i64.wrap ((m:Int)-1)=(l.length:Int)-1-((k+1:Nat):Int):=by rw[ar af0 af0];omega
  have hk1:k<l.length:=af0
  have hm1:m<l.length:=af0
  rw[hm2]at hs;generalize xg l k=u at *;have h1:=gdn (k:=.i64) (ns:=u) (i:=k) af0;have h2:=gdn (k:=.i64) (ns:=u) (i:=m) af0;have h3:=gdn (k:=.i64) (ns:=u.set k (u.getD m 0)) (i:=m) (by simp;omega);rw[hm]at h ⊢;refine nx fun H=>?_
  refine⟨k+1,af0,af0,?_⟩;exact aw
 ·have hs:=ZX (l:=l) (k:=k) af0;refine nx fun H=>?_
  exact abF [] [0]
theorem CN(t:List Nod)(ht:bk t)(hb:t.length<=2097152)(i0:Int):PC Tryz.prog 339 [.agg [nA t],.int .i64 i0] (.sl 1 false (ah .i64 (aZ t i0))):=by
 refine aQ 6 ?_;refine nx fun H=>?_
 refine dT 5 1 ?_;simp only[go_sem];refine aE (fun x:Int×List Int=>[(1,.int .i64 x.1),(5,.hs 1 1 0 x.2.length)]) (fun x=>[.var [nA t],.vec 1 (ah .i64 x.2)]) (fun x=>(x.1+1).toNat) (fun x=>x.2++(aZ t x.1).reverse=(aZ t i0).reverse) (i0,[]) af1 ?_ ?_
 ·exact gcA
 rintro⟨j,l⟩ h;dsimp only at h;have c1:=pT t j;have hl:l.length<=t.length:=by have:=iZ ht.ok i0;have:=acM List.length h;simp at this;omega
 cases hj:isN t j with
 | false =>
   rw[jg hj,List.reverse_nil,acH]at h;have c2:=Rb l af0;rw[h,List.reverse_reverse]at c2;rw[h];rw[hj]at c1;refine nx fun H=>?_
   refine oce [1] c2 ?_;exact aw
 | true =>
   rw[hj]at c1;obtain⟨h0,h1⟩:=ez.1 hj;obtain⟨k,rfl⟩:=afF h0;have hk:k<t.length:=af0
   have hup:(nod t k).up<k:=by
    rcases acF k with h|h
    ·subst h;have:=ht.root;omega
    ·exact(ht.ok k h hk).2
   rw[nE ht hk]at h;refine nx fun H=>?_
   refine⟨((nod t k).up,l++[(k:Int)]),by simpa using h,by dsimp only;omega,?_⟩;exact aw
theorem WM(l:List Bool)(i:Nat)(b:Bool):(rows fW l).set i [AV.bool b]=rows fW (l.set i b):=pY fW l i b
theorem abG{l:List Bool}{i:Nat}(h:i<l.length):(rows fW l).getD i []=[AV.bool (l.getD i false)]:=aK (f:=fW) false h
theorem WL(b:Bool)(n:Nat):List.replicate n [AV.bool b]=rows fW (List.replicate n b):=by simp[rows,fW]
attribute [go_sem] WM abG WL
theorem MS(t:List Nod)(ht:bk t)(hb:t.length<=2097152)(i0:Int):PC Tryz.prog 365 [.agg [nA t],.int .i64 i0] (.sl 1 false (ah .i64 (ej t i0))):=by
 refine aQ 21 ?_;have c1:=pT t i0;cases hj:isN t i0 with
 | false =>
   rw[hj]at c1
   have h0:ej t i0=[]:=by
    unfold ej;refine dp (fun _ l=>l=[]) rfl t.length (fun k l _ h=>?_) _ (afE _);rw[vw ht (.inl hj)];exact h
   rw[h0];exact aw
 | true =>
   rw[hj]at c1;obtain⟨h0,h1⟩:=ez.1 hj;obtain⟨c,rfl⟩:=afF h0;have hz:=Zq t c;have hl:=AQ t c;refine nx fun H=>?_
   refine dT 6 1 ?_;simp only[go_sem];refine dI t.length (fun k=>[(20,.int .i64 k),(6,.hs 1 2 0 (aH (nR t c) [] k).length)]) (fun k=>[.var [nA t],.vec 1 (rows fW (AP t c k)),.vec 1 (ah .i64 (aH (nR t c) [] k))]) (fun k h1 hw h2=>?_) (fun h=>?_)
   ·have hs:=bg (nR t c) [] k
    have hg:=fun j h=>S5 (t:=t) c k (j:=j) h
    have hll:(aH (nR t c) [] k).length<=0+k:=jI (fun k l=>by unfold nR;split<;>simp) k;have hn:=Zr (t:=t) c h1;have hc:∀l,nR t c k l=if bw t c k=true then l++[(k:Int)]else l:=fun l=>rfl
    have ha:=rG ht h1 c
    have hup:(nod t k).up<k:=by
     rcases acF k with h|h
     ·subst h;have:=ht.root;omega
     ·exact(ht.ok k h h1).2
    by_cases q:(k:Int)=c
    ·obtain rfl:k=c:=af0
     have e:bw t k k=true:=by rw[ha];simp
     clear ha;exact aw
    by_cases hu:(nod t k).up<0
    ·have e:bw t c k=false:=by rw[ha];simp[q];omega
     clear ha;exact aw
    ·obtain⟨u,hu2⟩:=afF (ac8.1 hu);have hga:=hg u af0;have e:bw t c k=bw t c u:=by rw[ha,hu2];simp[q]
     rw[ax (show u<k by omega),acD]at hga;clear ha hg;generalize bw t c u=A at *;cases A<;>exact aw
   ·exact aw
theorem Jr(cl:Bool)(l:List Req)(hl:l.length<=2097152):aJ Tryz.prog 100 [.sl 35 cl (rows ay l)] [] (.hs 35 0 0 l.length) [.vec 35 (rows ay l)]:=by
 refine cZ 3 ?_;refine gon ?_;refine fun b hb=>?_
 cases b with
 | true =>
   have h0:l=[]:=by simpa[rows,ah]using hb rfl
   subst h0;refine kT ?_;refine fR (fQ ?_);refine zg ?_;refine dT 2 35 ?_;simp only[go_sem];refine gon ?_;exact abF [] [0]
 | false =>
   refine bY ?_;exact abF [] [0]
structure CpA(s:al):Prop where
 st:CpR s.sto
 rq:s.reqs.length<=2097152
 ry:s.rets.length<=2097152
def Kj(s:al):Sta:=⟨s.sto.a,.hs 35 0 0 s.reqs.length,.hs 35 1 0 s.rets.length,s.tag,s.sent,s.last,s.over,s.halt⟩
theorem nz(s:al)(h:CpA s):aJ Tryz.prog 54 [.agg (aG s.a)] [] (.agg (aG (Kj s))) [.vec 35 (rows ay s.reqs),.vec 35 (rows ay s.rets)]:=by
 refine cZ 3 ?_;have c1:=lH s.sto h.st;have c2:=Jr false s.reqs h.rq;have c3:=Jr false s.rets h.ry;unfold Ki at c1;unfold Kj;refine gon ?_;refine ocg [] c1 ?_;refine ocg [] c2 ?_;refine ocg [] c3 ?_;exact abF [2,3,4,5,6,7,8] [9,10]
theorem sY(s:al)(h:CpA s):PC Tryz.prog 54 [.agg (aG s.a)] (.agg (aG s.a)):=(nz s h).pc puA puA (by unfold Kj;exact evd)
theorem Vl(s:al)(r:Rt)(hb:s.sto.nodes.length<=2097152):PC Tryz.prog 181 [.agg (aG s.a),.agg (rtc r)] (.bool (mu s.sto r)):=by
 refine aQ 6 ?_;have c1:=dW s.sto.nodes r hb;have b1:=dl s.sto.nodes r;unfold mu;generalize ab s.sto.nodes r=x at *;by_cases h:x<0
 ·exact aw
 ·obtain⟨k,rfl⟩:=afF (ac8.1 h);have hk:k<s.sto.nodes.length:=af0
  exact aw
theorem Lw(s:al)(r:Rt)(hb:s.sto.nodes.length<=2097152):PC Tryz.prog 172 [.agg (aG s.a),.agg (rtc r)] (.bool (mu s.sto r)):=by
 refine aQ 6 ?_;have c1:=dW s.sto.nodes r hb;have b1:=dl s.sto.nodes r;unfold mu;generalize ab s.sto.nodes r=x at *;by_cases h:x<0
 ·exact aw
 ·obtain⟨k,rfl⟩:=afF (ac8.1 h);have hk:k<s.sto.nodes.length:=af0
  exact aw
theorem Kq(n b:Int)(h1:1<=n)(h0:0<=b)(hb:b<18446744073709551616):PC Tryz.prog 274 [.int .i64 n,.int .u64 b] (.int .u64 (mJ n b)):=by
 refine aQ 5 ?_;rw[aci h0 hb];by_cases h:64<n
 ·exact aw
 ·have hw:IntKind.i64.wrap (n-1)=n-1:=ar af0 af0
  have hm:¬1 > n:=af0
  obtain⟨k,hk⟩:∃k:Nat,n-1=k:=⟨(n-1).toNat,af0⟩
  have hk2:k<=63:=af0
  have hp:(2:Int) ^ k<=2 ^ 63:=by
   have:(2:Nat) ^ k<=2 ^ 63:=Nat.pow_le_pow_right af2 hk2;exact_mod_cast this
  have hp0:(0:Int)<=2 ^ k:=Int.pow_nonneg af2
  have hs:Er .u64 1 k=2 ^ k:=by
   unfold Er;rw[Int.one_mul,show min k IntKind.u64.bits=k from adk (by have:IntKind.u64.bits=64:=rfl;omega)];exact aC hp0 af0
  have e:min ((2:Int) ^ k) b=if b<2 ^ k then b else 2 ^ k:=by split<;>omega
  rw[hk,afH,e];rw[hk]at hw;exact aw
structure N7(s u:al):Prop where
 st:u.sto=s.sto
 ry:u.rets=s.rets
 se:u.sent=s.sent
 la:u.last=s.last
 ov:u.over=s.over
 ha:u.halt=s.halt
theorem N7.eq{s u:al}(h:N7 s u):u.a=⟨s.sto.a,.sl 35 false (rows ay u.reqs),.sl 35 false (rows ay s.rets),u.tag,s.sent,s.last,s.over,s.halt⟩:=by
 unfold al.a;rw[h.st,h.ry,h.se,h.la,h.ov,h.ha]
theorem XH(s:al)(l:List Rt):∀i,N7 s (aH (fX l) s i)/\(aH (fX l) s i).reqs.length<=s.reqs.length+i:=by
 intro i;induction i with
 |zero=>exact⟨⟨rfl,rfl,rfl,rfl,rfl,rfl⟩,afE _⟩
 | succ i ih =>
   obtain⟨h1,h2⟩:=ih;rw[bg];generalize aH (fX l) s i=u at *;unfold fX;split
   ·refine⟨⟨h1.st,h1.ry,h1.se,h1.la,h1.ov,h1.ha⟩,?_⟩;simp only[jo,afB,afG,afM];omega
   ·exact⟨h1,af0⟩
theorem ZV(l:List Req)(x:Req):rows ay l++[ay x]=rows ay (l++[x]):=dn ay l x
theorem gdr{l:List Rt}{i:Nat}(h:i<l.length):(rows rtc l).getD i []=rtc (l.getD i rt0):=aK (f:=rtc) rt0 h
theorem gdq{l:List Req}{i:Nat}(h:i<l.length):(rows ay l).getD i []=ay (aO l i):=aK (f:=ay) gU h
attribute [go_sem] ZV gdr gdq
theorem M8(s:al)(h:CpA s)(l:List Rt)(cl:Bool)(hl:s.reqs.length+l.length<=2097152):PC Tryz.prog 107 [.agg (aG s.a),.sl 32 cl (rows rtc l)] (.agg (aG (jT s l).a)):=by
 refine aQ 13 ?_;have c1:=nz s h;have hp:=XH s l;unfold jT;unfold Kj at c1;refine nx fun H=>?_
 refine oce [] c1 ?_;refine nx fun H=>?_
 refine dI l.length (fun i=>[(12,.int .i64 i),(7,.dead),(9,.dead)]) (fun i=>[.var (aG s.a),.var (aG mB),.vec 35 (rows ay (aH (fX l) s i).reqs),.vec 35 (rows ay s.rets),.var (aG ⟨s.sto.a,.hs 35 2 0 (aH (fX l) s i).reqs.length,.hs 35 3 0 s.rets.length,(aH (fX l) s i).tag,s.sent,s.last,s.over,s.halt⟩)]) (fun i h1 hw h2=>?_) (fun h=>?_)
 ·have hs:=bg (fX l) s i
  obtain⟨hu,hul⟩:=hp i
  have hs2:aH (fX l) s (i+1)=if mu s.sto (l.getD i rt0)=true then jo (aH (fX l) s i) (l.getD i rt0) 0 else aH (fX l) s i:=by
   have e:∀v,fX l i v=if mu v.sto (l.getD i rt0)=true then jo v (l.getD i rt0) 0 else v:=fun v=>rfl
   rw[hs,e,hu.st]
  have hue:=hu.eq;have c2:=Vl (aH (fX l) s i) (l.getD i rt0) (by rw[hu.st];exact h.st.bn);rw[hue,hu.st]at c2;clear hue hs hp;generalize aH (fX l) s i=u at *;clear hu;cases hx:mu s.sto (l.getD i rt0)with
  | false =>
    rw[hx]at c2;rw[hx,afx af1]at hs2;refine nx fun H=>?_
    exact gcJ [0,1,2,3,4]
  | true =>
    rw[hx]at c2;rw[hx,afA rfl]at hs2;unfold jo at hs2;refine nx fun H=>?_
    exact gcJ [0,1,6,3,4]
 ·obtain⟨hu,hul⟩:=hp l.length;rw[hu.eq];clear hp hu;exact aw
theorem CH(l:List Req)(i j:Nat)(hij:i<=j)(hj:j<=l.length)(hb:l.length<=2097152):aJ Tryz.prog 173 [.hs 35 0 0 l.length,.int .i64 i,.int .i64 j] [.vec 35 (rows ay l)] (.sl 35 false (rows ay (l.take i++l.drop j))) [.gone]:=by
 refine cZ 8 ?_;have k1:(i:Int)<=j:=af0
 have k2:(j:Int)<=l.length:=af0
 by_cases q:i=j
 ·subst q;rw[afX];refine nx fun H=>?_
  exact abF [0] [0]
 ·have q1:¬ (i:Int)=j:=af0
  have hdl:(l.drop j).length=l.length-j:=acT
  have hys:List.take (l.length-j) (List.drop j (rows ay l))=rows ay (l.drop j):=by
   unfold rows;rw[<-ad7,afD af1]
  obtain⟨X,hX⟩:∃X,List.drop (i+(l.length-j)) (rows ay l)=X:=⟨_,rfl⟩
  have hXl:X.length=j-i:=by rw[<-hX];simp;omega
  have hcat:List.take i (rows ay l)++rows ay (l.drop j)=rows ay (l.take i++l.drop j):=by simp[rows]
  have hm:(l.take i++l.drop j).length=i+(l.length-j):=by simp;omega
  generalize l.take i++l.drop j=m at *;have g1:j+(l.length-j)<=l.length:=af0
  have g2:i+(l.length-j)<=l.length:=af0
  have g3:i<=l.length:=af0
  refine nx fun H=>?_
  rw[<-hm];have ht:List.take m.length (rows ay m++X)=rows ay m:=by rw[afS af1];exact afD af1
  have hz:∀Z:List (List AV),List.take m.length (rows ay m++Z)=rows ay m:=fun Z=>by rw[afS af1];exact afD af1
  have hl:∀k,m.length<=m.length+k:=fun k=>by omega
  rw[ht,afZ];generalize List.replicate _ _++List.drop _ _=Z;refine bp [1] [0] _ af1 (by first|rfl|exact evd) af1 rfl af1 af1 evd ?_;simp only[go_sem,hz,hl,acC,Nat.reduceLT,Nat.reduceEqDiff,reduceIte]
theorem Ua(l:List Req)(cl:Bool)(fn:FuncId)(c:iM)(p:Nat->Bool)(hl:l.length<=2097152)(hc:∀i,i<l.length->aJ Tryz.prog fn [.agg (ay (l.getD i gU)),.ptr 0 0] [.var c.cs] (.bool (p i)) [.var c.cs]):aJ Tryz.prog 257 [.sl 35 cl (rows ay l),.fn (.func fn) [.ptr 0 0]] [.var c.cs] (.int .i64 (ng (cm p l.length))) [.var c.cs]:=by
 refine cZ 9 ?_;have hN:cm p l.length=gl p (l.length-0) 0:=rfl;refine gon ?_;refine aE (fun i:Nat=>[(8,.int .i64 i)]) (fun _=>[.var c.cs]) (fun i=>l.length-i) (fun i=>i<=l.length/\cm p l.length=gl p (l.length-i) i) 0 ⟨afK _,hN⟩ ?_ ?_
 ·exact abS [] [0]
 clear hN;rintro i ⟨hi,hn⟩;rw[hn];refine fM ?_;by_cases h1:i<l.length
 ·have e1:=inT h1
  have hw:=ae h1 af0;have hgd:(rows ay l).getD i []=ay (l.getD i gU):=aK (f:=ay) gU h1;have c1:=hc i h1;refine bO e1 ?_;refine aA hgd ?_;refine oce [0] c1 ?_;cases h:p i with
  | true =>
    rw[jP h1 h];refine bD ?_;exact abF [] [0]
  | false =>
    rw[jt h1 h];refine d6 ?_;refine aA hw ?_;refine⟨i+1,⟨h1,rfl⟩,af0,?_⟩;exact abS [] [0]
 ·obtain rfl:i=l.length:=af0
  have e1:=inF (l.length);rw[lK];refine aS e1 ?_;exact abF [] [0]
theorem We(a b:Int):PC Tryz.prog 273 [.agg [.int .u64 a],.int .u64 b] (.bool (decide (a=b))):=by
 refine aQ 5 ?_;exact aw
theorem QF(x:Req)(v:Vdt):aJ Tryz.prog 272 [.agg (ay x),.ptr 0 0] [.var (dZ v)] (.bool (decide (x.tag=v.tag))) [.var (dZ v)]:=by
 refine cZ 4 ?_;have c1:=We x.tag v.tag;exact aw
theorem Kz(s:al)(h:CpA s)(v:Vdt):PC Tryz.prog 190 [.agg (aG s.a),.agg (dZ v)] (.tup [.agg (ay (aL s v).1),.agg (aG (aL s v).2.1.a),.int .i64 (aL s v).2.2]):=by
 refine aQ 9 ?_;have c1:=Ua s.reqs false 272 ⟨dZ v,ma v⟩ (fun i=>decide ((s.reqs.getD i gU).tag=v.tag)) h.rq (fun i _=>QF _ v);have c2:=nz s h;unfold Kj at c2;have wk:=AG;unfold aL;have e:(fun i=>decide ((aO s.reqs i).tag=v.tag))=fun i=>decide ((s.reqs.getD i gU).tag=v.tag):=rfl
 rw[e];generalize (fun i=>decide ((s.reqs.getD i gU).tag=v.tag))=p at *;refine nx fun H=>?_
 refine oce [1] c1 ?_;cases hf:cm p s.reqs.length with
 | none =>
   have e1:ng none<0:=af2
   refine nx fun H=>?_
   exact⟨_,(by first|rfl|exact evd),.inr ⟨.tup [.agg (ay gU),.agg (aG mB),.int .i64 23],by exact evd,⟨gg _,vu,trivial,trivial⟩,Wk.tup ⟨Wk.refl _,wk,Wk.refl _,trivial⟩⟩⟩
 | some i =>
   obtain⟨hi,_,_⟩:=cJ hf;have e1:ng (some i)=i:=rfl;have e2:¬ (i:Int)<0:=af0
   have hw:=ae hi (by have:=h.rq;omega);have c3:=CH s.reqs i (i+1) af0 hi h.rq;refine nx fun H=>?_
   refine oce [] c2 ?_;refine nx fun H=>?_
   refine oce [4] c3 ?_;have hgd:(rows ay s.reqs).getD i []=ay (aO s.reqs i):=gdq hi;show Tri _ _ _ _ (PQ _ (.tup [.agg (ay (aO s.reqs i)),.agg (aG (zk s (mC s.reqs i)).a),.int .i64 0])) _ _
   unfold zk mC;exact aw
theorem Zw(s:al)(l:List Req):∀i,N7 s (aH (mK l) s i)/\(aH (mK l) s i).reqs.length<=s.reqs.length+i:=by
 intro i;induction i with
 |zero=>exact⟨⟨rfl,rfl,rfl,rfl,rfl,rfl⟩,afE _⟩
 | succ i ih =>
   obtain⟨h1,h2⟩:=ih;rw[bg];generalize aH (mK l) s i=u at *;unfold mK;split
   ·refine⟨⟨h1.st,h1.ry,h1.se,h1.la,h1.ov,h1.ha⟩,?_⟩;simp only[jo,afB,afG,afM];omega
   ·exact⟨h1,af0⟩
theorem QY(s:al)(h:CpA s)(hl:s.reqs.length+s.rets.length<=2097152)(hso:∀i j,i<j->j<s.rets.length->(aO s.rets i).due<=(aO s.rets j).due):PC Tryz.prog 104 [.agg (aG s.a)] (.agg (aG (tK s).a)):=by
 refine aQ 34 ?_;have c1:=nz s h;unfold Kj at c1;refine nx fun H=>?_
 refine oce [] c1 ?_;refine nx fun H=>?_
 refine aE (fun n:Nat=>[(4,.int .i64 n),(8,.dead)]) (fun _=>[.var (aG s.a),.var (aG mB),.vec 35 (rows ay s.reqs),.vec 35 (rows ay s.rets),.var (aG ⟨s.sto.a,.hs 35 2 0 s.reqs.length,.hs 35 3 0 s.rets.length,s.tag,s.sent,s.last,s.over,s.halt⟩)]) (fun n=>s.rets.length-n) (fun n=>n<=s.rets.length/\∀i,i<n->(aO s.rets i).due<=s.sto.now) 0 ⟨afK _,fun i h=>absurd h (acJ _)⟩ ?_ ?_
 ·simp only[go_sem,Nat.reduceAdd];exact gcJ [0,1,2,3,4]
 rintro n ⟨hn,hd⟩;by_cases hc:n<s.rets.length/\(aO s.rets n).due<=s.sto.now
 ·obtain⟨g1,g2⟩:=hc
  have g3:(n:Int)<(s.rets.length:Int):=af0
  have hw:=ae g1 af0;clear hso
  have hd2:∀i,i<n+1->(aO s.rets i).due<=s.sto.now:=fun i hi=>by
   by_cases e:i=n
   ·rw[e];exact g2
   ·exact hd i af0
  clear hd;refine nx fun H=>?_
  refine⟨n+1,⟨g1,hd2⟩,af0,?_⟩;exact gcJ [0,1,2,3,4]
 ·have hst:¬ (n:Int)<(s.rets.length:Int)\/((n:Int)<(s.rets.length:Int)/\s.sto.now<(aO s.rets n).due):=af0
  have hal:=W5 s hn hd fun i h1 h2=>by
   rcases hst with h3|h3
   ·omega
   ·rcases aeg n i with h4|h4
    ·have:=hso n i h4 h2;omega
    ·obtain rfl:i=n:=af0
     exact h3.2
  clear hd hc hso;rw[hal];clear hal;have hp:=Zw s s.rets;have c3:aJ Tryz.prog 173 [.hs 35 0 0 s.rets.length,.int .i64 0,.int .i64 n] [.vec 35 (rows ay s.rets)] (.sl 35 false (rows ay (s.rets.drop n))) [.gone]:=CH s.rets 0 n (afK _) hn h.ry;have hst2:¬ (n:Int)<(s.rets.length:Int)\/((n:Int)<(s.rets.length:Int)/\¬ (aO s.rets n).due<=s.sto.now):=hst.imp id fun x=>⟨x.1,af0⟩
  clear hst;have hq:∀i,i<n->i<s.rets.length:=fun i hi=>by omega
  rcases hst2 with h3|⟨h3,h4⟩
  all_goals
   refine nx fun H=>?_
   refine dI n (fun i=>[(33,.int .i64 i),(6,.dead),(9,.dead),(10,.dead),(11,.dead),(15,.dead),(16,.dead),(18,.dead),(20,.dead),(24,.dead)]) (fun i=>[.var (aG s.a),.var (aG mB),.vec 35 (rows ay (aH (mK s.rets) s i).reqs),.vec 35 (rows ay s.rets),.var (aG ⟨s.sto.a,.hs 35 2 0 (aH (mK s.rets) s i).reqs.length,.hs 35 3 0 s.rets.length,(aH (mK s.rets) s i).tag,s.sent,s.last,s.over,s.halt⟩)]) (fun i h1 hw h2=>?_) (fun h=>?_) (h0:=by simp only[go_sem,Nat.reduceAdd];exact gcJ [0,1,2,3,4])
   ·have hs:=bg (mK s.rets) s i
    obtain⟨hu,hul⟩:=hp i
    have hs2:aH (mK s.rets) s (i+1)=if mu s.sto (aO s.rets i).block=true then jo (aH (mK s.rets) s i) (aO s.rets i).block (aO s.rets i).tries else aH (mK s.rets) s i:=by
     have e:∀v,mK s.rets i v=if mu v.sto (aO s.rets i).block=true then jo v (aO s.rets i).block (aO s.rets i).tries else v:=fun v=>rfl
     rw[hs,e,hu.st]
    have hue:=hu.eq;have c2:=Lw (aH (mK s.rets) s i) (aO s.rets i).block (by rw[hu.st];exact h.st.bn);rw[hue,hu.st]at c2;have hi:=hq i h1;clear hue hs hp hu hq;generalize aH (mK s.rets) s i=u at *;cases hx:mu s.sto (aO s.rets i).block with
    | false =>
      rw[hx]at c2;rw[hx,afx af1]at hs2;refine nx fun H=>?_
      exact gcJ [0,1,2,3,4]
    | true =>
      rw[hx]at c2;rw[hx,afA rfl]at hs2;unfold jo at hs2;refine nx fun H=>?_
      exact gcJ [0,1,6,3,4]
   ·obtain⟨hu,hul⟩:=hp n
    have e:(fw (aH (mK s.rets) s n) (s.rets.drop n)).a=⟨s.sto.a,.sl 35 false (rows ay (aH (mK s.rets) s n).reqs),.sl 35 false (rows ay (s.rets.drop n)),(aH (mK s.rets) s n).tag,s.sent,s.last,s.over,s.halt⟩:=by
     unfold fw al.a;rw[hu.st,hu.se,hu.la,hu.ov,hu.ha]
    rw[e];clear hp hu hq e;refine nx fun H=>?_
    refine oce [3] c3 ?_;exact aw
def Pk(s:af):Prop:=1<=s.cfg.spe/\s.cfg.spe<=64
theorem IV(s:af)(h:Pk s)(n:Int):PC Tryz.prog 309 [.agg (ak s.a),.int .u64 n] (.int .u64 (dg s n)):=by
 refine aQ 7 ?_;have c1:=pG n s.cfg.spe;have e:iC n s.cfg.spe=(dg s n,0):=by unfold iC dg;rw[afA (by simp[nS,h.1,h.2])]
 rw[e]at c1;exact aw
theorem Ss(s:af)(h:Pk s)(hb:s.nodes.length<=2097152)(i:Int):PC Tryz.prog 308 [.agg (ak s.a),.int .i64 i] (.agg (cpC (nr s i))):=by
 refine aQ 6 ?_;unfold nr;cases hj:isN s.nodes i with
 | false =>
   have:¬ (i<0)->¬i<(s.nodes.length:Int):=fun h1 h2=>by rw[ez.2 ⟨af0,h2⟩]at hj;cases hj
   exact aw
 | true =>
   obtain⟨h0,h1⟩:=ez.1 hj;obtain⟨k,rfl⟩:=afF h0;have hk:k<s.nodes.length:=af0
   have h2:¬ (k:Int)<0:=af0
   have h3:¬ (k:Int) ≥ (s.nodes.length:Int):=af0
   have c1:=IV s h s.now;rw[afH];have c2:=IV s h (nod s.nodes k).blk.slot;exact aw
theorem NY(s:af)(h:Pk s)(hb:s.nodes.length<=2097152)(i:Int):PC Tryz.prog 220 [.agg (ak s.a),.int .i64 i] (.bool (rg s i)):=by
 refine aQ 7 ?_;have c1:=IV s h s.now;have c2:=Ss s h hb i;unfold rg;cases hj:isN s.nodes i with
 | false =>
   have:¬ (i<0)->¬i<(s.nodes.length:Int):=fun h1 h2=>by rw[ez.2 ⟨af0,h2⟩]at hj;cases hj
   exact aw
 | true =>
   obtain⟨h0,h1⟩:=ez.1 hj;obtain⟨k,rfl⟩:=afF h0;have hk:k<s.nodes.length:=af0
   have h2:¬ (k:Int)<0:=af0
   have h3:¬ (k:Int) ≥ (s.nodes.length:Int):=af0
   rw[afH];generalize nr s k=S at *;generalize dg s s.now=E at *;exact aw
theorem NW(s:af)(h:Pk s)(ht:bk s.nodes)(hb:s.nodes.length<=2097152):PC Tryz.prog 124 [.agg (ak s.a)] (.sl 1 false (rows fW (iK s))):=by
 refine aQ 6 ?_;have hw0:IntKind.i64.wrap ((s.nodes.length:Int)-1)=(s.nodes.length:Int)-1:=ar af0 af0;refine nx fun H=>?_
 have hl0:=Xm ht;refine Wg s.nodes.length (fun m v=>[(4,.int .i64 v),(5,.dead)]) (fun m=>[.var (ak s.a),.vec 1 (rows fW (mU s m))]) (fun i hi e1 hw1=>?_) ?_
 ·have ha:=Xn ht hi
  have hs:=MF ht hi;have hl:=nC s (i+1);have cq:=NY s h hb i
  have hup:(nod s.nodes i).up<i:=by
   rcases acF i with h|h
   ·subst h;have:=ht.root;omega
   ·exact(ht.ok i h hi).2
  generalize mU s (i+1)=L at *;have hset:(L.set i (eP s i)).length=L.length:=adO ..;generalize eP s i=v at *;by_cases hu:(nod s.nodes i).up<0
  ·rw[afx af0]at hs;cases hx:L.getD i false<;>rw[hx]at ha<;>simp at ha<;>subst ha<;>exact aw
  ·obtain⟨u,hu2⟩:=afF (ac8.1 hu);have hg:(L.set i v).getD i false=v:=by rw[afy,List.getElem?_set_self af0];rfl
   rw[hu2,afH]at hs;rw[hu2]at hup;have hu3:u<L.length:=af0
   cases hx:L.getD i false<;>rw[hx]at ha<;>simp at ha<;>subst ha
   ·cases hq:rg s i<;>rw[hq]at cq hs hg hset<;>exact aw
   ·exact aw
 ·have hl:=nC s 0;rw[Oz]at hl ⊢;exact aw
def btr(t:List Nod)(w:List Int)(a b:Nat):Bool:=decide (w.getD b 0<w.getD a 0) || (decide (w.getD a 0=w.getD b 0)&&decide (0<qm (nod t a).blk.root (nod t b).blk.root))
theorem RM(t:List Nod)(w:List Int)(hw:w.length=t.length)(a b:Nat)(ha:a<t.length)(hb:b<t.length):PC Tryz.prog 224 [.agg [nA t],.sl 1 false (ah .u64 w),.int .i64 a,.int .i64 b] (.bool (btr t w a b)):=by
 refine aQ 9 ?_;have c1:=Gn (nod t a).blk.root (nod t b).blk.root;unfold btr;generalize qm (nod t a).blk.root (nod t b).blk.root=R at *;exact aw
theorem WI(t:List Nod)(w:List Int)(a:List Bool)(l:List Int)(k:Nat){x:Nat}(hx:l.getD k 0=x)(y:Nat):kI t w a l k y=if (a.getD x false&&btr t w x y)=true then (x:Int)else y:=by
 unfold kI btr;rw[hx,afH,afH];congr 1;have:¬ (y:Int)<0:=af0
 simp[this]
theorem WH(t:List Nod)(w:List Int)(a:List Bool)(l:List Int)(k:Nat){x:Nat}(hx:l.getD k 0=x){y:Int}(hy:y<0):kI t w a l k y=if a.getD x false=true then (x:Int)else y:=by
 unfold kI;rw[hx,afH];simp[hy]
theorem Ml(t:List Nod)(ht:bk t)(hb:t.length<=2097152)(w:List Int)(hw:w.length=t.length)(a:List Bool)(ha:a.length=t.length)(i0:Int)(h0:isN t i0=true):
 PC Tryz.prog 126 [.agg [nA t],.sl 1 false (ah .u64 w),.sl 1 false (rows fW a),.int .i64 i0] (.int .i64 (lp t w a i0)):=by
 refine aQ 17 ?_;have c1:=M4 t i0 hb h0;have hm:=fun x hx=>eO (i:=i0) (x:=x) ht hx
 have hin:=rI t w a (gp t i0);have hl:(gp t i0).length<=t.length:=by have:=HQ t i0 t.length;unfold gp;rw[afA h0];rw[acC]at this;exact this
 unfold lp;generalize gp t i0=l at *;refine nx fun H=>?_
 refine dI l.length (fun k=>[(16,.int .i64 k),(9,.int .i64 (aH (kI t w a l) (-1) k)),(11,.dead)]) (fun k=>[.var [nA t]]) (fun k h1 hw1 h2=>?_) (fun h=>?_)
 ·have hs:=bg (kI t w a l) (-1) k
  have hi:=hin k af0;have hxm:=hm _ (show l.getD k 0∈l by rw[afy,afz h1];exact afY _);obtain⟨x,hx⟩:=afF hxm.2.1;rw[hx]at hxm;have hxl:x<t.length:=af0
  generalize aH (kI t w a l) (-1) k=B at *;by_cases hB:B<0
  ·rw[WH t w a l k hx hB]at hs;clear hi hin hxm;exact aw
  ·obtain⟨y,rfl⟩:=afF (ac8.1 hB)
   have hyl:y<t.length:=by
    have:=hm _ (hi.resolve_left af0);omega
   have c2:=RM t w hw x y hxl hyl;rw[WI t w a l k hx y]at hs;clear hi hin hxm;generalize btr t w x y=b at *;exact aw
 ·exact aw
theorem SC(t:List Nod)(ht:bk t)(hb:t.length<=2097152)(d:List Int)(hd:d.length=t.length)(hu:∀n∈d,0<=n/\n<18446744073709551616):
 PC Tryz.prog 218 [.agg [nA t],.sl 1 false (ah .u64 d)] (.sl 1 false (ah .u64 (R6 t d))):=by
 refine aQ 7 ?_;have c1:=vL false d af0
 have h0:0<t.length:=by
  rcases acF t.length with h|h
  ·have:=ht.root;rw[afV h]at this;exact absurd this af2
  ·exact h
 have hw0:IntKind.i64.wrap ((t.length:Int)-1)=((t.length-1:Nat):Int)-1+1:=by rw[ar af0 af0];omega
 have hz:=Z9 (t:=t) d hd hu;refine nx fun H=>?_
 refine oce [] c1 ?_;refine nx fun H=>?_
 have hz:tU t d (t.length-1+1)=d:=by rw[show t.length-1+1=t.length by omega];exact hz
 refine Wg (t.length-1) (fun m v=>[(6,.int .i64 (v+1))]) (fun m=>[.var [nA t],.vec 1 (ah .u64 (tU t d (m+1)))]) (fun i hi e1 hw1=>?_) ?_
 ·have hs:=R5 ht d (i:=i+1) af0 af0;have hl:=sP t d (i+1+1);have hup:=ht.ok (i+1) af0 af0;obtain⟨u,hu2⟩:=afF hup.1;rw[hu2,afH]at hs;rw[hu2]at hup;have e2:(i:Int)+1=((i+1:Nat):Int):=rfl;have e3:(0:Int)<((i+1:Nat):Int):=af0
  have e4:i+1<t.length:=af0
  have hw2:IntKind.i64.wrap (((i+1:Nat):Int)-1)=(i:Int)-1+1:=by rw[ar af0 af0];omega
  rw[e2];generalize tU t d (i+1+1)=L at *;generalize i+1=m at *;exact aw
 ·have:=Z8 ht d;have hl:=sP t d 1;rw[this]at hl;exact aw
end Go.Proofs.YtmpddimhleianaaGreat
