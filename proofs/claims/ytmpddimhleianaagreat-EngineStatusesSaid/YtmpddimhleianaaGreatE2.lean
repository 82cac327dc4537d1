/- Joined. -/
import Derived.Test.YtmpddimhleianaaGreatE1
import Derived.Test.YtmpddimhleianaaGreatT1
import Derived.Test.YtmpddimhleianaaGreatKe
import Derived.Test.YtmpddimhleianaaGreatW3
import Derived.Test.YtmpddimhleianaaGreatChecked
import Derived.KernelRfl
import Derived.Test.YtmpddimhleianaaGreatV9
import Derived.Test.YtmpddimhleianaaGreatT6
set_option linter.unusedVariables false
set_option linter.unusedSimpArgs false
set_option maxRecDepth 8000
set_option maxHeartbeats 4000000
namespace Go.Proofs.YtmpddimhleianaaGreat
open Go Go.FH Go.RowKit
theorem RO(k:IntKind)(l:List Int)(i:Nat)(n:Int):(aH k l).set i [AV.int k n]=aH k (l.set i n):=by simp[aH,al1]
theorem xO{k:IntKind}{l:List Int}{n:Nat}(h:l.length<=n):List.take n (aH k l)=aH k l:=amf (by simpa using h)
attribute [go_sem] xO RO gdn dy Int.lt_irrefl List.length_reverse
theorem IG(t:List Nod)(i0:Int)(hb:t.length<=2097152)(h0:isN t i0=true):PC Tryz.prog 223 [.agg [nA t],.int .i64 i0] (.sl 1 false (aH .i64 (ly t i0))):=by
 refine ae 14 ?_;have c1:¬i0<0:=by simp[isN]at h0;omega
 unfold ly;rw[al7 h0];refine nx fun H=>?_
 refine jx 5 1 ?_;simp only[go_sem];refine BA t.length (fun i=>[(13,.int .i64 i),(5,.hs 1 1 0 (bg (OZ t i0) [] i).length)]) (fun i=>[.var [nA t],.vec 1 (aH .i64 (bg (OZ t i0) [] i))]) (fun i h1 hw h2=>?_) fun h=>?_
 ·have hs:=cX (OZ t i0) [] i;have hl:=adR t i0 i;have hc:=OZ.eq_1 t i0 i;exact aw
 ·exact aw
theorem On(l:List Int)(hb:l.length<=2097152):ay Tryz.prog 362 [.hs 1 0 0 l.length] [.vec 1 (aH .i64 l)] (.tup []) [.vec 1 (aH .i64 l.reverse)]:=by
 refine dS 4 ?_;have hw0:IntKind.i64.wrap ((l.length:Int)-1)=(l.length:Int)-1:=aL WL WL;refine nx fun H=>?_
 refine az (fun k:Nat=>[(2,.int .i64 k),(3,.int .i64 ((l.length:Int)-1-k))]) (fun k=>[.vec 1 (aH .i64 (Dv l k))]) (fun k=>l.length-k) (fun k=>2*k<=l.length+1) 0 WL ?_ ?_
 ·rw[SH,Int.natCast_zero,Int.sub_zero];exact gcA
 intro k hk;have hl:=mL l k;by_cases h:(k:Int)<(l.length:Int)-1-k
 ·have hs:=SM (l:=l) (k:=k) WL;obtain⟨m,hm⟩:∃m:Nat,(l.length:Int)-1-k=m:=⟨l.length-1-k,WL⟩
  have hm2:l.length-1-k=m:=WL
  have hw1:IntKind.i64.wrap ((k:Int)+1)=((k+1:Nat):Int):=af (n:=l.length) WL WL;have hw2:IntKind.i64.wrap ((m:Int)-1)=(l.length:Int)-1-((k+1:Nat):Int):=by rw[aL WL WL];omega
  have hk1:k<l.length:=WL
  have hm1:m<l.length:=WL
  rw[hm2]at hs;generalize Dv l k=u at *;have h1:=gdn (k:=.i64) (ns:=u) (i:=k) WL;have h2:=gdn (k:=.i64) (ns:=u) (i:=m) WL;have h3:=gdn (k:=.i64) (ns:=u.set k (u.getD m 0)) (i:=m) (by simp;omega);rw[hm]at h ⊢;refine nx fun H=>?_
  refine⟨k+1,WL,WL,?_⟩;exact aw
 ·have hs:=SL (l:=l) (k:=k) WL;refine nx fun H=>?_
  exact ahY [] [0]
theorem xj(t:List Nod)(ht:dU t)(hb:t.length<=2097152)(i0:Int):PC Tryz.prog 339 [.agg [nA t],.int .i64 i0] (.sl 1 false (aH .i64 (AI t i0))):=by
 refine ae 6 ?_;refine nx fun H=>?_
 refine jx 5 1 ?_;simp only[go_sem];refine az (fun x:Int×List Int=>[(1,.int .i64 x.1),(5,.hs 1 1 0 x.2.length)]) (fun x=>[.var [nA t],.vec 1 (aH .i64 x.2)]) (fun x=>(x.1+1).toNat) (fun x=>x.2++(AI t x.1).reverse=(AI t i0).reverse) (i0,[]) WM ?_ ?_
 ·exact gcA
 rintro⟨j,l⟩ h;dsimp only at h;have c1:=lp t j;have hl:l.length<=t.length:=by have:=pF ht.ok i0;have:=ajG List.length h;simp at this;omega
 cases hj:isN t j with
 | false =>
   rw[te hj,List.reverse_nil,amo]at h;have c2:=On l WL;rw[h,List.reverse_reverse]at c2;rw[h];rw[hj]at c1;refine nx fun H=>?_
   refine oce [1] c2 ?_;exact aw
 | true =>
   rw[hj]at c1;obtain⟨h0,h1⟩:=dR.1 hj;obtain⟨k,rfl⟩:=ajO h0;have hk:k<t.length:=WL
   have hup:(nod t k).up<k:=by
    rcases ajQ k with h|h
    ·subst h;have:=ht.root;omega
    ·exact(ht.ok k h hk).2
   rw[gE ht hk]at h;refine nx fun H=>?_
   refine⟨((nod t k).up,l++[(k:Int)]),by simpa using h,by dsimp only;omega,?_⟩;exact aw
theorem Q1(l:List Bool)(i:Nat)(b:Bool):(rows mj l).set i [AV.bool b]=rows mj (l.set i b):=F2 mj l i b
theorem TJ{l:List Bool}{i:Nat}(h:i<l.length):(rows mj l).getD i []=[AV.bool (l.getD i false)]:=aS (f:=mj) false h
theorem Va(b:Bool)(n:Nat):List.replicate n [AV.bool b]=rows mj (List.replicate n b):=by simp[rows,mj]
attribute [go_sem] Q1 TJ Va
theorem HT(t:List Nod)(ht:dU t)(hb:t.length<=2097152)(i0:Int):PC Tryz.prog 365 [.agg [nA t],.int .i64 i0] (.sl 1 false (aH .i64 (im t i0))):=by
 refine ae 21 ?_;have c1:=lp t i0;cases hj:isN t i0 with
 | false =>
   rw[hj]at c1
   have h0:im t i0=[]:=by
    unfold im;refine Yy (fun _ l=>l=[]) rfl t.length (fun k l _ h=>?_) _ (amb _);rw[po ht (.inl hj)];exact h
   rw[h0];exact aw
 | true =>
   rw[hj]at c1;obtain⟨h0,h1⟩:=dR.1 hj;obtain⟨c,rfl⟩:=ajO h0;have hz:=Si t c;have hl:=tu t c;refine nx fun H=>?_
   refine jx 6 1 ?_;simp only[go_sem];refine BA t.length (fun k=>[(20,.int .i64 k),(6,.hs 1 2 0 (bg (zd t c) [] k).length)]) (fun k=>[.var [nA t],.vec 1 (rows mj (tm t c k)),.vec 1 (aH .i64 (bg (zd t c) [] k))]) (fun k h1 hw h2=>?_) (fun h=>?_)
   ·have hs:=cX (zd t c) [] k
    have hg:=fun j h=>Pk (t:=t) c k (j:=j) h
    have hll:(bg (zd t c) [] k).length<=0+k:=ng (fun k l=>by unfold zd;split<;>simp) k;have hn:=Sj (t:=t) c h1;have hc:∀l,zd t c k l=if eh t c k=true then l++[(k:Int)]else l:=fun l=>rfl
    have ha:=CK ht h1 c
    have hup:(nod t k).up<k:=by
     rcases ajQ k with h|h
     ·subst h;have:=ht.root;omega
     ·exact(ht.ok k h h1).2
    by_cases q:(k:Int)=c
    ·obtain rfl:k=c:=WL
     have e:eh t k k=true:=by rw[ha];simp
     clear ha;exact aw
    by_cases hu:(nod t k).up<0
    ·have e:eh t c k=false:=by rw[ha];simp[q];omega
     clear ha;exact aw
    ·obtain⟨u,hu2⟩:=ajO (alY.1 hu);have hga:=hg u WL;have e:eh t c k=eh t c u:=by rw[ha,hu2];simp[q]
     rw[au (show u<k by omega),am2]at hga;clear ha hg;generalize eh t c u=A at *;cases A<;>exact aw
   ·exact aw
theorem CO(cl:Bool)(l:List Req)(hl:l.length<=2097152):ay Tryz.prog 100 [.sl 35 cl (rows aP l)] [] (.hs 35 0 0 l.length) [.vec 35 (rows aP l)]:=by
 refine dS 3 ?_;refine gon ?_;refine fun b hb=>?_
 cases b with
 | true =>
   have h0:l=[]:=by simpa[rows,aH]using hb rfl
   subst h0;refine Ff ?_;refine tp (qN ?_);refine ue ?_;refine jx 2 35 ?_;simp only[go_sem];refine gon ?_;exact ahY [] [0]
 | false =>
   refine bk ?_;exact ahY [] [0]
structure CpA(s:aI):Prop where
 st:CpR s.sto
 rq:s.reqs.length<=2097152
 ry:s.rets.length<=2097152
def DU(s:aI):Sta:=⟨s.sto.a,.hs 35 0 0 s.reqs.length,.hs 35 1 0 s.rets.length,s.tag,s.sent,s.last,s.over,s.halt⟩
theorem gm(s:aI)(h:CpA s):ay Tryz.prog 54 [.agg (aV s.a)] [] (.agg (aV (DU s))) [.vec 35 (rows aP s.reqs),.vec 35 (rows aP s.rets)]:=by
 refine dS 3 ?_;have c1:=el s.sto h.st;have c2:=CO false s.reqs h.rq;have c3:=CO false s.rets h.ry;unfold BO at c1;unfold DU;refine gon ?_;refine ocg [] c1 ?_;refine ocg [] c2 ?_;refine ocg [] c3 ?_;exact ahY [2,3,4,5,6,7,8] [9,10]
theorem pC(s:aI)(h:CpA s):PC Tryz.prog 54 [.agg (aV s.a)] (.agg (aV s.a)):=(gm s h).pc puA puA (by unfold DU;exact evd)
theorem Qo(s:aI)(r:Rt)(hb:s.sto.nodes.length<=2097152):PC Tryz.prog 181 [.agg (aV s.a),.agg (rtc r)] (.bool (Cz s.sto r)):=by
 refine ae 6 ?_;have c1:=zU s.sto.nodes r hb;have b1:=fM s.sto.nodes r;unfold Cz;generalize aj s.sto.nodes r=x at *;by_cases h:x<0
 ·exact aw
 ·obtain⟨k,rfl⟩:=ajO (alY.1 h);have hk:k<s.sto.nodes.length:=WL
  exact aw
theorem Fb(s:aI)(r:Rt)(hb:s.sto.nodes.length<=2097152):PC Tryz.prog 172 [.agg (aV s.a),.agg (rtc r)] (.bool (Cz s.sto r)):=by
 refine ae 6 ?_;have c1:=zU s.sto.nodes r hb;have b1:=fM s.sto.nodes r;unfold Cz;generalize aj s.sto.nodes r=x at *;by_cases h:x<0
 ·exact aw
 ·obtain⟨k,rfl⟩:=ajO (alY.1 h);have hk:k<s.sto.nodes.length:=WL
  exact aw
theorem Eg(n b:Int)(h1:1<=n)(h0:0<=b)(hb:b<18446744073709551616):PC Tryz.prog 274 [.int .i64 n,.int .u64 b] (.int .u64 (vx n b)):=by
 refine ae 5 ?_;rw[LR h0 hb];by_cases h:64<n
 ·exact aw
 ·have hw:IntKind.i64.wrap (n-1)=n-1:=aL WL WL
  have hm:¬1 > n:=WL
  obtain⟨k,hk⟩:∃k:Nat,n-1=k:=⟨(n-1).toNat,WL⟩
  have hk2:k<=63:=WL
  have hp:(2:Int) ^ k<=2 ^ 63:=by
   have:(2:Nat) ^ k<=2 ^ 63:=Nat.pow_le_pow_right WN hk2;exact_mod_cast this
  have hp0:(0:Int)<=2 ^ k:=Int.pow_nonneg WN
  have hs:OY .u64 1 k=2 ^ k:=by
   unfold OY;rw[Int.one_mul,show min k IntKind.u64.bits=k from akA (by have:IntKind.u64.bits=64:=rfl;omega)];exact aN hp0 WL
  have e:min ((2:Int) ^ k) b=if b<2 ^ k then b else 2 ^ k:=by split<;>omega
  rw[hk,amw,e];rw[hk]at hw;exact aw
structure Ka(s u:aI):Prop where
 st:u.sto=s.sto
 ry:u.rets=s.rets
 se:u.sent=s.sent
 la:u.last=s.last
 ov:u.over=s.over
 ha:u.halt=s.halt
theorem Ka.eq{s u:aI}(h:Ka s u):u.a=⟨s.sto.a,.sl 35 false (rows aP u.reqs),.sl 35 false (rows aP s.rets),u.tag,s.sent,s.last,s.over,s.halt⟩:=by
 unfold aI.a;rw[h.st,h.ry,h.se,h.la,h.ov,h.ha]
theorem RQ(s:aI)(l:List Rt):∀i,Ka s (bg (mq l) s i)/\(bg (mq l) s i).reqs.length<=s.reqs.length+i:=by
 intro i;induction i with
 |zero=>exact⟨⟨rfl,rfl,rfl,rfl,rfl,rfl⟩,amb _⟩
 | succ i ih =>
   obtain⟨h1,h2⟩:=ih;rw[cX];generalize bg (mq l) s i=u at *;unfold mq;split
   ·refine⟨⟨h1.st,h1.ry,h1.se,h1.la,h1.ov,h1.ha⟩,?_⟩;simp only[nH,akC,al8,ama];omega
   ·exact⟨h1,WL⟩
theorem SF(l:List Req)(x:Req):rows aP l++[aP x]=rows aP (l++[x]):=cR aP l x
theorem gdr{l:List Rt}{i:Nat}(h:i<l.length):(rows rtc l).getD i []=rtc (l.getD i rt0):=aS (f:=rtc) rt0 h
theorem gdq{l:List Req}{i:Nat}(h:i<l.length):(rows aP l).getD i []=aP (bm l i):=aS (f:=aP) gT h
attribute [go_sem] SF gdr gdq
theorem IV(s:aI)(h:CpA s)(l:List Rt)(cl:Bool)(hl:s.reqs.length+l.length<=2097152):PC Tryz.prog 107 [.agg (aV s.a),.sl 32 cl (rows rtc l)] (.agg (aV (nK s l).a)):=by
 refine ae 13 ?_;have c1:=gm s h;have hp:=RQ s l;unfold nK;unfold DU at c1;refine nx fun H=>?_
 refine oce [] c1 ?_;refine nx fun H=>?_
 refine BA l.length (fun i=>[(12,.int .i64 i),(7,.dead),(9,.dead)]) (fun i=>[.var (aV s.a),.var (aV rD),.vec 35 (rows aP (bg (mq l) s i).reqs),.vec 35 (rows aP s.rets),.var (aV ⟨s.sto.a,.hs 35 2 0 (bg (mq l) s i).reqs.length,.hs 35 3 0 s.rets.length,(bg (mq l) s i).tag,s.sent,s.last,s.over,s.halt⟩)]) (fun i h1 hw h2=>?_) (fun h=>?_)
 ·have hs:=cX (mq l) s i
  obtain⟨hu,hul⟩:=hp i
  have hs2:bg (mq l) s (i+1)=if Cz s.sto (l.getD i rt0)=true then nH (bg (mq l) s i) (l.getD i rt0) 0 else bg (mq l) s i:=by
   have e:∀v,mq l i v=if Cz v.sto (l.getD i rt0)=true then nH v (l.getD i rt0) 0 else v:=fun v=>rfl
   rw[hs,e,hu.st]
  have hue:=hu.eq;have c2:=Qo (bg (mq l) s i) (l.getD i rt0) (by rw[hu.st];exact h.st.bn);rw[hue,hu.st]at c2;clear hue hs hp;generalize bg (mq l) s i=u at *;clear hu;cases hx:Cz s.sto (l.getD i rt0)with
  | false =>
    rw[hx]at c2;rw[hx,al5 WM]at hs2;refine nx fun H=>?_
    exact gcJ [0,1,2,3,4]
  | true =>
    rw[hx]at c2;rw[hx,al7 rfl]at hs2;unfold nH at hs2;refine nx fun H=>?_
    exact gcJ [0,1,6,3,4]
 ·obtain⟨hu,hul⟩:=hp l.length;rw[hu.eq];clear hp hu;exact aw
theorem v8(l:List Req)(i j:Nat)(hij:i<=j)(hj:j<=l.length)(hb:l.length<=2097152):ay Tryz.prog 173 [.hs 35 0 0 l.length,.int .i64 i,.int .i64 j] [.vec 35 (rows aP l)] (.sl 35 false (rows aP (l.take i++l.drop j))) [.gone]:=by
 refine dS 8 ?_;have k1:(i:Int)<=j:=WL
 have k2:(j:Int)<=l.length:=WL
 by_cases q:i=j
 ·subst q;rw[amF];refine nx fun H=>?_
  exact ahY [0] [0]
 ·have q1:¬ (i:Int)=j:=WL
  have hdl:(l.drop j).length=l.length-j:=ajJ
  have hys:List.take (l.length-j) (List.drop j (rows aP l))=rows aP (l.drop j):=by
   unfold rows;rw[<-akG,amf WM]
  obtain⟨X,hX⟩:∃X,List.drop (i+(l.length-j)) (rows aP l)=X:=⟨_,rfl⟩
  have hXl:X.length=j-i:=by rw[<-hX];simp;omega
  have hcat:List.take i (rows aP l)++rows aP (l.drop j)=rows aP (l.take i++l.drop j):=by simp[rows]
  have hm:(l.take i++l.drop j).length=i+(l.length-j):=by simp;omega
  generalize l.take i++l.drop j=m at *;have g1:j+(l.length-j)<=l.length:=WL
  have g2:i+(l.length-j)<=l.length:=WL
  have g3:i<=l.length:=WL
  refine nx fun H=>?_
  rw[<-hm];have ht:List.take m.length (rows aP m++X)=rows aP m:=by rw[ajs WM];exact amf WM
  have hz:∀Z:List (List AV),List.take m.length (rows aP m++Z)=rows aP m:=fun Z=>by rw[ajs WM];exact amf WM
  have hl:∀k,m.length<=m.length+k:=fun k=>by omega
  rw[ht,amd];generalize List.replicate _ _++List.drop _ _=Z;refine bA [1] [0] _ WM (by first|rfl|exact evd) WM rfl WM WM evd ?_;simp only[go_sem,hz,hl,amO,Nat.reduceLT,Nat.reduceEqDiff,reduceIte]
theorem PW(l:List Req)(cl:Bool)(fn:FuncId)(c:uF)(p:Nat->Bool)(hl:l.length<=2097152)(hc:∀i,i<l.length->ay Tryz.prog fn [.agg (aP (l.getD i gT)),.ptr 0 0] [.var c.cs] (.bool (p i)) [.var c.cs]):ay Tryz.prog 257 [.sl 35 cl (rows aP l),.fn (.func fn) [.ptr 0 0]] [.var c.cs] (.int .i64 (Cj (dW p l.length))) [.var c.cs]:=by
 refine dS 9 ?_;have hN:dW p l.length=iK p (l.length-0) 0:=rfl;refine gon ?_;refine az (fun i:Nat=>[(8,.int .i64 i)]) (fun _=>[.var c.cs]) (fun i=>l.length-i) (fun i=>i<=l.length/\dW p l.length=iK p (l.length-i) i) 0 ⟨amc _,hN⟩ ?_ ?_
 ·exact ais [] [0]
 clear hN;rintro i ⟨hi,hn⟩;rw[hn];refine dp ?_;by_cases h1:i<l.length
 ·have e1:=inT h1
  have hw:=af h1 WL;have hgd:(rows aP l).getD i []=aP (l.getD i gT):=aS (f:=aP) gT h1;have c1:=hc i h1;refine bw e1 ?_;refine ah hgd ?_;refine oce [0] c1 ?_;cases h:p i with
  | true =>
    rw[nB h1 h];refine aX ?_;exact ahY [] [0]
  | false =>
    rw[nz h1 h];refine dQ ?_;refine ah hw ?_;refine⟨i+1,⟨h1,rfl⟩,WL,?_⟩;exact ais [] [0]
 ·obtain rfl:i=l.length:=WL
  have e1:=inF (l.length);rw[nu];refine aF e1 ?_;exact ahY [] [0]
theorem QJ(a b:Int):PC Tryz.prog 273 [.agg [.int .u64 a],.int .u64 b] (.bool (decide (a=b))):=by
 refine ae 5 ?_;exact aw
theorem NE(x:Req)(v:Vdt):ay Tryz.prog 272 [.agg (aP x),.ptr 0 0] [.var (cA v)] (.bool (decide (x.tag=v.tag))) [.var (cA v)]:=by
 refine dS 4 ?_;have c1:=QJ x.tag v.tag;exact aw
theorem Es(s:aI)(h:CpA s)(v:Vdt):PC Tryz.prog 190 [.agg (aV s.a),.agg (cA v)] (.tup [.agg (aP (cz s v).1),.agg (aV (cz s v).2.1.a),.int .i64 (cz s v).2.2]):=by
 refine ae 9 ?_;have c1:=PW s.reqs false 272 ⟨cA v,uI v⟩ (fun i=>decide ((s.reqs.getD i gT).tag=v.tag)) h.rq (fun i _=>NE _ v);have c2:=gm s h;unfold DU at c2;have wk:=C9;unfold cz;have e:(fun i=>decide ((bm s.reqs i).tag=v.tag))=fun i=>decide ((s.reqs.getD i gT).tag=v.tag):=rfl
 rw[e];generalize (fun i=>decide ((s.reqs.getD i gT).tag=v.tag))=p at *;refine nx fun H=>?_
 refine oce [1] c1 ?_;cases hf:dW p s.reqs.length with
 | none =>
   have e1:Cj none<0:=WN
   refine nx fun H=>?_
   exact⟨_,(by first|rfl|exact evd),.inr ⟨.tup [.agg (aP gT),.agg (aV rD),.int .i64 23],by exact evd,⟨gB _,uG,trivial,trivial⟩,Wk.tup ⟨Wk.refl _,wk,Wk.refl _,trivial⟩⟩⟩
 | some i =>
   obtain⟨hi,_,_⟩:=fZ hf;have e1:Cj (some i)=i:=rfl;have e2:¬ (i:Int)<0:=WL
   have hw:=af hi (by have:=h.rq;omega);have c3:=v8 s.reqs i (i+1) WL hi h.rq;refine nx fun H=>?_
   refine oce [] c2 ?_;refine nx fun H=>?_
   refine oce [4] c3 ?_;have hgd:(rows aP s.reqs).getD i []=aP (bm s.reqs i):=gdq hi;show Tri _ _ _ _ (PQ _ (.tup [.agg (aP (bm s.reqs i)),.agg (aV (Ml s (qh s.reqs i)).a),.int .i64 0])) _ _
   unfold Ml qh;exact aw
theorem Sx(s:aI)(l:List Req):∀i,Ka s (bg (fE l) s i)/\(bg (fE l) s i).reqs.length<=s.reqs.length+i:=by
 intro i;induction i with
 |zero=>exact⟨⟨rfl,rfl,rfl,rfl,rfl,rfl⟩,amb _⟩
 | succ i ih =>
   obtain⟨h1,h2⟩:=ih;rw[cX];generalize bg (fE l) s i=u at *;unfold fE;split
   ·refine⟨⟨h1.st,h1.ry,h1.se,h1.la,h1.ov,h1.ha⟩,?_⟩;simp only[nH,akC,al8,ama];omega
   ·exact⟨h1,WL⟩
theorem N1(s:aI)(h:CpA s)(hl:s.reqs.length+s.rets.length<=2097152)(hso:∀i j,i<j->j<s.rets.length->(bm s.rets i).due<=(bm s.rets j).due):PC Tryz.prog 104 [.agg (aV s.a)] (.agg (aV (zQ s).a)):=by
 refine ae 34 ?_;have c1:=gm s h;unfold DU at c1;refine nx fun H=>?_
 refine oce [] c1 ?_;refine nx fun H=>?_
 refine az (fun n:Nat=>[(4,.int .i64 n),(8,.dead)]) (fun _=>[.var (aV s.a),.var (aV rD),.vec 35 (rows aP s.reqs),.vec 35 (rows aP s.rets),.var (aV ⟨s.sto.a,.hs 35 2 0 s.reqs.length,.hs 35 3 0 s.rets.length,s.tag,s.sent,s.last,s.over,s.halt⟩)]) (fun n=>s.rets.length-n) (fun n=>n<=s.rets.length/\∀i,i<n->(bm s.rets i).due<=s.sto.now) 0 ⟨amc _,fun i h=>absurd h (aju _)⟩ ?_ ?_
 ·simp only[go_sem,Nat.reduceAdd];exact gcJ [0,1,2,3,4]
 rintro n ⟨hn,hd⟩;by_cases hc:n<s.rets.length/\(bm s.rets n).due<=s.sto.now
 ·obtain⟨g1,g2⟩:=hc
  have g3:(n:Int)<(s.rets.length:Int):=WL
  have hw:=af g1 WL;clear hso
  have hd2:∀i,i<n+1->(bm s.rets i).due<=s.sto.now:=fun i hi=>by
   by_cases e:i=n
   ·rw[e];exact g2
   ·exact hd i WL
  clear hd;refine nx fun H=>?_
  refine⟨n+1,⟨g1,hd2⟩,WL,?_⟩;exact gcJ [0,1,2,3,4]
 ·have hst:¬ (n:Int)<(s.rets.length:Int)\/((n:Int)<(s.rets.length:Int)/\s.sto.now<(bm s.rets n).due):=WL
  have hal:=Re s hn hd fun i h1 h2=>by
   rcases hst with h3|h3
   ·omega
   ·rcases akP n i with h4|h4
    ·have:=hso n i h4 h2;omega
    ·obtain rfl:i=n:=WL
     exact h3.2
  clear hd hc hso;rw[hal];clear hal;have hp:=Sx s s.rets;have c3:ay Tryz.prog 173 [.hs 35 0 0 s.rets.length,.int .i64 0,.int .i64 n] [.vec 35 (rows aP s.rets)] (.sl 35 false (rows aP (s.rets.drop n))) [.gone]:=v8 s.rets 0 n (amc _) hn h.ry;have hst2:¬ (n:Int)<(s.rets.length:Int)\/((n:Int)<(s.rets.length:Int)/\¬ (bm s.rets n).due<=s.sto.now):=hst.imp id fun x=>⟨x.1,WL⟩
  clear hst;have hq:∀i,i<n->i<s.rets.length:=fun i hi=>by omega
  rcases hst2 with h3|⟨h3,h4⟩
  all_goals
   refine nx fun H=>?_
   refine BA n (fun i=>[(33,.int .i64 i),(6,.dead),(9,.dead),(10,.dead),(11,.dead),(15,.dead),(16,.dead),(18,.dead),(20,.dead),(24,.dead)]) (fun i=>[.var (aV s.a),.var (aV rD),.vec 35 (rows aP (bg (fE s.rets) s i).reqs),.vec 35 (rows aP s.rets),.var (aV ⟨s.sto.a,.hs 35 2 0 (bg (fE s.rets) s i).reqs.length,.hs 35 3 0 s.rets.length,(bg (fE s.rets) s i).tag,s.sent,s.last,s.over,s.halt⟩)]) (fun i h1 hw h2=>?_) (fun h=>?_) (h0:=by simp only[go_sem,Nat.reduceAdd];exact gcJ [0,1,2,3,4])
   ·have hs:=cX (fE s.rets) s i
    obtain⟨hu,hul⟩:=hp i
    have hs2:bg (fE s.rets) s (i+1)=if Cz s.sto (bm s.rets i).block=true then nH (bg (fE s.rets) s i) (bm s.rets i).block (bm s.rets i).tries else bg (fE s.rets) s i:=by
     have e:∀v,fE s.rets i v=if Cz v.sto (bm s.rets i).block=true then nH v (bm s.rets i).block (bm s.rets i).tries else v:=fun v=>rfl
     rw[hs,e,hu.st]
    have hue:=hu.eq;have c2:=Fb (bg (fE s.rets) s i) (bm s.rets i).block (by rw[hu.st];exact h.st.bn);rw[hue,hu.st]at c2;have hi:=hq i h1;clear hue hs hp hu hq;generalize bg (fE s.rets) s i=u at *;cases hx:Cz s.sto (bm s.rets i).block with
    | false =>
      rw[hx]at c2;rw[hx,al5 WM]at hs2;refine nx fun H=>?_
      exact gcJ [0,1,2,3,4]
    | true =>
      rw[hx]at c2;rw[hx,al7 rfl]at hs2;unfold nH at hs2;refine nx fun H=>?_
      exact gcJ [0,1,6,3,4]
   ·obtain⟨hu,hul⟩:=hp n
    have e:(gi (bg (fE s.rets) s n) (s.rets.drop n)).a=⟨s.sto.a,.sl 35 false (rows aP (bg (fE s.rets) s n).reqs),.sl 35 false (rows aP (s.rets.drop n)),(bg (fE s.rets) s n).tag,s.sent,s.last,s.over,s.halt⟩:=by
     unfold gi aI.a;rw[hu.st,hu.se,hu.la,hu.ov,hu.ha]
    rw[e];clear hp hu hq e;refine nx fun H=>?_
    refine oce [3] c3 ?_;exact aw
def LJ(s:ap):Prop:=1<=s.cfg.spe/\s.cfg.spe<=64
theorem CG(s:ap)(h:LJ s)(n:Int):PC Tryz.prog 309 [.agg (aE s.a),.int .u64 n] (.int .u64 (dg s n)):=by
 refine ae 7 ?_;have c1:=ae9 n s.cfg.spe;have e:kJ n s.cfg.spe=(dg s n,0):=by unfold kJ dg;rw[al7 (by simp[vy,h.1,h.2])]
 rw[e]at c1;exact aw
theorem O8(s:ap)(h:LJ s)(hb:s.nodes.length<=2097152)(i:Int):PC Tryz.prog 308 [.agg (aE s.a),.int .i64 i] (.agg (cpC (xS s i))):=by
 refine ae 6 ?_;unfold xS;cases hj:isN s.nodes i with
 | false =>
   have:¬ (i<0)->¬i<(s.nodes.length:Int):=fun h1 h2=>by rw[dR.2 ⟨WL,h2⟩]at hj;cases hj
   exact aw
 | true =>
   obtain⟨h0,h1⟩:=dR.1 hj;obtain⟨k,rfl⟩:=ajO h0;have hk:k<s.nodes.length:=WL
   have h2:¬ (k:Int)<0:=WL
   have h3:¬ (k:Int) ≥ (s.nodes.length:Int):=WL
   have c1:=CG s h s.now;rw[amw];have c2:=CG s h (nod s.nodes k).blk.slot;exact aw
theorem J7(s:ap)(h:LJ s)(hb:s.nodes.length<=2097152)(i:Int):PC Tryz.prog 220 [.agg (aE s.a),.int .i64 i] (.bool (IC s i)):=by
 refine ae 7 ?_;have c1:=CG s h s.now;have c2:=O8 s h hb i;unfold IC;cases hj:isN s.nodes i with
 | false =>
   have:¬ (i<0)->¬i<(s.nodes.length:Int):=fun h1 h2=>by rw[dR.2 ⟨WL,h2⟩]at hj;cases hj
   exact aw
 | true =>
   obtain⟨h0,h1⟩:=dR.1 hj;obtain⟨k,rfl⟩:=ajO h0;have hk:k<s.nodes.length:=WL
   have h2:¬ (k:Int)<0:=WL
   have h3:¬ (k:Int) ≥ (s.nodes.length:Int):=WL
   rw[amw];generalize xS s k=S at *;generalize dg s s.now=E at *;exact aw
theorem JX(s:ap)(h:LJ s)(ht:dU s.nodes)(hb:s.nodes.length<=2097152):PC Tryz.prog 124 [.agg (aE s.a)] (.sl 1 false (rows mj (Il s))):=by
 refine ae 6 ?_;have hw0:IntKind.i64.wrap ((s.nodes.length:Int)-1)=(s.nodes.length:Int)-1:=aL WL WL;refine nx fun H=>?_
 have hl0:=Rw ht;refine QL s.nodes.length (fun m v=>[(4,.int .i64 v),(5,.dead)]) (fun m=>[.var (aE s.a),.vec 1 (rows mj (fO s m))]) (fun i hi e1 hw1=>?_) ?_
 ·have ha:=RA ht hi
  have hs:=GS ht hi;have hl:=gw s (i+1);have cq:=J7 s h hb i
  have hup:(nod s.nodes i).up<i:=by
   rcases ajQ i with h|h
   ·subst h;have:=ht.root;omega
   ·exact(ht.ok i h hi).2
  generalize fO s (i+1)=L at *;have hset:(L.set i (nE s i)).length=L.length:=akB ..;generalize nE s i=v at *;by_cases hu:(nod s.nodes i).up<0
  ·rw[al5 WL]at hs;cases hx:L.getD i false<;>rw[hx]at ha<;>simp at ha<;>subst ha<;>exact aw
  ·obtain⟨u,hu2⟩:=ajO (alY.1 hu);have hg:(L.set i v).getD i false=v:=by rw[alt,List.getElem?_set_self WL];rfl
   rw[hu2,amw]at hs;rw[hu2]at hup;have hu3:u<L.length:=WL
   cases hx:L.getD i false<;>rw[hx]at ha<;>simp at ha<;>subst ha
   ·cases hq:IC s i<;>rw[hq]at cq hs hg hset<;>exact aw
   ·exact aw
 ·have hl:=gw s 0;rw[Rr]at hl ⊢;exact aw
def btr(t:List Nod)(w:List Int)(a b:Nat):Bool:=decide (w.getD b 0<w.getD a 0) || (decide (w.getD a 0=w.getD b 0)&&decide (0<uk (nod t a).blk.root (nod t b).blk.root))
theorem OI(t:List Nod)(w:List Int)(hw:w.length=t.length)(a b:Nat)(ha:a<t.length)(hb:b<t.length):PC Tryz.prog 224 [.agg [nA t],.sl 1 false (aH .u64 w),.int .i64 a,.int .i64 b] (.bool (btr t w a b)):=by
 refine ae 9 ?_;have c1:=Ze (nod t a).blk.root (nod t b).blk.root;unfold btr;generalize uk (nod t a).blk.root (nod t b).blk.root=R at *;exact aw
theorem QR(t:List Nod)(w:List Int)(a:List Bool)(l:List Int)(k:Nat){x:Nat}(hx:l.getD k 0=x)(y:Nat):tw t w a l k y=if (a.getD x false&&btr t w x y)=true then (x:Int)else y:=by
 unfold tw btr;rw[hx,amw,amw];congr 1;have:¬ (y:Int)<0:=WL
 simp[this]
theorem QP(t:List Nod)(w:List Int)(a:List Bool)(l:List Int)(k:Nat){x:Nat}(hx:l.getD k 0=x){y:Int}(hy:y<0):tw t w a l k y=if a.getD x false=true then (x:Int)else y:=by
 unfold tw;rw[hx,amw];simp[hy]
theorem Gz(t:List Nod)(ht:dU t)(hb:t.length<=2097152)(w:List Int)(hw:w.length=t.length)(a:List Bool)(ha:a.length=t.length)(i0:Int)(h0:isN t i0=true):
 PC Tryz.prog 126 [.agg [nA t],.sl 1 false (aH .u64 w),.sl 1 false (rows mj a),.int .i64 i0] (.int .i64 (oY t w a i0)):=by
 refine ae 17 ?_;have c1:=IG t i0 hb h0;have hm:=fun x hx=>gK (i:=i0) (x:=x) ht hx
 have hin:=AG t w a (ly t i0);have hl:(ly t i0).length<=t.length:=by have:=adR t i0 t.length;unfold ly;rw[al7 h0];rw[amO]at this;exact this
 unfold oY;generalize ly t i0=l at *;refine nx fun H=>?_
 refine BA l.length (fun k=>[(16,.int .i64 k),(9,.int .i64 (bg (tw t w a l) (-1) k)),(11,.dead)]) (fun k=>[.var [nA t]]) (fun k h1 hw1 h2=>?_) (fun h=>?_)
 ·have hs:=cX (tw t w a l) (-1) k
  have hi:=hin k WL;have hxm:=hm _ (show l.getD k 0∈l by rw[alt,al6 h1];exact amS _);obtain⟨x,hx⟩:=ajO hxm.2.1;rw[hx]at hxm;have hxl:x<t.length:=WL
  generalize bg (tw t w a l) (-1) k=B at *;by_cases hB:B<0
  ·rw[QP t w a l k hx hB]at hs;clear hi hin hxm;exact aw
  ·obtain⟨y,rfl⟩:=ajO (alY.1 hB)
   have hyl:y<t.length:=by
    have:=hm _ (hi.resolve_left WL);omega
   have c2:=OI t w hw x y hxl hyl;rw[QR t w a l k hx y]at hs;clear hi hin hxm;generalize btr t w x y=b at *;exact aw
 ·exact aw
theorem Pb(t:List Nod)(ht:dU t)(hb:t.length<=2097152)(d:List Int)(hd:d.length=t.length)(hu:∀n∈d,0<=n/\n<18446744073709551616):
 PC Tryz.prog 218 [.agg [nA t],.sl 1 false (aH .u64 d)] (.sl 1 false (aH .u64 (ahl t d))):=by
 refine ae 7 ?_;have c1:=pq false d WL
 have h0:0<t.length:=by
  rcases ajQ t.length with h|h
  ·have:=ht.root;rw[amK h]at this;exact absurd this WN
  ·exact h
 have hw0:IntKind.i64.wrap ((t.length:Int)-1)=((t.length-1:Nat):Int)-1+1:=by rw[aL WL WL];omega
 have hz:=SS (t:=t) d hd hu;refine nx fun H=>?_
 refine oce [] c1 ?_;refine nx fun H=>?_
 have hz:oq t d (t.length-1+1)=d:=by rw[show t.length-1+1=t.length by omega];exact hz
 refine QL (t.length-1) (fun m v=>[(6,.int .i64 (v+1))]) (fun m=>[.var [nA t],.vec 1 (aH .u64 (oq t d (m+1)))]) (fun i hi e1 hw1=>?_) ?_
 ·have hs:=OT ht d (i:=i+1) WL WL;have hl:=mV t d (i+1+1);have hup:=ht.ok (i+1) WL WL;obtain⟨u,hu2⟩:=ajO hup.1;rw[hu2,amw]at hs;rw[hu2]at hup;have e2:(i:Int)+1=((i+1:Nat):Int):=rfl;have e3:(0:Int)<((i+1:Nat):Int):=WL
  have e4:i+1<t.length:=WL
  have hw2:IntKind.i64.wrap (((i+1:Nat):Int)-1)=(i:Int)-1+1:=by rw[aL WL WL];omega
  rw[e2];generalize oq t d (i+1+1)=L at *;generalize i+1=m at *;exact aw
 ·have:=SQ ht d;have hl:=mV t d 1;rw[this]at hl;exact aw
end Go.Proofs.YtmpddimhleianaaGreat
