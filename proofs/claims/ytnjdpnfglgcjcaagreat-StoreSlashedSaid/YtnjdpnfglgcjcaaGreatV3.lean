/-
 My texts Ia, Ib, Ir, La, Lb, Lc, joined.
-/
import Derived.Test.YtnjdpnfglgcjcaaGreatV1
import Derived.Test.YtnjdpnfglgcjcaaGreatW3
import Derived.Test.YtnjdpnfglgcjcaaGreatW4
import Derived.Test.YtnjdpnfglgcjcaaGreatW5
set_option linter.unusedVariables false
set_option linter.unusedSimpArgs false
set_option maxRecDepth 8000
set_option maxHeartbeats 4000000
namespace Go.Proofs.YtnjdpnfglgcjcaaGreat
open Go Go.FH Go.RowKit
theorem tm(l:List Int)(cl:Bool)(v:Int)(hb:l.length<=140737488355328):PC Tryz.prog 40 [.sl 1 cl (ax .i64 l),.int .i64 v] (.bool (decide (v∈l))):=by
 refine PC.fact 6 QQ (by simp) ⟨bj _ _,trivial,trivial⟩ trivial ?_;unfold DW;refine bd ?_;refine gon ?_;refine li (fun i:Nat=>⟨6,[.sl 1 cl (ax .i64 l),.int .i64 v,.dead,.dead,.bool false,.int .i64 i],[]⟩) (fun _=>[]) (fun i=>l.length-i) (fun i=>i<=l.length/\v∉l.take i) [] 0 ⟨by omega,by simp⟩ evd rfl ?_;rintro i ⟨hi,hv⟩;try dsimp only
 refine gon ?_;refine du evd (fun h=>?_) (fun h=>?_)
 ·have h1:i<l.length:=by simp at h;omega
  have hg:=fZ (k:=.i64) h1;have hw:=ah h1 (by omega);have e0:l[i]=l.getD i 0:=by rw[List.getD_eq_getElem?_getD,List.getElem?_eq_getElem h1];rfl
  refine aO hg Nat.mul_one ?_;refine du evd (fun h=>?_) (fun h=>?_)
  ·have e1:l.getD i 0=v:=by simpa using h
   have hm:v∈l:=by rw[<-e1,<-e0];exact List.getElem_mem h1
   rw[ak hm];refine gon ?_;exact af
  ·have e1:l.getD i 0≠v:=by simpa using h
   refine ap hw ?_;refine⟨i+1,⟨h1,?_⟩,by omega,rfl⟩;rw[List.take_add_one,List.getElem?_eq_getElem h1];simp only[Option.toList_some,List.mem_append,List.mem_singleton,not_or];exact⟨hv,by rw[e0];exact fun e=>e1 e.symm⟩
 ·have h1:i=l.length:=by simp at h;omega
  subst h1;rw[List.take_length]at hv;rw[au hv];refine gon ?_;exact af
theorem Ju(k:IntKind)(l:List Int)(i:Nat):(ax k l).take i=ax k (l.take i):=by simp[ax]
theorem Jt(k:IntKind)(l:List Int)(i:Nat):(ax k l).drop i=ax k (l.drop i):=by simp[ax]
theorem jn(k:IntKind)(l m:List Int):ax k l++ax k m=ax k (l++m):=by simp[ax]
theorem OM(k:IntKind)(v:Int):[[AV.int k v]]=ax k [v]:=rfl
def jj:List Int->Int->List Int
 | [],v=>[v]
 |a::r,v=>if a<v then a::jj r v else if a=v then a::r else v::a::r
theorem Dq:∀ (l:List Int) (v:Int) (i:Nat),i<=l.length->(∀j,j<i->l.getD j 0<v)->(∀_:i<l.length,¬l.getD i 0<v)->jj l v=if i<l.length/\l.getD i 0=v then l else l.take i++[v]++l.drop i
 | [], v, i, hi, h1, h2 => by
   have:i=0:=by simpa using hi
   subst this;simp[jj]
 | a :: r, v, 0, hi, h1, h2 => by
   have h3:¬a<v:=by simpa using h2 (by simp)
   simp only[jj,if_neg h3];by_cases h4:a=v
   ·simp[h4]
   ·simp[h4]
 | a :: r, v, i + 1, hi, h1, h2 => by
   have h3:a<v:=by simpa using h1 0 (by omega)
   have ih:=Dq r v i (by simpa using hi) (fun j hj=>by simpa using h1 (j+1) (by omega)) (fun hlt=>by simpa using h2 (by simpa using hlt));simp only[jj,if_pos h3,ih];by_cases h4:i<r.length/\r.getD i 0=v
   ·rw[if_pos h4,if_pos (by simpa using h4)]
   ·rw[if_neg h4,if_neg (by simpa using h4)];simp
theorem Oq(l:List Int)(v:Int):(jj l v).length<=l.length+1:=by
 induction l with
 |nil=>simp[jj]
 | cons a r ih =>
   unfold jj;split
   ·simp;omega
   ·split<;>simp
theorem Ow(l:List Int)(v:Int)(hb:l.length<=1000000):PC Tryz.prog 120 [.sl 1 false (ax .i64 l),.int .i64 v] (.sl 1 false (ax .i64 (jj l v))):=by
 refine PC.fact 6 Hz (by simp) ⟨bj _ _,trivial,trivial⟩ (bj _ _) ?_;unfold vJ;refine bd ?_;refine gon ?_;refine li (fun i:Nat=>⟨6,[.sl 1 false (ax .i64 l),.int .i64 v,.dead,.dead,.sl 0 true [],.int .i64 i],[]⟩) (fun _=>[]) (fun i=>l.length-i) (fun i=>i<=l.length/\∀j,j<i->l.getD j 0<v) [] 0 ⟨by omega,fun j hj=>by omega⟩ evd rfl ?_;rintro i ⟨hi,hv⟩;try dsimp only
 have fin:(∀_:i<l.length,¬l.getD i 0<v)->True:=fun _=>trivial
 by_cases h1:i<l.length
 ·have hg:=fZ (k:=.i64) h1
  have hw:=ah h1 (by omega);have e1:decide ((i:Int)<(l.length:Int))=true:=ak (by omega);by_cases h2:l.getD i 0<v
  ·have e2:=ak h2;refine I4 e1 hg Nat.mul_one e2 ?_;refine ap hw ?_;refine⟨i+1,⟨h1,fun j hj=>?_⟩,by omega,rfl⟩;by_cases e:j=i
   ·subst e;exact h2
   ·exact hv j (by omega)
  ·have e2:=au h2
   rw[Dq l v i hi hv (fun _=>h2)];refine BS e1 hg Nat.mul_one e2 ?_;by_cases h3:l.getD i 0=v
   ·have e3:(l.getD i 0==v)=true:=by rw[beq_iff_eq];exact h3
    rw[if_pos ⟨h1,h3⟩];refine qM e1 hg Nat.mul_one e3 ?_;exact af
   ·have e3:(l.getD i 0==v)=false:=by rw[<-Bool.not_eq_true,beq_iff_eq];exact h3
    rw[if_neg (fun h=>h3 h.2)];refine BS e1 hg Nat.mul_one e3 ?_;have d1:(l.drop i).take (l.length-i)=l.drop i:=List.take_of_length_le (by simp);refine eO Ju Jt d1 OM jn ?_;exact af
 ·have hl:i=l.length:=by omega
  subst hl;have e1:decide ((l.length:Int)<(l.length:Int))=false:=au (by omega);rw[Dq l v l.length hi hv (fun h=>by omega),if_neg (fun h=>by omega),List.take_length,List.drop_length,List.append_nil];refine aQ e1 ?_;refine aQ e1 ?_;refine eW Ju Jt OM jn ?_;exact af
def ee(l m:List Int)(i:Nat):List Int:=(l.take i).foldl (fun a v=>if v∈m then jj a v else a) []
theorem K3{l m:List Int}{i:Nat}(h:i<l.length):ee l m (i+1)=if l.getD i 0∈m then jj (ee l m i) (l.getD i 0)else ee l m i:=by
 have e0:l[i]=l.getD i 0:=by rw[List.getD_eq_getElem?_getD,List.getElem?_eq_getElem h];rfl
 unfold ee;rw[List.take_add_one,List.getElem?_eq_getElem h,Option.toList_some,List.foldl_append,List.foldl_cons,List.foldl_nil,e0]
theorem pY(l m:List Int):∀i,(ee l m i).length<=i
 |0=>by simp[ee]
 | i + 1 => by
   have ih:=pY l m i;by_cases h:i<l.length
   ·rw[K3 h];split
    ·have:=Oq (ee l m i) (l.getD i 0);omega
    ·omega
   ·have:ee l m (i+1)=ee l m i:=by unfold ee;rw[List.take_of_length_le (by omega),List.take_of_length_le (by omega)]
    rw[this];omega
theorem xA(x:Slg)(l m:List Int)(c d:Bool)(hx:x.fst.vals=.sl 1 c (ax .i64 l))(hy:x.snd.vals=.sl 1 d (ax .i64 m))(hl:l.length<=100)(hm:m.length<=100):
 PC Tryz.prog 39 [.agg (dq x)] (.sl 1 false (ax .i64 (ee l m l.length))):=by
 obtain⟨⟨a1,a2,r1,v1⟩,⟨b1,b2,r2,v2⟩⟩:=x;dsimp only at hx hy;subst hx hy;have hp:PuL (dq ⟨⟨a1,a2,r1,.sl 1 c (ax .i64 l)⟩,⟨b1,b2,r2,.sl 1 d (ax .i64 m)⟩⟩):=(ia _).2 ⟨bj _ _,bj _ _⟩;refine PC.fact 5 CM (by simp) ⟨hp,trivial⟩ (bj _ _) ?_;unfold ru;refine bd ?_;refine gon ?_
 refine gN (fun i:Nat×Bool=>⟨5,[.agg (dq ⟨⟨a1,a2,r1,.sl 1 c (ax .i64 l)⟩,⟨b1,b2,r2,.sl 1 d (ax .i64 m)⟩⟩),.ptr 0 0,.sl 0 true [],if i.2 then .sl 1 false (ax .i64 (ee l m i.1))else .sl 0 true [],.int .i64 i.1],[]⟩) (fun _=>[.var (dq ⟨⟨a1,a2,r1,.sl 1 c (ax .i64 l)⟩,⟨b1,b2,r2,.sl 1 d (ax .i64 m)⟩⟩)]) (fun i=>l.length-i.1) (fun i=>i.1<=l.length/\(i.2=false->ee l m i.1=[])) (0,false) ⟨by dsimp only;omega,fun _=>rfl⟩ ?_ ?_
 ·simp only[Bool.false_eq_true,if_false];exact adk [] [0]
 rintro⟨i,b⟩ ⟨hi,hb⟩;dsimp only at hi hb ⊢;by_cases h1:i<l.length
 case neg=>
  have e1:decide ((i:Int)<(l.length:Int))=false:=au (by omega);obtain rfl:i=l.length:=by omega
  refine aQ e1 ?_;cases b with
  | true =>
    simp only[if_true];refine gon ?_;exact af
  | false =>
    rw[hb rfl];simp only[Bool.false_eq_true,if_false];refine gon ?_;refine⟨_,by first|rfl|exact evd,.inr ⟨.sl 0 true [],evd,trivial,Wk.empty _ _ _⟩⟩
 have e1:decide ((i:Int)<(l.length:Int))=true:=ak (by omega);have hgd:=fZ (k:=.i64) h1;have hw:=ah h1 (by omega);have hr:=tm m d (l.getD i 0) (by omega);have hcl:=pY l m i;refine vX e1 hgd Nat.mul_one ?_;refine aO hgd Nat.mul_one ?_;refine aC (hr) ?_;refine gon ?_;by_cases h2:l.getD i 0∈m
 ·rw[ak h2]
  refine aF ?_;have hs:ee l m (i+1)=jj (ee l m i) (l.getD i 0):=by rw[K3 h1,if_pos h2]
  have hc:=Ow (ee l m i) (l.getD i 0) (by omega);rw[<-hs]at hc;cases b with
  | true =>
    simp only[if_true];refine aO hgd Nat.mul_one ?_;refine ai hc ?_;refine ap hw ?_;refine⟨(i+1,true),⟨by dsimp only;omega,fun h=>(by cases h)⟩,by dsimp only;omega,?_⟩;simp only[if_true];exact adk [] [0]
  | false =>
    rw[hb rfl]at hc;simp only[Bool.false_eq_true,if_false];refine aO hgd Nat.mul_one ?_;refine mm (hc) (by repeat(first|exact trivial|(refine⟨Wk.refl _,?_⟩)|(refine⟨Wk.empty 0 1 _,?_⟩))) (by simp[PuL,Pu,fG,pd,bj]) ?_;refine ap hw ?_;refine⟨(i+1,true),⟨by dsimp only;omega,fun h=>(by cases h)⟩,by dsimp only;omega,?_⟩;simp only[if_true];exact adk [] [0]
 ·rw[au h2]
  refine aB ?_;have hs:ee l m (i+1)=ee l m i:=by rw[K3 h1,if_neg h2]
  refine ap hw ?_;refine⟨(i+1,b),⟨by dsimp only;omega,fun h=>(by dsimp only;rw[hs];exact hb h)⟩,by dsimp only;omega,?_⟩;dsimp only;rw[hs];cases b
  ·simp only[Bool.false_eq_true,if_false];exact adk [] [0]
  ·simp only[if_true];exact adk [] [0]
def sur(a b:Clm):Bool:=decide (a.src<b.src)&&decide (b.tgt<a.tgt)
def dbl(a b:Clm):Bool:=(a.tgt==b.tgt)&&((a.src != b.src) || !decide (a.root=b.root))
def slb(a b:Clm):Bool:=dbl a b || sur a b || sur b a
theorem C8(a b:Clm)(ha:a.good=true)(hb:b.good=true)(pa:a.Pure)(pb:b.Pure):PC Tryz.prog 260 [.agg (de a),.agg (de b)] (.bool (slb a b)):=by
 refine PC.fact 8 Ad (by simp) ⟨(i5 a).2 pa,(i5 b).2 pb,trivial⟩ trivial ?_;have hc:aT=.seq aT.hd (.seq (aT.tl 1).hd (.seq (aT.tl 2).hd (.seq (aT.tl 3).hd (aT.tl 4)))):=rfl
 -- the last part: three results joined
 have t4:∀ (D s1 s2:Bool) (ts:List (Nat×AV)),Tri Tryz.prog 58 0 (aT.tl 4) (PQ [.tmp 4] (.bool (D || s1 || s2))) ⟨8,[.agg (de a),.agg (de b),.ptr 0 0,.ptr 1 0,.bool false,.bool D,.bool s1,.bool s2],ts⟩ [.var (de a),.var (de b)]:=by
  intro D s1 s2 ts;unfold aT;refine bd ?_;simp only[ab.tl];cases D
  ·cases s1
   ·refine gon ?_;exact af
   ·refine gon ?_;exact af
  ·refine gon ?_;exact af
 have t3:∀ (D s1:Bool) (ts:List (Nat×AV)),Tri Tryz.prog 58 0 (.seq (aT.tl 3).hd (aT.tl 4)) (PQ [.tmp 4] (.bool (D || s1 || sur b a))) ⟨8,[.agg (de a),.agg (de b),.ptr 0 0,.ptr 1 0,.bool false,.bool D,.bool s1,.dead],ts⟩ [.var (de a),.var (de b)]:=by
  intro D s1 ts;generalize aT.tl 4=cT at *;unfold aT sur;refine bd ?_;simp only[ab.tl,ab.hd];cases e1:decide (b.src<a.src)with
  | false =>
    refine ap e1 ?_;exact t4 _ _ _ _
  | true =>
    refine ap e1 ?_;exact t4 _ _ _ _
 have t2:∀ (D:Bool) (ts:List (Nat×AV)),Tri Tryz.prog 58 0 (.seq (aT.tl 2).hd (.seq (aT.tl 3).hd (aT.tl 4))) (PQ [.tmp 4] (.bool (D || sur a b || sur b a))) ⟨8,[.agg (de a),.agg (de b),.ptr 0 0,.ptr 1 0,.bool false,.bool D,.dead,.dead],ts⟩ [.var (de a),.var (de b)]:=by
  intro D ts;clear t4;generalize ab.seq (aT.tl 3).hd (aT.tl 4)=cT at *;have t3':=fun s1=>t3 D s1
  clear t3;generalize sur b a=s2 at *;unfold aT sur;refine bd ?_;simp only[ab.tl,ab.hd];cases e1:decide (a.src<b.src)with
  | false =>
    refine ap e1 ?_;exact t3' _ _
  | true =>
    refine ap e1 ?_;exact t3' _ _
 clear t3 t4;rw[hc];clear hc;generalize ab.seq (aT.tl 2).hd (.seq (aT.tl 3).hd (aT.tl 4))=cT at *;unfold aT slb;refine bd ?_;generalize sur a b=s1 at *;generalize sur b a=s2 at *;unfold dbl;simp only[ab.tl,ab.hd];cases e1:(a.tgt==b.tgt)with
 | false =>
   refine cZ ha hb e1 ?_;exact t2 _ _
 | true =>
   cases e2:(a.src != b.src)with
   | true =>
     refine eW ha hb e1 e2 ?_;exact t2 _ _
   | false =>
     refine eW ha hb e1 e2 ?_;exact t2 _ _
def evE(x:Slg)(l m:List Int)(n:Int):Int:=
 if dr l n≠0 then dr l n else if dr m n≠0 then dr m n else if x.fst.tgt<x.fst.src\/x.snd.tgt<x.snd.src then 2
 else if slb x.fst x.snd=false\/ee l m l.length=[]then 20 else 0
theorem Pe(x:Slg)(l m:List Int)(c d:Bool)(n:Int)(hx:x.fst.vals=.sl 1 c (ax .i64 l))(hy:x.snd.vals=.sl 1 d (ax .i64 m))(hl:l.length<=100)(hm:m.length<=100):
 PC Tryz.prog 137 [.agg (dq x),.int .i64 n] (.int .i64 (evE x l m n)):=by
 obtain⟨⟨a1,a2,r1,v1⟩,⟨b1,b2,r2,v2⟩⟩:=x;dsimp only at hx hy;subst hx hy;have cu:=xA ⟨⟨a1,a2,r1,.sl 1 c (ax .i64 l)⟩,⟨b1,b2,r2,.sl 1 d (ax .i64 m)⟩⟩ l m c d rfl rfl hl hm;have sl:=C8 ⟨a1,a2,r1,.sl 1 c (ax .i64 l)⟩ ⟨b1,b2,r2,.sl 1 d (ax .i64 m)⟩ rfl rfl (bj _ _) (bj _ _);have w1:=gp l c n (by omega);have w2:=gp m d n (by omega);refine PC.fact 7 qe (by simp) ⟨(ia _).2 ⟨bj _ _,bj _ _⟩,trivial,trivial⟩ trivial ?_;unfold jI evE;refine bd ?_;(try dsimp only)
 generalize slb ⟨a1,a2,r1,.sl 1 c (ax .i64 l)⟩ ⟨b1,b2,r2,.sl 1 d (ax .i64 m)⟩=S at *;generalize ee l m l.length=R at *;by_cases q1:dr l n=0
 case neg=>
  have e1:(dr l n != 0)=true:=by rw[bne_iff_ne];exact q1
  rw[if_pos q1];refine gon ?_;refine ai w1 ?_;refine aE e1 ?_;exact af
 rw[if_neg (fun h=>h q1)];rw[q1]at w1;by_cases q2:dr m n=0
 case neg=>
  have e1:(dr m n != 0)=true:=by rw[bne_iff_ne];exact q2
  rw[if_pos q2];refine gon ?_;refine ai w1 ?_;refine bh ?_;refine ai w2 ?_;refine aE e1 ?_;exact af
 rw[if_neg (fun h=>h q2)];rw[q2]at w2;refine gon ?_;refine ai w1 ?_;refine bh ?_;refine ai w2 ?_;refine dk ?_;by_cases q3:a2<a1
 ·have e3:=ak q3;rw[if_pos (.inl q3)];refine aE e3 ?_;exact af
 have e3:=au q3;by_cases q4:b2<b1
 ·have e4:=ak q4;rw[if_pos (.inr q4)];refine cn e3 e4 ?_;exact af
 have e4:=au q4;rw[if_neg (fun h=>h.elim q3 q4)];refine eC e3 e4 ?_;refine ai sl ?_;cases S with
 | false =>
   rw[if_pos (.inl rfl)];refine aV ?_;exact af
 | true =>
   refine gon ?_;refine ai cu ?_;by_cases q5:R=[]
   ·subst q5;rw[if_pos rfl];refine aV ?_;exact af
   ·have e5:((R.length:Int)==0)=false:=by
     rw[<-Bool.not_eq_true,beq_iff_eq];have:=List.length_pos_iff.2 q5;omega
    rw[if_neg (by simp[q5])];refine aD e5 ?_;exact af
def Il(z:Int):UInt8:=UInt8.ofNat (IntKind.u8.wrap z).toNat
theorem tX(z:Int):IntKind.u8.wrap z=((Il z).toNat:Int):=by
 have h:0<=IntKind.u8.wrap z/\IntKind.u8.wrap z<256:=by rw[IntKind.wrap_u8];omega
 unfold Il;rw[UInt8.toNat_ofNat',Nat.mod_eq_of_lt (by omega)];omega
theorem yU(x m:Int)(h0:0<=m)(hm:m<9223372036854775808):∃r:Nat,gr .i64 x m=r/\(r:Int)<=m:=by
 unfold gr
 have h:(BitVec.ofInt IntKind.i64.bits x &&& BitVec.ofInt IntKind.i64.bits m).toNat<=m.toNat:=by
  rw[BitVec.toNat_and];refine Nat.le_trans Nat.and_le_right ?_;rw[BitVec.toNat_ofInt];show (m % ((2 ^ 64:Nat):Int)).toNat<=m.toNat
  omega
 generalize (BitVec.ofInt IntKind.i64.bits x &&& BitVec.ofInt IntKind.i64.bits m).toNat=r at *;exact⟨r,aK (by omega) (by omega),by omega⟩
def wa(n:Int):Rt:=((rt0.set 0 (Il n)).set 1 (Il (fH .i64 n 8))).set 31 (Il (IntKind.i64.wrap (n*7)))
theorem ie(n:Int):PC Tryz.prog 21 [.int .i64 n] (.agg (rtc (wa n))):=by
 refine PC.fact 3 NT (by simp) ⟨trivial,trivial⟩ ((dS _)) ?_;unfold A9 wa;refine bd ?_;have h0:=tX n;have h1:=tX (fH .i64 n 8);have h2:=tX (IntKind.i64.wrap (n*7));generalize Il n=b0 at *;generalize Il (fH .i64 n 8)=b1 at *;generalize Il (IntKind.i64.wrap (n*7))=b2 at *;have s0:∀ (r:Rt) (b:UInt8),spl (rtc r) 0 [.int .u8 (b.toNat:Int)]=rtc (r.set 0 b):=fun r b=>Dv r (by decide) b
 have s1:∀ (r:Rt) (b:UInt8),spl (rtc r) 1 [.int .u8 (b.toNat:Int)]=rtc (r.set 1 b):=fun r b=>Dv r (by decide) b
 have s2:∀ (r:Rt) (b:UInt8),spl (rtc r) 31 [.int .u8 (b.toNat:Int)]=rtc (r.set 31 b):=fun r b=>Dv r (by decide) b
 refine eI h0 h1 h2 s0 s1 s2 ?_;exact af
def iR(bits:Int)(i:Nat):List Int:=((List.range i).filter fun j=>gr .i64 (fH .i64 bits j) 1==1).map Int.ofNat
theorem TD(bits:Int)(i:Nat):iR bits (i+1)=if (gr .i64 (fH .i64 bits i) 1==1)=true then iR bits i++[(i:Int)]else iR bits i:=by
 unfold iR;rw[List.range_succ,List.filter_append,List.map_append];by_cases h:(gr .i64 (fH .i64 bits i) 1==1)=true
 ·rw[if_pos h];simp[h]
 ·rw[if_neg h];simp[h]
theorem ux(bits:Int)(i:Nat):(iR bits i).length<=i:=by
 unfold iR;rw[List.length_map];exact Nat.le_trans (List.length_filter_le _ _) (by simp)
def JX(n:Nat)(bits:Int):List Int:=if iR bits n=[]/\0<n then [0]else iR bits n
theorem JY(n:Nat)(bits:Int):(JX n bits).length<=n:=by
 unfold JX;split
 ·rename_i h;simp;omega
 ·exact ux bits n
theorem JZ(n:Nat)(bits:Int)(hn:n<=1000000):PC Tryz.prog 100 [.int .i64 n,.int .i64 bits] (.sl 1 false (ax .i64 (JX n bits))):=by
 refine PC.fact 7 sS (by simp) ⟨trivial,trivial,trivial⟩ (bj _ _) ?_;unfold dW;refine bd ?_;refine gon ?_;refine gN (fun x:Nat×Bool=>⟨7,[.int .i64 n,.int .i64 bits,.dead,.dead,.sl 0 true [],if x.2 then .hs 1 0 0 (iR bits x.1).length else .sl 0 true [],.int .i64 x.1],[]⟩) (fun x=>if x.2 then [.vec 1 (ax .i64 (iR bits x.1))]else []) (fun x=>n-x.1) (fun x=>x.1<=n/\(x.2=false->iR bits x.1=[])) (0,false) ⟨Nat.zero_le _,fun _=>rfl⟩ ?_ ?_
 ·simp only[Bool.false_eq_true,if_false];exact adk [] []
 rintro⟨i,b⟩ ⟨hi,hb⟩;dsimp only at hi hb ⊢;have hlen:=ux bits i;by_cases h1:i<n
 ·have e1:decide ((i:Int)<(n:Int))=true:=ak (by omega)
  have hw:=ah h1 (by omega);have hu:IntKind.u64.wrap (i:Int)=(i:Int):=aU (by omega) (by omega);have hs:=TD bits i;cases hq:(gr .i64 (fH .i64 bits i) 1==1)with
  | true =>
    rw[hq,if_pos rfl]at hs;have hnum:∀l:List Int,ax .i64 l++[[.int .i64 (i:Int)]]=ax .i64 (l++[(i:Int)]):=fun l=>jn .i64 l [(i:Int)]
    cases b with
    | true =>
      simp only[if_true];refine bg e1 ?_;refine im hu hq ?_;refine aO hw hnum ?_;refine⟨(i+1,true),⟨h1,fun h=>(by cases h)⟩,by dsimp only;omega,?_⟩;simp only[if_true,hs,List.length_append,List.length_cons,List.length_nil,Nat.zero_add];exact adk [] [1]
    | false =>
      have h0:=hb rfl;rw[h0]at hs;simp only[Bool.false_eq_true,if_false];refine bg e1 ?_;refine im hu hq ?_;refine ap hw ?_;refine⟨(i+1,true),⟨h1,fun h=>(by cases h)⟩,by dsimp only;omega,?_⟩;simp only[if_true,hs];exact adk [] [0]
  | false =>
    rw[hq,if_neg (by simp)]at hs;cases b with
    | true =>
      simp only[if_true];refine bg e1 ?_;refine dD hu hq ?_;refine ap hw ?_;refine⟨(i+1,true),⟨h1,fun h=>(by cases h)⟩,by dsimp only;omega,?_⟩;simp only[if_true,hs];exact adk [] [0]
    | false =>
      simp only[Bool.false_eq_true,if_false];refine bg e1 ?_;refine dD hu hq ?_;refine ap hw ?_;refine⟨(i+1,false),⟨h1,fun h=>(by dsimp only;rw[hs];exact hb rfl)⟩,by dsimp only;omega,?_⟩;simp only[Bool.false_eq_true,if_false];exact adk [] []
 have e1:decide ((i:Int)<(n:Int))=false:=au (by omega);obtain rfl:i=n:=by omega
 have e2:decide ((i:Int) > 0)=decide (0<i):=by rw[decide_eq_decide];omega
 unfold JX;by_cases h0:iR bits i=[]
 ·by_cases hz:0<i
  ·have e3:decide ((i:Int) > 0)=true:=ak (by omega)
   rw[if_pos ⟨h0,hz⟩];cases b with
   | true =>
     simp only[if_true,h0];refine aQ e1 ?_;refine aE e3 ?_;refine⟨_,by first|rfl|exact evd,.inr ⟨.sl 1 true (ax .i64 [0]),evd,bj _ _,Wk.open_ _ _ _⟩⟩
   | false =>
     simp only[Bool.false_eq_true,if_false];refine aQ e1 ?_;refine aE e3 ?_;refine⟨_,by first|rfl|exact evd,.inr ⟨.sl 1 true (ax .i64 [0]),evd,bj _ _,Wk.open_ _ _ _⟩⟩
  ·have e3:decide ((i:Int) > 0)=false:=au (by omega)
   rw[if_neg (fun h=>hz h.2),h0];cases b with
   | true =>
     simp only[if_true];refine aQ e1 ?_;refine aD e3 ?_;exact af
   | false =>
     simp only[Bool.false_eq_true,if_false];refine aQ e1 ?_;refine aD e3 ?_;refine⟨_,by first|rfl|exact evd,.inr ⟨.sl 0 true [],evd,trivial,Wk.empty _ _ _⟩⟩
 ·rw [if_neg (fun h => h0 h.1)]
  cases b with
  |false=>exact absurd (hb rfl) h0
  | true =>
    have e3:(((iR bits i).length:Int)==0)=false:=by
     rw[<-Bool.not_eq_true,beq_iff_eq];have:=List.length_pos_iff.2 h0;omega
    simp only[if_true];refine aQ e1 ?_;refine aD e3 ?_;exact af
theorem WM(a b:Int):PC Tryz.prog 330 [.int .u64 a,.int .u64 b] (.tup [.int .u64 (Ci a b).1,.int .i64 (Ci a b).2]):=by
 refine PC.fact 6 QN (by simp) puA puA ?_;unfold DT;refine bd ?_;unfold Ci;refine gon ?_;refine bw (fun h=>?_) (fun h=>?_)
 ·refine gon ?_;rw[if_pos (by simpa using h)];exact af
 ·refine gon ?_;rw[if_neg (by simpa using h)];exact af
theorem Xl(n:Int):PC Tryz.prog 388 [.int .u64 n] (.bool (mO n)):=by
 refine PC.fact 3 Hs (by simp) puA puA ?_;unfold vD;refine bd ?_;unfold mO;cases h:decide (1<=n)with
 | true =>
   refine ap h ?_;exact af
 | false =>
   refine ap h ?_;exact af
theorem XZ(a b:Int):PC Tryz.prog 389 [.int .u64 a,.int .u64 b] (.tup [.int .u64 (CV a b).1,.int .i64 (CV a b).2]):=by
 refine PC.fact 6 QO (by simp) puA puA ?_;unfold DU;refine bd ?_;unfold CV;by_cases h0:b=0
 ·subst h0;refine bh ?_;rw[if_neg (by simp)];exact af
 ·have e0:(b != 0)=true:=by simp[h0]
  refine aO e0 h0 ?_;refine bw (fun h=>?_) (fun h=>?_)
  ·refine gon ?_;rw[if_pos (by simpa[h0]using h)];exact af
  ·refine gon ?_;rw[if_neg (by simpa[h0]using h)];exact af
theorem R9(e p:Int):PC Tryz.prog 331 [.int .u64 e,.int .u64 p] (.tup [.int .u64 (bD e p).1,.int .i64 (bD e p).2]):=by
 refine PC.fact 6 EJ (by simp) puA puA ?_;unfold sC;refine bd ?_;unfold bD;have c1:=Xl p;have c2:=XZ e p;refine gon ?_;refine ai c1 ?_;cases h:mO p with
 | true =>
   rw[if_pos rfl];refine bh ?_;refine acT c2 ?_;exact af
 | false =>
   rw[if_neg (by simp)];refine aV ?_;exact af
theorem PA(l:List Int){i:Nat}(h:(jr l i).2≠0):∀n,i<=n->jr l n=jr l i
 |0,hn=>by rw[show i=0 by omega]
 | n + 1, hn => by
   by_cases he:i=n+1
   ·rw[he]
   ·have:=PA l h n (by omega);show (if (jr l n).2≠0 then jr l n else _)=_
    rw[this,if_pos h]
theorem WL{a b:Int}(h:(Ci a b).2≠0):Ci a b=(0,(Ci a b).2):=by
 unfold Ci at *;split at h
 ·rw[if_pos (by assumption)]
 ·exact absurd rfl h
theorem J2(l:List Int)(c:Bool)(hb:l.length<=1000000):PC Tryz.prog 240 [.sl 1 c (ax .u64 l)] (.tup [.int .u64 (xK l).1,.int .i64 (xK l).2]):=by
 refine PC.fact 8 QP (by simp) puA puA ?_;unfold DV;refine bd ?_;refine gon ?_;refine ay (fun i:Nat=>[(5,.int .i64 i),(4,.int .u64 (jr l i).1)]) (fun _=>[]) (fun i=>l.length-i) (fun i=>i<=l.length/\(jr l i).2=0) 0 ⟨Nat.zero_le _,rfl⟩ ?_ ?_
 ·exact adk [] []
 rintro i ⟨hi,he⟩;by_cases h1:i<l.length
 ·have e1:decide ((i:Int)<(l.length:Int))=true:=ak (by omega)
  have hgd:=gdn (k:=.u64) h1;have hw:=ah h1 (by omega);have c1:=WM (jr l i).1 (l.getD i 0);have hs:jr l (i+1)=Ci (jr l i).1 (l.getD i 0):=by show (if (jr l i).2≠0 then jr l i else _)=_;rw[if_neg (by simp[he])]
  rw[<-hs]at c1;refine bg e1 ?_;refine aO hgd Nat.mul_one ?_;refine acT c1 ?_;refine bw (fun h=>?_) (fun h=>?_)
  ·have h':(jr l (i+1)).2≠0:=by simpa using h
   have hE:xK l=jr l (i+1):=PA l h' _ h1;rw[hE];have h2:=WL (by rw[<-hs];exact h');rw[<-hs]at h2;refine gon ?_;generalize jr l (i+1)=q at *;obtain⟨q1,q2⟩:=q;cases h2;exact af
  ·have h':(jr l (i+1)).2=0:=by simpa using h
   refine ap hw ?_;refine⟨i+1,⟨h1,h'⟩,by omega,?_⟩;exact adk [] []
 ·obtain rfl:i=l.length:=by omega
  have e1:decide ((l.length:Int)<(l.length:Int))=false:=au (by omega);refine aD e1 ?_;rw[show xK l=jr l l.length from rfl,he];exact af
theorem G7(l:List Rt)(c:Bool)(r:Rt)(hb:l.length<=1000000):PC Tryz.prog 245 [.sl 32 c (rows rtc l),.agg (rtc r)] (.bool (decide (r∈l))):=by
 refine PC.fact 6 CG (by simp) ⟨(cK fun x _=>dS x),dS _,trivial⟩ trivial ?_;unfold rl;refine bd ?_;refine gon ?_;refine ay (fun i:Nat=>[(5,.int .i64 i)]) (fun _=>[.var (rtc r)]) (fun i=>l.length-i) (fun i=>i<=l.length/\∀j,j<i->l.getD j rt0≠r) 0 ⟨Nat.zero_le _,fun j hj=>by omega⟩ ?_ ?_
 ·exact adk [] [0]
 rintro i ⟨hi,hn⟩;by_cases h1:i<l.length
 ·have e1:decide ((i:Int)<(l.length:Int))=true:=ak (by omega)
  have hgd:=aM (f:=rtc) rt0 h1;have hw:=ah h1 (by omega);have hm:l.getD i rt0∈l:=by rw[List.getD_eq_getElem?_getD,List.getElem?_eq_getElem h1];exact List.getElem_mem h1
  refine bg e1 ?_;refine ap hgd ?_;refine bw (fun h=>?_) (fun h=>?_)
  ·have hr:l.getD i rt0=r:=by simpa using h
   subst hr;refine gon ?_;rw[ak hm];exact af
  ·have hr:l.getD i rt0≠r:=by simpa using h
   refine ap hw ?_;refine⟨i+1,⟨h1,fun j hj=>?_⟩,by omega,?_⟩
   ·by_cases hji:j=i
    ·rw[hji];exact hr
    ·exact hn j (by omega)
   ·exact adk [] [0]
 ·obtain rfl:i=l.length:=by omega
  have e1:decide ((l.length:Int)<(l.length:Int))=false:=au (by omega)
  have e2:decide (r∈l)=false:=by
   refine au fun hr=>?_
   obtain⟨j,hj,rfl⟩:=List.getElem_of_mem hr;exact hn j hj (by simp[List.getD_eq_getElem?_getD,hj])
  rw[e2];refine aD e1 ?_;exact af
theorem IL(a b:Rt):PC Tryz.prog 241 [.agg (rtc a),.agg (rtc b)] (.int .i64 (rI a b)):=by
 refine PC.fact 6 uH (by simp) puA puA ?_;unfold mw;refine bd ?_;refine gon ?_;refine ay (fun i:Nat=>[(5,.int .i64 i)]) (fun _=>[.var (rtc a),.var (rtc b)]) (fun i=>32-i) (fun i=>i<=32/\rI a b=oM a b (32-i) i) 0 ⟨by omega,rfl⟩ ?_ ?_
 ·exact adk [] [0,1]
 rintro i ⟨hi,hn⟩;rw[hn];by_cases h1:i<32
 ·have e1:decide ((i:Int)<32)=true:=ak (by omega)
  have hw:=ah h1 (by omega);have g1:=SI a h1;have g2:=SI b h1;have ga:a.1.getD i 0=a.1[i]'(by rw[a.2];exact h1):=by simp[List.getD_eq_getElem?_getD,a.2,h1]
  have gb:b.1.getD i 0=b.1[i]'(by rw[b.2];exact h1):=by simp[List.getD_eq_getElem?_getD,b.2,h1]
  rw[<-ga]at g1;rw[<-gb]at g2;obtain⟨f,hf⟩:∃f,32-i=f+1:=⟨31-i,by omega⟩
  have hs:oM a b (32-i) i=if a.1.getD i 0<b.1.getD i 0 then -1 else if b.1.getD i 0<a.1.getD i 0 then 1 else oM a b (32-(i+1)) (i+1):=by
   rw[hf,show 32-(i+1)=f by omega];rfl
  rw[hs];generalize a.1.getD i 0=x at *;generalize b.1.getD i 0=y at *;have h0:(0:Int)<=i:=by omega
  have hn1:(i:Int)<32:=by omega
  refine bg e1 ?_;refine eW g1 g2 Nat.mul_one Nat.zero_add ?_;refine bw (fun h=>?_) (fun h=>?_)
  ·rw[if_pos (UInt8.lt_iff_toNat_lt.2 (by simpa using h))];refine gon ?_;exact af
  ·rw[if_neg (fun h'=>by have:=UInt8.lt_iff_toNat_lt.1 h';simp at h;omega)]
   refine eW g1 g2 Nat.mul_one Nat.zero_add ?_;refine bw (fun h=>?_) (fun h=>?_)
   ·rename_i h';rw[if_pos (UInt8.lt_iff_toNat_lt.2 (by simpa using h))];refine gon ?_;exact af
   ·rename_i h';rw[if_neg (fun h'=>by have:=UInt8.lt_iff_toNat_lt.1 h';simp at h;omega)];refine ap hw ?_;refine⟨i+1,⟨h1,rfl⟩,by omega,?_⟩;exact adk [] [0,1]
 ·obtain rfl:i=32:=by omega
  rw[Nat.sub_self];refine bh ?_;exact af
theorem IM(a b:Wd):PC Tryz.prog 395 [.agg (wdc a),.agg (wdc b)] (.int .i64 (G6 a b)):=by
 refine PC.fact 6 EI (by simp) puA puA ?_;unfold sB;refine bd ?_;refine gon ?_;refine ay (fun i:Nat=>[(5,.int .i64 ((i:Int)-1))]) (fun _=>[.var (wdc a),.var (wdc b)]) (fun i=>i) (fun i=>i<=4/\G6 a b=BL a b i) 4 ⟨by omega,rfl⟩ ?_ ?_
 ·exact adk [] [0,1]
 rintro i ⟨hi,hn⟩;rw[hn];cases i with
 | zero =>
   refine bh ?_;exact af
 | succ i =>
   have h1:i<4:=by omega
   have e1:((i+1:Nat):Int)-1=(i:Int):=by omega
   have e2:decide ((i:Int) ≥ 0)=true:=ak (by omega);have e3:decide ((0:Int)<=i)=true:=ak (by omega);have hw:IntKind.i64.wrap ((i:Int)-1)=(i:Int)-1:=aK (by omega) (by omega);have g1:=yB a h1;have g2:=yB b h1;have ga:a.1.getD i 0=a.1[i]'(by rw[a.2];exact h1):=by simp[List.getD_eq_getElem?_getD,a.2,h1]
   have gb:b.1.getD i 0=b.1[i]'(by rw[b.2];exact h1):=by simp[List.getD_eq_getElem?_getD,b.2,h1]
   rw[<-ga]at g1;rw[<-gb]at g2;have hs:BL a b (i+1)=if a.1.getD i 0<b.1.getD i 0 then -1 else if b.1.getD i 0<a.1.getD i 0 then 1 else BL a b i:=rfl
   rw[hs];generalize a.1.getD i 0=x at *;generalize b.1.getD i 0=y at *;have h0:(0:Int)<=i:=by omega
   have hn1:(i:Int)<4:=by omega
   rw[e1];refine vX e1 e2 e3 ?_;refine eW g1 g2 Nat.mul_one Nat.zero_add ?_;refine bw (fun h=>?_) (fun h=>?_)
   ·rw[if_pos (by simpa using h)];refine gon ?_;exact af
   ·rw[if_neg (by simpa using h)]
    refine eW g1 g2 Nat.mul_one Nat.zero_add ?_;refine bw (fun h=>?_) (fun h=>?_)
    ·rename_i h';rw[if_pos (by simpa using h)];refine gon ?_;exact af
    ·rename_i h';rw[if_neg (by simpa using h)];refine ap hw ?_;refine⟨i,⟨by omega,rfl⟩,by omega,?_⟩;exact adk [] [0,1]
theorem uB(t:aH)(n:Int)(hb:t.bals.length<=1000000):PC Tryz.prog 112 [.agg (bE t.a),.int .i64 n] (.int .i64 (fJ t n)):=by
 refine PC.fact 7 s7 (by simp) puA puA ?_;unfold lL;refine bd ?_;have c1:=J2 t.bals false hb;unfold fJ;generalize xK t.bals=q at *;obtain⟨q1,q2⟩:=q;dsimp only at c1 ⊢;refine gon ?_;refine bw (fun h=>?_) (fun h=>?_)
 ·rw[if_pos (by simpa using h)];refine gon ?_;exact af
 ·rw [if_neg (by simpa using h)]
  refine gon ?_;refine ai c1 ?_;by_cases h2:q2=0
  ·subst h2
   by_cases h3:4611686018427387904<q1
   ·have e3:=ak h3;rw[if_pos (.inr h3)];refine aE e3 ?_;exact af
   ·have e3:=au h3;rw[if_neg (by simpa using h3)];refine aD e3 ?_;exact af
  ·have e2:(q2 != 0)=true:=by simpa using h2
   rw[if_pos (.inl h2)];refine aE e2 ?_;exact af
theorem D6(t:aH)(hb:t.bals.length<=1000000):PC Tryz.prog 238 [.agg (bE t.a)] (.agg (bE t.a)):=by
 refine PC.fact 3 Aa (by simp) puA puA ?_;unfold pS;refine bd ?_;obtain⟨cp,bals⟩:=t;dsimp only at hb;have b1:(bals.length:Int)*8<=140737488355328:=by omega
 have b2:bals.length<=9223372036854775807:=by omega
 unfold aH.a;refine aO b1 b2 ?_;exact af
theorem IK(a b:Cp):PC Tryz.prog 114 [.agg (cpC a),.agg (cpC b)] (.int .i64 (gh a b)):=by
 refine PC.fact 5 ow (by simp) puA puA ?_;unfold iQ;refine bd ?_;have c1:=IL a.rt b.rt;unfold gh;refine gon ?_;refine bw (fun h=>?_) (fun h=>?_)
 ·rw[if_pos (by simpa using h)]
  refine gon ?_;refine bw (fun h=>?_) (fun h=>?_)
  ·rename_i h';rw[if_pos (by simpa using h)];refine gon ?_;exact af
  ·rename_i h';rw[if_neg (by simpa using h)];refine gon ?_;exact af
 ·rw[if_neg (by simpa using h)];refine gon ?_;refine acT c1 ?_;exact af
theorem mQ(l:List aH)(c:Cp)(hb:l.length<=1000000):PC Tryz.prog 111 [.sl 34 false (rows aH.c l),.agg (cpC c)] (.int .i64 (cS l c)):=by
 refine PC.fact 6 Ab (by simp) puA puA ?_;unfold pT;refine bd ?_;refine gon ?_;refine ay (fun i:Nat=>[(5,.int .i64 i)]) (fun _=>[.var (cpC c)]) (fun i=>l.length-i) (fun i=>i<=l.length/\cS l c=rP (fw (fun i=>decide ((tab l i).cp=c)) (l.length-i) i)) 0 ⟨Nat.zero_le _,rfl⟩ ?_ ?_
 ·exact adk [] [0]
 rintro i ⟨hi,hn⟩;rw[hn];by_cases h1:i<l.length
 ·have e1:decide ((i:Int)<(l.length:Int))=true:=ak (by omega)
  have hgd:(rows aH.c l).getD i []=bE (tab l i).a:=aM (f:=aH.c) default h1;have hw:=ah h1 (by omega);refine bg e1 ?_;refine ap hgd ?_;refine bw (fun h=>?_) (fun h=>?_)
  ·rw[f9 h1 h];refine gon ?_;exact af
  ·rw[fW h1 h];refine ap hw ?_;refine⟨i+1,⟨h1,rfl⟩,by omega,?_⟩;exact adk [] [0]
 ·obtain rfl:i=l.length:=by omega
  have e1:decide ((l.length:Int)<(l.length:Int))=false:=au (by omega);rw[gQ];refine aD e1 ?_;exact af
theorem Ha(l:List aH)(e:Int)(hb:l.length<=1000000):PC Tryz.prog 361 [.sl 34 false (rows aH.c l),.int .u64 e] (.sl 34 false (rows aH.c (eM l e))):=by
 refine PC.fact 7 yL (by simp) puA puA ?_;unfold oI;refine bd ?_;refine gon ?_;refine eY 5 34 ?_;simp only[go_sem];have hl:∀n,(aL (fun i o=>if e<=(tab l i).cp.ep then o++[tab l i]else o) [] n).length<=0+n:=mb (fun i l=>by split<;>simp)
 refine ay (fun i:Nat=>[(6,.int .i64 i),(5,.hs 34 0 0 (aL (fun i o=>if e<=(tab l i).cp.ep then o++[tab l i]else o) [] i).length)]) (fun i=>[.vec 34 (rows aH.c (aL (fun i o=>if e<=(tab l i).cp.ep then o++[tab l i]else o) [] i))]) (fun i=>l.length-i) (fun i=>i<=l.length) 0 (Nat.zero_le _) ?_ ?_
 ·exact adk [] [0]
 intro i hi;by_cases h1:i<l.length
 ·have e1:decide ((i:Int)<(l.length:Int))=true:=ak (by omega)
  have hgd:(rows aH.c l).getD i []=bE (tab l i).a:=aM (f:=aH.c) default h1;have hw:=ah h1 (by omega);have hs:=bH (fun i o=>if e<=(tab l i).cp.ep then o++[tab l i]else o) [] i;have hli:=hl i;generalize aL (fun i o=>if e<=(tab l i).cp.ep then o++[tab l i]else o) [] i=acc at *;have hr:rows aH.c acc++[bE (tab l i).a]=rows aH.c (acc++[tab l i]):=da aH.c acc (tab l i);refine bg e1 ?_;refine ap hgd ?_;refine bw (fun h=>?_) (fun h=>?_)
  ·rw[if_pos (by simpa using h)]at hs;refine cZ hgd hr hw ?_;refine⟨i+1,h1,by omega,?_⟩;rw[hs];exact adk [] [1]
  ·rw[if_neg (by simpa using h)]at hs;refine ap hw ?_;refine⟨i+1,h1,by omega,?_⟩;rw[hs];exact adk [] [0]
 ·obtain rfl:i=l.length:=by omega
  have e1:decide ((l.length:Int)<(l.length:Int))=false:=au (by omega);refine aD e1 ?_;exact af
theorem JB(l:List aH)(c:Cp):∀f i,gR l c f i<=i+f
 |0,i=>Nat.le_refl _
 |f+1,i=>by unfold gR;have:=JB l c f (i+1);split<;>omega
theorem PX(l:List aH)(t:aH)(i:Nat)(hi:i<=l.length)(hb:l.length<=1000000)(ht:t.bals.length<=1000000):Tri Tryz.prog 35 0 (dJ.tl 3) (PQ [.tmp 4] (.sl 34 false (rows aH.c (l.take i++[t]++l.drop i)))) ⟨6,[.sl 34 false (rows aH.c l),.agg (bE t.a),.dead,.ptr 0 0,.sl 0 true [],.int .i64 i],[]⟩ [.var (bE t.a)]:=by
 unfold dJ;refine bd ?_;simp only[ab.tl];have cp:=D6 t ht;have r1:rows aH.c (l.take i)++[bE t.a]=rows aH.c (l.take i++[t]):=da aH.c _ t;have r2:=FX aH.c (l.take i++[t]) (l.drop i);have hm:min i l.length=i:=by omega
 repeat(first|refine bU ?_|simp only[go_sem,qm,ur,List.length_take,List.length_drop,hm])
 refine aC (cp) ?_;have ht2:(l.drop i).take (l.length-i)=l.drop i:=List.take_of_length_le (by simp);repeat(first|refine bU ?_|simp only[go_sem,r1,r2,qm,ur,List.length_take,List.length_drop,hm,ht2])
 refine⟨_,(by first|rfl|exact evd),.inl ?_⟩;refine evg ?_;rw[if_pos (by simp;omega),List.take_of_length_le (by simp;omega)]
theorem Nq(l:List aH)(t:aH)(hb:l.length<=1000000)(ht:t.bals.length<=1000000):PC Tryz.prog 265 [.sl 34 false (rows aH.c l),.agg (bE t.a)] (.sl 34 false (rows aH.c (mg l t))):=by
 have hK:gR l t.cp l.length 0<=l.length:=by have:=JB l t.cp l.length 0;omega
 have tl:=fun i hi=>PX l t i hi hb ht
 unfold mg;dsimp only;refine PC.fact 6 CL (by simp) puA puA ?_;have hc:dJ=.seq dJ.hd (.seq (dJ.tl 1).hd (.seq (dJ.tl 2).hd (dJ.tl 3))):=rfl;rw[hc];clear hc;generalize dJ.tl 3=cT at *;unfold dJ;refine bd ?_;simp only[ab.tl,ab.hd];refine gon ?_;refine ay (fun i:Nat=>[(5,.int .i64 i)]) (fun _=>[.var (bE t.a)]) (fun i=>l.length-i) (fun i=>i<=l.length/\gR l t.cp l.length 0=gR l t.cp (l.length-i) i) 0 ⟨Nat.zero_le _,rfl⟩ ?_ ?_
 ·exact adk [] [0]
 rintro i ⟨hi,hn⟩;rw[hn]at hK ⊢;refine dM ?_;by_cases h1:i<l.length
 ·have e1:=inT h1
  have hw:=ah h1 (by omega);have hgd:(rows aH.c l).getD i []=bE (tab l i).a:=aM (f:=aH.c) default h1;have c1:=IK (tab l i).cp t.cp;obtain⟨f,hf⟩:∃f,l.length-i=f+1:=⟨l.length-i-1,by omega⟩
  have hs:gR l t.cp (l.length-i) i=if gh (tab l i).cp t.cp<0 then gR l t.cp (l.length-(i+1)) (i+1)else i:=by rw[hf,show l.length-(i+1)=f by omega];rfl
  refine aO e1 hgd ?_;refine aC (c1) ?_;refine gon ?_;refine bw (fun h=>?_) (fun h=>?_)
  ·rw[if_pos (by simpa using h)]at hs;rw[hs];refine ap hw ?_;refine⟨i+1,⟨h1,rfl⟩,by omega,?_⟩;exact adk [] [0]
  ·rw[if_neg (by simpa using h)]at hs;rw[hs];refine gon ?_;refine dR ?_ (tl i hi);exact adk [] [0]
 ·obtain rfl:i=l.length:=by omega
  have e1:=inF (l.length);rw[Nat.sub_self]at *;refine aD e1 ?_;refine dR ?_ (tl l.length hi);exact adk [] [0]
theorem O3(l:List aH)(t:aH)(n limit:Int)(hb:l.length<=1000000)(ht:t.bals.length<=1000000):PC Tryz.prog 144 [.sl 34 false (rows aH.c l),.agg (bE t.a),.int .i64 n,.int .i64 limit] (.tup [.sl 34 false (rows aH.c (gu l t n limit).1),.int .i64 (gu l t n limit).2]):=by
 refine PC.fact 11 CN (by simp) puA puA ?_;unfold rv;refine bd ?_;have c1:=uB t n ht;have c2:=mQ l t.cp hb;have c3:=Nq l t hb ht;unfold gu;generalize fJ t n=E at *;generalize cS l t.cp=F at *;generalize mg l t=A at *;refine gon ?_;refine acT c1 ?_;refine bw (fun h=>?_) (fun h=>?_)
 ·rw[if_pos (by simpa using h)];refine gon ?_;exact af
 ·rw [if_neg (by simpa using h)]
  refine gon ?_;refine acT c2 ?_;refine bw (fun h=>?_) (fun h=>?_)
  ·rename_i h';rw[if_pos (by simpa using h)];refine gon ?_;exact af
  ·rename_i h'
   rw[if_neg (by simpa using h)];refine gon ?_;refine bw (fun h=>?_) (fun h=>?_)
   ·rw[if_pos (by simpa using h)];refine gon ?_;exact af
   ·rw[if_neg (by simpa using h)];refine gon ?_;refine acT c3 ?_;exact af
theorem Un(ep:Int)(root:Rt)(l:List Int)(i:Nat)(p:List Vot×Int):(mD ep root l i p).1.length=p.1.length:=by unfold mD;split<;>simp
theorem nM(ep:Int)(root:Rt)(l:List Int)(v:List Vot):∀i,(aL (mD ep root l) (v,0) i).1.length=v.length
 |0=>rfl
 |i+1=>by rw[bH,Un,nM ep root l v i]
theorem IF(v:List Vot)(ep:Int)(root:Rt)(l:List Int)(hv:v.length<=1000000)(hl:l.length<=1000000)(hj:∀j∈l,0<=j/\j<v.length):PC Tryz.prog 258 [.sl 34 false (rows bM v),.int .u64 ep,.agg (rtc root),.sl 1 false (ax .i64 l)] (.tup [.sl 34 false (rows bM (BI v ep root l).1),.int .i64 (BI v ep root l).2]):=by
 refine PC.fact 14 N2 (by simp) puA puA ?_;unfold BF;refine bd ?_;refine gon ?_;unfold BI;refine ay (fun i:Nat=>[(12,.int .i64 i),(11,.int .i64 (aL (mD ep root l) (v,0) i).2)]) (fun i=>[.var (rtc root),.vec 34 (rows bM (aL (mD ep root l) (v,0) i).1)]) (fun i=>l.length-i) (fun i=>i<=l.length) 0 (Nat.zero_le _) ?_ ?_
 ·exact adk [] [0,1]
 intro i hi;refine dM ?_;by_cases h1:i<l.length
 ·have e1:=inT h1
  have hw:=ah h1 (by omega);have hgd:=gdn (k:=.i64) h1;have hm:l.getD i 0∈l:=by rw[List.getD_eq_getElem?_getD,List.getElem?_eq_getElem h1];exact List.getElem_mem h1
  obtain⟨j0,j1⟩:=hj _ hm;have hs:=bH (mD ep root l) (v,0) i;have hlen:=nM ep root l v i;generalize aL (mD ep root l) (v,0) i=p at *;obtain⟨u,n⟩:=p;dsimp only at hlen;have h3:(l.getD i 0).toNat<u.length:=by omega
  have hgu:(rows bM u).getD (l.getD i 0).toNat []=bM (vot u (l.getD i 0).toNat):=aM (f:=bM) fg h3;have hc:mD ep root l i (u,n)=if (vot u (l.getD i 0).toNat).has=false\/(vot u (l.getD i 0).toNat).ep<ep then (u.set (l.getD i 0).toNat ⟨true,ep,root⟩,IntKind.i64.wrap (n+1))else (u,n):=rfl
  generalize hx:vot u (l.getD i 0).toNat=x at *;generalize l.getD i 0=j at *;have hset:=zj bM u j.toNat ⟨true,ep,root⟩;dsimp only;refine vX e1 hgd Nat.mul_one ?_;obtain⟨xh,xe,xr⟩:=x;dsimp only at hc;cases xh with
  | false =>
    rw[if_pos (.inl rfl)]at hc;refine vX hgd Nat.mul_one hgu ?_;refine eO hgd Nat.mul_one hgu hset hw ?_;refine⟨i+1,h1,by omega,?_⟩;rw[hs,hc];exact adk [] [0,1]
  | true =>
    by_cases hx2:xe<ep
    ·have e2:=ak hx2;rw[if_pos (.inr hx2)]at hc;refine I4 hgd Nat.mul_one hgu e2 ?_;refine eO hgd Nat.mul_one hgu hset hw ?_;refine⟨i+1,h1,by omega,?_⟩;rw[hs,hc];exact adk [] [0,1]
    ·have e2:=au hx2;rw[if_neg (by simp[hx2])]at hc;refine BS hgd Nat.mul_one hgu e2 ?_;refine ap hw ?_;refine⟨i+1,h1,by omega,?_⟩;rw[hs,hc];exact adk [] [0,1]
 ·obtain rfl:i=l.length:=by omega
  have e1:=inF (l.length);have hlen:=nM ep root l v l.length;refine aD e1 ?_;refine⟨_,(by first|rfl|exact evd),.inl ?_⟩;refine evg ?_;rw[hlen,if_pos (Nat.le_refl _),List.take_of_length_le (by simp[hlen])]
def oz(l:List Int)(i:Nat)(o:List Int):List Int:=jj o (l.getD i 0)
def mV(set l:List Int):List Int:=aL (oz l) set l.length
theorem Ds(set l:List Int):∀i,(aL (oz l) set i).length<=set.length+i
 |0=>Nat.le_refl _
 |i+1=>by rw[bH];have:=Oq (aL (oz l) set i) (l.getD i 0);have:=Ds set l i;unfold oz at *;omega
theorem O0(set l:List Int)(hb:set.length+l.length<=1000000):PC Tryz.prog 138 [.sl 1 false (ax .i64 set),.sl 1 false (ax .i64 l)] (.tup [.sl 1 false (ax .i64 (mV set l)),.int .i64 (IntKind.i64.wrap ((mV set l).length-set.length))]):=by
 refine PC.fact 8 HA (by simp) puA puA ?_;unfold vK;refine bd ?_;unfold mV;refine gon ?_;refine ay (fun i:Nat=>[(7,.int .i64 i),(6,.sl 1 false (ax .i64 (aL (oz l) set i)))]) (fun i=>[]) (fun i=>l.length-i) (fun i=>i<=l.length) 0 (Nat.zero_le _) ?_ ?_
 ·exact adk [0] []
 intro i hi;refine dM ?_;by_cases h1:i<l.length
 ·have e1:=inT h1;have hw:=ah h1 (by omega);have hgd:=gdn (k:=.i64) h1;have hs:=bH (oz l) set i;have hlen:=Ds set l i;have c1:=Ow (aL (oz l) set i) (l.getD i 0) (by omega);unfold oz at hs;rw[show jj (aL (oz l) set i) (l.getD i 0)=aL (oz l) set (i+1)from rfl]at c1;refine bg e1 ?_;refine aO hgd Nat.mul_one ?_;refine ai c1 ?_;refine ap hw ?_;refine⟨i+1,h1,by omega,?_⟩;exact adk [] []
 ·obtain rfl:i=l.length:=by omega
  have e1:=inF (l.length);refine aD e1 ?_;exact af
def wtS(latest:List Vot)(eqv bals:List Int)(roots:List Rt)(i:Nat)(n:Int):Int:=if (vot latest i).has=true/\(i:Int)∉eqv/\(vot latest i).root∈roots then IntKind.u64.wrap (n+bals.getD i 0)else n
theorem PS (latest : List Vot) (eqv bals : List Int) (roots : List Rt) (h1 : latest.length <= 1000000) (h2 : eqv.length <= 1000000) (h3 : bals.length <= 1000000) (h4 : roots.length <= 1000000) : PC Tryz.prog 121 [.agg [.sl 34 false (rows bM latest), .sl 1 false (ax .i64 eqv)], .sl 1 false (ax .u64 bals), .sl 32 true (rows rtc roots)] (.int .u64 (o8 latest eqv bals roots)) := by
 refine PC.fact 9 HB (by simp) puA puA ?_;unfold vL;refine bd ?_;show Tri _ _ _ _ (PQ _ (.int .u64 (aL (wtS latest eqv bals roots) 0 (min bals.length latest.length)))) _ _
 refine gon ?_;refine ay (fun i:Nat=>[(8,.int .i64 i),(7,.int .u64 (aL (wtS latest eqv bals roots) 0 i))]) (fun i=>[.var [.sl 34 false (rows bM latest),.sl 1 false (ax .i64 eqv)]]) (fun i=>bals.length-i) (fun i=>i<=min bals.length latest.length) 0 (Nat.zero_le _) ?_ ?_
 ·exact adk [] [0]
 intro i hi;(try simp only[db,cV,List.set_cons_zero,List.set_cons_succ])
 by_cases q1:i<bals.length
 ·have e1 : decide ((i : Int) < ((bals.length : Nat) : Int)) = true := ak (by omega)
  by_cases q2:i<latest.length
  ·have e2:decide ((i:Int)<((latest.length:Nat):Int))=true:=ak (by omega)
   have hw:=ah q1 (by omega);have hs:=bH (wtS latest eqv bals roots) 0 i;have hgl:=aM (f:=bM) fg q2;have hgb:=gdn (k:=.u64) q1;have c1:=tm eqv false (i:Int) (by omega);have c2:=G7 roots true (vot latest i).root h4;generalize aL (wtS latest eqv bals roots) 0 i=n at *;have hc:wtS latest eqv bals roots i n=if (vot latest i).has=true/\(i:Int)∉eqv/\(vot latest i).root∈roots then IntKind.u64.wrap (n+bals.getD i 0)else n:=rfl
   generalize bals.getD i 0=b at *;change (rows bM latest).getD i []=bM (vot latest i)at hgl
   generalize vot latest i=x at *;obtain⟨xh,xe,xr⟩:=x;dsimp only at hc c2;refine im e1 e2 ?_;cases xh with
   | false =>
     rw[if_neg (by simp)]at hc;refine aQ hgl ?_;refine ap hw ?_;refine⟨i+1,by omega,by omega,?_⟩;rw[hs,hc];exact adk [] [0]
   | true =>
     refine ap hgl ?_;refine ai c1 ?_;by_cases q3:(i:Int)∈eqv
     ·rw[if_neg (by simp[q3])]at hc;rw[ak q3];refine aQ hgl ?_;refine ap hw ?_;refine⟨i+1,by omega,by omega,?_⟩;rw[hs,hc];exact adk [] [0]
     ·rw[au q3]
      refine ap hgl ?_;refine ai c2 ?_;by_cases q4:xr∈roots
      ·rw[if_pos ⟨rfl,q3,q4⟩]at hc;rw[ak q4];refine im hgb Nat.mul_one ?_;refine cZ hw hgb Nat.mul_one ?_;refine⟨i+1,by omega,by omega,?_⟩;rw[hs,hc];exact adk [] [0]
      ·rw[if_neg (by simp[q4])]at hc;rw[au q4];refine dD hgb Nat.mul_one ?_;refine ap hw ?_;refine⟨i+1,by omega,by omega,?_⟩;rw[hs,hc];exact adk [] [0]
  ·have e2:decide ((i:Int)<((latest.length:Nat):Int))=false:=au (by omega);obtain rfl:i=min bals.length latest.length:=by omega
   refine eC e1 e2 ?_;exact af
 ·have e1:decide ((i:Int)<((bals.length:Nat):Int))=false:=au (by omega);obtain rfl:i=min bals.length latest.length:=by omega
  refine aD e1 ?_;exact af
end Go.Proofs.YtnjdpnfglgcjcaaGreat
