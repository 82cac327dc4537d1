/- Joined. -/
import Derived.Test.YtmpddimhleianaaGreatV1
import Derived.Test.YtmpddimhleianaaGreatW3
import Derived.Test.YtmpddimhleianaaGreatW4
import Derived.Test.YtmpddimhleianaaGreatW5
set_option linter.unusedVariables false
set_option linter.unusedSimpArgs false
set_option maxRecDepth 8000
set_option maxHeartbeats 4000000
namespace Go.Proofs.YtmpddimhleianaaGreat
open Go Go.FH Go.RowKit
theorem HX(l:List Int)(cl:Bool)(v:Int)(hb:l.length<=140737488355328):PC Tryz.prog 64 [.sl 1 cl (aH .i64 l),.int .i64 v] (.bool (decide (v∈l))):=by
 refine PC.fact 6 Uh WM ⟨bE _ _,trivial,trivial⟩ trivial ?_;unfold Hb;refine bd ?_;refine gon ?_;refine gM (fun i:Nat=>⟨6,[.sl 1 cl (aH .i64 l),.int .i64 v,.dead,.dead,.bool false,.int .i64 i],[]⟩) (fun _=>[]) (fun i=>l.length-i) (fun i=>i<=l.length/\v∉l.take i) [] 0 ⟨WL,WM⟩ evd rfl ?_;rintro i ⟨hi,hv⟩;try dsimp only
 refine gon ?_;refine aY evd (fun h=>?_) (fun h=>?_)
 ·have h1:i<l.length:=by simp at h;omega
  have hg:=fF (k:=.i64) h1;have hw:=af h1 WL;have e0:l[i]=l.getD i 0:=by rw[alt,al6 h1];rfl
  refine aZ hg amv ?_;refine aY evd (fun h=>?_) (fun h=>?_)
  ·have e1:l.getD i 0=v:=by simpa using h
   have hm:v∈l:=by rw[<-e1,<-e0];exact amS h1
   rw[au hm];refine gon ?_;exact ai
  ·have e1:l.getD i 0≠v:=by simpa using h
   refine ah hw ?_;refine⟨i+1,⟨h1,?_⟩,WL,rfl⟩;rw[amY,al6 h1];simp only[ak1,amm,amn,not_or];exact⟨hv,by rw[e0];exact fun e=>e1 e.symm⟩
 ·have h1:i=l.length:=by simp at h;omega
  subst h1;rw[ajp]at hv;rw[aA hv];refine gon ?_;exact ai
theorem Ke(k:IntKind)(l:List Int)(i:Nat):(aH k l).take i=aH k (l.take i):=by simp[aH]
theorem tN(k:IntKind)(l:List Int)(i:Nat):(aH k l).drop i=aH k (l.drop i):=by simp[aH]
theorem kP(k:IntKind)(l m:List Int):aH k l++aH k m=aH k (l++m):=by simp[aH]
theorem OF(k:IntKind)(v:Int):[[AV.int k v]]=aH k [v]:=rfl
def pX:List Int->Int->List Int
 | [],v=>[v]
 |a::r,v=>if a<v then a::pX r v else if a=v then a::r else v::a::r
theorem MI:∀ (l:List Int) (v:Int) (i:Nat),i<=l.length->(∀j,j<i->l.getD j 0<v)->(∀_:i<l.length,¬l.getD i 0<v)->pX l v=if i<l.length/\l.getD i 0=v then l else l.take i++[v]++l.drop i
 | [], v, i, hi, h1, h2 => by
   have:i=0:=by simpa using hi
   subst this;simp[pX]
 | a :: r, v, 0, hi, h1, h2 => by
   have h3:¬a<v:=by simpa using h2 WM
   simp only[pX,al5 h3];by_cases h4:a=v
   ·simp[h4]
   ·simp[h4]
 | a :: r, v, i + 1, hi, h1, h2 => by
   have h3:a<v:=by simpa using h1 0 WL
   have ih:=MI r v i (by simpa using hi) (fun j hj=>by simpa using h1 (j+1) WL) (fun hlt=>by simpa using h2 (by simpa using hlt));simp only[pX,al7 h3,ih];by_cases h4:i<r.length/\r.getD i 0=v
   ·rw[al7 h4,al7 (by simpa using h4)]
   ·rw[al5 h4,al5 (by simpa using h4)];simp
theorem Ry(l:List Int)(v:Int):(pX l v).length<=l.length+1:=by
 induction l with
 |nil=>simp[pX]
 | cons a r ih =>
   unfold pX;split
   ·simp;omega
   ·split<;>simp
theorem OB(l:List Int)(v:Int)(hb:l.length<=2097152):PC Tryz.prog 296 [.sl 1 false (aH .i64 l),.int .i64 v] (.sl 1 false (aH .i64 (pX l v))):=by
 refine PC.fact 6 II WM ⟨bE _ _,trivial,trivial⟩ (bE _ _) ?_;unfold MT;refine bd ?_;refine gon ?_;refine gM (fun i:Nat=>⟨6,[.sl 1 false (aH .i64 l),.int .i64 v,.dead,.dead,.sl 0 true [],.int .i64 i],[]⟩) (fun _=>[]) (fun i=>l.length-i) (fun i=>i<=l.length/\∀j,j<i->l.getD j 0<v) [] 0 ⟨WL,fun j hj=>WL⟩ evd rfl ?_;rintro i ⟨hi,hv⟩;try dsimp only
 have fin:(∀_:i<l.length,¬l.getD i 0<v)->True:=fun _=>trivial
 by_cases h1:i<l.length
 ·have hg:=fF (k:=.i64) h1
  have hw:=af h1 WL;have e1:decide ((i:Int)<(l.length:Int))=true:=au WL;by_cases h2:l.getD i 0<v
  ·have e2:=au h2;refine U6 e1 hg amv e2 ?_;refine ah hw ?_;refine⟨i+1,⟨h1,fun j hj=>?_⟩,WL,rfl⟩;by_cases e:j=i
   ·subst e;exact h2
   ·exact hv j WL
  ·have e2:=aA h2
   rw[MI l v i hi hv (fun _=>h2)];refine OA e1 hg amv e2 ?_;by_cases h3:l.getD i 0=v
   ·have e3:(l.getD i 0==v)=true:=by rw[am0];exact h3
    rw[al7 ⟨h1,h3⟩];refine nC e1 hg amv e3 ?_;exact ai
   ·have e3:(l.getD i 0==v)=false:=by rw[<-amZ,am0];exact h3
    rw[al5 (fun h=>h3 h.2)];refine OA e1 hg amv e3 ?_;have d1:(l.drop i).take (l.length-i)=l.drop i:=amf WM;refine eU Ke tN d1 OF kP ?_;exact ai
 ·have hl:i=l.length:=WL
  subst hl;have e1:decide ((l.length:Int)<(l.length:Int))=false:=aA WL;rw[MI l v l.length hi hv (fun h=>WL),al5 (fun h=>WL),ajp,amB,amo];refine bJ e1 ?_;refine bJ e1 ?_;refine pz Ke tN OF kP ?_;exact ai
def kr(l m:List Int)(i:Nat):List Int:=(l.take i).foldl (fun a v=>if v∈m then pX a v else a) []
theorem DG{l m:List Int}{i:Nat}(h:i<l.length):kr l m (i+1)=if l.getD i 0∈m then pX (kr l m i) (l.getD i 0)else kr l m i:=by
 have e0:l[i]=l.getD i 0:=by rw[alt,al6 h];rfl
 unfold kr;rw[amY,al6 h,ak1,Wu,akY,WK,e0]
theorem rO(l m:List Int):∀i,(kr l m i).length<=i
 |0=>by simp[kr]
 | i + 1 => by
   have ih:=rO l m i;by_cases h:i<l.length
   ·rw[DG h];split
    ·have:=Ry (kr l m i) (l.getD i 0);omega
    ·omega
   ·have:kr l m (i+1)=kr l m i:=by unfold kr;rw[amf WL,amf WL]
    rw[this];omega
theorem vO(x:Slg)(l m:List Int)(c d:Bool)(hx:x.fst.vals=.sl 1 c (aH .i64 l))(hy:x.snd.vals=.sl 1 d (aH .i64 m))(hl:l.length<=100)(hm:m.length<=100):
 PC Tryz.prog 213 [.agg (d7 x)] (.sl 1 false (aH .i64 (kr l m l.length))):=by
 obtain⟨⟨a1,a2,r1,v1⟩,⟨b1,b2,r2,v2⟩⟩:=x;dsimp only at hx hy;subst hx hy;have hp:PuL (d7 ⟨⟨a1,a2,r1,.sl 1 c (aH .i64 l)⟩,⟨b1,b2,r2,.sl 1 d (aH .i64 m)⟩⟩):=(j7 _).2 ⟨bE _ _,bE _ _⟩;refine PC.fact 5 ve WM ⟨hp,trivial⟩ (bE _ _) ?_;unfold ou;refine bd ?_;refine gon ?_
 refine eZ (fun i:Nat×Bool=>⟨5,[.agg (d7 ⟨⟨a1,a2,r1,.sl 1 c (aH .i64 l)⟩,⟨b1,b2,r2,.sl 1 d (aH .i64 m)⟩⟩),.ptr 0 0,.sl 0 true [],if i.2 then .sl 1 false (aH .i64 (kr l m i.1))else .sl 0 true [],.int .i64 i.1],[]⟩) (fun _=>[.var (d7 ⟨⟨a1,a2,r1,.sl 1 c (aH .i64 l)⟩,⟨b1,b2,r2,.sl 1 d (aH .i64 m)⟩⟩)]) (fun i=>l.length-i.1) (fun i=>i.1<=l.length/\(i.2=false->kr l m i.1=[])) (0,false) ⟨by dsimp only;omega,fun _=>rfl⟩ ?_ ?_
 ·simp only[ame,amj];exact ais [] [0]
 rintro⟨i,b⟩ ⟨hi,hb⟩;dsimp only at hi hb ⊢;by_cases h1:i<l.length
 case neg=>
  have e1:decide ((i:Int)<(l.length:Int))=false:=aA WL;obtain rfl:i=l.length:=WL
  refine bJ e1 ?_;cases b with
  | true =>
    simp only[amt];refine gon ?_;exact ai
  | false =>
    rw[hb rfl];simp only[ame,amj];refine gon ?_;refine⟨_,by first|rfl|exact evd,.inr ⟨.sl 0 true [],evd,trivial,Wk.empty _ _ _⟩⟩
 have e1:decide ((i:Int)<(l.length:Int))=true:=au WL;have hgd:=fF (k:=.i64) h1;have hw:=af h1 WL;have hr:=HX m d (l.getD i 0) WL;have hcl:=rO l m i;refine HV e1 hgd amv ?_;refine aZ hgd amv ?_;refine aK (hr) ?_;refine gon ?_;by_cases h2:l.getD i 0∈m
 ·rw[au h2]
  refine ax ?_;have hs:kr l m (i+1)=pX (kr l m i) (l.getD i 0):=by rw[DG h1,al7 h2]
  have hc:=OB (kr l m i) (l.getD i 0) WL;rw[<-hs]at hc;cases b with
  | true =>
    simp only[amt];refine aZ hgd amv ?_;refine am hc ?_;refine ah hw ?_;refine⟨(i+1,true),⟨by dsimp only;omega,fun h=>(by cases h)⟩,by dsimp only;omega,?_⟩;simp only[amt];exact ais [] [0]
  | false =>
    rw[hb rfl]at hc;simp only[ame,amj];refine aZ hgd amv ?_;refine pG (hc) (by repeat(first|exact trivial|(refine⟨Wk.refl _,?_⟩)|(refine⟨Wk.empty 0 1 _,?_⟩))) (by simp[PuL,Pu,fy,iV,bE]) ?_;refine ah hw ?_;refine⟨(i+1,true),⟨by dsimp only;omega,fun h=>(by cases h)⟩,by dsimp only;omega,?_⟩;simp only[amt];exact ais [] [0]
 ·rw[aA h2]
  refine aB ?_;have hs:kr l m (i+1)=kr l m i:=by rw[DG h1,al5 h2]
  refine ah hw ?_;refine⟨(i+1,b),⟨by dsimp only;omega,fun h=>(by dsimp only;rw[hs];exact hb h)⟩,by dsimp only;omega,?_⟩;dsimp only;rw[hs];cases b
  ·simp only[ame,amj];exact ais [] [0]
  ·simp only[amt];exact ais [] [0]
def sur(a b:Clm):Bool:=decide (a.src<b.src)&&decide (b.tgt<a.tgt)
def dbl(a b:Clm):Bool:=(a.tgt==b.tgt)&&((a.src != b.src) || !decide (a.root=b.root))
def slb(a b:Clm):Bool:=dbl a b || sur a b || sur b a
theorem vh(a b:Clm)(ha:a.good=true)(hb:b.good=true)(pa:a.Pure)(pb:b.Pure):PC Tryz.prog 295 [.agg (du a),.agg (du b)] (.bool (slb a b)):=by
 refine PC.fact 8 tQ WM ⟨(re a).2 pa,(re b).2 pb,trivial⟩ trivial ?_;have hc:aR=.seq aR.hd (.seq (aR.tl 1).hd (.seq (aR.tl 2).hd (.seq (aR.tl 3).hd (aR.tl 4)))):=rfl
 -- the last part: three results joined
 have t4:∀ (D s1 s2:Bool) (ts:List (Nat×AV)),Tri Tryz.prog 58 0 (aR.tl 4) (PQ [.tmp 4] (.bool (D || s1 || s2))) ⟨8,[.agg (du a),.agg (du b),.ptr 0 0,.ptr 1 0,.bool false,.bool D,.bool s1,.bool s2],ts⟩ [.var (du a),.var (du b)]:=by
  intro D s1 s2 ts;unfold aR;refine bd ?_;simp only[ab.tl];cases D
  ·cases s1
   ·refine gon ?_;exact ai
   ·refine gon ?_;exact ai
  ·refine gon ?_;exact ai
 have t3:∀ (D s1:Bool) (ts:List (Nat×AV)),Tri Tryz.prog 58 0 (.seq (aR.tl 3).hd (aR.tl 4)) (PQ [.tmp 4] (.bool (D || s1 || sur b a))) ⟨8,[.agg (du a),.agg (du b),.ptr 0 0,.ptr 1 0,.bool false,.bool D,.bool s1,.dead],ts⟩ [.var (du a),.var (du b)]:=by
  intro D s1 ts;generalize aR.tl 4=cT at *;unfold aR sur;refine bd ?_;simp only[ab.tl,ab.hd];cases e1:decide (b.src<a.src)with
  | false =>
    refine ah e1 ?_;exact t4 _ _ _ _
  | true =>
    refine ah e1 ?_;exact t4 _ _ _ _
 have t2:∀ (D:Bool) (ts:List (Nat×AV)),Tri Tryz.prog 58 0 (.seq (aR.tl 2).hd (.seq (aR.tl 3).hd (aR.tl 4))) (PQ [.tmp 4] (.bool (D || sur a b || sur b a))) ⟨8,[.agg (du a),.agg (du b),.ptr 0 0,.ptr 1 0,.bool false,.bool D,.dead,.dead],ts⟩ [.var (du a),.var (du b)]:=by
  intro D ts;clear t4;generalize ab.seq (aR.tl 3).hd (aR.tl 4)=cT at *;have t3':=fun s1=>t3 D s1
  clear t3;generalize sur b a=s2 at *;unfold aR sur;refine bd ?_;simp only[ab.tl,ab.hd];cases e1:decide (a.src<b.src)with
  | false =>
    refine ah e1 ?_;exact t3' _ _
  | true =>
    refine ah e1 ?_;exact t3' _ _
 clear t3 t4;rw[hc];clear hc;generalize ab.seq (aR.tl 2).hd (.seq (aR.tl 3).hd (aR.tl 4))=cT at *;unfold aR slb;refine bd ?_;generalize sur a b=s1 at *;generalize sur b a=s2 at *;unfold dbl;simp only[ab.tl,ab.hd];cases e1:(a.tgt==b.tgt)with
 | false =>
   refine dC ha hb e1 ?_;exact t2 _ _
 | true =>
   cases e2:(a.src != b.src)with
   | true =>
     refine pz ha hb e1 e2 ?_;exact t2 _ _
   | false =>
     refine pz ha hb e1 e2 ?_;exact t2 _ _
def evE(x:Slg)(l m:List Int)(n:Int):Int:=
 if cE l n≠0 then cE l n else if cE m n≠0 then cE m n else if x.fst.tgt<x.fst.src\/x.snd.tgt<x.snd.src then 2
 else if slb x.fst x.snd=false\/kr l m l.length=[]then 20 else 0
theorem CT(x:Slg)(l m:List Int)(c d:Bool)(n:Int)(hx:x.fst.vals=.sl 1 c (aH .i64 l))(hy:x.snd.vals=.sl 1 d (aH .i64 m))(hl:l.length<=100)(hm:m.length<=100):
 PC Tryz.prog 211 [.agg (d7 x),.int .i64 n] (.int .i64 (evE x l m n)):=by
 obtain⟨⟨a1,a2,r1,v1⟩,⟨b1,b2,r2,v2⟩⟩:=x;dsimp only at hx hy;subst hx hy;have cu:=vO ⟨⟨a1,a2,r1,.sl 1 c (aH .i64 l)⟩,⟨b1,b2,r2,.sl 1 d (aH .i64 m)⟩⟩ l m c d rfl rfl hl hm;have sl:=vh ⟨a1,a2,r1,.sl 1 c (aH .i64 l)⟩ ⟨b1,b2,r2,.sl 1 d (aH .i64 m)⟩ rfl rfl (bE _ _) (bE _ _);have w1:=gl l c n WL;have w2:=gl m d n WL;refine PC.fact 7 ni WM ⟨(j7 _).2 ⟨bE _ _,bE _ _⟩,trivial,trivial⟩ trivial ?_;unfold kv evE;refine bd ?_;(try dsimp only)
 generalize slb ⟨a1,a2,r1,.sl 1 c (aH .i64 l)⟩ ⟨b1,b2,r2,.sl 1 d (aH .i64 m)⟩=S at *;generalize kr l m l.length=R at *;by_cases q1:cE l n=0
 case neg=>
  have e1:(cE l n != 0)=true:=by rw[alf];exact q1
  rw[al7 q1];refine gon ?_;refine am w1 ?_;refine aM e1 ?_;exact ai
 rw[al5 (fun h=>h q1)];rw[q1]at w1;by_cases q2:cE m n=0
 case neg=>
  have e1:(cE m n != 0)=true:=by rw[alf];exact q2
  rw[al7 q2];refine gon ?_;refine am w1 ?_;refine bk ?_;refine am w2 ?_;refine aM e1 ?_;exact ai
 rw[al5 (fun h=>h q2)];rw[q2]at w2;refine gon ?_;refine am w1 ?_;refine bk ?_;refine am w2 ?_;refine dQ ?_;by_cases q3:a2<a1
 ·have e3:=au q3;rw[al7 (.inl q3)];refine aM e3 ?_;exact ai
 have e3:=aA q3;by_cases q4:b2<b1
 ·have e4:=au q4;rw[al7 (.inr q4)];repeat(first|refine bY ?_|simp only[go_sem,e3,e4])
  refine agF ?_;exact ai
 have e4:=aA q4;rw[al5 (fun h=>h.elim q3 q4)];repeat(first|refine bY ?_|simp only[go_sem,e3,e4])
 refine agE ?_;refine am sl ?_;cases S with
 | false =>
   rw[al7 (.inl rfl)];refine aX ?_;exact ai
 | true =>
   refine gon ?_;refine am cu ?_;by_cases q5:R=[]
   ·subst q5;rw[al7 rfl];refine aX ?_;exact ai
   ·have e5:((R.length:Int)==0)=false:=by
     rw[<-amZ,am0];have:=ajX.2 q5;omega
    rw[al5 (by simp[q5])];repeat(first|refine bY ?_|simp only[go_sem,e5])
    refine agE ?_;exact ai
def LM(z:Int):UInt8:=UInt8.ofNat (IntKind.u8.wrap z).toNat
theorem vQ(z:Int):IntKind.u8.wrap z=((LM z).toNat:Int):=by
 have h:0<=IntKind.u8.wrap z/\IntKind.u8.wrap z<256:=by rw[IntKind.wrap_u8];omega
 unfold LM;rw[aj1,Nat.mod_eq_of_lt WL];omega
theorem Ci(x m:Int)(h0:0<=m)(hm:m<9223372036854775808):∃r:Nat,lI .i64 x m=r/\(r:Int)<=m:=by
 unfold lI
 have h:(BitVec.ofInt IntKind.i64.bits x &&& BitVec.ofInt IntKind.i64.bits m).toNat<=m.toNat:=by
  rw[alc];refine ams WE ?_;rw[BitVec.toNat_ofInt];show (m % ((2 ^ 64:Nat):Int)).toNat<=m.toNat
  omega
 generalize (BitVec.ofInt IntKind.i64.bits x &&& BitVec.ofInt IntKind.i64.bits m).toNat=r at *;exact⟨r,aL WL WL,WL⟩
def zk(n:Int):Rt:=((rt0.set 0 (LM n)).set 1 (LM (fJ .i64 n 8))).set 31 (LM (IntKind.i64.wrap (n*7)))
theorem ig(n:Int):PC Tryz.prog 35 [.int .i64 n] (.agg (rtc (zk n))):=by
 refine PC.fact 3 QZ WM ⟨trivial,trivial⟩ ((dI _)) ?_;unfold EQ zk;refine bd ?_;have h0:=vQ n;have h1:=vQ (fJ .i64 n 8);have h2:=vQ (IntKind.i64.wrap (n*7));generalize LM n=b0 at *;generalize LM (fJ .i64 n 8)=b1 at *;generalize LM (IntKind.i64.wrap (n*7))=b2 at *;have s0:∀ (r:Rt) (b:UInt8),spl (rtc r) 0 [.int .u8 (b.toNat:Int)]=rtc (r.set 0 b):=fun r b=>CU r WN b
 have s1:∀ (r:Rt) (b:UInt8),spl (rtc r) 1 [.int .u8 (b.toNat:Int)]=rtc (r.set 1 b):=fun r b=>CU r WN b
 have s2:∀ (r:Rt) (b:UInt8),spl (rtc r) 31 [.int .u8 (b.toNat:Int)]=rtc (r.set 31 b):=fun r b=>CU r WN b
 repeat(first|refine bY ?_|simp only[go_sem,h0,h1,h2,s0,s1,s2])
 exact ai
def kc(bits:Int)(i:Nat):List Int:=((List.range i).filter fun j=>lI .i64 (fJ .i64 bits j) 1==1).map Int.ofNat
theorem FK(bits:Int)(i:Nat):kc bits (i+1)=if (lI .i64 (fJ .i64 bits i) 1==1)=true then kc bits i++[(i:Int)]else kc bits i:=by
 unfold kc;rw[ake,alw,amN];by_cases h:(lI .i64 (fJ .i64 bits i) 1==1)=true
 ·rw[al7 h];simp[h]
 ·rw[al5 h];simp[h]
theorem qk(bits:Int)(i:Nat):(kc bits i).length<=i:=by
 unfold kc;rw[akn];exact ams (alR _ _) WM
def zb(n:Nat)(bits:Int):List Int:=if kc bits n=[]/\0<n then [0]else kc bits n
theorem zc(n:Nat)(bits:Int):(zb n bits).length<=n:=by
 unfold zb;split
 ·rename_i h;simp;omega
 ·exact qk bits n
theorem zr(n:Nat)(bits:Int)(hn:n<=2097152):PC Tryz.prog 99 [.int .i64 n,.int .i64 bits] (.sl 1 false (aH .i64 (zb n bits))):=by
 refine PC.fact 7 pl WM ⟨trivial,trivial,trivial⟩ (bE _ _) ?_;unfold dm;refine bd ?_;refine gon ?_;refine eZ (fun x:Nat×Bool=>⟨7,[.int .i64 n,.int .i64 bits,.dead,.dead,.sl 0 true [],if x.2 then .hs 1 0 0 (kc bits x.1).length else .sl 0 true [],.int .i64 x.1],[]⟩) (fun x=>if x.2 then [.vec 1 (aH .i64 (kc bits x.1))]else []) (fun x=>n-x.1) (fun x=>x.1<=n/\(x.2=false->kc bits x.1=[])) (0,false) ⟨amc _,fun _=>rfl⟩ ?_ ?_
 ·simp only[ame,amj];exact ais [] []
 rintro⟨i,b⟩ ⟨hi,hb⟩;dsimp only at hi hb ⊢;have hlen:=qk bits i;by_cases h1:i<n
 ·have e1:decide ((i:Int)<(n:Int))=true:=au WL
  have hw:=af h1 WL;have hu:IntKind.u64.wrap (i:Int)=(i:Int):=aN WL WL;have hs:=FK bits i;cases hq:(lI .i64 (fJ .i64 bits i) 1==1)with
  | true =>
    rw[hq,al7 rfl]at hs;have hnum:∀l:List Int,aH .i64 l++[[.int .i64 (i:Int)]]=aH .i64 (l++[(i:Int)]):=fun l=>kP .i64 l [(i:Int)]
    cases b with
    | true =>
      simp only[amt];refine bw e1 ?_;refine mQ hu hq ?_;refine aZ hw hnum ?_;refine⟨(i+1,true),⟨h1,fun h=>(by cases h)⟩,by dsimp only;omega,?_⟩;simp only[amt,hs,akC,al8,ama,amO];exact ais [] [1]
    | false =>
      have h0:=hb rfl;rw[h0]at hs;simp only[ame,amj];refine bw e1 ?_;refine mQ hu hq ?_;refine ah hw ?_;refine⟨(i+1,true),⟨h1,fun h=>(by cases h)⟩,by dsimp only;omega,?_⟩;simp only[amt,hs];exact ais [] [0]
  | false =>
    rw[hq,al5 WM]at hs;cases b with
    | true =>
      simp only[amt];refine bw e1 ?_;refine fp hu hq ?_;refine ah hw ?_;refine⟨(i+1,true),⟨h1,fun h=>(by cases h)⟩,by dsimp only;omega,?_⟩;simp only[amt,hs];exact ais [] [0]
    | false =>
      simp only[ame,amj];refine bw e1 ?_;refine fp hu hq ?_;refine ah hw ?_;refine⟨(i+1,false),⟨h1,fun h=>(by dsimp only;rw[hs];exact hb rfl)⟩,by dsimp only;omega,?_⟩;simp only[ame,amj];exact ais [] []
 have e1:decide ((i:Int)<(n:Int))=false:=aA WL;obtain rfl:i=n:=WL
 have e2:decide ((i:Int) > 0)=decide (0<i):=by rw[ald];omega
 unfold zb;by_cases h0:kc bits i=[]
 ·by_cases hz:0<i
  ·have e3:decide ((i:Int) > 0)=true:=au WL
   rw[al7 ⟨h0,hz⟩];cases b with
   | true =>
     simp only[amt,h0];refine bJ e1 ?_;refine aM e3 ?_;refine⟨_,by first|rfl|exact evd,.inr ⟨.sl 1 true (aH .i64 [0]),evd,bE _ _,Wk.open_ _ _ _⟩⟩
   | false =>
     simp only[ame,amj];refine bJ e1 ?_;refine aM e3 ?_;refine⟨_,by first|rfl|exact evd,.inr ⟨.sl 1 true (aH .i64 [0]),evd,bE _ _,Wk.open_ _ _ _⟩⟩
  ·have e3:decide ((i:Int) > 0)=false:=aA WL
   rw[al5 (fun h=>hz h.2),h0];cases b with
   | true =>
     simp only[amt];refine bJ e1 ?_;refine aF e3 ?_;exact ai
   | false =>
     simp only[ame,amj];refine bJ e1 ?_;refine aF e3 ?_;refine⟨_,by first|rfl|exact evd,.inr ⟨.sl 0 true [],evd,trivial,Wk.empty _ _ _⟩⟩
 ·rw [al5 (fun h => h0 h.1)]
  cases b with
  |false=>exact absurd (hb rfl) h0
  | true =>
    have e3:(((kc bits i).length:Int)==0)=false:=by
     rw[<-amZ,am0];have:=ajX.2 h0;omega
    simp only[amt];refine bJ e1 ?_;refine aF e3 ?_;exact ai
theorem aas(a b:Int):PC Tryz.prog 135 [.int .u64 a,.int .u64 b] (.tup [.int .u64 (FA a b).1,.int .i64 (FA a b).2]):=by
 refine ae 6 ?_;unfold FA;refine gon ?_;refine EB (fun h=>?_) (fun h=>?_)
 ·refine gon ?_;rw[al7 (by simpa using h)];exact ai
 ·refine gon ?_;rw[al5 (by simpa using h)];exact ai
theorem aa1(n:Int):PC Tryz.prog 312 [.int .u64 n] (.bool (vy n)):=by
 refine ae 3 ?_;unfold vy;cases h:decide (1<=n)with
 | true =>
   refine ah h ?_;exact ai
 | false =>
   refine ah h ?_;exact ai
theorem abI(a b:Int):PC Tryz.prog 313 [.int .u64 a,.int .u64 b] (.tup [.int .u64 (Ip a b).1,.int .i64 (Ip a b).2]):=by
 refine ae 6 ?_;unfold Ip;by_cases h0:b=0
 ·subst h0;refine bk ?_;rw[al5 WM];exact ai
 ·have e0:(b != 0)=true:=by simp[h0]
  refine aZ e0 h0 ?_;refine EB (fun h=>?_) (fun h=>?_)
  ·refine gon ?_;rw[al7 (by simpa[h0]using h)];exact ai
  ·refine gon ?_;rw[al5 (by simpa[h0]using h)];exact ai
theorem Vn(e p:Int):PC Tryz.prog 227 [.int .u64 e,.int .u64 p] (.tup [.int .u64 (dk e p).1,.int .i64 (dk e p).2]):=by
 refine ae 6 ?_;unfold dk;have c1:=aa1 p;have c2:=abI e p;refine gon ?_;refine am c1 ?_;cases h:vy p with
 | true =>
   rw[al7 rfl];refine bk ?_;refine ahG c2 ?_;exact ai
 | false =>
   rw[al5 WM];refine aX ?_;exact ai
theorem SZ(l:List Int){i:Nat}(h:(dN l i).2≠0):∀n,i<=n->dN l n=dN l i
 |0,hn=>by rw[show i=0 by omega]
 | n + 1, hn => by
   by_cases he:i=n+1
   ·rw[he]
   ·have:=SZ l h n WL;show (if (dN l n).2≠0 then dN l n else _)=_
    rw[this,al7 h]
theorem aar{a b:Int}(h:(FA a b).2≠0):FA a b=(0,(FA a b).2):=by
 unfold FA at *;split at h
 ·rw[al7 (by assumption)]
 ·exact absurd rfl h
theorem NG(l:List Int)(c:Bool)(hb:l.length<=2097152):PC Tryz.prog 76 [.sl 1 c (aH .u64 l)] (.tup [.int .u64 (EI l).1,.int .i64 (EI l).2]):=by
 refine ae 8 ?_;refine gon ?_;refine az (fun i:Nat=>[(5,.int .i64 i),(4,.int .u64 (dN l i).1)]) (fun _=>[]) (fun i=>l.length-i) (fun i=>i<=l.length/\(dN l i).2=0) 0 ⟨amc _,rfl⟩ ?_ ?_
 ·exact ais [] []
 rintro i ⟨hi,he⟩;by_cases h1:i<l.length
 ·have e1:decide ((i:Int)<(l.length:Int))=true:=au WL
  have hgd:=gdn (k:=.u64) h1;have hw:=af h1 WL;have c1:=aas (dN l i).1 (l.getD i 0);have hs:dN l (i+1)=FA (dN l i).1 (l.getD i 0):=by show (if (dN l i).2≠0 then dN l i else _)=_;rw[al5 (by simp[he])]
  rw[<-hs]at c1;refine bw e1 ?_;refine aZ hgd amv ?_;refine ahG c1 ?_;refine EB (fun h=>?_) (fun h=>?_)
  ·have h':(dN l (i+1)).2≠0:=by simpa using h
   have hE:EI l=dN l (i+1):=SZ l h' _ h1;rw[hE];have h2:=aar (by rw[<-hs];exact h');rw[<-hs]at h2;refine gon ?_;generalize dN l (i+1)=q at *;obtain⟨q1,q2⟩:=q;cases h2;exact ai
  ·have h':(dN l (i+1)).2=0:=by simpa using h
   refine ah hw ?_;refine⟨i+1,⟨h1,h'⟩,WL,?_⟩;exact ais [] []
 ·obtain rfl:i=l.length:=WL
  have e1:decide ((l.length:Int)<(l.length:Int))=false:=aA WL;refine aF e1 ?_;rw[show EI l=dN l l.length from rfl,he];exact ai
theorem J1(l:List Rt)(c:Bool)(r:Rt)(hb:l.length<=2097152):PC Tryz.prog 228 [.sl 32 c (rows rtc l),.agg (rtc r)] (.bool (decide (r∈l))):=by
 refine PC.fact 6 FV WM ⟨(cQ fun x _=>dI x),dI _,trivial⟩ trivial ?_;unfold tL;refine bd ?_;refine gon ?_;refine az (fun i:Nat=>[(5,.int .i64 i)]) (fun _=>[.var (rtc r)]) (fun i=>l.length-i) (fun i=>i<=l.length/\∀j,j<i->l.getD j rt0≠r) 0 ⟨amc _,fun j hj=>WL⟩ ?_ ?_
 ·exact ais [] [0]
 rintro i ⟨hi,hn⟩;by_cases h1:i<l.length
 ·have e1:decide ((i:Int)<(l.length:Int))=true:=au WL
  have hgd:=aS (f:=rtc) rt0 h1;have hw:=af h1 WL;have hm:l.getD i rt0∈l:=by rw[alt,al6 h1];exact amS h1
  refine bw e1 ?_;refine ah hgd ?_;refine EB (fun h=>?_) (fun h=>?_)
  ·have hr:l.getD i rt0=r:=by simpa using h
   subst hr;refine gon ?_;rw[au hm];exact ai
  ·have hr:l.getD i rt0≠r:=by simpa using h
   refine ah hw ?_;refine⟨i+1,⟨h1,fun j hj=>?_⟩,WL,?_⟩
   ·by_cases hji:j=i
    ·rw[hji];exact hr
    ·exact hn j WL
   ·exact ais [] [0]
 ·obtain rfl:i=l.length:=WL
  have e1:decide ((l.length:Int)<(l.length:Int))=false:=aA WL
  have e2:decide (r∈l)=false:=by
   refine aA fun hr=>?_
   obtain⟨j,hj,rfl⟩:=amJ hr;exact hn j hj (by simp[alt,hj])
  rw[e2];refine aF e1 ?_;exact ai
theorem Ms(a b:Rt):PC Tryz.prog 131 [.agg (rtc a),.agg (rtc b)] (.int .i64 (uk a b)):=by
 refine ae 6 ?_;refine gon ?_;refine az (fun i:Nat=>[(5,.int .i64 i)]) (fun _=>[.var (rtc a),.var (rtc b)]) (fun i=>32-i) (fun i=>i<=32/\uk a b=qz a b (32-i) i) 0 ⟨WL,rfl⟩ ?_ ?_
 ·exact ais [] [0,1]
 rintro i ⟨hi,hn⟩;rw[hn];by_cases h1:i<32
 ·have e1:decide ((i:Int)<32)=true:=au WL
  have hw:=af h1 WL;have g1:=Ou a h1;have g2:=Ou b h1;have ga:a.1.getD i 0=a.1[i]'(by rw[a.2];exact h1):=by simp[alt,a.2,h1]
  have gb:b.1.getD i 0=b.1[i]'(by rw[b.2];exact h1):=by simp[alt,b.2,h1]
  rw[<-ga]at g1;rw[<-gb]at g2;obtain⟨f,hf⟩:∃f,32-i=f+1:=⟨31-i,WL⟩
  have hs:qz a b (32-i) i=if a.1.getD i 0<b.1.getD i 0 then -1 else if b.1.getD i 0<a.1.getD i 0 then 1 else qz a b (32-(i+1)) (i+1):=by
   rw[hf,show 32-(i+1)=f by omega];rfl
  rw[hs];generalize a.1.getD i 0=x at *;generalize b.1.getD i 0=y at *;have h0:(0:Int)<=i:=WL
  have hn1:(i:Int)<32:=WL
  refine bw e1 ?_;refine pz g1 g2 amv amO ?_;refine EB (fun h=>?_) (fun h=>?_)
  ·rw[al7 (ajM.2 (by simpa using h))];refine gon ?_;exact ai
  ·rw[al5 (fun h'=>by have:=ajM.1 h';simp at h;omega)]
   refine pz g1 g2 amv amO ?_;refine EB (fun h=>?_) (fun h=>?_)
   ·rename_i h';rw[al7 (ajM.2 (by simpa using h))];refine gon ?_;exact ai
   ·rename_i h';rw[al5 (fun h'=>by have:=ajM.1 h';simp at h;omega)];refine ah hw ?_;refine⟨i+1,⟨h1,rfl⟩,WL,?_⟩;exact ais [] [0,1]
 ·obtain rfl:i=32:=WL
  rw[akQ];refine bk ?_;exact ai
theorem yO(a b:Wd):PC Tryz.prog 344 [.agg (wdc a),.agg (wdc b)] (.int .i64 (X5 a b)):=by
 refine ae 6 ?_;refine gon ?_;refine az (fun i:Nat=>[(5,.int .i64 ((i:Int)-1))]) (fun _=>[.var (wdc a),.var (wdc b)]) (fun i=>i) (fun i=>i<=4/\X5 a b=QQ a b i) 4 ⟨WL,rfl⟩ ?_ ?_
 ·exact ais [] [0,1]
 rintro i ⟨hi,hn⟩;rw[hn];cases i with
 | zero =>
   refine bk ?_;exact ai
 | succ i =>
   have h1:i<4:=WL
   have e1:((i+1:Nat):Int)-1=(i:Int):=WL
   have e2:decide ((i:Int) ≥ 0)=true:=au WL;have e3:decide ((0:Int)<=i)=true:=au WL;have hw:IntKind.i64.wrap ((i:Int)-1)=(i:Int)-1:=aL WL WL;have g1:=Ov a h1;have g2:=Ov b h1;have ga:a.1.getD i 0=a.1[i]'(by rw[a.2];exact h1):=by simp[alt,a.2,h1]
   have gb:b.1.getD i 0=b.1[i]'(by rw[b.2];exact h1):=by simp[alt,b.2,h1]
   rw[<-ga]at g1;rw[<-gb]at g2;have hs:QQ a b (i+1)=if a.1.getD i 0<b.1.getD i 0 then -1 else if b.1.getD i 0<a.1.getD i 0 then 1 else QQ a b i:=rfl
   rw[hs];generalize a.1.getD i 0=x at *;generalize b.1.getD i 0=y at *;have h0:(0:Int)<=i:=WL
   have hn1:(i:Int)<4:=WL
   rw[e1];refine HV e1 e2 e3 ?_;refine pz g1 g2 amv amO ?_;refine EB (fun h=>?_) (fun h=>?_)
   ·rw[al7 (by simpa using h)];refine gon ?_;exact ai
   ·rw[al5 (by simpa using h)]
    refine pz g1 g2 amv amO ?_;refine EB (fun h=>?_) (fun h=>?_)
    ·rename_i h';rw[al7 (by simpa using h)];refine gon ?_;exact ai
    ·rename_i h';rw[al5 (by simpa using h)];refine ah hw ?_;refine⟨i,⟨WL,rfl⟩,WL,?_⟩;exact ais [] [0,1]
theorem xV(t:aW)(n:Int)(hb:t.bals.length<=2097152):PC Tryz.prog 67 [.agg (ar t.a),.int .i64 n] (.int .i64 (gh t n)):=by
 refine ae 7 ?_;have c1:=NG t.bals false hb;unfold gh;generalize EI t.bals=q at *;obtain⟨q1,q2⟩:=q;exact aw
theorem Hi(t:aW)(hb:t.bals.length<=2097152):PC Tryz.prog 90 [.agg (ar t.a)] (.agg (ar t.a)):=by
 refine ae 3 ?_;obtain⟨cp,bals⟩:=t;dsimp only at hb;unfold aW.a;exact aw
theorem Mr(a b:Cp):PC Tryz.prog 69 [.agg (cpC a),.agg (cpC b)] (.int .i64 (kW a b)):=by
 refine ae 5 ?_;have c1:=Ms a.rt b.rt;unfold kW;exact aw
theorem ow(l:List aW)(c:Cp)(hb:l.length<=2097152):PC Tryz.prog 66 [.sl 34 false (rows aW.c l),.agg (cpC c)] (.int .i64 (dJ l c)):=by
 refine pfn 6 DM ?_;unfold rG;refine bd ?_;unfold dJ;refine nx fun _=>?_
 refine Mg (fun i=>decide ((tab l i).cp=c)) l.length (fun i=>[(5,.int .i64 i)]) (fun _=>[.var (cpC c)]) (fun i h1 hp hf hw h2=>?_) (fun i h1 hp hw h2=>?_) (fun hf h=>?_)
 ·have hgd:(rows aW.c l).getD i []=ar (tab l i).a:=aS (f:=aW.c) default h1;have hp:=aks hp;rw[hf];exact aw
 ·have hgd:(rows aW.c l).getD i []=ar (tab l i).a:=aS (f:=aW.c) default h1;have hp:=aky hp;exact aw
 ·rw[hf];exact aw
theorem yb(l:List aW)(e:Int)(hb:l.length<=2097152):PC Tryz.prog 287 [.sl 34 false (rows aW.c l),.int .u64 e] (.sl 34 false (rows aW.c (fX l e))):=by
 refine ae 7 ?_;have hl:∀n,(bg (fun i o=>if e<=(tab l i).cp.ep then o++[tab l i]else o) [] n).length<=0+n:=ng (fun i l=>by split<;>simp)
 unfold fX;refine gon ?_;refine jx 5 34 ?_;simp only[go_sem];refine BA l.length (fun i=>[(6,.int .i64 i),(5,.hs 34 0 0 (bg (fun i o=>if e<=(tab l i).cp.ep then o++[tab l i]else o) [] i).length)]) (fun i=>[.vec 34 (rows aW.c (bg (fun i o=>if e<=(tab l i).cp.ep then o++[tab l i]else o) [] i))]) (fun i h1 hw h2=>?_) (fun h=>?_)
 ·have hgd:(rows aW.c l).getD i []=ar (tab l i).a:=aS (f:=aW.c) default h1;have hs:=cX (fun i o=>if e<=(tab l i).cp.ep then o++[tab l i]else o) [] i;have hli:=hl i;clear hl;generalize bg (fun i o=>if e<=(tab l i).cp.ep then o++[tab l i]else o) [] i=acc at *;generalize bg (fun i o=>if e<=(tab l i).cp.ep then o++[tab l i]else o) [] (i+1)=acc2 at *;simp only[<-alY]at hs;have hr:rows aW.c acc++[ar (tab l i).a]=rows aW.c (acc++[tab l i]):=cR aW.c acc (tab l i);exact aw
 ·clear hl;exact aw
theorem yY(l:List aW)(c:Cp):∀f i,kf l c f i<=i+f
 |0,i=>amb _
 |f+1,i=>by unfold kf;have:=yY l c f (i+1);grind
theorem Dx(l:List aW)(t:aW)(i:Nat)(hi:i<=l.length)(hb:l.length<=2097152)(ht:t.bals.length<=2097152):Tri Tryz.prog 35 0 (fo.tl 3) (PQ [.tmp 4] (.sl 34 false (rows aW.c (l.take i++[t]++l.drop i)))) ⟨6,[.sl 34 false (rows aW.c l),.agg (ar t.a),.dead,.ptr 0 0,.sl 0 true [],.int .i64 i],[]⟩ [.var (ar t.a)]:=by
 unfold fo;refine bd ?_;simp only[ab.tl];have cp:=Hi t ht;have r1:rows aW.c (l.take i)++[ar t.a]=rows aW.c (l.take i++[t]):=cR aW.c _ t;have r2:=vT aW.c (l.take i++[t]) (l.drop i);have hm:min i l.length=i:=WL
 repeat(first|refine bY ?_|omega)
 refine aK (cp) ?_;have ht2:(l.drop i).take (l.length-i)=l.drop i:=amf WM;repeat(first|refine bY ?_|simp only[go_sem,r1,r2,si,uz,amA,ajJ,hm,ht2])
 refine⟨_,(by first|rfl|omega),.inl ?_⟩;refine evg ?_;rw[al7 WO,amf (by simp;omega)]
theorem BJ(l:List aW)(t:aW)(hb:l.length<=2097152)(ht:t.bals.length<=2097152):PC Tryz.prog 297 [.sl 34 false (rows aW.c l),.agg (ar t.a)] (.sl 34 false (rows aW.c (my l t))):=by
 have hK:kf l t.cp l.length 0<=l.length:=by have:=yY l t.cp l.length 0;omega
 have tl:=fun i hi=>Dx l t i hi hb ht
 unfold my;dsimp only;refine pfn 6 vc ?_;have hc:fo=.seq fo.hd (.seq (fo.tl 1).hd (.seq (fo.tl 2).hd (fo.tl 3))):=rfl;rw[hc];clear hc;generalize fo.tl 3=cT at *;unfold fo;refine bd ?_;simp only[ab.tl,ab.hd];refine gon ?_;refine az (fun i:Nat=>[(5,.int .i64 i)]) (fun _=>[.var (ar t.a)]) (fun i=>l.length-i) (fun i=>i<=l.length/\kf l t.cp l.length 0=kf l t.cp (l.length-i) i) 0 ⟨amc _,rfl⟩ ?_ ?_
 ·exact ais [] [0]
 rintro i ⟨hi,hn⟩;rw[hn]at hK ⊢;refine dp ?_;by_cases h1:i<l.length
 ·have e1:=inT h1
  have hw:=af h1 WL;have hgd:(rows aW.c l).getD i []=ar (tab l i).a:=aS (f:=aW.c) default h1;have c1:=Mr (tab l i).cp t.cp;obtain⟨f,hf⟩:∃f,l.length-i=f+1:=⟨l.length-i-1,WL⟩
  have hs:kf l t.cp (l.length-i) i=if kW (tab l i).cp t.cp<0 then kf l t.cp (l.length-(i+1)) (i+1)else i:=by rw[hf,show l.length-(i+1)=f by omega];rfl
  refine aZ e1 hgd ?_;refine aK (c1) ?_;refine gon ?_;refine EB (fun h=>?_) (fun h=>?_)
  ·rw[al7 (by simpa using h)]at hs;rw[hs];refine ah hw ?_;refine⟨i+1,⟨h1,rfl⟩,WL,?_⟩;exact ais [] [0]
  ·rw[al5 (by simpa using h)]at hs;rw[hs];refine gon ?_;refine eg ?_ (tl i hi);exact ais [] [0]
 ·obtain rfl:i=l.length:=WL
  have e1:=inF (l.length);rw[akQ]at *;refine aF e1 ?_;refine eg ?_ (tl l.length hi);exact ais [] [0]
theorem CR(l:List aW)(t:aW)(n limit:Int)(hb:l.length<=2097152)(ht:t.bals.length<=2097152):PC Tryz.prog 214 [.sl 34 false (rows aW.c l),.agg (ar t.a),.int .i64 n,.int .i64 limit] (.tup [.sl 34 false (rows aW.c (iZ l t n limit).1),.int .i64 (iZ l t n limit).2]):=by
 refine ae 11 ?_;have c1:=xV t n ht;have c2:=ow l t.cp hb;have c3:=BJ l t hb ht;unfold iZ;generalize gh t n=E at *;generalize dJ l t.cp=F at *;generalize my l t=A at *;exact aw
theorem Gf(d:Int)(c:Rt)(l:List Int)(i:Nat)(p:List Vot×Int):(mK d c l i p).1.length=p.1.length:=by unfold mK;grind
theorem pd(d:Int)(b:Rt)(l:List Int)(v:List Vot):∀i,(bg (mK d b l) (v,0) i).1.length=v.length
 |0=>rfl
 |i+1=>by rw[cX,Gf,pd d b l v i]
theorem yN(v:List Vot)(ep:Int)(root:Rt)(l:List Int)(hv:v.length<=2097152)(hl:l.length<=2097152)(hj:∀j∈l,0<=j/\j<v.length):PC Tryz.prog 289 [.sl 34 false (rows al v),.int .u64 ep,.agg (rtc root),.sl 1 false (aH .i64 l)] (.tup [.sl 34 false (rows al (uM v ep root l).1),.int .i64 (uM v ep root l).2]):=by
 refine ae 14 ?_;unfold uM;refine nx fun _=>?_
 refine BA l.length (fun i=>[(12,.int .i64 i),(11,.int .i64 (bg (mK ep root l) (v,0) i).2)]) (fun i=>[.var (rtc root),.vec 34 (rows al (bg (mK ep root l) (v,0) i).1)]) (fun i h1 hw h2=>?_) (fun h=>?_)
 ·have hgd:=gdn (k:=.i64) h1;have hm:l.getD i 0∈l:=by rw[alt,al6 h1];exact amS h1
  obtain⟨j0,j1⟩:=hj _ hm;have hs:=cX (mK ep root l) (v,0) i;have hlen:=pd ep root l v i;generalize bg (mK ep root l) (v,0) i=p at *;obtain⟨u,n⟩:=p;dsimp only at hlen;have hc:mK ep root l i (u,n)=if (vot u (l.getD i 0).toNat).has=false\/(vot u (l.getD i 0).toNat).ep<ep then (u.set (l.getD i 0).toNat ⟨true,ep,root⟩,IntKind.i64.wrap (n+1))else (u,n):=rfl
  rw[hc]at hs;clear hc hm hj;obtain⟨j,hj⟩:=ajO j0;rw[hj]at hs hgd j1;rw[amw]at hs;have h3:j<u.length:=WL
  have hgu:(rows al u).getD j []=al (vot u j):=aS (f:=al) dL h3;have hset:=F2 al u j ⟨true,ep,root⟩;clear hj j0;generalize vot u j=x at *;obtain⟨xh,xe,xr⟩:=x;dsimp only at hs;cases xh<;>exact aw
 ·have hlen:=pd ep root l v l.length;generalize bg (mK ep root l) (v,0) l.length=p at *;have htk:List.take v.length (rows al p.1)=rows al p.1:=amf (by simp[hlen]);clear hj;exact aw
def IB(l:List Int)(i:Nat)(o:List Int):List Int:=pX o (l.getD i 0)
def Gb(set l:List Int):List Int:=bg (IB l) set l.length
theorem O5(set l:List Int):∀i,(bg (IB l) set i).length<=set.length+i
 |0=>amb _
 |i+1=>by rw[cX];have:=Ry (bg (IB l) set i) (l.getD i 0);have:=O5 set l i;unfold IB at *;omega
theorem OH(set l:List Int)(hb:set.length+l.length<=2097152):PC Tryz.prog 212 [.sl 1 false (aH .i64 set),.sl 1 false (aH .i64 l)] (.tup [.sl 1 false (aH .i64 (Gb set l)),.int .i64 (IntKind.i64.wrap ((Gb set l).length-set.length))]):=by
 refine ae 8 ?_;unfold Gb;refine gon ?_;refine az (fun i:Nat=>[(7,.int .i64 i),(6,.sl 1 false (aH .i64 (bg (IB l) set i)))]) (fun i=>[]) (fun i=>l.length-i) (fun i=>i<=l.length) 0 (amc _) ?_ ?_
 ·exact ais [0] []
 intro i hi;refine dp ?_;by_cases h1:i<l.length
 ·have e1:=inT h1;have hw:=af h1 WL;have hgd:=gdn (k:=.i64) h1;have hs:=cX (IB l) set i;have hlen:=O5 set l i;have c1:=OB (bg (IB l) set i) (l.getD i 0) WL;unfold IB at hs;rw[show pX (bg (IB l) set i) (l.getD i 0)=bg (IB l) set (i+1)from rfl]at c1;refine bw e1 ?_;refine aZ hgd amv ?_;refine am c1 ?_;refine ah hw ?_;refine⟨i+1,h1,WL,?_⟩;exact ais [] []
 ·obtain rfl:i=l.length:=WL
  have e1:=inF (l.length);refine aF e1 ?_;exact ai
def wtS(latest:List Vot)(eqv bals:List Int)(roots:List Rt)(i:Nat)(n:Int):Int:=if (vot latest i).has=true/\(i:Int)∉eqv/\(vot latest i).root∈roots then IntKind.u64.wrap (n+bals.getD i 0)else n
theorem Tz(latest:List Vot)(eqv bals:List Int)(roots:List Rt)(h1:latest.length<=2097152)(h2:eqv.length<=2097152)(h3:bals.length<=2097152)(h4:roots.length<=2097152):PC Tryz.prog 136 [.agg [.sl 34 false (rows al latest),.sl 1 false (aH .i64 eqv)],.sl 1 false (aH .u64 bals),.sl 32 true (rows rtc roots)] (.int .u64 (GI latest eqv bals roots)):=by
 refine ae 9 ?_;show Tri _ _ _ _ (PQ _ (.int .u64 (bg (wtS latest eqv bals roots) 0 (min bals.length latest.length)))) _ _
 refine nx fun _=>?_
 refine az (fun i:Nat=>[(8,.int .i64 i),(7,.int .u64 (bg (wtS latest eqv bals roots) 0 i))]) (fun i=>[.var [.sl 34 false (rows al latest),.sl 1 false (aH .i64 eqv)]]) (fun i=>bals.length-i) (fun i=>i<=min bals.length latest.length) 0 (amc _) ?_ ?_
 ·exact aw
 intro i hi;by_cases q1:i<bals.length
 ·have z1:(i:Int)<bals.length:=WL
  by_cases q2:i<latest.length
  ·have z2:(i:Int)<latest.length:=WL
   have hw:=af q1 WL;have hs:=cX (wtS latest eqv bals roots) 0 i;have hgl:=aS (f:=al) dL q2;have hgb:=gdn (k:=.u64) q1;have c1:=HX eqv false (i:Int) WL;have c2:=J1 roots true (vot latest i).root h4;generalize bg (wtS latest eqv bals roots) 0 i=n at *;have hc:wtS latest eqv bals roots i n=if (vot latest i).has=true/\(i:Int)∉eqv/\(vot latest i).root∈roots then IntKind.u64.wrap (n+bals.getD i 0)else n:=rfl
   rw[hc]at hs;clear hc;change (rows al latest).getD i []=al (vot latest i)at hgl
   generalize vot latest i=x at *;obtain⟨xh,xe,xr⟩:=x;dsimp only at hs c2;have hm:i+1<=min bals.length latest.length:=WL
   refine nx fun _=>?_
   cases xh<;>by_cases q3:(i:Int)∈eqv<;>by_cases q4:xr∈roots<;>(refine nx fun _=>?_;exact⟨i+1,hm,WL,aw⟩)
  ·have z2:¬ (i:Int)<latest.length:=WL
   obtain rfl:i=min bals.length latest.length:=WL
   exact aw
 ·have z1:¬ (i:Int)<bals.length:=WL
  obtain rfl:i=min bals.length latest.length:=WL
  exact aw
end Go.Proofs.YtmpddimhleianaaGreat
