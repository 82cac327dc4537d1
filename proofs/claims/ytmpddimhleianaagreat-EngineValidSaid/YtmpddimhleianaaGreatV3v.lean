/- Joined. -/
import Derived.Test.YtmpddimhleianaaGreatV1v
import Derived.Test.YtmpddimhleianaaGreatW3v
import Derived.Test.YtmpddimhleianaaGreatW4v
import Derived.Test.YtmpddimhleianaaGreatW5v
set_option linter.unusedVariables false
set_option linter.unusedSimpArgs false
set_option maxRecDepth 8000
set_option maxHeartbeats 4000000
namespace Go.Proofs.YtmpddimhleianaaGreat
open Go Go.FH Go.RowKit
theorem BS(l:List Int)(cl:Bool)(v:Int)(hb:l.length<=140737488355328):PC Tryz.prog 64 [.sl 1 cl (ah .i64 l),.int .i64 v] (.bool (decide (v∈l))):=by
 refine PC.fact 6 Mf af1 ⟨aY _ _,trivial,trivial⟩ trivial ?_;unfold AX;refine bd ?_;refine gon ?_;refine kh (fun i:Nat=>⟨6,[.sl 1 cl (ah .i64 l),.int .i64 v,.dead,.dead,.bool false,.int .i64 i],[]⟩) (fun _=>[]) (fun i=>l.length-i) (fun i=>i<=l.length/\v∉l.take i) [] 0 ⟨af0,af1⟩ evd rfl ?_;rintro i ⟨hi,hv⟩;try dsimp only
 refine gon ?_;refine bM evd (fun h=>?_) (fun h=>?_)
 ·have h1:i<l.length:=by simp at h;omega
  have hg:=fC (k:=.i64) h1;have hw:=ae h1 af0;have e0:l[i]=l.getD i 0:=by rw[afy,afz h1];rfl
  refine bm hg acO ?_;refine bM evd (fun h=>?_) (fun h=>?_)
  ·have e1:l.getD i 0=v:=by simpa using h
   have hm:v∈l:=by rw[<-e1,<-e0];exact afY h1
   rw[ax hm];refine gon ?_;exact aj
  ·have e1:l.getD i 0≠v:=by simpa using h
   refine aA hw ?_;refine⟨i+1,⟨h1,?_⟩,af0,rfl⟩;rw[acB,afz h1];simp only[adY,afR,afN,GG];exact⟨hv,by rw[e0];exact fun e=>e1 e.symm⟩
 ·have h1:i=l.length:=by simp at h;omega
  subst h1;rw[acL]at hv;rw[aD hv];refine gon ?_;exact aj
theorem F8(k:IntKind)(l:List Int)(i:Nat):(ah k l).take i=ah k (l.take i):=by simp[ah]
theorem F7(k:IntKind)(l:List Int)(i:Nat):(ah k l).drop i=ah k (l.drop i):=by simp[ah]
theorem kX(k:IntKind)(l m:List Int):ah k l++ah k m=ah k (l++m):=by simp[ah]
theorem Kf(k:IntKind)(v:Int):[[AV.int k v]]=ah k [v]:=rfl
def kV:List Int->Int->List Int
 | [],v=>[v]
 |a::r,v=>if a<v then a::kV r v else if a=v then a::r else v::a::r
theorem Ag:∀ (l:List Int) (v:Int) (i:Nat),i<=l.length->(∀j,j<i->l.getD j 0<v)->(∀_:i<l.length,¬l.getD i 0<v)->kV l v=if i<l.length/\l.getD i 0=v then l else l.take i++[v]++l.drop i
 | [], v, i, hi, h1, h2 => by
   have:i=0:=by simpa using hi
   subst this;simp[kV]
 | a :: r, v, 0, hi, h1, h2 => by
   have h3:¬a<v:=by simpa using h2 af1
   simp only[kV,afx h3];by_cases h4:a=v
   ·simp[h4]
   ·simp[h4]
 | a :: r, v, i + 1, hi, h1, h2 => by
   have h3:a<v:=by simpa using h1 0 af0
   have ih:=Ag r v i (by simpa using hi) (fun j hj=>by simpa using h1 (j+1) af0) (fun hlt=>by simpa using h2 (by simpa using hlt));simp only[kV,afA h3,ih];by_cases h4:i<r.length/\r.getD i 0=v
   ·rw[afA h4,afA (by simpa using h4)]
   ·rw[afx h4,afx (by simpa using h4)];simp
theorem JZ(l:List Int)(v:Int):(kV l v).length<=l.length+1:=by
 induction l with
 |nil=>simp[kV]
 | cons a r ih =>
   unfold kV;split
   ·simp;omega
   ·split<;>simp
theorem J1(l:List Int)(v:Int)(hb:l.length<=2097152):PC Tryz.prog 296 [.sl 1 false (ah .i64 l),.int .i64 v] (.sl 1 false (ah .i64 (kV l v))):=by
 refine PC.fact 6 Ek af1 ⟨aY _ _,trivial,trivial⟩ (aY _ _) ?_;unfold ur;refine bd ?_;refine gon ?_;refine kh (fun i:Nat=>⟨6,[.sl 1 false (ah .i64 l),.int .i64 v,.dead,.dead,.sl 0 true [],.int .i64 i],[]⟩) (fun _=>[]) (fun i=>l.length-i) (fun i=>i<=l.length/\∀j,j<i->l.getD j 0<v) [] 0 ⟨af0,fun j hj=>af0⟩ evd rfl ?_;rintro i ⟨hi,hv⟩;try dsimp only
 have fin:(∀_:i<l.length,¬l.getD i 0<v)->True:=fun _=>trivial
 by_cases h1:i<l.length
 ·have hg:=fC (k:=.i64) h1
  have hw:=ae h1 af0;have e1:decide ((i:Int)<(l.length:Int))=true:=ax af0;by_cases h2:l.getD i 0<v
  ·have e2:=ax h2;refine On e1 hg acO e2 ?_;refine aA hw ?_;refine⟨i+1,⟨h1,fun j hj=>?_⟩,af0,rfl⟩;by_cases e:j=i
   ·subst e;exact h2
   ·exact hv j af0
  ·have e2:=aD h2
   rw[Ag l v i hi hv (fun _=>h2)];refine BQ e1 hg acO e2 ?_;by_cases h3:l.getD i 0=v
   ·have e3:(l.getD i 0==v)=true:=by rw[ac0];exact h3
    rw[afA ⟨h1,h3⟩];refine BR e1 hg acO e3 ?_;exact aj
   ·have e3:(l.getD i 0==v)=false:=by rw[<-acE,ac0];exact h3
    rw[afx (fun h=>h3 h.2)];refine BQ e1 hg acO e3 ?_;have d1:(l.drop i).take (l.length-i)=l.drop i:=afD af1;refine ec F8 F7 d1 Kf kX ?_;exact aj
 ·have hl:i=l.length:=af0
  subst hl;have e1:decide ((l.length:Int)<(l.length:Int))=false:=aD af0;rw[Ag l v l.length hi hv (fun h=>af0),afx (fun h=>af0),acL,adR,acH];refine da e1 ?_;refine da e1 ?_;refine fk F8 F7 Kf kX ?_;exact aj
def gk(l m:List Int)(i:Nat):List Int:=(l.take i).foldl (fun a v=>if v∈m then kV a v else a) []
theorem Hy{l m:List Int}{i:Nat}(h:i<l.length):gk l m (i+1)=if l.getD i 0∈m then kV (gk l m i) (l.getD i 0)else gk l m i:=by
 have e0:l[i]=l.getD i 0:=by rw[afy,afz h];rfl
 unfold gk;rw[acB,afz h,adY,aep,ad1,afm,e0]
theorem rS(l m:List Int):∀i,(gk l m i).length<=i
 |0=>by simp[gk]
 | i + 1 => by
   have ih:=rS l m i;by_cases h:i<l.length
   ·rw[Hy h];split
    ·have:=JZ (gk l m i) (l.getD i 0);omega
    ·omega
   ·have:gk l m (i+1)=gk l m i:=by unfold gk;rw[afD af0,afD af0]
    rw[this];omega
theorem CR(x:Slg)(l m:List Int)(c d:Bool)(hx:x.fst.vals=.sl 1 c (ah .i64 l))(hy:x.snd.vals=.sl 1 d (ah .i64 m))(hl:l.length<=100)(hm:m.length<=100):
 PC Tryz.prog 213 [.agg (dU x)] (.sl 1 false (ah .i64 (gk l m l.length))):=by
 obtain⟨⟨a1,a2,r1,v1⟩,⟨b1,b2,r2,v2⟩⟩:=x;dsimp only at hx hy;subst hx hy;have hp:PuL (dU ⟨⟨a1,a2,r1,.sl 1 c (ah .i64 l)⟩,⟨b1,b2,r2,.sl 1 d (ah .i64 m)⟩⟩):=(ij _).2 ⟨aY _ _,aY _ _⟩;refine PC.fact 5 zD af1 ⟨hp,trivial⟩ (aY _ _) ?_;unfold qW;refine bd ?_;refine gon ?_
 refine eR (fun i:Nat×Bool=>⟨5,[.agg (dU ⟨⟨a1,a2,r1,.sl 1 c (ah .i64 l)⟩,⟨b1,b2,r2,.sl 1 d (ah .i64 m)⟩⟩),.ptr 0 0,.sl 0 true [],if i.2 then .sl 1 false (ah .i64 (gk l m i.1))else .sl 0 true [],.int .i64 i.1],[]⟩) (fun _=>[.var (dU ⟨⟨a1,a2,r1,.sl 1 c (ah .i64 l)⟩,⟨b1,b2,r2,.sl 1 d (ah .i64 m)⟩⟩)]) (fun i=>l.length-i.1) (fun i=>i.1<=l.length/\(i.2=false->gk l m i.1=[])) (0,false) ⟨by dsimp only;omega,fun _=>rfl⟩ ?_ ?_
 ·simp only[afP,acq];exact abS [] [0]
 rintro⟨i,b⟩ ⟨hi,hb⟩;dsimp only at hi hb ⊢;by_cases h1:i<l.length
 case neg=>
  have e1:decide ((i:Int)<(l.length:Int))=false:=aD af0;obtain rfl:i=l.length:=af0
  refine da e1 ?_;cases b with
  | true =>
    simp only[aco];refine gon ?_;exact aj
  | false =>
    rw[hb rfl];simp only[afP,acq];refine gon ?_;refine⟨_,by first|rfl|exact evd,.inr ⟨.sl 0 true [],evd,trivial,Wk.empty _ _ _⟩⟩
 have e1:decide ((i:Int)<(l.length:Int))=true:=ax af0;have hgd:=fC (k:=.i64) h1;have hw:=ae h1 af0;have hr:=BS m d (l.getD i 0) af0;have hcl:=rS l m i;refine BP e1 hgd acO ?_;refine bm hgd acO ?_;refine aP (hr) ?_;refine gon ?_;by_cases h2:l.getD i 0∈m
 ·rw[ax h2]
  refine aq ?_;have hs:gk l m (i+1)=kV (gk l m i) (l.getD i 0):=by rw[Hy h1,afA h2]
  have hc:=J1 (gk l m i) (l.getD i 0) af0;rw[<-hs]at hc;cases b with
  | true =>
    simp only[aco];refine bm hgd acO ?_;refine ap hc ?_;refine aA hw ?_;refine⟨(i+1,true),⟨by dsimp only;omega,fun h=>(by cases h)⟩,by dsimp only;omega,?_⟩;simp only[aco];exact abS [] [0]
  | false =>
    rw[hb rfl]at hc;simp only[afP,acq];refine bm hgd acO ?_;refine CD (hc) (by repeat(first|exact trivial|(refine⟨Wk.refl _,?_⟩)|(refine⟨Wk.empty 0 1 _,?_⟩))) (by simp[PuL,Pu,fU,iP,aY]) ?_;refine aA hw ?_;refine⟨(i+1,true),⟨by dsimp only;omega,fun h=>(by cases h)⟩,by dsimp only;omega,?_⟩;simp only[aco];exact abS [] [0]
 ·rw[aD h2]
  refine aI ?_;have hs:gk l m (i+1)=gk l m i:=by rw[Hy h1,afx h2]
  refine aA hw ?_;refine⟨(i+1,b),⟨by dsimp only;omega,fun h=>(by dsimp only;rw[hs];exact hb h)⟩,by dsimp only;omega,?_⟩;dsimp only;rw[hs];cases b
  ·simp only[afP,acq];exact abS [] [0]
  ·simp only[aco];exact abS [] [0]
def sur(a b:Clm):Bool:=decide (a.src<b.src)&&decide (b.tgt<a.tgt)
def dbl(a b:Clm):Bool:=(a.tgt==b.tgt)&&((a.src != b.src) || !decide (a.root=b.root))
def slb(a b:Clm):Bool:=dbl a b || sur a b || sur b a
theorem zP(a b:Clm)(ha:a.good=true)(hb:b.good=true)(pa:a.Pure)(pb:b.Pure):PC Tryz.prog 295 [.agg (dB a),.agg (dB b)] (.bool (slb a b)):=by
 refine PC.fact 8 xR af1 ⟨(iN a).2 pa,(iN b).2 pb,trivial⟩ trivial ?_;have hc:aU=.seq aU.hd (.seq (aU.tl 1).hd (.seq (aU.tl 2).hd (.seq (aU.tl 3).hd (aU.tl 4)))):=rfl
 -- the last part: three results joined
 have t4:∀ (D s1 s2:Bool) (ts:List (Nat×AV)),Tri Tryz.prog 58 0 (aU.tl 4) (PQ [.tmp 4] (.bool (D || s1 || s2))) ⟨8,[.agg (dB a),.agg (dB b),.ptr 0 0,.ptr 1 0,.bool false,.bool D,.bool s1,.bool s2],ts⟩ [.var (dB a),.var (dB b)]:=by
  intro D s1 s2 ts;unfold aU;refine bd ?_;simp only[am.tl];cases D
  ·cases s1
   ·refine gon ?_;exact aj
   ·refine gon ?_;exact aj
  ·refine gon ?_;exact aj
 have t3:∀ (D s1:Bool) (ts:List (Nat×AV)),Tri Tryz.prog 58 0 (.seq (aU.tl 3).hd (aU.tl 4)) (PQ [.tmp 4] (.bool (D || s1 || sur b a))) ⟨8,[.agg (dB a),.agg (dB b),.ptr 0 0,.ptr 1 0,.bool false,.bool D,.bool s1,.dead],ts⟩ [.var (dB a),.var (dB b)]:=by
  intro D s1 ts;generalize aU.tl 4=cT at *;unfold aU sur;refine bd ?_;simp only[am.tl,am.hd];cases e1:decide (b.src<a.src)with
  | false =>
    refine aA e1 ?_;exact t4 _ _ _ _
  | true =>
    refine aA e1 ?_;exact t4 _ _ _ _
 have t2:∀ (D:Bool) (ts:List (Nat×AV)),Tri Tryz.prog 58 0 (.seq (aU.tl 2).hd (.seq (aU.tl 3).hd (aU.tl 4))) (PQ [.tmp 4] (.bool (D || sur a b || sur b a))) ⟨8,[.agg (dB a),.agg (dB b),.ptr 0 0,.ptr 1 0,.bool false,.bool D,.dead,.dead],ts⟩ [.var (dB a),.var (dB b)]:=by
  intro D ts;clear t4;generalize am.seq (aU.tl 3).hd (aU.tl 4)=cT at *;have t3':=fun s1=>t3 D s1
  clear t3;generalize sur b a=s2 at *;unfold aU sur;refine bd ?_;simp only[am.tl,am.hd];cases e1:decide (a.src<b.src)with
  | false =>
    refine aA e1 ?_;exact t3' _ _
  | true =>
    refine aA e1 ?_;exact t3' _ _
 clear t3 t4;rw[hc];clear hc;generalize am.seq (aU.tl 2).hd (.seq (aU.tl 3).hd (aU.tl 4))=cT at *;unfold aU slb;refine bd ?_;generalize sur a b=s1 at *;generalize sur b a=s2 at *;unfold dbl;simp only[am.tl,am.hd];cases e1:(a.tgt==b.tgt)with
 | false =>
   refine eS ha hb e1 ?_;exact t2 _ _
 | true =>
   cases e2:(a.src != b.src)with
   | true =>
     refine fk ha hb e1 e2 ?_;exact t2 _ _
   | false =>
     refine fk ha hb e1 e2 ?_;exact t2 _ _
def evE(x:Slg)(l m:List Int)(n:Int):Int:=
 if cM l n≠0 then cM l n else if cM m n≠0 then cM m n else if x.fst.tgt<x.fst.src\/x.snd.tgt<x.snd.src then 2
 else if slb x.fst x.snd=false\/gk l m l.length=[]then 20 else 0
theorem KQ(x:Slg)(l m:List Int)(c d:Bool)(n:Int)(hx:x.fst.vals=.sl 1 c (ah .i64 l))(hy:x.snd.vals=.sl 1 d (ah .i64 m))(hl:l.length<=100)(hm:m.length<=100):
 PC Tryz.prog 211 [.agg (dU x),.int .i64 n] (.int .i64 (evE x l m n)):=by
 obtain⟨⟨a1,a2,r1,v1⟩,⟨b1,b2,r2,v2⟩⟩:=x;dsimp only at hx hy;subst hx hy;have cu:=CR ⟨⟨a1,a2,r1,.sl 1 c (ah .i64 l)⟩,⟨b1,b2,r2,.sl 1 d (ah .i64 m)⟩⟩ l m c d rfl rfl hl hm;have sl:=zP ⟨a1,a2,r1,.sl 1 c (ah .i64 l)⟩ ⟨b1,b2,r2,.sl 1 d (ah .i64 m)⟩ rfl rfl (aY _ _) (aY _ _);have w1:=gV l c n af0;have w2:=gV m d n af0;refine PC.fact 7 pK af1 ⟨(ij _).2 ⟨aY _ _,aY _ _⟩,trivial,trivial⟩ trivial ?_;unfold j4 evE;refine bd ?_;(try dsimp only)
 generalize slb ⟨a1,a2,r1,.sl 1 c (ah .i64 l)⟩ ⟨b1,b2,r2,.sl 1 d (ah .i64 m)⟩=S at *;generalize gk l m l.length=R at *;by_cases q1:cM l n=0
 case neg=>
  have e1:(cM l n != 0)=true:=by rw[aeM];exact q1
  rw[afA q1];refine gon ?_;refine ap w1 ?_;refine aW e1 ?_;exact aj
 rw[afx (fun h=>h q1)];rw[q1]at w1;by_cases q2:cM m n=0
 case neg=>
  have e1:(cM m n != 0)=true:=by rw[aeM];exact q2
  rw[afA q2];refine gon ?_;refine ap w1 ?_;refine bY ?_;refine ap w2 ?_;refine aW e1 ?_;exact aj
 rw[afx (fun h=>h q2)];rw[q2]at w2;refine gon ?_;refine ap w1 ?_;refine bY ?_;refine ap w2 ?_;refine d6 ?_;by_cases q3:a2<a1
 ·have e3:=ax q3;rw[afA (.inl q3)];refine aW e3 ?_;exact aj
 have e3:=aD q3;by_cases q4:b2<b1
 ·have e4:=ax q4;rw[afA (.inr q4)];repeat(first|refine aM ?_|simp only[go_sem,e3,e4])
  refine aac ?_;exact aj
 have e4:=aD q4;rw[afx (fun h=>h.elim q3 q4)];repeat(first|refine aM ?_|simp only[go_sem,e3,e4])
 refine aab ?_;refine ap sl ?_;cases S with
 | false =>
   rw[afA (.inl rfl)];refine bD ?_;exact aj
 | true =>
   refine gon ?_;refine ap cu ?_;by_cases q5:R=[]
   ·subst q5;rw[afA rfl];refine bD ?_;exact aj
   ·have e5:((R.length:Int)==0)=false:=by
     rw[<-acE,ac0];have:=adE.2 q5;omega
    rw[afx (by simp[q5])];repeat(first|refine aM ?_|simp only[go_sem,e5])
    refine aab ?_;exact aj
def E0(z:Int):UInt8:=UInt8.ofNat (IntKind.u8.wrap z).toNat
theorem sT(z:Int):IntKind.u8.wrap z=((E0 z).toNat:Int):=by
 have h:0<=IntKind.u8.wrap z/\IntKind.u8.wrap z<256:=by rw[IntKind.wrap_u8];omega
 unfold E0;rw[aeK,Nat.mod_eq_of_lt af0];omega
theorem wc(x m:Int)(h0:0<=m)(hm:m<9223372036854775808):∃r:Nat,gD .i64 x m=r/\(r:Int)<=m:=by
 unfold gD
 have h:(BitVec.ofInt IntKind.i64.bits x &&& BitVec.ofInt IntKind.i64.bits m).toNat<=m.toNat:=by
  rw[aee];refine acn Nat.and_le_right ?_;rw[BitVec.toNat_ofInt];show (m % ((2 ^ 64:Nat):Int)).toNat<=m.toNat
  omega
 generalize (BitVec.ofInt IntKind.i64.bits x &&& BitVec.ofInt IntKind.i64.bits m).toNat=r at *;exact⟨r,ar af0 af0,af0⟩
def lz(n:Int):Rt:=((rt0.set 0 (E0 n)).set 1 (E0 (fd .i64 n 8))).set 31 (E0 (IntKind.i64.wrap (n*7)))
theorem gM(n:Int):PC Tryz.prog 35 [.int .i64 n] (.agg (rtc (lz n))):=by
 refine PC.fact 3 JD af1 ⟨trivial,trivial⟩ ((dH _)) ?_;unfold yM lz;refine bd ?_;have h0:=sT n;have h1:=sT (fd .i64 n 8);have h2:=sT (IntKind.i64.wrap (n*7));generalize E0 n=b0 at *;generalize E0 (fd .i64 n 8)=b1 at *;generalize E0 (IntKind.i64.wrap (n*7))=b2 at *;have s0:∀ (r:Rt) (b:UInt8),spl (rtc r) 0 [.int .u8 (b.toNat:Int)]=rtc (r.set 0 b):=fun r b=>xo r af2 b
 have s1:∀ (r:Rt) (b:UInt8),spl (rtc r) 1 [.int .u8 (b.toNat:Int)]=rtc (r.set 1 b):=fun r b=>xo r af2 b
 have s2:∀ (r:Rt) (b:UInt8),spl (rtc r) 31 [.int .u8 (b.toNat:Int)]=rtc (r.set 31 b):=fun r b=>xo r af2 b
 repeat(first|refine aM ?_|simp only[go_sem,h0,h1,h2,s0,s1,s2])
 exact aj
def jp(bits:Int)(i:Nat):List Int:=((List.range i).filter fun j=>gD .i64 (fd .i64 bits j) 1==1).map Int.ofNat
theorem O1(bits:Int)(i:Nat):jp bits (i+1)=if (gD .i64 (fd .i64 bits i) 1==1)=true then jp bits i++[(i:Int)]else jp bits i:=by
 unfold jp;rw[acV,ae5,acu];by_cases h:(gD .i64 (fd .i64 bits i) 1==1)=true
 ·rw[afA h];simp[h]
 ·rw[afx h];simp[h]
theorem tC(bits:Int)(i:Nat):(jp bits i).length<=i:=by
 unfold jp;rw[adw];exact acn (aeV _ _) af1
def GI(n:Nat)(bits:Int):List Int:=if jp bits n=[]/\0<n then [0]else jp bits n
theorem GJ(n:Nat)(bits:Int):(GI n bits).length<=n:=by
 unfold GI;split
 ·rename_i h;simp;omega
 ·exact tC bits n
theorem GK(n:Nat)(bits:Int)(hn:n<=2097152):PC Tryz.prog 99 [.int .i64 n,.int .i64 bits] (.sl 1 false (ah .i64 (GI n bits))):=by
 refine PC.fact 7 rU af1 ⟨trivial,trivial,trivial⟩ (aY _ _) ?_;unfold d9;refine bd ?_;refine gon ?_;refine eR (fun x:Nat×Bool=>⟨7,[.int .i64 n,.int .i64 bits,.dead,.dead,.sl 0 true [],if x.2 then .hs 1 0 0 (jp bits x.1).length else .sl 0 true [],.int .i64 x.1],[]⟩) (fun x=>if x.2 then [.vec 1 (ah .i64 (jp bits x.1))]else []) (fun x=>n-x.1) (fun x=>x.1<=n/\(x.2=false->jp bits x.1=[])) (0,false) ⟨afK _,fun _=>rfl⟩ ?_ ?_
 ·simp only[afP,acq];exact abS [] []
 rintro⟨i,b⟩ ⟨hi,hb⟩;dsimp only at hi hb ⊢;have hlen:=tC bits i;by_cases h1:i<n
 ·have e1:decide ((i:Int)<(n:Int))=true:=ax af0
  have hw:=ae h1 af0;have hu:IntKind.u64.wrap (i:Int)=(i:Int):=aC af0 af0;have hs:=O1 bits i;cases hq:(gD .i64 (fd .i64 bits i) 1==1)with
  | true =>
    rw[hq,afA rfl]at hs;have hnum:∀l:List Int,ah .i64 l++[[.int .i64 (i:Int)]]=ah .i64 (l++[(i:Int)]):=fun l=>kX .i64 l [(i:Int)]
    cases b with
    | true =>
      simp only[aco];refine bO e1 ?_;refine Om hu hq ?_;refine bm hw hnum ?_;refine⟨(i+1,true),⟨h1,fun h=>(by cases h)⟩,by dsimp only;omega,?_⟩;simp only[aco,hs,afB,afG,afM,acC];exact abS [] [1]
    | false =>
      have h0:=hb rfl;rw[h0]at hs;simp only[afP,acq];refine bO e1 ?_;refine Om hu hq ?_;refine aA hw ?_;refine⟨(i+1,true),⟨h1,fun h=>(by cases h)⟩,by dsimp only;omega,?_⟩;simp only[aco,hs];exact abS [] [0]
  | false =>
    rw[hq,afx af1]at hs;cases b with
    | true =>
      simp only[aco];refine bO e1 ?_;refine iJ hu hq ?_;refine aA hw ?_;refine⟨(i+1,true),⟨h1,fun h=>(by cases h)⟩,by dsimp only;omega,?_⟩;simp only[aco,hs];exact abS [] [0]
    | false =>
      simp only[afP,acq];refine bO e1 ?_;refine iJ hu hq ?_;refine aA hw ?_;refine⟨(i+1,false),⟨h1,fun h=>(by dsimp only;rw[hs];exact hb rfl)⟩,by dsimp only;omega,?_⟩;simp only[afP,acq];exact abS [] []
 have e1:decide ((i:Int)<(n:Int))=false:=aD af0;obtain rfl:i=n:=af0
 have e2:decide ((i:Int) > 0)=decide (0<i):=by rw[adU];omega
 unfold GI;by_cases h0:jp bits i=[]
 ·by_cases hz:0<i
  ·have e3:decide ((i:Int) > 0)=true:=ax af0
   rw[afA ⟨h0,hz⟩];cases b with
   | true =>
     simp only[aco,h0];refine da e1 ?_;refine aW e3 ?_;refine⟨_,by first|rfl|exact evd,.inr ⟨.sl 1 true (ah .i64 [0]),evd,aY _ _,Wk.open_ _ _ _⟩⟩
   | false =>
     simp only[afP,acq];refine da e1 ?_;refine aW e3 ?_;refine⟨_,by first|rfl|exact evd,.inr ⟨.sl 1 true (ah .i64 [0]),evd,aY _ _,Wk.open_ _ _ _⟩⟩
  ·have e3:decide ((i:Int) > 0)=false:=aD af0
   rw[afx (fun h=>hz h.2),h0];cases b with
   | true =>
     simp only[aco];refine da e1 ?_;refine aS e3 ?_;exact aj
   | false =>
     simp only[afP,acq];refine da e1 ?_;refine aS e3 ?_;refine⟨_,by first|rfl|exact evd,.inr ⟨.sl 0 true [],evd,trivial,Wk.empty _ _ _⟩⟩
 ·rw [afx (fun h => h0 h.1)]
  cases b with
  |false=>exact absurd (hb rfl) h0
  | true =>
    have e3:(((jp bits i).length:Int)==0)=false:=by
     rw[<-acE,ac0];have:=adE.2 h0;omega
    simp only[aco];refine da e1 ?_;refine aS e3 ?_;exact aj
theorem SP(a b:Int):PC Tryz.prog 135 [.int .u64 a,.int .u64 b] (.tup [.int .u64 (uP a b).1,.int .i64 (uP a b).2]):=by
 refine aQ 6 ?_;unfold uP;refine gon ?_;refine eQ (fun h=>?_) (fun h=>?_)
 ·refine gon ?_;rw[afA (by simpa using h)];exact aj
 ·refine gon ?_;rw[afx (by simpa using h)];exact aj
theorem Tw(n:Int):PC Tryz.prog 312 [.int .u64 n] (.bool (nS n)):=by
 refine aQ 3 ?_;unfold nS;cases h:decide (1<=n)with
 | true =>
   refine aA h ?_;exact aj
 | false =>
   refine aA h ?_;exact aj
theorem UQ(a b:Int):PC Tryz.prog 313 [.int .u64 a,.int .u64 b] (.tup [.int .u64 (Cs a b).1,.int .i64 (Cs a b).2]):=by
 refine aQ 6 ?_;unfold Cs;by_cases h0:b=0
 ·subst h0;refine bY ?_;rw[afx af1];exact aj
 ·have e0:(b != 0)=true:=by simp[h0]
  refine bm e0 h0 ?_;refine eQ (fun h=>?_) (fun h=>?_)
  ·refine gon ?_;rw[afA (by simpa[h0]using h)];exact aj
  ·refine gon ?_;rw[afx (by simpa[h0]using h)];exact aj
theorem NG(e p:Int):PC Tryz.prog 227 [.int .u64 e,.int .u64 p] (.tup [.int .u64 (cH e p).1,.int .i64 (cH e p).2]):=by
 refine aQ 6 ?_;unfold cH;have c1:=Tw p;have c2:=UQ e p;refine gon ?_;refine ap c1 ?_;cases h:nS p with
 | true =>
   rw[afA rfl];refine bY ?_;refine abl c2 ?_;exact aj
 | false =>
   rw[afx af1];refine bD ?_;exact aj
theorem K8(l:List Int){i:Nat}(h:(gS l i).2≠0):∀n,i<=n->gS l n=gS l i
 |0,hn=>by rw[show i=0 by omega]
 | n + 1, hn => by
   by_cases he:i=n+1
   ·rw[he]
   ·have:=K8 l h n af0;show (if (gS l n).2≠0 then gS l n else _)=_
    rw[this,afA h]
theorem SO{a b:Int}(h:(uP a b).2≠0):uP a b=(0,(uP a b).2):=by
 unfold uP at *;split at h
 ·rw[afA (by assumption)]
 ·exact absurd rfl h
theorem GP(l:List Int)(c:Bool)(hb:l.length<=2097152):PC Tryz.prog 76 [.sl 1 c (ah .u64 l)] (.tup [.int .u64 (ku l).1,.int .i64 (ku l).2]):=by
 refine aQ 8 ?_;refine gon ?_;refine aE (fun i:Nat=>[(5,.int .i64 i),(4,.int .u64 (gS l i).1)]) (fun _=>[]) (fun i=>l.length-i) (fun i=>i<=l.length/\(gS l i).2=0) 0 ⟨afK _,rfl⟩ ?_ ?_
 ·exact abS [] []
 rintro i ⟨hi,he⟩;by_cases h1:i<l.length
 ·have e1:decide ((i:Int)<(l.length:Int))=true:=ax af0
  have hgd:=gdn (k:=.u64) h1;have hw:=ae h1 af0;have c1:=SP (gS l i).1 (l.getD i 0);have hs:gS l (i+1)=uP (gS l i).1 (l.getD i 0):=by show (if (gS l i).2≠0 then gS l i else _)=_;rw[afx (by simp[he])]
  rw[<-hs]at c1;refine bO e1 ?_;refine bm hgd acO ?_;refine abl c1 ?_;refine eQ (fun h=>?_) (fun h=>?_)
  ·have h':(gS l (i+1)).2≠0:=by simpa using h
   have hE:ku l=gS l (i+1):=K8 l h' _ h1;rw[hE];have h2:=SO (by rw[<-hs];exact h');rw[<-hs]at h2;refine gon ?_;generalize gS l (i+1)=q at *;obtain⟨q1,q2⟩:=q;cases h2;exact aj
  ·have h':(gS l (i+1)).2=0:=by simpa using h
   refine aA hw ?_;refine⟨i+1,⟨h1,h'⟩,af0,?_⟩;exact abS [] []
 ·obtain rfl:i=l.length:=af0
  have e1:decide ((l.length:Int)<(l.length:Int))=false:=aD af0;refine aS e1 ?_;rw[show ku l=gS l l.length from rfl,he];exact aj
theorem Eb(l:List Rt)(c:Bool)(r:Rt)(hb:l.length<=2097152):PC Tryz.prog 228 [.sl 32 c (rows rtc l),.agg (rtc r)] (.bool (decide (r∈l))):=by
 refine PC.fact 6 zx af1 ⟨(cY fun x _=>dH x),dH _,trivial⟩ trivial ?_;unfold qS;refine bd ?_;refine gon ?_;refine aE (fun i:Nat=>[(5,.int .i64 i)]) (fun _=>[.var (rtc r)]) (fun i=>l.length-i) (fun i=>i<=l.length/\∀j,j<i->l.getD j rt0≠r) 0 ⟨afK _,fun j hj=>af0⟩ ?_ ?_
 ·exact abS [] [0]
 rintro i ⟨hi,hn⟩;by_cases h1:i<l.length
 ·have e1:decide ((i:Int)<(l.length:Int))=true:=ax af0
  have hgd:=aK (f:=rtc) rt0 h1;have hw:=ae h1 af0;have hm:l.getD i rt0∈l:=by rw[afy,afz h1];exact afY h1
  refine bO e1 ?_;refine aA hgd ?_;refine eQ (fun h=>?_) (fun h=>?_)
  ·have hr:l.getD i rt0=r:=by simpa using h
   subst hr;refine gon ?_;rw[ax hm];exact aj
  ·have hr:l.getD i rt0≠r:=by simpa using h
   refine aA hw ?_;refine⟨i+1,⟨h1,fun j hj=>?_⟩,af0,?_⟩
   ·by_cases hji:j=i
    ·rw[hji];exact hr
    ·exact hn j af0
   ·exact abS [] [0]
 ·obtain rfl:i=l.length:=af0
  have e1:decide ((l.length:Int)<(l.length:Int))=false:=aD af0
  have e2:decide (r∈l)=false:=by
   refine aD fun hr=>?_
   obtain⟨j,hj,rfl⟩:=acp hr;exact hn j hj (by simp[afy,hj])
  rw[e2];refine aS e1 ?_;exact aj
theorem Fu(a b:Rt):PC Tryz.prog 131 [.agg (rtc a),.agg (rtc b)] (.int .i64 (qm a b)):=by
 refine aQ 6 ?_;refine gon ?_;refine aE (fun i:Nat=>[(5,.int .i64 i)]) (fun _=>[.var (rtc a),.var (rtc b)]) (fun i=>32-i) (fun i=>i<=32/\qm a b=oL a b (32-i) i) 0 ⟨af0,rfl⟩ ?_ ?_
 ·exact abS [] [0,1]
 rintro i ⟨hi,hn⟩;rw[hn];by_cases h1:i<32
 ·have e1:decide ((i:Int)<32)=true:=ax af0
  have hw:=ae h1 af0;have g1:=Of a h1;have g2:=Of b h1;have ga:a.1.getD i 0=a.1[i]'(by rw[a.2];exact h1):=by simp[afy,a.2,h1]
  have gb:b.1.getD i 0=b.1[i]'(by rw[b.2];exact h1):=by simp[afy,b.2,h1]
  rw[<-ga]at g1;rw[<-gb]at g2;obtain⟨f,hf⟩:∃f,32-i=f+1:=⟨31-i,af0⟩
  have hs:oL a b (32-i) i=if a.1.getD i 0<b.1.getD i 0 then -1 else if b.1.getD i 0<a.1.getD i 0 then 1 else oL a b (32-(i+1)) (i+1):=by
   rw[hf,show 32-(i+1)=f by omega];rfl
  rw[hs];generalize a.1.getD i 0=x at *;generalize b.1.getD i 0=y at *;have h0:(0:Int)<=i:=af0
  have hn1:(i:Int)<32:=af0
  refine bO e1 ?_;refine fk g1 g2 acO acC ?_;refine eQ (fun h=>?_) (fun h=>?_)
  ·rw[afA (aem.2 (by simpa using h))];refine gon ?_;exact aj
  ·rw[afx (fun h'=>by have:=aem.1 h';simp at h;omega)]
   refine fk g1 g2 acO acC ?_;refine eQ (fun h=>?_) (fun h=>?_)
   ·rename_i h';rw[afA (aem.2 (by simpa using h))];refine gon ?_;exact aj
   ·rename_i h';rw[afx (fun h'=>by have:=aem.1 h';simp at h;omega)];refine aA hw ?_;refine⟨i+1,⟨h1,rfl⟩,af0,?_⟩;exact abS [] [0,1]
 ·obtain rfl:i=32:=af0
  rw[aey];refine bY ?_;exact aj
theorem Fv(a b:Wd):PC Tryz.prog 344 [.agg (wdc a),.agg (wdc b)] (.int .i64 (Ea a b)):=by
 refine aQ 6 ?_;refine gon ?_;refine aE (fun i:Nat=>[(5,.int .i64 ((i:Int)-1))]) (fun _=>[.var (wdc a),.var (wdc b)]) (fun i=>i) (fun i=>i<=4/\Ea a b=yR a b i) 4 ⟨af0,rfl⟩ ?_ ?_
 ·exact abS [] [0,1]
 rintro i ⟨hi,hn⟩;rw[hn];cases i with
 | zero =>
   refine bY ?_;exact aj
 | succ i =>
   have h1:i<4:=af0
   have e1:((i+1:Nat):Int)-1=(i:Int):=af0
   have e2:decide ((i:Int) ≥ 0)=true:=ax af0;have e3:decide ((0:Int)<=i)=true:=ax af0;have hw:IntKind.i64.wrap ((i:Int)-1)=(i:Int)-1:=ar af0 af0;have g1:=vO a h1;have g2:=vO b h1;have ga:a.1.getD i 0=a.1[i]'(by rw[a.2];exact h1):=by simp[afy,a.2,h1]
   have gb:b.1.getD i 0=b.1[i]'(by rw[b.2];exact h1):=by simp[afy,b.2,h1]
   rw[<-ga]at g1;rw[<-gb]at g2;have hs:yR a b (i+1)=if a.1.getD i 0<b.1.getD i 0 then -1 else if b.1.getD i 0<a.1.getD i 0 then 1 else yR a b i:=rfl
   rw[hs];generalize a.1.getD i 0=x at *;generalize b.1.getD i 0=y at *;have h0:(0:Int)<=i:=af0
   have hn1:(i:Int)<4:=af0
   rw[e1];refine BP e1 e2 e3 ?_;refine fk g1 g2 acO acC ?_;refine eQ (fun h=>?_) (fun h=>?_)
   ·rw[afA (by simpa using h)];refine gon ?_;exact aj
   ·rw[afx (by simpa using h)]
    refine fk g1 g2 acO acC ?_;refine eQ (fun h=>?_) (fun h=>?_)
    ·rename_i h';rw[afA (by simpa using h)];refine gon ?_;exact aj
    ·rename_i h';rw[afx (by simpa using h)];refine aA hw ?_;refine⟨i,⟨af0,rfl⟩,af0,?_⟩;exact abS [] [0,1]
theorem tH(t:aB)(n:Int)(hb:t.bals.length<=2097152):PC Tryz.prog 67 [.agg (bE t.a),.int .i64 n] (.int .i64 (fY t n)):=by
 refine aQ 7 ?_;have c1:=GP t.bals false hb;unfold fY;generalize ku t.bals=q at *;obtain⟨q1,q2⟩:=q;exact aw
theorem Bu(t:aB)(hb:t.bals.length<=2097152):PC Tryz.prog 90 [.agg (bE t.a)] (.agg (bE t.a)):=by
 refine aQ 3 ?_;obtain⟨cp,bals⟩:=t;dsimp only at hb;unfold aB.a;exact aw
theorem Ft(a b:Cp):PC Tryz.prog 69 [.agg (cpC a),.agg (cpC b)] (.int .i64 (gT a b)):=by
 refine aQ 5 ?_;have c1:=Fu a.rt b.rt;unfold gT;exact aw
theorem qy(l:List aB)(c:Cp)(hb:l.length<=2097152):PC Tryz.prog 66 [.sl 34 false (rows aB.c l),.agg (cpC c)] (.int .i64 (dr l c)):=by
 refine pfn 6 xP ?_;unfold pA;refine bd ?_;unfold dr;refine nx fun _=>?_
 refine tG (fun i=>decide ((tab l i).cp=c)) l.length (fun i=>[(5,.int .i64 i)]) (fun _=>[.var (cpC c)]) (fun i h1 hp hf hw h2=>?_) (fun i h1 hp hw h2=>?_) (fun hf h=>?_)
 ·have hgd:(rows aB.c l).getD i []=bE (tab l i).a:=aK (f:=aB.c) default h1;have hp:=ac3 hp;rw[hf];exact aw
 ·have hgd:(rows aB.c l).getD i []=bE (tab l i).a:=aK (f:=aB.c) default h1;have hp:=adi hp;exact aw
 ·rw[hf];exact aw
theorem Ed(l:List aB)(e:Int)(hb:l.length<=2097152):PC Tryz.prog 287 [.sl 34 false (rows aB.c l),.int .u64 e] (.sl 34 false (rows aB.c (eJ l e))):=by
 refine aQ 7 ?_;have hl:∀n,(aH (fun i o=>if e<=(tab l i).cp.ep then o++[tab l i]else o) [] n).length<=0+n:=jI (fun i l=>by split<;>simp)
 unfold eJ;refine gon ?_;refine dT 5 34 ?_;simp only[go_sem];refine dI l.length (fun i=>[(6,.int .i64 i),(5,.hs 34 0 0 (aH (fun i o=>if e<=(tab l i).cp.ep then o++[tab l i]else o) [] i).length)]) (fun i=>[.vec 34 (rows aB.c (aH (fun i o=>if e<=(tab l i).cp.ep then o++[tab l i]else o) [] i))]) (fun i h1 hw h2=>?_) (fun h=>?_)
 ·have hgd:(rows aB.c l).getD i []=bE (tab l i).a:=aK (f:=aB.c) default h1;have hs:=bg (fun i o=>if e<=(tab l i).cp.ep then o++[tab l i]else o) [] i;have hli:=hl i;clear hl;generalize aH (fun i o=>if e<=(tab l i).cp.ep then o++[tab l i]else o) [] i=acc at *;generalize aH (fun i o=>if e<=(tab l i).cp.ep then o++[tab l i]else o) [] (i+1)=acc2 at *;simp only[<-ac8]at hs;have hr:rows aB.c acc++[bE (tab l i).a]=rows aB.c (acc++[tab l i]):=dn aB.c acc (tab l i);exact aw
 ·clear hl;exact aw
theorem Gi(l:List aB)(c:Cp):∀f i,iF l c f i<=i+f
 |0,i=>afE _
 |f+1,i=>by unfold iF;have:=Gi l c f (i+1);grind
theorem Lz(l:List aB)(t:aB)(i:Nat)(hi:i<=l.length)(hb:l.length<=2097152)(ht:t.bals.length<=2097152):Tri Tryz.prog 35 0 (dQ.tl 3) (PQ [.tmp 4] (.sl 34 false (rows aB.c (l.take i++[t]++l.drop i)))) ⟨6,[.sl 34 false (rows aB.c l),.agg (bE t.a),.dead,.ptr 0 0,.sl 0 true [],.int .i64 i],[]⟩ [.var (bE t.a)]:=by
 unfold dQ;refine bd ?_;simp only[am.tl];have cp:=Bu t ht;have r1:rows aB.c (l.take i)++[bE t.a]=rows aB.c (l.take i++[t]):=dn aB.c _ t;have r2:=xj aB.c (l.take i++[t]) (l.drop i);have hm:min i l.length=i:=af0
 repeat(first|refine aM ?_|omega)
 refine aP (cp) ?_;have ht2:(l.drop i).take (l.length-i)=l.drop i:=afD af1;repeat(first|refine aM ?_|simp only[go_sem,r1,r2,pZ,yx,adG,acT,hm,ht2])
 refine⟨_,(by first|rfl|omega),.inl ?_⟩;refine evg ?_;rw[afA af3,afD (by simp;omega)]
theorem I8(l:List aB)(t:aB)(hb:l.length<=2097152)(ht:t.bals.length<=2097152):PC Tryz.prog 297 [.sl 34 false (rows aB.c l),.agg (bE t.a)] (.sl 34 false (rows aB.c (mF l t))):=by
 have hK:iF l t.cp l.length 0<=l.length:=by have:=Gi l t.cp l.length 0;omega
 have tl:=fun i hi=>Lz l t i hi hb ht
 unfold mF;dsimp only;refine pfn 6 zC ?_;have hc:dQ=.seq dQ.hd (.seq (dQ.tl 1).hd (.seq (dQ.tl 2).hd (dQ.tl 3))):=rfl;rw[hc];clear hc;generalize dQ.tl 3=cT at *;unfold dQ;refine bd ?_;simp only[am.tl,am.hd];refine gon ?_;refine aE (fun i:Nat=>[(5,.int .i64 i)]) (fun _=>[.var (bE t.a)]) (fun i=>l.length-i) (fun i=>i<=l.length/\iF l t.cp l.length 0=iF l t.cp (l.length-i) i) 0 ⟨afK _,rfl⟩ ?_ ?_
 ·exact abS [] [0]
 rintro i ⟨hi,hn⟩;rw[hn]at hK ⊢;refine fM ?_;by_cases h1:i<l.length
 ·have e1:=inT h1
  have hw:=ae h1 af0;have hgd:(rows aB.c l).getD i []=bE (tab l i).a:=aK (f:=aB.c) default h1;have c1:=Ft (tab l i).cp t.cp;obtain⟨f,hf⟩:∃f,l.length-i=f+1:=⟨l.length-i-1,af0⟩
  have hs:iF l t.cp (l.length-i) i=if gT (tab l i).cp t.cp<0 then iF l t.cp (l.length-(i+1)) (i+1)else i:=by rw[hf,show l.length-(i+1)=f by omega];rfl
  refine bm e1 hgd ?_;refine aP (c1) ?_;refine gon ?_;refine eQ (fun h=>?_) (fun h=>?_)
  ·rw[afA (by simpa using h)]at hs;rw[hs];refine aA hw ?_;refine⟨i+1,⟨h1,rfl⟩,af0,?_⟩;exact abS [] [0]
  ·rw[afx (by simpa using h)]at hs;rw[hs];refine gon ?_;refine fN ?_ (tl i hi);exact abS [] [0]
 ·obtain rfl:i=l.length:=af0
  have e1:=inF (l.length);rw[aey]at *;refine aS e1 ?_;refine fN ?_ (tl l.length hi);exact abS [] [0]
theorem KI(l:List aB)(t:aB)(n limit:Int)(hb:l.length<=2097152)(ht:t.bals.length<=2097152):PC Tryz.prog 214 [.sl 34 false (rows aB.c l),.agg (bE t.a),.int .i64 n,.int .i64 limit] (.tup [.sl 34 false (rows aB.c (ib l t n limit).1),.int .i64 (ib l t n limit).2]):=by
 refine aQ 11 ?_;have c1:=tH t n ht;have c2:=qy l t.cp hb;have c3:=I8 l t hb ht;unfold ib;generalize fY t n=E at *;generalize dr l t.cp=F at *;generalize mF l t=A at *;exact aw
theorem PL(d:Int)(c:Rt)(l:List Int)(i:Nat)(p:List Vot×Int):(kP d c l i p).1.length=p.1.length:=by unfold kP;grind
theorem nP(d:Int)(b:Rt)(l:List Int)(v:List Vot):∀i,(aH (kP d b l) (v,0) i).1.length=v.length
 |0=>rfl
 |i+1=>by rw[bg,PL,nP d b l v i]
theorem Fm(v:List Vot)(ep:Int)(root:Rt)(l:List Int)(hv:v.length<=2097152)(hl:l.length<=2097152)(hj:∀j∈l,0<=j/\j<v.length):PC Tryz.prog 289 [.sl 34 false (rows bJ v),.int .u64 ep,.agg (rtc root),.sl 1 false (ah .i64 l)] (.tup [.sl 34 false (rows bJ (vJ v ep root l).1),.int .i64 (vJ v ep root l).2]):=by
 refine aQ 14 ?_;unfold vJ;refine nx fun _=>?_
 refine dI l.length (fun i=>[(12,.int .i64 i),(11,.int .i64 (aH (kP ep root l) (v,0) i).2)]) (fun i=>[.var (rtc root),.vec 34 (rows bJ (aH (kP ep root l) (v,0) i).1)]) (fun i h1 hw h2=>?_) (fun h=>?_)
 ·have hgd:=gdn (k:=.i64) h1;have hm:l.getD i 0∈l:=by rw[afy,afz h1];exact afY h1
  obtain⟨j0,j1⟩:=hj _ hm;have hs:=bg (kP ep root l) (v,0) i;have hlen:=nP ep root l v i;generalize aH (kP ep root l) (v,0) i=p at *;obtain⟨u,n⟩:=p;dsimp only at hlen;have hc:kP ep root l i (u,n)=if (vot u (l.getD i 0).toNat).has=false\/(vot u (l.getD i 0).toNat).ep<ep then (u.set (l.getD i 0).toNat ⟨true,ep,root⟩,IntKind.i64.wrap (n+1))else (u,n):=rfl
  rw[hc]at hs;clear hc hm hj;obtain⟨j,hj⟩:=afF j0;rw[hj]at hs hgd j1;rw[afH]at hs;have h3:j<u.length:=af0
  have hgu:(rows bJ u).getD j []=bJ (vot u j):=aK (f:=bJ) eY h3;have hset:=pY bJ u j ⟨true,ep,root⟩;clear hj j0;generalize vot u j=x at *;obtain⟨xh,xe,xr⟩:=x;dsimp only at hs;cases xh<;>exact aw
 ·have hlen:=nP ep root l v l.length;generalize aH (kP ep root l) (v,0) l.length=p at *;have htk:List.take v.length (rows bJ p.1)=rows bJ p.1:=afD (by simp[hlen]);clear hj;exact aw
def pV(l:List Int)(i:Nat)(o:List Int):List Int:=kV o (l.getD i 0)
def ym(set l:List Int):List Int:=aH (pV l) set l.length
theorem Ap(set l:List Int):∀i,(aH (pV l) set i).length<=set.length+i
 |0=>afE _
 |i+1=>by rw[bg];have:=JZ (aH (pV l) set i) (l.getD i 0);have:=Ap set l i;unfold pV at *;omega
theorem KF(set l:List Int)(hb:set.length+l.length<=2097152):PC Tryz.prog 212 [.sl 1 false (ah .i64 set),.sl 1 false (ah .i64 l)] (.tup [.sl 1 false (ah .i64 (ym set l)),.int .i64 (IntKind.i64.wrap ((ym set l).length-set.length))]):=by
 refine aQ 8 ?_;unfold ym;refine gon ?_;refine aE (fun i:Nat=>[(7,.int .i64 i),(6,.sl 1 false (ah .i64 (aH (pV l) set i)))]) (fun i=>[]) (fun i=>l.length-i) (fun i=>i<=l.length) 0 (afK _) ?_ ?_
 ·exact abS [0] []
 intro i hi;refine fM ?_;by_cases h1:i<l.length
 ·have e1:=inT h1;have hw:=ae h1 af0;have hgd:=gdn (k:=.i64) h1;have hs:=bg (pV l) set i;have hlen:=Ap set l i;have c1:=J1 (aH (pV l) set i) (l.getD i 0) af0;unfold pV at hs;rw[show kV (aH (pV l) set i) (l.getD i 0)=aH (pV l) set (i+1)from rfl]at c1;refine bO e1 ?_;refine bm hgd acO ?_;refine ap c1 ?_;refine aA hw ?_;refine⟨i+1,h1,af0,?_⟩;exact abS [] []
 ·obtain rfl:i=l.length:=af0
  have e1:=inF (l.length);refine aS e1 ?_;exact aj
def wtS(latest:List Vot)(eqv bals:List Int)(roots:List Rt)(i:Nat)(n:Int):Int:=if (vot latest i).has=true/\(i:Int)∉eqv/\(vot latest i).root∈roots then IntKind.u64.wrap (n+bals.getD i 0)else n
theorem Lu(latest:List Vot)(eqv bals:List Int)(roots:List Rt)(h1:latest.length<=2097152)(h2:eqv.length<=2097152)(h3:bals.length<=2097152)(h4:roots.length<=2097152):PC Tryz.prog 136 [.agg [.sl 34 false (rows bJ latest),.sl 1 false (ah .i64 eqv)],.sl 1 false (ah .u64 bals),.sl 32 true (rows rtc roots)] (.int .u64 (oZ latest eqv bals roots)):=by
 refine aQ 9 ?_;show Tri _ _ _ _ (PQ _ (.int .u64 (aH (wtS latest eqv bals roots) 0 (min bals.length latest.length)))) _ _
 refine nx fun _=>?_
 refine aE (fun i:Nat=>[(8,.int .i64 i),(7,.int .u64 (aH (wtS latest eqv bals roots) 0 i))]) (fun i=>[.var [.sl 34 false (rows bJ latest),.sl 1 false (ah .i64 eqv)]]) (fun i=>bals.length-i) (fun i=>i<=min bals.length latest.length) 0 (afK _) ?_ ?_
 ·exact aw
 intro i hi;by_cases q1:i<bals.length
 ·have z1:(i:Int)<bals.length:=af0
  by_cases q2:i<latest.length
  ·have z2:(i:Int)<latest.length:=af0
   have hw:=ae q1 af0;have hs:=bg (wtS latest eqv bals roots) 0 i;have hgl:=aK (f:=bJ) eY q2;have hgb:=gdn (k:=.u64) q1;have c1:=BS eqv false (i:Int) af0;have c2:=Eb roots true (vot latest i).root h4;generalize aH (wtS latest eqv bals roots) 0 i=n at *;have hc:wtS latest eqv bals roots i n=if (vot latest i).has=true/\(i:Int)∉eqv/\(vot latest i).root∈roots then IntKind.u64.wrap (n+bals.getD i 0)else n:=rfl
   rw[hc]at hs;clear hc;change (rows bJ latest).getD i []=bJ (vot latest i)at hgl
   generalize vot latest i=x at *;obtain⟨xh,xe,xr⟩:=x;dsimp only at hs c2;have hm:i+1<=min bals.length latest.length:=af0
   refine nx fun _=>?_
   cases xh<;>by_cases q3:(i:Int)∈eqv<;>by_cases q4:xr∈roots<;>(refine nx fun _=>?_;exact⟨i+1,hm,af0,aw⟩)
  ·have z2:¬ (i:Int)<latest.length:=af0
   obtain rfl:i=min bals.length latest.length:=af0
   exact aw
 ·have z1:¬ (i:Int)<bals.length:=af0
  obtain rfl:i=min bals.length latest.length:=af0
  exact aw
end Go.Proofs.YtmpddimhleianaaGreat
