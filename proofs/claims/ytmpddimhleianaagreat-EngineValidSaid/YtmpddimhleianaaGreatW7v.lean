/- Joined. -/
import Derived.Test.YtmpddimhleianaaGreatW4v
import Derived.Test.YtmpddimhleianaaGreatW3v
set_option linter.unusedVariables false
set_option linter.unusedSimpArgs false
set_option maxRecDepth 8000
set_option maxHeartbeats 4000000
namespace Go.Proofs.YtmpddimhleianaaGreat
open Go Go.FH
def br(n:Nat):List UInt8:=if h:n<128 then [UInt8.ofNat n]else UInt8.ofNat (n%128+128)::br (n / 128)
termination_by n
decreasing_by omega
theorem jH{n:Nat}(h:128<=n):br n=UInt8.ofNat (n%128+128)::br (n / 128):=by rw[br,dif_neg af0]
theorem fO{n:Nat}(h:n<128):br n=[UInt8.ofNat n]:=by rw[br,dif_pos h]
theorem YH:∀k:Fin 256,ior .u8 ((k.val:Nat):Int) 128=((k.val%128+128:Nat):Int):=by decide +kernel
theorem uhi(m:Nat):ior .u8 (IntKind.u8.wrap (m:Int)) 128=((UInt8.ofNat (m%128+128)).toNat:Int):=by
 have h:=YH ⟨m%256,af0⟩;simp only at h;rw[show IntKind.u8.wrap (m:Int)=((m%256:Nat):Int)by rw[IntKind.wrap_u8];omega,h];simp only[aeK];omega
theorem ulo{m:Nat}(h:m<128):IntKind.u8.wrap (m:Int)=((UInt8.ofNat m).toNat:Int):=by
 rw[IntKind.wrap_u8];simp only[aeK];omega
theorem Ll(m:Nat):fd .u64 (m:Int) 7=((m / 128:Nat):Int):=by
 unfold fd;rw[show ((2:Int) ^ (min 7 IntKind.u64.bits))=((128:Nat):Int)by decide];rw[ade _ af0];rfl
theorem Li:∀ (k n:Nat),n<128 ^ (k+1)->(br n).length<=k+1
 |0,n,h=>by rw[fO (by simpa using h)];simp
 | k + 1, n, h => by
   by_cases hn:n<128
   ·rw[fO hn];simp
   ·rw[jH af0,afG]
    have:n / 128<128 ^ (k+1):=by
     rw[Nat.div_lt_iff_lt_mul af0];rw[Nat.pow_succ]at h;exact h
    have:=Li k (n / 128) this;omega
theorem d8{n:Nat}(h:n<18446744073709551616):(br n).length<=10:=Li 9 n af0
theorem Wh(n:Nat):0<(br n).length:=by
 by_cases hn:n<128
 ·rw[fO hn];simp
 ·rw[jH af0];simp
structure App(f:FuncId)(xs:List AV)(e:List UInt8):Prop where
 clip:∀bs:List UInt8,bs.length+e.length<=140737488355328->aJ Tryz.prog f (.sl 1 true (bts bs)::xs) [] (.hs 1 0 0 (bs.length+e.length)) [.vec 1 (bts (bs++e))]
 own:∀bs:List UInt8,bs.length+e.length<=140737488355328->aJ Tryz.prog f (.hs 1 0 0 bs.length::xs) [.vec 1 (bts bs)] (.hs 1 1 0 (bs.length+e.length)) [.gone,.vec 1 (bts (bs++e))]
theorem Xg(m:Nat):gD .u64 (m:Int) 127=((m%128:Nat):Int):=by
 unfold gD
 have:(BitVec.ofInt IntKind.u64.bits (m:Int) &&& BitVec.ofInt IntKind.u64.bits 127).toNat=m%128:=by
  rw[aee,BitVec.ofInt_natCast,show BitVec.ofInt IntKind.u64.bits 127=BitVec.ofNat IntKind.u64.bits (2 ^ 7-1)by decide,aeL,aeL];rw[show (2 ^ 7-1)%2 ^ IntKind.u64.bits=2 ^ 7-1 by decide,Nat.and_two_pow_sub_one_eq_mod];rw[Nat.mod_mod_of_dvd _ af2]
 rw[this,aC af0 af0]
theorem YG(m:Nat):ior .u8 (IntKind.u8.wrap (gD .u64 (m:Int) 127)) 128=((UInt8.ofNat (m%128+128)).toNat:Int):=by
 rw[Xg,uhi,Nat.mod_mod]
theorem eI(n:Int)(h0:0<=n)(h1:n<18446744073709551616):App 164 [.int .u64 n] (br n.toNat):=by
 constructor
 ·intro bs hb
  refine cZ 5 ?_;refine gon ?_
  refine eR (fun x:Bool×List UInt8×Nat=>⟨5,[if x.1 then .hs 1 0 0 x.2.1.length else .sl 1 true (bts x.2.1),.int .u64 x.2.2,.dead,.dead,.dead],[]⟩) (fun x=>if x.1 then [.vec 1 (bts x.2.1)]else []) (fun x=>x.2.2)
   (fun x=>x.2.1++br x.2.2=bs++br n.toNat/\x.2.2<18446744073709551616) (false,bs,n.toNat) ⟨rfl,by dsimp only;omega⟩ ?_ ?_
  ·refine GC.mk' [] [] af1 rfl af1 af1 (by simp[gB]) ?_;simp[gH,fz,nW,ren,lP,rn,gm,dm];try omega
  rintro⟨st,acc,m⟩ ⟨h2,h3⟩;dsimp only at h2 h3 ⊢;have hl:acc.length+(br m).length=bs.length+(br n.toNat).length:=by simpa using acM List.length h2
  cases st
  ·refine gon ?_
   refine bM evd (fun h=>?_) (fun h=>?_)
   ·have hm:128<=m:=by simp at h;omega
    rw[jH hm]at h2 hl;simp only[afG]at hl;refine gon ?_;simp only[Ll,uhi];refine evg ?_
    refine⟨(true,acc++[UInt8.ofNat (m%128+128)],m / 128),⟨by simpa using h2,by dsimp only;omega⟩,by dsimp only;omega,?_⟩;exact abS [] [0]
   ·have hm:m<128:=by simp at h;omega
    rw[fO hm]at h2 hl;simp only[afG,afM,acC]at hl;refine gon ?_;rw[<-h2,<-hl];simp only[ulo hm];refine evg ?_
    exact abF [] [0]
  ·refine gon ?_
   refine bM evd (fun h=>?_) (fun h=>?_)
   ·have hm:128<=m:=by simp at h;omega
    rw[jH hm]at h2 hl;simp only[afG]at hl;refine gon ?_;simp only[Ll,uhi];refine evg ?_
    refine⟨(true,acc++[UInt8.ofNat (m%128+128)],m / 128),⟨by simpa using h2,by dsimp only;omega⟩,by dsimp only;omega,?_⟩;exact abS [] [1]
   ·have hm:m<128:=by simp at h;omega
    rw[fO hm]at h2 hl;simp only[afG,afM,acC]at hl;refine gon ?_;rw[<-h2,<-hl];simp only[ulo hm];refine evg ?_
    exact abF [] [1]
 ·intro bs hb
  refine cZ 5 ?_;refine gon ?_
  refine eR (fun x:Bool×List UInt8×Nat=>⟨5,[if x.1 then .hs 1 1 0 x.2.1.length else .hs 1 0 0 x.2.1.length,.int .u64 x.2.2,.dead,.dead,.dead],[]⟩) (fun x=>if x.1 then [.gone,.vec 1 (bts x.2.1)]else [.vec 1 (bts x.2.1)]) (fun x=>x.2.2)
   (fun x=>x.2.1++br x.2.2=bs++br n.toNat/\x.2.2<18446744073709551616) (false,bs,n.toNat) ⟨rfl,by dsimp only;omega⟩ ?_ ?_
  ·refine GC.mk' [] [0] af1 rfl af1 af1 (by simp[gB,jh,lP,rn,fzO,nW]) ?_;simp[gH,fz,nW,ren,lP,rn,gm,dm];try omega
  rintro⟨st,acc,m⟩ ⟨h2,h3⟩;dsimp only at h2 h3 ⊢;have hl:acc.length+(br m).length=bs.length+(br n.toNat).length:=by simpa using acM List.length h2
  cases st
  ·refine gon ?_
   refine bM evd (fun h=>?_) (fun h=>?_)
   ·have hm:128<=m:=by simp at h;omega
    rw[jH hm]at h2 hl;simp only[afG]at hl;refine gon ?_;simp only[Ll,uhi];refine evg ?_
    refine⟨(true,acc++[UInt8.ofNat (m%128+128)],m / 128),⟨by simpa using h2,by dsimp only;omega⟩,by dsimp only;omega,?_⟩;exact abS [] [0,1]
   ·have hm:m<128:=by simp at h;omega
    rw[fO hm]at h2 hl;simp only[afG,afM,acC]at hl;refine gon ?_;rw[<-h2,<-hl];simp only[ulo hm];refine evg ?_
    exact abF [] [0,1]
  ·refine gon ?_
   refine bM evd (fun h=>?_) (fun h=>?_)
   ·have hm:128<=m:=by simp at h;omega
    rw[jH hm]at h2 hl;simp only[afG]at hl;refine gon ?_;simp only[Ll,uhi];refine evg ?_
    refine⟨(true,acc++[UInt8.ofNat (m%128+128)],m / 128),⟨by simpa using h2,by dsimp only;omega⟩,by dsimp only;omega,?_⟩;exact abS [] [0,2]
   ·have hm:m<128:=by simp at h;omega
    rw[fO hm]at h2 hl;simp only[afG,afM,acC]at hl;refine gon ?_;rw[<-h2,<-hl];simp only[ulo hm];refine evg ?_
    exact abF [] [0,2]
theorem ef(n:Int)(h0:0<=n)(h1:n<18446744073709551616):App 199 [.int .u64 n] (br n.toNat):=by
 constructor
 ·intro bs hb
  refine cZ 5 ?_;refine gon ?_
  refine eR (fun x:Bool×List UInt8×Nat=>⟨5,[if x.1 then .hs 1 0 0 x.2.1.length else .sl 1 true (bts x.2.1),.int .u64 x.2.2,.dead,.dead,.sl 0 true []],[]⟩) (fun x=>if x.1 then [.vec 1 (bts x.2.1)]else []) (fun x=>x.2.2)
   (fun x=>x.2.1++br x.2.2=bs++br n.toNat/\x.2.2<18446744073709551616) (false,bs,n.toNat) ⟨rfl,by dsimp only;omega⟩ ?_ ?_
  ·refine GC.mk' [] [] af1 rfl af1 af1 (by simp[gB]) ?_;simp[gH,fz,nW,ren,lP,rn,gm,dm];try omega
  rintro⟨st,acc,m⟩ ⟨h2,h3⟩;dsimp only at h2 h3 ⊢;have hl:acc.length+(br m).length=bs.length+(br n.toNat).length:=by simpa using acM List.length h2
  cases st
  ·refine gon ?_
   refine bM evd (fun h=>?_) (fun h=>?_)
   ·have hm:128<=m:=by simp at h;omega
    rw[jH hm]at h2 hl;simp only[afG]at hl;refine gon ?_;simp only[Ll,YG];refine evg ?_
    refine⟨(true,acc++[UInt8.ofNat (m%128+128)],m / 128),⟨by simpa using h2,by dsimp only;omega⟩,by dsimp only;omega,?_⟩;exact abS [] [0]
   ·have hm:m<128:=by simp at h;omega
    rw[fO hm]at h2 hl;simp only[afG,afM,acC]at hl;refine gon ?_;rw[<-h2,<-hl];simp only[ulo hm];refine evg ?_
    exact abF [] [0]
  ·refine gon ?_
   refine bM evd (fun h=>?_) (fun h=>?_)
   ·have hm:128<=m:=by simp at h;omega
    rw[jH hm]at h2 hl;simp only[afG]at hl;refine gon ?_;simp only[Ll,YG];refine evg ?_
    refine⟨(true,acc++[UInt8.ofNat (m%128+128)],m / 128),⟨by simpa using h2,by dsimp only;omega⟩,by dsimp only;omega,?_⟩;exact abS [] [1]
   ·have hm:m<128:=by simp at h;omega
    rw[fO hm]at h2 hl;simp only[afG,afM,acC]at hl;refine gon ?_;rw[<-h2,<-hl];simp only[ulo hm];refine evg ?_
    exact abF [] [1]
 ·intro bs hb
  refine cZ 5 ?_;refine gon ?_
  refine eR (fun x:Bool×List UInt8×Nat=>⟨5,[if x.1 then .hs 1 1 0 x.2.1.length else .hs 1 0 0 x.2.1.length,.int .u64 x.2.2,.dead,.dead,.sl 0 true []],[]⟩) (fun x=>if x.1 then [.gone,.vec 1 (bts x.2.1)]else [.vec 1 (bts x.2.1)]) (fun x=>x.2.2)
   (fun x=>x.2.1++br x.2.2=bs++br n.toNat/\x.2.2<18446744073709551616) (false,bs,n.toNat) ⟨rfl,by dsimp only;omega⟩ ?_ ?_
  ·refine GC.mk' [] [0] af1 rfl af1 af1 (by simp[gB,jh,lP,rn,fzO,nW]) ?_;simp[gH,fz,nW,ren,lP,rn,gm,dm];try omega
  rintro⟨st,acc,m⟩ ⟨h2,h3⟩;dsimp only at h2 h3 ⊢;have hl:acc.length+(br m).length=bs.length+(br n.toNat).length:=by simpa using acM List.length h2
  cases st
  ·refine gon ?_
   refine bM evd (fun h=>?_) (fun h=>?_)
   ·have hm:128<=m:=by simp at h;omega
    rw[jH hm]at h2 hl;simp only[afG]at hl;refine gon ?_;simp only[Ll,YG];refine evg ?_
    refine⟨(true,acc++[UInt8.ofNat (m%128+128)],m / 128),⟨by simpa using h2,by dsimp only;omega⟩,by dsimp only;omega,?_⟩;exact abS [] [0,1]
   ·have hm:m<128:=by simp at h;omega
    rw[fO hm]at h2 hl;simp only[afG,afM,acC]at hl;refine gon ?_;rw[<-h2,<-hl];simp only[ulo hm];refine evg ?_
    exact abF [] [0,1]
  ·refine gon ?_
   refine bM evd (fun h=>?_) (fun h=>?_)
   ·have hm:128<=m:=by simp at h;omega
    rw[jH hm]at h2 hl;simp only[afG]at hl;refine gon ?_;simp only[Ll,YG];refine evg ?_
    refine⟨(true,acc++[UInt8.ofNat (m%128+128)],m / 128),⟨by simpa using h2,by dsimp only;omega⟩,by dsimp only;omega,?_⟩;exact abS [] [0,2]
   ·have hm:m<128:=by simp at h;omega
    rw[fO hm]at h2 hl;simp only[afG,afM,acC]at hl;refine gon ?_;rw[<-h2,<-hl];simp only[ulo hm];refine evg ?_
    exact abF [] [0,2]
theorem y6:[[AV.int .u8 0]]=bts [0]:=rfl
theorem y7:[[AV.int .u8 1]]=bts [1]:=rfl
def oC(x:Bool):List UInt8:=if x then [1]else [0]
theorem Rj(x:Bool):App 246 [.bool x] (oC x):=by
 constructor<;>intro bs hb<;>cases x<;>simp only[oC,afP,acq,aco,afG,afM]at hb ⊢
 ·refine cZ 5 ?_;refine gon ?_;refine bM rfl (fun h=>by cases h) (fun h=>?_);refine gon ?_;(try simp only[y6,y7,kJ])
  exact abF [] [0]
 ·refine cZ 5 ?_;refine gon ?_;refine bM rfl (fun h=>?_) (fun h=>by cases h);refine gon ?_;(try simp only[y6,y7,kJ])
  exact abF [] [0]
 ·refine cZ 5 ?_;refine gon ?_;refine bM rfl (fun h=>by cases h) (fun h=>?_);refine gon ?_;(try simp only[y6,y7,kJ])
  exact abF [] [0,1]
 ·refine cZ 5 ?_;refine gon ?_;refine bM rfl (fun h=>?_) (fun h=>by cases h);refine gon ?_;(try simp only[y6,y7,kJ])
  exact abF [] [0,1]
theorem RN(x:Bool):App 282 [.bool x] (oC x):=by
 constructor<;>intro bs hb<;>cases x<;>simp only[oC,afP,acq,aco,afG,afM]at hb ⊢
 ·refine cZ 5 ?_;refine gon ?_;refine bM rfl (fun h=>by cases h) (fun h=>?_);refine gon ?_;(try simp only[y6,y7,kJ])
  exact abF [] [0]
 ·refine cZ 5 ?_;refine gon ?_;refine bM rfl (fun h=>?_) (fun h=>by cases h);refine gon ?_;(try simp only[y6,y7,kJ])
  exact abF [] [0]
 ·refine cZ 5 ?_;refine gon ?_;refine bM rfl (fun h=>by cases h) (fun h=>?_);refine gon ?_;(try simp only[y6,y7,kJ])
  exact abF [] [0,1]
 ·refine cZ 5 ?_;refine gon ?_;refine bM rfl (fun h=>?_) (fun h=>by cases h);refine gon ?_;(try simp only[y6,y7,kJ])
  exact abF [] [0,1]
theorem jj(r:Rt):App 243 [.agg (rtc r)] r.1:=by
 have hr:=r.2;constructor<;>intro bs hb
 ·refine cZ 5 ?_;repeat(first|refine aM ?_|simp only[go_sem,jX r,hr])
  exact abF [] [1]
 ·refine cZ 5 ?_;repeat(first|refine aM ?_|simp only[go_sem,jX r,hr])
  exact abF [] [0,2]
theorem iw(r:Rt):App 279 [.agg (rtc r)] r.1:=by
 have hr:=r.2;constructor<;>intro bs hb
 ·refine cZ 5 ?_;repeat(first|refine aM ?_|simp only[go_sem,jX r,hr])
  exact abF [] [1]
 ·refine cZ 5 ?_;repeat(first|refine aM ?_|simp only[go_sem,jX r,hr])
  exact abF [] [0,2]
def Y9(a:Wd)(i:Nat):UInt8:=byt (fd .u64 (a.1.getD (i / 8) 0) (8*(i%8)))
def lO(a:Wd)(k:Nat):Rt:=if h:k=0 then rt0 else (lO a (k-1)).set (31-(k-1)) (Y9 a (k-1))
termination_by k
decreasing_by omega
theorem Ko(a:Wd):lO a 0=rt0:=by rw[lO,dif_pos rfl]
theorem Kp(a:Wd)(i:Nat):lO a (i+1)=(lO a i).set (31-i) (Y9 a i):=by rw[lO,dif_neg af0];rfl
theorem SJ{cs:List AV}(h:PuL cs):Pu (.agg cs):=h
def cQ(a:Wd):Rt:=lO a 32
theorem ix1{i:Nat}(h:i<32):IntKind.i64.wrap (31-(i:Int))=((31-i:Nat):Int):=by rw[ar af0 af0];omega
theorem ix2{i:Nat}(h:i<32):IntKind.i64.wrap ((i:Int).tdiv 8)=((i / 8:Nat):Int):=by
 rw[acy af0,ar af0 af0];rfl
theorem ix3(i:Nat):(i:Int).tmod 8=((i%8:Nat):Int):=by rw[adC af0];rfl
theorem ix4(i:Nat):IntKind.i64.wrap (8*((i%8:Nat):Int))=((8*(i%8):Nat):Int):=by rw[ar af0 af0];omega
theorem ix5{i:Nat}(h:i<32):IntKind.i64.wrap ((i:Int)+1)=((i+1:Nat):Int):=by rw[ar af0 af0];omega
theorem ix6(i:Nat):IntKind.u64.wrap ((8*(i%8):Nat):Int)=((8*(i%8):Nat):Int):=aC af0 af0
theorem zl(n:Int):IntKind.u8.wrap n=((byt n).toNat:Int):=(Wu n).symm
theorem xy(a:Wd):PC Tryz.prog 317 [.agg (wdc a)] (.agg (rtc (cQ a))):=by
 refine PC.fact 6 BE af1 ⟨jK a,trivial⟩ (SJ (dH _)) ?_;unfold rO;refine bd ?_;refine gon ?_
 refine kh (fun i:Nat=>⟨6,[.agg (wdc a),.ptr 0 0,.ptr 1 0,.ptr 2 0,.dead,.int .i64 i],[]⟩) (fun i=>[.var (wdc a),.var (rtc rt0),.var (rtc (lO a i))]) (fun i=>32-i) (fun i=>i<=32) [4] 0 af0 (by first|((try simp only[go_sem,Nat.reduceAdd,Nat.reduceSub,Nat.reduceMul,Nat.reduceLT,Nat.reduceLeDiff,Nat.reduceEqDiff,reduceIte,Int.reduceToNat,Int.reduceLT,Int.reduceLE,Int.reduceEq,Int.reduceNeg,reduceCtorEq,Int.reduceBEq,Int.reduceBNe]);done)|((try simp only[go_sem,Nat.reduceAdd,Nat.reduceSub,Nat.reduceMul,Nat.reduceLT,Nat.reduceLeDiff,Nat.reduceEqDiff,reduceIte,Int.reduceToNat,Int.reduceLT,Int.reduceLE,Int.reduceEq,Int.reduceNeg,reduceCtorEq,Int.reduceBEq,Int.reduceBNe]);rfl)) (by rw[Ko]) ?_;intro i hi;try dsimp only
 refine gon ?_;refine bM evd (fun h=>?_) (fun h=>?_)
 ·have h1:i<32:=by simp at h;omega
  have s1:∀b:UInt8,spl (rtc (lO a i)) (31-i) [.int .u8 b.toNat]=rtc ((lO a i).set (31-i) b):=fun b=>xo _ af0 b
  repeat(first|refine aM ?_|simp only[go_sem,acO,ix1 h1,ix2 h1,ix3 i,ix4 i,ix5 h1,ix6 i,Ju a (show i / 8<4 by omega),zl,s1])
  exact⟨i+1,h1,af0,rfl,by rw[Kp];rfl⟩
 ·have h1:i=32:=by simp at h;omega
  subst h1;refine gon ?_;exact aj
theorem uJ(a:Wd):PC Tryz.prog 342 [.agg (wdc a)] (.agg (rtc (cQ a))):=by
 refine PC.fact 5 BC af1 ⟨jK a,trivial⟩ (SJ (dH _)) ?_;unfold rM;refine bd ?_;refine gon ?_
 refine kh (fun i:Nat=>⟨5,[.agg (wdc a),.ptr 0 0,.ptr 1 0,.ptr 2 0,.int .i64 i],[]⟩) (fun i=>[.var (wdc a),.var (rtc rt0),.var (rtc (lO a i))]) (fun i=>32-i) (fun i=>i<=32) [] 0 af0 (by first|((try simp only[go_sem,Nat.reduceAdd,Nat.reduceSub,Nat.reduceMul,Nat.reduceLT,Nat.reduceLeDiff,Nat.reduceEqDiff,reduceIte,Int.reduceToNat,Int.reduceLT,Int.reduceLE,Int.reduceEq,Int.reduceNeg,reduceCtorEq,Int.reduceBEq,Int.reduceBNe]);done)|((try simp only[go_sem,Nat.reduceAdd,Nat.reduceSub,Nat.reduceMul,Nat.reduceLT,Nat.reduceLeDiff,Nat.reduceEqDiff,reduceIte,Int.reduceToNat,Int.reduceLT,Int.reduceLE,Int.reduceEq,Int.reduceNeg,reduceCtorEq,Int.reduceBEq,Int.reduceBNe]);rfl)) (by rw[Ko]) ?_;intro i hi;try dsimp only
 refine gon ?_;refine bM evd (fun h=>?_) (fun h=>?_)
 ·have h1:i<32:=by simp at h;omega
  have s1:∀b:UInt8,spl (rtc (lO a i)) (31-i) [.int .u8 b.toNat]=rtc ((lO a i).set (31-i) b):=fun b=>xo _ af0 b
  repeat(first|refine aM ?_|simp only[go_sem,acO,ix1 h1,ix2 h1,ix3 i,ix4 i,ix5 h1,ix6 i,Ju a (show i / 8<4 by omega),zl,s1])
  exact⟨i+1,h1,af0,rfl,by rw[Kp];rfl⟩
 ·have h1:i=32:=by simp at h;omega
  subst h1;refine gon ?_;exact aj
theorem GF(a:Wd):App 244 [.agg (wdc a)] (cQ a).1:=by
 have hr:=(cQ a).2;constructor<;>intro bs hb
 ·refine cZ 6 ?_;refine gon ?_;refine ap (xy a) ?_;repeat(first|refine aM ?_|simp only[go_sem,jX (cQ a),hr])
  exact abF [] [2]
 ·refine cZ 6 ?_;refine gon ?_;refine ap (xy a) ?_;repeat(first|refine aM ?_|simp only[go_sem,jX (cQ a),hr])
  exact abF [] [0,3]
theorem GQ(a:Wd):App 280 [.agg (wdc a)] (cQ a).1:=by
 have hr:=(cQ a).2;constructor<;>intro bs hb
 ·refine cZ 6 ?_;refine gon ?_;refine ap (uJ a) ?_;repeat(first|refine aM ?_|simp only[go_sem,jX (cQ a),hr])
  exact abF [] [2]
 ·refine cZ 6 ?_;refine gon ?_;refine ap (uJ a) ?_;repeat(first|refine aM ?_|simp only[go_sem,jX (cQ a),hr])
  exact abF [] [0,3]
def eM(c:Cp):List UInt8:=br c.ep.toNat++c.rt.1
def aa8(x:List UInt8):List UInt8:=br x.length++x
theorem tu(c:Cp)(h0:0<=c.ep)(h1:c.ep<18446744073709551616):App 245 [.agg (cpC c)] (eM c):=by
 have hr:=c.rt.2;constructor<;>intro bs hb<;>(simp only[eM,afB,hr]at hb)<;>(simp only[eM,afB,<-afZ,<-acZ])
 ·refine cZ 5 ?_;refine gon ?_;refine dsg [] ((eI c.ep h0 h1).clip bs af0) ?_;refine dsg [1] ((jj c.rt).own (bs++br c.ep.toNat) (by rw[afB,hr];omega)) ?_;exact abF [] [2]
 ·refine cZ 5 ?_;refine gon ?_;refine dsg [0] ((eI c.ep h0 h1).own bs af0) ?_;refine dsg [2] ((jj c.rt).own (bs++br c.ep.toNat) (by rw[afB,hr];omega)) ?_;exact abF [] [0,3]
theorem xm(c:Cp)(h0:0<=c.ep)(h1:c.ep<18446744073709551616):App 281 [.agg (cpC c)] (eM c):=by
 have hr:=c.rt.2;constructor<;>intro bs hb<;>(simp only[eM,afB,hr]at hb)<;>(simp only[eM,afB,<-afZ,<-acZ])
 ·refine cZ 5 ?_;refine gon ?_;refine dsg [] ((ef c.ep h0 h1).clip bs af0) ?_;refine dsg [1] ((iw c.rt).own (bs++br c.ep.toNat) (by rw[afB,hr];omega)) ?_;exact abF [] [2]
 ·refine cZ 5 ?_;refine gon ?_;refine dsg [0] ((ef c.ep h0 h1).own bs af0) ?_;refine dsg [2] ((iw c.rt).own (bs++br c.ep.toNat) (by rw[afB,hr];omega)) ?_;exact abF [] [0,3]
abbrev RR(α:Type):=List UInt8->Int->α×List UInt8×Int
end Go.Proofs.YtmpddimhleianaaGreat
namespace Go.Proofs.YtmpddimhleianaaGreat
open Go Go.FH Go.RowKit
theorem App.nil{f:FuncId}{xs:List AV}{e:List UInt8}(h:App f xs e)(he:e.length<=140737488355328):aJ Tryz.prog f (.sl 0 true []::xs) [] (.hs 1 0 0 e.length) [.vec 1 (bts e)]:=by
 have:=h.clip [] (by simpa using he);simp only[afM,acC,adN]at this;exact this.wk ⟨Wk.empty 0 1 _,WkL.refl _⟩
end Go.Proofs.YtmpddimhleianaaGreat
namespace Go.Proofs.YtmpddimhleianaaGreat
open Go Go.FH
def s1:List UInt8->Int
 | []=>0
 |x::xs=>(x.toNat:Int)+1+s1 xs
def s2:List UInt8->Int->Int
 | [],_=>0
 |x::xs,a=>(a+x.toNat+1)+s2 xs (a+x.toNat+1)
end Go.Proofs.YtmpddimhleianaaGreat
namespace Go.Proofs.YtmpddimhleianaaGreat
open Go Go.FH Go.RowKit
theorem Xo(a:Int):∃m:Nat,gD .i64 a 16777215=(m:Int):=by
 unfold gD;refine⟨(BitVec.ofInt IntKind.i64.bits a &&& BitVec.ofInt IntKind.i64.bits 16777215).toNat,?_⟩
 have h:(BitVec.ofInt IntKind.i64.bits a &&& BitVec.ofInt IntKind.i64.bits 16777215).toNat<=16777215:=by
  rw[aee];refine acn Nat.and_le_right ?_;decide
 rw[ar af0 af0]
end Go.Proofs.YtmpddimhleianaaGreat
