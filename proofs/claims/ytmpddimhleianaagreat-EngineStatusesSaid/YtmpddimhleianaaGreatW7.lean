/- Joined. -/
import Derived.Test.YtmpddimhleianaaGreatW4
import Derived.Test.YtmpddimhleianaaGreatW3
set_option linter.unusedVariables false
set_option linter.unusedSimpArgs false
set_option maxRecDepth 8000
set_option maxHeartbeats 4000000
namespace Go.Proofs.YtmpddimhleianaaGreat
open Go Go.FH
def br(n:Nat):List UInt8:=if h:n<128 then [UInt8.ofNat n]else UInt8.ofNat (n%128+128)::br (n / 128)
termination_by n
decreasing_by omega
theorem gF{n:Nat}(h:128<=n):br n=UInt8.ofNat (n%128+128)::br (n / 128):=by rw[br,dif_neg WL]
theorem eG{n:Nat}(h:n<128):br n=[UInt8.ofNat n]:=by rw[br,dif_pos h]
theorem afe:∀k:Fin 256,ior .u8 ((k.val:Nat):Int) 128=((k.val%128+128:Nat):Int):=by decide +kernel
theorem uhi(m:Nat):ior .u8 (IntKind.u8.wrap (m:Int)) 128=((UInt8.ofNat (m%128+128)).toNat:Int):=by
 have h:=afe ⟨m%256,WL⟩;simp only at h;rw[show IntKind.u8.wrap (m:Int)=((m%256:Nat):Int)by rw[IntKind.wrap_u8];omega,h];simp only[aj1];omega
theorem ulo{m:Nat}(h:m<128):IntKind.u8.wrap (m:Int)=((UInt8.ofNat m).toNat:Int):=by
 rw[IntKind.wrap_u8];simp only[aj1];omega
theorem Tn(m:Nat):fJ .u64 (m:Int) 7=((m / 128:Nat):Int):=by
 unfold fJ;rw[show ((2:Int) ^ (min 7 IntKind.u64.bits))=((128:Nat):Int)by decide];rw[aj4 _ WL];rfl
theorem Tk:∀ (k n:Nat),n<128 ^ (k+1)->(br n).length<=k+1
 |0,n,h=>by rw[eG (by simpa using h)];simp
 | k + 1, n, h => by
   by_cases hn:n<128
   ·rw[eG hn];simp
   ·rw[gF WL,al8]
    have:n / 128<128 ^ (k+1):=by
     rw[Nat.div_lt_iff_lt_mul WL];rw[Nat.pow_succ]at h;exact h
    have:=Tk k (n / 128) this;omega
theorem dT{n:Nat}(h:n<18446744073709551616):(br n).length<=10:=Tk 9 n WL
theorem QM(n:Nat):0<(br n).length:=by
 by_cases hn:n<128
 ·rw[eG hn];simp
 ·rw[gF WL];simp
structure App(f:FuncId)(xs:List AV)(e:List UInt8):Prop where
 clip:∀bs:List UInt8,bs.length+e.length<=140737488355328->ay Tryz.prog f (.sl 1 true (bts bs)::xs) [] (.hs 1 0 0 (bs.length+e.length)) [.vec 1 (bts (bs++e))]
 own:∀bs:List UInt8,bs.length+e.length<=140737488355328->ay Tryz.prog f (.hs 1 0 0 bs.length::xs) [.vec 1 (bts bs)] (.hs 1 1 0 (bs.length+e.length)) [.gone,.vec 1 (bts (bs++e))]
theorem adN(m:Nat):lI .u64 (m:Int) 127=((m%128:Nat):Int):=by
 unfold lI
 have:(BitVec.ofInt IntKind.u64.bits (m:Int) &&& BitVec.ofInt IntKind.u64.bits 127).toNat=m%128:=by
  rw[alc,BitVec.ofInt_natCast,show BitVec.ofInt IntKind.u64.bits 127=BitVec.ofNat IntKind.u64.bits (2 ^ 7-1)by decide,akl,akl];rw[show (2 ^ 7-1)%2 ^ IntKind.u64.bits=2 ^ 7-1 by decide,Nat.and_two_pow_sub_one_eq_mod];rw[Nat.mod_mod_of_dvd _ WN]
 rw[this,aN WL WL]
theorem afd(m:Nat):ior .u8 (IntKind.u8.wrap (lI .u64 (m:Int) 127)) 128=((UInt8.ofNat (m%128+128)).toNat:Int):=by
 rw[adN,uhi,Nat.mod_mod]
theorem gL(n:Int)(h0:0<=n)(h1:n<18446744073709551616):App 164 [.int .u64 n] (br n.toNat):=by
 constructor
 ·intro bs hb
  refine dS 5 ?_;refine gon ?_
  refine eZ (fun x:Bool×List UInt8×Nat=>⟨5,[if x.1 then .hs 1 0 0 x.2.1.length else .sl 1 true (bts x.2.1),.int .u64 x.2.2,.dead,.dead,.dead],[]⟩) (fun x=>if x.1 then [.vec 1 (bts x.2.1)]else []) (fun x=>x.2.2)
   (fun x=>x.2.1++br x.2.2=bs++br n.toNat/\x.2.2<18446744073709551616) (false,bs,n.toNat) ⟨rfl,by dsimp only;omega⟩ ?_ ?_
  ·refine GC.mk' [] [] WM rfl WM WM (by simp[iu]) ?_;simp[iP,fz,pw,ren,lR,rn,dh,bH];try omega
  rintro⟨st,acc,m⟩ ⟨h2,h3⟩;dsimp only at h2 h3 ⊢;have hl:acc.length+(br m).length=bs.length+(br n.toNat).length:=by simpa using ajG List.length h2
  cases st
  ·refine gon ?_
   refine aY evd (fun h=>?_) (fun h=>?_)
   ·have hm:128<=m:=by simp at h;omega
    rw[gF hm]at h2 hl;simp only[al8]at hl;refine gon ?_;simp only[Tn,uhi];refine evg ?_
    refine⟨(true,acc++[UInt8.ofNat (m%128+128)],m / 128),⟨by simpa using h2,by dsimp only;omega⟩,by dsimp only;omega,?_⟩;exact ais [] [0]
   ·have hm:m<128:=by simp at h;omega
    rw[eG hm]at h2 hl;simp only[al8,ama,amO]at hl;refine gon ?_;rw[<-h2,<-hl];simp only[ulo hm];refine evg ?_
    exact ahY [] [0]
  ·refine gon ?_
   refine aY evd (fun h=>?_) (fun h=>?_)
   ·have hm:128<=m:=by simp at h;omega
    rw[gF hm]at h2 hl;simp only[al8]at hl;refine gon ?_;simp only[Tn,uhi];refine evg ?_
    refine⟨(true,acc++[UInt8.ofNat (m%128+128)],m / 128),⟨by simpa using h2,by dsimp only;omega⟩,by dsimp only;omega,?_⟩;exact ais [] [1]
   ·have hm:m<128:=by simp at h;omega
    rw[eG hm]at h2 hl;simp only[al8,ama,amO]at hl;refine gon ?_;rw[<-h2,<-hl];simp only[ulo hm];refine evg ?_
    exact ahY [] [1]
 ·intro bs hb
  refine dS 5 ?_;refine gon ?_
  refine eZ (fun x:Bool×List UInt8×Nat=>⟨5,[if x.1 then .hs 1 1 0 x.2.1.length else .hs 1 0 0 x.2.1.length,.int .u64 x.2.2,.dead,.dead,.dead],[]⟩) (fun x=>if x.1 then [.gone,.vec 1 (bts x.2.1)]else [.vec 1 (bts x.2.1)]) (fun x=>x.2.2)
   (fun x=>x.2.1++br x.2.2=bs++br n.toNat/\x.2.2<18446744073709551616) (false,bs,n.toNat) ⟨rfl,by dsimp only;omega⟩ ?_ ?_
  ·refine GC.mk' [] [0] WM rfl WM WM (by simp[iu,iM,lR,rn,fzO,pw]) ?_;simp[iP,fz,pw,ren,lR,rn,dh,bH];try omega
  rintro⟨st,acc,m⟩ ⟨h2,h3⟩;dsimp only at h2 h3 ⊢;have hl:acc.length+(br m).length=bs.length+(br n.toNat).length:=by simpa using ajG List.length h2
  cases st
  ·refine gon ?_
   refine aY evd (fun h=>?_) (fun h=>?_)
   ·have hm:128<=m:=by simp at h;omega
    rw[gF hm]at h2 hl;simp only[al8]at hl;refine gon ?_;simp only[Tn,uhi];refine evg ?_
    refine⟨(true,acc++[UInt8.ofNat (m%128+128)],m / 128),⟨by simpa using h2,by dsimp only;omega⟩,by dsimp only;omega,?_⟩;exact ais [] [0,1]
   ·have hm:m<128:=by simp at h;omega
    rw[eG hm]at h2 hl;simp only[al8,ama,amO]at hl;refine gon ?_;rw[<-h2,<-hl];simp only[ulo hm];refine evg ?_
    exact ahY [] [0,1]
  ·refine gon ?_
   refine aY evd (fun h=>?_) (fun h=>?_)
   ·have hm:128<=m:=by simp at h;omega
    rw[gF hm]at h2 hl;simp only[al8]at hl;refine gon ?_;simp only[Tn,uhi];refine evg ?_
    refine⟨(true,acc++[UInt8.ofNat (m%128+128)],m / 128),⟨by simpa using h2,by dsimp only;omega⟩,by dsimp only;omega,?_⟩;exact ais [] [0,2]
   ·have hm:m<128:=by simp at h;omega
    rw[eG hm]at h2 hl;simp only[al8,ama,amO]at hl;refine gon ?_;rw[<-h2,<-hl];simp only[ulo hm];refine evg ?_
    exact ahY [] [0,2]
theorem cV(n:Int)(h0:0<=n)(h1:n<18446744073709551616):App 199 [.int .u64 n] (br n.toNat):=by
 constructor
 ·intro bs hb
  refine dS 5 ?_;refine gon ?_
  refine eZ (fun x:Bool×List UInt8×Nat=>⟨5,[if x.1 then .hs 1 0 0 x.2.1.length else .sl 1 true (bts x.2.1),.int .u64 x.2.2,.dead,.dead,.sl 0 true []],[]⟩) (fun x=>if x.1 then [.vec 1 (bts x.2.1)]else []) (fun x=>x.2.2)
   (fun x=>x.2.1++br x.2.2=bs++br n.toNat/\x.2.2<18446744073709551616) (false,bs,n.toNat) ⟨rfl,by dsimp only;omega⟩ ?_ ?_
  ·refine GC.mk' [] [] WM rfl WM WM (by simp[iu]) ?_;simp[iP,fz,pw,ren,lR,rn,dh,bH];try omega
  rintro⟨st,acc,m⟩ ⟨h2,h3⟩;dsimp only at h2 h3 ⊢;have hl:acc.length+(br m).length=bs.length+(br n.toNat).length:=by simpa using ajG List.length h2
  cases st
  ·refine gon ?_
   refine aY evd (fun h=>?_) (fun h=>?_)
   ·have hm:128<=m:=by simp at h;omega
    rw[gF hm]at h2 hl;simp only[al8]at hl;refine gon ?_;simp only[Tn,afd];refine evg ?_
    refine⟨(true,acc++[UInt8.ofNat (m%128+128)],m / 128),⟨by simpa using h2,by dsimp only;omega⟩,by dsimp only;omega,?_⟩;exact ais [] [0]
   ·have hm:m<128:=by simp at h;omega
    rw[eG hm]at h2 hl;simp only[al8,ama,amO]at hl;refine gon ?_;rw[<-h2,<-hl];simp only[ulo hm];refine evg ?_
    exact ahY [] [0]
  ·refine gon ?_
   refine aY evd (fun h=>?_) (fun h=>?_)
   ·have hm:128<=m:=by simp at h;omega
    rw[gF hm]at h2 hl;simp only[al8]at hl;refine gon ?_;simp only[Tn,afd];refine evg ?_
    refine⟨(true,acc++[UInt8.ofNat (m%128+128)],m / 128),⟨by simpa using h2,by dsimp only;omega⟩,by dsimp only;omega,?_⟩;exact ais [] [1]
   ·have hm:m<128:=by simp at h;omega
    rw[eG hm]at h2 hl;simp only[al8,ama,amO]at hl;refine gon ?_;rw[<-h2,<-hl];simp only[ulo hm];refine evg ?_
    exact ahY [] [1]
 ·intro bs hb
  refine dS 5 ?_;refine gon ?_
  refine eZ (fun x:Bool×List UInt8×Nat=>⟨5,[if x.1 then .hs 1 1 0 x.2.1.length else .hs 1 0 0 x.2.1.length,.int .u64 x.2.2,.dead,.dead,.sl 0 true []],[]⟩) (fun x=>if x.1 then [.gone,.vec 1 (bts x.2.1)]else [.vec 1 (bts x.2.1)]) (fun x=>x.2.2)
   (fun x=>x.2.1++br x.2.2=bs++br n.toNat/\x.2.2<18446744073709551616) (false,bs,n.toNat) ⟨rfl,by dsimp only;omega⟩ ?_ ?_
  ·refine GC.mk' [] [0] WM rfl WM WM (by simp[iu,iM,lR,rn,fzO,pw]) ?_;simp[iP,fz,pw,ren,lR,rn,dh,bH];try omega
  rintro⟨st,acc,m⟩ ⟨h2,h3⟩;dsimp only at h2 h3 ⊢;have hl:acc.length+(br m).length=bs.length+(br n.toNat).length:=by simpa using ajG List.length h2
  cases st
  ·refine gon ?_
   refine aY evd (fun h=>?_) (fun h=>?_)
   ·have hm:128<=m:=by simp at h;omega
    rw[gF hm]at h2 hl;simp only[al8]at hl;refine gon ?_;simp only[Tn,afd];refine evg ?_
    refine⟨(true,acc++[UInt8.ofNat (m%128+128)],m / 128),⟨by simpa using h2,by dsimp only;omega⟩,by dsimp only;omega,?_⟩;exact ais [] [0,1]
   ·have hm:m<128:=by simp at h;omega
    rw[eG hm]at h2 hl;simp only[al8,ama,amO]at hl;refine gon ?_;rw[<-h2,<-hl];simp only[ulo hm];refine evg ?_
    exact ahY [] [0,1]
  ·refine gon ?_
   refine aY evd (fun h=>?_) (fun h=>?_)
   ·have hm:128<=m:=by simp at h;omega
    rw[gF hm]at h2 hl;simp only[al8]at hl;refine gon ?_;simp only[Tn,afd];refine evg ?_
    refine⟨(true,acc++[UInt8.ofNat (m%128+128)],m / 128),⟨by simpa using h2,by dsimp only;omega⟩,by dsimp only;omega,?_⟩;exact ais [] [0,2]
   ·have hm:m<128:=by simp at h;omega
    rw[eG hm]at h2 hl;simp only[al8,ama,amO]at hl;refine gon ?_;rw[<-h2,<-hl];simp only[ulo hm];refine evg ?_
    exact ahY [] [0,2]
theorem Fl:[[AV.int .u8 0]]=bts [0]:=rfl
theorem Fm:[[AV.int .u8 1]]=bts [1]:=rfl
def fW(x:Bool):List UInt8:=if x then [1]else [0]
theorem Ni(x:Bool):App 246 [.bool x] (fW x):=by
 constructor<;>intro bs hb<;>cases x<;>simp only[fW,ame,amj,amt,al8,ama]at hb ⊢
 ·refine dS 5 ?_;refine gon ?_;refine aY rfl (fun h=>by cases h) (fun h=>?_);refine gon ?_;(try simp only[Fl,Fm,kg])
  exact ahY [] [0]
 ·refine dS 5 ?_;refine gon ?_;refine aY rfl (fun h=>?_) (fun h=>by cases h);refine gon ?_;(try simp only[Fl,Fm,kg])
  exact ahY [] [0]
 ·refine dS 5 ?_;refine gon ?_;refine aY rfl (fun h=>by cases h) (fun h=>?_);refine gon ?_;(try simp only[Fl,Fm,kg])
  exact ahY [] [0,1]
 ·refine dS 5 ?_;refine gon ?_;refine aY rfl (fun h=>?_) (fun h=>by cases h);refine gon ?_;(try simp only[Fl,Fm,kg])
  exact ahY [] [0,1]
theorem jT(x:Bool):App 282 [.bool x] (fW x):=by
 constructor<;>intro bs hb<;>cases x<;>simp only[fW,ame,amj,amt,al8,ama]at hb ⊢
 ·refine dS 5 ?_;refine gon ?_;refine aY rfl (fun h=>by cases h) (fun h=>?_);refine gon ?_;(try simp only[Fl,Fm,kg])
  exact ahY [] [0]
 ·refine dS 5 ?_;refine gon ?_;refine aY rfl (fun h=>?_) (fun h=>by cases h);refine gon ?_;(try simp only[Fl,Fm,kg])
  exact ahY [] [0]
 ·refine dS 5 ?_;refine gon ?_;refine aY rfl (fun h=>by cases h) (fun h=>?_);refine gon ?_;(try simp only[Fl,Fm,kg])
  exact ahY [] [0,1]
 ·refine dS 5 ?_;refine gon ?_;refine aY rfl (fun h=>?_) (fun h=>by cases h);refine gon ?_;(try simp only[Fl,Fm,kg])
  exact ahY [] [0,1]
theorem lS(r:Rt):App 243 [.agg (rtc r)] r.1:=by
 have hr:=r.2;constructor<;>intro bs hb
 ·refine dS 5 ?_;repeat(first|refine bY ?_|simp only[go_sem,jH r,hr])
  exact ahY [] [1]
 ·refine dS 5 ?_;repeat(first|refine bY ?_|simp only[go_sem,jH r,hr])
  exact ahY [] [0,2]
theorem dx(r:Rt):App 279 [.agg (rtc r)] r.1:=by
 have hr:=r.2;constructor<;>intro bs hb
 ·refine dS 5 ?_;repeat(first|refine bY ?_|simp only[go_sem,jH r,hr])
  exact ahY [] [1]
 ·refine dS 5 ?_;repeat(first|refine bY ?_|simp only[go_sem,jH r,hr])
  exact ahY [] [0,2]
def Ty(a:Wd)(i:Nat):UInt8:=byt (fJ .u64 (a.1.getD (i / 8) 0) (8*(i%8)))
def jD(a:Wd)(k:Nat):Rt:=if h:k=0 then rt0 else (jD a (k-1)).set (31-(k-1)) (Ty a (k-1))
termination_by k
decreasing_by omega
theorem RX(a:Wd):jD a 0=rt0:=by rw[jD,dif_pos rfl]
theorem Ix(a:Wd)(i:Nat):jD a (i+1)=(jD a i).set (31-i) (Ty a i):=by rw[jD,dif_neg WL];rfl
theorem TE{cs:List AV}(h:PuL cs):Pu (.agg cs):=h
def cK(a:Wd):Rt:=jD a 32
theorem ix1{i:Nat}(h:i<32):IntKind.i64.wrap (31-(i:Int))=((31-i:Nat):Int):=by rw[aL WL WL];omega
theorem ix2{i:Nat}(h:i<32):IntKind.i64.wrap ((i:Int).tdiv 8)=((i / 8:Nat):Int):=by
 rw[ajC WL,aL WL WL];rfl
theorem ix3(i:Nat):(i:Int).tmod 8=((i%8:Nat):Int):=by rw[aly WL];rfl
theorem ix4(i:Nat):IntKind.i64.wrap (8*((i%8:Nat):Int))=((8*(i%8):Nat):Int):=by rw[aL WL WL];omega
theorem ix5{i:Nat}(h:i<32):IntKind.i64.wrap ((i:Int)+1)=((i+1:Nat):Int):=by rw[aL WL WL];omega
theorem ix6(i:Nat):IntKind.u64.wrap ((8*(i%8):Nat):Int)=((8*(i%8):Nat):Int):=aN WL WL
theorem Fz(n:Int):IntKind.u8.wrap n=((byt n).toNat:Int):=(TC n).symm
theorem C3(a:Wd):PC Tryz.prog 317 [.agg (wdc a)] (.agg (rtc (cK a))):=by
 refine PC.fact 6 HL WM ⟨ju a,trivial⟩ (TE (dI _)) ?_;unfold vn;refine bd ?_;refine gon ?_
 refine gM (fun i:Nat=>⟨6,[.agg (wdc a),.ptr 0 0,.ptr 1 0,.ptr 2 0,.dead,.int .i64 i],[]⟩) (fun i=>[.var (wdc a),.var (rtc rt0),.var (rtc (jD a i))]) (fun i=>32-i) (fun i=>i<=32) [4] 0 WL (by first|((try simp only[go_sem,Nat.reduceAdd,Nat.reduceSub,Nat.reduceMul,Nat.reduceLT,Nat.reduceLeDiff,Nat.reduceEqDiff,reduceIte,Int.reduceToNat,Int.reduceLT,Int.reduceLE,Int.reduceEq,Int.reduceNeg,reduceCtorEq,Int.reduceBEq,Int.reduceBNe]);done)|((try simp only[go_sem,Nat.reduceAdd,Nat.reduceSub,Nat.reduceMul,Nat.reduceLT,Nat.reduceLeDiff,Nat.reduceEqDiff,reduceIte,Int.reduceToNat,Int.reduceLT,Int.reduceLE,Int.reduceEq,Int.reduceNeg,reduceCtorEq,Int.reduceBEq,Int.reduceBNe]);rfl)) (by rw[RX]) ?_;intro i hi;try dsimp only
 refine gon ?_;refine aY evd (fun h=>?_) (fun h=>?_)
 ·have h1:i<32:=by simp at h;omega
  have s1:∀b:UInt8,spl (rtc (jD a i)) (31-i) [.int .u8 b.toNat]=rtc ((jD a i).set (31-i) b):=fun b=>CU _ WL b
  repeat(first|refine bY ?_|simp only[go_sem,amv,ix1 h1,ix2 h1,ix3 i,ix4 i,ix5 h1,ix6 i,Hj a (show i / 8<4 by omega),Fz,s1])
  exact⟨i+1,h1,WL,rfl,by rw[Ix];rfl⟩
 ·have h1:i=32:=by simp at h;omega
  subst h1;refine gon ?_;exact ai
theorem qB(a:Wd):PC Tryz.prog 342 [.agg (wdc a)] (.agg (rtc (cK a))):=by
 refine PC.fact 5 HH WM ⟨ju a,trivial⟩ (TE (dI _)) ?_;unfold vd;refine bd ?_;refine gon ?_
 refine gM (fun i:Nat=>⟨5,[.agg (wdc a),.ptr 0 0,.ptr 1 0,.ptr 2 0,.int .i64 i],[]⟩) (fun i=>[.var (wdc a),.var (rtc rt0),.var (rtc (jD a i))]) (fun i=>32-i) (fun i=>i<=32) [] 0 WL (by first|((try simp only[go_sem,Nat.reduceAdd,Nat.reduceSub,Nat.reduceMul,Nat.reduceLT,Nat.reduceLeDiff,Nat.reduceEqDiff,reduceIte,Int.reduceToNat,Int.reduceLT,Int.reduceLE,Int.reduceEq,Int.reduceNeg,reduceCtorEq,Int.reduceBEq,Int.reduceBNe]);done)|((try simp only[go_sem,Nat.reduceAdd,Nat.reduceSub,Nat.reduceMul,Nat.reduceLT,Nat.reduceLeDiff,Nat.reduceEqDiff,reduceIte,Int.reduceToNat,Int.reduceLT,Int.reduceLE,Int.reduceEq,Int.reduceNeg,reduceCtorEq,Int.reduceBEq,Int.reduceBNe]);rfl)) (by rw[RX]) ?_;intro i hi;try dsimp only
 refine gon ?_;refine aY evd (fun h=>?_) (fun h=>?_)
 ·have h1:i<32:=by simp at h;omega
  have s1:∀b:UInt8,spl (rtc (jD a i)) (31-i) [.int .u8 b.toNat]=rtc ((jD a i).set (31-i) b):=fun b=>CU _ WL b
  repeat(first|refine bY ?_|simp only[go_sem,amv,ix1 h1,ix2 h1,ix3 i,ix4 i,ix5 h1,ix6 i,Hj a (show i / 8<4 by omega),Fz,s1])
  exact⟨i+1,h1,WL,rfl,by rw[Ix];rfl⟩
 ·have h1:i=32:=by simp at h;omega
  subst h1;refine gon ?_;exact ai
theorem ED(a:Wd):App 244 [.agg (wdc a)] (cK a).1:=by
 have hr:=(cK a).2;constructor<;>intro bs hb
 ·refine dS 6 ?_;refine gon ?_;refine am (C3 a) ?_;repeat(first|refine bY ?_|simp only[go_sem,jH (cK a),hr])
  exact ahY [] [2]
 ·refine dS 6 ?_;refine gon ?_;refine am (C3 a) ?_;repeat(first|refine bY ?_|simp only[go_sem,jH (cK a),hr])
  exact ahY [] [0,3]
theorem sj(a:Wd):App 280 [.agg (wdc a)] (cK a).1:=by
 have hr:=(cK a).2;constructor<;>intro bs hb
 ·refine dS 6 ?_;refine gon ?_;refine am (qB a) ?_;repeat(first|refine bY ?_|simp only[go_sem,jH (cK a),hr])
  exact ahY [] [2]
 ·refine dS 6 ?_;refine gon ?_;refine am (qB a) ?_;repeat(first|refine bY ?_|simp only[go_sem,jH (cK a),hr])
  exact ahY [] [0,3]
def dt(c:Cp):List UInt8:=br c.ep.toNat++c.rt.1
def uD(x:List UInt8):List UInt8:=br x.length++x
theorem qI(c:Cp)(h0:0<=c.ep)(h1:c.ep<18446744073709551616):App 245 [.agg (cpC c)] (dt c):=by
 have hr:=c.rt.2;constructor<;>intro bs hb<;>(simp only[dt,akC,hr]at hb)<;>(simp only[dt,akC,<-amd,<-am1])
 ·refine dS 5 ?_;refine gon ?_;refine dsg [] ((gL c.ep h0 h1).clip bs WL) ?_;refine dsg [1] ((lS c.rt).own (bs++br c.ep.toNat) (by rw[akC,hr];omega)) ?_;exact ahY [] [2]
 ·refine dS 5 ?_;refine gon ?_;refine dsg [0] ((gL c.ep h0 h1).own bs WL) ?_;refine dsg [2] ((lS c.rt).own (bs++br c.ep.toNat) (by rw[akC,hr];omega)) ?_;exact ahY [] [0,3]
theorem qx(c:Cp)(h0:0<=c.ep)(h1:c.ep<18446744073709551616):App 281 [.agg (cpC c)] (dt c):=by
 have hr:=c.rt.2;constructor<;>intro bs hb<;>(simp only[dt,akC,hr]at hb)<;>(simp only[dt,akC,<-amd,<-am1])
 ·refine dS 5 ?_;refine gon ?_;refine dsg [] ((cV c.ep h0 h1).clip bs WL) ?_;refine dsg [1] ((dx c.rt).own (bs++br c.ep.toNat) (by rw[akC,hr];omega)) ?_;exact ahY [] [2]
 ·refine dS 5 ?_;refine gon ?_;refine dsg [0] ((cV c.ep h0 h1).own bs WL) ?_;refine dsg [2] ((dx c.rt).own (bs++br c.ep.toNat) (by rw[akC,hr];omega)) ?_;exact ahY [] [0,3]
abbrev RR(α:Type):=List UInt8->Int->α×List UInt8×Int
end Go.Proofs.YtmpddimhleianaaGreat
namespace Go.Proofs.YtmpddimhleianaaGreat
open Go Go.FH Go.RowKit
theorem App.nil{f:FuncId}{xs:List AV}{e:List UInt8}(h:App f xs e)(he:e.length<=140737488355328):ay Tryz.prog f (.sl 0 true []::xs) [] (.hs 1 0 0 e.length) [.vec 1 (bts e)]:=by
 have:=h.clip [] (by simpa using he);simp only[ama,amO,amD]at this;exact this.wk ⟨Wk.empty 0 1 _,WkL.refl _⟩
end Go.Proofs.YtmpddimhleianaaGreat
namespace Go.Proofs.YtmpddimhleianaaGreat
open Go Go.FH
def s1:List UInt8->Int
 | []=>0
 |x::xs=>(x.toNat:Int)+1+s1 xs
def s2:List UInt8->Int->Int
 | [],_=>0
 |x::xs,a=>(a+x.toNat+1)+s2 xs (a+x.toNat+1)
end Go.Proofs.YtmpddimhleianaaGreat
