/-
 My texts Cb, Da, Db, Dc, Dd, joined.
-/
import Derived.Test.YtnjdpnfglgcjcaaGreatW4
import Derived.Test.YtnjdpnfglgcjcaaGreatW3
set_option linter.unusedVariables false
set_option linter.unusedSimpArgs false
set_option maxRecDepth 8000
set_option maxHeartbeats 4000000
namespace Go.Proofs.YtnjdpnfglgcjcaaGreat
open Go Go.FH
def acB(a x:Int):Int:=(IntKind.u64.wrap (IntKind.u64.wrap (a+IntKind.u64.wrap x)+1)).tmod 4294967295
def adg(b a:Int):Int:=(IntKind.u64.wrap (b+a)).tmod 4294967295
def adh:List UInt8->Int->Int->Int×Int
 | [],a,b=>(a,b)
 |x::xs,a,b=>adh xs (acB a x.toNat) (adg b (acB a x.toNat))
def dI(n:Nat):List UInt8:=if h:n<128 then [UInt8.ofNat n]else UInt8.ofNat (n%128+128)::dI (n / 128)
termination_by n
decreasing_by omega
theorem qo{n:Nat}(h:128<=n):dI n=UInt8.ofNat (n%128+128)::dI (n / 128):=by rw[dI,dif_neg (by omega)]
theorem jE{n:Nat}(h:n<128):dI n=[UInt8.ofNat n]:=by rw[dI,dif_pos h]
theorem aaR:∀k:Fin 256,ior .u8 ((k.val:Nat):Int) 128=((k.val%128+128:Nat):Int):=by decide +kernel
theorem uhi(m:Nat):ior .u8 (IntKind.u8.wrap (m:Int)) 128=((UInt8.ofNat (m%128+128)).toNat:Int):=by
 have h:=aaR ⟨m%256,by omega⟩;simp only at h;rw[show IntKind.u8.wrap (m:Int)=((m%256:Nat):Int)by rw[IntKind.wrap_u8];omega,h];simp only[UInt8.toNat_ofNat'];omega
theorem ulo{m:Nat}(h:m<128):IntKind.u8.wrap (m:Int)=((UInt8.ofNat m).toNat:Int):=by
 rw[IntKind.wrap_u8];simp only[UInt8.toNat_ofNat'];omega
theorem aaV(m:Nat):fH .u64 (m:Int) 7=((m / 128:Nat):Int):=by
 unfold fH;rw[show ((2:Int) ^ (min 7 IntKind.u64.bits))=((128:Nat):Int)by decide];rw[Int.fdiv_eq_ediv_of_nonneg _ (by omega)];rfl
theorem PH:∀ (k n:Nat),n<128 ^ (k+1)->(dI n).length<=k+1
 |0,n,h=>by rw[jE (by simpa using h)];simp
 | k + 1, n, h => by
   by_cases hn:n<128
   ·rw[jE hn];simp
   ·rw[qo (by omega),List.length_cons]
    have:n / 128<128 ^ (k+1):=by
     rw[Nat.div_lt_iff_lt_mul (by omega)];rw[Nat.pow_succ]at h;exact h
    have:=PH k (n / 128) this;omega
theorem jD{n:Nat}(h:n<18446744073709551616):(dI n).length<=10:=PH 9 n (by omega)
theorem Y6(n:Nat):0<(dI n).length:=by
 by_cases hn:n<128
 ·rw[jE hn];simp
 ·rw[qo (by omega)];simp
structure App(f:FuncId)(xs:List AV)(e:List UInt8):Prop where
 clip:∀bs:List UInt8,bs.length+e.length<=140737488355328->aI Tryz.prog f (.sl 1 true (bts bs)::xs) [] (.hs 1 0 0 (bs.length+e.length)) [.vec 1 (bts (bs++e))]
 own:∀bs:List UInt8,bs.length+e.length<=140737488355328->aI Tryz.prog f (.hs 1 0 0 bs.length::xs) [.vec 1 (bts bs)] (.hs 1 1 0 (bs.length+e.length)) [.gone,.vec 1 (bts (bs++e))]
theorem ZH(m:Nat):gr .u64 (m:Int) 127=((m%128:Nat):Int):=by
 unfold gr
 have:(BitVec.ofInt IntKind.u64.bits (m:Int) &&& BitVec.ofInt IntKind.u64.bits 127).toNat=m%128:=by
  rw[BitVec.toNat_and,BitVec.ofInt_natCast,show BitVec.ofInt IntKind.u64.bits 127=BitVec.ofNat IntKind.u64.bits (2 ^ 7-1)by decide,BitVec.toNat_ofNat,BitVec.toNat_ofNat];rw[show (2 ^ 7-1)%2 ^ IntKind.u64.bits=2 ^ 7-1 by decide,Nat.and_two_pow_sub_one_eq_mod];rw[Nat.mod_mod_of_dvd _ (by decide)]
 rw[this,aU (by omega) (by omega)]
theorem aaQ(m:Nat):ior .u8 (IntKind.u8.wrap (gr .u64 (m:Int) 127)) 128=((UInt8.ofNat (m%128+128)).toNat:Int):=by
 rw[ZH,uhi,Nat.mod_mod]
theorem d7(n:Int)(h0:0<=n)(h1:n<18446744073709551616):App 90 [.int .u64 n] (dI n.toNat):=by
 constructor
 ·intro bs hb
  refine aI.fact 5 BP (by simp) ?_ (by simp);unfold sF;refine bd ?_;refine gon ?_
  refine gN (fun x:Bool×List UInt8×Nat=>⟨5,[if x.1 then .hs 1 0 0 x.2.1.length else .sl 1 true (bts x.2.1),.int .u64 x.2.2,.dead,.dead,.sl 0 true []],[]⟩) (fun x=>if x.1 then [.vec 1 (bts x.2.1)]else []) (fun x=>x.2.2)
   (fun x=>x.2.1++dI x.2.2=bs++dI n.toNat/\x.2.2<18446744073709551616) (false,bs,n.toNat) ⟨rfl,by dsimp only;omega⟩ ?_ ?_
  ·refine GC.mk' [] [] (by simp) rfl (by simp) (by simp) (by simp[iY]) ?_;simp[jv,fz,yQ,ren,uq,rn,gX,dF];try omega
  rintro⟨st,acc,m⟩ ⟨h2,h3⟩;dsimp only at h2 h3 ⊢;have hl:acc.length+(dI m).length=bs.length+(dI n.toNat).length:=by simpa using congrArg List.length h2
  cases st
  ·refine gon ?_
   refine du evd (fun h=>?_) (fun h=>?_)
   ·have hm:128<=m:=by simp at h;omega
    rw[qo hm]at h2 hl;simp only[List.length_cons]at hl;refine gon ?_;simp only[aaV,aaQ];(try simp only[go_sem,Nat.reduceAdd,Nat.reduceSub,Nat.reduceMul,Nat.reduceLT,Nat.reduceLeDiff,Nat.reduceEqDiff,reduceIte,Int.reduceToNat,Int.reduceLT,Int.reduceLE,Int.reduceEq,Int.reduceNeg,reduceCtorEq,Int.reduceBEq,Int.reduceBNe])
    refine⟨(true,acc++[UInt8.ofNat (m%128+128)],m / 128),⟨by simpa using h2,by dsimp only;omega⟩,by dsimp only;omega,?_⟩;exact adk [] [0]
   ·have hm:m<128:=by simp at h;omega
    rw[jE hm]at h2 hl;simp only[List.length_cons,List.length_nil,Nat.zero_add]at hl;refine gon ?_;rw[<-h2,<-hl];simp only[ulo hm];(try simp only[go_sem,Nat.reduceAdd,Nat.reduceSub,Nat.reduceMul,Nat.reduceLT,Nat.reduceLeDiff,Nat.reduceEqDiff,reduceIte,Int.reduceToNat,Int.reduceLT,Int.reduceLE,Int.reduceEq,Int.reduceNeg,reduceCtorEq,Int.reduceBEq,Int.reduceBNe])
    exact adb [] [0]
  ·refine gon ?_
   refine du evd (fun h=>?_) (fun h=>?_)
   ·have hm:128<=m:=by simp at h;omega
    rw[qo hm]at h2 hl;simp only[List.length_cons]at hl;refine gon ?_;simp only[aaV,aaQ];(try simp only[go_sem,Nat.reduceAdd,Nat.reduceSub,Nat.reduceMul,Nat.reduceLT,Nat.reduceLeDiff,Nat.reduceEqDiff,reduceIte,Int.reduceToNat,Int.reduceLT,Int.reduceLE,Int.reduceEq,Int.reduceNeg,reduceCtorEq,Int.reduceBEq,Int.reduceBNe])
    refine⟨(true,acc++[UInt8.ofNat (m%128+128)],m / 128),⟨by simpa using h2,by dsimp only;omega⟩,by dsimp only;omega,?_⟩;exact adk [] [1]
   ·have hm:m<128:=by simp at h;omega
    rw[jE hm]at h2 hl;simp only[List.length_cons,List.length_nil,Nat.zero_add]at hl;refine gon ?_;rw[<-h2,<-hl];simp only[ulo hm];(try simp only[go_sem,Nat.reduceAdd,Nat.reduceSub,Nat.reduceMul,Nat.reduceLT,Nat.reduceLeDiff,Nat.reduceEqDiff,reduceIte,Int.reduceToNat,Int.reduceLT,Int.reduceLE,Int.reduceEq,Int.reduceNeg,reduceCtorEq,Int.reduceBEq,Int.reduceBNe])
    exact adb [] [1]
 ·intro bs hb
  refine aI.fact 5 BP (by simp) ?_ (by simp);unfold sF;refine bd ?_;refine gon ?_
  refine gN (fun x:Bool×List UInt8×Nat=>⟨5,[if x.1 then .hs 1 1 0 x.2.1.length else .hs 1 0 0 x.2.1.length,.int .u64 x.2.2,.dead,.dead,.sl 0 true []],[]⟩) (fun x=>if x.1 then [.gone,.vec 1 (bts x.2.1)]else [.vec 1 (bts x.2.1)]) (fun x=>x.2.2)
   (fun x=>x.2.1++dI x.2.2=bs++dI n.toNat/\x.2.2<18446744073709551616) (false,bs,n.toNat) ⟨rfl,by dsimp only;omega⟩ ?_ ?_
  ·refine GC.mk' [] [0] (by simp) rfl (by simp) (by simp) (by simp[iY,iZ,uq,rn,fzO,yQ]) ?_;simp[jv,fz,yQ,ren,uq,rn,gX,dF];try omega
  rintro⟨st,acc,m⟩ ⟨h2,h3⟩;dsimp only at h2 h3 ⊢;have hl:acc.length+(dI m).length=bs.length+(dI n.toNat).length:=by simpa using congrArg List.length h2
  cases st
  ·refine gon ?_
   refine du evd (fun h=>?_) (fun h=>?_)
   ·have hm:128<=m:=by simp at h;omega
    rw[qo hm]at h2 hl;simp only[List.length_cons]at hl;refine gon ?_;simp only[aaV,aaQ];(try simp only[go_sem,Nat.reduceAdd,Nat.reduceSub,Nat.reduceMul,Nat.reduceLT,Nat.reduceLeDiff,Nat.reduceEqDiff,reduceIte,Int.reduceToNat,Int.reduceLT,Int.reduceLE,Int.reduceEq,Int.reduceNeg,reduceCtorEq,Int.reduceBEq,Int.reduceBNe])
    refine⟨(true,acc++[UInt8.ofNat (m%128+128)],m / 128),⟨by simpa using h2,by dsimp only;omega⟩,by dsimp only;omega,?_⟩;exact adk [] [0,1]
   ·have hm:m<128:=by simp at h;omega
    rw[jE hm]at h2 hl;simp only[List.length_cons,List.length_nil,Nat.zero_add]at hl;refine gon ?_;rw[<-h2,<-hl];simp only[ulo hm];(try simp only[go_sem,Nat.reduceAdd,Nat.reduceSub,Nat.reduceMul,Nat.reduceLT,Nat.reduceLeDiff,Nat.reduceEqDiff,reduceIte,Int.reduceToNat,Int.reduceLT,Int.reduceLE,Int.reduceEq,Int.reduceNeg,reduceCtorEq,Int.reduceBEq,Int.reduceBNe])
    exact adb [] [0,1]
  ·refine gon ?_
   refine du evd (fun h=>?_) (fun h=>?_)
   ·have hm:128<=m:=by simp at h;omega
    rw[qo hm]at h2 hl;simp only[List.length_cons]at hl;refine gon ?_;simp only[aaV,aaQ];(try simp only[go_sem,Nat.reduceAdd,Nat.reduceSub,Nat.reduceMul,Nat.reduceLT,Nat.reduceLeDiff,Nat.reduceEqDiff,reduceIte,Int.reduceToNat,Int.reduceLT,Int.reduceLE,Int.reduceEq,Int.reduceNeg,reduceCtorEq,Int.reduceBEq,Int.reduceBNe])
    refine⟨(true,acc++[UInt8.ofNat (m%128+128)],m / 128),⟨by simpa using h2,by dsimp only;omega⟩,by dsimp only;omega,?_⟩;exact adk [] [0,2]
   ·have hm:m<128:=by simp at h;omega
    rw[jE hm]at h2 hl;simp only[List.length_cons,List.length_nil,Nat.zero_add]at hl;refine gon ?_;rw[<-h2,<-hl];simp only[ulo hm];(try simp only[go_sem,Nat.reduceAdd,Nat.reduceSub,Nat.reduceMul,Nat.reduceLT,Nat.reduceLeDiff,Nat.reduceEqDiff,reduceIte,Int.reduceToNat,Int.reduceLT,Int.reduceLE,Int.reduceEq,Int.reduceNeg,reduceCtorEq,Int.reduceBEq,Int.reduceBNe])
    exact adb [] [0,2]
theorem S6:[[AV.int .u8 0]]=bts [0]:=rfl
theorem S7:[[AV.int .u8 1]]=bts [1]:=rfl
def Uf(x:Bool):List UInt8:=if x then [1]else [0]
theorem VU(x:Bool):App 169 [.bool x] (Uf x):=by
 constructor<;>intro bs hb<;>cases x<;>simp only[Uf,Bool.false_eq_true,if_false,if_true,List.length_cons,List.length_nil]at hb ⊢
 ·refine aI.fact 5 oP (by simp) ?_ (by simp);unfold lJ;refine bd ?_;refine gon ?_;refine du rfl (fun h=>by cases h) (fun h=>?_);refine gon ?_;(try simp only[S6,S7,rZ])
  exact adb [] [0]
 ·refine aI.fact 5 oP (by simp) ?_ (by simp);unfold lJ;refine bd ?_;refine gon ?_;refine du rfl (fun h=>?_) (fun h=>by cases h);refine gon ?_;(try simp only[S6,S7,rZ])
  exact adb [] [0]
 ·refine aI.fact 5 oP (by simp) ?_ (by simp);unfold lJ;refine bd ?_;refine gon ?_;refine du rfl (fun h=>by cases h) (fun h=>?_);refine gon ?_;(try simp only[S6,S7,rZ])
  exact adb [] [0,1]
 ·refine aI.fact 5 oP (by simp) ?_ (by simp);unfold lJ;refine bd ?_;refine gon ?_;refine du rfl (fun h=>?_) (fun h=>by cases h);refine gon ?_;(try simp only[S6,S7,rZ])
  exact adb [] [0,1]
theorem gM(r:Rt):App 167 [.agg (rtc r)] r.1:=by
 have hr:=r.2;constructor<;>intro bs hb
 ·refine aI.fact 5 BO (by simp) ?_ (by simp);unfold sE;refine bd ?_;repeat(first|refine bU ?_|simp only[go_sem,ua r,hr])
  exact adb [] [1]
 ·refine aI.fact 5 BO (by simp) ?_ (by simp);unfold sE;refine bd ?_;repeat(first|refine bU ?_|simp only[go_sem,ua r,hr])
  exact adb [] [0,2]
def abb(a:Wd)(i:Nat):UInt8:=byt (fH .u64 (a.1.getD (i / 8) 0) (8*(i%8)))
def pw(a:Wd)(k:Nat):Rt:=if h:k=0 then rt0 else (pw a (k-1)).set (31-(k-1)) (abb a (k-1))
termination_by k
decreasing_by omega
theorem Yk(a:Wd):pw a 0=rt0:=by rw[pw,dif_pos rfl]
theorem Yl(a:Wd)(i:Nat):pw a (i+1)=(pw a i).set (31-i) (abb a i):=by rw[pw,dif_neg (by omega)];rfl
theorem abi{cs:List AV}(h:PuL cs):Pu (.agg cs):=h
def fL(a:Wd):Rt:=pw a 32
theorem ix1{i:Nat}(h:i<32):IntKind.i64.wrap (31-(i:Int))=((31-i:Nat):Int):=by rw[aK (by omega) (by omega)];omega
theorem ix2{i:Nat}(h:i<32):IntKind.i64.wrap ((i:Int).tdiv 8)=((i / 8:Nat):Int):=by
 rw[Int.tdiv_eq_ediv_of_nonneg (by omega),aK (by omega) (by omega)];rfl
theorem ix3(i:Nat):(i:Int).tmod 8=((i%8:Nat):Int):=by rw[Int.tmod_eq_emod_of_nonneg (by omega)];rfl
theorem ix4(i:Nat):IntKind.i64.wrap (8*((i%8:Nat):Int))=((8*(i%8):Nat):Int):=by rw[aK (by omega) (by omega)];omega
theorem ix5{i:Nat}(h:i<32):IntKind.i64.wrap ((i:Int)+1)=((i+1:Nat):Int):=by rw[aK (by omega) (by omega)];omega
theorem ix6(i:Nat):IntKind.u64.wrap ((8*(i%8):Nat):Int)=((8*(i%8):Nat):Int):=aU (by omega) (by omega)
theorem PV(n:Int):IntKind.u8.wrap n=((byt n).toNat:Int):=(Zg n).symm
theorem wn(a:Wd):PC Tryz.prog 277 [.agg (wdc a)] (.agg (rtc (fL a))):=by
 refine PC.fact 5 EK (by simp) ⟨jY a,trivial⟩ (abi (dS _)) ?_;unfold sD;refine bd ?_;refine gon ?_
 refine li (fun i:Nat=>⟨5,[.agg (wdc a),.ptr 0 0,.ptr 1 0,.ptr 2 0,.int .i64 i],[]⟩) (fun i=>[.var (wdc a),.var (rtc rt0),.var (rtc (pw a i))]) (fun i=>32-i) (fun i=>i<=32) [] 0 (by omega) (by first|((try simp only[go_sem,Nat.reduceAdd,Nat.reduceSub,Nat.reduceMul,Nat.reduceLT,Nat.reduceLeDiff,Nat.reduceEqDiff,reduceIte,Int.reduceToNat,Int.reduceLT,Int.reduceLE,Int.reduceEq,Int.reduceNeg,reduceCtorEq,Int.reduceBEq,Int.reduceBNe]);done)|((try simp only[go_sem,Nat.reduceAdd,Nat.reduceSub,Nat.reduceMul,Nat.reduceLT,Nat.reduceLeDiff,Nat.reduceEqDiff,reduceIte,Int.reduceToNat,Int.reduceLT,Int.reduceLE,Int.reduceEq,Int.reduceNeg,reduceCtorEq,Int.reduceBEq,Int.reduceBNe]);rfl)) (by rw[Yk]) ?_;intro i hi;try dsimp only
 refine gon ?_;refine du evd (fun h=>?_) (fun h=>?_)
 ·have h1:i<32:=by simp at h;omega
  have s1:∀b:UInt8,spl (rtc (pw a i)) (31-i) [.int .u8 b.toNat]=rtc ((pw a i).set (31-i) b):=fun b=>Dv _ (by omega) b
  repeat(first|refine bU ?_|simp only[go_sem,Nat.mul_one,ix1 h1,ix2 h1,ix3 i,ix4 i,ix5 h1,ix6 i,Xh a (show i / 8<4 by omega),PV,s1])
  exact⟨i+1,h1,by omega,rfl,by rw[Yl];rfl⟩
 ·have h1:i=32:=by simp at h;omega
  subst h1;refine gon ?_;exact af
theorem J3(a:Wd):App 168 [.agg (wdc a)] (fL a).1:=by
 have hr:=(fL a).2;constructor<;>intro bs hb
 ·refine aI.fact 6 BQ (by simp) ?_ (by simp);unfold sG;refine bd ?_;refine gon ?_;refine ai (wn a) ?_;repeat(first|refine bU ?_|simp only[go_sem,ua (fL a),hr])
  exact adb [] [2]
 ·refine aI.fact 6 BQ (by simp) ?_ (by simp);unfold sG;refine bd ?_;refine gon ?_;refine ai (wn a) ?_;repeat(first|refine bU ?_|simp only[go_sem,ua (fL a),hr])
  exact adb [] [0,3]
def kF(c:Cp):List UInt8:=dI c.ep.toNat++c.rt.1
theorem zl(c:Cp)(h0:0<=c.ep)(h1:c.ep<18446744073709551616):App 170 [.agg (cpC c)] (kF c):=by
 have hr:=c.rt.2;constructor<;>intro bs hb<;>(simp only[kF,List.length_append,hr]at hb)<;>(simp only[kF,List.length_append,<-List.append_assoc,<-Nat.add_assoc])
 ·refine aI.fact 5 oQ (by simp) ?_ (by simp);unfold kc;refine bd ?_;refine gon ?_;refine cO [] ((d7 c.ep h0 h1).clip bs (by omega)) (by simp) evd (dt.mk' (by simp) (by simp) evd) ?_;refine evg ?_;refine gon ?_;refine cO [1] ((gM c.rt).own (bs++dI c.ep.toNat) (by rw[List.length_append,hr];omega)) (by simp) evd (dt.mk' (by simp) (by simp) evd) ?_;refine evg ?_;refine gon ?_;exact adb [] [2]
 ·refine aI.fact 5 oQ (by simp) ?_ (by simp);unfold kc;refine bd ?_;refine gon ?_;refine cO [0] ((d7 c.ep h0 h1).own bs (by omega)) (by simp) evd (dt.mk' (by simp) (by simp) evd) ?_;refine evg ?_;refine gon ?_;refine cO [2] ((gM c.rt).own (bs++dI c.ep.toNat) (by rw[List.length_append,hr];omega)) (by simp) evd (dt.mk' (by simp) (by simp) evd) ?_;refine evg ?_;refine gon ?_;exact adb [] [0,3]
end Go.Proofs.YtnjdpnfglgcjcaaGreat
namespace Go.Proofs.YtnjdpnfglgcjcaaGreat
open Go Go.FH Go.RowKit
theorem App.nil{f:FuncId}{xs:List AV}{e:List UInt8}(h:App f xs e)(he:e.length<=140737488355328):aI Tryz.prog f (.sl 0 true []::xs) [] (.hs 1 0 0 e.length) [.vec 1 (bts e)]:=by
 have:=h.clip [] (by simpa using he);simp only[List.length_nil,Nat.zero_add,List.nil_append]at this;exact this.wk ⟨Wk.empty 0 1 _,WkL.refl _⟩
end Go.Proofs.YtnjdpnfglgcjcaaGreat
