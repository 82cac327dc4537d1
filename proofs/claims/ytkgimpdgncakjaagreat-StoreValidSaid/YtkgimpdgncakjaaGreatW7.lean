/-
 My texts Cb, Cc, Cd, Da, Db, Dc, De, Df, Ce, Dd, joined.
-/
import Derived.Test.YtkgimpdgncakjaaGreatW4
import Derived.Test.YtkgimpdgncakjaaGreatW3
namespace Go.Proofs.YtkgimpdgncakjaaGreat
open Go Go.FH
set_option linter.unusedVariables false
set_option linter.unusedSimpArgs false
def RV_(a x:Int):Int:=(IntKind.u64.wrap (IntKind.u64.wrap (a+IntKind.u64.wrap x)+1)).tmod 4294967295
def SJ_(b a:Int):Int:=(IntKind.u64.wrap (b+a)).tmod 4294967295
def SK_:List UInt8→Int→Int→Int×Int
 | [],a,b=>(a,b)
 |x::xs,a,b=>SK_ xs (RV_ a x.toNat) (SJ_ b (RV_ a x.toNat))
def cb_(n:Nat):List UInt8:=if h:n<128 then [UInt8.ofNat n]else UInt8.ofNat (n%128+128)::cb_ (n / 128)
termination_by n
decreasing_by omega
theorem kz_{n:Nat}(h:128≤n):cb_ n=UInt8.ofNat (n%128+128)::cb_ (n / 128):=by rw[cb_,dif_neg (by omega)]
theorem fI_{n:Nat}(h:n<128):cb_ n=[UInt8.ofNat n]:=by rw[cb_,dif_pos h]
theorem PW_:∀k:Fin 256,ior .u8 ((k.val:Nat):Int) 128=((k.val%128+128:Nat):Int):=by decide +kernel
theorem uhi(m:Nat):ior .u8 (IntKind.u8.wrap (m:Int)) 128=((UInt8.ofNat (m%128+128)).toNat:Int):=by
 have h:=PW_ ⟨m%256,by omega⟩;simp only at h;rw[show IntKind.u8.wrap (m:Int)=((m%256:Nat):Int)by rw[IntKind.wrap_u8];omega,h];simp only[UInt8.toNat_ofNat'];omega
theorem ulo{m:Nat}(h:m<128):IntKind.u8.wrap (m:Int)=((UInt8.ofNat m).toNat:Int):=by
 rw[IntKind.wrap_u8];simp only[UInt8.toNat_ofNat'];omega
theorem Qb_(m:Nat):dg_ .u64 (m:Int) 7=((m / 128:Nat):Int):=by
 unfold dg_;rw[show ((2:Int) ^ (min 7 IntKind.u64.bits))=((128:Nat):Int)by decide];rw[Int.fdiv_eq_ediv_of_nonneg _ (by omega)];rfl
theorem Fb_:∀ (k n:Nat),n<128 ^ (k+1)→(cb_ n).length≤k+1
 |0,n,h=>by rw[fI_ (by simpa using h)];simp
 | k + 1, n, h => by
   by_cases hn:n<128
   ·rw[fI_ hn];simp
   ·rw[kz_ (by omega),List.length_cons]
    have:n / 128<128 ^ (k+1):=by
     rw[Nat.div_lt_iff_lt_mul (by omega)];rw[Nat.pow_succ]at h;exact h
    have:=Fb_ k (n / 128) this;omega
theorem fH_{n:Nat}(h:n<18446744073709551616):(cb_ n).length≤10:=Fb_ 9 n (by omega)
theorem NZ_(n:Nat):0<(cb_ n).length:=by
 by_cases hn:n<128
 ·rw[fI_ hn];simp
 ·rw[kz_ (by omega)];simp
structure App(f:FuncId)(xs:List AV)(e:List UInt8):Prop where
 clip:∀bs:List UInt8,bs.length+e.length≤140737488355328→ar_ Tryz.prog f (.sl 1 true (bts bs)::xs) [] (.hs 1 0 0 (bs.length+e.length)) [.vec 1 (bts (bs++e))]
 own:∀bs:List UInt8,bs.length+e.length≤140737488355328→ar_ Tryz.prog f (.hs 1 0 0 bs.length::xs) [.vec 1 (bts bs)] (.hs 1 1 0 (bs.length+e.length)) [.gone,.vec 1 (bts (bs++e))]
theorem OH_(m:Nat):du_ .u64 (m:Int) 127=((m%128:Nat):Int):=by
 unfold du_
 have:(BitVec.ofInt IntKind.u64.bits (m:Int) &&& BitVec.ofInt IntKind.u64.bits 127).toNat=m%128:=by
  rw[BitVec.toNat_and,BitVec.ofInt_natCast,show BitVec.ofInt IntKind.u64.bits 127=BitVec.ofNat IntKind.u64.bits (2 ^ 7-1)by decide,BitVec.toNat_ofNat,BitVec.toNat_ofNat];rw[show (2 ^ 7-1)%2 ^ IntKind.u64.bits=2 ^ 7-1 by decide,Nat.and_two_pow_sub_one_eq_mod];rw[Nat.mod_mod_of_dvd _ (by decide)]
 rw[this,aH_ (by omega) (by omega)]
theorem PV_(m:Nat):ior .u8 (IntKind.u8.wrap (du_ .u64 (m:Int) 127)) 128=((UInt8.ofNat (m%128+128)).toNat:Int):=by
 rw[OH_,uhi,Nat.mod_mod]
theorem cv_(n:Int)(h0:0≤n)(h1:n<18446744073709551616):App 243 [.int .u64 n] (cb_ n.toNat):=by
 constructor
 ·intro bs hb
  refine ar_.fact 5 sz_ (by simp) ?_ (by simp);unfold mr_;refine bd ?_;try refine aa_ ?_
  refine gP_ (fun x:Bool×List UInt8×Nat=>⟨5,[if x.1 then .hs 1 0 0 x.2.1.length else .sl 1 true (bts x.2.1),.int .u64 x.2.2,.dead,.dead,.sl 0 true []],[]⟩) (fun x=>if x.1 then [.vec 1 (bts x.2.1)]else []) (fun x=>x.2.2)
   (fun x=>x.2.1++cb_ x.2.2=bs++cb_ n.toNat∧x.2.2<18446744073709551616) (false,bs,n.toNat) ⟨rfl,by dsimp only;omega⟩ ?_ ?_
  ·refine GC.mk' [] [] (by simp) rfl (by simp) (by simp) (by simp[fF_]) ?_;simp[gu_,fz,qE_,ren,nB_,rn,eQ_,cg_];try omega
  rintro⟨st,acc,m⟩ ⟨h2,h3⟩;dsimp only at h2 h3 ⊢;have hl:acc.length+(cb_ m).length=bs.length+(cb_ n.toNat).length:=by simpa using congrArg List.length h2
  cases st
  ·try refine aa_ ?_
   refine bM_ evd (fun h=>?_) (fun h=>?_)
   ·have hm:128≤m:=by simp at h;omega
    rw[kz_ hm]at h2 hl;simp only[List.length_cons]at hl;try refine aa_ ?_
    simp only[Qb_,PV_];(try simp only[go_sem,Nat.reduceAdd,Nat.reduceSub,Nat.reduceMul,Nat.reduceLT,Nat.reduceLeDiff,Nat.reduceEqDiff,reduceIte,Int.reduceToNat,Int.reduceLT,Int.reduceLE,Int.reduceEq,Int.reduceNeg,reduceCtorEq,Int.reduceBEq,Int.reduceBNe])
    refine⟨(true,acc++[UInt8.ofNat (m%128+128)],m / 128),⟨by simpa using h2,by dsimp only;omega⟩,by dsimp only;omega,?_⟩;exact SN_ [] [0]
   ·have hm:m<128:=by simp at h;omega
    rw[fI_ hm]at h2 hl;simp only[List.length_cons,List.length_nil,Nat.zero_add]at hl;try refine aa_ ?_
    rw[←h2,←hl];simp only[ulo hm];(try simp only[go_sem,Nat.reduceAdd,Nat.reduceSub,Nat.reduceMul,Nat.reduceLT,Nat.reduceLeDiff,Nat.reduceEqDiff,reduceIte,Int.reduceToNat,Int.reduceLT,Int.reduceLE,Int.reduceEq,Int.reduceNeg,reduceCtorEq,Int.reduceBEq,Int.reduceBNe])
    exact SG_ [] [0]
  ·try refine aa_ ?_
   refine bM_ evd (fun h=>?_) (fun h=>?_)
   ·have hm:128≤m:=by simp at h;omega
    rw[kz_ hm]at h2 hl;simp only[List.length_cons]at hl;try refine aa_ ?_
    simp only[Qb_,PV_];(try simp only[go_sem,Nat.reduceAdd,Nat.reduceSub,Nat.reduceMul,Nat.reduceLT,Nat.reduceLeDiff,Nat.reduceEqDiff,reduceIte,Int.reduceToNat,Int.reduceLT,Int.reduceLE,Int.reduceEq,Int.reduceNeg,reduceCtorEq,Int.reduceBEq,Int.reduceBNe])
    refine⟨(true,acc++[UInt8.ofNat (m%128+128)],m / 128),⟨by simpa using h2,by dsimp only;omega⟩,by dsimp only;omega,?_⟩;exact SN_ [] [1]
   ·have hm:m<128:=by simp at h;omega
    rw[fI_ hm]at h2 hl;simp only[List.length_cons,List.length_nil,Nat.zero_add]at hl;try refine aa_ ?_
    rw[←h2,←hl];simp only[ulo hm];(try simp only[go_sem,Nat.reduceAdd,Nat.reduceSub,Nat.reduceMul,Nat.reduceLT,Nat.reduceLeDiff,Nat.reduceEqDiff,reduceIte,Int.reduceToNat,Int.reduceLT,Int.reduceLE,Int.reduceEq,Int.reduceNeg,reduceCtorEq,Int.reduceBEq,Int.reduceBNe])
    exact SG_ [] [1]
 ·intro bs hb
  refine ar_.fact 5 sz_ (by simp) ?_ (by simp);unfold mr_;refine bd ?_;try refine aa_ ?_
  refine gP_ (fun x:Bool×List UInt8×Nat=>⟨5,[if x.1 then .hs 1 1 0 x.2.1.length else .hs 1 0 0 x.2.1.length,.int .u64 x.2.2,.dead,.dead,.sl 0 true []],[]⟩) (fun x=>if x.1 then [.gone,.vec 1 (bts x.2.1)]else [.vec 1 (bts x.2.1)]) (fun x=>x.2.2)
   (fun x=>x.2.1++cb_ x.2.2=bs++cb_ n.toNat∧x.2.2<18446744073709551616) (false,bs,n.toNat) ⟨rfl,by dsimp only;omega⟩ ?_ ?_
  ·refine GC.mk' [] [0] (by simp) rfl (by simp) (by simp) (by simp[fF_,fh_,nB_,rn,fzO,qE_]) ?_;simp[gu_,fz,qE_,ren,nB_,rn,eQ_,cg_];try omega
  rintro⟨st,acc,m⟩ ⟨h2,h3⟩;dsimp only at h2 h3 ⊢;have hl:acc.length+(cb_ m).length=bs.length+(cb_ n.toNat).length:=by simpa using congrArg List.length h2
  cases st
  ·try refine aa_ ?_
   refine bM_ evd (fun h=>?_) (fun h=>?_)
   ·have hm:128≤m:=by simp at h;omega
    rw[kz_ hm]at h2 hl;simp only[List.length_cons]at hl;try refine aa_ ?_
    simp only[Qb_,PV_];(try simp only[go_sem,Nat.reduceAdd,Nat.reduceSub,Nat.reduceMul,Nat.reduceLT,Nat.reduceLeDiff,Nat.reduceEqDiff,reduceIte,Int.reduceToNat,Int.reduceLT,Int.reduceLE,Int.reduceEq,Int.reduceNeg,reduceCtorEq,Int.reduceBEq,Int.reduceBNe])
    refine⟨(true,acc++[UInt8.ofNat (m%128+128)],m / 128),⟨by simpa using h2,by dsimp only;omega⟩,by dsimp only;omega,?_⟩;exact SN_ [] [0,1]
   ·have hm:m<128:=by simp at h;omega
    rw[fI_ hm]at h2 hl;simp only[List.length_cons,List.length_nil,Nat.zero_add]at hl;try refine aa_ ?_
    rw[←h2,←hl];simp only[ulo hm];(try simp only[go_sem,Nat.reduceAdd,Nat.reduceSub,Nat.reduceMul,Nat.reduceLT,Nat.reduceLeDiff,Nat.reduceEqDiff,reduceIte,Int.reduceToNat,Int.reduceLT,Int.reduceLE,Int.reduceEq,Int.reduceNeg,reduceCtorEq,Int.reduceBEq,Int.reduceBNe])
    exact SG_ [] [0,1]
  ·try refine aa_ ?_
   refine bM_ evd (fun h=>?_) (fun h=>?_)
   ·have hm:128≤m:=by simp at h;omega
    rw[kz_ hm]at h2 hl;simp only[List.length_cons]at hl;try refine aa_ ?_
    simp only[Qb_,PV_];(try simp only[go_sem,Nat.reduceAdd,Nat.reduceSub,Nat.reduceMul,Nat.reduceLT,Nat.reduceLeDiff,Nat.reduceEqDiff,reduceIte,Int.reduceToNat,Int.reduceLT,Int.reduceLE,Int.reduceEq,Int.reduceNeg,reduceCtorEq,Int.reduceBEq,Int.reduceBNe])
    refine⟨(true,acc++[UInt8.ofNat (m%128+128)],m / 128),⟨by simpa using h2,by dsimp only;omega⟩,by dsimp only;omega,?_⟩;exact SN_ [] [0,2]
   ·have hm:m<128:=by simp at h;omega
    rw[fI_ hm]at h2 hl;simp only[List.length_cons,List.length_nil,Nat.zero_add]at hl;try refine aa_ ?_
    rw[←h2,←hl];simp only[ulo hm];(try simp only[go_sem,Nat.reduceAdd,Nat.reduceSub,Nat.reduceMul,Nat.reduceLT,Nat.reduceLeDiff,Nat.reduceEqDiff,reduceIte,Int.reduceToNat,Int.reduceLT,Int.reduceLE,Int.reduceEq,Int.reduceNeg,reduceCtorEq,Int.reduceBEq,Int.reduceBNe])
    exact SG_ [] [0,2]
theorem HX_:[[AV.int .u8 0]]=bts [0]:=rfl
theorem HY_:[[AV.int .u8 1]]=bts [1]:=rfl
def IU_(x:Bool):List UInt8:=if x then [1]else [0]
theorem KN_(x:Bool):App 263 [.bool x] (IU_ x):=by
 constructor<;>intro bs hb<;>cases x<;>simp only[IU_,Bool.false_eq_true,if_false,if_true,List.length_cons,List.length_nil]at hb ⊢
 ·refine ar_.fact 5 ju_ (by simp) ?_ (by simp);unfold hk_;refine bd ?_;try refine aa_ ?_
  refine bM_ rfl (fun h=>by cases h) (fun h=>?_);try refine aa_ ?_
  (try simp only[HX_,HY_,lV_])
  exact SG_ [] [0]
 ·refine ar_.fact 5 ju_ (by simp) ?_ (by simp);unfold hk_;refine bd ?_;try refine aa_ ?_
  refine bM_ rfl (fun h=>?_) (fun h=>by cases h);try refine aa_ ?_
  (try simp only[HX_,HY_,lV_])
  exact SG_ [] [0]
 ·refine ar_.fact 5 ju_ (by simp) ?_ (by simp);unfold hk_;refine bd ?_;try refine aa_ ?_
  refine bM_ rfl (fun h=>by cases h) (fun h=>?_);try refine aa_ ?_
  (try simp only[HX_,HY_,lV_])
  exact SG_ [] [0,1]
 ·refine ar_.fact 5 ju_ (by simp) ?_ (by simp);unfold hk_;refine bd ?_;try refine aa_ ?_
  refine bM_ rfl (fun h=>?_) (fun h=>by cases h);try refine aa_ ?_
  (try simp only[HX_,HY_,lV_])
  exact SG_ [] [0,1]
theorem em_(r:Rt):App 260 [.agg (rtc r)] r.1:=by
 have hr:=r.2;constructor<;>intro bs hb
 ·refine ar_.fact 5 sy_ (by simp) ?_ (by simp);unfold mq_;refine bd ?_;repeat(first|refine aa_ ?_|simp only[go_sem,nq_ r,hr])
  exact SG_ [] [1]
 ·refine ar_.fact 5 sy_ (by simp) ?_ (by simp);unfold mq_;refine bd ?_;repeat(first|refine aa_ ?_|simp only[go_sem,nq_ r,hr])
  exact SG_ [] [0,2]
def Qq_(a:Wd)(i:Nat):UInt8:=byt (dg_ .u64 (a.1.getD (i / 8) 0) (8*(i%8)))
def jP_(a:Wd)(k:Nat):Rt:=if h:k=0 then rt0 else (jP_ a (k-1)).set (31-(k-1)) (Qq_ a (k-1))
termination_by k
decreasing_by omega
theorem Nf_(a:Wd):jP_ a 0=rt0:=by rw[jP_,dif_pos rfl]
theorem Ng_(a:Wd)(i:Nat):jP_ a (i+1)=(jP_ a i).set (31-i) (Qq_ a i):=by rw[jP_,dif_neg (by omega)];rfl
theorem Qx_{cs:List AV}(h:PuL cs):Pu (.agg cs):=h
def dy_(a:Wd):Rt:=jP_ a 32
theorem ix1{i:Nat}(h:i<32):IntKind.i64.wrap (31-(i:Int))=((31-i:Nat):Int):=by rw[aC_ (by omega) (by omega)];omega
theorem ix2{i:Nat}(h:i<32):IntKind.i64.wrap ((i:Int).tdiv 8)=((i / 8:Nat):Int):=by
 rw[Int.tdiv_eq_ediv_of_nonneg (by omega),aC_ (by omega) (by omega)];rfl
theorem ix3(i:Nat):(i:Int).tmod 8=((i%8:Nat):Int):=by rw[Int.tmod_eq_emod_of_nonneg (by omega)];rfl
theorem ix4(i:Nat):IntKind.i64.wrap (8*((i%8:Nat):Int))=((8*(i%8):Nat):Int):=by rw[aC_ (by omega) (by omega)];omega
theorem ix5{i:Nat}(h:i<32):IntKind.i64.wrap ((i:Int)+1)=((i+1:Nat):Int):=by rw[aC_ (by omega) (by omega)];omega
theorem ix6(i:Nat):IntKind.u64.wrap ((8*(i%8):Nat):Int)=((8*(i%8):Nat):Int):=aH_ (by omega) (by omega)
theorem Fo_(n:Int):IntKind.u8.wrap n=((byt n).toNat:Int):=(Oi_ n).symm
theorem pc_(a:Wd):PC Tryz.prog 277 [.agg (wdc a)] (.agg (rtc (dy_ a))):=by
 refine PC.fact 5 ve_ (by simp) ⟨gT_ a,trivial⟩ (Qx_ (cw_ _)) ?_;unfold mp_;refine bd ?_;try refine aa_ ?_
 refine gO_ (fun i:Nat=>⟨5,[.agg (wdc a),.ptr 0 0,.ptr 1 0,.ptr 2 0,.int .i64 i],[]⟩) (fun i=>[.var (wdc a),.var (rtc rt0),.var (rtc (jP_ a i))]) (fun i=>32-i) (fun i=>i≤32) [] 0 (by omega) (by first|((try simp only[go_sem,Nat.reduceAdd,Nat.reduceSub,Nat.reduceMul,Nat.reduceLT,Nat.reduceLeDiff,Nat.reduceEqDiff,reduceIte,Int.reduceToNat,Int.reduceLT,Int.reduceLE,Int.reduceEq,Int.reduceNeg,reduceCtorEq,Int.reduceBEq,Int.reduceBNe]);done)|((try simp only[go_sem,Nat.reduceAdd,Nat.reduceSub,Nat.reduceMul,Nat.reduceLT,Nat.reduceLeDiff,Nat.reduceEqDiff,reduceIte,Int.reduceToNat,Int.reduceLT,Int.reduceLE,Int.reduceEq,Int.reduceNeg,reduceCtorEq,Int.reduceBEq,Int.reduceBNe]);rfl)) (by rw[Nf_]) ?_;intro i hi;try dsimp only
 try refine aa_ ?_
 refine bM_ evd (fun h=>?_) (fun h=>?_)
 ·have h1:i<32:=by simp at h;omega
  have s1:∀b:UInt8,spl (rtc (jP_ a i)) (31-i) [.int .u8 b.toNat]=rtc ((jP_ a i).set (31-i) b):=fun b=>ua_ _ (by omega) b
  repeat(first|refine aa_ ?_|simp only[go_sem,Nat.mul_one,ix1 h1,ix2 h1,ix3 i,ix4 i,ix5 h1,ix6 i,Mj_ a (show i / 8<4 by omega),Fo_,s1])
  exact⟨i+1,h1,by omega,rfl,by rw[Ng_];rfl⟩
 ·have h1:i=32:=by simp at h;omega
  subst h1;try refine aa_ ?_
  exact ae_
theorem Aj_(a:Wd):App 261 [.agg (wdc a)] (dy_ a).1:=by
 have hr:=(dy_ a).2;constructor<;>intro bs hb
 ·refine ar_.fact 6 sA_ (by simp) ?_ (by simp);unfold ms_;refine bd ?_;try refine aa_ ?_
  refine aj_ (pc_ a) ?_;repeat(first|refine aa_ ?_|simp only[go_sem,nq_ (dy_ a),hr])
  exact SG_ [] [2]
 ·refine ar_.fact 6 sA_ (by simp) ?_ (by simp);unfold ms_;refine bd ?_;try refine aa_ ?_
  refine aj_ (pc_ a) ?_;repeat(first|refine aa_ ?_|simp only[go_sem,nq_ (dy_ a),hr])
  exact SG_ [] [0,3]
def gx_(c:Cp):List UInt8:=cb_ c.ep.toNat++c.rt.1
theorem qZ_(c:Cp)(h0:0≤c.ep)(h1:c.ep<18446744073709551616):App 262 [.agg (cpC c)] (gx_ c):=by
 have hr:=c.rt.2;constructor<;>intro bs hb<;>(simp only[gx_,List.length_append,hr]at hb)<;>(simp only[gx_,List.length_append,←List.append_assoc,←Nat.add_assoc])
 ·refine ar_.fact 5 jv_ (by simp) ?_ (by simp);unfold gg_;refine bd ?_;try refine aa_ ?_
  refine bs_ [] ((cv_ c.ep h0 h1).clip bs (by omega)) (by simp) evd (bT_.mk' (by simp) (by simp) evd) ?_;refine evg ?_;try refine aa_ ?_
  refine bs_ [1] ((em_ c.rt).own (bs++cb_ c.ep.toNat) (by rw[List.length_append,hr];omega)) (by simp) evd (bT_.mk' (by simp) (by simp) evd) ?_;refine evg ?_;try refine aa_ ?_
  exact SG_ [] [2]
 ·refine ar_.fact 5 jv_ (by simp) ?_ (by simp);unfold gg_;refine bd ?_;try refine aa_ ?_
  refine bs_ [0] ((cv_ c.ep h0 h1).own bs (by omega)) (by simp) evd (bT_.mk' (by simp) (by simp) evd) ?_;refine evg ?_;try refine aa_ ?_
  refine bs_ [2] ((em_ c.rt).own (bs++cb_ c.ep.toNat) (by rw[List.length_append,hr];omega)) (by simp) evd (bT_.mk' (by simp) (by simp) evd) ?_;refine evg ?_;try refine aa_ ?_
  exact SG_ [] [0,3]
end Go.Proofs.YtkgimpdgncakjaaGreat
namespace Go.Proofs.YtkgimpdgncakjaaGreat
open Go Go.FH Go.RowKit
set_option linter.unusedVariables false
set_option linter.unusedSimpArgs false
theorem App.nil{f:FuncId}{xs:List AV}{e:List UInt8}(h:App f xs e)(he:e.length≤140737488355328):ar_ Tryz.prog f (.sl 0 true []::xs) [] (.hs 1 0 0 e.length) [.vec 1 (bts e)]:=by
 have:=h.clip [] (by simpa using he);simp only[List.length_nil,Nat.zero_add,List.nil_append]at this;exact this.wk ⟨Wk.empty 0 1 _,WkL.refl _⟩
end Go.Proofs.YtkgimpdgncakjaaGreat
