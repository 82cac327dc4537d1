/-
 My texts Cb, Cc, Cd, Da, Db, Dc, De, Df, Ce, Dd, joined.
-/
import Derived.Test.YtkgimpdgncakjaaGreatW4
import Derived.Test.YtkgimpdgncakjaaGreatW3
namespace Go.Proofs.YtkgimpdgncakjaaGreat
open Go Go.FH
set_option linter.unusedVariables false
set_option linter.unusedSimpArgs false
def Sb_(a x:Int):Int:=(IntKind.u64.wrap (IntKind.u64.wrap (a+IntKind.u64.wrap x)+1)).tmod 4294967295
def SP_(b a:Int):Int:=(IntKind.u64.wrap (b+a)).tmod 4294967295
def SQ_:List UInt8→Int→Int→Int×Int
 | [],a,b=>(a,b)
 |x::xs,a,b=>SQ_ xs (Sb_ a x.toNat) (SP_ b (Sb_ a x.toNat))
def bY_(n:Nat):List UInt8:=if h:n<128 then [UInt8.ofNat n]else UInt8.ofNat (n%128+128)::bY_ (n / 128)
termination_by n
decreasing_by omega
theorem kt_{n:Nat}(h:128≤n):bY_ n=UInt8.ofNat (n%128+128)::bY_ (n / 128):=by rw[bY_,dif_neg (by omega)]
theorem fz_{n:Nat}(h:n<128):bY_ n=[UInt8.ofNat n]:=by rw[bY_,dif_pos h]
theorem Qh_:∀k:Fin 256,ior .u8 ((k.val:Nat):Int) 128=((k.val%128+128:Nat):Int):=by decide +kernel
theorem uhi(m:Nat):ior .u8 (IntKind.u8.wrap (m:Int)) 128=((UInt8.ofNat (m%128+128)).toNat:Int):=by
 have h:=Qh_ ⟨m%256,by omega⟩;simp only at h;rw[show IntKind.u8.wrap (m:Int)=((m%256:Nat):Int)by rw[IntKind.wrap_u8];omega,h];simp only[UInt8.toNat_ofNat'];omega
theorem ulo{m:Nat}(h:m<128):IntKind.u8.wrap (m:Int)=((UInt8.ofNat m).toNat:Int):=by
 rw[IntKind.wrap_u8];simp only[UInt8.toNat_ofNat'];omega
theorem Ql_(m:Nat):dF_ .u64 (m:Int) 7=((m / 128:Nat):Int):=by
 unfold dF_;rw[show ((2:Int) ^ (min 7 IntKind.u64.bits))=((128:Nat):Int)by decide];rw[Int.fdiv_eq_ediv_of_nonneg _ (by omega)];rfl
theorem Fl_:∀ (k n:Nat),n<128 ^ (k+1)→(bY_ n).length≤k+1
 |0,n,h=>by rw[fz_ (by simpa using h)];simp
 | k + 1, n, h => by
   by_cases hn:n<128
   ·rw[fz_ hn];simp
   ·rw[kt_ (by omega),List.length_cons]
    have:n / 128<128 ^ (k+1):=by
     rw[Nat.div_lt_iff_lt_mul (by omega)];rw[Nat.pow_succ]at h;exact h
    have:=Fl_ k (n / 128) this;omega
theorem fy_{n:Nat}(h:n<18446744073709551616):(bY_ n).length≤10:=Fl_ 9 n (by omega)
theorem Oo_(n:Nat):0<(bY_ n).length:=by
 by_cases hn:n<128
 ·rw[fz_ hn];simp
 ·rw[kt_ (by omega)];simp
structure App(f:FuncId)(xs:List AV)(e:List UInt8):Prop where
 clip:∀bs:List UInt8,bs.length+e.length≤140737488355328→ap_ Tryz.prog f (.sl 1 true (bts bs)::xs) [] (.hs 1 0 0 (bs.length+e.length)) [.vec 1 (bts (bs++e))]
 own:∀bs:List UInt8,bs.length+e.length≤140737488355328→ap_ Tryz.prog f (.hs 1 0 0 bs.length::xs) [.vec 1 (bts bs)] (.hs 1 1 0 (bs.length+e.length)) [.gone,.vec 1 (bts (bs++e))]
theorem OT_(m:Nat):fw_ .u64 (m:Int) 127=((m%128:Nat):Int):=by
 unfold fw_
 have:(BitVec.ofInt IntKind.u64.bits (m:Int) &&& BitVec.ofInt IntKind.u64.bits 127).toNat=m%128:=by
  rw[BitVec.toNat_and,BitVec.ofInt_natCast,show BitVec.ofInt IntKind.u64.bits 127=BitVec.ofNat IntKind.u64.bits (2 ^ 7-1)by decide,BitVec.toNat_ofNat,BitVec.toNat_ofNat];rw[show (2 ^ 7-1)%2 ^ IntKind.u64.bits=2 ^ 7-1 by decide,Nat.and_two_pow_sub_one_eq_mod];rw[Nat.mod_mod_of_dvd _ (by decide)]
 rw[this,aF_ (by omega) (by omega)]
theorem Qg_(m:Nat):ior .u8 (IntKind.u8.wrap (fw_ .u64 (m:Int) 127)) 128=((UInt8.ofNat (m%128+128)).toNat:Int):=by
 rw[OT_,uhi,Nat.mod_mod]
theorem cp_(n:Int)(h0:0≤n)(h1:n<18446744073709551616):App 243 [.int .u64 n] (bY_ n.toNat):=by
 constructor
 ·intro bs hb
  refine ap_.fact 5 sD_ (by simp) ?_ (by simp);unfold mn_;refine bd ?_;try refine aa_ ?_
  refine gF_ (fun x:Bool×List UInt8×Nat=>⟨5,[if x.1 then .hs 1 0 0 x.2.1.length else .sl 1 true (bts x.2.1),.int .u64 x.2.2,.dead,.dead,.sl 0 true []],[]⟩) (fun x=>if x.1 then [.vec 1 (bts x.2.1)]else []) (fun x=>x.2.2)
   (fun x=>x.2.1++bY_ x.2.2=bs++bY_ n.toNat∧x.2.2<18446744073709551616) (false,bs,n.toNat) ⟨rfl,by dsimp only;omega⟩ ?_ ?_
  ·refine GC.mk' [] [] (by simp) rfl (by simp) (by simp) (by simp[fx_]) ?_;simp[gg_,fz,qF_,ren,nz_,rn,ez_,cb_];try omega
  rintro⟨st,acc,m⟩ ⟨h2,h3⟩;dsimp only at h2 h3 ⊢;have hl:acc.length+(bY_ m).length=bs.length+(bY_ n.toNat).length:=by simpa using congrArg List.length h2
  cases st
  ·try refine aa_ ?_
   refine bL_ evd (fun h=>?_) (fun h=>?_)
   ·have hm:128≤m:=by simp at h;omega
    rw[kt_ hm]at h2 hl;simp only[List.length_cons]at hl;try refine aa_ ?_
    simp only[Ql_,Qg_];(try simp only[go_sem,Nat.reduceAdd,Nat.reduceSub,Nat.reduceMul,Nat.reduceLT,Nat.reduceLeDiff,Nat.reduceEqDiff,reduceIte,Int.reduceToNat,Int.reduceLT,Int.reduceLE,Int.reduceEq,Int.reduceNeg,reduceCtorEq,Int.reduceBEq,Int.reduceBNe])
    refine⟨(true,acc++[UInt8.ofNat (m%128+128)],m / 128),⟨by simpa using h2,by dsimp only;omega⟩,by dsimp only;omega,?_⟩;exact ST_ [] [0]
   ·have hm:m<128:=by simp at h;omega
    rw[fz_ hm]at h2 hl;simp only[List.length_cons,List.length_nil,Nat.zero_add]at hl;try refine aa_ ?_
    rw[←h2,←hl];simp only[ulo hm];(try simp only[go_sem,Nat.reduceAdd,Nat.reduceSub,Nat.reduceMul,Nat.reduceLT,Nat.reduceLeDiff,Nat.reduceEqDiff,reduceIte,Int.reduceToNat,Int.reduceLT,Int.reduceLE,Int.reduceEq,Int.reduceNeg,reduceCtorEq,Int.reduceBEq,Int.reduceBNe])
    exact SM_ [] [0]
  ·try refine aa_ ?_
   refine bL_ evd (fun h=>?_) (fun h=>?_)
   ·have hm:128≤m:=by simp at h;omega
    rw[kt_ hm]at h2 hl;simp only[List.length_cons]at hl;try refine aa_ ?_
    simp only[Ql_,Qg_];(try simp only[go_sem,Nat.reduceAdd,Nat.reduceSub,Nat.reduceMul,Nat.reduceLT,Nat.reduceLeDiff,Nat.reduceEqDiff,reduceIte,Int.reduceToNat,Int.reduceLT,Int.reduceLE,Int.reduceEq,Int.reduceNeg,reduceCtorEq,Int.reduceBEq,Int.reduceBNe])
    refine⟨(true,acc++[UInt8.ofNat (m%128+128)],m / 128),⟨by simpa using h2,by dsimp only;omega⟩,by dsimp only;omega,?_⟩;exact ST_ [] [1]
   ·have hm:m<128:=by simp at h;omega
    rw[fz_ hm]at h2 hl;simp only[List.length_cons,List.length_nil,Nat.zero_add]at hl;try refine aa_ ?_
    rw[←h2,←hl];simp only[ulo hm];(try simp only[go_sem,Nat.reduceAdd,Nat.reduceSub,Nat.reduceMul,Nat.reduceLT,Nat.reduceLeDiff,Nat.reduceEqDiff,reduceIte,Int.reduceToNat,Int.reduceLT,Int.reduceLE,Int.reduceEq,Int.reduceNeg,reduceCtorEq,Int.reduceBEq,Int.reduceBNe])
    exact SM_ [] [1]
 ·intro bs hb
  refine ap_.fact 5 sD_ (by simp) ?_ (by simp);unfold mn_;refine bd ?_;try refine aa_ ?_
  refine gF_ (fun x:Bool×List UInt8×Nat=>⟨5,[if x.1 then .hs 1 1 0 x.2.1.length else .hs 1 0 0 x.2.1.length,.int .u64 x.2.2,.dead,.dead,.sl 0 true []],[]⟩) (fun x=>if x.1 then [.gone,.vec 1 (bts x.2.1)]else [.vec 1 (bts x.2.1)]) (fun x=>x.2.2)
   (fun x=>x.2.1++bY_ x.2.2=bs++bY_ n.toNat∧x.2.2<18446744073709551616) (false,bs,n.toNat) ⟨rfl,by dsimp only;omega⟩ ?_ ?_
  ·refine GC.mk' [] [0] (by simp) rfl (by simp) (by simp) (by simp[fx_,fd_,nz_,rn,fzO,qF_]) ?_;simp[gg_,fz,qF_,ren,nz_,rn,ez_,cb_];try omega
  rintro⟨st,acc,m⟩ ⟨h2,h3⟩;dsimp only at h2 h3 ⊢;have hl:acc.length+(bY_ m).length=bs.length+(bY_ n.toNat).length:=by simpa using congrArg List.length h2
  cases st
  ·try refine aa_ ?_
   refine bL_ evd (fun h=>?_) (fun h=>?_)
   ·have hm:128≤m:=by simp at h;omega
    rw[kt_ hm]at h2 hl;simp only[List.length_cons]at hl;try refine aa_ ?_
    simp only[Ql_,Qg_];(try simp only[go_sem,Nat.reduceAdd,Nat.reduceSub,Nat.reduceMul,Nat.reduceLT,Nat.reduceLeDiff,Nat.reduceEqDiff,reduceIte,Int.reduceToNat,Int.reduceLT,Int.reduceLE,Int.reduceEq,Int.reduceNeg,reduceCtorEq,Int.reduceBEq,Int.reduceBNe])
    refine⟨(true,acc++[UInt8.ofNat (m%128+128)],m / 128),⟨by simpa using h2,by dsimp only;omega⟩,by dsimp only;omega,?_⟩;exact ST_ [] [0,1]
   ·have hm:m<128:=by simp at h;omega
    rw[fz_ hm]at h2 hl;simp only[List.length_cons,List.length_nil,Nat.zero_add]at hl;try refine aa_ ?_
    rw[←h2,←hl];simp only[ulo hm];(try simp only[go_sem,Nat.reduceAdd,Nat.reduceSub,Nat.reduceMul,Nat.reduceLT,Nat.reduceLeDiff,Nat.reduceEqDiff,reduceIte,Int.reduceToNat,Int.reduceLT,Int.reduceLE,Int.reduceEq,Int.reduceNeg,reduceCtorEq,Int.reduceBEq,Int.reduceBNe])
    exact SM_ [] [0,1]
  ·try refine aa_ ?_
   refine bL_ evd (fun h=>?_) (fun h=>?_)
   ·have hm:128≤m:=by simp at h;omega
    rw[kt_ hm]at h2 hl;simp only[List.length_cons]at hl;try refine aa_ ?_
    simp only[Ql_,Qg_];(try simp only[go_sem,Nat.reduceAdd,Nat.reduceSub,Nat.reduceMul,Nat.reduceLT,Nat.reduceLeDiff,Nat.reduceEqDiff,reduceIte,Int.reduceToNat,Int.reduceLT,Int.reduceLE,Int.reduceEq,Int.reduceNeg,reduceCtorEq,Int.reduceBEq,Int.reduceBNe])
    refine⟨(true,acc++[UInt8.ofNat (m%128+128)],m / 128),⟨by simpa using h2,by dsimp only;omega⟩,by dsimp only;omega,?_⟩;exact ST_ [] [0,2]
   ·have hm:m<128:=by simp at h;omega
    rw[fz_ hm]at h2 hl;simp only[List.length_cons,List.length_nil,Nat.zero_add]at hl;try refine aa_ ?_
    rw[←h2,←hl];simp only[ulo hm];(try simp only[go_sem,Nat.reduceAdd,Nat.reduceSub,Nat.reduceMul,Nat.reduceLT,Nat.reduceLeDiff,Nat.reduceEqDiff,reduceIte,Int.reduceToNat,Int.reduceLT,Int.reduceLE,Int.reduceEq,Int.reduceNeg,reduceCtorEq,Int.reduceBEq,Int.reduceBNe])
    exact SM_ [] [0,2]
theorem If_:[[AV.int .u8 0]]=bts [0]:=rfl
theorem Ig_:[[AV.int .u8 1]]=bts [1]:=rfl
def IZ_(x:Bool):List UInt8:=if x then [1]else [0]
theorem KW_(x:Bool):App 263 [.bool x] (IZ_ x):=by
 constructor<;>intro bs hb<;>cases x<;>simp only[IZ_,Bool.false_eq_true,if_false,if_true,List.length_cons,List.length_nil]at hb ⊢
 ·refine ap_.fact 5 jo_ (by simp) ?_ (by simp);unfold ha_;refine bd ?_;try refine aa_ ?_
  refine bL_ rfl (fun h=>by cases h) (fun h=>?_);try refine aa_ ?_
  (try simp only[If_,Ig_,lR_])
  exact SM_ [] [0]
 ·refine ap_.fact 5 jo_ (by simp) ?_ (by simp);unfold ha_;refine bd ?_;try refine aa_ ?_
  refine bL_ rfl (fun h=>?_) (fun h=>by cases h);try refine aa_ ?_
  (try simp only[If_,Ig_,lR_])
  exact SM_ [] [0]
 ·refine ap_.fact 5 jo_ (by simp) ?_ (by simp);unfold ha_;refine bd ?_;try refine aa_ ?_
  refine bL_ rfl (fun h=>by cases h) (fun h=>?_);try refine aa_ ?_
  (try simp only[If_,Ig_,lR_])
  exact SM_ [] [0,1]
 ·refine ap_.fact 5 jo_ (by simp) ?_ (by simp);unfold ha_;refine bd ?_;try refine aa_ ?_
  refine bL_ rfl (fun h=>?_) (fun h=>by cases h);try refine aa_ ?_
  (try simp only[If_,Ig_,lR_])
  exact SM_ [] [0,1]
theorem eh_(r:Rt):App 260 [.agg (rtc r)] r.1:=by
 have hr:=r.2;constructor<;>intro bs hb
 ·refine ap_.fact 5 sC_ (by simp) ?_ (by simp);unfold mm_;refine bd ?_;repeat(first|refine aa_ ?_|simp only[go_sem,nm_ r,hr])
  exact SM_ [] [1]
 ·refine ap_.fact 5 sC_ (by simp) ?_ (by simp);unfold mm_;refine bd ?_;repeat(first|refine aa_ ?_|simp only[go_sem,nm_ r,hr])
  exact SM_ [] [0,2]
def QB_(a:Wd)(i:Nat):UInt8:=byt (dF_ .u64 (a.1.getD (i / 8) 0) (8*(i%8)))
def jK_(a:Wd)(k:Nat):Rt:=if h:k=0 then rt0 else (jK_ a (k-1)).set (31-(k-1)) (QB_ a (k-1))
termination_by k
decreasing_by omega
theorem Ns_(a:Wd):jK_ a 0=rt0:=by rw[jK_,dif_pos rfl]
theorem Nt_(a:Wd)(i:Nat):jK_ a (i+1)=(jK_ a i).set (31-i) (QB_ a i):=by rw[jK_,dif_neg (by omega)];rfl
theorem QH_{cs:List AV}(h:PuL cs):Pu (.agg cs):=h
def ds_(a:Wd):Rt:=jK_ a 32
theorem ix1{i:Nat}(h:i<32):IntKind.i64.wrap (31-(i:Int))=((31-i:Nat):Int):=by rw[ax_ (by omega) (by omega)];omega
theorem ix2{i:Nat}(h:i<32):IntKind.i64.wrap ((i:Int).tdiv 8)=((i / 8:Nat):Int):=by
 rw[Int.tdiv_eq_ediv_of_nonneg (by omega),ax_ (by omega) (by omega)];rfl
theorem ix3(i:Nat):(i:Int).tmod 8=((i%8:Nat):Int):=by rw[Int.tmod_eq_emod_of_nonneg (by omega)];rfl
theorem ix4(i:Nat):IntKind.i64.wrap (8*((i%8:Nat):Int))=((8*(i%8):Nat):Int):=by rw[ax_ (by omega) (by omega)];omega
theorem ix5{i:Nat}(h:i<32):IntKind.i64.wrap ((i:Int)+1)=((i+1:Nat):Int):=by rw[ax_ (by omega) (by omega)];omega
theorem ix6(i:Nat):IntKind.u64.wrap ((8*(i%8):Nat):Int)=((8*(i%8):Nat):Int):=aF_ (by omega) (by omega)
theorem Fw_(n:Int):IntKind.u8.wrap n=((byt n).toNat:Int):=(Oz_ n).symm
theorem oV_(a:Wd):PC Tryz.prog 277 [.agg (wdc a)] (.agg (rtc (ds_ a))):=by
 refine PC.fact 5 vh_ (by simp) ⟨gJ_ a,trivial⟩ (QH_ (cf_ _)) ?_;unfold ml_;refine bd ?_;try refine aa_ ?_
 refine gE_ (fun i:Nat=>⟨5,[.agg (wdc a),.ptr 0 0,.ptr 1 0,.ptr 2 0,.int .i64 i],[]⟩) (fun i=>[.var (wdc a),.var (rtc rt0),.var (rtc (jK_ a i))]) (fun i=>32-i) (fun i=>i≤32) [] 0 (by omega) (by first|((try simp only[go_sem,Nat.reduceAdd,Nat.reduceSub,Nat.reduceMul,Nat.reduceLT,Nat.reduceLeDiff,Nat.reduceEqDiff,reduceIte,Int.reduceToNat,Int.reduceLT,Int.reduceLE,Int.reduceEq,Int.reduceNeg,reduceCtorEq,Int.reduceBEq,Int.reduceBNe]);done)|((try simp only[go_sem,Nat.reduceAdd,Nat.reduceSub,Nat.reduceMul,Nat.reduceLT,Nat.reduceLeDiff,Nat.reduceEqDiff,reduceIte,Int.reduceToNat,Int.reduceLT,Int.reduceLE,Int.reduceEq,Int.reduceNeg,reduceCtorEq,Int.reduceBEq,Int.reduceBNe]);rfl)) (by rw[Ns_]) ?_;intro i hi;try dsimp only
 try refine aa_ ?_
 refine bL_ evd (fun h=>?_) (fun h=>?_)
 ·have h1:i<32:=by simp at h;omega
  have s1:∀b:UInt8,spl (rtc (jK_ a i)) (31-i) [.int .u8 b.toNat]=rtc ((jK_ a i).set (31-i) b):=fun b=>ua_ _ (by omega) b
  repeat(first|refine aa_ ?_|simp only[go_sem,Nat.mul_one,ix1 h1,ix2 h1,ix3 i,ix4 i,ix5 h1,ix6 i,Ms_ a (show i / 8<4 by omega),Fw_,s1])
  exact⟨i+1,h1,by omega,rfl,by rw[Nt_];rfl⟩
 ·have h1:i=32:=by simp at h;omega
  subst h1;try refine aa_ ?_
  exact ag_
theorem As_(a:Wd):App 261 [.agg (wdc a)] (ds_ a).1:=by
 have hr:=(ds_ a).2;constructor<;>intro bs hb
 ·refine ap_.fact 6 sE_ (by simp) ?_ (by simp);unfold mo_;refine bd ?_;try refine aa_ ?_
  refine ae_ (oV_ a) ?_;repeat(first|refine aa_ ?_|simp only[go_sem,nm_ (ds_ a),hr])
  exact SM_ [] [2]
 ·refine ap_.fact 6 sE_ (by simp) ?_ (by simp);unfold mo_;refine bd ?_;try refine aa_ ?_
  refine ae_ (oV_ a) ?_;repeat(first|refine aa_ ?_|simp only[go_sem,nm_ (ds_ a),hr])
  exact SM_ [] [0,3]
def gk_(c:Cp):List UInt8:=bY_ c.ep.toNat++c.rt.1
theorem qY_(c:Cp)(h0:0≤c.ep)(h1:c.ep<18446744073709551616):App 262 [.agg (cpC c)] (gk_ c):=by
 have hr:=c.rt.2;constructor<;>intro bs hb<;>(simp only[gk_,List.length_append,hr]at hb)<;>(simp only[gk_,List.length_append,←List.append_assoc,←Nat.add_assoc])
 ·refine ap_.fact 5 jp_ (by simp) ?_ (by simp);unfold fV_;refine bd ?_;try refine aa_ ?_
  refine bv_ [] ((cp_ c.ep h0 h1).clip bs (by omega)) (by simp) evd (bR_.mk' (by simp) (by simp) evd) ?_;refine evg ?_;try refine aa_ ?_
  refine bv_ [1] ((eh_ c.rt).own (bs++bY_ c.ep.toNat) (by rw[List.length_append,hr];omega)) (by simp) evd (bR_.mk' (by simp) (by simp) evd) ?_;refine evg ?_;try refine aa_ ?_
  exact SM_ [] [2]
 ·refine ap_.fact 5 jp_ (by simp) ?_ (by simp);unfold fV_;refine bd ?_;try refine aa_ ?_
  refine bv_ [0] ((cp_ c.ep h0 h1).own bs (by omega)) (by simp) evd (bR_.mk' (by simp) (by simp) evd) ?_;refine evg ?_;try refine aa_ ?_
  refine bv_ [2] ((eh_ c.rt).own (bs++bY_ c.ep.toNat) (by rw[List.length_append,hr];omega)) (by simp) evd (bR_.mk' (by simp) (by simp) evd) ?_;refine evg ?_;try refine aa_ ?_
  exact SM_ [] [0,3]
end Go.Proofs.YtkgimpdgncakjaaGreat
namespace Go.Proofs.YtkgimpdgncakjaaGreat
open Go Go.FH Go.RowKit
set_option linter.unusedVariables false
set_option linter.unusedSimpArgs false
theorem App.nil{f:FuncId}{xs:List AV}{e:List UInt8}(h:App f xs e)(he:e.length≤140737488355328):ap_ Tryz.prog f (.sl 0 true []::xs) [] (.hs 1 0 0 e.length) [.vec 1 (bts e)]:=by
 have:=h.clip [] (by simpa using he);simp only[List.length_nil,Nat.zero_add,List.nil_append]at this;exact this.wk ⟨Wk.empty 0 1 _,WkL.refl _⟩
end Go.Proofs.YtkgimpdgncakjaaGreat
