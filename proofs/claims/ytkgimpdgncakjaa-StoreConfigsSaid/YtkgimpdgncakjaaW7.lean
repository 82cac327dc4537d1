/-
 My texts Cb, Cc, Cd, Da, Db, Dc, De, Df, Ce, Dd, joined.
-/
import Derived.Test.YtkgimpdgncakjaaW4
import Derived.Test.YtkgimpdgncakjaaW3
namespace Go.Proofs.Ytkgimpdgncakjaa
open Go Go.FH
set_option linter.unusedVariables false
set_option linter.unusedSimpArgs false
def FD_(a x:Int):Int:=(IntKind.u64.wrap (IntKind.u64.wrap (a+IntKind.u64.wrap x)+1)).tmod 4294967295
def GB_(b a:Int):Int:=(IntKind.u64.wrap (b+a)).tmod 4294967295
def GC_:List UInt8→Int→Int→Int×Int
 | [],a,b=>(a,b)
 |x::xs,a,b=>GC_ xs (FD_ a x.toNat) (GB_ b (FD_ a x.toNat))
def fY_(n:Nat):List UInt8:=if h:n<128 then [UInt8.ofNat n]else UInt8.ofNat (n%128+128)::fY_ (n / 128)
termination_by n
decreasing_by omega
theorem BE_{n:Nat}(h:128≤n):fY_ n=UInt8.ofNat (n%128+128)::fY_ (n / 128):=by rw[fY_,dif_neg (by omega)]
theorem oA_{n:Nat}(h:n<128):fY_ n=[UInt8.ofNat n]:=by rw[fY_,dif_pos h]
theorem ut_:∀ (k n:Nat),n<128 ^ (k+1)→(fY_ n).length≤k+1
 |0,n,h=>by rw[oA_ (by simpa using h)];simp
 | k + 1, n, h => by
   by_cases hn:n<128
   ·rw[oA_ hn];simp
   ·rw[BE_ (by omega),List.length_cons]
    have:n / 128<128 ^ (k+1):=by
     rw[Nat.div_lt_iff_lt_mul (by omega)];rw[Nat.pow_succ]at h;exact h
    have:=ut_ k (n / 128) this;omega
theorem wj_{n:Nat}(h:n<18446744073709551616):(fY_ n).length≤10:=ut_ 9 n (by omega)
structure App(f:FuncId)(xs:List AV)(e:List UInt8):Prop where
 clip:∀bs:List UInt8,bs.length+e.length≤140737488355328→ao_ Try.prog f (.sl 1 true (bts bs)::xs) [] (.hs 1 0 0 (bs.length+e.length)) [.vec 1 (bts (bs++e))]
 own:∀bs:List UInt8,bs.length+e.length≤140737488355328→ao_ Try.prog f (.hs 1 0 0 bs.length::xs) [.vec 1 (bts bs)] (.hs 1 1 0 (bs.length+e.length)) [.gone,.vec 1 (bts (bs++e))]
def Gg_(x:Bool):List UInt8:=if x then [1]else [0]
def FF_(a:Wd)(i:Nat):UInt8:=byt (iS_ .u64 (a.1.getD (i / 8) 0) (8*(i%8)))
def AM_(a:Wd)(k:Nat):Rt:=if h:k=0 then rt0 else (AM_ a (k-1)).set (31-(k-1)) (FF_ a (k-1))
termination_by k
decreasing_by omega
def BK_(a:Wd):Rt:=AM_ a 32
def xs_(c:Cp):List UInt8:=fY_ c.ep.toNat++c.rt.1
end Go.Proofs.Ytkgimpdgncakjaa
namespace Go.Proofs.Ytkgimpdgncakjaa
open Go Go.FH Go.RowKit
set_option linter.unusedVariables false
set_option linter.unusedSimpArgs false
theorem App.nil{f:FuncId}{xs:List AV}{e:List UInt8}(h:App f xs e)(he:e.length≤140737488355328):ao_ Try.prog f (.sl 0 true []::xs) [] (.hs 1 0 0 e.length) [.vec 1 (bts e)]:=by
 have:=h.clip [] (by simpa using he);simp only[List.length_nil,Nat.zero_add,List.nil_append]at this;exact this.wk ⟨Wk.empty 0 1 _,WkL.refl _⟩
end Go.Proofs.Ytkgimpdgncakjaa
