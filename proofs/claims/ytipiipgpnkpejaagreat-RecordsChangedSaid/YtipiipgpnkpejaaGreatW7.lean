/-
 My texts Cb, Cc, Cd, Da, Db, Dc, De, Df, Ce, Dd, joined.
-/
import Derived.Test.YtipiipgpnkpejaaGreatW4
import Derived.Test.YtipiipgpnkpejaaGreatW3
namespace Go.Proofs.YtipiipgpnkpejaaGreat
open Go Go.FH
set_option linter.unusedVariables false
set_option linter.unusedSimpArgs false

def sumA (a x:Int):Int:=(IntKind.u64.wrap (IntKind.u64.wrap (a+IntKind.u64.wrap x)+1)).tmod 4294967295
def sumB (b a:Int):Int:=(IntKind.u64.wrap (b+a)).tmod 4294967295
def sums:List UInt8→Int→Int→Int × Int
 | [],a,b=>(a,b)
 | x::xs,a,b=>sums xs (sumA a x.toNat) (sumB b (sumA a x.toNat))
def uenc (n:Nat):List UInt8:=if h:n<128 then [UInt8.ofNat n]else UInt8.ofNat (n % 128+128)::uenc (n / 128)
termination_by n
decreasing_by omega

theorem cE_ {n:Nat}(h:128≤n):uenc n=UInt8.ofNat (n % 128+128)::uenc (n / 128):=by rw[uenc,dif_neg (by omega)]
theorem bi_ {n:Nat}(h:n<128):uenc n=[UInt8.ofNat n]:=by rw[uenc,dif_pos h]
theorem ES_:∀ k:Fin 256,ior .u8 ((k.val:Nat):Int) 128=((k.val % 128+128:Nat):Int):=by decide +kernel
theorem uhi (m:Nat):ior .u8 (IntKind.u8.wrap (m:Int)) 128=((UInt8.ofNat (m % 128+128)).toNat:Int):=by
 have h:=ES_ ⟨m % 256,by omega⟩
 simp only at h
 rw[show IntKind.u8.wrap (m:Int)=((m % 256:Nat):Int)by rw[IntKind.wrap_u8];omega,h]
 simp only[UInt8.toNat_ofNat']
 omega
theorem ulo {m:Nat}(h:m<128):IntKind.u8.wrap (m:Int)=((UInt8.ofNat m).toNat:Int):=by
 rw[IntKind.wrap_u8];simp only[UInt8.toNat_ofNat'];omega
theorem ushr (m:Nat):ishr .u64 (m:Int) 7=((m / 128:Nat):Int):=by
 unfold ishr
 rw[show ((2:Int) ^ (min 7 IntKind.u64.bits))=((128:Nat):Int)by decide]
 rw[Int.fdiv_eq_ediv_of_nonneg _ (by omega)];rfl


theorem we_ (bs:List UInt8):ACall Tryz.prog 108 [.sl 1 false (bts bs)] [] (.ptr 0 0) [.var [.sl 1 false (bts bs),.int .i64 0]]:=by
 refine ACall.fact 3 zS_ (by simp) ?_ (by simp)
 unfold rc_;refine bd ?_
 try refine aa_ ?_
 refine finQ [] [0] _ (by simp) (by first | rfl | exact evd) (by simp) rfl (by simp) (by simp) evd evd

def rstep (v:Int) (b:UInt8) (i:Nat):Int:=ior .u64 v (ishl .u64 (IntKind.u64.wrap (iand .u8 (b.toNat:Int) 127)) (7*i))
def rnumF:List UInt8→Nat→Int→Int × Nat × Int
 | [],_,_=>(0,0,5)
 | b :: bs, i, v =>
   if i=9∧1<b.toNat then (0,0,2)
   else if b.toNat<128 then (if b.toNat=0∧0<i then (0,0,2)else (rstep v b i,i+1,0))
   else rnumF bs (i+1) (rstep v b i)
def rnum (bs:List UInt8):Int × Nat × Int:=rnumF (bs.take 10) 0 0
theorem nK_ {bs:List UInt8}{i:Nat}(h:i<bs.length) (v:Int):rnumF (bs.drop i) i v=if i=9∧1<bs[i].toNat then (0,0,2)
   else if bs[i].toNat<128 then (if bs[i].toNat=0∧0<i then (0,0,2)else (rstep v bs[i] i,i+1,0))
   else rnumF (bs.drop (i+1)) (i+1) (rstep v bs[i] i):=by
 rw[List.drop_eq_getElem_cons h,rnumF]

theorem uv_ (bs : List UInt8) (cl : Bool) (e : Int) (hb : bs.length ≤ 140737488355328) :
   ACall Tryz.prog 122 [.ptr 0 0] [.var [.sl 1 cl (bts bs),.int .i64 e]] (.tup [.int .u64 (rnum bs).1,.int .i64 (rnum bs).2.1,.int .i64 (rnum bs).2.2]) [.var [.sl 1 cl (bts bs),.int .i64 e]]:=by
 refine ACall.fact 21 is_ (by simp) ?_ (by simp)
 unfold dV_;refine bd ?_
 try refine aa_ ?_
 have e1:List.take (if (10:Int)<bs.length then (10:Int)else bs.length).toNat bs=bs.take 10:=by
   split
   · rfl
   · rw[List.take_of_length_le (by omega),List.take_of_length_le (by omega)]
 have e2:min (if (10:Int)<bs.length then (10:Int)else bs.length).toNat bs.length=(bs.take 10).length:=by
   rw[List.length_take];split<;>omega
 have hq:(bs.take 10).length≤10:=by rw[List.length_take];omega
 have hr:rnum bs=rnumF (bs.take 10) 0 0:=rfl
 simp only[bndI,Nat.sub_zero,List.length_take,ud_]
 simp only[e1,e2]
 generalize rnum bs=r at *
 generalize bs.take 10=q at *
 refine bm_ (fun x:Nat × Int=>⟨21,[.ptr 0 0,.dead,.int .u64 0,.int .i64 0,.int .i64 0,.int .u64 x.2,.dead,.dead,.dead,.dead,.dead,.dead,.dead,.dead,.dead,.dead,.dead,.dead,.sl 1 false (bts q),.int .i64 q.length,.int .i64 x.1],[]⟩) (fun _=>[.var [.sl 1 cl (bts bs),.int .i64 e]]) (fun x=>q.length-x.1)
   (fun x=>x.1≤q.length∧rnumF (q.drop x.1) x.1 x.2=r) (0,0) ⟨by simp,hr.symm⟩ ?_ ?_
 · refine GC.mk' [] [0] (by simp) rfl (by simp) (by simp) evd evd
 rintro⟨i,v⟩ ⟨h1,h2⟩
 dsimp only at h1 h2 ⊢
 try refine aa_ ?_
 refine al_ evd (fun h=>?_) (fun h=>?_)
 · have hi : i < q.length := by simpa using h
   try refine aa_ ?_
   rw[eS_ hi]
   have hi10:i<10:=by omega
   rw[nK_ hi]at h2
   by_cases hA:i=9∧1<q[i].toNat
   · have h9':(((i:Nat):Int)==9)=true:=by simp[hA.1]
     have hb':decide ((1:Int)<(q[i].toNat:Int))=true:=by have:=hA.2;simp;omega
     rw[if_pos hA]at h2
     subst h2
     repeat(first | refine aa_ ?_ | simp only[go_sem,h9',hb'])
     refine al_ rfl (fun h=>?_) (fun h=>by cases h)
     try refine aa_ ?_
     refine finQ [] [0] _ (by simp) (by first | rfl | exact evd) (by simp) rfl (by simp) (by simp) evd evd
   · rw [if_neg hA] at h2
     have hc:(i=9∧¬ 1<q[i].toNat)∨i≠9:=by omega
     have hw1:IntKind.i64.wrap (7*(i:Int))=((7*i:Nat):Int):=by rw[ah_ (by omega) (by omega)];omega
     have hw2:IntKind.i64.wrap ((i:Int)+1)=((i+1:Nat):Int):=af_ hi (by omega)
     rcases hc with⟨h9,hb0⟩ | h9
     all_goals
       first
         | (have h9' : (((i : Nat) : Int) == 9) = true := (by simp [h9])
            have hb':decide ((1:Int)<(q[i].toNat:Int))=false:=(by simp;omega)
            repeat(first | refine aa_ ?_ | simp only[go_sem,h9',hb']))
         | (have h9' : (((i : Nat) : Int) == 9) = false := (by simp; omega)
            repeat(first | refine aa_ ?_ | simp only[go_sem,h9']))
       refine al_ rfl (fun h=>by cases h) (fun h=>?_)
       repeat(first | refine aa_ ?_ | simp only[go_sem,hw1])
       refine al_ evd (fun h=>?_) (fun h=>?_)
       · have hb8:q[i].toNat<128:=by simp at h;omega
         rw[if_pos hb8]at h2
         by_cases hz:q[i].toNat=0
         · have hz':((q[i].toNat:Int)==0)=true:=by simp[hz]
           repeat(first | refine aa_ ?_ | simp only[go_sem,hz'])
           refine al_ evd (fun h=>?_) (fun h=>?_)
           · rw[if_pos ⟨hz,by simpa using h⟩]at h2
             subst h2
             try refine aa_ ?_
             refine finQ [] [0] _ (by simp) (by first | rfl | exact evd) (by simp) rfl (by simp) (by simp) evd evd
           · rw[if_neg (fun hh=>by have:=hh.2;simp at h;omega)]at h2
             subst h2
             repeat(first | refine aa_ ?_ | simp only[go_sem,hw2])
             refine finQ [] [0] _ (by simp) (by first | rfl | exact evd) (by simp) rfl (by simp) (by simp) evd evd
         · have hz':((q[i].toNat:Int)==0)=false:=by simp;omega
           rw[if_neg (fun hh=>hz hh.1)]at h2
           subst h2
           repeat(first | refine aa_ ?_ | simp only[go_sem,hz'])
           refine al_ rfl (fun h=>by cases h) (fun h=>?_)
           repeat(first | refine aa_ ?_ | simp only[go_sem,hw2])
           refine finQ [] [0] _ (by simp) (by first | rfl | exact evd) (by simp) rfl (by simp) (by simp) evd evd
       · have hb8:¬ q[i].toNat<128:=by simp at h;omega
         rw[if_neg hb8]at h2
         repeat(first | refine aa_ ?_ | simp only[go_sem,hw2])
         refine⟨(i+1,rstep v q[i] i),⟨hi,h2⟩,by dsimp only;omega,?_⟩
         refine GC.mk' [] [0] (by simp) rfl (by simp) (by simp) evd evd
 · have hi:i=q.length:=by simp at h;omega
   subst hi
   rw[List.drop_length,rnumF]at h2
   subst h2
   try refine aa_ ?_
   refine finQ [] [0] _ (by simp) (by first | rfl | exact evd) (by simp) rfl (by simp) (by simp) evd evd

abbrev rdr (cl:Bool) (bs:List UInt8) (e:Int):AObj:=.var [.sl 1 cl (bts bs),.int .i64 e]

theorem fF_ (bs:List UInt8) (cl:Bool) (e x:Int):ACall Tryz.prog 115 [.ptr 0 0,.int .i64 x] [rdr cl bs e] (.tup []) [rdr cl bs x]:=by
 refine ACall.fact 4 jQ_ (by simp) ?_ (by simp)
 unfold eZ_ rdr;refine bd ?_
 try refine aa_ ?_
 refine finQ [] [0] _ (by simp) (by first | rfl | exact evd) (by simp) rfl (by simp) (by simp) evd evd

def rUint (bs:List UInt8) (e m:Int):Int × List UInt8 × Int:=
 if e≠0 then (0,bs,e)
 else if (rnum bs).2.2=0 then (if m<(rnum bs).1 then (0,bs,3)else ((rnum bs).1,bs.drop (rnum bs).2.1,0))else (0,bs,(rnum bs).2.2)

theorem uq_:∀ (l:List UInt8) (i:Nat) (v:Int),(rnumF l i v).2.1≤i+l.length
 | [],i,v=>by simp[rnumF]
 | b :: l, i, v => by
   rw[rnumF]
   have:=uq_ l (i+1) (rstep v b i)
   simp only[List.length_cons]
   (repeat' split)<;>first | omega | (simp only;omega)
theorem yn_ (bs:List UInt8):(rnum bs).2.1≤bs.length:=by
 have:=uq_ (bs.take 10) 0 0
 simp only[rnum,List.length_take]at this ⊢;omega

theorem es_ (bs:List UInt8) (cl:Bool) (e m:Int) (hb:bs.length≤140737488355328):
   ACall Tryz.prog 95 [.ptr 0 0,.int .u64 m] [rdr cl bs e] (.int .u64 (rUint bs e m).1) [rdr cl (rUint bs e m).2.1 (rUint bs e m).2.2]:=by
 refine ACall.fact 8 kq_ (by simp) ?_ (by simp)
 unfold fr_ rdr rUint;refine bd ?_
 try refine aa_ ?_
 refine al_ evd (fun h=>?_) (fun h=>?_)
 · have he:e≠0:=by simpa using h
   simp only[if_pos he]
   try refine aa_ ?_
   refine finQ [] [0] _ (by simp) (by first | rfl | exact evd) (by simp) rfl (by simp) (by simp) evd evd
 · have he:e=0:=by simpa using h
   subst he
   simp only[ne_eq,not_true_eq_false,if_false]
   try refine aa_ ?_
   refine ocall [0] (uv_ bs cl 0 hb) evd (Picks.mk' (by simp) evd) ?_;refine evg ?_
   try refine aa_ ?_
   by_cases hc:(rnum bs).2.2=0
   · have hc':((rnum bs).2.2==0)=true:=by simp[hc]
     simp only[if_pos hc]
     repeat(first | refine aa_ ?_ | simp only[go_sem,hc'])
     refine al_ evd (fun h=>?_) (fun h=>?_)
     · have hm:m<(rnum bs).1:=by simpa using h
       simp only[if_pos hm]
       try refine aa_ ?_
       refine al_ evd (fun h=>?_) (fun h=>?_)
       · try refine aa_ ?_
         refine ocall [0] (fF_ bs cl 0 3) evd (Picks.mk' (by simp) evd) ?_;refine evg ?_
         try refine aa_ ?_
         refine finQ [] [0] _ (by simp) (by first | rfl | exact evd) (by simp) rfl (by simp) (by simp) evd evd
       · simp at h
     · have hm:¬ m<(rnum bs).1:=by simpa using h
       simp only[if_neg hm]
       repeat(first | refine aa_ ?_ | simp only[go_sem,hc])
       refine al_ rfl (fun h=>by cases h) (fun h=>?_)
       try refine aa_ ?_
       have:=yn_ bs
       have e3:List.take (bs.length-(rnum bs).2.1) (List.drop (rnum bs).2.1 bs)=List.drop (rnum bs).2.1 bs:=List.take_of_length_le (by simp)
       simp only[e3]
       try refine aa_ ?_
       refine finQ [] [0] _ (by simp) (by first | rfl | exact evd) (by simp) rfl (by simp) (by simp) evd evd
   · have hc':((rnum bs).2.2==0)=false:=by simpa using hc
     have hc2:((rnum bs).2.2 != 0)=true:=by simpa using hc
     simp only[if_neg hc]
     repeat(first | refine aa_ ?_ | simp only[go_sem,hc'])
     refine al_ rfl (fun h=>by cases h) (fun h=>?_)
     repeat(first | refine aa_ ?_ | simp only[go_sem,hc2])
     refine al_ rfl (fun h=>?_) (fun h=>by cases h)
     try refine aa_ ?_
     refine ocall [0] (fF_ bs cl 0 (rnum bs).2.2) evd (Picks.mk' (by simp) evd) ?_;refine evg ?_
     try refine aa_ ?_
     refine finQ [] [0] _ (by simp) (by first | rfl | exact evd) (by simp) rfl (by simp) (by simp) evd evd


theorem ut_:∀ (k n:Nat),n<128 ^ (k+1)→(uenc n).length≤k+1
 | 0,n,h=>by rw[bi_ (by simpa using h)];simp
 | k + 1, n, h => by
   by_cases hn:n<128
   · rw[bi_ hn];simp
   · rw[cE_ (by omega),List.length_cons]
     have:n / 128<128 ^ (k+1):=by
       rw[Nat.div_lt_iff_lt_mul (by omega)]
       rw[Nat.pow_succ]at h;exact h
     have:=ut_ k (n / 128) this
     omega
theorem bE_ {n:Nat}(h:n<18446744073709551616):(uenc n).length≤10:=ut_ 9 n (by omega)
theorem CX_ (n:Nat):0<(uenc n).length:=by
 by_cases hn:n<128
 · rw[bi_ hn];simp
 · rw[cE_ (by omega)];simp


structure App (f:FuncId) (xs:List AV) (e:List UInt8):Prop where
 clip:∀ bs:List UInt8,bs.length+e.length≤140737488355328→ACall Tryz.prog f (.sl 1 true (bts bs)::xs) [] (.hs 1 0 0 (bs.length+e.length)) [.vec 1 (bts (bs++e))]
 own:∀ bs:List UInt8,bs.length+e.length≤140737488355328→ACall Tryz.prog f (.hs 1 0 0 bs.length::xs) [.vec 1 (bts bs)] (.hs 1 1 0 (bs.length+e.length)) [.gone,.vec 1 (bts (bs++e))]

theorem iand127 (m:Nat):iand .u64 (m:Int) 127=((m % 128:Nat):Int):=by
 unfold iand
 have:(BitVec.ofInt IntKind.u64.bits (m:Int) &&& BitVec.ofInt IntKind.u64.bits 127).toNat=m % 128:=by
   rw[BitVec.toNat_and,BitVec.ofInt_natCast,show BitVec.ofInt IntKind.u64.bits 127=BitVec.ofNat IntKind.u64.bits (2 ^ 7-1)by decide,BitVec.toNat_ofNat,BitVec.toNat_ofNat]
   rw[show (2 ^ 7-1) % 2 ^ IntKind.u64.bits=2 ^ 7-1 by decide,Nat.and_two_pow_sub_one_eq_mod]
   rw[Nat.mod_mod_of_dvd _ (by decide)]
 rw[this,aB_ (by omega) (by omega)]
theorem uhi2 (m:Nat):ior .u8 (IntKind.u8.wrap (iand .u64 (m:Int) 127)) 128=((UInt8.ofNat (m % 128+128)).toNat:Int):=by
 rw[iand127,uhi,Nat.mod_mod]

theorem ge_ (n:Int) (h0:0≤n) (h1:n<18446744073709551616):App 63 [.int .u64 n] (uenc n.toNat):=by
 constructor
 · intro bs hb
   refine ACall.fact 5 oC_ (by simp) ?_ (by simp)
   unfold jj_;refine bd ?_
   try refine aa_ ?_
   refine bm_ (fun x:Bool × List UInt8 × Nat=>⟨5,[if x.1 then .hs 1 0 0 x.2.1.length else .sl 1 true (bts x.2.1),.int .u64 x.2.2,.dead,.dead,.dead],[]⟩) (fun x=>if x.1 then [.vec 1 (bts x.2.1)]else []) (fun x=>x.2.2)
     (fun x=>x.2.1++uenc x.2.2=bs++uenc n.toNat∧x.2.2<18446744073709551616) (false,bs,n.toNat) ⟨rfl,by dsimp only;omega⟩ ?_ ?_
   · refine GC.mk' [] [] (by simp) rfl (by simp) (by simp) (by simp[objsOk]) ?_
     simp[slotsOk,fz,eD_,ren,dr_,rn,fzLL,renLL]
     try omega
   rintro⟨st,acc,m⟩ ⟨h2,h3⟩
   dsimp only at h2 h3 ⊢
   have hl:acc.length+(uenc m).length=bs.length+(uenc n.toNat).length:=by simpa using congrArg List.length h2
   cases st
   · try refine aa_ ?_
     refine al_ evd (fun h=>?_) (fun h=>?_)
     · have hm:128≤m:=by simp at h;omega
       rw[cE_ hm]at h2 hl
       simp only[List.length_cons]at hl
       try refine aa_ ?_
       simp only[ushr,uhi]
       (try simp only[go_sem,Nat.reduceAdd,Nat.reduceSub,Nat.reduceMul,Nat.reduceLT,Nat.reduceLeDiff,Nat.reduceEqDiff,reduceIte,Int.reduceToNat,Int.reduceLT,Int.reduceLE,Int.reduceEq,Int.reduceNeg,reduceCtorEq,Int.reduceBEq,Int.reduceBNe])
       refine⟨(true,acc++[UInt8.ofNat (m % 128+128)],m / 128),⟨by simpa using h2,by dsimp only;omega⟩,by dsimp only;omega,?_⟩
       refine GC.mk' [] [0] (by simp) rfl (by simp) (by simp) evd evd
     · have hm:m<128:=by simp at h;omega
       rw[bi_ hm]at h2 hl
       simp only[List.length_cons,List.length_nil,Nat.zero_add]at hl
       try refine aa_ ?_
       rw[← h2,← hl]
       simp only[ulo hm]
       (try simp only[go_sem,Nat.reduceAdd,Nat.reduceSub,Nat.reduceMul,Nat.reduceLT,Nat.reduceLeDiff,Nat.reduceEqDiff,reduceIte,Int.reduceToNat,Int.reduceLT,Int.reduceLE,Int.reduceEq,Int.reduceNeg,reduceCtorEq,Int.reduceBEq,Int.reduceBNe])
       refine finQ [] [0] _ (by simp) (by first | rfl | exact evd) (by simp) rfl (by simp) (by simp) evd evd
   · try refine aa_ ?_
     refine al_ evd (fun h=>?_) (fun h=>?_)
     · have hm:128≤m:=by simp at h;omega
       rw[cE_ hm]at h2 hl
       simp only[List.length_cons]at hl
       try refine aa_ ?_
       simp only[ushr,uhi]
       (try simp only[go_sem,Nat.reduceAdd,Nat.reduceSub,Nat.reduceMul,Nat.reduceLT,Nat.reduceLeDiff,Nat.reduceEqDiff,reduceIte,Int.reduceToNat,Int.reduceLT,Int.reduceLE,Int.reduceEq,Int.reduceNeg,reduceCtorEq,Int.reduceBEq,Int.reduceBNe])
       refine⟨(true,acc++[UInt8.ofNat (m % 128+128)],m / 128),⟨by simpa using h2,by dsimp only;omega⟩,by dsimp only;omega,?_⟩
       refine GC.mk' [] [1] (by simp) rfl (by simp) (by simp) evd evd
     · have hm:m<128:=by simp at h;omega
       rw[bi_ hm]at h2 hl
       simp only[List.length_cons,List.length_nil,Nat.zero_add]at hl
       try refine aa_ ?_
       rw[← h2,← hl]
       simp only[ulo hm]
       (try simp only[go_sem,Nat.reduceAdd,Nat.reduceSub,Nat.reduceMul,Nat.reduceLT,Nat.reduceLeDiff,Nat.reduceEqDiff,reduceIte,Int.reduceToNat,Int.reduceLT,Int.reduceLE,Int.reduceEq,Int.reduceNeg,reduceCtorEq,Int.reduceBEq,Int.reduceBNe])
       refine finQ [] [1] _ (by simp) (by first | rfl | exact evd) (by simp) rfl (by simp) (by simp) evd evd
 · intro bs hb
   refine ACall.fact 5 oC_ (by simp) ?_ (by simp)
   unfold jj_;refine bd ?_
   try refine aa_ ?_
   refine bm_ (fun x:Bool × List UInt8 × Nat=>⟨5,[if x.1 then .hs 1 1 0 x.2.1.length else .hs 1 0 0 x.2.1.length,.int .u64 x.2.2,.dead,.dead,.dead],[]⟩) (fun x=>if x.1 then [.gone,.vec 1 (bts x.2.1)]else [.vec 1 (bts x.2.1)]) (fun x=>x.2.2)
     (fun x=>x.2.1++uenc x.2.2=bs++uenc n.toNat∧x.2.2<18446744073709551616) (false,bs,n.toNat) ⟨rfl,by dsimp only;omega⟩ ?_ ?_
   · refine GC.mk' [] [0] (by simp) rfl (by simp) (by simp) (by simp[objsOk,renO,dr_,rn,fzO,eD_]) ?_
     simp[slotsOk,fz,eD_,ren,dr_,rn,fzLL,renLL]
     try omega
   rintro⟨st,acc,m⟩ ⟨h2,h3⟩
   dsimp only at h2 h3 ⊢
   have hl:acc.length+(uenc m).length=bs.length+(uenc n.toNat).length:=by simpa using congrArg List.length h2
   cases st
   · try refine aa_ ?_
     refine al_ evd (fun h=>?_) (fun h=>?_)
     · have hm:128≤m:=by simp at h;omega
       rw[cE_ hm]at h2 hl
       simp only[List.length_cons]at hl
       try refine aa_ ?_
       simp only[ushr,uhi]
       (try simp only[go_sem,Nat.reduceAdd,Nat.reduceSub,Nat.reduceMul,Nat.reduceLT,Nat.reduceLeDiff,Nat.reduceEqDiff,reduceIte,Int.reduceToNat,Int.reduceLT,Int.reduceLE,Int.reduceEq,Int.reduceNeg,reduceCtorEq,Int.reduceBEq,Int.reduceBNe])
       refine⟨(true,acc++[UInt8.ofNat (m % 128+128)],m / 128),⟨by simpa using h2,by dsimp only;omega⟩,by dsimp only;omega,?_⟩
       refine GC.mk' [] [0,1] (by simp) rfl (by simp) (by simp) evd evd
     · have hm:m<128:=by simp at h;omega
       rw[bi_ hm]at h2 hl
       simp only[List.length_cons,List.length_nil,Nat.zero_add]at hl
       try refine aa_ ?_
       rw[← h2,← hl]
       simp only[ulo hm]
       (try simp only[go_sem,Nat.reduceAdd,Nat.reduceSub,Nat.reduceMul,Nat.reduceLT,Nat.reduceLeDiff,Nat.reduceEqDiff,reduceIte,Int.reduceToNat,Int.reduceLT,Int.reduceLE,Int.reduceEq,Int.reduceNeg,reduceCtorEq,Int.reduceBEq,Int.reduceBNe])
       refine finQ [] [0,1] _ (by simp) (by first | rfl | exact evd) (by simp) rfl (by simp) (by simp) evd evd
   · try refine aa_ ?_
     refine al_ evd (fun h=>?_) (fun h=>?_)
     · have hm:128≤m:=by simp at h;omega
       rw[cE_ hm]at h2 hl
       simp only[List.length_cons]at hl
       try refine aa_ ?_
       simp only[ushr,uhi]
       (try simp only[go_sem,Nat.reduceAdd,Nat.reduceSub,Nat.reduceMul,Nat.reduceLT,Nat.reduceLeDiff,Nat.reduceEqDiff,reduceIte,Int.reduceToNat,Int.reduceLT,Int.reduceLE,Int.reduceEq,Int.reduceNeg,reduceCtorEq,Int.reduceBEq,Int.reduceBNe])
       refine⟨(true,acc++[UInt8.ofNat (m % 128+128)],m / 128),⟨by simpa using h2,by dsimp only;omega⟩,by dsimp only;omega,?_⟩
       refine GC.mk' [] [0,2] (by simp) rfl (by simp) (by simp) evd evd
     · have hm:m<128:=by simp at h;omega
       rw[bi_ hm]at h2 hl
       simp only[List.length_cons,List.length_nil,Nat.zero_add]at hl
       try refine aa_ ?_
       rw[← h2,← hl]
       simp only[ulo hm]
       (try simp only[go_sem,Nat.reduceAdd,Nat.reduceSub,Nat.reduceMul,Nat.reduceLT,Nat.reduceLeDiff,Nat.reduceEqDiff,reduceIte,Int.reduceToNat,Int.reduceLT,Int.reduceLE,Int.reduceEq,Int.reduceNeg,reduceCtorEq,Int.reduceBEq,Int.reduceBNe])
       refine finQ [] [0,2] _ (by simp) (by first | rfl | exact evd) (by simp) rfl (by simp) (by simp) evd evd

theorem bc_ (n:Int) (h0:0≤n) (h1:n<18446744073709551616):App 32 [.int .u64 n] (uenc n.toNat):=by
 constructor
 · intro bs hb
   refine ACall.fact 5 mb_ (by simp) ?_ (by simp)
   unfold he_;refine bd ?_
   try refine aa_ ?_
   refine bm_ (fun x:Bool × List UInt8 × Nat=>⟨5,[if x.1 then .hs 1 0 0 x.2.1.length else .sl 1 true (bts x.2.1),.int .u64 x.2.2,.dead,.dead,.sl 0 true []],[]⟩) (fun x=>if x.1 then [.vec 1 (bts x.2.1)]else []) (fun x=>x.2.2)
     (fun x=>x.2.1++uenc x.2.2=bs++uenc n.toNat∧x.2.2<18446744073709551616) (false,bs,n.toNat) ⟨rfl,by dsimp only;omega⟩ ?_ ?_
   · refine GC.mk' [] [] (by simp) rfl (by simp) (by simp) (by simp[objsOk]) ?_
     simp[slotsOk,fz,eD_,ren,dr_,rn,fzLL,renLL]
     try omega
   rintro⟨st,acc,m⟩ ⟨h2,h3⟩
   dsimp only at h2 h3 ⊢
   have hl:acc.length+(uenc m).length=bs.length+(uenc n.toNat).length:=by simpa using congrArg List.length h2
   cases st
   · try refine aa_ ?_
     refine al_ evd (fun h=>?_) (fun h=>?_)
     · have hm:128≤m:=by simp at h;omega
       rw[cE_ hm]at h2 hl
       simp only[List.length_cons]at hl
       try refine aa_ ?_
       simp only[ushr,uhi2]
       (try simp only[go_sem,Nat.reduceAdd,Nat.reduceSub,Nat.reduceMul,Nat.reduceLT,Nat.reduceLeDiff,Nat.reduceEqDiff,reduceIte,Int.reduceToNat,Int.reduceLT,Int.reduceLE,Int.reduceEq,Int.reduceNeg,reduceCtorEq,Int.reduceBEq,Int.reduceBNe])
       refine⟨(true,acc++[UInt8.ofNat (m % 128+128)],m / 128),⟨by simpa using h2,by dsimp only;omega⟩,by dsimp only;omega,?_⟩
       refine GC.mk' [] [0] (by simp) rfl (by simp) (by simp) evd evd
     · have hm:m<128:=by simp at h;omega
       rw[bi_ hm]at h2 hl
       simp only[List.length_cons,List.length_nil,Nat.zero_add]at hl
       try refine aa_ ?_
       rw[← h2,← hl]
       simp only[ulo hm]
       (try simp only[go_sem,Nat.reduceAdd,Nat.reduceSub,Nat.reduceMul,Nat.reduceLT,Nat.reduceLeDiff,Nat.reduceEqDiff,reduceIte,Int.reduceToNat,Int.reduceLT,Int.reduceLE,Int.reduceEq,Int.reduceNeg,reduceCtorEq,Int.reduceBEq,Int.reduceBNe])
       refine finQ [] [0] _ (by simp) (by first | rfl | exact evd) (by simp) rfl (by simp) (by simp) evd evd
   · try refine aa_ ?_
     refine al_ evd (fun h=>?_) (fun h=>?_)
     · have hm:128≤m:=by simp at h;omega
       rw[cE_ hm]at h2 hl
       simp only[List.length_cons]at hl
       try refine aa_ ?_
       simp only[ushr,uhi2]
       (try simp only[go_sem,Nat.reduceAdd,Nat.reduceSub,Nat.reduceMul,Nat.reduceLT,Nat.reduceLeDiff,Nat.reduceEqDiff,reduceIte,Int.reduceToNat,Int.reduceLT,Int.reduceLE,Int.reduceEq,Int.reduceNeg,reduceCtorEq,Int.reduceBEq,Int.reduceBNe])
       refine⟨(true,acc++[UInt8.ofNat (m % 128+128)],m / 128),⟨by simpa using h2,by dsimp only;omega⟩,by dsimp only;omega,?_⟩
       refine GC.mk' [] [1] (by simp) rfl (by simp) (by simp) evd evd
     · have hm:m<128:=by simp at h;omega
       rw[bi_ hm]at h2 hl
       simp only[List.length_cons,List.length_nil,Nat.zero_add]at hl
       try refine aa_ ?_
       rw[← h2,← hl]
       simp only[ulo hm]
       (try simp only[go_sem,Nat.reduceAdd,Nat.reduceSub,Nat.reduceMul,Nat.reduceLT,Nat.reduceLeDiff,Nat.reduceEqDiff,reduceIte,Int.reduceToNat,Int.reduceLT,Int.reduceLE,Int.reduceEq,Int.reduceNeg,reduceCtorEq,Int.reduceBEq,Int.reduceBNe])
       refine finQ [] [1] _ (by simp) (by first | rfl | exact evd) (by simp) rfl (by simp) (by simp) evd evd
 · intro bs hb
   refine ACall.fact 5 mb_ (by simp) ?_ (by simp)
   unfold he_;refine bd ?_
   try refine aa_ ?_
   refine bm_ (fun x:Bool × List UInt8 × Nat=>⟨5,[if x.1 then .hs 1 1 0 x.2.1.length else .hs 1 0 0 x.2.1.length,.int .u64 x.2.2,.dead,.dead,.sl 0 true []],[]⟩) (fun x=>if x.1 then [.gone,.vec 1 (bts x.2.1)]else [.vec 1 (bts x.2.1)]) (fun x=>x.2.2)
     (fun x=>x.2.1++uenc x.2.2=bs++uenc n.toNat∧x.2.2<18446744073709551616) (false,bs,n.toNat) ⟨rfl,by dsimp only;omega⟩ ?_ ?_
   · refine GC.mk' [] [0] (by simp) rfl (by simp) (by simp) (by simp[objsOk,renO,dr_,rn,fzO,eD_]) ?_
     simp[slotsOk,fz,eD_,ren,dr_,rn,fzLL,renLL]
     try omega
   rintro⟨st,acc,m⟩ ⟨h2,h3⟩
   dsimp only at h2 h3 ⊢
   have hl:acc.length+(uenc m).length=bs.length+(uenc n.toNat).length:=by simpa using congrArg List.length h2
   cases st
   · try refine aa_ ?_
     refine al_ evd (fun h=>?_) (fun h=>?_)
     · have hm:128≤m:=by simp at h;omega
       rw[cE_ hm]at h2 hl
       simp only[List.length_cons]at hl
       try refine aa_ ?_
       simp only[ushr,uhi2]
       (try simp only[go_sem,Nat.reduceAdd,Nat.reduceSub,Nat.reduceMul,Nat.reduceLT,Nat.reduceLeDiff,Nat.reduceEqDiff,reduceIte,Int.reduceToNat,Int.reduceLT,Int.reduceLE,Int.reduceEq,Int.reduceNeg,reduceCtorEq,Int.reduceBEq,Int.reduceBNe])
       refine⟨(true,acc++[UInt8.ofNat (m % 128+128)],m / 128),⟨by simpa using h2,by dsimp only;omega⟩,by dsimp only;omega,?_⟩
       refine GC.mk' [] [0,1] (by simp) rfl (by simp) (by simp) evd evd
     · have hm:m<128:=by simp at h;omega
       rw[bi_ hm]at h2 hl
       simp only[List.length_cons,List.length_nil,Nat.zero_add]at hl
       try refine aa_ ?_
       rw[← h2,← hl]
       simp only[ulo hm]
       (try simp only[go_sem,Nat.reduceAdd,Nat.reduceSub,Nat.reduceMul,Nat.reduceLT,Nat.reduceLeDiff,Nat.reduceEqDiff,reduceIte,Int.reduceToNat,Int.reduceLT,Int.reduceLE,Int.reduceEq,Int.reduceNeg,reduceCtorEq,Int.reduceBEq,Int.reduceBNe])
       refine finQ [] [0,1] _ (by simp) (by first | rfl | exact evd) (by simp) rfl (by simp) (by simp) evd evd
   · try refine aa_ ?_
     refine al_ evd (fun h=>?_) (fun h=>?_)
     · have hm:128≤m:=by simp at h;omega
       rw[cE_ hm]at h2 hl
       simp only[List.length_cons]at hl
       try refine aa_ ?_
       simp only[ushr,uhi2]
       (try simp only[go_sem,Nat.reduceAdd,Nat.reduceSub,Nat.reduceMul,Nat.reduceLT,Nat.reduceLeDiff,Nat.reduceEqDiff,reduceIte,Int.reduceToNat,Int.reduceLT,Int.reduceLE,Int.reduceEq,Int.reduceNeg,reduceCtorEq,Int.reduceBEq,Int.reduceBNe])
       refine⟨(true,acc++[UInt8.ofNat (m % 128+128)],m / 128),⟨by simpa using h2,by dsimp only;omega⟩,by dsimp only;omega,?_⟩
       refine GC.mk' [] [0,2] (by simp) rfl (by simp) (by simp) evd evd
     · have hm:m<128:=by simp at h;omega
       rw[bi_ hm]at h2 hl
       simp only[List.length_cons,List.length_nil,Nat.zero_add]at hl
       try refine aa_ ?_
       rw[← h2,← hl]
       simp only[ulo hm]
       (try simp only[go_sem,Nat.reduceAdd,Nat.reduceSub,Nat.reduceMul,Nat.reduceLT,Nat.reduceLeDiff,Nat.reduceEqDiff,reduceIte,Int.reduceToNat,Int.reduceLT,Int.reduceLE,Int.reduceEq,Int.reduceNeg,reduceCtorEq,Int.reduceBEq,Int.reduceBNe])
       refine finQ [] [0,2] _ (by simp) (by first | rfl | exact evd) (by simp) rfl (by simp) (by simp) evd evd

theorem yu_:[[AV.int .u8 0]]=bts [0]:=rfl
theorem yj_:[[AV.int .u8 1]]=bts [1]:=rfl
def benc (x:Bool):List UInt8:=if x then [1]else [0]

theorem AP_ (x:Bool):App 35 [.bool x] (benc x):=by
 constructor<;>intro bs hb<;>cases x<;>simp only[benc,Bool.false_eq_true,if_false,if_true,List.length_cons,List.length_nil]at hb ⊢
 · refine ACall.fact 5 fa_ (by simp) ?_ (by simp)
   unfold dP_;refine bd ?_
   try refine aa_ ?_
   refine al_ rfl (fun h=>by cases h) (fun h=>?_)
   try refine aa_ ?_
   (try simp only[yu_,yj_,gX_])
   refine finQ [] [0] _ (by simp) (by first | rfl | exact evd) (by simp) rfl (by simp) (by simp) evd evd
 · refine ACall.fact 5 fa_ (by simp) ?_ (by simp)
   unfold dP_;refine bd ?_
   try refine aa_ ?_
   refine al_ rfl (fun h=>?_) (fun h=>by cases h)
   try refine aa_ ?_
   (try simp only[yu_,yj_,gX_])
   refine finQ [] [0] _ (by simp) (by first | rfl | exact evd) (by simp) rfl (by simp) (by simp) evd evd
 · refine ACall.fact 5 fa_ (by simp) ?_ (by simp)
   unfold dP_;refine bd ?_
   try refine aa_ ?_
   refine al_ rfl (fun h=>by cases h) (fun h=>?_)
   try refine aa_ ?_
   (try simp only[yu_,yj_,gX_])
   refine finQ [] [0,1] _ (by simp) (by first | rfl | exact evd) (by simp) rfl (by simp) (by simp) evd evd
 · refine ACall.fact 5 fa_ (by simp) ?_ (by simp)
   unfold dP_;refine bd ?_
   try refine aa_ ?_
   refine al_ rfl (fun h=>?_) (fun h=>by cases h)
   try refine aa_ ?_
   (try simp only[yu_,yj_,gX_])
   refine finQ [] [0,1] _ (by simp) (by first | rfl | exact evd) (by simp) rfl (by simp) (by simp) evd evd

theorem kY_ (r:Rt):App 75 [.agg (rtc r)] r.1:=by
 have hr:=r.2
 constructor<;>intro bs hb
 · refine ACall.fact 5 nS_ (by simp) ?_ (by simp)
   unfold ji_;refine bd ?_
   repeat(first | refine aa_ ?_ | simp only[go_sem,eq_ r,hr])
   refine finQ [] [1] _ (by simp) (by first | rfl | exact evd) (by simp) rfl (by simp) (by simp) evd evd
 · refine ACall.fact 5 nS_ (by simp) ?_ (by simp)
   unfold ji_;refine bd ?_
   repeat(first | refine aa_ ?_ | simp only[go_sem,eq_ r,hr])
   refine finQ [] [0,2] _ (by simp) (by first | rfl | exact evd) (by simp) rfl (by simp) (by simp) evd evd

theorem bY_ (r:Rt):App 31 [.agg (rtc r)] r.1:=by
 have hr:=r.2
 constructor<;>intro bs hb
 · refine ACall.fact 5 lX_ (by simp) ?_ (by simp)
   unfold gY_;refine bd ?_
   repeat(first | refine aa_ ?_ | simp only[go_sem,eq_ r,hr])
   refine finQ [] [1] _ (by simp) (by first | rfl | exact evd) (by simp) rfl (by simp) (by simp) evd evd
 · refine ACall.fact 5 lX_ (by simp) ?_ (by simp)
   unfold gY_;refine bd ?_
   repeat(first | refine aa_ ?_ | simp only[go_sem,eq_ r,hr])
   refine finQ [] [0,2] _ (by simp) (by first | rfl | exact evd) (by simp) rfl (by simp) (by simp) evd evd


def wbyte (a:Wd) (i:Nat):UInt8:=byt (ishr .u64 (a.1.getD (i / 8) 0) (8*(i % 8)))
def pbytes (a:Wd) (k:Nat):Rt:=if h:k=0 then rt0 else (pbytes a (k-1)).set (31-(k-1)) (wbyte a (k-1))
termination_by k
decreasing_by omega
theorem CV_ (a:Wd):pbytes a 0=rt0:=by rw[pbytes,dif_pos rfl]
theorem Db_ (a:Wd) (i:Nat):pbytes a (i+1)=(pbytes a i).set (31-i) (wbyte a i):=by rw[pbytes,dif_neg (by omega)];rfl
theorem xo_ {cs:List AV}(h:PuL cs):Pu (.agg cs):=h
def wbytes (a:Wd):Rt:=pbytes a 32
def wstep (b:Rt) (w:Wd) (i:Nat):Wd:=w.set (i / 8) (ior .u64 (w.1.getD (i / 8) 0) (ishl .u64 ((b.1.getD (31-i) 0).toNat:Int) (8*(i % 8))))
def wfold (b:Rt) (k:Nat):Wd:=if h:k=0 then wd0 else wstep b (wfold b (k-1)) (k-1)
termination_by k
decreasing_by omega
theorem xY_ (b:Rt):wfold b 0=wd0:=by rw[wfold,dif_pos rfl]
theorem yc_ (b:Rt) (i:Nat):wfold b (i+1)=wstep b (wfold b i) i:=by rw[wfold,dif_neg (by omega)];rfl
def wof (b:Rt):Wd:=wfold b 32
theorem ix1 {i:Nat}(h:i<32):IntKind.i64.wrap (31-(i:Int))=((31-i:Nat):Int):=by rw[ah_ (by omega) (by omega)];omega
theorem ix2 {i:Nat}(h:i<32):IntKind.i64.wrap ((i:Int).tdiv 8)=((i / 8:Nat):Int):=by
 rw[Int.tdiv_eq_ediv_of_nonneg (by omega),ah_ (by omega) (by omega)];rfl
theorem ix3 (i:Nat):(i:Int).tmod 8=((i % 8:Nat):Int):=by rw[Int.tmod_eq_emod_of_nonneg (by omega)];rfl
theorem ix4 (i:Nat):IntKind.i64.wrap (8*((i % 8:Nat):Int))=((8*(i % 8):Nat):Int):=by rw[ah_ (by omega) (by omega)];omega
theorem ix5 {i:Nat}(h:i<32):IntKind.i64.wrap ((i:Int)+1)=((i+1:Nat):Int):=by rw[ah_ (by omega) (by omega)];omega
theorem ix6 (i:Nat):IntKind.u64.wrap ((8*(i % 8):Nat):Int)=((8*(i % 8):Nat):Int):=aB_ (by omega) (by omega)
theorem ix7 (b:UInt8):IntKind.u64.wrap (b.toNat:Int)=(b.toNat:Int):=aB_ (by omega) (by have:=b.toNat_lt;omega)
theorem up_ (n:Int):IntKind.u8.wrap n=((byt n).toNat:Int):=(AX_ n).symm

theorem iO_ (a:Wd):PC Tryz.prog 72 [.agg (wdc a)] (.agg (rtc (wbytes a))):=by
 refine PC.fact 5 os_ (by simp) ⟨cI_ a,trivial⟩ (xo_ (bg_ _)) ?_
 unfold gZ_;refine bd ?_
 try refine aa_ ?_
 refine bM_ (fun i:Nat=>⟨5,[.agg (wdc a),.ptr 0 0,.ptr 1 0,.ptr 2 0,.int .i64 i],[]⟩) (fun i=>[.var (wdc a),.var (rtc rt0),.var (rtc (pbytes a i))]) (fun i=>32-i) (fun i=>i≤32) [] 0 (by omega) (by first | ((try simp only[go_sem,Nat.reduceAdd,Nat.reduceSub,Nat.reduceMul,Nat.reduceLT,Nat.reduceLeDiff,Nat.reduceEqDiff,reduceIte,Int.reduceToNat,Int.reduceLT,Int.reduceLE,Int.reduceEq,Int.reduceNeg,reduceCtorEq,Int.reduceBEq,Int.reduceBNe]);done) | ((try simp only[go_sem,Nat.reduceAdd,Nat.reduceSub,Nat.reduceMul,Nat.reduceLT,Nat.reduceLeDiff,Nat.reduceEqDiff,reduceIte,Int.reduceToNat,Int.reduceLT,Int.reduceLE,Int.reduceEq,Int.reduceNeg,reduceCtorEq,Int.reduceBEq,Int.reduceBNe]);rfl)) (by rw[CV_]) ?_
 intro i hi
 try dsimp only
 try refine aa_ ?_
 refine al_ evd (fun h=>?_) (fun h=>?_)
 · have h1:i<32:=by simp at h;omega
   have s1:∀ b:UInt8,spl (rtc (pbytes a i)) (31-i) [.int .u8 b.toNat]=rtc ((pbytes a i).set (31-i) b):=fun b=>ki_ _ (by omega) b
   repeat(first | refine aa_ ?_ | simp only[go_sem,Nat.mul_one,ix1 h1,ix2 h1,ix3 i,ix4 i,ix5 h1,ix6 i,nk_ a (show i / 8<4 by omega),up_,s1])
   exact⟨i+1,h1,by omega,rfl,by rw[Db_];rfl⟩
 · have h1:i=32:=by simp at h;omega
   subst h1
   try refine aa_ ?_
   exact fin0

theorem nW_ (b:Rt):PC Tryz.prog 116 [.agg (rtc b)] (.agg (wdc (wof b))):=by
 refine PC.fact 6 kX_ (by simp) ⟨bg_ b,trivial⟩ (xo_ (cI_ _)) ?_
 unfold fU_;refine bd ?_
 try refine aa_ ?_
 refine bM_ (fun i:Nat=>⟨6,[.agg (rtc b),.ptr 0 0,.ptr 1 0,.ptr 2 0,.dead,.int .i64 i],[]⟩) (fun i=>[.var (rtc b),.var (wdc wd0),.var (wdc (wfold b i))]) (fun i=>32-i) (fun i=>i≤32) [4] 0 (by omega) (by first | ((try simp only[go_sem,Nat.reduceAdd,Nat.reduceSub,Nat.reduceMul,Nat.reduceLT,Nat.reduceLeDiff,Nat.reduceEqDiff,reduceIte,Int.reduceToNat,Int.reduceLT,Int.reduceLE,Int.reduceEq,Int.reduceNeg,reduceCtorEq,Int.reduceBEq,Int.reduceBNe]);done) | ((try simp only[go_sem,Nat.reduceAdd,Nat.reduceSub,Nat.reduceMul,Nat.reduceLT,Nat.reduceLeDiff,Nat.reduceEqDiff,reduceIte,Int.reduceToNat,Int.reduceLT,Int.reduceLE,Int.reduceEq,Int.reduceNeg,reduceCtorEq,Int.reduceBEq,Int.reduceBNe]);rfl)) (by rw[xY_]) ?_
 intro i hi
 try dsimp only
 try refine aa_ ?_
 refine al_ evd (fun h=>?_) (fun h=>?_)
 · have h1:i<32:=by simp at h;omega
   have s1:∀ x:Int,spl (wdc (wfold b i)) (i / 8) [.int .u64 x]=wdc ((wfold b i).set (i / 8) x):=fun x=>dy_ _ (by omega) x
   repeat(first | refine aa_ ?_ | simp only[go_sem,Nat.mul_one,ix1 h1,ix2 h1,ix3 i,ix4 i,ix5 h1,ix6 i,ix7,nk_ (wfold b i) (show i / 8<4 by omega),uW_ b (show 31-i<32 by omega),s1])
   exact⟨i+1,h1,by omega,rfl,by rw[yc_];rfl⟩
 · have h1:i=32:=by simp at h;omega
   subst h1
   try refine aa_ ?_
   exact fin0

theorem rV_ (a:Wd):App 33 [.agg (wdc a)] (wbytes a).1:=by
 have hr:=(wbytes a).2
 constructor<;>intro bs hb
 · refine ACall.fact 6 lO_ (by simp) ?_ (by simp)
   unfold hW_;refine bd ?_
   try refine aa_ ?_
   refine pcall (iO_ a) ?_
   repeat(first | refine aa_ ?_ | simp only[go_sem,eq_ (wbytes a),hr])
   refine finQ [] [2] _ (by simp) (by first | rfl | exact evd) (by simp) rfl (by simp) (by simp) evd evd
 · refine ACall.fact 6 lO_ (by simp) ?_ (by simp)
   unfold hW_;refine bd ?_
   try refine aa_ ?_
   refine pcall (iO_ a) ?_
   repeat(first | refine aa_ ?_ | simp only[go_sem,eq_ (wbytes a),hr])
   refine finQ [] [0,3] _ (by simp) (by first | rfl | exact evd) (by simp) rfl (by simp) (by simp) evd evd

def cenc (c:Cp):List UInt8:=uenc c.ep.toNat++c.rt.1
theorem Eg_ (c:Cp) (h0:0≤c.ep) (h1:c.ep<18446744073709551616):App 77 [.agg (cpC c)] (cenc c):=by
 have hr:=c.rt.2
 constructor<;>intro bs hb<;>(simp only[cenc,List.length_append,hr]at hb)<;>(simp only[cenc,List.length_append,← List.append_assoc,← Nat.add_assoc])
 · refine ACall.fact 5 fI_ (by simp) ?_ (by simp)
   unfold dp_;refine bd ?_
   try refine aa_ ?_
   refine dcalls [] ((ge_ c.ep h0 h1).clip bs (by omega)) (by simp) evd (PickS.mk' (by simp) (by simp) evd) ?_;refine evg ?_
   try refine aa_ ?_
   refine dcalls [1] ((kY_ c.rt).own (bs++uenc c.ep.toNat) (by rw[List.length_append,hr];omega)) (by simp) evd (PickS.mk' (by simp) (by simp) evd) ?_;refine evg ?_
   try refine aa_ ?_
   refine finQ [] [2] _ (by simp) (by first | rfl | exact evd) (by simp) rfl (by simp) (by simp) evd evd
 · refine ACall.fact 5 fI_ (by simp) ?_ (by simp)
   unfold dp_;refine bd ?_
   try refine aa_ ?_
   refine dcalls [0] ((ge_ c.ep h0 h1).own bs (by omega)) (by simp) evd (PickS.mk' (by simp) (by simp) evd) ?_;refine evg ?_
   try refine aa_ ?_
   refine dcalls [2] ((kY_ c.rt).own (bs++uenc c.ep.toNat) (by rw[List.length_append,hr];omega)) (by simp) evd (PickS.mk' (by simp) (by simp) evd) ?_;refine evg ?_
   try refine aa_ ?_
   refine finQ [] [0,3] _ (by simp) (by first | rfl | exact evd) (by simp) rfl (by simp) (by simp) evd evd

theorem jY_ (c:Cp) (h0:0≤c.ep) (h1:c.ep<18446744073709551616):App 34 [.agg (cpC c)] (cenc c):=by
 have hr:=c.rt.2
 constructor<;>intro bs hb<;>(simp only[cenc,List.length_append,hr]at hb)<;>(simp only[cenc,List.length_append,← List.append_assoc,← Nat.add_assoc])
 · refine ACall.fact 5 fm_ (by simp) ?_ (by simp)
   unfold cZ_;refine bd ?_
   try refine aa_ ?_
   refine dcalls [] ((bc_ c.ep h0 h1).clip bs (by omega)) (by simp) evd (PickS.mk' (by simp) (by simp) evd) ?_;refine evg ?_
   try refine aa_ ?_
   refine dcalls [1] ((bY_ c.rt).own (bs++uenc c.ep.toNat) (by rw[List.length_append,hr];omega)) (by simp) evd (PickS.mk' (by simp) (by simp) evd) ?_;refine evg ?_
   try refine aa_ ?_
   refine finQ [] [2] _ (by simp) (by first | rfl | exact evd) (by simp) rfl (by simp) (by simp) evd evd
 · refine ACall.fact 5 fm_ (by simp) ?_ (by simp)
   unfold cZ_;refine bd ?_
   try refine aa_ ?_
   refine dcalls [0] ((bc_ c.ep h0 h1).own bs (by omega)) (by simp) evd (PickS.mk' (by simp) (by simp) evd) ?_;refine evg ?_
   try refine aa_ ?_
   refine dcalls [2] ((bY_ c.rt).own (bs++uenc c.ep.toNat) (by rw[List.length_append,hr];omega)) (by simp) evd (PickS.mk' (by simp) (by simp) evd) ?_;refine evg ?_
   try refine aa_ ?_
   refine finQ [] [0,3] _ (by simp) (by first | rfl | exact evd) (by simp) rfl (by simp) (by simp) evd evd


theorem nf_ (bs:List UInt8) (cl:Bool) (e:Int):ACall Tryz.prog 96 [.ptr 0 0] [rdr cl bs e] (.int .i64 e) [rdr cl bs e]:=by
 refine ACall.fact 3 lu_ (by simp) ?_ (by simp)
 unfold fQ_ rdr;refine bd ?_
 try refine aa_ ?_
 refine finQ [] [0] _ (by simp) (by first | rfl | exact evd) (by simp) rfl (by simp) (by simp) evd evd
theorem Au_ (bs:List UInt8) (cl:Bool) (e:Int):ACall Tryz.prog 109 [.ptr 0 0] [rdr cl bs e] (.int .i64 bs.length) [rdr cl bs e]:=by
 refine ACall.fact 3 jX_ (by simp) ?_ (by simp)
 unfold ff_ rdr;refine bd ?_
 try refine aa_ ?_
 refine finQ [] [0] _ (by simp) (by first | rfl | exact evd) (by simp) rfl (by simp) (by simp) evd evd

def rBool (bs:List UInt8) (e:Int):Bool × List UInt8 × Int:=
 if e≠0 then (false,bs,e)else match bs with
   | []=>(false,[],5)
   | b::r=>if 1<b.toNat then (false,b::r,2)else ((b.toNat:Int)==1,r,0)
theorem zb_ (bs:List UInt8) (cl:Bool) (e:Int) (hb:bs.length≤140737488355328):
   ACall Tryz.prog 85 [.ptr 0 0] [rdr cl bs e] (.bool (rBool bs e).1) [rdr cl (rBool bs e).2.1 (rBool bs e).2.2]:=by
 refine ACall.fact 4 ky_ (by simp) ?_ (by simp)
 unfold fh_ rdr rBool;refine bd ?_
 by_cases he:e=0
 · subst he
   simp only[ne_eq,not_true_eq_false,if_false]
   try refine aa_ ?_
   refine al_ rfl (fun h=>by cases h) (fun h=>?_)
   cases bs with
   | nil =>
     try refine aa_ ?_
     refine ac_ ?_
     try refine aa_ ?_
     refine ocall [0] (fF_ [] cl 0 5) evd (Picks.mk' (by simp) evd) ?_;refine evg ?_
     try refine aa_ ?_
     refine finQ [] [0] _ (by simp) (by first | rfl | exact evd) (by simp) rfl (by simp) (by simp) evd evd
   | cons b r =>
     have hl0:(((r.length+1:Nat):Int)==0)=false:=by simp;omega
     simp only[List.length_cons]at hb
     repeat(first | refine aa_ ?_ | simp only[go_sem,hl0])
     refine al_ rfl (fun h=>by cases h) (fun h=>?_)
     have h0:0<(b::r).length:=by simp
     repeat(first | refine aa_ ?_ | simp only[go_sem,eS_ h0,List.getElem_cons_zero])
     refine al_ evd (fun h=>?_) (fun h=>?_)
     · have h1:1<b.toNat:=by simp at h;omega
       rw[if_pos h1]
       try refine aa_ ?_
       refine ocall [0] (fF_ (b::r) cl 0 2) evd (Picks.mk' (by simp) evd) ?_;refine evg ?_
       try refine aa_ ?_
       refine finQ [] [0] _ (by simp) (by first | rfl | exact evd) (by simp) rfl (by simp) (by simp) evd evd
     · have h1:¬ 1<b.toNat:=by simp at h;omega
       rw[if_neg h1]
       repeat(first | refine aa_ ?_ | simp only[go_sem,eS_ h0,List.getElem_cons_zero,Nat.add_sub_cancel])
       refine finQ [] [0] _ (by simp) (by first | rfl | exact evd) (by simp) rfl (by simp) (by simp) evd evd
 · have he':(e != 0)=true:=by simpa using he
   simp only[ne_eq,he,not_false_eq_true,if_true]
   repeat(first | refine aa_ ?_ | simp only[go_sem,he'])
   refine al_ rfl (fun h=>?_) (fun h=>by cases h)
   try refine aa_ ?_
   refine finQ [] [0] _ (by simp) (by first | rfl | exact evd) (by simp) rfl (by simp) (by simp) evd evd

def mkRt (l:List UInt8):Rt:=if h:l.length=32 then ⟨l,h⟩else rt0
theorem vP_ {l:List UInt8}(h:l.length=32):(mkRt l).1=l:=by rw[mkRt,dif_pos h]
def rRoot (bs:List UInt8) (e:Int):Rt × List UInt8 × Int:=
 if e≠0 then (rt0,bs,e)else if bs.length<32 then (rt0,bs,5)else (mkRt (bs.take 32),bs.drop 32,0)
theorem cu_ (bs:List UInt8) (cl:Bool) (e:Int) (hb:bs.length≤140737488355328):
   ACall Tryz.prog 80 [.ptr 0 0] [rdr cl bs e] (.agg (rtc (rRoot bs e).1)) [rdr cl (rRoot bs e).2.1 (rRoot bs e).2.2]:=by
 refine ACall.fact 4 jZ_ (by simp) ?_ (by simp)
 unfold fp_ rdr rRoot;refine bd ?_
 by_cases he:e=0
 · subst he
   simp only[ne_eq,not_true_eq_false,if_false]
   try refine aa_ ?_
   refine al_ rfl (fun h=>by cases h) (fun h=>?_)
   try refine aa_ ?_
   refine al_ evd (fun h=>?_) (fun h=>?_)
   · have h1:bs.length<32:=by simp at h;omega
     simp only[if_pos h1]
     try refine aa_ ?_
     refine ocall [0] (fF_ bs cl 0 5) evd (Picks.mk' (by simp) evd) ?_;refine evg ?_
     try refine aa_ ?_
     refine finQ [] [0] _ (by simp) (by first | rfl | exact evd) (by simp) rfl (by simp) (by simp) evd evd
   · have h1:¬ bs.length<32:=by simp at h;omega
     simp only[if_neg h1]
     have hmin:min bs.length 32=32:=by omega
     have hrt:byc (List.take 32 bs)=rtc (mkRt (List.take 32 bs)):=by rw[rtc,vP_ (by rw[List.length_take];omega)]
     have hd:List.take (bs.length-32) (List.drop 32 bs)=List.drop 32 bs:=List.take_of_length_le (by simp)
     repeat(first | refine aa_ ?_ | simp only[go_sem,hmin,hrt,hd])
     refine finQ [] [0] _ (by simp) (by first | rfl | exact evd) (by simp) rfl (by simp) (by simp) evd evd
 · have he':(e != 0)=true:=by simpa using he
   simp only[ne_eq,he,not_false_eq_true,if_true]
   repeat(first | refine aa_ ?_ | simp only[go_sem,he'])
   refine al_ rfl (fun h=>?_) (fun h=>by cases h)
   try refine aa_ ?_
   refine finQ [] [0] _ (by simp) (by first | rfl | exact evd) (by simp) rfl (by simp) (by simp) evd evd

def rWide (bs:List UInt8) (e:Int):Wd × List UInt8 × Int:=(wof (rRoot bs e).1,(rRoot bs e).2)
theorem rd_ (bs:List UInt8) (cl:Bool) (e:Int) (hb:bs.length≤140737488355328):
   ACall Tryz.prog 84 [.ptr 0 0] [rdr cl bs e] (.agg (wdc (rWide bs e).1)) [rdr cl (rWide bs e).2.1 (rWide bs e).2.2]:=by
 refine ACall.fact 4 kG_ (by simp) ?_ (by simp)
 unfold fo_ rWide;refine bd ?_
 try refine aa_ ?_
 refine ocall [0] (cu_ bs cl e hb) evd (Picks.mk' (by simp) evd) ?_;refine evg ?_
 try refine aa_ ?_
 refine pcall (nW_ _) ?_
 try refine aa_ ?_
 refine finQ [] [0] _ (by simp) (by first | rfl | exact evd) (by simp) rfl (by simp) (by simp) evd evd

abbrev maxU:Int:=18446744073709551615
def rCp (bs:List UInt8) (e:Int):Cp × List UInt8 × Int:=
 if (rRoot (rUint bs e maxU).2.1 (rUint bs e maxU).2.2).2.2≠0 then (cp0,bs,(rRoot (rUint bs e maxU).2.1 (rUint bs e maxU).2.2).2.2)
 else (⟨(rUint bs e maxU).1,(rRoot (rUint bs e maxU).2.1 (rUint bs e maxU).2.2).1⟩,(rRoot (rUint bs e maxU).2.1 (rUint bs e maxU).2.2).2)
theorem bf_ (bs:List UInt8) (e m:Int):(rUint bs e m).2.1.length≤bs.length:=by
 unfold rUint
 (repeat' split)<;>simp
theorem bZ_ (bs:List UInt8) (e:Int):(rRoot bs e).2.1.length≤bs.length:=by
 unfold rRoot
 (repeat' split)<;>simp
theorem jK_ (bs:List UInt8) (cl:Bool) (e:Int) (hb:bs.length≤140737488355328):
   ACall Tryz.prog 81 [.ptr 0 0] [rdr cl bs e] (.agg (cpC (rCp bs e).1)) [rdr cl (rCp bs e).2.1 (rCp bs e).2.2]:=by
 refine ACall.fact 12 fV_ (by simp) ?_ (by simp)
 have hl:=bf_ bs e maxU
 have hu:=es_ bs cl e maxU hb
 unfold cO_ rCp;refine bd ?_
 generalize rUint bs e maxU=U at *
 obtain⟨u,b1,e1⟩:=U
 dsimp only at hl hu ⊢
 have hr:=cu_ b1 cl e1 (by omega)
 generalize rRoot b1 e1=R at *
 obtain⟨r,b2,e2⟩:=R
 dsimp only at hr ⊢
 try refine aa_ ?_
 refine ocall [0] (hu) evd (Picks.mk' (by simp) evd) ?_;refine evg ?_
 try refine aa_ ?_
 refine ocall [0] (hr) evd (Picks.mk' (by simp) evd) ?_;refine evg ?_
 try refine aa_ ?_
 by_cases he:e2=0
 · subst he
   simp only[ne_eq,not_true_eq_false,if_false]
   refine ab_ ?_
   try refine aa_ ?_
   refine finQ [] [0] _ (by simp) (by first | rfl | exact evd) (by simp) rfl (by simp) (by simp) evd evd
 · have he':(e2 != 0)=true:=by simpa using he
   simp only[ne_eq,he,not_false_eq_true,if_true]
   refine ac_ ?_ (by(try simp only[go_sem,he']);try exact evd)
   try refine aa_ ?_
   refine finQ [] [0] _ (by simp) (by first | rfl | exact evd) (by simp) rfl (by simp) (by simp) evd evd

theorem tk_ (v:Int) (b:UInt8) (i:Nat):0≤rstep v b i:=by unfold rstep ior;rw[oj_];omega
theorem kN_:∀ (l:List UInt8) (i:Nat) (v:Int),0≤(rnumF l i v).1
 | [],i,v=>by simp[rnumF]
 | b :: l, i, v => by
   rw[rnumF]
   have:=kN_ l (i+1) (rstep v b i)
   have:=tk_ v b i
   (repeat' split)<;>first | omega | (simp only;omega)
theorem bz_ (bs:List UInt8) (e m:Int):0≤(rUint bs e m).1:=by
 have:=kN_ (bs.take 10) 0 0
 unfold rUint rnum
 (repeat' split)<;>first | omega | (simp only;omega) | (simp only;exact this)

end Go.Proofs.YtipiipgpnkpejaaGreat
namespace Go.Proofs.YtipiipgpnkpejaaGreat
open Go Go.FH Go.RowKit
set_option linter.unusedVariables false
set_option linter.unusedSimpArgs false


theorem App.nil {f:FuncId}{xs:List AV}{e:List UInt8}(h:App f xs e) (he:e.length≤140737488355328):ACall Tryz.prog f (.sl 0 true []::xs) [] (.hs 1 0 0 e.length) [.vec 1 (bts e)]:=by
 have:=h.clip [] (by simpa using he)
 simp only[List.length_nil,Nat.zero_add,List.nil_append]at this
 exact this.wk ⟨Wk.empty 0 1 _,WkL.refl _⟩
end Go.Proofs.YtipiipgpnkpejaaGreat
