/-
 My texts Cb, Cc, Cd, Da, Db, Dc, De, Df, Ce, Dd, joined.
-/
import Derived.Test.YtipiipgpnkpejaaGreatW4
import Derived.Test.YtipiipgpnkpejaaGreatW3
namespace Go.Proofs.YtipiipgpnkpejaaGreat
open Go Go.FH
set_option linter.unusedVariables false
set_option linter.unusedSimpArgs false
def RN_(a x:Int):Int:=(IntKind.u64.wrap (IntKind.u64.wrap (a+IntKind.u64.wrap x)+1)).tmod 4294967295
def Sj_(b a:Int):Int:=(IntKind.u64.wrap (b+a)).tmod 4294967295
def Sk_:List UInt8→Int→Int→Int×Int
 | [],a,b=>(a,b)
 |x::xs,a,b=>Sk_ xs (RN_ a x.toNat) (Sj_ b (RN_ a x.toNat))
def aJ_(n:Nat):List UInt8:=if h:n<128 then [UInt8.ofNat n]else UInt8.ofNat (n%128+128)::aJ_ (n / 128)
termination_by n
decreasing_by omega
theorem ea_{n:Nat}(h:128≤n):aJ_ n=UInt8.ofNat (n%128+128)::aJ_ (n / 128):=by rw[aJ_,dif_neg (by omega)]
theorem cb_{n:Nat}(h:n<128):aJ_ n=[UInt8.ofNat n]:=by rw[aJ_,dif_pos h]
theorem Qd_:∀k:Fin 256,ior .u8 ((k.val:Nat):Int) 128=((k.val%128+128:Nat):Int):=by decide +kernel
theorem uhi(m:Nat):ior .u8 (IntKind.u8.wrap (m:Int)) 128=((UInt8.ofNat (m%128+128)).toNat:Int):=by
 have h:=Qd_ ⟨m%256,by omega⟩;simp only at h;rw[show IntKind.u8.wrap (m:Int)=((m%256:Nat):Int)by rw[IntKind.wrap_u8];omega,h];simp only[UInt8.toNat_ofNat'];omega
theorem ulo{m:Nat}(h:m<128):IntKind.u8.wrap (m:Int)=((UInt8.ofNat m).toNat:Int):=by
 rw[IntKind.wrap_u8];simp only[UInt8.toNat_ofNat'];omega
theorem FK_(m:Nat):dW_ .u64 (m:Int) 7=((m / 128:Nat):Int):=by
 unfold dW_;rw[show ((2:Int) ^ (min 7 IntKind.u64.bits))=((128:Nat):Int)by decide];rw[Int.fdiv_eq_ediv_of_nonneg _ (by omega)];rfl
theorem tq_(bs:List UInt8):ar_ Tryz.prog 108 [.sl 1 false (bts bs)] [] (.ptr 0 0) [.var [.sl 1 false (bts bs),.int .i64 0]]:=by
 refine ar_.fact 3 JI_ (by simp) ?_ (by simp);unfold zH_;refine bd ?_;try refine aa_ ?_
 exact Sg_ [] [0]
def lV_(v:Int)(b:UInt8)(i:Nat):Int:=ior .u64 v (Cl_ .u64 (IntKind.u64.wrap (jc_ .u8 (b.toNat:Int) 127)) (7*i))
def dw_:List UInt8→Nat→Int→Int×Nat×Int
 | [],_,_=>(0,0,5)
 | b :: bs, i, v =>
   if i=9∧1<b.toNat then (0,0,2)
   else if b.toNat<128 then (if b.toNat=0∧0<i then (0,0,2)else (lV_ v b i,i+1,0))
   else dw_ bs (i+1) (lV_ v b i)
def dY_(bs:List UInt8):Int×Nat×Int:=dw_ (bs.take 10) 0 0
theorem wR_{bs:List UInt8}{i:Nat}(h:i<bs.length)(v:Int):dw_ (bs.drop i) i v=if i=9∧1<bs[i].toNat then (0,0,2)
 else if bs[i].toNat<128 then (if bs[i].toNat=0∧0<i then (0,0,2)else (lV_ v bs[i] i,i+1,0))
 else dw_ (bs.drop (i+1)) (i+1) (lV_ v bs[i] i):=by
 rw[List.drop_eq_getElem_cons h,dw_]
theorem EK_ (bs : List UInt8) (cl : Bool) (e : Int) (hb : bs.length ≤ 140737488355328) :
 ar_ Tryz.prog 122 [.ptr 0 0] [.var [.sl 1 cl (bts bs),.int .i64 e]] (.tup [.int .u64 (dY_ bs).1,.int .i64 (dY_ bs).2.1,.int .i64 (dY_ bs).2.2]) [.var [.sl 1 cl (bts bs),.int .i64 e]]:=by
 refine ar_.fact 21 nV_ (by simp) ?_ (by simp);unfold hu_;refine bd ?_;try refine aa_ ?_
 have e1:List.take (if (10:Int)<bs.length then (10:Int)else bs.length).toNat bs=bs.take 10:=by
  split
  ·rfl
  ·rw[List.take_of_length_le (by omega),List.take_of_length_le (by omega)]
 have e2:min (if (10:Int)<bs.length then (10:Int)else bs.length).toNat bs.length=(bs.take 10).length:=by
  rw[List.length_take];split<;>omega
 have hq:(bs.take 10).length≤10:=by rw[List.length_take];omega
 have hr:dY_ bs=dw_ (bs.take 10) 0 0:=rfl;simp only[LL_,Nat.sub_zero,List.length_take,DI_];simp only[e1,e2];generalize dY_ bs=r at *;generalize bs.take 10=q at *
 refine bF_ (fun x:Nat×Int=>⟨21,[.ptr 0 0,.dead,.int .u64 0,.int .i64 0,.int .i64 0,.int .u64 x.2,.dead,.dead,.dead,.dead,.dead,.dead,.dead,.dead,.dead,.dead,.dead,.dead,.sl 1 false (bts q),.int .i64 q.length,.int .i64 x.1],[]⟩) (fun _=>[.var [.sl 1 cl (bts bs),.int .i64 e]]) (fun x=>q.length-x.1)
  (fun x=>x.1≤q.length∧dw_ (q.drop x.1) x.1 x.2=r) (0,0) ⟨by simp,hr.symm⟩ ?_ ?_
 ·exact Sn_ [] [0]
 rintro⟨i,v⟩ ⟨h1,h2⟩;dsimp only at h1 h2 ⊢;try refine aa_ ?_
 refine au_ evd (fun h=>?_) (fun h=>?_)
 ·have hi : i < q.length := by simpa using h
  try refine aa_ ?_
  rw[iI_ hi];have hi10:i<10:=by omega
  rw[wR_ hi]at h2;by_cases hA:i=9∧1<q[i].toNat
  ·have h9':(((i:Nat):Int)==9)=true:=by simp[hA.1]
   have hb':decide ((1:Int)<(q[i].toNat:Int))=true:=by have:=hA.2;simp;omega
   rw[if_pos hA]at h2;subst h2;repeat(first|refine aa_ ?_|simp only[go_sem,h9',hb'])
   refine au_ rfl (fun h=>?_) (fun h=>by cases h);try refine aa_ ?_
   exact Sg_ [] [0]
  ·rw [if_neg hA] at h2
   have hc:(i=9∧¬1<q[i].toNat)∨i≠9:=by omega
   have hw1:IntKind.i64.wrap (7*(i:Int))=((7*i:Nat):Int):=by rw[ai_ (by omega) (by omega)];omega
   have hw2:IntKind.i64.wrap ((i:Int)+1)=((i+1:Nat):Int):=ag_ hi (by omega);rcases hc with⟨h9,hb0⟩|h9
   all_goals
    first
     | (have h9' : (((i : Nat) : Int) == 9) = true := (by simp [h9])
        have hb':decide ((1:Int)<(q[i].toNat:Int))=false:=(by simp;omega);repeat(first|refine aa_ ?_|simp only[go_sem,h9',hb']))
     | (have h9' : (((i : Nat) : Int) == 9) = false := (by simp; omega)
        repeat(first|refine aa_ ?_|simp only[go_sem,h9']))
    refine au_ rfl (fun h=>by cases h) (fun h=>?_);repeat(first|refine aa_ ?_|simp only[go_sem,hw1])
    refine au_ evd (fun h=>?_) (fun h=>?_)
    ·have hb8:q[i].toNat<128:=by simp at h;omega
     rw[if_pos hb8]at h2;by_cases hz:q[i].toNat=0
     ·have hz':((q[i].toNat:Int)==0)=true:=by simp[hz]
      repeat(first|refine aa_ ?_|simp only[go_sem,hz'])
      refine au_ evd (fun h=>?_) (fun h=>?_)
      ·rw[if_pos ⟨hz,by simpa using h⟩]at h2;subst h2;try refine aa_ ?_
       exact Sg_ [] [0]
      ·rw[if_neg (fun hh=>by have:=hh.2;simp at h;omega)]at h2;subst h2;repeat(first|refine aa_ ?_|simp only[go_sem,hw2])
       exact Sg_ [] [0]
     ·have hz':((q[i].toNat:Int)==0)=false:=by simp;omega
      rw[if_neg (fun hh=>hz hh.1)]at h2;subst h2;repeat(first|refine aa_ ?_|simp only[go_sem,hz'])
      refine au_ rfl (fun h=>by cases h) (fun h=>?_);repeat(first|refine aa_ ?_|simp only[go_sem,hw2])
      exact Sg_ [] [0]
    ·have hb8:¬q[i].toNat<128:=by simp at h;omega
     rw[if_neg hb8]at h2;repeat(first|refine aa_ ?_|simp only[go_sem,hw2])
     refine⟨(i+1,lV_ v q[i] i),⟨hi,h2⟩,by dsimp only;omega,?_⟩;exact Sn_ [] [0]
 ·have hi:i=q.length:=by simp at h;omega
  subst hi;rw[List.drop_length,dw_]at h2;subst h2;try refine aa_ ?_
  exact Sg_ [] [0]
abbrev rdr(cl:Bool)(bs:List UInt8)(e:Int):br_:=.var [.sl 1 cl (bts bs),.int .i64 e]
theorem hV_(bs:List UInt8)(cl:Bool)(e x:Int):ar_ Tryz.prog 115 [.ptr 0 0,.int .i64 x] [rdr cl bs e] (.tup []) [rdr cl bs x]:=by
 refine ar_.fact 4 qK_ (by simp) ?_ (by simp);unfold jo_ rdr;refine bd ?_;try refine aa_ ?_
 exact Sg_ [] [0]
def ap_(bs:List UInt8)(e m:Int):Int×List UInt8×Int:=
 if e≠0 then (0,bs,e)
 else if (dY_ bs).2.2=0 then (if m<(dY_ bs).1 then (0,bs,3)else ((dY_ bs).1,bs.drop (dY_ bs).2.1,0))else (0,bs,(dY_ bs).2.2)
theorem Fi_:∀ (l:List UInt8) (i:Nat) (v:Int),(dw_ l i v).2.1≤i+l.length
 | [],i,v=>by simp[dw_]
 | b :: l, i, v => by
   rw[dw_];have:=Fi_ l (i+1) (lV_ v b i);simp only[List.length_cons];(repeat' split)<;>first|omega|(simp only;omega)
theorem Ix_(bs:List UInt8):(dY_ bs).2.1≤bs.length:=by
 have:=Fi_ (bs.take 10) 0 0;simp only[dY_,List.length_take]at this ⊢;omega
theorem eP_(bs:List UInt8)(cl:Bool)(e m:Int)(hb:bs.length≤140737488355328):
 ar_ Tryz.prog 95 [.ptr 0 0,.int .u64 m] [rdr cl bs e] (.int .u64 (ap_ bs e m).1) [rdr cl (ap_ bs e m).2.1 (ap_ bs e m).2.2]:=by
 refine ar_.fact 8 qI_ (by simp) ?_ (by simp);unfold jm_ rdr ap_;refine bd ?_;try refine aa_ ?_
 refine au_ evd (fun h=>?_) (fun h=>?_)
 ·have he:e≠0:=by simpa using h
  simp only[if_pos he];try refine aa_ ?_
  exact Sg_ [] [0]
 ·have he:e=0:=by simpa using h
  subst he;simp only[ne_eq,not_true_eq_false,if_false];try refine aa_ ?_
  refine am_ [0] (EK_ bs cl 0 hb) evd (aj_.mk' (by simp) evd) ?_;refine evg ?_;try refine aa_ ?_
  by_cases hc:(dY_ bs).2.2=0
  ·have hc':((dY_ bs).2.2==0)=true:=by simp[hc]
   simp only[if_pos hc];repeat(first|refine aa_ ?_|simp only[go_sem,hc'])
   refine au_ evd (fun h=>?_) (fun h=>?_)
   ·have hm:m<(dY_ bs).1:=by simpa using h
    simp only[if_pos hm];try refine aa_ ?_
    refine au_ evd (fun h=>?_) (fun h=>?_)
    ·try refine aa_ ?_
     refine am_ [0] (hV_ bs cl 0 3) evd (aj_.mk' (by simp) evd) ?_;refine evg ?_;try refine aa_ ?_
     exact Sg_ [] [0]
    ·simp at h
   ·have hm:¬m<(dY_ bs).1:=by simpa using h
    simp only[if_neg hm];repeat(first|refine aa_ ?_|simp only[go_sem,hc])
    refine au_ rfl (fun h=>by cases h) (fun h=>?_);try refine aa_ ?_
    have:=Ix_ bs;have e3:List.take (bs.length-(dY_ bs).2.1) (List.drop (dY_ bs).2.1 bs)=List.drop (dY_ bs).2.1 bs:=List.take_of_length_le (by simp);simp only[e3];try refine aa_ ?_
    exact Sg_ [] [0]
  ·have hc':((dY_ bs).2.2==0)=false:=by simpa using hc
   have hc2:((dY_ bs).2.2 != 0)=true:=by simpa using hc
   simp only[if_neg hc];repeat(first|refine aa_ ?_|simp only[go_sem,hc'])
   refine au_ rfl (fun h=>by cases h) (fun h=>?_);repeat(first|refine aa_ ?_|simp only[go_sem,hc2])
   refine au_ rfl (fun h=>?_) (fun h=>by cases h);try refine aa_ ?_
   refine am_ [0] (hV_ bs cl 0 (dY_ bs).2.2) evd (aj_.mk' (by simp) evd) ?_;refine evg ?_;try refine aa_ ?_
   exact Sg_ [] [0]
theorem FJ_:∀ (k n:Nat),n<128 ^ (k+1)→(aJ_ n).length≤k+1
 |0,n,h=>by rw[cb_ (by simpa using h)];simp
 | k + 1, n, h => by
   by_cases hn:n<128
   ·rw[cb_ hn];simp
   ·rw[ea_ (by omega),List.length_cons]
    have:n / 128<128 ^ (k+1):=by
     rw[Nat.div_lt_iff_lt_mul (by omega)];rw[Nat.pow_succ]at h;exact h
    have:=FJ_ k (n / 128) this;omega
theorem bH_{n:Nat}(h:n<18446744073709551616):(aJ_ n).length≤10:=FJ_ 9 n (by omega)
theorem rH_(n:Nat):0<(aJ_ n).length:=by
 by_cases hn:n<128
 ·rw[cb_ hn];simp
 ·rw[ea_ (by omega)];simp
theorem OU_:∀k:Fin 256,jc_ .u8 ((k.val:Nat):Int) 127=((k.val%128:Nat):Int):=by decide +kernel
theorem Nd_{v c k:Nat}(hv:v<2 ^ k)(hc:v+c*2 ^ k<18446744073709551616):
 ior .u64 (v:Int) ((c*2 ^ k:Nat):Int)=((v+c*2 ^ k:Nat):Int):=by
 have e:(BitVec.ofInt IntKind.u64.bits (v:Int) ||| BitVec.ofInt IntKind.u64.bits ((c*2 ^ k:Nat):Int)).toNat=v+c*2 ^ k:=by
  rw[BitVec.toNat_or,BitVec.ofInt_natCast,BitVec.ofInt_natCast,BitVec.toNat_ofNat,BitVec.toNat_ofNat];rw[Nat.mod_eq_of_lt (show v<2 ^ IntKind.u64.bits from Nat.lt_of_le_of_lt (Nat.le_add_right _ _) hc),Nat.mod_eq_of_lt (show c*2 ^ k<2 ^ IntKind.u64.bits from Nat.lt_of_le_of_lt (Nat.le_add_left _ _) hc)];rw[Nat.or_comm,Nat.mul_comm c,←Nat.two_pow_add_eq_or_of_lt hv];omega
 unfold ior;rw[e,aH_ (by omega) (by omega)]
theorem Fl_{v i:Nat}{b:UInt8}(hi:i≤9)(hv:v<2 ^ (7*i))(hb:v+b.toNat%128*2 ^ (7*i)<18446744073709551616):lV_ v b i=((v+b.toNat%128*2 ^ (7*i):Nat):Int):=by
 unfold lV_;have h1:=OU_ ⟨b.toNat,b.toNat_lt⟩;simp only at h1;rw[h1,aH_ (n:=((b.toNat%128:Nat):Int)) (by omega) (by omega)];unfold Cl_;have h2:min (7*i) IntKind.u64.bits=7*i:=by simp only[IntKind.bits];omega
 rw[h2,show (((b.toNat%128:Nat):Int)*2 ^ (7*i))=((b.toNat%128*2 ^ (7*i):Nat):Int)by push_cast;rfl];rw[aH_ (n:=((b.toNat%128*2 ^ (7*i):Nat):Int)) (by omega) (by omega)];exact Nd_ hv hb
theorem Hv_(tail:List UInt8):∀ (m i v:Nat),i+(aJ_ m).length≤10→v<2 ^ (7*i)→v+m*2 ^ (7*i)<18446744073709551616→(0<m∨i=0)→
 dw_ ((aJ_ m++tail).take (10-i)) i v=(((v+m*2 ^ (7*i):Nat):Int),i+(aJ_ m).length,0):=by
 intro m;induction m using Nat.strongRecOn with
 | _ m ih =>
   intro i v hl hv hs hp;by_cases hm:m<128
   ·rw[cb_ hm]at hl ⊢;simp only[List.length_cons,List.length_nil]at hl ⊢;have hb:(UInt8.ofNat m).toNat=m:=by simp only[UInt8.toNat_ofNat'];omega
    rw[show 10-i=(9-i)+1 by omega,List.cons_append,List.take_succ_cons,dw_,hb];rw[if_neg,if_pos hm,if_neg (by omega),Fl_ (by omega) hv (by rw[hb,Nat.mod_eq_of_lt hm];exact hs),hb,Nat.mod_eq_of_lt hm];rintro⟨rfl,h1⟩;have:2*2 ^ (7*9)≤m*2 ^ (7*9):=Nat.mul_le_mul_right _ h1;omega
   ·rw[ea_ (by omega)]at hl ⊢
    simp only[List.length_cons]at hl ⊢;have hb:(UInt8.ofNat (m%128+128)).toNat=m%128+128:=by simp only[UInt8.toNat_ofNat'];omega
    have hpos:=rH_ (m / 128);rw[show 10-i=(10-(i+1))+1 by omega,List.cons_append,List.take_succ_cons,dw_,hb];have e:2 ^ (7*(i+1))=128*2 ^ (7*i):=by rw[Nat.mul_add,Nat.pow_add,Nat.mul_comm]
    have em:m*2 ^ (7*i)=m%128*2 ^ (7*i)+m / 128*2 ^ (7*(i+1)):=by
     rw[e,←Nat.mul_assoc,←Nat.add_mul];congr 1;omega
    have h2:m%128*2 ^ (7*i)≤127*2 ^ (7*i):=Nat.mul_le_mul_right _ (by omega);rw[if_neg (by omega),if_neg (by omega),Fl_ (by omega) hv (by rw[hb,show (m%128+128)%128=m%128 by omega];omega),hb,show (m%128+128)%128=m%128 by omega];rw[ih (m / 128) (by omega) (i+1) _ (by omega) (by rw[e];omega) (by omega) (by omega)];simp only[Prod.mk.injEq,and_true];exact⟨by omega,by omega⟩
theorem KH_{n:Nat}(h:n<18446744073709551616)(tail:List UInt8):dY_ (aJ_ n++tail)=((n:Int),(aJ_ n).length,0):=by
 have:=Hv_ tail n 0 0 (by have:=bH_ h;omega) (by simp) (by simpa using h) (.inr rfl);simpa[dY_]using this
theorem KF_:∀ (m i:Nat) (v:Int) (k:Nat),i+(aJ_ m).length≤10→k<(aJ_ m).length→dw_ ((aJ_ m).take k) i v=(0,0,5):=by
 intro m;induction m using Nat.strongRecOn with
 | _ m ih =>
   intro i v k hl hk;by_cases hm:m<128
   ·rw[cb_ hm]at hl hk ⊢;simp only[List.length_cons,List.length_nil]at hk;rw[show k=0 by omega];rfl
   ·rw[ea_ (by omega)]at hl hk ⊢
    simp only[List.length_cons]at hk hl;cases k with
    |zero=>rfl
    | succ k =>
      have hb:(UInt8.ofNat (m%128+128)).toNat=m%128+128:=by simp only[UInt8.toNat_ofNat'];omega
      have hpos:=rH_ (m / 128);rw[List.take_succ_cons,dw_,hb,if_neg (by omega),if_neg (by omega)];exact ih (m / 128) (by omega) (i+1) _ k (by omega) (by omega)
theorem Ny_{n k:Nat}(h:n<18446744073709551616)(hk:k<(aJ_ n).length):dY_ ((aJ_ n).take k)=(0,0,5):=by
 have:=bH_ h;unfold dY_;rw[List.take_take,show min 10 k=k by omega];exact KF_ n 0 0 k (by omega) hk
structure App(f:FuncId)(xs:List AV)(e:List UInt8):Prop where
 clip:∀bs:List UInt8,bs.length+e.length≤140737488355328→ar_ Tryz.prog f (.sl 1 true (bts bs)::xs) [] (.hs 1 0 0 (bs.length+e.length)) [.vec 1 (bts (bs++e))]
 own:∀bs:List UInt8,bs.length+e.length≤140737488355328→ar_ Tryz.prog f (.hs 1 0 0 bs.length::xs) [.vec 1 (bts bs)] (.hs 1 1 0 (bs.length+e.length)) [.gone,.vec 1 (bts (bs++e))]
theorem OK_(m:Nat):jc_ .u64 (m:Int) 127=((m%128:Nat):Int):=by
 unfold jc_
 have:(BitVec.ofInt IntKind.u64.bits (m:Int) &&& BitVec.ofInt IntKind.u64.bits 127).toNat=m%128:=by
  rw[BitVec.toNat_and,BitVec.ofInt_natCast,show BitVec.ofInt IntKind.u64.bits 127=BitVec.ofNat IntKind.u64.bits (2 ^ 7-1)by decide,BitVec.toNat_ofNat,BitVec.toNat_ofNat];rw[show (2 ^ 7-1)%2 ^ IntKind.u64.bits=2 ^ 7-1 by decide,Nat.and_two_pow_sub_one_eq_mod];rw[Nat.mod_mod_of_dvd _ (by decide)]
 rw[this,aH_ (by omega) (by omega)]
theorem Qc_(m:Nat):ior .u8 (IntKind.u8.wrap (jc_ .u64 (m:Int) 127)) 128=((UInt8.ofNat (m%128+128)).toNat:Int):=by
 rw[OK_,uhi,Nat.mod_mod]
theorem cd_(n:Int)(h0:0≤n)(h1:n<18446744073709551616):App 63 [.int .u64 n] (aJ_ n.toNat):=by
 constructor
 ·intro bs hb
  refine ar_.fact 5 vs_ (by simp) ?_ (by simp);unfold pf_;refine bd ?_;try refine aa_ ?_
  refine bF_ (fun x:Bool×List UInt8×Nat=>⟨5,[if x.1 then .hs 1 0 0 x.2.1.length else .sl 1 true (bts x.2.1),.int .u64 x.2.2,.dead,.dead,.dead],[]⟩) (fun x=>if x.1 then [.vec 1 (bts x.2.1)]else []) (fun x=>x.2.2)
   (fun x=>x.2.1++aJ_ x.2.2=bs++aJ_ n.toNat∧x.2.2<18446744073709551616) (false,bs,n.toNat) ⟨rfl,by dsimp only;omega⟩ ?_ ?_
  ·refine GC.mk' [] [] (by simp) rfl (by simp) (by simp) (by simp[ek_]) ?_;simp[et_,fz,iH_,ren,gx_,rn,eL_,cj_];try omega
  rintro⟨st,acc,m⟩ ⟨h2,h3⟩;dsimp only at h2 h3 ⊢;have hl:acc.length+(aJ_ m).length=bs.length+(aJ_ n.toNat).length:=by simpa using congrArg List.length h2
  cases st
  ·try refine aa_ ?_
   refine au_ evd (fun h=>?_) (fun h=>?_)
   ·have hm:128≤m:=by simp at h;omega
    rw[ea_ hm]at h2 hl;simp only[List.length_cons]at hl;try refine aa_ ?_
    simp only[FK_,uhi];(try simp only[go_sem,Nat.reduceAdd,Nat.reduceSub,Nat.reduceMul,Nat.reduceLT,Nat.reduceLeDiff,Nat.reduceEqDiff,reduceIte,Int.reduceToNat,Int.reduceLT,Int.reduceLE,Int.reduceEq,Int.reduceNeg,reduceCtorEq,Int.reduceBEq,Int.reduceBNe])
    refine⟨(true,acc++[UInt8.ofNat (m%128+128)],m / 128),⟨by simpa using h2,by dsimp only;omega⟩,by dsimp only;omega,?_⟩;exact Sn_ [] [0]
   ·have hm:m<128:=by simp at h;omega
    rw[cb_ hm]at h2 hl;simp only[List.length_cons,List.length_nil,Nat.zero_add]at hl;try refine aa_ ?_
    rw[←h2,←hl];simp only[ulo hm];(try simp only[go_sem,Nat.reduceAdd,Nat.reduceSub,Nat.reduceMul,Nat.reduceLT,Nat.reduceLeDiff,Nat.reduceEqDiff,reduceIte,Int.reduceToNat,Int.reduceLT,Int.reduceLE,Int.reduceEq,Int.reduceNeg,reduceCtorEq,Int.reduceBEq,Int.reduceBNe])
    exact Sg_ [] [0]
  ·try refine aa_ ?_
   refine au_ evd (fun h=>?_) (fun h=>?_)
   ·have hm:128≤m:=by simp at h;omega
    rw[ea_ hm]at h2 hl;simp only[List.length_cons]at hl;try refine aa_ ?_
    simp only[FK_,uhi];(try simp only[go_sem,Nat.reduceAdd,Nat.reduceSub,Nat.reduceMul,Nat.reduceLT,Nat.reduceLeDiff,Nat.reduceEqDiff,reduceIte,Int.reduceToNat,Int.reduceLT,Int.reduceLE,Int.reduceEq,Int.reduceNeg,reduceCtorEq,Int.reduceBEq,Int.reduceBNe])
    refine⟨(true,acc++[UInt8.ofNat (m%128+128)],m / 128),⟨by simpa using h2,by dsimp only;omega⟩,by dsimp only;omega,?_⟩;exact Sn_ [] [1]
   ·have hm:m<128:=by simp at h;omega
    rw[cb_ hm]at h2 hl;simp only[List.length_cons,List.length_nil,Nat.zero_add]at hl;try refine aa_ ?_
    rw[←h2,←hl];simp only[ulo hm];(try simp only[go_sem,Nat.reduceAdd,Nat.reduceSub,Nat.reduceMul,Nat.reduceLT,Nat.reduceLeDiff,Nat.reduceEqDiff,reduceIte,Int.reduceToNat,Int.reduceLT,Int.reduceLE,Int.reduceEq,Int.reduceNeg,reduceCtorEq,Int.reduceBEq,Int.reduceBNe])
    exact Sg_ [] [1]
 ·intro bs hb
  refine ar_.fact 5 vs_ (by simp) ?_ (by simp);unfold pf_;refine bd ?_;try refine aa_ ?_
  refine bF_ (fun x:Bool×List UInt8×Nat=>⟨5,[if x.1 then .hs 1 1 0 x.2.1.length else .hs 1 0 0 x.2.1.length,.int .u64 x.2.2,.dead,.dead,.dead],[]⟩) (fun x=>if x.1 then [.gone,.vec 1 (bts x.2.1)]else [.vec 1 (bts x.2.1)]) (fun x=>x.2.2)
   (fun x=>x.2.1++aJ_ x.2.2=bs++aJ_ n.toNat∧x.2.2<18446744073709551616) (false,bs,n.toNat) ⟨rfl,by dsimp only;omega⟩ ?_ ?_
  ·refine GC.mk' [] [0] (by simp) rfl (by simp) (by simp) (by simp[ek_,fm_,gx_,rn,fzO,iH_]) ?_;simp[et_,fz,iH_,ren,gx_,rn,eL_,cj_];try omega
  rintro⟨st,acc,m⟩ ⟨h2,h3⟩;dsimp only at h2 h3 ⊢;have hl:acc.length+(aJ_ m).length=bs.length+(aJ_ n.toNat).length:=by simpa using congrArg List.length h2
  cases st
  ·try refine aa_ ?_
   refine au_ evd (fun h=>?_) (fun h=>?_)
   ·have hm:128≤m:=by simp at h;omega
    rw[ea_ hm]at h2 hl;simp only[List.length_cons]at hl;try refine aa_ ?_
    simp only[FK_,uhi];(try simp only[go_sem,Nat.reduceAdd,Nat.reduceSub,Nat.reduceMul,Nat.reduceLT,Nat.reduceLeDiff,Nat.reduceEqDiff,reduceIte,Int.reduceToNat,Int.reduceLT,Int.reduceLE,Int.reduceEq,Int.reduceNeg,reduceCtorEq,Int.reduceBEq,Int.reduceBNe])
    refine⟨(true,acc++[UInt8.ofNat (m%128+128)],m / 128),⟨by simpa using h2,by dsimp only;omega⟩,by dsimp only;omega,?_⟩;exact Sn_ [] [0,1]
   ·have hm:m<128:=by simp at h;omega
    rw[cb_ hm]at h2 hl;simp only[List.length_cons,List.length_nil,Nat.zero_add]at hl;try refine aa_ ?_
    rw[←h2,←hl];simp only[ulo hm];(try simp only[go_sem,Nat.reduceAdd,Nat.reduceSub,Nat.reduceMul,Nat.reduceLT,Nat.reduceLeDiff,Nat.reduceEqDiff,reduceIte,Int.reduceToNat,Int.reduceLT,Int.reduceLE,Int.reduceEq,Int.reduceNeg,reduceCtorEq,Int.reduceBEq,Int.reduceBNe])
    exact Sg_ [] [0,1]
  ·try refine aa_ ?_
   refine au_ evd (fun h=>?_) (fun h=>?_)
   ·have hm:128≤m:=by simp at h;omega
    rw[ea_ hm]at h2 hl;simp only[List.length_cons]at hl;try refine aa_ ?_
    simp only[FK_,uhi];(try simp only[go_sem,Nat.reduceAdd,Nat.reduceSub,Nat.reduceMul,Nat.reduceLT,Nat.reduceLeDiff,Nat.reduceEqDiff,reduceIte,Int.reduceToNat,Int.reduceLT,Int.reduceLE,Int.reduceEq,Int.reduceNeg,reduceCtorEq,Int.reduceBEq,Int.reduceBNe])
    refine⟨(true,acc++[UInt8.ofNat (m%128+128)],m / 128),⟨by simpa using h2,by dsimp only;omega⟩,by dsimp only;omega,?_⟩;exact Sn_ [] [0,2]
   ·have hm:m<128:=by simp at h;omega
    rw[cb_ hm]at h2 hl;simp only[List.length_cons,List.length_nil,Nat.zero_add]at hl;try refine aa_ ?_
    rw[←h2,←hl];simp only[ulo hm];(try simp only[go_sem,Nat.reduceAdd,Nat.reduceSub,Nat.reduceMul,Nat.reduceLT,Nat.reduceLeDiff,Nat.reduceEqDiff,reduceIte,Int.reduceToNat,Int.reduceLT,Int.reduceLE,Int.reduceEq,Int.reduceNeg,reduceCtorEq,Int.reduceBEq,Int.reduceBNe])
    exact Sg_ [] [0,2]
theorem bY_(n:Int)(h0:0≤n)(h1:n<18446744073709551616):App 32 [.int .u64 n] (aJ_ n.toNat):=by
 constructor
 ·intro bs hb
  refine ar_.fact 5 th_ (by simp) ?_ (by simp);unfold mz_;refine bd ?_;try refine aa_ ?_
  refine bF_ (fun x:Bool×List UInt8×Nat=>⟨5,[if x.1 then .hs 1 0 0 x.2.1.length else .sl 1 true (bts x.2.1),.int .u64 x.2.2,.dead,.dead,.sl 0 true []],[]⟩) (fun x=>if x.1 then [.vec 1 (bts x.2.1)]else []) (fun x=>x.2.2)
   (fun x=>x.2.1++aJ_ x.2.2=bs++aJ_ n.toNat∧x.2.2<18446744073709551616) (false,bs,n.toNat) ⟨rfl,by dsimp only;omega⟩ ?_ ?_
  ·refine GC.mk' [] [] (by simp) rfl (by simp) (by simp) (by simp[ek_]) ?_;simp[et_,fz,iH_,ren,gx_,rn,eL_,cj_];try omega
  rintro⟨st,acc,m⟩ ⟨h2,h3⟩;dsimp only at h2 h3 ⊢;have hl:acc.length+(aJ_ m).length=bs.length+(aJ_ n.toNat).length:=by simpa using congrArg List.length h2
  cases st
  ·try refine aa_ ?_
   refine au_ evd (fun h=>?_) (fun h=>?_)
   ·have hm:128≤m:=by simp at h;omega
    rw[ea_ hm]at h2 hl;simp only[List.length_cons]at hl;try refine aa_ ?_
    simp only[FK_,Qc_];(try simp only[go_sem,Nat.reduceAdd,Nat.reduceSub,Nat.reduceMul,Nat.reduceLT,Nat.reduceLeDiff,Nat.reduceEqDiff,reduceIte,Int.reduceToNat,Int.reduceLT,Int.reduceLE,Int.reduceEq,Int.reduceNeg,reduceCtorEq,Int.reduceBEq,Int.reduceBNe])
    refine⟨(true,acc++[UInt8.ofNat (m%128+128)],m / 128),⟨by simpa using h2,by dsimp only;omega⟩,by dsimp only;omega,?_⟩;exact Sn_ [] [0]
   ·have hm:m<128:=by simp at h;omega
    rw[cb_ hm]at h2 hl;simp only[List.length_cons,List.length_nil,Nat.zero_add]at hl;try refine aa_ ?_
    rw[←h2,←hl];simp only[ulo hm];(try simp only[go_sem,Nat.reduceAdd,Nat.reduceSub,Nat.reduceMul,Nat.reduceLT,Nat.reduceLeDiff,Nat.reduceEqDiff,reduceIte,Int.reduceToNat,Int.reduceLT,Int.reduceLE,Int.reduceEq,Int.reduceNeg,reduceCtorEq,Int.reduceBEq,Int.reduceBNe])
    exact Sg_ [] [0]
  ·try refine aa_ ?_
   refine au_ evd (fun h=>?_) (fun h=>?_)
   ·have hm:128≤m:=by simp at h;omega
    rw[ea_ hm]at h2 hl;simp only[List.length_cons]at hl;try refine aa_ ?_
    simp only[FK_,Qc_];(try simp only[go_sem,Nat.reduceAdd,Nat.reduceSub,Nat.reduceMul,Nat.reduceLT,Nat.reduceLeDiff,Nat.reduceEqDiff,reduceIte,Int.reduceToNat,Int.reduceLT,Int.reduceLE,Int.reduceEq,Int.reduceNeg,reduceCtorEq,Int.reduceBEq,Int.reduceBNe])
    refine⟨(true,acc++[UInt8.ofNat (m%128+128)],m / 128),⟨by simpa using h2,by dsimp only;omega⟩,by dsimp only;omega,?_⟩;exact Sn_ [] [1]
   ·have hm:m<128:=by simp at h;omega
    rw[cb_ hm]at h2 hl;simp only[List.length_cons,List.length_nil,Nat.zero_add]at hl;try refine aa_ ?_
    rw[←h2,←hl];simp only[ulo hm];(try simp only[go_sem,Nat.reduceAdd,Nat.reduceSub,Nat.reduceMul,Nat.reduceLT,Nat.reduceLeDiff,Nat.reduceEqDiff,reduceIte,Int.reduceToNat,Int.reduceLT,Int.reduceLE,Int.reduceEq,Int.reduceNeg,reduceCtorEq,Int.reduceBEq,Int.reduceBNe])
    exact Sg_ [] [1]
 ·intro bs hb
  refine ar_.fact 5 th_ (by simp) ?_ (by simp);unfold mz_;refine bd ?_;try refine aa_ ?_
  refine bF_ (fun x:Bool×List UInt8×Nat=>⟨5,[if x.1 then .hs 1 1 0 x.2.1.length else .hs 1 0 0 x.2.1.length,.int .u64 x.2.2,.dead,.dead,.sl 0 true []],[]⟩) (fun x=>if x.1 then [.gone,.vec 1 (bts x.2.1)]else [.vec 1 (bts x.2.1)]) (fun x=>x.2.2)
   (fun x=>x.2.1++aJ_ x.2.2=bs++aJ_ n.toNat∧x.2.2<18446744073709551616) (false,bs,n.toNat) ⟨rfl,by dsimp only;omega⟩ ?_ ?_
  ·refine GC.mk' [] [0] (by simp) rfl (by simp) (by simp) (by simp[ek_,fm_,gx_,rn,fzO,iH_]) ?_;simp[et_,fz,iH_,ren,gx_,rn,eL_,cj_];try omega
  rintro⟨st,acc,m⟩ ⟨h2,h3⟩;dsimp only at h2 h3 ⊢;have hl:acc.length+(aJ_ m).length=bs.length+(aJ_ n.toNat).length:=by simpa using congrArg List.length h2
  cases st
  ·try refine aa_ ?_
   refine au_ evd (fun h=>?_) (fun h=>?_)
   ·have hm:128≤m:=by simp at h;omega
    rw[ea_ hm]at h2 hl;simp only[List.length_cons]at hl;try refine aa_ ?_
    simp only[FK_,Qc_];(try simp only[go_sem,Nat.reduceAdd,Nat.reduceSub,Nat.reduceMul,Nat.reduceLT,Nat.reduceLeDiff,Nat.reduceEqDiff,reduceIte,Int.reduceToNat,Int.reduceLT,Int.reduceLE,Int.reduceEq,Int.reduceNeg,reduceCtorEq,Int.reduceBEq,Int.reduceBNe])
    refine⟨(true,acc++[UInt8.ofNat (m%128+128)],m / 128),⟨by simpa using h2,by dsimp only;omega⟩,by dsimp only;omega,?_⟩;exact Sn_ [] [0,1]
   ·have hm:m<128:=by simp at h;omega
    rw[cb_ hm]at h2 hl;simp only[List.length_cons,List.length_nil,Nat.zero_add]at hl;try refine aa_ ?_
    rw[←h2,←hl];simp only[ulo hm];(try simp only[go_sem,Nat.reduceAdd,Nat.reduceSub,Nat.reduceMul,Nat.reduceLT,Nat.reduceLeDiff,Nat.reduceEqDiff,reduceIte,Int.reduceToNat,Int.reduceLT,Int.reduceLE,Int.reduceEq,Int.reduceNeg,reduceCtorEq,Int.reduceBEq,Int.reduceBNe])
    exact Sg_ [] [0,1]
  ·try refine aa_ ?_
   refine au_ evd (fun h=>?_) (fun h=>?_)
   ·have hm:128≤m:=by simp at h;omega
    rw[ea_ hm]at h2 hl;simp only[List.length_cons]at hl;try refine aa_ ?_
    simp only[FK_,Qc_];(try simp only[go_sem,Nat.reduceAdd,Nat.reduceSub,Nat.reduceMul,Nat.reduceLT,Nat.reduceLeDiff,Nat.reduceEqDiff,reduceIte,Int.reduceToNat,Int.reduceLT,Int.reduceLE,Int.reduceEq,Int.reduceNeg,reduceCtorEq,Int.reduceBEq,Int.reduceBNe])
    refine⟨(true,acc++[UInt8.ofNat (m%128+128)],m / 128),⟨by simpa using h2,by dsimp only;omega⟩,by dsimp only;omega,?_⟩;exact Sn_ [] [0,2]
   ·have hm:m<128:=by simp at h;omega
    rw[cb_ hm]at h2 hl;simp only[List.length_cons,List.length_nil,Nat.zero_add]at hl;try refine aa_ ?_
    rw[←h2,←hl];simp only[ulo hm];(try simp only[go_sem,Nat.reduceAdd,Nat.reduceSub,Nat.reduceMul,Nat.reduceLT,Nat.reduceLeDiff,Nat.reduceEqDiff,reduceIte,Int.reduceToNat,Int.reduceLT,Int.reduceLE,Int.reduceEq,Int.reduceNeg,reduceCtorEq,Int.reduceBEq,Int.reduceBNe])
    exact Sg_ [] [0,2]
theorem to_:[[AV.int .u8 0]]=bts [0]:=rfl
theorem tp_:[[AV.int .u8 1]]=bts [1]:=rfl
def nT_(x:Bool):List UInt8:=if x then [1]else [0]
theorem Kv_(x:Bool):App 124 [.bool x] (nT_ x):=by
 constructor<;>intro bs hb<;>cases x<;>simp only[nT_,Bool.false_eq_true,if_false,if_true,List.length_cons,List.length_nil]at hb ⊢
 ·refine ar_.fact 5 ld_ (by simp) ?_ (by simp);unfold ii_;refine bd ?_;try refine aa_ ?_
  refine au_ rfl (fun h=>by cases h) (fun h=>?_);try refine aa_ ?_
  (try simp only[to_,tp_,fG_])
  exact Sg_ [] [0]
 ·refine ar_.fact 5 ld_ (by simp) ?_ (by simp);unfold ii_;refine bd ?_;try refine aa_ ?_
  refine au_ rfl (fun h=>?_) (fun h=>by cases h);try refine aa_ ?_
  (try simp only[to_,tp_,fG_])
  exact Sg_ [] [0]
 ·refine ar_.fact 5 ld_ (by simp) ?_ (by simp);unfold ii_;refine bd ?_;try refine aa_ ?_
  refine au_ rfl (fun h=>by cases h) (fun h=>?_);try refine aa_ ?_
  (try simp only[to_,tp_,fG_])
  exact Sg_ [] [0,1]
 ·refine ar_.fact 5 ld_ (by simp) ?_ (by simp);unfold ii_;refine bd ?_;try refine aa_ ?_
  refine au_ rfl (fun h=>?_) (fun h=>by cases h);try refine aa_ ?_
  (try simp only[to_,tp_,fG_])
  exact Sg_ [] [0,1]
theorem KP_(x:Bool):App 35 [.bool x] (nT_ x):=by
 constructor<;>intro bs hb<;>cases x<;>simp only[nT_,Bool.false_eq_true,if_false,if_true,List.length_cons,List.length_nil]at hb ⊢
 ·refine ar_.fact 5 jx_ (by simp) ?_ (by simp);unfold gM_;refine bd ?_;try refine aa_ ?_
  refine au_ rfl (fun h=>by cases h) (fun h=>?_);try refine aa_ ?_
  (try simp only[to_,tp_,fG_])
  exact Sg_ [] [0]
 ·refine ar_.fact 5 jx_ (by simp) ?_ (by simp);unfold gM_;refine bd ?_;try refine aa_ ?_
  refine au_ rfl (fun h=>?_) (fun h=>by cases h);try refine aa_ ?_
  (try simp only[to_,tp_,fG_])
  exact Sg_ [] [0]
 ·refine ar_.fact 5 jx_ (by simp) ?_ (by simp);unfold gM_;refine bd ?_;try refine aa_ ?_
  refine au_ rfl (fun h=>by cases h) (fun h=>?_);try refine aa_ ?_
  (try simp only[to_,tp_,fG_])
  exact Sg_ [] [0,1]
 ·refine ar_.fact 5 jx_ (by simp) ?_ (by simp);unfold gM_;refine bd ?_;try refine aa_ ?_
  refine au_ rfl (fun h=>?_) (fun h=>by cases h);try refine aa_ ?_
  (try simp only[to_,tp_,fG_])
  exact Sg_ [] [0,1]
theorem eN_(r:Rt):App 75 [.agg (rtc r)] r.1:=by
 have hr:=r.2;constructor<;>intro bs hb
 ·refine ar_.fact 5 vr_ (by simp) ?_ (by simp);unfold pe_;refine bd ?_;repeat(first|refine aa_ ?_|simp only[go_sem,fr_ r,hr])
  exact Sg_ [] [1]
 ·refine ar_.fact 5 vr_ (by simp) ?_ (by simp);unfold pe_;refine bd ?_;repeat(first|refine aa_ ?_|simp only[go_sem,fr_ r,hr])
  exact Sg_ [] [0,2]
theorem ei_(r:Rt):App 31 [.agg (rtc r)] r.1:=by
 have hr:=r.2;constructor<;>intro bs hb
 ·refine ar_.fact 5 tg_ (by simp) ?_ (by simp);unfold mx_;refine bd ?_;repeat(first|refine aa_ ?_|simp only[go_sem,fr_ r,hr])
  exact Sg_ [] [1]
 ·refine ar_.fact 5 tg_ (by simp) ?_ (by simp);unfold mx_;refine bd ?_;repeat(first|refine aa_ ?_|simp only[go_sem,fr_ r,hr])
  exact Sg_ [] [0,2]
def FT_(a:Wd)(i:Nat):UInt8:=byt (dW_ .u64 (a.1.getD (i / 8) 0) (8*(i%8)))
def fl_(a:Wd)(k:Nat):Rt:=if h:k=0 then rt0 else (fl_ a (k-1)).set (31-(k-1)) (FT_ a (k-1))
termination_by k
decreasing_by omega
theorem EO_(a:Wd):fl_ a 0=rt0:=by rw[fl_,dif_pos rfl]
theorem wu_(a:Wd)(i:Nat):fl_ a (i+1)=(fl_ a i).set (31-i) (FT_ a i):=by rw[fl_,dif_neg (by omega)];rfl
theorem Bi_{cs:List AV}(h:PuL cs):Pu (.agg cs):=h
def bb_(a:Wd):Rt:=fl_ a 32
def IO_(b:Rt)(w:Wd)(i:Nat):Wd:=w.set (i / 8) (ior .u64 (w.1.getD (i / 8) 0) (Cl_ .u64 ((b.1.getD (31-i) 0).toNat:Int) (8*(i%8))))
def gm_(b:Rt)(k:Nat):Wd:=if h:k=0 then wd0 else IO_ b (gm_ b (k-1)) (k-1)
termination_by k
decreasing_by omega
theorem uL_(b:Rt):gm_ b 0=wd0:=by rw[gm_,dif_pos rfl]
theorem uM_(b:Rt)(i:Nat):gm_ b (i+1)=IO_ b (gm_ b i) i:=by rw[gm_,dif_neg (by omega)];rfl
def wof(b:Rt):Wd:=gm_ b 32
theorem ix1{i:Nat}(h:i<32):IntKind.i64.wrap (31-(i:Int))=((31-i:Nat):Int):=by rw[ai_ (by omega) (by omega)];omega
theorem ix2{i:Nat}(h:i<32):IntKind.i64.wrap ((i:Int).tdiv 8)=((i / 8:Nat):Int):=by
 rw[Int.tdiv_eq_ediv_of_nonneg (by omega),ai_ (by omega) (by omega)];rfl
theorem ix3(i:Nat):(i:Int).tmod 8=((i%8:Nat):Int):=by rw[Int.tmod_eq_emod_of_nonneg (by omega)];rfl
theorem ix4(i:Nat):IntKind.i64.wrap (8*((i%8:Nat):Int))=((8*(i%8):Nat):Int):=by rw[ai_ (by omega) (by omega)];omega
theorem ix5{i:Nat}(h:i<32):IntKind.i64.wrap ((i:Int)+1)=((i+1:Nat):Int):=by rw[ai_ (by omega) (by omega)];omega
theorem ix6(i:Nat):IntKind.u64.wrap ((8*(i%8):Nat):Int)=((8*(i%8):Nat):Int):=aH_ (by omega) (by omega)
theorem ix7(b:UInt8):IntKind.u64.wrap (b.toNat:Int)=(b.toNat:Int):=aH_ (by omega) (by have:=b.toNat_lt;omega)
theorem tz_(n:Int):IntKind.u8.wrap n=((byt n).toNat:Int):=(FW_ n).symm
theorem rF_(a:Wd):PC Tryz.prog 142 [.agg (wdc a)] (.agg (rtc (bb_ a))):=by
 refine PC.fact 6 vI_ (by simp) ⟨eH_ a,trivial⟩ (Bi_ (ci_ _)) ?_;unfold mC_;refine bd ?_;try refine aa_ ?_
 refine dn_ (fun i:Nat=>⟨6,[.agg (wdc a),.ptr 0 0,.ptr 1 0,.ptr 2 0,.dead,.int .i64 i],[]⟩) (fun i=>[.var (wdc a),.var (rtc rt0),.var (rtc (fl_ a i))]) (fun i=>32-i) (fun i=>i≤32) [4] 0 (by omega) (by first|((try simp only[go_sem,Nat.reduceAdd,Nat.reduceSub,Nat.reduceMul,Nat.reduceLT,Nat.reduceLeDiff,Nat.reduceEqDiff,reduceIte,Int.reduceToNat,Int.reduceLT,Int.reduceLE,Int.reduceEq,Int.reduceNeg,reduceCtorEq,Int.reduceBEq,Int.reduceBNe]);done)|((try simp only[go_sem,Nat.reduceAdd,Nat.reduceSub,Nat.reduceMul,Nat.reduceLT,Nat.reduceLeDiff,Nat.reduceEqDiff,reduceIte,Int.reduceToNat,Int.reduceLT,Int.reduceLE,Int.reduceEq,Int.reduceNeg,reduceCtorEq,Int.reduceBEq,Int.reduceBNe]);rfl)) (by rw[EO_]) ?_;intro i hi;try dsimp only
 try refine aa_ ?_
 refine au_ evd (fun h=>?_) (fun h=>?_)
 ·have h1:i<32:=by simp at h;omega
  have s1:∀b:UInt8,spl (rtc (fl_ a i)) (31-i) [.int .u8 b.toNat]=rtc ((fl_ a i).set (31-i) b):=fun b=>nQ_ _ (by omega) b
  repeat(first|refine aa_ ?_|simp only[go_sem,Nat.mul_one,ix1 h1,ix2 h1,ix3 i,ix4 i,ix5 h1,ix6 i,qy_ a (show i / 8<4 by omega),tz_,s1])
  exact⟨i+1,h1,by omega,rfl,by rw[wu_];rfl⟩
 ·have h1:i=32:=by simp at h;omega
  subst h1;try refine aa_ ?_
  exact ah_
theorem oZ_(a:Wd):PC Tryz.prog 72 [.agg (wdc a)] (.agg (rtc (bb_ a))):=by
 refine PC.fact 5 vF_ (by simp) ⟨eH_ a,trivial⟩ (Bi_ (ci_ _)) ?_;unfold mw_;refine bd ?_;try refine aa_ ?_
 refine dn_ (fun i:Nat=>⟨5,[.agg (wdc a),.ptr 0 0,.ptr 1 0,.ptr 2 0,.int .i64 i],[]⟩) (fun i=>[.var (wdc a),.var (rtc rt0),.var (rtc (fl_ a i))]) (fun i=>32-i) (fun i=>i≤32) [] 0 (by omega) (by first|((try simp only[go_sem,Nat.reduceAdd,Nat.reduceSub,Nat.reduceMul,Nat.reduceLT,Nat.reduceLeDiff,Nat.reduceEqDiff,reduceIte,Int.reduceToNat,Int.reduceLT,Int.reduceLE,Int.reduceEq,Int.reduceNeg,reduceCtorEq,Int.reduceBEq,Int.reduceBNe]);done)|((try simp only[go_sem,Nat.reduceAdd,Nat.reduceSub,Nat.reduceMul,Nat.reduceLT,Nat.reduceLeDiff,Nat.reduceEqDiff,reduceIte,Int.reduceToNat,Int.reduceLT,Int.reduceLE,Int.reduceEq,Int.reduceNeg,reduceCtorEq,Int.reduceBEq,Int.reduceBNe]);rfl)) (by rw[EO_]) ?_;intro i hi;try dsimp only
 try refine aa_ ?_
 refine au_ evd (fun h=>?_) (fun h=>?_)
 ·have h1:i<32:=by simp at h;omega
  have s1:∀b:UInt8,spl (rtc (fl_ a i)) (31-i) [.int .u8 b.toNat]=rtc ((fl_ a i).set (31-i) b):=fun b=>nQ_ _ (by omega) b
  repeat(first|refine aa_ ?_|simp only[go_sem,Nat.mul_one,ix1 h1,ix2 h1,ix3 i,ix4 i,ix5 h1,ix6 i,qy_ a (show i / 8<4 by omega),tz_,s1])
  exact⟨i+1,h1,by omega,rfl,by rw[wu_];rfl⟩
 ·have h1:i=32:=by simp at h;omega
  subst h1;try refine aa_ ?_
  exact ah_
theorem vL_(b:Rt):PC Tryz.prog 116 [.agg (rtc b)] (.agg (wdc (wof b))):=by
 refine PC.fact 6 sn_ (by simp) ⟨ci_ b,trivial⟩ (Bi_ (eH_ _)) ?_;unfold kB_;refine bd ?_;try refine aa_ ?_
 refine dn_ (fun i:Nat=>⟨6,[.agg (rtc b),.ptr 0 0,.ptr 1 0,.ptr 2 0,.dead,.int .i64 i],[]⟩) (fun i=>[.var (rtc b),.var (wdc wd0),.var (wdc (gm_ b i))]) (fun i=>32-i) (fun i=>i≤32) [4] 0 (by omega) (by first|((try simp only[go_sem,Nat.reduceAdd,Nat.reduceSub,Nat.reduceMul,Nat.reduceLT,Nat.reduceLeDiff,Nat.reduceEqDiff,reduceIte,Int.reduceToNat,Int.reduceLT,Int.reduceLE,Int.reduceEq,Int.reduceNeg,reduceCtorEq,Int.reduceBEq,Int.reduceBNe]);done)|((try simp only[go_sem,Nat.reduceAdd,Nat.reduceSub,Nat.reduceMul,Nat.reduceLT,Nat.reduceLeDiff,Nat.reduceEqDiff,reduceIte,Int.reduceToNat,Int.reduceLT,Int.reduceLE,Int.reduceEq,Int.reduceNeg,reduceCtorEq,Int.reduceBEq,Int.reduceBNe]);rfl)) (by rw[uL_]) ?_;intro i hi;try dsimp only
 try refine aa_ ?_
 refine au_ evd (fun h=>?_) (fun h=>?_)
 ·have h1:i<32:=by simp at h;omega
  have s1:∀x:Int,spl (wdc (gm_ b i)) (i / 8) [.int .u64 x]=wdc ((gm_ b i).set (i / 8) x):=fun x=>gE_ _ (by omega) x
  repeat(first|refine aa_ ?_|simp only[go_sem,Nat.mul_one,ix1 h1,ix2 h1,ix3 i,ix4 i,ix5 h1,ix6 i,ix7,qy_ (gm_ b i) (show i / 8<4 by omega),DR_ b (show 31-i<32 by omega),s1])
  exact⟨i+1,h1,by omega,rfl,by rw[uM_];rfl⟩
 ·have h1:i=32:=by simp at h;omega
  subst h1;try refine aa_ ?_
  exact ah_
theorem AS_(a:Wd):App 123 [.agg (wdc a)] (bb_ a).1:=by
 have hr:=(bb_ a).2;constructor<;>intro bs hb
 ·refine ar_.fact 6 vt_ (by simp) ?_ (by simp);unfold pg_;refine bd ?_;try refine aa_ ?_
  refine ae_ (rF_ a) ?_;repeat(first|refine aa_ ?_|simp only[go_sem,fr_ (bb_ a),hr])
  exact Sg_ [] [2]
 ·refine ar_.fact 6 vt_ (by simp) ?_ (by simp);unfold pg_;refine bd ?_;try refine aa_ ?_
  refine ae_ (rF_ a) ?_;repeat(first|refine aa_ ?_|simp only[go_sem,fr_ (bb_ a),hr])
  exact Sg_ [] [0,3]
theorem Bb_(a:Wd):App 33 [.agg (wdc a)] (bb_ a).1:=by
 have hr:=(bb_ a).2;constructor<;>intro bs hb
 ·refine ar_.fact 6 ti_ (by simp) ?_ (by simp);unfold mA_;refine bd ?_;try refine aa_ ?_
  refine ae_ (oZ_ a) ?_;repeat(first|refine aa_ ?_|simp only[go_sem,fr_ (bb_ a),hr])
  exact Sg_ [] [2]
 ·refine ar_.fact 6 ti_ (by simp) ?_ (by simp);unfold mA_;refine bd ?_;try refine aa_ ?_
  refine ae_ (oZ_ a) ?_;repeat(first|refine aa_ ?_|simp only[go_sem,fr_ (bb_ a),hr])
  exact Sg_ [] [0,3]
def cy_(c:Cp):List UInt8:=aJ_ c.ep.toNat++c.rt.1
theorem nK_(c:Cp)(h0:0≤c.ep)(h1:c.ep<18446744073709551616):App 77 [.agg (cpC c)] (cy_ c):=by
 have hr:=c.rt.2;constructor<;>intro bs hb<;>(simp only[cy_,List.length_append,hr]at hb)<;>(simp only[cy_,List.length_append,←List.append_assoc,←Nat.add_assoc])
 ·refine ar_.fact 5 kE_ (by simp) ?_ (by simp);unfold go_;refine bd ?_;try refine aa_ ?_
  refine aQ_ [] ((cd_ c.ep h0 h1).clip bs (by omega)) (by simp) evd (bd_.mk' (by simp) (by simp) evd) ?_;refine evg ?_;try refine aa_ ?_
  refine aQ_ [1] ((eN_ c.rt).own (bs++aJ_ c.ep.toNat) (by rw[List.length_append,hr];omega)) (by simp) evd (bd_.mk' (by simp) (by simp) evd) ?_;refine evg ?_;try refine aa_ ?_
  exact Sg_ [] [2]
 ·refine ar_.fact 5 kE_ (by simp) ?_ (by simp);unfold go_;refine bd ?_;try refine aa_ ?_
  refine aQ_ [0] ((cd_ c.ep h0 h1).own bs (by omega)) (by simp) evd (bd_.mk' (by simp) (by simp) evd) ?_;refine evg ?_;try refine aa_ ?_
  refine aQ_ [2] ((eN_ c.rt).own (bs++aJ_ c.ep.toNat) (by rw[List.length_append,hr];omega)) (by simp) evd (bd_.mk' (by simp) (by simp) evd) ?_;refine evg ?_;try refine aa_ ?_
  exact Sg_ [] [0,3]
theorem ru_(c:Cp)(h0:0≤c.ep)(h1:c.ep<18446744073709551616):App 34 [.agg (cpC c)] (cy_ c):=by
 have hr:=c.rt.2;constructor<;>intro bs hb<;>(simp only[cy_,List.length_append,hr]at hb)<;>(simp only[cy_,List.length_append,←List.append_assoc,←Nat.add_assoc])
 ·refine ar_.fact 5 jy_ (by simp) ?_ (by simp);unfold fM_;refine bd ?_;try refine aa_ ?_
  refine aQ_ [] ((bY_ c.ep h0 h1).clip bs (by omega)) (by simp) evd (bd_.mk' (by simp) (by simp) evd) ?_;refine evg ?_;try refine aa_ ?_
  refine aQ_ [1] ((ei_ c.rt).own (bs++aJ_ c.ep.toNat) (by rw[List.length_append,hr];omega)) (by simp) evd (bd_.mk' (by simp) (by simp) evd) ?_;refine evg ?_;try refine aa_ ?_
  exact Sg_ [] [2]
 ·refine ar_.fact 5 jy_ (by simp) ?_ (by simp);unfold fM_;refine bd ?_;try refine aa_ ?_
  refine aQ_ [0] ((bY_ c.ep h0 h1).own bs (by omega)) (by simp) evd (bd_.mk' (by simp) (by simp) evd) ?_;refine evg ?_;try refine aa_ ?_
  refine aQ_ [2] ((ei_ c.rt).own (bs++aJ_ c.ep.toNat) (by rw[List.length_append,hr];omega)) (by simp) evd (bd_.mk' (by simp) (by simp) evd) ?_;refine evg ?_;try refine aa_ ?_
  exact Sg_ [] [0,3]
theorem dU_(bs:List UInt8)(cl:Bool)(e:Int):ar_ Tryz.prog 96 [.ptr 0 0] [rdr cl bs e] (.int .i64 e) [rdr cl bs e]:=by
 refine ar_.fact 3 rV_ (by simp) ?_ (by simp);unfold kk_ rdr;refine bd ?_;try refine aa_ ?_
 exact Sg_ [] [0]
theorem sG_(bs:List UInt8)(cl:Bool)(e:Int):ar_ Tryz.prog 109 [.ptr 0 0] [rdr cl bs e] (.int .i64 bs.length) [rdr cl bs e]:=by
 refine ar_.fact 3 qF_ (by simp) ?_ (by simp);unfold jj_ rdr;refine bd ?_;try refine aa_ ?_
 exact Sg_ [] [0]
def ep_(bs:List UInt8)(e:Int):Bool×List UInt8×Int:=
 if e≠0 then (false,bs,e)else match bs with
  | []=>(false,[],5)
  |b::r=>if 1<b.toNat then (false,b::r,2)else ((b.toNat:Int)==1,r,0)
theorem Ji_(bs:List UInt8)(cl:Bool)(e:Int)(hb:bs.length≤140737488355328):
 ar_ Tryz.prog 85 [.ptr 0 0] [rdr cl bs e] (.bool (ep_ bs e).1) [rdr cl (ep_ bs e).2.1 (ep_ bs e).2.2]:=by
 refine ar_.fact 4 qE_ (by simp) ?_ (by simp);unfold ji_ rdr ep_;refine bd ?_;by_cases he:e=0
 ·subst he
  simp only[ne_eq,not_true_eq_false,if_false];try refine aa_ ?_
  refine au_ rfl (fun h=>by cases h) (fun h=>?_);cases bs with
  | nil =>
    try refine aa_ ?_
    refine Rf_ ?_
    refine am_ [0] (hV_ [] cl 0 5) evd (aj_.mk' (by simp) evd) ?_;refine evg ?_;try refine aa_ ?_
    exact Sg_ [] [0]
  | cons b r =>
    have hl0:(((r.length+1:Nat):Int)==0)=false:=by simp;omega
    simp only[List.length_cons]at hb;repeat(first|refine aa_ ?_|simp only[go_sem,hl0])
    refine au_ rfl (fun h=>by cases h) (fun h=>?_);have h0:0<(b::r).length:=by simp
    repeat(first|refine aa_ ?_|simp only[go_sem,iI_ h0,List.getElem_cons_zero])
    refine au_ evd (fun h=>?_) (fun h=>?_)
    ·have h1:1<b.toNat:=by simp at h;omega
     rw[if_pos h1];try refine aa_ ?_
     refine am_ [0] (hV_ (b::r) cl 0 2) evd (aj_.mk' (by simp) evd) ?_;refine evg ?_;try refine aa_ ?_
     exact Sg_ [] [0]
    ·have h1:¬1<b.toNat:=by simp at h;omega
     rw[if_neg h1];repeat(first|refine aa_ ?_|simp only[go_sem,iI_ h0,List.getElem_cons_zero,Nat.add_sub_cancel])
     exact Sg_ [] [0]
 ·have he':(e != 0)=true:=by simpa using he
  simp only[ne_eq,he,not_false_eq_true,if_true];repeat(first|refine aa_ ?_|simp only[go_sem,he'])
  refine au_ rfl (fun h=>?_) (fun h=>by cases h);try refine aa_ ?_
  exact Sg_ [] [0]
def Hd_(l:List UInt8):Rt:=if h:l.length=32 then ⟨l,h⟩else rt0
theorem wm_{l:List UInt8}(h:l.length=32):(Hd_ l).1=l:=by rw[Hd_,dif_pos h]
def bc_(bs:List UInt8)(e:Int):Rt×List UInt8×Int:=
 if e≠0 then (rt0,bs,e)else if bs.length<32 then (rt0,bs,5)else (Hd_ (bs.take 32),bs.drop 32,0)
theorem eM_(bs:List UInt8)(cl:Bool)(e:Int)(hb:bs.length≤140737488355328):
 ar_ Tryz.prog 80 [.ptr 0 0] [rdr cl bs e] (.agg (rtc (bc_ bs e).1)) [rdr cl (bc_ bs e).2.1 (bc_ bs e).2.2]:=by
 refine ar_.fact 4 qG_ (by simp) ?_ (by simp);unfold jk_ rdr bc_;refine bd ?_;by_cases he:e=0
 ·subst he
  simp only[ne_eq,not_true_eq_false,if_false];try refine aa_ ?_
  refine au_ rfl (fun h=>by cases h) (fun h=>?_);try refine aa_ ?_
  refine au_ evd (fun h=>?_) (fun h=>?_)
  ·have h1:bs.length<32:=by simp at h;omega
   simp only[if_pos h1];try refine aa_ ?_
   refine am_ [0] (hV_ bs cl 0 5) evd (aj_.mk' (by simp) evd) ?_;refine evg ?_;try refine aa_ ?_
   exact Sg_ [] [0]
  ·have h1:¬bs.length<32:=by simp at h;omega
   simp only[if_neg h1];have hmin:min bs.length 32=32:=by omega
   have hrt:byc (List.take 32 bs)=rtc (Hd_ (List.take 32 bs)):=by rw[rtc,wm_ (by rw[List.length_take];omega)]
   have hd:List.take (bs.length-32) (List.drop 32 bs)=List.drop 32 bs:=List.take_of_length_le (by simp);repeat(first|refine aa_ ?_|simp only[go_sem,hmin,hrt,hd])
   exact Sg_ [] [0]
 ·have he':(e != 0)=true:=by simpa using he
  simp only[ne_eq,he,not_false_eq_true,if_true];repeat(first|refine aa_ ?_|simp only[go_sem,he'])
  refine au_ rfl (fun h=>?_) (fun h=>by cases h);try refine aa_ ?_
  exact Sg_ [] [0]
def er_(bs:List UInt8)(e:Int):Wd×List UInt8×Int:=(wof (bc_ bs e).1,(bc_ bs e).2)
theorem Bg_(bs:List UInt8)(cl:Bool)(e:Int)(hb:bs.length≤140737488355328):
 ar_ Tryz.prog 84 [.ptr 0 0] [rdr cl bs e] (.agg (wdc (er_ bs e).1)) [rdr cl (er_ bs e).2.1 (er_ bs e).2.2]:=by
 refine ar_.fact 4 qJ_ (by simp) ?_ (by simp);unfold jn_ er_;refine bd ?_;try refine aa_ ?_
 refine am_ [0] (eM_ bs cl e hb) evd (aj_.mk' (by simp) evd) ?_;refine evg ?_;try refine aa_ ?_
 refine RV_ (vL_ _) ?_
 exact Sg_ [] [0]
abbrev bh_:Int:=18446744073709551615
def rCp(bs:List UInt8)(e:Int):Cp×List UInt8×Int:=
 if (bc_ (ap_ bs e bh_).2.1 (ap_ bs e bh_).2.2).2.2≠0 then (cp0,bs,(bc_ (ap_ bs e bh_).2.1 (ap_ bs e bh_).2.2).2.2)
 else (⟨(ap_ bs e bh_).1,(bc_ (ap_ bs e bh_).2.1 (ap_ bs e bh_).2.2).1⟩,(bc_ (ap_ bs e bh_).2.1 (ap_ bs e bh_).2.2).2)
theorem bX_(bs:List UInt8)(e m:Int):(ap_ bs e m).2.1.length≤bs.length:=by
 unfold ap_;(repeat' split)<;>simp
theorem eg_(bs:List UInt8)(e:Int):(bc_ bs e).2.1.length≤bs.length:=by
 unfold bc_;(repeat' split)<;>simp
theorem qv_(bs:List UInt8)(cl:Bool)(e:Int)(hb:bs.length≤140737488355328):
 ar_ Tryz.prog 81 [.ptr 0 0] [rdr cl bs e] (.agg (cpC (rCp bs e).1)) [rdr cl (rCp bs e).2.1 (rCp bs e).2.2]:=by
 refine ar_.fact 12 kF_ (by simp) ?_ (by simp);have hl:=bX_ bs e bh_;have hu:=eP_ bs cl e bh_ hb;unfold fs_ rCp;refine bd ?_;generalize ap_ bs e bh_=U at *;obtain⟨u,b1,e1⟩:=U;dsimp only at hl hu ⊢;have hr:=eM_ b1 cl e1 (by omega);generalize bc_ b1 e1=R at *;obtain⟨r,b2,e2⟩:=R;dsimp only at hr ⊢;try refine aa_ ?_
 refine am_ [0] (hu) evd (aj_.mk' (by simp) evd) ?_;refine evg ?_;try refine aa_ ?_
 refine am_ [0] (hr) evd (aj_.mk' (by simp) evd) ?_;refine evg ?_;try refine aa_ ?_
 by_cases he:e2=0
 ·subst he;simp only[ne_eq,not_true_eq_false,if_false];refine Re_ ?_
  exact Sg_ [] [0]
 ·have he':(e2 != 0)=true:=by simpa using he
  simp only[ne_eq,he,not_false_eq_true,if_true];refine ac_ ?_ (by(try simp only[go_sem,he']);try exact evd);try refine aa_ ?_
  exact Sg_ [] [0]
theorem CB_(v:Int)(b:UInt8)(i:Nat):0≤lV_ v b i:=by unfold lV_ ior;rw[xt_];omega
theorem rq_:∀ (l:List UInt8) (i:Nat) (v:Int),0≤(dw_ l i v).1
 | [],i,v=>by simp[dw_]
 | b :: l, i, v => by
   rw[dw_];have:=rq_ l (i+1) (lV_ v b i);have:=CB_ v b i;(repeat' split)<;>first|omega|(simp only;omega)
theorem bK_(bs:List UInt8)(e m:Int):0≤(ap_ bs e m).1:=by
 have:=rq_ (bs.take 10) 0 0;unfold ap_ dY_;(repeat' split)<;>first|omega|(simp only;omega)|(simp only;exact this)
abbrev RR(α:Type):=List UInt8→Int→α×List UInt8×Int
structure Lv_{α:Type}(z v:α)(enc:List UInt8)(r:RR α):Prop where
 full:∀t,r (enc++t) 0=(v,t,0)
 cut:∀k,k<enc.length→r (enc.take k) 0=(z,enc.take k,5)
 sticky:∀bs e,e≠0→r bs e=(z,bs,e)
theorem lp_{n:Nat}{m:Int}(h:n<18446744073709551616)(hm:(n:Int)≤m):Lv_ 0 (n:Int) (aJ_ n) (fun bs e=>ap_ bs e m):=by
 refine⟨fun t=>?_,fun k hk=>?_,fun bs e he=>?_⟩
 ·simp only[ap_,KH_ h,ne_eq,not_true_eq_false,if_false,if_true];rw[if_neg (by omega),List.drop_left]
 ·simp only[ap_,Ny_ h hk,ne_eq,not_true_eq_false,if_false];rw[if_neg (by decide)]
 ·simp only[ap_,ne_eq,he,not_false_eq_true,if_true]
theorem Hp_(x:Bool):Lv_ false x (nT_ x) ep_:=by
 refine⟨fun t=>?_,fun k hk=>?_,fun bs e he=>?_⟩
 ·cases x<;>simp[ep_,nT_]
 ·have hk0:k=0:=by cases x<;>simp[nT_]at hk<;>omega
  subst hk0;simp[ep_]
 ·simp only[ep_,ne_eq,he,not_false_eq_true,if_true]
theorem pH_(r:Rt):Lv_ rt0 r r.1 bc_:=by
 have hr:=r.2;refine⟨fun t=>?_,fun k hk=>?_,fun bs e he=>?_⟩
 ·simp only[bc_,ne_eq,not_true_eq_false,if_false];rw[if_neg (by rw[List.length_append];omega)];have h1:(r.1++t).take 32=r.1:=List.take_left' hr;have h2:(r.1++t).drop 32=t:=List.drop_left' hr;rw[h1,h2];congr 1;exact Subtype.ext (wm_ hr)
 ·simp only[bc_,ne_eq,not_true_eq_false,if_false];rw[if_pos (by rw[List.length_take];omega)]
 ·simp only[bc_,ne_eq,he,not_false_eq_true,if_true]
theorem MF_(m s:Nat)(hs:s<64):dW_ .u64 (m:Int) s=((m / 2 ^ s:Nat):Int):=by
 unfold dW_;rw[show min s IntKind.u64.bits=s by simp only[IntKind.bits];omega,show ((2:Int) ^ s)=((2 ^ s:Nat):Int)by push_cast;rfl];rw[Int.fdiv_eq_ediv_of_nonneg _ (Int.natCast_nonneg _)];rfl
theorem ME_{c s:Nat}(hs:s<64)(h:c*2 ^ s<18446744073709551616):Cl_ .u64 (c:Int) s=((c*2 ^ s:Nat):Int):=by
 unfold Cl_;rw[show min s IntKind.u64.bits=s by simp only[IntKind.bits];omega,show ((c:Int)*2 ^ s)=((c*2 ^ s:Nat):Int)by push_cast;rfl];exact aH_ (by omega) (by omega)
theorem OD_(m:Nat):(byt (m:Int)).toNat=m%256:=by
 have:=FW_ (m:Int);rw[IntKind.wrap_u8]at this;omega
theorem wt_(a:Wd):∀ (k i:Nat),k≤32→i<k→(fl_ a k).1.getD (31-i) 0=FT_ a i
 |0,i,_,h=>by omega
 | k + 1, i, hk, h => by
   have hl:=(fl_ a k).2;simp only[wu_,Rt.set,List.getD_eq_getElem?_getD,List.getElem?_set];by_cases hi:i=k
   ·subst hi;rw[if_pos rfl,if_pos (by omega)];rfl
   ·rw[if_neg (by omega)];have:=wt_ a k i (by omega) (by omega);rwa [List.getD_eq_getElem?_getD]at this
theorem Be_(a:Wd)(ha:∀n∈a.1,0≤n∧n<18446744073709551616):∀ (k j:Nat),k≤32→j<4→(gm_ (bb_ a) k).1.getD j 0=(((a.1.getD j 0).toNat%2 ^ (8*(min (k-8*j) 8)):Nat):Int)
 | 0, j, _, hj => by
   have:(8*min (0-8*j) 8)=0:=by omega
   rw[this,Nat.pow_zero,Nat.mod_one];have hj':j=0∨j=1∨j=2∨j=3:=by omega
   rw[uL_];rcases hj' with rfl|rfl|rfl|rfl<;>rfl
 | k + 1, j, hk, hj => by
   have ih:=Be_ a ha k;have hl:=(gm_ (bb_ a) k).2;have hal:=a.2;simp only[uM_,IO_,Wd.set,List.getD_eq_getElem?_getD,List.getElem?_set];by_cases hjk:j=k / 8
   ·subst hjk
    rw[if_pos rfl,if_pos (by omega)];have e1:=ih (k / 8) (by omega) (by omega);rw[List.getD_eq_getElem?_getD]at e1
    have e2:(bb_ a).1[31-k]?.getD 0=FT_ a k:=by
     have:=wt_ a 32 k (by omega) (by omega);rwa [List.getD_eq_getElem?_getD]at this
    rw[e1,e2];have hmem:a.1.getD (k / 8) 0∈a.1:=by rw[List.getD_eq_getElem?_getD,List.getElem?_eq_getElem (by omega)];exact List.getElem_mem _
    have hb:=ha _ hmem;obtain⟨x,hx⟩:∃x:Nat,a.1.getD (k / 8) 0=(x:Int):=⟨(a.1.getD (k / 8) 0).toNat,by omega⟩
    simp only[FT_,hx,Int.toNat_natCast];rw[hx]at hb;have hs:8*(k%8)<64:=by omega
    rw[MF_ _ _ hs,OD_];simp only[Option.getD_some];have m1:min (k-8*(k / 8)) 8=k%8:=by omega
    have m2:min (k+1-8*(k / 8)) 8=k%8+1:=by omega
    rw[m1,m2]
    have e3:x%2 ^ (8*(k%8+1))=x%2 ^ (8*(k%8))+x / 2 ^ (8*(k%8))%256*2 ^ (8*(k%8)):=by
     rw[Nat.mul_add,Nat.mul_one,Nat.pow_add,Nat.mod_mul,Nat.mul_comm (2 ^ (8*(k%8)))]
    have hlt:x%2 ^ (8*(k%8))+x / 2 ^ (8*(k%8))%256*2 ^ (8*(k%8))<18446744073709551616:=by
     rw[←e3];exact Nat.lt_of_le_of_lt (Nat.mod_le _ _) (by omega)
    have hx2:a.1[k / 8]?.getD 0=(x:Int):=by rw[←List.getD_eq_getElem?_getD];exact hx
    rw[ME_ hs (by omega),Nd_ (Nat.mod_lt _ (Nat.two_pow_pos _)) hlt,hx2,Int.toNat_natCast,e3]
   ·rw[if_neg (by omega)];have e1:=ih j (by omega) hj;rw[List.getD_eq_getElem?_getD]at e1;rw[e1];have:min (k+1-8*j) 8=min (k-8*j) 8:=by omega
    rw[this];simp[List.getD_eq_getElem?_getD]
theorem HM_(a:Wd)(ha:∀n∈a.1,0≤n∧n<18446744073709551616):wof (bb_ a)=a:=by
 apply Subtype.ext
 have h1:=(wof (bb_ a)).2;have h2:=a.2;apply List.ext_getElem (by omega)
 intro j hj1 hj2;have:=Be_ a ha 32 j (by omega) (by omega);have e:(wof (bb_ a)).1.getD j 0=(wof (bb_ a)).1[j]:=by rw[List.getD_eq_getElem?_getD,List.getElem?_eq_getElem hj1];rfl
 have e2:a.1.getD j 0=a.1[j]:=by rw[List.getD_eq_getElem?_getD,List.getElem?_eq_getElem hj2];rfl
 rw[←e];refine this.trans ?_;rw[e2,show min (32-8*j) 8=8 by omega];have hb:=ha _ (List.getElem_mem hj2);rw[Nat.mod_eq_of_lt (by omega)];omega
theorem Ls_:∀k:Fin 32,IO_ rt0 wd0 k.val=wd0:=by decide +kernel
theorem Bf_:∀k,k≤32→gm_ rt0 k=wd0
 |0,_=>uL_ _
 |k+1,h=>by rw[uM_,Bf_ k (by omega)];exact Ls_ ⟨k,by omega⟩
theorem IN_:wof rt0=wd0:=Bf_ 32 (Nat.le_refl _)
theorem wC_(a:Wd)(ha:∀n∈a.1,0≤n∧n<18446744073709551616):Lv_ wd0 a (bb_ a).1 er_:=by
 have h:=pH_ (bb_ a);refine⟨fun t=>?_,fun k hk=>?_,fun bs e he=>?_⟩
 ·simp only[er_,h.full,HM_ a ha]
 ·simp only[er_,h.cut k hk,IN_]
 ·simp only[er_,h.sticky bs e he,IN_]
theorem Nj_(c:Cp)(h0:0≤c.ep)(h1:c.ep<18446744073709551616):Lv_ cp0 c (cy_ c) rCp:=by
 have hu:=lp_ (n:=c.ep.toNat) (m:=bh_) (by omega) (by simp only[bh_];omega);have hr:=pH_ c.rt;have hz:rCp=fun bs e=>rCp bs e:=rfl
 refine⟨fun t=>?_,fun k hk=>?_,fun bs e he=>?_⟩
 ·have e1:=hu.full (c.rt.1++t);(try simp only at e1)
  simp only[rCp,cy_,List.append_assoc,e1,hr.full,ne_eq,not_true_eq_false,if_false];rw[show ((c.ep.toNat:Nat):Int)=c.ep by omega]
 ·by_cases hk1:k<(aJ_ c.ep.toNat).length
  ·have e1:=hu.cut k hk1;(try simp only at e1)
   have e2:(cy_ c).take k=(aJ_ c.ep.toNat).take k:=by rw[cy_,List.take_append_of_le_length (by omega)]
   simp only[rCp,e2,e1];rw[hr.sticky _ 5 (by decide)];simp
  ·have e1:=hu.full (c.rt.1.take (k-(aJ_ c.ep.toNat).length));(try simp only at e1)
   have e2:(cy_ c).take k=aJ_ c.ep.toNat++c.rt.1.take (k-(aJ_ c.ep.toNat).length):=by rw[cy_,List.take_append,List.take_of_length_le (by omega)]
   have e3:=hr.cut (k-(aJ_ c.ep.toNat).length) (by rw[cy_,List.length_append]at hk;omega);simp only[rCp,e2,e1,e3];simp
 ·have e1:=hu.sticky bs e he;(try simp only at e1)
  simp only[rCp,e1,hr.sticky bs e he,ne_eq,he,not_false_eq_true,if_true]
end Go.Proofs.YtipiipgpnkpejaaGreat
namespace Go.Proofs.YtipiipgpnkpejaaGreat
open Go Go.FH Go.RowKit
set_option linter.unusedVariables false
set_option linter.unusedSimpArgs false
theorem App.nil{f:FuncId}{xs:List AV}{e:List UInt8}(h:App f xs e)(he:e.length≤140737488355328):ar_ Tryz.prog f (.sl 0 true []::xs) [] (.hs 1 0 0 e.length) [.vec 1 (bts e)]:=by
 have:=h.clip [] (by simpa using he);simp only[List.length_nil,Nat.zero_add,List.nil_append]at this;exact this.wk ⟨Wk.empty 0 1 _,WkL.refl _⟩
end Go.Proofs.YtipiipgpnkpejaaGreat
