/-
 My texts Ia, Ib, Ir, La, Lb, Lc, joined.
-/
import Derived.Test.YtkgimpdgncakjaaV1
import Derived.Test.YtkgimpdgncakjaaW3
import Derived.Test.YtkgimpdgncakjaaW4
import Derived.Test.YtkgimpdgncakjaaW5
namespace Go.Proofs.Ytkgimpdgncakjaa
open Go Go.FH Go.RowKit
set_option linter.unusedVariables false
set_option linter.unusedSimpArgs false
theorem tI_(k:IntKind)(l m:List Int):au_ k l++au_ k m=au_ k (l++m):=by simp[au_]
def vh_:List Int→Int→List Int
 | [],v=>[v]
 |a::r,v=>if a<v then a::vh_ r v else if a=v then a::r else v::a::r
theorem ty_(l:List Int)(v:Int):(vh_ l v).length≤l.length+1:=by
 induction l with
 |nil=>simp[vh_]
 | cons a r ih =>
   unfold vh_;split
   ·simp;omega
   ·split<;>simp
def jJ_(l m:List Int)(i:Nat):List Int:=(l.take i).foldl (fun a v=>if v∈m then vh_ a v else a) []
theorem Ed_{l m:List Int}{i:Nat}(h:i<l.length):jJ_ l m (i+1)=if l.getD i 0∈m then vh_ (jJ_ l m i) (l.getD i 0)else jJ_ l m i:=by
 have e0:l[i]=l.getD i 0:=by rw[List.getD_eq_getElem?_getD,List.getElem?_eq_getElem h];rfl
 unfold jJ_;rw[List.take_add_one,List.getElem?_eq_getElem h,Option.toList_some,List.foldl_append,List.foldl_cons,List.foldl_nil,e0]
theorem sU_(l m:List Int):∀i,(jJ_ l m i).length≤i
 |0=>by simp[jJ_]
 | i + 1 => by
   have ih:=sU_ l m i;by_cases h:i<l.length
   ·rw[Ed_ h];split
    ·have:=ty_ (jJ_ l m i) (l.getD i 0);omega
    ·omega
   ·have:jJ_ l m (i+1)=jJ_ l m i:=by unfold jJ_;rw[List.take_of_length_le (by omega),List.take_of_length_le (by omega)]
    rw[this];omega
def sur(a b:Clm):Bool:=decide (a.src<b.src)&&decide (b.tgt<a.tgt)
def dbl(a b:Clm):Bool:=(a.tgt==b.tgt)&&((a.src != b.src) || !decide (a.root=b.root))
def slb(a b:Clm):Bool:=dbl a b || sur a b || sur b a
def evE(x:Slg)(l m:List Int)(n:Int):Int:=
 if fV_ l n≠0 then fV_ l n else if fV_ m n≠0 then fV_ m n else if x.fst.tgt<x.fst.src∨x.snd.tgt<x.snd.src then 2
 else if slb x.fst x.snd=false∨jJ_ l m l.length=[]then 20 else 0
def pX_(z:Int):UInt8:=UInt8.ofNat (IntKind.u8.wrap z).toNat
theorem iz_(z:Int):IntKind.u8.wrap z=((pX_ z).toNat:Int):=by
 have h:0≤IntKind.u8.wrap z∧IntKind.u8.wrap z<256:=by rw[IntKind.wrap_u8];omega
 unfold pX_;rw[UInt8.toNat_ofNat',Nat.mod_eq_of_lt (by omega)];omega
theorem kD_(x m:Int)(h0:0≤m)(hm:m<9223372036854775808):∃r:Nat,ie_ .i64 x m=r∧(r:Int)≤m:=by
 unfold ie_
 have h:(BitVec.ofInt IntKind.i64.bits x &&& BitVec.ofInt IntKind.i64.bits m).toNat≤m.toNat:=by
  rw[BitVec.toNat_and];refine Nat.le_trans Nat.and_le_right ?_;rw[BitVec.toNat_ofInt];show (m % ((2 ^ 64:Nat):Int)).toNat≤m.toNat
  omega
 generalize (BitVec.ofInt IntKind.i64.bits x &&& BitVec.ofInt IntKind.i64.bits m).toNat=r at *;exact⟨r,be_ (by omega) (by omega),by omega⟩
def ju_(n:Int):Rt:=((rt0.set 0 (pX_ n)).set 1 (pX_ (iS_ .i64 n 8))).set 31 (pX_ (IntKind.i64.wrap (n*7)))
theorem zE_(n:Int):PC Try.prog 26 [.int .i64 n] (.agg (rtc (ju_ n))):=by
 refine PC.fact 3 sZ_ (by simp) ⟨trivial,trivial⟩ ((bT_ _)) ?_;unfold lF_ ju_;refine bd ?_;have h0:=iz_ n;have h1:=iz_ (iS_ .i64 n 8);have h2:=iz_ (IntKind.i64.wrap (n*7));generalize pX_ n=b0 at *;generalize pX_ (iS_ .i64 n 8)=b1 at *;generalize pX_ (IntKind.i64.wrap (n*7))=b2 at *;have s0:∀ (r:Rt) (b:UInt8),spl (rtc r) 0 [.int .u8 (b.toNat:Int)]=rtc (r.set 0 b):=fun r b=>si_ r (by decide) b
 have s1:∀ (r:Rt) (b:UInt8),spl (rtc r) 1 [.int .u8 (b.toNat:Int)]=rtc (r.set 1 b):=fun r b=>si_ r (by decide) b
 have s2:∀ (r:Rt) (b:UInt8),spl (rtc r) 31 [.int .u8 (b.toNat:Int)]=rtc (r.set 31 b):=fun r b=>si_ r (by decide) b
 repeat(first|refine aa_ ?_|simp only[go_sem,h0,h1,h2,s0,s1,s2])
 exact am_
theorem zw_(a b:Int):PC Try.prog 75 [.int .u64 a,.int .u64 b] (.tup [.int .u64 (lS_ a b).1,.int .i64 (lS_ a b).2]):=by
 refine PC.fact 6 vc_ (by simp) puA puA ?_;unfold mX_;refine bd ?_;unfold lS_;try refine aa_ ?_
 refine lB_ (fun h=>?_) (fun h=>?_)
 ·try refine aa_ ?_
  rw[if_pos (by simpa using h)];exact am_
 ·try refine aa_ ?_
  rw[if_neg (by simpa using h)];exact am_
theorem ul_(l:List Int){i:Nat}(h:(dB_ l i).2≠0):∀n,i≤n→dB_ l n=dB_ l i
 |0,hn=>by rw[show i=0 by omega]
 | n + 1, hn => by
   by_cases he:i=n+1
   ·rw[he]
   ·have:=ul_ l h n (by omega);show (if (dB_ l n).2≠0 then dB_ l n else _)=_
    rw[this,if_pos h]
theorem zv_{a b:Int}(h:(lS_ a b).2≠0):lS_ a b=(0,(lS_ a b).2):=by
 unfold lS_ at *;split at h
 ·rw[if_pos (by assumption)]
 ·exact absurd rfl h
theorem yQ_(l:List Int)(c:Bool)(hb:l.length≤1000000):PC Try.prog 48 [.sl 1 c (au_ .u64 l)] (.tup [.int .u64 (mx_ l).1,.int .i64 (mx_ l).2]):=by
 refine PC.fact 8 vd_ (by simp) puA puA ?_;unfold mY_;refine bd ?_;try refine aa_ ?_
 refine aE_ (fun i:Nat=>[(5,.int .i64 i),(4,.int .u64 (dB_ l i).1)]) (fun _=>[]) (fun i=>l.length-i) (fun i=>i≤l.length∧(dB_ l i).2=0) 0 ⟨Nat.zero_le _,rfl⟩ ?_ ?_
 ·exact GH_ [] []
 rintro i ⟨hi,he⟩;by_cases h1:i<l.length
 ·have e1:decide ((i:Int)<(l.length:Int))=true:=decide_eq_true (by omega)
  have hgd:=gdn (k:=.u64) h1;have hw:=ai_ h1 (by omega);have c1:=zw_ (dB_ l i).1 (l.getD i 0);have hs:dB_ l (i+1)=lS_ (dB_ l i).1 (l.getD i 0):=by show (if (dB_ l i).2≠0 then dB_ l i else _)=_;rw[if_neg (by simp[he])]
  rw[←hs]at c1;repeat(first|refine aa_ ?_|simp only[go_sem,e1])
  refine ab_ ?_;repeat(first|refine aa_ ?_|simp only[go_sem,hgd,Nat.mul_one])
  refine FZ_ c1 ?_
  refine lB_ (fun h=>?_) (fun h=>?_)
  ·have h':(dB_ l (i+1)).2≠0:=by simpa using h
   have hE:mx_ l=dB_ l (i+1):=ul_ l h' _ h1;rw[hE];have h2:=zv_ (by rw[←hs];exact h');rw[←hs]at h2;try refine aa_ ?_
   generalize dB_ l (i+1)=q at *;obtain⟨q1,q2⟩:=q;cases h2;exact am_
  ·have h':(dB_ l (i+1)).2=0:=by simpa using h
   repeat(first|refine aa_ ?_|simp only[go_sem,hw])
   refine⟨i+1,⟨h1,h'⟩,by omega,?_⟩;exact GH_ [] []
 ·obtain rfl:i=l.length:=by omega
  have e1:decide ((l.length:Int)<(l.length:Int))=false:=decide_eq_false (by omega);repeat(first|refine aa_ ?_|simp only[go_sem,e1])
  refine EA_ ?_
  rw[show mx_ l=dB_ l l.length from rfl,he];exact am_
theorem zm_(t:as_)(n:Int)(hb:t.bals.length≤1000000):PC Try.prog 16 [.agg (bj_ t.a),.int .i64 n] (.int .i64 (dD_ t n)):=by
 refine PC.fact 7 hZ_ (by simp) puA puA ?_;unfold eF_;refine bd ?_;have c1:=yQ_ t.bals false hb;unfold dD_;generalize mx_ t.bals=q at *;obtain⟨q1,q2⟩:=q;dsimp only at c1 ⊢;try refine aa_ ?_
 refine lB_ (fun h=>?_) (fun h=>?_)
 ·rw[if_pos (by simpa using h)];try refine aa_ ?_
  exact am_
 ·rw [if_neg (by simpa using h)]
  try refine aa_ ?_
  refine aA_ c1 ?_;by_cases h2:q2=0
  ·subst h2
   by_cases h3:4611686018427387904<q1
   ·have e3:decide (4611686018427387904<q1)=true:=decide_eq_true h3;rw[if_pos (.inr h3)];repeat(first|refine aa_ ?_|simp only[go_sem,e3])
    refine EB_ ?_
    exact am_
   ·have e3:decide (4611686018427387904<q1)=false:=decide_eq_false h3;rw[if_neg (by simpa using h3)];repeat(first|refine aa_ ?_|simp only[go_sem,e3])
    refine EA_ ?_
    exact am_
  ·have e2:(q2 != 0)=true:=by simpa using h2
   rw[if_pos (.inl h2)];repeat(first|refine aa_ ?_|simp only[go_sem,e2])
   refine EB_ ?_
   exact am_
theorem uQ_(t:as_)(hb:t.bals.length≤1000000):PC Try.prog 18 [.agg (bj_ t.a)] (.agg (bj_ t.a)):=by
 refine PC.fact 3 ld_ (by simp) puA puA ?_;unfold gC_;refine bd ?_;obtain⟨cp,bals⟩:=t;dsimp only at hb;have b1:(bals.length:Int)*8≤140737488355328:=by omega
 have b2:bals.length≤9223372036854775807:=by omega
 unfold as_.a;repeat(first|refine aa_ ?_|simp only[go_sem,b1,b2])
 exact am_
theorem xq_(ep:Int)(root:Rt)(l:List Int)(i:Nat)(p:List Vot×Int):(kq_ ep root l i p).1.length=p.1.length:=by unfold kq_;split<;>simp
theorem kr_(ep:Int)(root:Rt)(l:List Int)(v:List Vot):∀i,(bd_ (kq_ ep root l) (v,0) i).1.length=v.length
 |0=>rfl
 |i+1=>by rw[dq_,xq_,kr_ ep root l v i]
def Cz_(l:List Int)(i:Nat)(o:List Int):List Int:=vh_ o (l.getD i 0)
def CA_(set l:List Int):List Int:=bd_ (Cz_ l) set l.length
theorem wM_(set l:List Int):∀i,(bd_ (Cz_ l) set i).length≤set.length+i
 |0=>Nat.le_refl _
 |i+1=>by rw[dq_];have:=ty_ (bd_ (Cz_ l) set i) (l.getD i 0);have:=wM_ set l i;unfold Cz_ at *;omega
end Go.Proofs.Ytkgimpdgncakjaa
