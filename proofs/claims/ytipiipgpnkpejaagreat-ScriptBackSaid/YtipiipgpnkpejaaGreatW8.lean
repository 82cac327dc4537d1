/-
 My texts Eb, Ec, Ea, Ed, Ee, Ef, Eh, Eg, Ei, joined.
-/
import Derived.Test.YtipiipgpnkpejaaGreatW7
import Derived.Test.YtipiipgpnkpejaaGreatW4
import Derived.Test.YtipiipgpnkpejaaGreatW3
namespace Go.Proofs.YtipiipgpnkpejaaGreat
open Go Go.FH
set_option linter.unusedVariables false
set_option linter.unusedSimpArgs false
abbrev srd(cl:Bool)(p bs:List UInt8)(e:Int):br_:=.var [.sl 1 cl (bts (p++bs)),.int .i64 p.length,.int .i64 e]
theorem Ew_{p bs:List UInt8}{i:Nat}(h:i<bs.length):(bts (p++bs)).getD (p.length+i) []=[.int .u8 (bs[i].toNat:Int)]:=by
 rw[iI_ (by rw[List.length_append];omega),List.getElem_append_right (by omega)];simp only[Nat.add_sub_cancel_left]
theorem AU_(B:List UInt8)(cl:Bool)(a x:Int):ar_ Tryz.prog 120 [.ptr 0 0,.int .i64 x] [.var [.sl 1 cl (bts B),.int .i64 a,.int .i64 0]] (.tup []) [.var [.sl 1 cl (bts B),.int .i64 a,.int .i64 x]]:=by
 refine ar_.fact 4 pv_ (by simp) ?_ (by simp);unfold iv_;refine bd ?_;try refine aa_ ?_
 refine Rf_ ?_
 exact Sg_ [] [0]
theorem iX_(p bs:List UInt8)(cl:Bool)(x:Int):ar_ Tryz.prog 120 [.ptr 0 0,.int .i64 x] [srd cl p bs 0] (.tup []) [srd cl p bs x]:=AU_ _ _ _ _
theorem KU_ (p bs : List UInt8) (cl : Bool) (hb : (p ++ bs).length ≤ 140737488355328) :
 ar_ Tryz.prog 119 [.ptr 0 0] [srd cl p bs 0] (.tup [.int .u64 (dY_ bs).1,.int .i64 ((p.length+(dY_ bs).2.1:Nat):Int)]) [srd cl p bs (dY_ bs).2.2]:=by
 refine ar_.fact 10 qO_ (by simp) ?_ (by simp);unfold jq_;refine bd ?_;rw[List.length_append]at hb;have hr:dY_ bs=dw_ (bs.take 10) 0 0:=rfl;generalize dY_ bs=r at *;try refine aa_ ?_
 refine bF_ (fun x:Nat×Int=>⟨10,[.ptr 0 0,.dead,.int .u64 0,.int .i64 0,.int .u64 x.2,.int .i64 x.1,.dead,.dead,.dead,.dead],[]⟩) (fun _=>[srd cl p bs 0]) (fun x=>10-x.1)
  (fun x=>x.1≤9∧dw_ ((bs.take 10).drop x.1) x.1 x.2=r) (0,0) ⟨by simp,hr.symm⟩ ?_ ?_
 ·exact Sn_ [] [0]
 rintro⟨i,v⟩ ⟨h1,h2⟩;dsimp only at h1 h2 ⊢;have hi10:decide ((i:Int)<10)=true:=by rw[decide_eq_true_eq];omega
 have hwa:IntKind.i64.wrap ((p.length:Int)+(i:Int))=((p.length+i:Nat):Int):=by rw[ai_ (by omega) (by omega)];omega
 repeat(first|refine aa_ ?_|simp only[go_sem,hi10])
 refine ac_ ?_ (by(try simp only[go_sem,hi10]);try exact evd);by_cases hi:i<bs.length
 ·have hc : decide (((p.length + bs.length : Nat) : Int) ≤ ((p.length + i : Nat) : Int)) = false := by rw [decide_eq_false_iff_not]; omega
  have hit:i<(bs.take 10).length:=by rw[List.length_take];omega
  have hge:(bs.take 10)[i]=bs[i]:=List.getElem_take;rw[wR_ hit,hge]at h2;have hw1:IntKind.i64.wrap (7*(i:Int))=((7*i:Nat):Int):=by rw[ai_ (by omega) (by omega)];omega
  have hw3:IntKind.u64.wrap ((7*i:Nat):Int)=((7*i:Nat):Int):=aH_ (by omega) (by omega);have hw2:IntKind.i64.wrap ((i:Int)+1)=((i+1:Nat):Int):=ag_ (n:=11) (by omega) (by omega);have hw4:IntKind.i64.wrap (((p.length+i:Nat):Int)+1)=((p.length+(i+1):Nat):Int):=by rw[ai_ (by omega) (by omega)];omega
  have hgd:=Ew_ (p:=p) hi;repeat(first|refine aa_ ?_|simp only[go_sem,hwa,hc])
  refine ab_ ?_ (by(try simp only[go_sem,hc]);try exact evd);by_cases hA:i=9∧1<bs[i].toNat
  ·have h9':(((i:Nat):Int)==9)=true:=by simp[hA.1]
   have hb':decide ((1:Int)<(bs[i].toNat:Int))=true:=by have:=hA.2;simp;omega
   rw[if_pos hA]at h2;subst h2;repeat(first|refine aa_ ?_|simp only[go_sem,hwa,hgd,h9',hb'])
   refine au_ rfl (fun h=>?_) (fun h=>by cases h);try refine aa_ ?_
   refine am_ [0] (iX_ p bs cl 2) evd (aj_.mk' (by simp) evd) ?_;refine evg ?_;try refine aa_ ?_
   exact Sg_ [] [0]
  ·rw [if_neg hA] at h2
   have hcc:(i=9∧¬1<bs[i].toNat)∨i≠9:=by omega
   rcases hcc with⟨h9,hb0⟩|h9
   all_goals
    first
     | (have h9' : (((i : Nat) : Int) == 9) = true := (by simp [h9])
        have hb':decide ((1:Int)<(bs[i].toNat:Int))=false:=(by simp;omega);repeat(first|refine aa_ ?_|simp only[go_sem,hwa,hgd,h9',hb']))
     | (have h9' : (((i : Nat) : Int) == 9) = false := (by simp; omega)
        repeat(first|refine aa_ ?_|simp only[go_sem,hwa,hgd,h9']))
    refine au_ rfl (fun h=>by cases h) (fun h=>?_);repeat(first|refine aa_ ?_|simp only[go_sem,hw1,hw3])
    refine au_ evd (fun h=>?_) (fun h=>?_)
    ·have hb8:bs[i].toNat<128:=by simp at h;omega
     rw[if_pos hb8]at h2;by_cases hz:bs[i].toNat=0
     ·have hz':((bs[i].toNat:Int)==0)=true:=by simp[hz]
      repeat(first|refine aa_ ?_|simp only[go_sem,hz'])
      refine au_ evd (fun h=>?_) (fun h=>?_)
      ·rw[if_pos ⟨hz,by simpa using h⟩]at h2;subst h2;try refine aa_ ?_
       refine am_ [0] (iX_ p bs cl 2) evd (aj_.mk' (by simp) evd) ?_;refine evg ?_;try refine aa_ ?_
       exact Sg_ [] [0]
      ·rw[if_neg (fun hh=>by have:=hh.2;simp at h;omega)]at h2;subst h2;repeat(first|refine aa_ ?_|simp only[go_sem,hwa,hw4])
       exact Sg_ [] [0]
     ·have hz':((bs[i].toNat:Int)==0)=false:=by simp;omega
      rw[if_neg (fun hh=>hz hh.1)]at h2;subst h2;repeat(first|refine aa_ ?_|simp only[go_sem,hz'])
      refine au_ rfl (fun h=>by cases h) (fun h=>?_);repeat(first|refine aa_ ?_|simp only[go_sem,hwa,hw4])
      exact Sg_ [] [0]
    ·have hb8:¬bs[i].toNat<128:=by simp at h;omega
     rw[if_neg hb8]at h2;repeat(first|refine aa_ ?_|simp only[go_sem,hw2])
     refine⟨(i+1,lV_ v bs[i] i),⟨by dsimp only;omega,h2⟩,by dsimp only;omega,?_⟩;exact Sn_ [] [0]
 ·have hc:decide (((p.length+bs.length:Nat):Int)≤((p.length+i:Nat):Int))=true:=by rw[decide_eq_true_eq];omega
  have hn:(bs.take 10).drop i=[]:=List.drop_eq_nil_of_le (by rw[List.length_take];omega);rw[hn,dw_]at h2;subst h2;repeat(first|refine aa_ ?_|simp only[go_sem,hwa,hc])
  refine ac_ ?_ (by(try simp only[go_sem,hc]);try exact evd);try refine aa_ ?_
  refine am_ [0] (iX_ p bs cl 5) evd (aj_.mk' (by simp) evd) ?_;refine evg ?_;try refine aa_ ?_
  exact Sg_ [] [0]
abbrev sro(cl:Bool)(B b:List UInt8)(e:Int):br_:=.var [.sl 1 cl (bts B),.int .i64 ((B.length-b.length:Nat):Int),.int .i64 e]
theorem pD_(p b:List UInt8):(p++b).length-b.length=p.length:=by simp
theorem pQ_(cl:Bool)(p b:List UInt8)(e:Int):sro cl (p++b) b e=srd cl p b e:=by rw[sro,pD_]
theorem FA_(cl:Bool)(p b:List UInt8)(e:Int){d:Nat}(h:d≤b.length):sro cl (p++b) (b.drop d) e=.var [.sl 1 cl (bts (p++b)),.int .i64 ((p.length+d:Nat):Int),.int .i64 e]:=by
 rw[sro,show (p++b).length-(b.drop d).length=p.length+d by rw[List.length_append,List.length_drop];omega]
theorem bx_(bs:List UInt8)(e m:Int):(ap_ bs e m).2.1 <:+ bs:=by
 unfold ap_;(repeat' split)<;>first|exact List.suffix_refl _|exact List.drop_suffix _ _
theorem eh_(bs:List UInt8)(e:Int):(bc_ bs e).2.1 <:+ bs:=by
 unfold bc_;(repeat' split)<;>first|exact List.suffix_refl _|exact List.drop_suffix _ _
theorem cl_(B b:List UInt8)(cl:Bool)(e m:Int)(hs:b <:+ B)(hb:B.length≤140737488355328):
 ar_ Tryz.prog 87 [.ptr 0 0,.int .u64 m] [sro cl B b e] (.int .u64 (ap_ b e m).1) [sro cl B (ap_ b e m).2.1 (ap_ b e m).2.2]:=by
 obtain⟨p,rfl⟩:=hs;refine ar_.fact 7 pt_ (by simp) ?_ (by simp);have hl:=Ix_ b;unfold it_ ap_;refine bd ?_;rw[pQ_];by_cases he:e=0
 ·subst he
  simp only[ne_eq,not_true_eq_false,if_false];have hw:=KU_ p b cl hb;generalize hR:dY_ b=R at *;obtain⟨u,d,x⟩:=R;dsimp only at hw hl ⊢;try refine aa_ ?_
  refine Re_ ?_
  refine am_ [0] (hw) evd (aj_.mk' (by simp) evd) ?_;refine evg ?_;try refine aa_ ?_
  by_cases hx:x=0
  ·subst hx
   simp only[if_true];refine Re_ ?_
   refine au_ evd (fun h=>?_) (fun h=>?_)
   ·have hm:m<u:=by simpa using h
    rw[if_pos hm,pQ_];try refine aa_ ?_
    refine am_ [0] (iX_ p b cl 3) evd (aj_.mk' (by simp) evd) ?_;refine evg ?_;try refine aa_ ?_
    exact Sg_ [] [0]
   ·have hm:¬m<u:=by simpa using h
    rw[if_neg hm,FA_ _ _ _ _ hl];try refine aa_ ?_
    exact Sg_ [] [0]
  ·have hx':(x != 0)=true:=by simpa using hx
   rw[if_neg hx,pQ_];refine ac_ ?_ (by(try simp only[go_sem,hx']);try exact evd);try refine aa_ ?_
   exact Sg_ [] [0]
 ·have he':(e != 0)=true:=by simpa using he
  simp only[ne_eq,he,not_false_eq_true,if_true];rw[pQ_];try refine aa_ ?_
  refine ac_ ?_ (by(try simp only[go_sem,he']);try exact evd);try refine aa_ ?_
  exact Sg_ [] [0]
def lU_(b:List UInt8)(e:Int)(n:Nat):List UInt8×List UInt8×Int:=if e≠0 then ([],b,e)else if b.length<n then ([],b,5)else (b.take n,b.drop n,0)
theorem xe_(B b:List UInt8)(e:Int)(n:Nat)(hs:b <:+ B)(hb:B.length≤140737488355328)(hn:n≤140737488355328):
 ar_ Tryz.prog 121 [.ptr 0 0,.int .i64 n] [sro false B b e] (.sl 1 false (bts (lU_ b e n).1)) [sro false B (lU_ b e n).2.1 (lU_ b e n).2.2]:=by
 obtain⟨p,rfl⟩:=hs;refine ar_.fact 6 pw_ (by simp) ?_ (by simp);unfold iw_ lU_;refine bd ?_;rw[pQ_];rw[List.length_append]at hb;by_cases he:e=0
 ·subst he
  simp only[ne_eq,not_true_eq_false,if_false];have hw1:IntKind.i64.wrap (((p.length+b.length:Nat):Int)-(p.length:Int))=(b.length:Int):=by rw[ai_ (by omega) (by omega)];omega
  have hw2:IntKind.i64.wrap ((p.length:Int)+(n:Int))=((p.length+n:Nat):Int):=by rw[ai_ (by omega) (by omega)];omega
  try refine aa_ ?_
  refine ab_ ?_;repeat(first|refine aa_ ?_|simp only[go_sem,hw1])
  refine au_ evd (fun h=>?_) (fun h=>?_)
  ·have hm:b.length<n:=by simp at h;omega
   rw[if_pos hm,pQ_];try refine aa_ ?_
   refine am_ [0] (iX_ p b false 5) evd (aj_.mk' (by simp) evd) ?_;refine evg ?_;try refine aa_ ?_
   refine gk_ [] [0] _ (by simp) (by first|rfl|exact evd) (by simp) rfl (by simp) (by simp) evd evd (Wk.empty 0 1 _)
  ·have hm:¬b.length<n:=by simp at h;omega
   rw[if_neg hm,FA_ _ _ _ _ (by omega)];have e1:List.take (p.length+n-p.length) (List.drop p.length (p++b))=List.take n b:=by rw[List.drop_left,Nat.add_sub_cancel_left]
   repeat(first|refine aa_ ?_|simp only[go_sem,hw2,e1])
   exact Sg_ [] [0]
 ·have he':(e != 0)=true:=by simpa using he
  simp only[ne_eq,he,not_false_eq_true,if_true];rw[pQ_];try refine aa_ ?_
  refine ac_ ?_ (by(try simp only[go_sem,he']);try exact evd);try refine aa_ ?_
  refine gk_ [] [0] _ (by simp) (by first|rfl|exact evd) (by simp) rfl (by simp) (by simp) evd evd (Wk.empty 0 1 _)
theorem Hw_(B b:List UInt8)(e:Int)(hs:b <:+ B)(hb:B.length≤140737488355328):
 ar_ Tryz.prog 118 [.ptr 0 0] [sro false B b e] (.bool (ep_ b e).1) [sro false B (ep_ b e).2.1 (ep_ b e).2.2]:=by
 refine ar_.fact 5 pr_ (by simp) ?_ (by simp);have ht:=xe_ B b e 1 hs hb (by omega);unfold ir_ ep_;refine bd ?_;unfold lU_ at ht;simp only[sro]at ht ⊢;by_cases he:e=0
 ·subst he
  simp only[ne_eq,not_true_eq_false,if_false]at ht ⊢;cases b with
  | nil =>
    simp only[List.length_nil,Nat.zero_lt_one,if_true]at ht ⊢;try refine aa_ ?_
    refine am_ [0] (ht) evd (aj_.mk' (by simp) evd) ?_;refine evg ?_;try refine aa_ ?_
    refine Rf_ ?_
    exact Sg_ [] [0]
  | cons x r =>
    rw[if_neg (by simp)]at ht;have e1:(x::r).take 1=[x]:=rfl;have e2:(x::r).drop 1=r:=rfl;rw[e1,e2]at ht;dsimp only at ht ⊢;have h0:0 < [x].length:=by simp
    have hg:=iI_ h0;rw[List.getElem_cons_zero]at hg;by_cases h1:1<x.toNat
    ·have h1':decide ((1:Int)<(x.toNat:Int))=true:=by rw[decide_eq_true_eq];omega
     rw[if_pos h1];dsimp only;generalize ((B.length-(x::r).length:Nat):Int)=A at *;try refine aa_ ?_
     refine am_ [0] (ht) evd (aj_.mk' (by simp) evd) ?_;refine evg ?_;try refine aa_ ?_
     refine ab_ ?_;repeat(first|refine aa_ ?_|simp only[go_sem,hg])
     refine ac_ ?_ (by(try simp only[go_sem,h1']);try exact evd);try refine aa_ ?_
     refine am_ [0] (AU_ B false A 2) evd (aj_.mk' (by simp) evd) ?_;refine evg ?_;try refine aa_ ?_
     exact Sg_ [] [0]
    ·have h1':decide ((1:Int)<(x.toNat:Int))=false:=by rw[decide_eq_false_iff_not];omega
     rw[if_neg h1];dsimp only;generalize ((B.length-(x::r).length:Nat):Int)=A at *;try refine aa_ ?_
     refine am_ [0] (ht) evd (aj_.mk' (by simp) evd) ?_;refine evg ?_;try refine aa_ ?_
     refine ab_ ?_;repeat(first|refine aa_ ?_|simp only[go_sem,hg])
     refine ab_ ?_ (by(try simp only[go_sem,h1']);try exact evd);repeat(first|refine aa_ ?_|simp only[go_sem,hg])
     exact Sg_ [] [0]
 ·have he':(e != 0)=true:=by simpa using he
  simp only[ne_eq,he,not_false_eq_true,if_true]at ht ⊢;try refine aa_ ?_
  refine am_ [0] (ht) evd (aj_.mk' (by simp) evd) ?_;refine evg ?_;try refine aa_ ?_
  refine ac_ ?_ (by(try simp only[go_sem,he']);try exact evd);try refine aa_ ?_
  exact Sg_ [] [0]
theorem up_(b:Rt):PC Tryz.prog 141 [.agg (rtc b)] (.agg (wdc (wof b))):=by
 refine PC.fact 5 sb_ (by simp) ⟨ci_ b,trivial⟩ (Bi_ (eH_ _)) ?_;unfold kq_;refine bd ?_;try refine aa_ ?_
 refine dn_ (fun i:Nat=>⟨5,[.agg (rtc b),.ptr 0 0,.ptr 1 0,.ptr 2 0,.int .i64 i],[]⟩) (fun i=>[.var (rtc b),.var (wdc wd0),.var (wdc (gm_ b i))]) (fun i=>32-i) (fun i=>i≤32) [] 0 (by omega) evd (by rw[uL_]) ?_;intro i hi;try dsimp only
 try refine aa_ ?_
 refine au_ evd (fun h=>?_) (fun h=>?_)
 ·have h1:i<32:=by simp at h;omega
  have s1:∀x:Int,spl (wdc (gm_ b i)) (i / 8) [.int .u64 x]=wdc ((gm_ b i).set (i / 8) x):=fun x=>gE_ _ (by omega) x
  repeat(first|refine aa_ ?_|simp only[go_sem,Nat.mul_one,ix1 h1,ix2 h1,ix3 i,ix4 i,ix5 h1,ix6 i,ix7,qy_ (gm_ b i) (show i / 8<4 by omega),DR_ b (show 31-i<32 by omega),s1])
  exact⟨i+1,h1,by omega,rfl,by rw[uM_];rfl⟩
 ·have h1:i=32:=by simp at h;omega
  subst h1;try refine aa_ ?_
  exact ah_
def qw_(t:List UInt8)(k:Nat):Rt:=if h:k=0 then rt0 else (qw_ t (k-1)).set (k-1) (t.getD (k-1) 0)
termination_by k
decreasing_by omega
theorem LW_(t:List UInt8):qw_ t 0=rt0:=by rw[qw_,dif_pos rfl]
theorem LY_(t:List UInt8)(i:Nat):qw_ t (i+1)=(qw_ t i).set i (t.getD i 0):=by rw[qw_,dif_neg (by omega)];rfl
theorem DQ_(t:List UInt8):∀ (k i:Nat),k≤32→i<k→(qw_ t k).1.getD i 0=t.getD i 0
 |0,i,_,h=>by omega
 | k + 1, i, hk, h => by
   have hl:=(qw_ t k).2;simp only[LY_,Rt.set,List.getD_eq_getElem?_getD,List.getElem?_set];by_cases hi:i=k
   ·subst hi;rw[if_pos rfl,if_pos (by omega)];rfl
   ·rw[if_neg (by omega)];have:=DQ_ t k i (by omega) (by omega);rwa [List.getD_eq_getElem?_getD,List.getD_eq_getElem?_getD]at this
theorem LX_(t:List UInt8)(h:t.length=32):qw_ t 32=Hd_ t:=by
 apply Subtype.ext
 rw[wm_ h];have h1:=(qw_ t 32).2;apply List.ext_getElem (by omega)
 intro i hi1 hi2;have:=DQ_ t 32 i (by omega) (by omega);rwa [List.getD_eq_getElem?_getD,List.getElem?_eq_getElem hi1,List.getD_eq_getElem?_getD,List.getElem?_eq_getElem hi2]at this
theorem dQ_(B b:List UInt8)(e:Int)(hs:b <:+ B)(hb:B.length≤140737488355328):
 ar_ Tryz.prog 88 [.ptr 0 0] [sro false B b e] (.agg (rtc (bc_ b e).1)) [sro false B (bc_ b e).2.1 (bc_ b e).2.2]:=by
 refine ar_.fact 6 ps_ (by simp) ?_ (by simp);have ht:=xe_ B b e 32 hs hb (by omega)
 have key:bc_ b e=(if (lU_ b e 32).1=[]then rt0 else Hd_ (lU_ b e 32).1,(lU_ b e 32).2)∧((lU_ b e 32).1=[]∨(lU_ b e 32).1.length=32):=by
  unfold bc_ lU_;by_cases he:e=0
  ·by_cases hl:b.length<32
   ·simp[he,hl]
   ·have:b.take 32≠[]:=fun h=>by have:=congrArg List.length h;rw[List.length_take]at this;simp only[List.length_nil]at this;omega
    simp only[he,hl,ne_eq,not_true_eq_false,if_false,this,false_or,true_and];rw[List.length_take];omega
  ·simp[he]
 obtain⟨k1,k2⟩:=key;rw[k1];generalize lU_ b e 32=T at *;obtain⟨t,b2,e2⟩:=T;dsimp only at ht k2 ⊢;simp only[sro]at ht ⊢;generalize ((B.length-b.length:Nat):Int)=A at *;generalize ((B.length-b2.length:Nat):Int)=A2 at *;unfold is_;refine bd ?_;try refine aa_ ?_
 refine am_ [0] (ht) evd (aj_.mk' (by simp) evd) ?_;refine evg ?_;try refine aa_ ?_
 have hk:t.length≤32:=by
  rcases k2 with h|h
  ·rw[h];simp
  ·omega
 refine dn_ (fun i:Nat=>⟨6,[.ptr 0 0,.dead,.ptr 1 0,.ptr 2 0,.sl 1 false (bts t),.int .i64 i],[]⟩) (fun i=>[.var [.sl 1 false (bts B),.int .i64 A2,.int .i64 e2],.var (rtc rt0),.var (rtc (qw_ t i))]) (fun i=>t.length-i) (fun i=>i≤t.length) [] 0 (by omega) evd (by rw[LW_]) ?_;intro i hi;try dsimp only
 try refine aa_ ?_
 refine au_ evd (fun h=>?_) (fun h=>?_)
 ·have h1:i<t.length:=by simp at h;omega
  have hgd:(bts t).getD i []=[.int .u8 ((t.getD i 0).toNat:Int)]:=by rw[iI_ h1,List.getD_eq_getElem?_getD,List.getElem?_eq_getElem h1];rfl
  have s1:∀b:UInt8,spl (rtc (qw_ t i)) i [.int .u8 b.toNat]=rtc ((qw_ t i).set i b):=fun b=>nQ_ _ (by omega) b
  have hw:=ag_ h1 (by omega);repeat(first|refine aa_ ?_|simp only[go_sem,Nat.mul_one,hgd,s1,hw])
  exact⟨i+1,h1,by omega,rfl,by rw[LY_]⟩
 ·have h1:i=t.length:=by simp at h;omega
  subst h1
  have hf:qw_ t t.length=if t=[]then rt0 else Hd_ t:=by
   rcases k2 with h|h
   ·subst h;rw[if_pos rfl];exact LW_ _
   ·rw[if_neg (fun hh=>by rw[hh]at h;cases h),h];exact LX_ t h
  rw[←hf];try refine aa_ ?_
  exact Sg_ [] [0]
theorem xm_(B b:List UInt8)(e:Int)(hs:b <:+ B)(hb:B.length≤140737488355328):
 ar_ Tryz.prog 117 [.ptr 0 0] [sro false B b e] (.agg (wdc (er_ b e).1)) [sro false B (er_ b e).2.1 (er_ b e).2.2]:=by
 refine ar_.fact 4 pu_ (by simp) ?_ (by simp);have ht:=dQ_ B b e hs hb;unfold iu_ er_;refine bd ?_;generalize bc_ b e=T at *;obtain⟨t,b2,e2⟩:=T;dsimp only at ht ⊢;simp only[sro]at ht ⊢;generalize ((B.length-b.length:Nat):Int)=A at *;generalize ((B.length-b2.length:Nat):Int)=A2 at *;try refine aa_ ?_
 refine am_ [0] (ht) evd (aj_.mk' (by simp) evd) ?_;refine evg ?_;try refine aa_ ?_
 refine RV_ (up_ _) ?_
 exact Sg_ [] [0]
theorem np_(B b:List UInt8)(e:Int)(hs:b <:+ B)(hb:B.length≤140737488355328):
 ar_ Tryz.prog 89 [.ptr 0 0] [sro false B b e] (.agg (cpC (rCp b e).1)) [sro false B (rCp b e).2.1 (rCp b e).2.2]:=by
 refine ar_.fact 6 jU_ (by simp) ?_ (by simp);have hu:=cl_ B b false e bh_ hs hb;have h1:=bx_ b e bh_;have hr:=dQ_ B _ (ap_ b e bh_).2.2 (h1.trans hs) hb;unfold fc_ rCp;refine bd ?_;generalize ap_ b e bh_=U at *;obtain⟨u,b1,e1⟩:=U;dsimp only at hu hr h1 ⊢;generalize bc_ b1 e1=R at *;obtain⟨r,b2,e2⟩:=R;dsimp only at hr ⊢;simp only[sro]at hu hr ⊢;by_cases he:e2=0
 ·subst he;simp only[ne_eq,not_true_eq_false,if_false];generalize ((B.length-b.length:Nat):Int)=A at *;generalize ((B.length-b1.length:Nat):Int)=A1 at *;generalize ((B.length-b2.length:Nat):Int)=A2 at *;try refine aa_ ?_
  refine am_ [0] (hu) evd (aj_.mk' (by simp) evd) ?_;refine evg ?_;try refine aa_ ?_
  refine am_ [0] (hr) evd (aj_.mk' (by simp) evd) ?_;refine evg ?_;try refine aa_ ?_
  refine Re_ ?_
  exact Sg_ [] [0]
 ·have he':(e2 != 0)=true:=by simpa using he
  simp only[ne_eq,he,not_false_eq_true,if_true];generalize ((B.length-b.length:Nat):Int)=A at *;generalize ((B.length-b1.length:Nat):Int)=A1 at *;generalize ((B.length-b2.length:Nat):Int)=A2 at *;try refine aa_ ?_
  refine am_ [0] (hu) evd (aj_.mk' (by simp) evd) ?_;refine evg ?_;try refine aa_ ?_
  refine am_ [0] (hr) evd (aj_.mk' (by simp) evd) ?_;refine evg ?_;try refine aa_ ?_
  refine ac_ ?_ (by(try simp only[go_sem,he']);try exact evd);try refine aa_ ?_
  exact Sg_ [] [0]
def kS_(l:List Int)(n:Int)(i:Nat):Int:=
 if i<l.length then (if l.getD i 0<0∨n≤l.getD i 0 then 3 else if 0<i∧l.getD i 0≤l.getD (i-1) 0 then 8 else kS_ l n (i+1))else 0
termination_by l.length-i
def bt_(l:List Int)(n:Int):Int:=if l=[]then 2 else kS_ l n 0
theorem lu_{l:List Int}{n:Int}{i:Nat}(h:i<l.length):kS_ l n i=if l.getD i 0<0∨n≤l.getD i 0 then 3 else if 0<i∧l.getD i 0≤l.getD (i-1) 0 then 8 else kS_ l n (i+1):=by
 rw[kS_,if_pos h]
theorem sP_{l:List Int}{n:Int}{i:Nat}(h:¬i<l.length):kS_ l n i=0:=by rw[kS_,if_neg h]
def dD_(l:List Int)(i:Nat):Int:=if i=0 then l.getD 0 0 else l.getD i 0-(l.getD (i-1) 0+1)
def fT_(l:List Int)(i:Nat):List UInt8:=if i<l.length then aJ_ (dD_ l i).toNat++fT_ l (i+1)else []
termination_by l.length-i
theorem iN_{l:List Int}{i:Nat}(h:i<l.length):fT_ l i=aJ_ (dD_ l i).toNat++fT_ l (i+1):=by rw[fT_,if_pos h]
theorem nD_{l:List Int}{i:Nat}(h:¬i<l.length):fT_ l i=[]:=by rw[fT_,if_neg h]
theorem sr_(l:List Int)(i:Nat)(hi:i≤l.length):l.length-i≤(fT_ l i).length:=by
 by_cases h:i<l.length
 ·rw[iN_ h,List.length_append];have:=sr_ l (i+1) h;have:=rH_ (dD_ l i).toNat
  omega
 ·omega
termination_by l.length-i
def jd_(l:List Int):List UInt8:=aJ_ l.length++fT_ l 0
theorem FM_{l:List Int}{n:Int}:∀ (k i:Nat),l.length-i=k→kS_ l n i=0→∀j,i≤j→j<l.length→0≤l.getD j 0∧l.getD j 0<n∧(0<j→l.getD (j-1) 0<l.getD j 0)
 |0,i,hk,h,j,h1,h2=>by omega
 | k + 1, i, hk, h, j, h1, h2 => by
   rw[lu_ (by omega)]at h;split at h
   ·cases h
   ·rename_i ha
    split at h
    ·cases h
    ·rename_i hb
     by_cases hj:j=i
     ·subst hj;refine⟨by omega,by omega,fun h0=>?_⟩;have:=not_and.1 hb h0;omega
     ·exact FM_ k (i+1) (by omega) h j (by omega) h2
theorem fZ_{l:List Int}{n:Int}(h:bt_ l n=0):l≠[]∧∀j,j<l.length→0≤l.getD j 0∧l.getD j 0<n∧(0<j→l.getD (j-1) 0<l.getD j 0):=by
 unfold bt_ at h;split at h
 ·cases h
 ·rename_i h0;exact⟨h0,fun j hj=>FM_ _ 0 rfl h j (by omega) hj⟩
theorem nR_{l:List Int}{n:Int}(h:bt_ l n=0){j:Nat}(hj:j<l.length):0≤dD_ l j∧dD_ l j<n:=by
 have h1:=(fZ_ h).2 j hj;unfold dD_;split
 ·subst_vars;exact⟨h1.1,h1.2.1⟩
 ·have h2:=h1.2.2 (by omega);have h3:=(fZ_ h).2 (j-1) (by omega);omega
def gY_:Nat→Int→List Int→List UInt8→Int→List Int×List UInt8×Int
 |0,_,acc,bs,e=>(acc,bs,e)
 |n+1,last,acc,bs,e=>if e≠0 then (acc,bs,e)else gY_ n (last+1+(ap_ bs e 1024).1) (acc++[last+1+(ap_ bs e 1024).1]) (ap_ bs e 1024).2.1 (ap_ bs e 1024).2.2
def eq_(bs:List UInt8)(e:Int):List Int×List UInt8×Int:=gY_ (ap_ bs e 1024).1.toNat (-1) [] (ap_ bs e 1024).2.1 (ap_ bs e 1024).2.2
theorem EW_:∀ (n:Nat) (last:Int) (acc:List Int) (bs:List UInt8) (e:Int),(gY_ n last acc bs e).2.1.length≤bs.length
 |0,_,_,bs,_=>Nat.le_refl _
 | n + 1, last, acc, bs, e => by
   rw[gY_];split
   ·exact Nat.le_refl _
   ·exact Nat.le_trans (EW_ _ _ _ _ _) (bX_ bs e 1024)
theorem Aw_(bs:List UInt8)(e:Int):(eq_ bs e).2.1.length≤bs.length:=Nat.le_trans (EW_ _ _ _ _ _) (bX_ bs e 1024)
def oc_:List Int→List UInt8
 | []=>[]
 |x::l=>aJ_ x.toNat++oc_ l
def dr_:Nat→List Int→List UInt8→Int→List Int×List UInt8×Int
 |0,acc,bs,e=>(acc,bs,e)
 |n+1,acc,bs,e=>if e≠0 then (acc,bs,e)else dr_ n (acc++[(ap_ bs e bh_).1]) (ap_ bs e bh_).2.1 (ap_ bs e bh_).2.2
theorem di_{k:IntKind}{ns:List Int}{i:Nat}(h:i<ns.length):(aq_ k ns).getD i []=[.int k (ns.getD i 0)]:=by
 rw[JV_ h,List.getD_eq_getElem?_getD,List.getElem?_eq_getElem h];rfl
theorem lv_(l:List Int)(cl:Bool)(n:Int)(hb:l.length≤140737488355328):PC Tryz.prog 74 [.sl 1 cl (aq_ .i64 l),.int .i64 n] (.int .i64 (bt_ l n)):=by
 refine PC.fact 13 le_ (by simp) ⟨aL_ .i64 l,trivial,trivial⟩ trivial ?_;unfold fI_ bt_;refine bd ?_;by_cases h0:l=[]
 ·subst h0;rw[if_pos rfl];try refine aa_ ?_
  refine Rf_ ?_
  exact ah_
 rw[if_neg h0];have hl:0<l.length:=List.length_pos_iff.2 h0;have hl':((l.length:Int)==0)=false:=by simp;omega
 repeat(first|refine aa_ ?_|simp only[go_sem,hl'])
 refine ab_ ?_ (by(try simp only[go_sem,hl']);try exact evd);try refine aa_ ?_
 refine dn_ (fun i:Nat=>⟨13,[.sl 1 cl (aq_ .i64 l),.int .i64 n,.dead,.dead,.int .i64 0,.dead,.dead,.dead,.dead,.dead,.sl 1 cl (aq_ .i64 l),.int .i64 l.length,.int .i64 i],[]⟩) (fun _=>[]) (fun i=>l.length-i) (fun i=>i≤l.length∧kS_ l n i=kS_ l n 0) [5,6,7,8,9] 0 ⟨by omega,rfl⟩ evd rfl ?_;rintro i ⟨hi,hv⟩;try dsimp only
 try refine aa_ ?_
 refine au_ evd (fun h=>?_) (fun h=>?_)
 ·have h1:i<l.length:=by simp at h;omega
  have hg:=di_ (k:=.i64) h1;have hi':((i:Int)+1)=((i+1:Nat):Int):=by omega
  have hw:=ag_ h1 (by omega);rw[lu_ h1]at hv;generalize hx:l.getD i 0=x at *;by_cases hA:x<0∨n≤x
  ·rw[if_pos hA]at hv
   rw[←hv];by_cases hx0:x<0
   ·have hx0':decide (x<0)=true:=by simpa using hx0
    repeat(first|refine aa_ ?_|simp only[go_sem,hg,hx0'])
    refine Rf_ ?_
    exact ah_
   ·have hx0':decide (x<0)=false:=by simpa using hx0
    have hx1:decide (n≤x)=true:=by rw[decide_eq_true_eq];omega
    repeat(first|refine aa_ ?_|simp only[go_sem,hg,hx0',hx1])
    refine Rf_ ?_
    exact ah_
  ·rw [if_neg hA] at hv
   have hx0':decide (x<0)=false:=by rw[decide_eq_false_iff_not];omega
   have hx1:decide (n≤x)=false:=by rw[decide_eq_false_iff_not];omega
   repeat(first|refine aa_ ?_|simp only[go_sem,hg,hx0',hx1])
   refine ab_ ?_;by_cases hp:0<i
   ·have hp':decide ((0:Int)<(i:Int))=true:=by rw[decide_eq_true_eq];omega
    have hw1:IntKind.i64.wrap ((i:Int)-1)=((i-1:Nat):Int):=by rw[ai_ (by omega) (by omega)];omega
    have hg2:=di_ (k:=.i64) (show i-1<l.length by omega);by_cases hB:x≤l.getD (i-1) 0
    ·have hB':decide (x≤l.getD (i-1) 0)=true:=by simpa using hB
     rw[if_pos ⟨hp,hB⟩]at hv;rw[←hv];repeat(first|refine aa_ ?_|simp only[go_sem,hg,hp',hw1,hg2,hB'])
     refine Rf_ ?_
     exact ah_
    ·have hB':decide (x≤l.getD (i-1) 0)=false:=by simpa using hB
     rw[if_neg (fun hh=>hB hh.2)]at hv;repeat(first|refine aa_ ?_|simp only[go_sem,hg,hp',hw1,hg2,hB'])
     refine ab_ ?_;repeat(first|refine aa_ ?_|simp only[go_sem,hw])
     exact⟨i+1,⟨h1,hv⟩,by omega,rfl⟩
   ·have hp':decide ((0:Int)<(i:Int))=false:=by rw[decide_eq_false_iff_not];omega
    rw[if_neg (fun hh=>hp hh.1)]at hv;repeat(first|refine aa_ ?_|simp only[go_sem,hp'])
    refine ab_ ?_;repeat(first|refine aa_ ?_|simp only[go_sem,hw])
    exact⟨i+1,⟨h1,hv⟩,by omega,rfl⟩
 ·have h1:i=l.length:=by simp at h;omega
  subst h1;rw[←hv,sP_ (by omega)];try refine aa_ ?_
  exact ah_
theorem eC_(l:List Int)(cl:Bool)(n:Int)(hb:l.length≤140737488355328):PC Tryz.prog 39 [.sl 1 cl (aq_ .i64 l),.int .i64 n] (.int .i64 (bt_ l n)):=by
 refine PC.fact 6 oa_ (by simp) ⟨aL_ .i64 l,trivial,trivial⟩ trivial ?_;unfold hz_ bt_;refine bd ?_;by_cases h0:l=[]
 ·subst h0;rw[if_pos rfl];try refine aa_ ?_
  refine Rf_ ?_
  exact ah_
 rw[if_neg h0];have hl:0<l.length:=List.length_pos_iff.2 h0;have hl':((l.length:Int)==0)=false:=by simp;omega
 repeat(first|refine aa_ ?_|simp only[go_sem,hl'])
 refine ab_ ?_ (by(try simp only[go_sem,hl']);try exact evd);try refine aa_ ?_
 refine dn_ (fun i:Nat=>⟨6,[.sl 1 cl (aq_ .i64 l),.int .i64 n,.dead,.dead,.int .i64 0,.int .i64 i],[]⟩) (fun _=>[]) (fun i=>l.length-i) (fun i=>i≤l.length∧kS_ l n i=kS_ l n 0) [] 0 ⟨by omega,rfl⟩ evd rfl ?_;rintro i ⟨hi,hv⟩;try dsimp only
 try refine aa_ ?_
 refine au_ evd (fun h=>?_) (fun h=>?_)
 ·have h1:i<l.length:=by simp at h;omega
  have hg:=di_ (k:=.i64) h1;have hi':((i:Int)+1)=((i+1:Nat):Int):=by omega
  have hw:=ag_ h1 (by omega);rw[lu_ h1]at hv;generalize hx:l.getD i 0=x at *;by_cases hA:x<0∨n≤x
  ·rw[if_pos hA]at hv
   rw[←hv];by_cases hx0:x<0
   ·have hx0':decide (x<0)=true:=by simpa using hx0
    repeat(first|refine aa_ ?_|simp only[go_sem,hg,hx0'])
    refine Rf_ ?_
    exact ah_
   ·have hx0':decide (x<0)=false:=by simpa using hx0
    have hx1:decide (n≤x)=true:=by rw[decide_eq_true_eq];omega
    repeat(first|refine aa_ ?_|simp only[go_sem,hg,hx0',hx1])
    refine Rf_ ?_
    exact ah_
  ·rw [if_neg hA] at hv
   have hx0':decide (x<0)=false:=by rw[decide_eq_false_iff_not];omega
   have hx1:decide (n≤x)=false:=by rw[decide_eq_false_iff_not];omega
   repeat(first|refine aa_ ?_|simp only[go_sem,hg,hx0',hx1])
   refine ab_ ?_;by_cases hp:0<i
   ·have hp':decide ((0:Int)<(i:Int))=true:=by rw[decide_eq_true_eq];omega
    have hw1:IntKind.i64.wrap ((i:Int)-1)=((i-1:Nat):Int):=by rw[ai_ (by omega) (by omega)];omega
    have hg2:=di_ (k:=.i64) (show i-1<l.length by omega);by_cases hB:x≤l.getD (i-1) 0
    ·have hB':decide (x≤l.getD (i-1) 0)=true:=by simpa using hB
     rw[if_pos ⟨hp,hB⟩]at hv;rw[←hv];repeat(first|refine aa_ ?_|simp only[go_sem,hg,hp',hw1,hg2,hB'])
     refine Rf_ ?_
     exact ah_
    ·have hB':decide (x≤l.getD (i-1) 0)=false:=by simpa using hB
     rw[if_neg (fun hh=>hB hh.2)]at hv;repeat(first|refine aa_ ?_|simp only[go_sem,hg,hp',hw1,hg2,hB'])
     refine ab_ ?_;repeat(first|refine aa_ ?_|simp only[go_sem,hw])
     exact⟨i+1,⟨h1,hv⟩,by omega,rfl⟩
   ·have hp':decide ((0:Int)<(i:Int))=false:=by rw[decide_eq_false_iff_not];omega
    rw[if_neg (fun hh=>hp hh.1)]at hv;repeat(first|refine aa_ ?_|simp only[go_sem,hp'])
    refine ab_ ?_;repeat(first|refine aa_ ?_|simp only[go_sem,hw])
    exact⟨i+1,⟨h1,hv⟩,by omega,rfl⟩
 ·have h1:i=l.length:=by simp at h;omega
  subst h1;rw[←hv,sP_ (by omega)];try refine aa_ ?_
  exact ah_
def Qu_(f:FuncId)(xs:List AV)(e:List UInt8):Prop:=∀bs:List UInt8,bs.length+e.length≤140737488355328→ar_ Tryz.prog f (.hs 1 0 0 bs.length::xs) [.vec 1 (bts bs)] (.hs 1 1 0 (bs.length+e.length)) [.gone,.vec 1 (bts (bs++e))]
theorem sH_(l:List Int)(cl:Bool)(hv:bt_ l 1024=0):Qu_ 76 [.sl 1 cl (aq_ .i64 l)] (jd_ l):=by
 intro bs hb;refine ar_.fact 15 mK_ (by simp) ?_ (by simp);unfold gJ_;refine bd ?_;have hl:(jd_ l).length=(aJ_ l.length).length+(fT_ l 0).length:=by rw[jd_,List.length_append]
 have hll:l.length≤(fT_ l 0).length:=sr_ l 0 (by omega);have hu:=(cd_ (l.length:Int) (by omega) (by omega)).own bs (by rw[Int.toNat_natCast];omega);rw[Int.toNat_natCast]at hu;have hw0:IntKind.u64.wrap (l.length:Int)=(l.length:Int):=aH_ (by omega) (by omega);repeat(first|refine aa_ ?_|simp only[go_sem,hw0])
 refine am_ [0] (hu) evd (aj_.mk' (by simp) evd) ?_;refine evg ?_;try refine aa_ ?_
 refine bF_ (fun x:List UInt8×Nat=>⟨15,[.hs 1 1 0 x.1.length,.sl 1 cl (aq_ .i64 l),.dead,.dead,.sl 0 true [],.dead,.dead,.dead,.dead,.dead,.dead,.dead,.sl 1 cl (aq_ .i64 l),.int .i64 l.length,.int .i64 x.2],[]⟩)
  (fun x=>[.gone,.vec 1 (bts x.1)]) (fun x=>l.length-x.2) (fun x=>x.2≤l.length∧x.1++fT_ l x.2=bs++jd_ l) (bs++aJ_ l.length,0) ⟨by simp,by simp[jd_]⟩ ?_ ?_
 ·simp only[List.length_append];exact Sn_ [] [0,1]
 rintro⟨acc,i⟩ ⟨h1,h2⟩;dsimp only at h1 h2 ⊢;have hal:acc.length+(fT_ l i).length=bs.length+(jd_ l).length:=by simpa using congrArg List.length h2
 try refine aa_ ?_
 refine au_ evd (fun h=>?_) (fun h=>?_)
 ·have hi:i<l.length:=by simpa using h
  have hg:=di_ (k:=.i64) hi;have hd:=nR_ hv hi;have hi0:=(fZ_ hv).2 i hi;rw[iN_ hi]at h2 hal;rw[List.length_append]at hal;have ha:=(cd_ (dD_ l i) hd.1 (by omega)).own acc (by omega);have hw:=ag_ hi (by omega);have hwd:IntKind.u64.wrap (dD_ l i)=dD_ l i:=aH_ (by omega) (by omega);by_cases hp:0<i
  ·have hp':decide ((0:Int)<(i:Int))=true:=by rw[decide_eq_true_eq];omega
   have hi1:=(fZ_ hv).2 (i-1) (by omega);have hw1:IntKind.i64.wrap ((i:Int)-1)=((i-1:Nat):Int):=by rw[ai_ (by omega) (by omega)];omega
   have hg2:=di_ (k:=.i64) (show i-1<l.length by omega);have hw2:IntKind.i64.wrap (l.getD (i-1) 0+1)=l.getD (i-1) 0+1:=ai_ (by omega) (by omega);have hw3:IntKind.i64.wrap (l.getD i 0-(l.getD (i-1) 0+1))=dD_ l i:=by rw[dD_,if_neg (by omega),ai_ (by omega) (by omega)]
   repeat(first|refine aa_ ?_|simp only[go_sem,hg,hp'])
   refine ac_ ?_ (by(try simp only[go_sem,hp']);try exact evd);repeat(first|refine aa_ ?_|simp only[go_sem,hw1,hg2,hw2,hw3,hwd])
   refine am_ [1] (ha) evd (aj_.mk' (by simp) evd) ?_;refine evg ?_;repeat(first|refine aa_ ?_|simp only[go_sem,hw])
   refine⟨(acc++aJ_ (dD_ l i).toNat,i+1),⟨hi,by simpa using h2⟩,by dsimp only;omega,?_⟩;simp only[List.length_append];exact Sn_ [] [0,2]
  ·have hp':decide ((0:Int)<(i:Int))=false:=by rw[decide_eq_false_iff_not];omega
   have h0:i=0:=by omega
   subst h0;have e0:l.getD 0 0=dD_ l 0:=by rw[dD_,if_pos rfl]
   have hz:IntKind.i64.wrap ((0:Int)+1)=1:=by decide
   rw[e0]at hg;repeat(first|refine aa_ ?_|simp only[go_sem,hg,hp'])
   refine ab_ ?_ (by(try simp only[go_sem,hp']);try exact evd);repeat(first|refine aa_ ?_|simp only[go_sem,hwd])
   refine am_ [1] (ha) evd (aj_.mk' (by simp) evd) ?_;refine evg ?_;repeat(first|refine aa_ ?_|simp only[go_sem,hz])
   refine⟨(acc++aJ_ (dD_ l 0).toNat,0+1),⟨hi,by simpa using h2⟩,by dsimp only;omega,?_⟩;simp only[List.length_append];exact Sn_ [] [0,2]
 ·have hi:i=l.length:=by simp at h;omega
  subst hi;rw[nD_ (by omega),List.append_nil]at h2;rw[←h2];have h3:=congrArg List.length h2;rw[List.length_append]at h3;rw[←h3];try refine aa_ ?_
  exact Sg_ [] [0,1]
theorem sK_(l:List Int)(cl:Bool)(hv:bt_ l 1024=0):Qu_ 40 [.sl 1 cl (aq_ .i64 l)] (jd_ l):=by
 intro bs hb;refine ar_.fact 6 Ef_ (by simp) ?_ (by simp);unfold ta_;refine bd ?_;have hl:(jd_ l).length=(aJ_ l.length).length+(fT_ l 0).length:=by rw[jd_,List.length_append]
 have hll:l.length≤(fT_ l 0).length:=sr_ l 0 (by omega);have hu:=(bY_ (l.length:Int) (by omega) (by omega)).own bs (by rw[Int.toNat_natCast];omega);rw[Int.toNat_natCast]at hu;have hw0:IntKind.u64.wrap (l.length:Int)=(l.length:Int):=aH_ (by omega) (by omega);repeat(first|refine aa_ ?_|simp only[go_sem,hw0])
 refine am_ [0] (hu) evd (aj_.mk' (by simp) evd) ?_;refine evg ?_;try refine aa_ ?_
 refine bF_ (fun x:List UInt8×Nat=>⟨6,[.hs 1 1 0 x.1.length,.sl 1 cl (aq_ .i64 l),.dead,.dead,.sl 0 true [],.int .i64 x.2],[]⟩)
  (fun x=>[.gone,.vec 1 (bts x.1)]) (fun x=>l.length-x.2) (fun x=>x.2≤l.length∧x.1++fT_ l x.2=bs++jd_ l) (bs++aJ_ l.length,0) ⟨by simp,by simp[jd_]⟩ ?_ ?_
 ·simp only[List.length_append];exact Sn_ [] [0,1]
 rintro⟨acc,i⟩ ⟨h1,h2⟩;dsimp only at h1 h2 ⊢;have hal:acc.length+(fT_ l i).length=bs.length+(jd_ l).length:=by simpa using congrArg List.length h2
 try refine aa_ ?_
 refine au_ evd (fun h=>?_) (fun h=>?_)
 ·have hi:i<l.length:=by simpa using h
  have hg:=di_ (k:=.i64) hi;have hd:=nR_ hv hi;have hi0:=(fZ_ hv).2 i hi;rw[iN_ hi]at h2 hal;rw[List.length_append]at hal;have ha:=(bY_ (dD_ l i) hd.1 (by omega)).own acc (by omega);have hw:=ag_ hi (by omega);have hwd:IntKind.u64.wrap (dD_ l i)=dD_ l i:=aH_ (by omega) (by omega);by_cases hp:0<i
  ·have hp':((i:Int)==0)=false:=by simp;omega
   have hi1:=(fZ_ hv).2 (i-1) (by omega);have hw1:IntKind.i64.wrap ((i:Int)-1)=((i-1:Nat):Int):=by rw[ai_ (by omega) (by omega)];omega
   have hg2:=di_ (k:=.i64) (show i-1<l.length by omega);have hw2:IntKind.i64.wrap (l.getD i 0-l.getD (i-1) 0)=l.getD i 0-l.getD (i-1) 0:=ai_ (by omega) (by omega);have hw3:IntKind.i64.wrap (l.getD i 0-l.getD (i-1) 0-1)=dD_ l i:=by rw[dD_,if_neg (by omega),ai_ (by omega) (by omega)];omega
   repeat(first|refine aa_ ?_|simp only[go_sem,hp'])
   refine ab_ ?_ (by(try simp only[go_sem,hp']);try exact evd);repeat(first|refine aa_ ?_|simp only[go_sem,hg,hw1,hg2,hw2,hw3,hwd])
   refine aQ_ [1] (ha) (by simp) evd (bd_.mk' (by simp) (by simp) evd) ?_;refine evg ?_;repeat(first|refine aa_ ?_|simp only[go_sem,hw])
   refine⟨(acc++aJ_ (dD_ l i).toNat,i+1),⟨hi,by simpa using h2⟩,by dsimp only;omega,?_⟩;simp only[List.length_append];exact Sn_ [] [0,2]
  ·have h0:i=0:=by omega
   subst h0;have e0:l.getD 0 0=dD_ l 0:=by rw[dD_,if_pos rfl]
   have hz:IntKind.i64.wrap ((0:Int)+1)=1:=by decide
   rw[e0]at hg;try refine aa_ ?_
   refine ac_ ?_;repeat(first|refine aa_ ?_|simp only[go_sem,hg,hwd])
   refine am_ [1] (ha) evd (aj_.mk' (by simp) evd) ?_;refine evg ?_;repeat(first|refine aa_ ?_|simp only[go_sem,hz])
   refine⟨(acc++aJ_ (dD_ l 0).toNat,0+1),⟨hi,by simpa using h2⟩,by dsimp only;omega,?_⟩;simp only[List.length_append];exact Sn_ [] [0,2]
 ·have hi:i=l.length:=by simp at h;omega
  subst hi;rw[nD_ (by omega),List.append_nil]at h2;rw[←h2];have h3:=congrArg List.length h2;rw[List.length_append]at h3;rw[←h3];try refine aa_ ?_
  exact Sg_ [] [0,1]
end Go.Proofs.YtipiipgpnkpejaaGreat
namespace Go.Proofs.YtipiipgpnkpejaaGreat
open Go Go.FH Go.RowKit
set_option linter.unusedVariables false
set_option linter.unusedSimpArgs false
theorem IJ_{l:List Int}{n:Int}(h:bt_ l n=0):∀j,j<l.length→(j:Int)≤l.getD j 0
 |0,hj=>by have:=((fZ_ h).2 0 hj).1;omega
 | j + 1, hj => by
   have h1:=IJ_ h j (by omega);have h2:=((fZ_ h).2 (j+1) hj).2.2 (by omega);simp only[Nat.add_sub_cancel]at h2;omega
theorem FL_{l:List Int}{n:Nat}(h:bt_ l n=0):l.length≤n:=by
 by_cases h0:l.length=0
 ·omega
 ·have h1:=IJ_ h (l.length-1) (by omega);have h2:=((fZ_ h).2 (l.length-1) (by omega)).2.1;omega
theorem EE_{l:List Int}(hv:bt_ l 1024=0):∀ (k i:Nat),l.length-i=k→(fT_ l i).length≤10*k
 |0,i,hk=>by rw[nD_ (by omega)];simp
 | k + 1, i, hk => by
   rw[iN_ (by omega),List.length_append];have h1:=EE_ hv k (i+1) (by omega);have h2:=nR_ hv (j:=i) (by omega);have h3:=bH_ (n:=(dD_ l i).toNat) (by omega);omega
theorem uF_{l:List Int}(hv:bt_ l 1024=0):(jd_ l).length≤10250:=by
 have h1:=FL_ (n:=1024) hv;have h2:=EE_ hv _ 0 rfl;have h3:=bH_ (n:=l.length) (by omega);rw[jd_,List.length_append];omega
def Dz_(x:Att)(l:List Int):List UInt8:=aJ_ x.slot.toNat++x.root.1++cy_ x.target++jd_ l
structure U64(n:Int):Prop where
 lo:0≤n
 hi:n<18446744073709551616
theorem U64.len{n:Int}(h:U64 n):(aJ_ n.toNat).length≤10:=bH_ (by have:=h.lo;have:=h.hi;omega)
theorem dh_{c:Cp}(h:U64 c.ep):(cy_ c).length≤42:=by
 have:=h.len;have:=c.rt.2;rw[cy_,List.length_append];omega
theorem Nr_(x:Att)(l:List Int)(cl:Bool)(hx:x.vals=.sl 1 cl (aq_ .i64 l))(hl:l.length≤140737488355328)(h1:U64 x.slot)(h2:U64 x.target.ep):
 PC Tryz.prog 43 [.agg (aX_ x)] (.tup [.sl 1 false (bts (if bt_ l 1024=0 then Dz_ x l else [])),.int .i64 (bt_ l 1024)]):=by
 refine PC.fact 6 hJ_ (by simp) ⟨(cB_ x).2 (by rw[Att.Pure,hx];exact aL_ _ _),trivial⟩ ⟨bO_ _,trivial,trivial⟩ ?_;unfold en_;refine bd ?_;have hc:=lv_ l cl 1024 hl;have hg:x.good=true:=by rw[Att.good,hx];rfl
 by_cases hv:bt_ l 1024=0
 ·have hr:=x.root.2;have q1:=h1.len;have q2:=dh_ h2;have q3:=uF_ hv;have p1:=(cd_ x.slot h1.lo h1.hi).nil (by omega);have p2:=(eN_ x.root).own (aJ_ x.slot.toNat) (by omega);have p3:=(nK_ x.target h2.lo h2.hi).own (aJ_ x.slot.toNat++x.root.1) (by rw[List.length_append];omega);have p4:=sH_ l cl hv (aJ_ x.slot.toNat++x.root.1++cy_ x.target) (by simp only[List.length_append];omega);rw[if_pos hv];rw[hv]at hc ⊢;repeat(first|refine aa_ ?_|simp only[go_sem,hx,hg])
  refine RV_ hc ?_
  refine Re_ ?_
  refine aQ_ [] (p1) (by simp) evd (bd_.mk' (by simp) (by simp) evd) ?_;refine evg ?_;try refine aa_ ?_
  refine aQ_ [1] (p2) (by simp) evd (bd_.mk' (by simp) (by simp) evd) ?_;refine evg ?_;try refine aa_ ?_
  refine aQ_ [2] (p3) (by simp) evd (bd_.mk' (by simp) (by simp) evd) ?_;refine evg ?_;repeat(first|refine aa_ ?_|simp only[go_sem,hx])
  refine aQ_ [3] (p4) (by simp) evd (bd_.mk' (by simp) (by simp) evd) ?_;refine evg ?_;try refine aa_ ?_
  exact ah_
 ·have hv':(bt_ l 1024 != 0)=true:=by simpa using hv
  rw[if_neg hv];repeat(first|refine aa_ ?_|simp only[go_sem,hx,hg])
  refine RV_ hc ?_
  refine ac_ ?_ (by(try simp only[go_sem,hv']);try exact evd);try refine aa_ ?_
  refine⟨_,rfl,.inr ⟨.tup [.sl 0 true [],.int .i64 (bt_ l 1024)],evd,⟨trivial,trivial,trivial⟩,Wk.tup ⟨Wk.empty _ _ _,Wk.refl _,trivial⟩⟩⟩
theorem NO_(x:Att)(l:List Int)(cl:Bool)(hx:x.vals=.sl 1 cl (aq_ .i64 l))(hl:l.length≤140737488355328)(h1:U64 x.slot)(h2:U64 x.target.ep):
 PC Tryz.prog 10 [.agg (aX_ x)] (.tup [.sl 1 false (bts (if bt_ l 1024=0 then Dz_ x l else [])),.int .i64 (bt_ l 1024)]):=by
 refine PC.fact 5 jT_ (by simp) ⟨(cB_ x).2 (by rw[Att.Pure,hx];exact aL_ _ _),trivial⟩ ⟨bO_ _,trivial,trivial⟩ ?_;unfold fb_;refine bd ?_;have hc:=eC_ l cl 1024 hl;have hg:x.good=true:=by rw[Att.good,hx];rfl
 by_cases hv:bt_ l 1024=0
 ·have hr:=x.root.2;have q1:=h1.len;have q2:=dh_ h2;have q3:=uF_ hv;have p1:=(bY_ x.slot h1.lo h1.hi).nil (by omega);have p2:=(ei_ x.root).own (aJ_ x.slot.toNat) (by omega);have p3:=(ru_ x.target h2.lo h2.hi).own (aJ_ x.slot.toNat++x.root.1) (by rw[List.length_append];omega);have p4:=sK_ l cl hv (aJ_ x.slot.toNat++x.root.1++cy_ x.target) (by simp only[List.length_append];omega);rw[if_pos hv];rw[hv]at hc ⊢;repeat(first|refine aa_ ?_|simp only[go_sem,hx,hg])
  refine RV_ hc ?_
  refine ab_ ?_;repeat(first|refine aa_ ?_|simp only[go_sem,hx])
  refine aQ_ [] (p1) (by simp) evd (bd_.mk' (by simp) (by simp) evd) ?_;refine evg ?_;try refine aa_ ?_
  refine aQ_ [1] (p2) (by simp) evd (bd_.mk' (by simp) (by simp) evd) ?_;refine evg ?_;try refine aa_ ?_
  refine aQ_ [2] (p3) (by simp) evd (bd_.mk' (by simp) (by simp) evd) ?_;refine evg ?_;repeat(first|refine aa_ ?_|simp only[go_sem,hx])
  refine aQ_ [3] (p4) (by simp) evd (bd_.mk' (by simp) (by simp) evd) ?_;refine evg ?_;try refine aa_ ?_
  exact ah_
 ·have hv':(bt_ l 1024 != 0)=true:=by simpa using hv
  rw[if_neg hv];repeat(first|refine aa_ ?_|simp only[go_sem,hx,hg])
  refine RV_ hc ?_
  refine ac_ ?_ (by(try simp only[go_sem,hv']);try exact evd);try refine aa_ ?_
  refine⟨_,rfl,.inr ⟨.tup [.sl 0 true [],.int .i64 (bt_ l 1024)],evd,⟨trivial,trivial,trivial⟩,Wk.tup ⟨Wk.empty _ _ _,Wk.refl _,trivial⟩⟩⟩
def iz_(x:Clm)(l:List Int):List UInt8:=aJ_ x.src.toNat++aJ_ x.tgt.toNat++x.root.1++jd_ l
structure kc_(x:Clm)(l:List Int)(cl:Bool):Prop where
 src:U64 x.src
 tgt:U64 x.tgt
 vals:x.vals=.sl 1 cl (aq_ .i64 l)
 len:l.length≤140737488355328
theorem iA_{x:Clm}{l:List Int}{cl:Bool}(h:kc_ x l cl)(hv:bt_ l 1024=0):(iz_ x l).length≤10302:=by
 have:=h.src.len;have:=h.tgt.len;have:=uF_ hv;have:=x.root.2;simp only[iz_,List.length_append];omega
theorem kc_.good{x:Clm}{l:List Int}{cl:Bool}(h:kc_ x l cl):x.good=true:=by rw[Clm.good,h.vals];rfl
theorem kc_.pu{x:Clm}{l:List Int}{cl:Bool}(h:kc_ x l cl):x.Pure:=by rw[Clm.Pure,h.vals];exact aL_ _ _
theorem kc_.map{x:Clm}{l:List Int}{cl:Bool}(h:kc_ x l cl)(ρ:Nat→Nat):x.map (ren ρ)=x:=by
 have hv:=h.vals;obtain⟨s,t,r,v⟩:=x;simp only at hv;subst hv;simp only[Clm.map,ren,ck_]
theorem Hy_(x:Clm)(l:List Int)(cl:Bool)(hx:kc_ x l cl)(hv:bt_ l 1024=0):Qu_ 42 [.agg (bC_ x)] (iz_ x l):=by
 intro bs hb;refine ar_.fact 5 qQ_ (by simp) ?_ (by simp);unfold kZ_;refine bd ?_;simp only[iz_,List.length_append,←List.append_assoc,←Nat.add_assoc]at hb ⊢;have hg:=hx.good;have hvs:=hx.vals;have p1:=(bY_ x.src hx.src.lo hx.src.hi).own bs (by omega);have p2:=(bY_ x.tgt hx.tgt.lo hx.tgt.hi).own (bs++aJ_ x.src.toNat) (by simp only[List.length_append];omega);have p3:=(ei_ x.root).own (bs++aJ_ x.src.toNat++aJ_ x.tgt.toNat) (by simp only[List.length_append];omega);have p4:=sK_ l cl hv (bs++aJ_ x.src.toNat++aJ_ x.tgt.toNat++x.root.1) (by simp only[List.length_append];omega);repeat(first|refine aa_ ?_|simp only[go_sem,hg])
 refine aQ_ [0] (p1) (by simp) evd (bd_.mk' (by simp) (by simp) evd) ?_;refine evg ?_;try refine aa_ ?_
 refine aQ_ [2] (p2) (by simp) evd (bd_.mk' (by simp) (by simp) evd) ?_;refine evg ?_;try refine aa_ ?_
 refine aQ_ [3] (p3) (by simp) evd (bd_.mk' (by simp) (by simp) evd) ?_;refine evg ?_;repeat(first|refine aa_ ?_|simp only[go_sem,hvs])
 refine aQ_ [4] (p4) (by simp) evd (bd_.mk' (by simp) (by simp) evd) ?_;refine evg ?_;try refine aa_ ?_
 exact Sg_ [] [0,5]
theorem Hx_(x:Clm)(l:List Int)(cl:Bool)(hx:kc_ x l cl)(hv:bt_ l 1024=0):ar_ Tryz.prog 42 [.sl 0 true [],.agg (bC_ x)] [] (.hs 1 0 0 (iz_ x l).length) [.vec 1 (bts (iz_ x l))]:=by
 refine ar_.fact 5 qQ_ (by simp) ?_ (by simp);have hb:=iA_ hx hv;unfold kZ_;refine bd ?_;simp only[iz_,List.length_append,←List.append_assoc,←Nat.add_assoc]at hb ⊢;have hg:=hx.good;have hvs:=hx.vals;have p1:=(bY_ x.src hx.src.lo hx.src.hi).nil (by omega);have p2:=(bY_ x.tgt hx.tgt.lo hx.tgt.hi).own (aJ_ x.src.toNat) (by omega);have p3:=(ei_ x.root).own (aJ_ x.src.toNat++aJ_ x.tgt.toNat) (by simp only[List.length_append];omega);have p4:=sK_ l cl hv (aJ_ x.src.toNat++aJ_ x.tgt.toNat++x.root.1) (by simp only[List.length_append];omega);repeat(first|refine aa_ ?_|simp only[go_sem,hg])
 refine aQ_ [] (p1) (by simp) evd (bd_.mk' (by simp) (by simp) evd) ?_;refine evg ?_;try refine aa_ ?_
 refine aQ_ [1] (p2) (by simp) evd (bd_.mk' (by simp) (by simp) evd) ?_;refine evg ?_;try refine aa_ ?_
 refine aQ_ [2] (p3) (by simp) evd (bd_.mk' (by simp) (by simp) evd) ?_;refine evg ?_;repeat(first|refine aa_ ?_|simp only[go_sem,hvs])
 refine aQ_ [3] (p4) (by simp) evd (bd_.mk' (by simp) (by simp) evd) ?_;refine evg ?_;try refine aa_ ?_
 exact Sg_ [] [4]
def ha_(l1 l2:List Int):Int:=if bt_ l1 1024=0 then bt_ l2 1024 else bt_ l1 1024
def ry_(x:Slg)(l1 l2:List Int):List UInt8:=iz_ x.fst l1++iz_ x.snd l2
theorem Fs_(x:Slg)(l1 l2:List Int)(c1 c2:Bool)(h1:kc_ x.fst l1 c1)(h2:kc_ x.snd l2 c2):
 PC Tryz.prog 12 [.agg (bI_ x)] (.tup [.sl 1 false (bts (if ha_ l1 l2=0 then ry_ x l1 l2 else [])),.int .i64 (ha_ l1 l2)]):=by
 refine PC.fact 6 mf_ (by simp) ⟨(cU_ x).2 ⟨h1.pu,h2.pu⟩,trivial⟩ ⟨bO_ _,trivial,trivial⟩ ?_;unfold gj_;refine bd ?_;have hg:x.good=true:=by rw[Slg.good,h1.good,h2.good];rfl
 have hv1:=h1.vals;have hv2:=h2.vals;have m1:=h1.map;have m2:=h2.map;have k1:=eC_ l1 c1 1024 h1.len;have k2:=eC_ l2 c2 1024 h2.len;unfold ha_;by_cases e1:bt_ l1 1024=0
 ·simp only[e1,if_true]
  rw[e1]at k1;by_cases e2:bt_ l2 1024=0
  ·simp only[e2,if_true];rw[e2]at k2;have q1:=iA_ h1 e1;have q2:=iA_ h2 e2;have p1:=Hx_ x.fst l1 c1 h1 e1;have p2:=Hy_ x.snd l2 c2 h2 e2 (iz_ x.fst l1) (by omega);repeat(first|refine aa_ ?_|simp only[go_sem,hg,hv1,hv2])
   refine RV_ k1 ?_
   refine ab_ ?_;repeat(first|refine aa_ ?_|simp only[go_sem,hg,hv1,hv2])
   refine RV_ k2 ?_
   refine Re_ ?_
   refine aQ_ [] (p1) (by simp) (by(try simp only[go_sem,m1]);try exact evd) (bd_.mk' (by simp) (by simp) (by(try simp only[go_sem,m1]);try exact evd)) ?_;refine evg ?_;try refine aa_ ?_
   refine aQ_ [1] (p2) (by simp) (by(try simp only[go_sem,m2]);try exact evd) (bd_.mk' (by simp) (by simp) (by(try simp only[go_sem,m2]);try exact evd)) ?_;refine evg ?_;try refine aa_ ?_
   exact ah_
  ·have e2':(bt_ l2 1024 != 0)=true:=by simpa using e2
   simp only[e2,if_false];repeat(first|refine aa_ ?_|simp only[go_sem,hg,hv1,hv2])
   refine RV_ k1 ?_
   refine ab_ ?_;repeat(first|refine aa_ ?_|simp only[go_sem,hg,hv1,hv2])
   refine RV_ k2 ?_
   refine ac_ ?_ (by(try simp only[go_sem,e2']);try exact evd);try refine aa_ ?_
   refine⟨_,rfl,.inr ⟨.tup [.sl 0 true [],.int .i64 (bt_ l2 1024)],evd,⟨trivial,trivial,trivial⟩,Wk.tup ⟨Wk.empty _ _ _,Wk.refl _,trivial⟩⟩⟩
 ·have e1':(bt_ l1 1024 != 0)=true:=by simpa using e1
  simp only[e1,if_false];repeat(first|refine aa_ ?_|simp only[go_sem,hg,hv1,hv2])
  refine RV_ k1 ?_
  refine ac_ ?_ (by(try simp only[go_sem,e1']);try exact evd);try refine aa_ ?_
  refine⟨_,rfl,.inr ⟨.tup [.sl 0 true [],.int .i64 (bt_ l1 1024)],evd,⟨trivial,trivial,trivial⟩,Wk.tup ⟨Wk.empty _ _ _,Wk.refl _,trivial⟩⟩⟩
theorem Nt_(x:Slg)(l1 l2:List Int)(c1 c2:Bool)(h1:kc_ x.fst l1 c1)(h2:kc_ x.snd l2 c2):
 PC Tryz.prog 101 [.agg (bI_ x)] (.tup [.sl 1 false (bts (if ha_ l1 l2=0 then ry_ x l1 l2 else [])),.int .i64 (ha_ l1 l2)]):=by
 refine PC.fact 8 jQ_ (by simp) ⟨(cU_ x).2 ⟨h1.pu,h2.pu⟩,trivial⟩ ⟨bO_ _,trivial,trivial⟩ ?_;unfold eZ_;refine bd ?_;have hg:x.good=true:=by rw[Slg.good,h1.good,h2.good];rfl
 have g1:=h1.good;have g2:=h2.good;have hv1:=h1.vals;have hv2:=h2.vals;have k1:=lv_ l1 c1 1024 h1.len;have k2:=lv_ l2 c2 1024 h2.len;unfold ha_;by_cases e1:bt_ l1 1024=0
 ·simp only[e1,if_true]
  rw[e1]at k1;have q1:=iA_ h1 e1;simp only[iz_,List.length_append]at q1;have p1:=(cd_ x.fst.src h1.src.lo h1.src.hi).nil (by omega);have p2:=(cd_ x.fst.tgt h1.tgt.lo h1.tgt.hi).own (aJ_ x.fst.src.toNat) (by omega);have p3:=(eN_ x.fst.root).own (aJ_ x.fst.src.toNat++aJ_ x.fst.tgt.toNat) (by simp only[List.length_append];omega);have p4:=sH_ l1 c1 e1 (aJ_ x.fst.src.toNat++aJ_ x.fst.tgt.toNat++x.fst.root.1) (by simp only[List.length_append];omega);repeat(first|refine aa_ ?_|simp only[go_sem,hg,g1,g2,hv1,hv2])
  refine lt_ 3 (kR_ ?_);try refine aa_ ?_
  refine ac_ ?_;repeat(first|refine aa_ ?_|simp only[go_sem,hg,g1,g2,hv1,hv2])
  refine RV_ k1 ?_
  refine ab_ ?_;repeat(first|refine aa_ ?_|simp only[go_sem,hg,g1,g2,hv1,hv2])
  refine aQ_ [] (p1) (by simp) evd (bd_.mk' (by simp) (by simp) evd) ?_;refine evg ?_;try refine aa_ ?_
  refine aQ_ [2] (p2) (by simp) evd (bd_.mk' (by simp) (by simp) evd) ?_;refine evg ?_;try refine aa_ ?_
  refine aQ_ [3] (p3) (by simp) evd (bd_.mk' (by simp) (by simp) evd) ?_;refine evg ?_;repeat(first|refine aa_ ?_|simp only[go_sem,hv1])
  refine am_ [4] (p4) evd (aj_.mk' (by simp) evd) ?_;refine evg ?_;try refine aa_ ?_
  refine kR_ ?_;try refine aa_ ?_
  refine ac_ ?_;repeat(first|refine aa_ ?_|simp only[go_sem,hg,g1,g2,hv1,hv2])
  by_cases e2:bt_ l2 1024=0
  ·rw[e2]at k2;simp only[e2,if_true];have q2:=iA_ h2 e2;simp only[iz_,List.length_append]at q2;have s1:=(cd_ x.snd.src h2.src.lo h2.src.hi).own (aJ_ x.fst.src.toNat++aJ_ x.fst.tgt.toNat++x.fst.root.1++jd_ l1) (by simp only[List.length_append];omega);have s2:=(cd_ x.snd.tgt h2.tgt.lo h2.tgt.hi).own (aJ_ x.fst.src.toNat++aJ_ x.fst.tgt.toNat++x.fst.root.1++jd_ l1++aJ_ x.snd.src.toNat) (by simp only[List.length_append];omega);have s3:=(eN_ x.snd.root).own (aJ_ x.fst.src.toNat++aJ_ x.fst.tgt.toNat++x.fst.root.1++jd_ l1++aJ_ x.snd.src.toNat++aJ_ x.snd.tgt.toNat) (by simp only[List.length_append];omega);have s4:=sH_ l2 c2 e2 (aJ_ x.fst.src.toNat++aJ_ x.fst.tgt.toNat++x.fst.root.1++jd_ l1++aJ_ x.snd.src.toNat++aJ_ x.snd.tgt.toNat++x.snd.root.1) (by simp only[List.length_append];omega);refine RV_ k2 ?_
   refine ab_ ?_;repeat(first|refine aa_ ?_|simp only[go_sem,hg,g1,g2,hv1,hv2])
   refine aQ_ [5] (s1) (by simp) evd (bd_.mk' (by simp) (by simp) evd) ?_;refine evg ?_;try refine aa_ ?_
   refine aQ_ [7] (s2) (by simp) evd (bd_.mk' (by simp) (by simp) evd) ?_;refine evg ?_;try refine aa_ ?_
   refine aQ_ [8] (s3) (by simp) evd (bd_.mk' (by simp) (by simp) evd) ?_;refine evg ?_;repeat(first|refine aa_ ?_|simp only[go_sem,hv2])
   refine am_ [9] (s4) evd (aj_.mk' (by simp) evd) ?_;refine evg ?_;try refine aa_ ?_
   refine kR_ ?_;try refine aa_ ?_
   refine Re_ ?_
   refine⟨_,(by first|rfl|exact evd),.inl ?_⟩;refine evg ?_;simp only[ry_,iz_,List.append_assoc]
  ·have e2':(bt_ l2 1024 != 0)=true:=by simpa using e2
   rw[if_neg e2];refine RV_ k2 ?_
   refine ac_ ?_ (by(try simp only[go_sem,e2']);try exact evd);try refine aa_ ?_
   refine⟨_,rfl,.inr ⟨.tup [.sl 0 true [],.int .i64 (bt_ l2 1024)],evd,⟨trivial,trivial,trivial⟩,Wk.tup ⟨Wk.empty _ _ _,Wk.refl _,trivial⟩⟩⟩
 ·have e1':(bt_ l1 1024 != 0)=true:=by simpa using e1
  simp only[e1,if_false];repeat(first|refine aa_ ?_|simp only[go_sem,hg,g1,g2,hv1,hv2])
  refine lt_ 3 (kR_ ?_);try refine aa_ ?_
  refine ac_ ?_;repeat(first|refine aa_ ?_|simp only[go_sem,hg,g1,g2,hv1,hv2])
  refine RV_ k1 ?_
  refine ac_ ?_ (by(try simp only[go_sem,e1']);try exact evd);try refine aa_ ?_
  refine⟨_,rfl,.inr ⟨.tup [.sl 0 true [],.int .i64 (bt_ l1 1024)],evd,⟨trivial,trivial,trivial⟩,Wk.tup ⟨Wk.empty _ _ _,Wk.refl _,trivial⟩⟩⟩
def FN_(x:Vdt):List UInt8:=aJ_ x.tag.toNat++aJ_ x.kind.toNat++x.latest.1
def mg_(x:Vdt):Prop:=x.kind<1∨4<x.kind
instance (x:Vdt):Decidable (mg_ x):=inferInstanceAs (Decidable (_∨_))
theorem Nv_(x:Vdt)(h1:U64 x.tag):
 PC Tryz.prog 103 [.agg (bW_ x)] (.tup [.sl 1 false (bts (if mg_ x then []else FN_ x)),.int .i64 (if mg_ x then 3 else 0)]):=by
 refine PC.fact 4 kH_ (by simp) ⟨gG_ x,trivial⟩ ⟨bO_ _,trivial,trivial⟩ ?_;unfold fu_;refine bd ?_;by_cases hv:mg_ x
 ·rw[if_pos hv,if_pos hv]
  unfold mg_ at hv;by_cases ha:x.kind<1
  ·have ha':decide (x.kind<1)=true:=by simpa using ha
   repeat(first|refine aa_ ?_|simp only[go_sem,ha'])
   refine Rf_ ?_
   refine⟨_,rfl,.inr ⟨.tup [.sl 0 true [],.int .i64 3],evd,⟨trivial,trivial,trivial⟩,Wk.tup ⟨Wk.empty _ _ _,Wk.refl _,trivial⟩⟩⟩
  ·have ha':decide (x.kind<1)=false:=by simpa using ha
   have hb':decide (4<x.kind)=true:=by rw[decide_eq_true_eq];omega
   repeat(first|refine aa_ ?_|simp only[go_sem,ha',hb'])
   refine Rf_ ?_
   refine⟨_,rfl,.inr ⟨.tup [.sl 0 true [],.int .i64 3],evd,⟨trivial,trivial,trivial⟩,Wk.tup ⟨Wk.empty _ _ _,Wk.refl _,trivial⟩⟩⟩
 ·rw[if_neg hv,if_neg hv];unfold mg_ at hv;have ha':decide (x.kind<1)=false:=by rw[decide_eq_false_iff_not];omega
  have hb':decide (4<x.kind)=false:=by rw[decide_eq_false_iff_not];omega
  have hw:IntKind.u64.wrap x.kind=x.kind:=aH_ (by omega) (by omega);have hr:=x.latest.2;have q1:=h1.len;have q2:=bH_ (n:=x.kind.toNat) (by omega);have p1:=(cd_ x.tag h1.lo h1.hi).nil (by omega);have p2:=(cd_ x.kind (by omega) (by omega)).own (aJ_ x.tag.toNat) (by omega);have p3:=(eN_ x.latest).own (aJ_ x.tag.toNat++aJ_ x.kind.toNat) (by rw[List.length_append];omega);repeat(first|refine aa_ ?_|simp only[go_sem,ha',hb'])
  refine ab_ ?_;repeat(first|refine aa_ ?_|simp only[go_sem,hw])
  refine aQ_ [] (p1) (by simp) evd (bd_.mk' (by simp) (by simp) evd) ?_;refine evg ?_;repeat(first|refine aa_ ?_|simp only[go_sem,hw])
  refine aQ_ [1] (p2) (by simp) evd (bd_.mk' (by simp) (by simp) evd) ?_;refine evg ?_;try refine aa_ ?_
  refine aQ_ [2] (p3) (by simp) evd (bd_.mk' (by simp) (by simp) evd) ?_;refine evg ?_;try refine aa_ ?_
  exact ah_
theorem NR_(x:Vdt)(h1:U64 x.tag):
 PC Tryz.prog 107 [.agg (bW_ x)] (.tup [.sl 1 false (bts (if mg_ x then []else FN_ x)),.int .i64 (if mg_ x then 3 else 0)]):=by
 refine PC.fact 4 mP_ (by simp) ⟨gG_ x,trivial⟩ ⟨bO_ _,trivial,trivial⟩ ?_;unfold gO_;refine bd ?_;by_cases hv:mg_ x
 ·rw[if_pos hv,if_pos hv]
  unfold mg_ at hv;by_cases ha:x.kind<1
  ·have ha':decide (x.kind<1)=true:=by simpa using ha
   repeat(first|refine aa_ ?_|simp only[go_sem,ha'])
   refine Rf_ ?_
   refine⟨_,rfl,.inr ⟨.tup [.sl 0 true [],.int .i64 3],evd,⟨trivial,trivial,trivial⟩,Wk.tup ⟨Wk.empty _ _ _,Wk.refl _,trivial⟩⟩⟩
  ·have ha':decide (x.kind<1)=false:=by simpa using ha
   have hb':decide (4<x.kind)=true:=by rw[decide_eq_true_eq];omega
   repeat(first|refine aa_ ?_|simp only[go_sem,ha',hb'])
   refine Rf_ ?_
   refine⟨_,rfl,.inr ⟨.tup [.sl 0 true [],.int .i64 3],evd,⟨trivial,trivial,trivial⟩,Wk.tup ⟨Wk.empty _ _ _,Wk.refl _,trivial⟩⟩⟩
 ·rw[if_neg hv,if_neg hv];unfold mg_ at hv;have ha':decide (x.kind<1)=false:=by rw[decide_eq_false_iff_not];omega
  have hb':decide (4<x.kind)=false:=by rw[decide_eq_false_iff_not];omega
  have hw:IntKind.u64.wrap x.kind=x.kind:=aH_ (by omega) (by omega);have hr:=x.latest.2;have q1:=h1.len;have q2:=bH_ (n:=x.kind.toNat) (by omega);have p1:=(bY_ x.tag h1.lo h1.hi).nil (by omega);have p2:=(bY_ x.kind (by omega) (by omega)).own (aJ_ x.tag.toNat) (by omega);have p3:=(ei_ x.latest).own (aJ_ x.tag.toNat++aJ_ x.kind.toNat) (by rw[List.length_append];omega);repeat(first|refine aa_ ?_|simp only[go_sem,ha',hb'])
  refine ab_ ?_;repeat(first|refine aa_ ?_|simp only[go_sem,hw])
  refine aQ_ [] (p1) (by simp) evd (bd_.mk' (by simp) (by simp) evd) ?_;refine evg ?_;repeat(first|refine aa_ ?_|simp only[go_sem,hw])
  refine aQ_ [1] (p2) (by simp) evd (bd_.mk' (by simp) (by simp) evd) ?_;refine evg ?_;try refine aa_ ?_
  refine aQ_ [2] (p3) (by simp) evd (bd_.mk' (by simp) (by simp) evd) ?_;refine evg ?_;try refine aa_ ?_
  exact ah_
def GJ_(x:Blk):List UInt8:=aJ_ x.slot.toNat++x.root.1++x.parent.1++x.payload.1++(bb_ x.diff).1++(bb_ x.pdiff).1++cy_ x.just++cy_ x.fin++cy_ x.pul.j++cy_ x.pul.f++nT_ x.timely
structure hZ_(x:Blk):Prop where
 slot:U64 x.slot
 just:U64 x.just.ep
 fin:U64 x.fin.ep
 j:U64 x.pul.j.ep
 f:U64 x.pul.f.ep
theorem Ns_(x:Blk)(hx:hZ_ x):PC Tryz.prog 100 [.agg (aw_ x)] (.sl 1 false (bts (GJ_ x))):=by
 refine PC.fact 8 mb_ (by simp) ⟨dA_ x,trivial⟩ (bO_ _) ?_;unfold gf_;refine bd ?_;have r1:=x.root.2;have r2:=x.parent.2;have r3:=x.payload.2;have r4:=(bb_ x.diff).2;have r5:=(bb_ x.pdiff).2;have q1:=hx.slot.len;have q2:=dh_ hx.just;have q3:=dh_ hx.fin;have q4:=dh_ hx.j;have q5:=dh_ hx.f;have q6:(nT_ x.timely).length≤1:=by cases x.timely<;>simp[nT_]
 have p1:=(cd_ x.slot hx.slot.lo hx.slot.hi).nil (by omega);have p2:=(eN_ x.root).own (aJ_ x.slot.toNat) (by omega);have p3:=(eN_ x.parent).own _ (by simp only[List.length_append];omega:(aJ_ x.slot.toNat++x.root.1).length+x.parent.1.length≤140737488355328);have p4:=(eN_ x.payload).own _ (by simp only[List.length_append];omega:(aJ_ x.slot.toNat++x.root.1++x.parent.1).length+x.payload.1.length≤140737488355328);have p5:=(AS_ x.diff).own _ (by simp only[List.length_append];omega:(aJ_ x.slot.toNat++x.root.1++x.parent.1++x.payload.1).length+(bb_ x.diff).1.length≤140737488355328);have p6:=(AS_ x.pdiff).own _ (by simp only[List.length_append];omega:(aJ_ x.slot.toNat++x.root.1++x.parent.1++x.payload.1++(bb_ x.diff).1).length+(bb_ x.pdiff).1.length≤140737488355328);have p7:=(nK_ x.just hx.just.lo hx.just.hi).own _ (by simp only[List.length_append];omega:(aJ_ x.slot.toNat++x.root.1++x.parent.1++x.payload.1++(bb_ x.diff).1++(bb_ x.pdiff).1).length+(cy_ x.just).length≤140737488355328);have p8:=(nK_ x.fin hx.fin.lo hx.fin.hi).own _ (by simp only[List.length_append];omega:(aJ_ x.slot.toNat++x.root.1++x.parent.1++x.payload.1++(bb_ x.diff).1++(bb_ x.pdiff).1++cy_ x.just).length+(cy_ x.fin).length≤140737488355328);have p9:=(nK_ x.pul.j hx.j.lo hx.j.hi).own _ (by simp only[List.length_append];omega:(aJ_ x.slot.toNat++x.root.1++x.parent.1++x.payload.1++(bb_ x.diff).1++(bb_ x.pdiff).1++cy_ x.just++cy_ x.fin).length+(cy_ x.pul.j).length≤140737488355328);have p10:=(nK_ x.pul.f hx.f.lo hx.f.hi).own _ (by simp only[List.length_append];omega:(aJ_ x.slot.toNat++x.root.1++x.parent.1++x.payload.1++(bb_ x.diff).1++(bb_ x.pdiff).1++cy_ x.just++cy_ x.fin++cy_ x.pul.j).length+(cy_ x.pul.f).length≤140737488355328);have p11:=(Kv_ x.timely).own _ (by simp only[List.length_append];omega:(aJ_ x.slot.toNat++x.root.1++x.parent.1++x.payload.1++(bb_ x.diff).1++(bb_ x.pdiff).1++cy_ x.just++cy_ x.fin++cy_ x.pul.j++cy_ x.pul.f).length+(nT_ x.timely).length≤140737488355328);try refine aa_ ?_
 refine am_ [] (p1) evd (aj_.mk' (by simp) evd) ?_;refine evg ?_;try refine aa_ ?_
 refine lt_ 4 (kR_ ?_);try refine aa_ ?_
 refine Rf_ ?_
 refine am_ [1] (p2) evd (aj_.mk' (by simp) evd) ?_;refine evg ?_;try refine aa_ ?_
 refine kR_ ?_;try refine aa_ ?_
 refine Rf_ ?_
 refine am_ [3] (p3) evd (aj_.mk' (by simp) evd) ?_;refine evg ?_;try refine aa_ ?_
 refine kR_ ?_;try refine aa_ ?_
 refine Rf_ ?_
 refine am_ [5] (p4) evd (aj_.mk' (by simp) evd) ?_;refine evg ?_;try refine aa_ ?_
 refine kR_ ?_;try refine aa_ ?_
 refine Re_ ?_
 refine aQ_ [7] (p5) (by simp) evd (bd_.mk' (by simp) (by simp) evd) ?_;refine evg ?_;try refine aa_ ?_
 refine aQ_ [8] (p6) (by simp) evd (bd_.mk' (by simp) (by simp) evd) ?_;refine evg ?_;try refine aa_ ?_
 refine lt_ 5 (kR_ ?_);try refine aa_ ?_
 refine Rf_ ?_
 refine am_ [9] (p7) evd (aj_.mk' (by simp) evd) ?_;refine evg ?_;try refine aa_ ?_
 refine kR_ ?_;try refine aa_ ?_
 refine Rf_ ?_
 refine am_ [11] (p8) evd (aj_.mk' (by simp) evd) ?_;refine evg ?_;try refine aa_ ?_
 refine kR_ ?_;try refine aa_ ?_
 refine Rf_ ?_
 refine am_ [13] (p9) evd (aj_.mk' (by simp) evd) ?_;refine evg ?_;try refine aa_ ?_
 refine kR_ ?_;try refine aa_ ?_
 refine Rf_ ?_
 refine am_ [15] (p10) evd (aj_.mk' (by simp) evd) ?_;refine evg ?_;try refine aa_ ?_
 refine kR_ ?_;try refine aa_ ?_
 refine Re_ ?_
 refine am_ [17] (p11) evd (aj_.mk' (by simp) evd) ?_;refine evg ?_;try refine aa_ ?_
 exact ah_
theorem NP_(x:Blk)(hx:hZ_ x):PC Tryz.prog 8 [.sl 0 true [],.agg (aw_ x)] (.sl 1 false (bts (GJ_ x))):=by
 refine PC.fact 5 Cg_ (by simp) ⟨trivial,dA_ x,trivial⟩ (bO_ _) ?_;unfold qo_;refine bd ?_;have r1:=x.root.2;have r2:=x.parent.2;have r3:=x.payload.2;have r4:=(bb_ x.diff).2;have r5:=(bb_ x.pdiff).2;have q1:=hx.slot.len;have q2:=dh_ hx.just;have q3:=dh_ hx.fin;have q4:=dh_ hx.j;have q5:=dh_ hx.f;have q6:(nT_ x.timely).length≤1:=by cases x.timely<;>simp[nT_]
 have p1:=(bY_ x.slot hx.slot.lo hx.slot.hi).nil (by omega);have p2:=(ei_ x.root).own (aJ_ x.slot.toNat) (by omega);have p3:=(ei_ x.parent).own _ (by simp only[List.length_append];omega:(aJ_ x.slot.toNat++x.root.1).length+x.parent.1.length≤140737488355328);have p4:=(ei_ x.payload).own _ (by simp only[List.length_append];omega:(aJ_ x.slot.toNat++x.root.1++x.parent.1).length+x.payload.1.length≤140737488355328);have p5:=(Bb_ x.diff).own _ (by simp only[List.length_append];omega:(aJ_ x.slot.toNat++x.root.1++x.parent.1++x.payload.1).length+(bb_ x.diff).1.length≤140737488355328);have p6:=(Bb_ x.pdiff).own _ (by simp only[List.length_append];omega:(aJ_ x.slot.toNat++x.root.1++x.parent.1++x.payload.1++(bb_ x.diff).1).length+(bb_ x.pdiff).1.length≤140737488355328);have p7:=(ru_ x.just hx.just.lo hx.just.hi).own _ (by simp only[List.length_append];omega:(aJ_ x.slot.toNat++x.root.1++x.parent.1++x.payload.1++(bb_ x.diff).1++(bb_ x.pdiff).1).length+(cy_ x.just).length≤140737488355328);have p8:=(ru_ x.fin hx.fin.lo hx.fin.hi).own _ (by simp only[List.length_append];omega:(aJ_ x.slot.toNat++x.root.1++x.parent.1++x.payload.1++(bb_ x.diff).1++(bb_ x.pdiff).1++cy_ x.just).length+(cy_ x.fin).length≤140737488355328);have p9:=(ru_ x.pul.j hx.j.lo hx.j.hi).own _ (by simp only[List.length_append];omega:(aJ_ x.slot.toNat++x.root.1++x.parent.1++x.payload.1++(bb_ x.diff).1++(bb_ x.pdiff).1++cy_ x.just++cy_ x.fin).length+(cy_ x.pul.j).length≤140737488355328);have p10:=(ru_ x.pul.f hx.f.lo hx.f.hi).own _ (by simp only[List.length_append];omega:(aJ_ x.slot.toNat++x.root.1++x.parent.1++x.payload.1++(bb_ x.diff).1++(bb_ x.pdiff).1++cy_ x.just++cy_ x.fin++cy_ x.pul.j).length+(cy_ x.pul.f).length≤140737488355328);have p11:=(KP_ x.timely).own _ (by simp only[List.length_append];omega:(aJ_ x.slot.toNat++x.root.1++x.parent.1++x.payload.1++(bb_ x.diff).1++(bb_ x.pdiff).1++cy_ x.just++cy_ x.fin++cy_ x.pul.j++cy_ x.pul.f).length+(nT_ x.timely).length≤140737488355328);try refine aa_ ?_
 refine aQ_ [] (p1) (by simp) evd (bd_.mk' (by simp) (by simp) evd) ?_;refine evg ?_;try refine aa_ ?_
 refine aQ_ [1] (p2) (by simp) evd (bd_.mk' (by simp) (by simp) evd) ?_;refine evg ?_;try refine aa_ ?_
 refine aQ_ [2] (p3) (by simp) evd (bd_.mk' (by simp) (by simp) evd) ?_;refine evg ?_;try refine aa_ ?_
 refine aQ_ [3] (p4) (by simp) evd (bd_.mk' (by simp) (by simp) evd) ?_;refine evg ?_;try refine aa_ ?_
 refine aQ_ [4] (p5) (by simp) evd (bd_.mk' (by simp) (by simp) evd) ?_;refine evg ?_;try refine aa_ ?_
 refine aQ_ [5] (p6) (by simp) evd (bd_.mk' (by simp) (by simp) evd) ?_;refine evg ?_;try refine aa_ ?_
 refine aQ_ [6] (p7) (by simp) evd (bd_.mk' (by simp) (by simp) evd) ?_;refine evg ?_;try refine aa_ ?_
 refine aQ_ [7] (p8) (by simp) evd (bd_.mk' (by simp) (by simp) evd) ?_;refine evg ?_;try refine aa_ ?_
 refine aQ_ [8] (p9) (by simp) evd (bd_.mk' (by simp) (by simp) evd) ?_;refine evg ?_;try refine aa_ ?_
 refine aQ_ [9] (p10) (by simp) evd (bd_.mk' (by simp) (by simp) evd) ?_;refine evg ?_;try refine aa_ ?_
 refine aQ_ [10] (p11) (by simp) evd (bd_.mk' (by simp) (by simp) evd) ?_;refine evg ?_;try refine aa_ ?_
 exact ah_
structure xu_(x:Tab)(l:List Int)(cl:Bool):Prop where
 ep:U64 x.cp.ep
 bals:x.bals=.sl 1 cl (aq_ .u64 l)
 all:∀n∈l,U64 n
 len:l.length≤140737488355328
def rE_(x:Tab)(l:List Int):List UInt8:=cy_ x.cp++aJ_ l.length++oc_ l
theorem uG_:∀ {l:List Int},(∀n∈l,U64 n)→(oc_ l).length≤10*l.length
 | [],_=>by simp[oc_]
 | n :: l, h => by
   have h1:=uG_ (l:=l) (fun m hm=>h m (by simp[hm]));have h2:=(h n (by simp)).len;simp only[oc_,List.length_append,List.length_cons];omega
theorem Am_{l:List Int}{i:Nat}(h:i<l.length):oc_ (l.drop i)=aJ_ (l.getD i 0).toNat++oc_ (l.drop (i+1)):=by
 rw[List.drop_eq_getElem_cons h,oc_,List.getD_eq_getElem?_getD,List.getElem?_eq_getElem h];rfl
theorem xu_.good{x:Tab}{l:List Int}{cl:Bool}(h:xu_ x l cl):x.good=true:=by rw[Tab.good,h.bals];rfl
theorem xu_.pu{x:Tab}{l:List Int}{cl:Bool}(h:xu_ x l cl):x.Pure:=by rw[Tab.Pure,h.bals];exact aL_ _ _
theorem xu_.getD{x:Tab}{l:List Int}{cl:Bool}(h:xu_ x l cl){i:Nat}(hi:i<l.length):U64 (l.getD i 0):=by
 rw[List.getD_eq_getElem?_getD,List.getElem?_eq_getElem hi];exact h.all _ (List.getElem_mem hi)
theorem Nu_(x:Tab)(l:List Int)(cl:Bool)(hx:xu_ x l cl):
 PC Tryz.prog 102 [.agg (aS_ x)] (.tup [.sl 1 false (bts (if 1024<l.length then []else rE_ x l)),.int .i64 (if 1024<l.length then 3 else 0)]):=by
 refine PC.fact 23 mc_ (by simp) ⟨(cs_ x).2 hx.pu,trivial⟩ ⟨bO_ _,trivial,trivial⟩ ?_;unfold gg_;refine bd ?_;have hg:=hx.good;have hv:=hx.bals;by_cases h0:1024<l.length
 ·have h0':decide ((1024:Int)<(l.length:Int))=true:=by rw[decide_eq_true_eq];omega
  rw[if_pos h0,if_pos h0];repeat(first|refine aa_ ?_|simp only[go_sem,hg,hv])
  refine ac_ ?_ (by(try simp only[go_sem,h0']);try exact evd);try refine aa_ ?_
  refine⟨_,rfl,.inr ⟨.tup [.sl 0 true [],.int .i64 3],evd,⟨trivial,trivial,trivial⟩,Wk.tup ⟨Wk.empty _ _ _,Wk.refl _,trivial⟩⟩⟩
 have h0':decide ((1024:Int)<(l.length:Int))=false:=by rw[decide_eq_false_iff_not];omega
 rw[if_neg h0,if_neg h0];have q1:=dh_ hx.ep;have q2:=bH_ (n:=l.length) (by omega);have q3:=uG_ hx.all;have hw:IntKind.u64.wrap (l.length:Int)=l.length:=aH_ (by omega) (by omega)
 have hm:∀ρ:Nat→Nat,x.map (ren ρ)=x:=by
  intro ρ;obtain⟨c,v⟩:=x;simp only at hv;subst hv;simp only[Tab.map,ren,ck_]
 have hmf:∀ (σ:St) (zs:List Nat),x.map (fz σ zs)=x:=by
  intro σ zs;obtain⟨c,v⟩:=x;simp only at hv;subst hv;simp only[Tab.map,fz,cR_]
 have p1:=(nK_ x.cp hx.ep.lo hx.ep.hi).nil (by omega);have p2:=(cd_ (l.length:Int) (by omega) (by omega)).own (cy_ x.cp) (by rw[Int.toNat_natCast];omega);rw[Int.toNat_natCast]at p2;repeat(first|refine aa_ ?_|simp only[go_sem,hg,hv])
 refine ab_ ?_ (by(try simp only[go_sem,h0']);try exact evd);repeat(first|refine aa_ ?_|simp only[go_sem,hg,hv,hw])
 refine aQ_ [] (p1) (by simp) evd (bd_.mk' (by simp) (by simp) evd) ?_;refine evg ?_;repeat(first|refine aa_ ?_|simp only[go_sem,hg,hv,hw])
 refine aQ_ [1] (p2) (by simp) evd (bd_.mk' (by simp) (by simp) evd) ?_;refine evg ?_;repeat(first|refine aa_ ?_|simp only[go_sem,hg,hv])
 refine bF_ (fun x':List UInt8×Nat=>⟨23,[.agg (aS_ x),.ptr 0 0,.sl 0 true [],.int .i64 0,.hs 1 1 0 x'.1.length,.dead,.dead,.dead,.dead,.dead,.dead,.dead,.dead,.dead,.dead,.dead,.dead,.dead,.dead,.dead,.sl 1 cl (aq_ .u64 l),.int .i64 l.length,.int .i64 x'.2],[]⟩)
  (fun x'=>[.var (aS_ x),.vec 1 (bts x'.1)]) (fun x'=>l.length-x'.2) (fun x'=>x'.2≤l.length∧x'.1++oc_ (l.drop x'.2)=rE_ x l) (cy_ x.cp++aJ_ l.length,0) ⟨by simp,by simp[rE_]⟩ ?_ ?_
 ·simp only[List.length_append,cy_,←List.append_assoc];refine GC.mk' [] [0,2] (by simp) rfl (by simp) (by simp) (by(try simp only[go_sem,hm,hmf]);try exact evd) (by(try simp only[go_sem,hm,hmf]);try exact evd)
 rintro⟨acc,i⟩ ⟨h1,h2⟩;dsimp only at h1 h2 ⊢;have hal:=congrArg List.length h2;simp only[rE_,List.length_append]at hal;repeat(first|refine aa_ ?_|simp only[go_sem,hg,hv])
 refine au_ evd (fun h=>?_) (fun h=>?_)
 ·have hi:i<l.length:=by simpa using h
  have hgd:=di_ (k:=.u64) hi;have hu:=hx.getD hi;rw[Am_ hi]at h2 hal;rw[List.length_append]at hal;have ha:=(cd_ (l.getD i 0) hu.lo hu.hi).own acc (by omega);have hwi:=ag_ hi (by omega);repeat(first|refine aa_ ?_|simp only[go_sem,hgd,hg,hv])
  refine am_ [1] (ha) evd (aj_.mk' (by simp) evd) ?_;refine evg ?_;repeat(first|refine aa_ ?_|simp only[go_sem,hwi])
  refine⟨(acc++aJ_ (l.getD i 0).toNat,i+1),⟨hi,by simpa using h2⟩,by dsimp only;omega,?_⟩;simp only[List.length_append];refine GC.mk' [] [0,2] (by simp) rfl (by simp) (by simp) (by(try simp only[go_sem,hm,hmf]);try exact evd) (by(try simp only[go_sem,hm,hmf]);try exact evd)
 ·have hi:i=l.length:=by simp at h;omega
  subst hi;rw[List.drop_length,oc_,List.append_nil]at h2;rw[←h2];try refine aa_ ?_
  exact ah_
theorem NQ_(x:Tab)(l:List Int)(cl:Bool)(hx:xu_ x l cl):
 PC Tryz.prog 14 [.agg (aS_ x)] (.tup [.sl 1 false (bts (if 1024<l.length then []else rE_ x l)),.int .i64 (if 1024<l.length then 3 else 0)]):=by
 refine PC.fact 6 pq_ (by simp) ⟨(cs_ x).2 hx.pu,trivial⟩ ⟨bO_ _,trivial,trivial⟩ ?_;unfold iq_;refine bd ?_;have hg:=hx.good;have hv:=hx.bals;by_cases h0:1024<l.length
 ·have h0':decide ((1024:Int)<(l.length:Int))=true:=by rw[decide_eq_true_eq];omega
  rw[if_pos h0,if_pos h0];repeat(first|refine aa_ ?_|simp only[go_sem,hg,hv])
  refine ac_ ?_ (by(try simp only[go_sem,h0']);try exact evd);try refine aa_ ?_
  refine⟨_,rfl,.inr ⟨.tup [.sl 0 true [],.int .i64 3],evd,⟨trivial,trivial,trivial⟩,Wk.tup ⟨Wk.empty _ _ _,Wk.refl _,trivial⟩⟩⟩
 have h0':decide ((1024:Int)<(l.length:Int))=false:=by rw[decide_eq_false_iff_not];omega
 rw[if_neg h0,if_neg h0];have q1:=dh_ hx.ep;have q2:=bH_ (n:=l.length) (by omega);have q3:=uG_ hx.all;have hw:IntKind.u64.wrap (l.length:Int)=l.length:=aH_ (by omega) (by omega)
 have hm:∀ρ:Nat→Nat,x.map (ren ρ)=x:=by
  intro ρ;obtain⟨c,v⟩:=x;simp only at hv;subst hv;simp only[Tab.map,ren,ck_]
 have hmf:∀ (σ:St) (zs:List Nat),x.map (fz σ zs)=x:=by
  intro σ zs;obtain⟨c,v⟩:=x;simp only at hv;subst hv;simp only[Tab.map,fz,cR_]
 have hr:=x.cp.rt.2;have q4:=hx.ep.len;have p1:=(bY_ x.cp.ep hx.ep.lo hx.ep.hi).nil (by omega);have p2:=(ei_ x.cp.rt).own (aJ_ x.cp.ep.toNat) (by omega);have p3:=(bY_ (l.length:Int) (by omega) (by omega)).own (aJ_ x.cp.ep.toNat++x.cp.rt.1) (by rw[Int.toNat_natCast,List.length_append];omega);rw[Int.toNat_natCast]at p3;repeat(first|refine aa_ ?_|simp only[go_sem,hg,hv])
 refine ab_ ?_ (by(try simp only[go_sem,h0']);try exact evd);repeat(first|refine aa_ ?_|simp only[go_sem,hg,hv,hw])
 refine aQ_ [] (p1) (by simp) evd (bd_.mk' (by simp) (by simp) evd) ?_;refine evg ?_;repeat(first|refine aa_ ?_|simp only[go_sem,hg,hv,hw])
 refine aQ_ [1] (p2) (by simp) evd (bd_.mk' (by simp) (by simp) evd) ?_;refine evg ?_;repeat(first|refine aa_ ?_|simp only[go_sem,hg,hv,hw])
 refine aQ_ [2] (p3) (by simp) evd (bd_.mk' (by simp) (by simp) evd) ?_;refine evg ?_;repeat(first|refine aa_ ?_|simp only[go_sem,hg,hv])
 refine bF_ (fun x':List UInt8×Nat=>⟨6,[.agg (aS_ x),.ptr 0 0,.sl 0 true [],.int .i64 0,.hs 1 1 0 x'.1.length,.int .i64 x'.2],[]⟩)
  (fun x'=>[.var (aS_ x),.vec 1 (bts x'.1)]) (fun x'=>l.length-x'.2) (fun x'=>x'.2≤l.length∧x'.1++oc_ (l.drop x'.2)=rE_ x l) (cy_ x.cp++aJ_ l.length,0) ⟨by simp,by simp[rE_]⟩ ?_ ?_
 ·simp only[List.length_append,cy_,←List.append_assoc];refine GC.mk' [] [0,3] (by simp) rfl (by simp) (by simp) (by(try simp only[go_sem,hm,hmf]);try exact evd) (by(try simp only[go_sem,hm,hmf]);try exact evd)
 rintro⟨acc,i⟩ ⟨h1,h2⟩;dsimp only at h1 h2 ⊢;have hal:=congrArg List.length h2;simp only[rE_,List.length_append]at hal;repeat(first|refine aa_ ?_|simp only[go_sem,hg,hv])
 refine au_ evd (fun h=>?_) (fun h=>?_)
 ·have hi:i<l.length:=by simpa using h
  have hgd:=di_ (k:=.u64) hi;have hu:=hx.getD hi;rw[Am_ hi]at h2 hal;rw[List.length_append]at hal;have ha:=(bY_ (l.getD i 0) hu.lo hu.hi).own acc (by omega);have hwi:=ag_ hi (by omega);repeat(first|refine aa_ ?_|simp only[go_sem,hgd,hg,hv])
  refine am_ [1] (ha) evd (aj_.mk' (by simp) evd) ?_;refine evg ?_;repeat(first|refine aa_ ?_|simp only[go_sem,hwi])
  refine⟨(acc++aJ_ (l.getD i 0).toNat,i+1),⟨hi,by simpa using h2⟩,by dsimp only;omega,?_⟩;simp only[List.length_append];refine GC.mk' [] [0,2] (by simp) rfl (by simp) (by simp) (by(try simp only[go_sem,hm,hmf]);try exact evd) (by(try simp only[go_sem,hm,hmf]);try exact evd)
 ·have hi:i=l.length:=by simp at h;omega
  subst hi;rw[List.drop_length,oc_,List.append_nil]at h2;rw[←h2];try refine aa_ ?_
  exact ah_
end Go.Proofs.YtipiipgpnkpejaaGreat
