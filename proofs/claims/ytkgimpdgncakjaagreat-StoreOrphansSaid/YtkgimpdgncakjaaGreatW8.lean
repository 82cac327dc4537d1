/-
 My texts Eb, Ec, Ea, Ed, Ee, Ef, Eh, Eg, Ei, joined.
-/
import Derived.Test.YtkgimpdgncakjaaGreatW7
import Derived.Test.YtkgimpdgncakjaaGreatW4
import Derived.Test.YtkgimpdgncakjaaGreatW3
namespace Go.Proofs.YtkgimpdgncakjaaGreat
open Go Go.FH
set_option linter.unusedVariables false
set_option linter.unusedSimpArgs false
def ku_(l:List Int)(n:Int)(i:Nat):Int:=
 if i<l.length then (if l.getD i 0<0∨n≤l.getD i 0 then 3 else if 0<i∧l.getD i 0≤l.getD (i-1) 0 then 8 else ku_ l n (i+1))else 0
termination_by l.length-i
def cV_(l:List Int)(n:Int):Int:=if l=[]then 2 else ku_ l n 0
theorem kT_{l:List Int}{n:Int}{i:Nat}(h:i<l.length):ku_ l n i=if l.getD i 0<0∨n≤l.getD i 0 then 3 else if 0<i∧l.getD i 0≤l.getD (i-1) 0 then 8 else ku_ l n (i+1):=by
 rw[ku_,if_pos h]
theorem si_{l:List Int}{n:Int}{i:Nat}(h:¬i<l.length):ku_ l n i=0:=by rw[ku_,if_neg h]
def hM_(l:List Int)(i:Nat):Int:=if i=0 then l.getD 0 0 else l.getD i 0-(l.getD (i-1) 0+1)
def ko_(l:List Int)(i:Nat):List UInt8:=if i<l.length then bY_ (hM_ l i).toNat++ko_ l (i+1)else []
termination_by l.length-i
theorem pr_{l:List Int}{i:Nat}(h:i<l.length):ko_ l i=bY_ (hM_ l i).toNat++ko_ l (i+1):=by rw[ko_,if_pos h]
theorem zI_{l:List Int}{i:Nat}(h:¬i<l.length):ko_ l i=[]:=by rw[ko_,if_neg h]
theorem zJ_(l:List Int)(i:Nat)(hi:i≤l.length):l.length-i≤(ko_ l i).length:=by
 by_cases h:i<l.length
 ·rw[pr_ h,List.length_append];have:=zJ_ l (i+1) h;have:=Oo_ (hM_ l i).toNat
  omega
 ·omega
termination_by l.length-i
def yh_(l:List Int):List UInt8:=bY_ l.length++ko_ l 0
theorem Fn_{l:List Int}{n:Int}:∀ (k i:Nat),l.length-i=k→ku_ l n i=0→∀j,i≤j→j<l.length→0≤l.getD j 0∧l.getD j 0<n∧(0<j→l.getD (j-1) 0<l.getD j 0)
 |0,i,hk,h,j,h1,h2=>by omega
 | k + 1, i, hk, h, j, h1, h2 => by
   rw[kT_ (by omega)]at h;split at h
   ·cases h
   ·rename_i ha
    split at h
    ·cases h
    ·rename_i hb
     by_cases hj:j=i
     ·subst hj;refine⟨by omega,by omega,fun h0=>?_⟩;have:=not_and.1 hb h0;omega
     ·exact Fn_ k (i+1) (by omega) h j (by omega) h2
theorem gN_{l:List Int}{n:Int}(h:cV_ l n=0):l≠[]∧∀j,j<l.length→0≤l.getD j 0∧l.getD j 0<n∧(0<j→l.getD (j-1) 0<l.getD j 0):=by
 unfold cV_ at h;split at h
 ·cases h
 ·rename_i h0;exact⟨h0,fun j hj=>Fn_ _ 0 rfl h j (by omega) hj⟩
theorem Aw_{l:List Int}{n:Int}(h:cV_ l n=0){j:Nat}(hj:j<l.length):0≤hM_ l j∧hM_ l j<n:=by
 have h1:=(gN_ h).2 j hj;unfold hM_;split
 ·subst_vars;exact⟨h1.1,h1.2.1⟩
 ·have h2:=h1.2.2 (by omega);have h3:=(gN_ h).2 (j-1) (by omega);omega
def yn_:List Int→List UInt8
 | []=>[]
 |x::l=>bY_ x.toNat++yn_ l
theorem eo_{k:IntKind}{ns:List Int}{i:Nat}(h:i<ns.length):(aq_ k ns).getD i []=[.int k (ns.getD i 0)]:=by
 rw[JQ_ h,List.getD_eq_getElem?_getD,List.getElem?_eq_getElem h];rfl
theorem pH_(l:List Int)(cl:Bool)(n:Int)(hb:l.length≤140737488355328):PC Tryz.prog 120 [.sl 1 cl (aq_ .i64 l),.int .i64 n] (.int .i64 (cV_ l n)):=by
 refine PC.fact 13 kJ_ (by simp) ⟨aN_ .i64 l,trivial,trivial⟩ trivial ?_;unfold fS_ cV_;refine bd ?_;by_cases h0:l=[]
 ·subst h0;rw[if_pos rfl];try refine aa_ ?_
  refine Rn_ ?_
  exact ag_
 rw[if_neg h0];have hl:0<l.length:=List.length_pos_iff.2 h0;have hl':((l.length:Int)==0)=false:=by simp;omega
 repeat(first|refine aa_ ?_|simp only[go_sem,hl'])
 refine ab_ ?_ (by(try simp only[go_sem,hl']);try exact evd);try refine aa_ ?_
 refine gE_ (fun i:Nat=>⟨13,[.sl 1 cl (aq_ .i64 l),.int .i64 n,.dead,.dead,.int .i64 0,.dead,.dead,.dead,.dead,.dead,.sl 1 cl (aq_ .i64 l),.int .i64 l.length,.int .i64 i],[]⟩) (fun _=>[]) (fun i=>l.length-i) (fun i=>i≤l.length∧ku_ l n i=ku_ l n 0) [5,6,7,8,9] 0 ⟨by omega,rfl⟩ evd rfl ?_;rintro i ⟨hi,hv⟩;try dsimp only
 try refine aa_ ?_
 refine bL_ evd (fun h=>?_) (fun h=>?_)
 ·have h1:i<l.length:=by simp at h;omega
  have hg:=eo_ (k:=.i64) h1;have hi':((i:Int)+1)=((i+1:Nat):Int):=by omega
  have hw:=af_ h1 (by omega);rw[kT_ h1]at hv;generalize hx:l.getD i 0=x at *;by_cases hA:x<0∨n≤x
  ·rw[if_pos hA]at hv
   rw[←hv];by_cases hx0:x<0
   ·have hx0':decide (x<0)=true:=by simpa using hx0
    repeat(first|refine aa_ ?_|simp only[go_sem,hg,hx0'])
    refine Rn_ ?_
    exact ag_
   ·have hx0':decide (x<0)=false:=by simpa using hx0
    have hx1:decide (n≤x)=true:=by rw[decide_eq_true_eq];omega
    repeat(first|refine aa_ ?_|simp only[go_sem,hg,hx0',hx1])
    refine Rn_ ?_
    exact ag_
  ·rw [if_neg hA] at hv
   have hx0':decide (x<0)=false:=by rw[decide_eq_false_iff_not];omega
   have hx1:decide (n≤x)=false:=by rw[decide_eq_false_iff_not];omega
   repeat(first|refine aa_ ?_|simp only[go_sem,hg,hx0',hx1])
   refine ab_ ?_;by_cases hp:0<i
   ·have hp':decide ((0:Int)<(i:Int))=true:=by rw[decide_eq_true_eq];omega
    have hw1:IntKind.i64.wrap ((i:Int)-1)=((i-1:Nat):Int):=by rw[ax_ (by omega) (by omega)];omega
    have hg2:=eo_ (k:=.i64) (show i-1<l.length by omega);by_cases hB:x≤l.getD (i-1) 0
    ·have hB':decide (x≤l.getD (i-1) 0)=true:=by simpa using hB
     rw[if_pos ⟨hp,hB⟩]at hv;rw[←hv];repeat(first|refine aa_ ?_|simp only[go_sem,hg,hp',hw1,hg2,hB'])
     refine Rn_ ?_
     exact ag_
    ·have hB':decide (x≤l.getD (i-1) 0)=false:=by simpa using hB
     rw[if_neg (fun hh=>hB hh.2)]at hv;repeat(first|refine aa_ ?_|simp only[go_sem,hg,hp',hw1,hg2,hB'])
     refine ab_ ?_;repeat(first|refine aa_ ?_|simp only[go_sem,hw])
     exact⟨i+1,⟨h1,hv⟩,by omega,rfl⟩
   ·have hp':decide ((0:Int)<(i:Int))=false:=by rw[decide_eq_false_iff_not];omega
    rw[if_neg (fun hh=>hp hh.1)]at hv;repeat(first|refine aa_ ?_|simp only[go_sem,hp'])
    refine ab_ ?_;repeat(first|refine aa_ ?_|simp only[go_sem,hw])
    exact⟨i+1,⟨h1,hv⟩,by omega,rfl⟩
 ·have h1:i=l.length:=by simp at h;omega
  subst h1;rw[←hv,si_ (by omega)];try refine aa_ ?_
  exact ag_
theorem fH_(l:List Int)(cl:Bool)(n:Int)(hb:l.length≤140737488355328):PC Tryz.prog 127 [.sl 1 cl (aq_ .i64 l),.int .i64 n] (.int .i64 (cV_ l n)):=by
 refine PC.fact 6 nO_ (by simp) ⟨aN_ .i64 l,trivial,trivial⟩ trivial ?_;unfold hI_ cV_;refine bd ?_;by_cases h0:l=[]
 ·subst h0;rw[if_pos rfl];try refine aa_ ?_
  refine Rn_ ?_
  exact ag_
 rw[if_neg h0];have hl:0<l.length:=List.length_pos_iff.2 h0;have hl':((l.length:Int)==0)=false:=by simp;omega
 repeat(first|refine aa_ ?_|simp only[go_sem,hl'])
 refine ab_ ?_ (by(try simp only[go_sem,hl']);try exact evd);try refine aa_ ?_
 refine gE_ (fun i:Nat=>⟨6,[.sl 1 cl (aq_ .i64 l),.int .i64 n,.dead,.dead,.int .i64 0,.int .i64 i],[]⟩) (fun _=>[]) (fun i=>l.length-i) (fun i=>i≤l.length∧ku_ l n i=ku_ l n 0) [] 0 ⟨by omega,rfl⟩ evd rfl ?_;rintro i ⟨hi,hv⟩;try dsimp only
 try refine aa_ ?_
 refine bL_ evd (fun h=>?_) (fun h=>?_)
 ·have h1:i<l.length:=by simp at h;omega
  have hg:=eo_ (k:=.i64) h1;have hi':((i:Int)+1)=((i+1:Nat):Int):=by omega
  have hw:=af_ h1 (by omega);rw[kT_ h1]at hv;generalize hx:l.getD i 0=x at *;by_cases hA:x<0∨n≤x
  ·rw[if_pos hA]at hv
   rw[←hv];by_cases hx0:x<0
   ·have hx0':decide (x<0)=true:=by simpa using hx0
    repeat(first|refine aa_ ?_|simp only[go_sem,hg,hx0'])
    refine Rn_ ?_
    exact ag_
   ·have hx0':decide (x<0)=false:=by simpa using hx0
    have hx1:decide (n≤x)=true:=by rw[decide_eq_true_eq];omega
    repeat(first|refine aa_ ?_|simp only[go_sem,hg,hx0',hx1])
    refine Rn_ ?_
    exact ag_
  ·rw [if_neg hA] at hv
   have hx0':decide (x<0)=false:=by rw[decide_eq_false_iff_not];omega
   have hx1:decide (n≤x)=false:=by rw[decide_eq_false_iff_not];omega
   repeat(first|refine aa_ ?_|simp only[go_sem,hg,hx0',hx1])
   refine ab_ ?_;by_cases hp:0<i
   ·have hp':decide ((0:Int)<(i:Int))=true:=by rw[decide_eq_true_eq];omega
    have hw1:IntKind.i64.wrap ((i:Int)-1)=((i-1:Nat):Int):=by rw[ax_ (by omega) (by omega)];omega
    have hg2:=eo_ (k:=.i64) (show i-1<l.length by omega);by_cases hB:x≤l.getD (i-1) 0
    ·have hB':decide (x≤l.getD (i-1) 0)=true:=by simpa using hB
     rw[if_pos ⟨hp,hB⟩]at hv;rw[←hv];repeat(first|refine aa_ ?_|simp only[go_sem,hg,hp',hw1,hg2,hB'])
     refine Rn_ ?_
     exact ag_
    ·have hB':decide (x≤l.getD (i-1) 0)=false:=by simpa using hB
     rw[if_neg (fun hh=>hB hh.2)]at hv;repeat(first|refine aa_ ?_|simp only[go_sem,hg,hp',hw1,hg2,hB'])
     refine ab_ ?_;repeat(first|refine aa_ ?_|simp only[go_sem,hw])
     exact⟨i+1,⟨h1,hv⟩,by omega,rfl⟩
   ·have hp':decide ((0:Int)<(i:Int))=false:=by rw[decide_eq_false_iff_not];omega
    rw[if_neg (fun hh=>hp hh.1)]at hv;repeat(first|refine aa_ ?_|simp only[go_sem,hp'])
    refine ab_ ?_;repeat(first|refine aa_ ?_|simp only[go_sem,hw])
    exact⟨i+1,⟨h1,hv⟩,by omega,rfl⟩
 ·have h1:i=l.length:=by simp at h;omega
  subst h1;rw[←hv,si_ (by omega)];try refine aa_ ?_
  exact ag_
def Rw_(f:FuncId)(xs:List AV)(e:List UInt8):Prop:=∀bs:List UInt8,bs.length+e.length≤140737488355328→ap_ Tryz.prog f (.hs 1 0 0 bs.length::xs) [.vec 1 (bts bs)] (.hs 1 1 0 (bs.length+e.length)) [.gone,.vec 1 (bts (bs++e))]
theorem sd_(l:List Int)(cl:Bool)(hv:cV_ l 1024=0):Rw_ 264 [.sl 1 cl (aq_ .i64 l)] (yh_ l):=by
 intro bs hb;refine ap_.fact 6 Dx_ (by simp) ?_ (by simp);unfold su_;refine bd ?_;have hl:(yh_ l).length=(bY_ l.length).length+(ko_ l 0).length:=by rw[yh_,List.length_append]
 have hll:l.length≤(ko_ l 0).length:=zJ_ l 0 (by omega);have hu:=(cp_ (l.length:Int) (by omega) (by omega)).own bs (by rw[Int.toNat_natCast];omega);rw[Int.toNat_natCast]at hu;have hw0:IntKind.u64.wrap (l.length:Int)=(l.length:Int):=aF_ (by omega) (by omega);repeat(first|refine aa_ ?_|simp only[go_sem,hw0])
 refine bj_ [0] (hu) evd (aV_.mk' (by simp) evd) ?_;refine evg ?_;try refine aa_ ?_
 refine gF_ (fun x:List UInt8×Nat=>⟨6,[.hs 1 1 0 x.1.length,.sl 1 cl (aq_ .i64 l),.dead,.dead,.sl 0 true [],.int .i64 x.2],[]⟩)
  (fun x=>[.gone,.vec 1 (bts x.1)]) (fun x=>l.length-x.2) (fun x=>x.2≤l.length∧x.1++ko_ l x.2=bs++yh_ l) (bs++bY_ l.length,0) ⟨by simp,by simp[yh_]⟩ ?_ ?_
 ·simp only[List.length_append];exact ST_ [] [0,1]
 rintro⟨acc,i⟩ ⟨h1,h2⟩;dsimp only at h1 h2 ⊢;have hal:acc.length+(ko_ l i).length=bs.length+(yh_ l).length:=by simpa using congrArg List.length h2
 try refine aa_ ?_
 refine bL_ evd (fun h=>?_) (fun h=>?_)
 ·have hi:i<l.length:=by simpa using h
  have hg:=eo_ (k:=.i64) hi;have hd:=Aw_ hv hi;have hi0:=(gN_ hv).2 i hi;rw[pr_ hi]at h2 hal;rw[List.length_append]at hal;have ha:=(cp_ (hM_ l i) hd.1 (by omega)).own acc (by omega);have hw:=af_ hi (by omega);have hwd:IntKind.u64.wrap (hM_ l i)=hM_ l i:=aF_ (by omega) (by omega);by_cases hp:0<i
  ·have hp':((i:Int)==0)=false:=by simp;omega
   have hi1:=(gN_ hv).2 (i-1) (by omega);have hw1:IntKind.i64.wrap ((i:Int)-1)=((i-1:Nat):Int):=by rw[ax_ (by omega) (by omega)];omega
   have hg2:=eo_ (k:=.i64) (show i-1<l.length by omega);have hw2:IntKind.i64.wrap (l.getD i 0-l.getD (i-1) 0)=l.getD i 0-l.getD (i-1) 0:=ax_ (by omega) (by omega);have hw3:IntKind.i64.wrap (l.getD i 0-l.getD (i-1) 0-1)=hM_ l i:=by rw[hM_,if_neg (by omega),ax_ (by omega) (by omega)];omega
   repeat(first|refine aa_ ?_|simp only[go_sem,hp'])
   refine ab_ ?_ (by(try simp only[go_sem,hp']);try exact evd);repeat(first|refine aa_ ?_|simp only[go_sem,hg,hw1,hg2,hw2,hw3,hwd])
   refine bv_ [1] (ha) (by simp) evd (bR_.mk' (by simp) (by simp) evd) ?_;refine evg ?_;repeat(first|refine aa_ ?_|simp only[go_sem,hw])
   refine⟨(acc++bY_ (hM_ l i).toNat,i+1),⟨hi,by simpa using h2⟩,by dsimp only;omega,?_⟩;simp only[List.length_append];exact ST_ [] [0,2]
  ·have h0:i=0:=by omega
   subst h0;have e0:l.getD 0 0=hM_ l 0:=by rw[hM_,if_pos rfl]
   have hz:IntKind.i64.wrap ((0:Int)+1)=1:=by decide
   rw[e0]at hg;try refine aa_ ?_
   refine ac_ ?_;repeat(first|refine aa_ ?_|simp only[go_sem,hg,hwd])
   refine bj_ [1] (ha) evd (aV_.mk' (by simp) evd) ?_;refine evg ?_;repeat(first|refine aa_ ?_|simp only[go_sem,hz])
   refine⟨(acc++bY_ (hM_ l 0).toNat,0+1),⟨hi,by simpa using h2⟩,by dsimp only;omega,?_⟩;simp only[List.length_append];exact ST_ [] [0,2]
 ·have hi:i=l.length:=by simp at h;omega
  subst hi;rw[zI_ (by omega),List.append_nil]at h2;rw[←h2];have h3:=congrArg List.length h2;rw[List.length_append]at h3;rw[←h3];try refine aa_ ?_
  exact SM_ [] [0,1]
end Go.Proofs.YtkgimpdgncakjaaGreat
namespace Go.Proofs.YtkgimpdgncakjaaGreat
open Go Go.FH Go.RowKit
set_option linter.unusedVariables false
set_option linter.unusedSimpArgs false
theorem IE_{l:List Int}{n:Int}(h:cV_ l n=0):∀j,j<l.length→(j:Int)≤l.getD j 0
 |0,hj=>by have:=((gN_ h).2 0 hj).1;omega
 | j + 1, hj => by
   have h1:=IE_ h j (by omega);have h2:=((gN_ h).2 (j+1) hj).2.2 (by omega);simp only[Nat.add_sub_cancel]at h2;omega
theorem Or_{l:List Int}{n:Nat}(h:cV_ l n=0):l.length≤n:=by
 by_cases h0:l.length=0
 ·omega
 ·have h1:=IE_ h (l.length-1) (by omega);have h2:=((gN_ h).2 (l.length-1) (by omega)).2.1;omega
theorem Ef_{l:List Int}(hv:cV_ l 1024=0):∀ (k i:Nat),l.length-i=k→(ko_ l i).length≤10*k
 |0,i,hk=>by rw[zI_ (by omega)];simp
 | k + 1, i, hk => by
   rw[pr_ (by omega),List.length_append];have h1:=Ef_ hv k (i+1) (by omega);have h2:=Aw_ hv (j:=i) (by omega);have h3:=fy_ (n:=(hM_ l i).toNat) (by omega);omega
theorem HZ_{l:List Int}(hv:cV_ l 1024=0):(yh_ l).length≤10250:=by
 have h1:=Or_ (n:=1024) hv;have h2:=Ef_ hv _ 0 rfl;have h3:=fy_ (n:=l.length) (by omega);rw[yh_,List.length_append];omega
def RB_(x:Att)(l:List Int):List UInt8:=bY_ x.slot.toNat++x.root.1++gk_ x.target++yh_ l
structure U64(n:Int):Prop where
 lo:0≤n
 hi:n<18446744073709551616
theorem U64.len{n:Int}(h:U64 n):(bY_ n.toNat).length≤10:=fy_ (by have:=h.lo;have:=h.hi;omega)
theorem nn_{c:Cp}(h:U64 c.ep):(gk_ c).length≤42:=by
 have:=h.len;have:=c.rt.2;rw[gk_,List.length_append];omega
theorem NM_(x:Att)(l:List Int)(cl:Bool)(hx:x.vals=.sl 1 cl (aq_ .i64 l))(hl:l.length≤140737488355328)(h1:U64 x.slot)(h2:U64 x.target.ep):
 PC Tryz.prog 239 [.agg (bi_ x)] (.tup [.sl 1 false (bts (if cV_ l 1024=0 then RB_ x l else [])),.int .i64 (cV_ l 1024)]):=by
 refine PC.fact 5 jI_ (by simp) ⟨(et_ x).2 (by rw[Att.Pure,hx];exact aN_ _ _),trivial⟩ ⟨jE_ _,trivial,trivial⟩ ?_;unfold fj_;refine bd ?_;have hc:=fH_ l cl 1024 hl;have hg:x.good=true:=by rw[Att.good,hx];rfl
 by_cases hv:cV_ l 1024=0
 ·have hr:=x.root.2;have q1:=h1.len;have q2:=nn_ h2;have q3:=HZ_ hv;have p1:=(cp_ x.slot h1.lo h1.hi).nil (by omega);have p2:=(eh_ x.root).own (bY_ x.slot.toNat) (by omega);have p3:=(qY_ x.target h2.lo h2.hi).own (bY_ x.slot.toNat++x.root.1) (by rw[List.length_append];omega);have p4:=sd_ l cl hv (bY_ x.slot.toNat++x.root.1++gk_ x.target) (by simp only[List.length_append];omega);rw[if_pos hv];rw[hv]at hc ⊢;repeat(first|refine aa_ ?_|simp only[go_sem,hx,hg])
  refine Sv_ hc ?_
  refine ab_ ?_;repeat(first|refine aa_ ?_|simp only[go_sem,hx])
  refine bv_ [] (p1) (by simp) evd (bR_.mk' (by simp) (by simp) evd) ?_;refine evg ?_;try refine aa_ ?_
  refine bv_ [1] (p2) (by simp) evd (bR_.mk' (by simp) (by simp) evd) ?_;refine evg ?_;try refine aa_ ?_
  refine bv_ [2] (p3) (by simp) evd (bR_.mk' (by simp) (by simp) evd) ?_;refine evg ?_;repeat(first|refine aa_ ?_|simp only[go_sem,hx])
  refine bv_ [3] (p4) (by simp) evd (bR_.mk' (by simp) (by simp) evd) ?_;refine evg ?_;try refine aa_ ?_
  exact ag_
 ·have hv':(cV_ l 1024 != 0)=true:=by simpa using hv
  rw[if_neg hv];repeat(first|refine aa_ ?_|simp only[go_sem,hx,hg])
  refine Sv_ hc ?_
  refine ac_ ?_ (by(try simp only[go_sem,hv']);try exact evd);try refine aa_ ?_
  refine⟨_,rfl,.inr ⟨.tup [.sl 0 true [],.int .i64 (cV_ l 1024)],evd,⟨trivial,trivial,trivial⟩,Wk.tup ⟨Wk.empty _ _ _,Wk.refl _,trivial⟩⟩⟩
def oK_(x:Clm)(l:List Int):List UInt8:=bY_ x.src.toNat++bY_ x.tgt.toNat++x.root.1++yh_ l
structure rm_(x:Clm)(l:List Int)(cl:Bool):Prop where
 src:U64 x.src
 tgt:U64 x.tgt
 vals:x.vals=.sl 1 cl (aq_ .i64 l)
 len:l.length≤140737488355328
theorem uF_{x:Clm}{l:List Int}{cl:Bool}(h:rm_ x l cl)(hv:cV_ l 1024=0):(oK_ x l).length≤10302:=by
 have:=h.src.len;have:=h.tgt.len;have:=HZ_ hv;have:=x.root.2;simp only[oK_,List.length_append];omega
theorem rm_.good{x:Clm}{l:List Int}{cl:Bool}(h:rm_ x l cl):x.good=true:=by rw[Clm.good,h.vals];rfl
theorem rm_.pu{x:Clm}{l:List Int}{cl:Bool}(h:rm_ x l cl):x.Pure:=by rw[Clm.Pure,h.vals];exact aN_ _ _
theorem rm_.map{x:Clm}{l:List Int}{cl:Bool}(h:rm_ x l cl)(ρ:Nat→Nat):x.map (ren ρ)=x:=by
 have hv:=h.vals;obtain⟨s,t,r,v⟩:=x;simp only at hv;subst hv;simp only[Clm.map,ren,cw_]
theorem Hu_(x:Clm)(l:List Int)(cl:Bool)(hx:rm_ x l cl)(hv:cV_ l 1024=0):Rw_ 265 [.agg (bO_ x)] (oK_ x l):=by
 intro bs hb;refine ap_.fact 5 qA_ (by simp) ?_ (by simp);unfold kD_;refine bd ?_;simp only[oK_,List.length_append,←List.append_assoc,←Nat.add_assoc]at hb ⊢;have hg:=hx.good;have hvs:=hx.vals;have p1:=(cp_ x.src hx.src.lo hx.src.hi).own bs (by omega);have p2:=(cp_ x.tgt hx.tgt.lo hx.tgt.hi).own (bs++bY_ x.src.toNat) (by simp only[List.length_append];omega);have p3:=(eh_ x.root).own (bs++bY_ x.src.toNat++bY_ x.tgt.toNat) (by simp only[List.length_append];omega);have p4:=sd_ l cl hv (bs++bY_ x.src.toNat++bY_ x.tgt.toNat++x.root.1) (by simp only[List.length_append];omega);repeat(first|refine aa_ ?_|simp only[go_sem,hg])
 refine bv_ [0] (p1) (by simp) evd (bR_.mk' (by simp) (by simp) evd) ?_;refine evg ?_;try refine aa_ ?_
 refine bv_ [2] (p2) (by simp) evd (bR_.mk' (by simp) (by simp) evd) ?_;refine evg ?_;try refine aa_ ?_
 refine bv_ [3] (p3) (by simp) evd (bR_.mk' (by simp) (by simp) evd) ?_;refine evg ?_;repeat(first|refine aa_ ?_|simp only[go_sem,hvs])
 refine bv_ [4] (p4) (by simp) evd (bR_.mk' (by simp) (by simp) evd) ?_;refine evg ?_;try refine aa_ ?_
 exact SM_ [] [0,5]
theorem Ht_(x:Clm)(l:List Int)(cl:Bool)(hx:rm_ x l cl)(hv:cV_ l 1024=0):ap_ Tryz.prog 265 [.sl 0 true [],.agg (bO_ x)] [] (.hs 1 0 0 (oK_ x l).length) [.vec 1 (bts (oK_ x l))]:=by
 refine ap_.fact 5 qA_ (by simp) ?_ (by simp);have hb:=uF_ hx hv;unfold kD_;refine bd ?_;simp only[oK_,List.length_append,←List.append_assoc,←Nat.add_assoc]at hb ⊢;have hg:=hx.good;have hvs:=hx.vals;have p1:=(cp_ x.src hx.src.lo hx.src.hi).nil (by omega);have p2:=(cp_ x.tgt hx.tgt.lo hx.tgt.hi).own (bY_ x.src.toNat) (by omega);have p3:=(eh_ x.root).own (bY_ x.src.toNat++bY_ x.tgt.toNat) (by simp only[List.length_append];omega);have p4:=sd_ l cl hv (bY_ x.src.toNat++bY_ x.tgt.toNat++x.root.1) (by simp only[List.length_append];omega);repeat(first|refine aa_ ?_|simp only[go_sem,hg])
 refine bv_ [] (p1) (by simp) evd (bR_.mk' (by simp) (by simp) evd) ?_;refine evg ?_;try refine aa_ ?_
 refine bv_ [1] (p2) (by simp) evd (bR_.mk' (by simp) (by simp) evd) ?_;refine evg ?_;try refine aa_ ?_
 refine bv_ [2] (p3) (by simp) evd (bR_.mk' (by simp) (by simp) evd) ?_;refine evg ?_;repeat(first|refine aa_ ?_|simp only[go_sem,hvs])
 refine bv_ [3] (p4) (by simp) evd (bR_.mk' (by simp) (by simp) evd) ?_;refine evg ?_;try refine aa_ ?_
 exact SM_ [] [4]
def ES_(l1 l2:List Int):Int:=if cV_ l1 1024=0 then cV_ l2 1024 else cV_ l1 1024
def Qw_(x:Slg)(l1 l2:List Int):List UInt8:=oK_ x.fst l1++oK_ x.snd l2
theorem NO_(x:Slg)(l1 l2:List Int)(c1 c2:Bool)(h1:rm_ x.fst l1 c1)(h2:rm_ x.snd l2 c2):
 PC Tryz.prog 240 [.agg (cs_ x)] (.tup [.sl 1 false (bts (if ES_ l1 l2=0 then Qw_ x l1 l2 else [])),.int .i64 (ES_ l1 l2)]):=by
 refine PC.fact 6 lE_ (by simp) ⟨(fN_ x).2 ⟨h1.pu,h2.pu⟩,trivial⟩ ⟨jE_ _,trivial,trivial⟩ ?_;unfold gp_;refine bd ?_;have hg:x.good=true:=by rw[Slg.good,h1.good,h2.good];rfl
 have hv1:=h1.vals;have hv2:=h2.vals;have m1:=h1.map;have m2:=h2.map;have k1:=fH_ l1 c1 1024 h1.len;have k2:=fH_ l2 c2 1024 h2.len;unfold ES_;by_cases e1:cV_ l1 1024=0
 ·simp only[e1,if_true]
  rw[e1]at k1;by_cases e2:cV_ l2 1024=0
  ·simp only[e2,if_true];rw[e2]at k2;have q1:=uF_ h1 e1;have q2:=uF_ h2 e2;have p1:=Ht_ x.fst l1 c1 h1 e1;have p2:=Hu_ x.snd l2 c2 h2 e2 (oK_ x.fst l1) (by omega);repeat(first|refine aa_ ?_|simp only[go_sem,hg,hv1,hv2])
   refine Sv_ k1 ?_
   refine ab_ ?_;repeat(first|refine aa_ ?_|simp only[go_sem,hg,hv1,hv2])
   refine Sv_ k2 ?_
   refine Rm_ ?_
   refine bv_ [] (p1) (by simp) (by(try simp only[go_sem,m1]);try exact evd) (bR_.mk' (by simp) (by simp) (by(try simp only[go_sem,m1]);try exact evd)) ?_;refine evg ?_;try refine aa_ ?_
   refine bv_ [1] (p2) (by simp) (by(try simp only[go_sem,m2]);try exact evd) (bR_.mk' (by simp) (by simp) (by(try simp only[go_sem,m2]);try exact evd)) ?_;refine evg ?_;try refine aa_ ?_
   exact ag_
  ·have e2':(cV_ l2 1024 != 0)=true:=by simpa using e2
   simp only[e2,if_false];repeat(first|refine aa_ ?_|simp only[go_sem,hg,hv1,hv2])
   refine Sv_ k1 ?_
   refine ab_ ?_;repeat(first|refine aa_ ?_|simp only[go_sem,hg,hv1,hv2])
   refine Sv_ k2 ?_
   refine ac_ ?_ (by(try simp only[go_sem,e2']);try exact evd);try refine aa_ ?_
   refine⟨_,rfl,.inr ⟨.tup [.sl 0 true [],.int .i64 (cV_ l2 1024)],evd,⟨trivial,trivial,trivial⟩,Wk.tup ⟨Wk.empty _ _ _,Wk.refl _,trivial⟩⟩⟩
 ·have e1':(cV_ l1 1024 != 0)=true:=by simpa using e1
  simp only[e1,if_false];repeat(first|refine aa_ ?_|simp only[go_sem,hg,hv1,hv2])
  refine Sv_ k1 ?_
  refine ac_ ?_ (by(try simp only[go_sem,e1']);try exact evd);try refine aa_ ?_
  refine⟨_,rfl,.inr ⟨.tup [.sl 0 true [],.int .i64 (cV_ l1 1024)],evd,⟨trivial,trivial,trivial⟩,Wk.tup ⟨Wk.empty _ _ _,Wk.refl _,trivial⟩⟩⟩
def Sd_(x:Vdt):List UInt8:=bY_ x.tag.toNat++bY_ x.kind.toNat++x.latest.1
def Fm_(x:Vdt):Prop:=x.kind<1∨4<x.kind
instance (x:Vdt):Decidable (Fm_ x):=inferInstanceAs (Decidable (_∨_))
theorem NQ_(x:Vdt)(h1:U64 x.tag):
 PC Tryz.prog 242 [.agg (cA_ x)] (.tup [.sl 1 false (bts (if Fm_ x then []else Sd_ x)),.int .i64 (if Fm_ x then 3 else 0)]):=by
 refine PC.fact 4 mH_ (by simp) ⟨lN_ x,trivial⟩ ⟨jE_ _,trivial,trivial⟩ ?_;unfold hb_;refine bd ?_;by_cases hv:Fm_ x
 ·rw[if_pos hv,if_pos hv]
  unfold Fm_ at hv;by_cases ha:x.kind<1
  ·have ha':decide (x.kind<1)=true:=by simpa using ha
   repeat(first|refine aa_ ?_|simp only[go_sem,ha'])
   refine Rn_ ?_
   refine⟨_,rfl,.inr ⟨.tup [.sl 0 true [],.int .i64 3],evd,⟨trivial,trivial,trivial⟩,Wk.tup ⟨Wk.empty _ _ _,Wk.refl _,trivial⟩⟩⟩
  ·have ha':decide (x.kind<1)=false:=by simpa using ha
   have hb':decide (4<x.kind)=true:=by rw[decide_eq_true_eq];omega
   repeat(first|refine aa_ ?_|simp only[go_sem,ha',hb'])
   refine Rn_ ?_
   refine⟨_,rfl,.inr ⟨.tup [.sl 0 true [],.int .i64 3],evd,⟨trivial,trivial,trivial⟩,Wk.tup ⟨Wk.empty _ _ _,Wk.refl _,trivial⟩⟩⟩
 ·rw[if_neg hv,if_neg hv];unfold Fm_ at hv;have ha':decide (x.kind<1)=false:=by rw[decide_eq_false_iff_not];omega
  have hb':decide (4<x.kind)=false:=by rw[decide_eq_false_iff_not];omega
  have hw:IntKind.u64.wrap x.kind=x.kind:=aF_ (by omega) (by omega);have hr:=x.latest.2;have q1:=h1.len;have q2:=fy_ (n:=x.kind.toNat) (by omega);have p1:=(cp_ x.tag h1.lo h1.hi).nil (by omega);have p2:=(cp_ x.kind (by omega) (by omega)).own (bY_ x.tag.toNat) (by omega);have p3:=(eh_ x.latest).own (bY_ x.tag.toNat++bY_ x.kind.toNat) (by rw[List.length_append];omega);repeat(first|refine aa_ ?_|simp only[go_sem,ha',hb'])
  refine ab_ ?_;repeat(first|refine aa_ ?_|simp only[go_sem,hw])
  refine bv_ [] (p1) (by simp) evd (bR_.mk' (by simp) (by simp) evd) ?_;refine evg ?_;repeat(first|refine aa_ ?_|simp only[go_sem,hw])
  refine bv_ [1] (p2) (by simp) evd (bR_.mk' (by simp) (by simp) evd) ?_;refine evg ?_;try refine aa_ ?_
  refine bv_ [2] (p3) (by simp) evd (bR_.mk' (by simp) (by simp) evd) ?_;refine evg ?_;try refine aa_ ?_
  exact ag_
def RM_(x:Blk):List UInt8:=bY_ x.slot.toNat++x.root.1++x.parent.1++x.payload.1++(ds_ x.diff).1++(ds_ x.pdiff).1++gk_ x.just++gk_ x.fin++gk_ x.pul.j++gk_ x.pul.f++IZ_ x.timely
structure LH_(x:Blk):Prop where
 slot:U64 x.slot
 just:U64 x.just.ep
 fin:U64 x.fin.ep
 j:U64 x.pul.j.ep
 f:U64 x.pul.f.ep
theorem NN_(x:Blk)(hx:LH_ x):PC Tryz.prog 238 [.sl 0 true [],.agg (al_ x)] (.sl 1 false (bts (RM_ x))):=by
 refine PC.fact 5 By_ (by simp) ⟨trivial,dI_ x,trivial⟩ (jE_ _) ?_;unfold qj_;refine bd ?_;have r1:=x.root.2;have r2:=x.parent.2;have r3:=x.payload.2;have r4:=(ds_ x.diff).2;have r5:=(ds_ x.pdiff).2;have q1:=hx.slot.len;have q2:=nn_ hx.just;have q3:=nn_ hx.fin;have q4:=nn_ hx.j;have q5:=nn_ hx.f;have q6:(IZ_ x.timely).length≤1:=by cases x.timely<;>simp[IZ_]
 have p1:=(cp_ x.slot hx.slot.lo hx.slot.hi).nil (by omega);have p2:=(eh_ x.root).own (bY_ x.slot.toNat) (by omega);have p3:=(eh_ x.parent).own _ (by simp only[List.length_append];omega:(bY_ x.slot.toNat++x.root.1).length+x.parent.1.length≤140737488355328);have p4:=(eh_ x.payload).own _ (by simp only[List.length_append];omega:(bY_ x.slot.toNat++x.root.1++x.parent.1).length+x.payload.1.length≤140737488355328);have p5:=(As_ x.diff).own _ (by simp only[List.length_append];omega:(bY_ x.slot.toNat++x.root.1++x.parent.1++x.payload.1).length+(ds_ x.diff).1.length≤140737488355328);have p6:=(As_ x.pdiff).own _ (by simp only[List.length_append];omega:(bY_ x.slot.toNat++x.root.1++x.parent.1++x.payload.1++(ds_ x.diff).1).length+(ds_ x.pdiff).1.length≤140737488355328);have p7:=(qY_ x.just hx.just.lo hx.just.hi).own _ (by simp only[List.length_append];omega:(bY_ x.slot.toNat++x.root.1++x.parent.1++x.payload.1++(ds_ x.diff).1++(ds_ x.pdiff).1).length+(gk_ x.just).length≤140737488355328);have p8:=(qY_ x.fin hx.fin.lo hx.fin.hi).own _ (by simp only[List.length_append];omega:(bY_ x.slot.toNat++x.root.1++x.parent.1++x.payload.1++(ds_ x.diff).1++(ds_ x.pdiff).1++gk_ x.just).length+(gk_ x.fin).length≤140737488355328);have p9:=(qY_ x.pul.j hx.j.lo hx.j.hi).own _ (by simp only[List.length_append];omega:(bY_ x.slot.toNat++x.root.1++x.parent.1++x.payload.1++(ds_ x.diff).1++(ds_ x.pdiff).1++gk_ x.just++gk_ x.fin).length+(gk_ x.pul.j).length≤140737488355328);have p10:=(qY_ x.pul.f hx.f.lo hx.f.hi).own _ (by simp only[List.length_append];omega:(bY_ x.slot.toNat++x.root.1++x.parent.1++x.payload.1++(ds_ x.diff).1++(ds_ x.pdiff).1++gk_ x.just++gk_ x.fin++gk_ x.pul.j).length+(gk_ x.pul.f).length≤140737488355328);have p11:=(KW_ x.timely).own _ (by simp only[List.length_append];omega:(bY_ x.slot.toNat++x.root.1++x.parent.1++x.payload.1++(ds_ x.diff).1++(ds_ x.pdiff).1++gk_ x.just++gk_ x.fin++gk_ x.pul.j++gk_ x.pul.f).length+(IZ_ x.timely).length≤140737488355328);try refine aa_ ?_
 refine bv_ [] (p1) (by simp) evd (bR_.mk' (by simp) (by simp) evd) ?_;refine evg ?_;try refine aa_ ?_
 refine bv_ [1] (p2) (by simp) evd (bR_.mk' (by simp) (by simp) evd) ?_;refine evg ?_;try refine aa_ ?_
 refine bv_ [2] (p3) (by simp) evd (bR_.mk' (by simp) (by simp) evd) ?_;refine evg ?_;try refine aa_ ?_
 refine bv_ [3] (p4) (by simp) evd (bR_.mk' (by simp) (by simp) evd) ?_;refine evg ?_;try refine aa_ ?_
 refine bv_ [4] (p5) (by simp) evd (bR_.mk' (by simp) (by simp) evd) ?_;refine evg ?_;try refine aa_ ?_
 refine bv_ [5] (p6) (by simp) evd (bR_.mk' (by simp) (by simp) evd) ?_;refine evg ?_;try refine aa_ ?_
 refine bv_ [6] (p7) (by simp) evd (bR_.mk' (by simp) (by simp) evd) ?_;refine evg ?_;try refine aa_ ?_
 refine bv_ [7] (p8) (by simp) evd (bR_.mk' (by simp) (by simp) evd) ?_;refine evg ?_;try refine aa_ ?_
 refine bv_ [8] (p9) (by simp) evd (bR_.mk' (by simp) (by simp) evd) ?_;refine evg ?_;try refine aa_ ?_
 refine bv_ [9] (p10) (by simp) evd (bR_.mk' (by simp) (by simp) evd) ?_;refine evg ?_;try refine aa_ ?_
 refine bv_ [10] (p11) (by simp) evd (bR_.mk' (by simp) (by simp) evd) ?_;refine evg ?_;try refine aa_ ?_
 exact ag_
structure CU_(x:Tab)(l:List Int)(cl:Bool):Prop where
 ep:U64 x.cp.ep
 bals:x.bals=.sl 1 cl (aq_ .u64 l)
 all:∀n∈l,U64 n
 len:l.length≤140737488355328
def Ol_(x:Tab)(l:List Int):List UInt8:=gk_ x.cp++bY_ l.length++yn_ l
theorem Id_:∀ {l:List Int},(∀n∈l,U64 n)→(yn_ l).length≤10*l.length
 | [],_=>by simp[yn_]
 | n :: l, h => by
   have h1:=Id_ (l:=l) (fun m hm=>h m (by simp[hm]));have h2:=(h n (by simp)).len;simp only[yn_,List.length_append,List.length_cons];omega
theorem Kh_{l:List Int}{i:Nat}(h:i<l.length):yn_ (l.drop i)=bY_ (l.getD i 0).toNat++yn_ (l.drop (i+1)):=by
 rw[List.drop_eq_getElem_cons h,yn_,List.getD_eq_getElem?_getD,List.getElem?_eq_getElem h];rfl
theorem CU_.good{x:Tab}{l:List Int}{cl:Bool}(h:CU_ x l cl):x.good=true:=by rw[Tab.good,h.bals];rfl
theorem CU_.pu{x:Tab}{l:List Int}{cl:Bool}(h:CU_ x l cl):x.Pure:=by rw[Tab.Pure,h.bals];exact aN_ _ _
theorem CU_.getD{x:Tab}{l:List Int}{cl:Bool}(h:CU_ x l cl){i:Nat}(hi:i<l.length):U64 (l.getD i 0):=by
 rw[List.getD_eq_getElem?_getD,List.getElem?_eq_getElem hi];exact h.all _ (List.getElem_mem hi)
theorem NP_(x:Tab)(l:List Int)(cl:Bool)(hx:CU_ x l cl):
 PC Tryz.prog 241 [.agg (bb_ x)] (.tup [.sl 1 false (bts (if 1024<l.length then []else Ol_ x l)),.int .i64 (if 1024<l.length then 3 else 0)]):=by
 refine PC.fact 6 pn_ (by simp) ⟨(dX_ x).2 hx.pu,trivial⟩ ⟨jE_ _,trivial,trivial⟩ ?_;unfold ix_;refine bd ?_;have hg:=hx.good;have hv:=hx.bals;by_cases h0:1024<l.length
 ·have h0':decide ((1024:Int)<(l.length:Int))=true:=by rw[decide_eq_true_eq];omega
  rw[if_pos h0,if_pos h0];repeat(first|refine aa_ ?_|simp only[go_sem,hg,hv])
  refine ac_ ?_ (by(try simp only[go_sem,h0']);try exact evd);try refine aa_ ?_
  refine⟨_,rfl,.inr ⟨.tup [.sl 0 true [],.int .i64 3],evd,⟨trivial,trivial,trivial⟩,Wk.tup ⟨Wk.empty _ _ _,Wk.refl _,trivial⟩⟩⟩
 have h0':decide ((1024:Int)<(l.length:Int))=false:=by rw[decide_eq_false_iff_not];omega
 rw[if_neg h0,if_neg h0];have q1:=nn_ hx.ep;have q2:=fy_ (n:=l.length) (by omega);have q3:=Id_ hx.all;have hw:IntKind.u64.wrap (l.length:Int)=l.length:=aF_ (by omega) (by omega)
 have hm:∀ρ:Nat→Nat,x.map (ren ρ)=x:=by
  intro ρ;obtain⟨c,v⟩:=x;simp only at hv;subst hv;simp only[Tab.map,ren,cw_]
 have hmf:∀ (σ:St) (zs:List Nat),x.map (fz σ zs)=x:=by
  intro σ zs;obtain⟨c,v⟩:=x;simp only at hv;subst hv;simp only[Tab.map,fz,dl_]
 have hr:=x.cp.rt.2;have q4:=hx.ep.len;have p1:=(cp_ x.cp.ep hx.ep.lo hx.ep.hi).nil (by omega);have p2:=(eh_ x.cp.rt).own (bY_ x.cp.ep.toNat) (by omega);have p3:=(cp_ (l.length:Int) (by omega) (by omega)).own (bY_ x.cp.ep.toNat++x.cp.rt.1) (by rw[Int.toNat_natCast,List.length_append];omega);rw[Int.toNat_natCast]at p3;repeat(first|refine aa_ ?_|simp only[go_sem,hg,hv])
 refine ab_ ?_ (by(try simp only[go_sem,h0']);try exact evd);repeat(first|refine aa_ ?_|simp only[go_sem,hg,hv,hw])
 refine bv_ [] (p1) (by simp) evd (bR_.mk' (by simp) (by simp) evd) ?_;refine evg ?_;repeat(first|refine aa_ ?_|simp only[go_sem,hg,hv,hw])
 refine bv_ [1] (p2) (by simp) evd (bR_.mk' (by simp) (by simp) evd) ?_;refine evg ?_;repeat(first|refine aa_ ?_|simp only[go_sem,hg,hv,hw])
 refine bv_ [2] (p3) (by simp) evd (bR_.mk' (by simp) (by simp) evd) ?_;refine evg ?_;repeat(first|refine aa_ ?_|simp only[go_sem,hg,hv])
 refine gF_ (fun x':List UInt8×Nat=>⟨6,[.agg (bb_ x),.ptr 0 0,.sl 0 true [],.int .i64 0,.hs 1 1 0 x'.1.length,.int .i64 x'.2],[]⟩)
  (fun x'=>[.var (bb_ x),.vec 1 (bts x'.1)]) (fun x'=>l.length-x'.2) (fun x'=>x'.2≤l.length∧x'.1++yn_ (l.drop x'.2)=Ol_ x l) (gk_ x.cp++bY_ l.length,0) ⟨by simp,by simp[Ol_]⟩ ?_ ?_
 ·simp only[List.length_append,gk_,←List.append_assoc];refine GC.mk' [] [0,3] (by simp) rfl (by simp) (by simp) (by(try simp only[go_sem,hm,hmf]);try exact evd) (by(try simp only[go_sem,hm,hmf]);try exact evd)
 rintro⟨acc,i⟩ ⟨h1,h2⟩;dsimp only at h1 h2 ⊢;have hal:=congrArg List.length h2;simp only[Ol_,List.length_append]at hal;repeat(first|refine aa_ ?_|simp only[go_sem,hg,hv])
 refine bL_ evd (fun h=>?_) (fun h=>?_)
 ·have hi:i<l.length:=by simpa using h
  have hgd:=eo_ (k:=.u64) hi;have hu:=hx.getD hi;rw[Kh_ hi]at h2 hal;rw[List.length_append]at hal;have ha:=(cp_ (l.getD i 0) hu.lo hu.hi).own acc (by omega);have hwi:=af_ hi (by omega);repeat(first|refine aa_ ?_|simp only[go_sem,hgd,hg,hv])
  refine bj_ [1] (ha) evd (aV_.mk' (by simp) evd) ?_;refine evg ?_;repeat(first|refine aa_ ?_|simp only[go_sem,hwi])
  refine⟨(acc++bY_ (l.getD i 0).toNat,i+1),⟨hi,by simpa using h2⟩,by dsimp only;omega,?_⟩;simp only[List.length_append];refine GC.mk' [] [0,2] (by simp) rfl (by simp) (by simp) (by(try simp only[go_sem,hm,hmf]);try exact evd) (by(try simp only[go_sem,hm,hmf]);try exact evd)
 ·have hi:i=l.length:=by simp at h;omega
  subst hi;rw[List.drop_length,yn_,List.append_nil]at h2;rw[←h2];try refine aa_ ?_
  exact ag_
end Go.Proofs.YtkgimpdgncakjaaGreat
