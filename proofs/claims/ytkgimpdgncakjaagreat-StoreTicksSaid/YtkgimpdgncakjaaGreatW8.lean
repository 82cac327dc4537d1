/-
 My texts Eb, Ec, Ea, Ed, Ee, Ef, Eh, Eg, Ei, joined.
-/
import Derived.Test.YtkgimpdgncakjaaGreatW7
import Derived.Test.YtkgimpdgncakjaaGreatW4
import Derived.Test.YtkgimpdgncakjaaGreatW3
namespace Go.Proofs.YtkgimpdgncakjaaGreat
open Go Go.FH
set_option linter.unusedVariables false
set_option linter.unusedSimpArgs false
def jV_(l:List Int)(n:Int)(i:Nat):Int:=
 if i<l.length then (if l.getD i 0<0∨n≤l.getD i 0 then 3 else if 0<i∧l.getD i 0≤l.getD (i-1) 0 then 8 else jV_ l n (i+1))else 0
termination_by l.length-i
def cM_(l:List Int)(n:Int):Int:=if l=[]then 2 else jV_ l n 0
theorem kw_{l:List Int}{n:Int}{i:Nat}(h:i<l.length):jV_ l n i=if l.getD i 0<0∨n≤l.getD i 0 then 3 else if 0<i∧l.getD i 0≤l.getD (i-1) 0 then 8 else jV_ l n (i+1):=by
 rw[jV_,if_pos h]
theorem rg_{l:List Int}{n:Int}{i:Nat}(h:¬i<l.length):jV_ l n i=0:=by rw[jV_,if_neg h]
def hu_(l:List Int)(i:Nat):Int:=if i=0 then l.getD 0 0 else l.getD i 0-(l.getD (i-1) 0+1)
def jP_(l:List Int)(i:Nat):List UInt8:=if i<l.length then bN_ (hu_ l i).toNat++jP_ l (i+1)else []
termination_by l.length-i
theorem oB_{l:List Int}{i:Nat}(h:i<l.length):jP_ l i=bN_ (hu_ l i).toNat++jP_ l (i+1):=by rw[jP_,if_pos h]
theorem yi_{l:List Int}{i:Nat}(h:¬i<l.length):jP_ l i=[]:=by rw[jP_,if_neg h]
theorem yj_(l:List Int)(i:Nat)(hi:i≤l.length):l.length-i≤(jP_ l i).length:=by
 by_cases h:i<l.length
 ·rw[oB_ h,List.length_append];have:=yj_ l (i+1) h;have:=ME_ (hu_ l i).toNat
  omega
 ·omega
termination_by l.length-i
def wP_(l:List Int):List UInt8:=bN_ l.length++jP_ l 0
theorem DF_{l:List Int}{n:Int}:∀ (k i:Nat),l.length-i=k→jV_ l n i=0→∀j,i≤j→j<l.length→0≤l.getD j 0∧l.getD j 0<n∧(0<j→l.getD (j-1) 0<l.getD j 0)
 |0,i,hk,h,j,h1,h2=>by omega
 | k + 1, i, hk, h, j, h1, h2 => by
   rw[kw_ (by omega)]at h;split at h
   ·cases h
   ·rename_i ha
    split at h
    ·cases h
    ·rename_i hb
     by_cases hj:j=i
     ·subst hj;refine⟨by omega,by omega,fun h0=>?_⟩;have:=not_and.1 hb h0;omega
     ·exact DF_ k (i+1) (by omega) h j (by omega) h2
theorem gy_{l:List Int}{n:Int}(h:cM_ l n=0):l≠[]∧∀j,j<l.length→0≤l.getD j 0∧l.getD j 0<n∧(0<j→l.getD (j-1) 0<l.getD j 0):=by
 unfold cM_ at h;split at h
 ·cases h
 ·rename_i h0;exact⟨h0,fun j hj=>DF_ _ 0 rfl h j (by omega) hj⟩
theorem yT_{l:List Int}{n:Int}(h:cM_ l n=0){j:Nat}(hj:j<l.length):0≤hu_ l j∧hu_ l j<n:=by
 have h1:=(gy_ h).2 j hj;unfold hu_;split
 ·subst_vars;exact⟨h1.1,h1.2.1⟩
 ·have h2:=h1.2.2 (by omega);have h3:=(gy_ h).2 (j-1) (by omega);omega
def wW_:List Int→List UInt8
 | []=>[]
 |x::l=>bN_ x.toNat++wW_ l
theorem ed_{k:IntKind}{ns:List Int}{i:Nat}(h:i<ns.length):(aq_ k ns).getD i []=[.int k (ns.getD i 0)]:=by
 rw[Ij_ h,List.getD_eq_getElem?_getD,List.getElem?_eq_getElem h];rfl
theorem oR_(l:List Int)(cl:Bool)(n:Int)(hb:l.length≤140737488355328):PC Tryz.prog 120 [.sl 1 cl (aq_ .i64 l),.int .i64 n] (.int .i64 (cM_ l n)):=by
 refine PC.fact 13 kj_ (by simp) ⟨aM_ .i64 l,trivial,trivial⟩ trivial ?_;unfold fE_ cM_;refine bd ?_;by_cases h0:l=[]
 ·subst h0;rw[if_pos rfl];try refine aa_ ?_
  refine PH_ ?_
  exact af_
 rw[if_neg h0];have hl:0<l.length:=List.length_pos_iff.2 h0;have hl':((l.length:Int)==0)=false:=by simp;omega
 repeat(first|refine aa_ ?_|simp only[go_sem,hl'])
 refine ab_ ?_ (by(try simp only[go_sem,hl']);try exact evd);try refine aa_ ?_
 refine gr_ (fun i:Nat=>⟨13,[.sl 1 cl (aq_ .i64 l),.int .i64 n,.dead,.dead,.int .i64 0,.dead,.dead,.dead,.dead,.dead,.sl 1 cl (aq_ .i64 l),.int .i64 l.length,.int .i64 i],[]⟩) (fun _=>[]) (fun i=>l.length-i) (fun i=>i≤l.length∧jV_ l n i=jV_ l n 0) [5,6,7,8,9] 0 ⟨by omega,rfl⟩ evd rfl ?_;rintro i ⟨hi,hv⟩;try dsimp only
 try refine aa_ ?_
 refine bA_ evd (fun h=>?_) (fun h=>?_)
 ·have h1:i<l.length:=by simp at h;omega
  have hg:=ed_ (k:=.i64) h1;have hi':((i:Int)+1)=((i+1:Nat):Int):=by omega
  have hw:=ae_ h1 (by omega);rw[kw_ h1]at hv;generalize hx:l.getD i 0=x at *;by_cases hA:x<0∨n≤x
  ·rw[if_pos hA]at hv
   rw[←hv];by_cases hx0:x<0
   ·have hx0':decide (x<0)=true:=by simpa using hx0
    repeat(first|refine aa_ ?_|simp only[go_sem,hg,hx0'])
    refine PH_ ?_
    exact af_
   ·have hx0':decide (x<0)=false:=by simpa using hx0
    have hx1:decide (n≤x)=true:=by rw[decide_eq_true_eq];omega
    repeat(first|refine aa_ ?_|simp only[go_sem,hg,hx0',hx1])
    refine PH_ ?_
    exact af_
  ·rw [if_neg hA] at hv
   have hx0':decide (x<0)=false:=by rw[decide_eq_false_iff_not];omega
   have hx1:decide (n≤x)=false:=by rw[decide_eq_false_iff_not];omega
   repeat(first|refine aa_ ?_|simp only[go_sem,hg,hx0',hx1])
   refine ab_ ?_;by_cases hp:0<i
   ·have hp':decide ((0:Int)<(i:Int))=true:=by rw[decide_eq_true_eq];omega
    have hw1:IntKind.i64.wrap ((i:Int)-1)=((i-1:Nat):Int):=by rw[aF_ (by omega) (by omega)];omega
    have hg2:=ed_ (k:=.i64) (show i-1<l.length by omega);by_cases hB:x≤l.getD (i-1) 0
    ·have hB':decide (x≤l.getD (i-1) 0)=true:=by simpa using hB
     rw[if_pos ⟨hp,hB⟩]at hv;rw[←hv];repeat(first|refine aa_ ?_|simp only[go_sem,hg,hp',hw1,hg2,hB'])
     refine PH_ ?_
     exact af_
    ·have hB':decide (x≤l.getD (i-1) 0)=false:=by simpa using hB
     rw[if_neg (fun hh=>hB hh.2)]at hv;repeat(first|refine aa_ ?_|simp only[go_sem,hg,hp',hw1,hg2,hB'])
     refine ab_ ?_;repeat(first|refine aa_ ?_|simp only[go_sem,hw])
     exact⟨i+1,⟨h1,hv⟩,by omega,rfl⟩
   ·have hp':decide ((0:Int)<(i:Int))=false:=by rw[decide_eq_false_iff_not];omega
    rw[if_neg (fun hh=>hp hh.1)]at hv;repeat(first|refine aa_ ?_|simp only[go_sem,hp'])
    refine ab_ ?_;repeat(first|refine aa_ ?_|simp only[go_sem,hw])
    exact⟨i+1,⟨h1,hv⟩,by omega,rfl⟩
 ·have h1:i=l.length:=by simp at h;omega
  subst h1;rw[←hv,rg_ (by omega)];try refine aa_ ?_
  exact af_
theorem ft_(l:List Int)(cl:Bool)(n:Int)(hb:l.length≤140737488355328):PC Tryz.prog 127 [.sl 1 cl (aq_ .i64 l),.int .i64 n] (.int .i64 (cM_ l n)):=by
 refine PC.fact 6 mX_ (by simp) ⟨aM_ .i64 l,trivial,trivial⟩ trivial ?_;unfold hq_ cM_;refine bd ?_;by_cases h0:l=[]
 ·subst h0;rw[if_pos rfl];try refine aa_ ?_
  refine PH_ ?_
  exact af_
 rw[if_neg h0];have hl:0<l.length:=List.length_pos_iff.2 h0;have hl':((l.length:Int)==0)=false:=by simp;omega
 repeat(first|refine aa_ ?_|simp only[go_sem,hl'])
 refine ab_ ?_ (by(try simp only[go_sem,hl']);try exact evd);try refine aa_ ?_
 refine gr_ (fun i:Nat=>⟨6,[.sl 1 cl (aq_ .i64 l),.int .i64 n,.dead,.dead,.int .i64 0,.int .i64 i],[]⟩) (fun _=>[]) (fun i=>l.length-i) (fun i=>i≤l.length∧jV_ l n i=jV_ l n 0) [] 0 ⟨by omega,rfl⟩ evd rfl ?_;rintro i ⟨hi,hv⟩;try dsimp only
 try refine aa_ ?_
 refine bA_ evd (fun h=>?_) (fun h=>?_)
 ·have h1:i<l.length:=by simp at h;omega
  have hg:=ed_ (k:=.i64) h1;have hi':((i:Int)+1)=((i+1:Nat):Int):=by omega
  have hw:=ae_ h1 (by omega);rw[kw_ h1]at hv;generalize hx:l.getD i 0=x at *;by_cases hA:x<0∨n≤x
  ·rw[if_pos hA]at hv
   rw[←hv];by_cases hx0:x<0
   ·have hx0':decide (x<0)=true:=by simpa using hx0
    repeat(first|refine aa_ ?_|simp only[go_sem,hg,hx0'])
    refine PH_ ?_
    exact af_
   ·have hx0':decide (x<0)=false:=by simpa using hx0
    have hx1:decide (n≤x)=true:=by rw[decide_eq_true_eq];omega
    repeat(first|refine aa_ ?_|simp only[go_sem,hg,hx0',hx1])
    refine PH_ ?_
    exact af_
  ·rw [if_neg hA] at hv
   have hx0':decide (x<0)=false:=by rw[decide_eq_false_iff_not];omega
   have hx1:decide (n≤x)=false:=by rw[decide_eq_false_iff_not];omega
   repeat(first|refine aa_ ?_|simp only[go_sem,hg,hx0',hx1])
   refine ab_ ?_;by_cases hp:0<i
   ·have hp':decide ((0:Int)<(i:Int))=true:=by rw[decide_eq_true_eq];omega
    have hw1:IntKind.i64.wrap ((i:Int)-1)=((i-1:Nat):Int):=by rw[aF_ (by omega) (by omega)];omega
    have hg2:=ed_ (k:=.i64) (show i-1<l.length by omega);by_cases hB:x≤l.getD (i-1) 0
    ·have hB':decide (x≤l.getD (i-1) 0)=true:=by simpa using hB
     rw[if_pos ⟨hp,hB⟩]at hv;rw[←hv];repeat(first|refine aa_ ?_|simp only[go_sem,hg,hp',hw1,hg2,hB'])
     refine PH_ ?_
     exact af_
    ·have hB':decide (x≤l.getD (i-1) 0)=false:=by simpa using hB
     rw[if_neg (fun hh=>hB hh.2)]at hv;repeat(first|refine aa_ ?_|simp only[go_sem,hg,hp',hw1,hg2,hB'])
     refine ab_ ?_;repeat(first|refine aa_ ?_|simp only[go_sem,hw])
     exact⟨i+1,⟨h1,hv⟩,by omega,rfl⟩
   ·have hp':decide ((0:Int)<(i:Int))=false:=by rw[decide_eq_false_iff_not];omega
    rw[if_neg (fun hh=>hp hh.1)]at hv;repeat(first|refine aa_ ?_|simp only[go_sem,hp'])
    refine ab_ ?_;repeat(first|refine aa_ ?_|simp only[go_sem,hw])
    exact⟨i+1,⟨h1,hv⟩,by omega,rfl⟩
 ·have h1:i=l.length:=by simp at h;omega
  subst h1;rw[←hv,rg_ (by omega)];try refine aa_ ?_
  exact af_
def PR_(f:FuncId)(xs:List AV)(e:List UInt8):Prop:=∀bs:List UInt8,bs.length+e.length≤140737488355328→as_ Tryz.prog f (.hs 1 0 0 bs.length::xs) [.vec 1 (bts bs)] (.hs 1 1 0 (bs.length+e.length)) [.gone,.vec 1 (bts (bs++e))]
theorem rb_(l:List Int)(cl:Bool)(hv:cM_ l 1024=0):PR_ 264 [.sl 1 cl (aq_ .i64 l)] (wP_ l):=by
 intro bs hb;refine as_.fact 6 BP_ (by simp) ?_ (by simp);unfold rr_;refine bd ?_;have hl:(wP_ l).length=(bN_ l.length).length+(jP_ l 0).length:=by rw[wP_,List.length_append]
 have hll:l.length≤(jP_ l 0).length:=yj_ l 0 (by omega);have hu:=(cb_ (l.length:Int) (by omega) (by omega)).own bs (by rw[Int.toNat_natCast];omega);rw[Int.toNat_natCast]at hu;have hw0:IntKind.u64.wrap (l.length:Int)=(l.length:Int):=aL_ (by omega) (by omega);repeat(first|refine aa_ ?_|simp only[go_sem,hw0])
 refine bT_ [0] (hu) evd (bn_.mk' (by simp) evd) ?_;refine evg ?_;try refine aa_ ?_
 refine gs_ (fun x:List UInt8×Nat=>⟨6,[.hs 1 1 0 x.1.length,.sl 1 cl (aq_ .i64 l),.dead,.dead,.sl 0 true [],.int .i64 x.2],[]⟩)
  (fun x=>[.gone,.vec 1 (bts x.1)]) (fun x=>l.length-x.2) (fun x=>x.2≤l.length∧x.1++jP_ l x.2=bs++wP_ l) (bs++bN_ l.length,0) ⟨by simp,by simp[wP_]⟩ ?_ ?_
 ·simp only[List.length_append];exact QV_ [] [0,1]
 rintro⟨acc,i⟩ ⟨h1,h2⟩;dsimp only at h1 h2 ⊢;have hal:acc.length+(jP_ l i).length=bs.length+(wP_ l).length:=by simpa using congrArg List.length h2
 try refine aa_ ?_
 refine bA_ evd (fun h=>?_) (fun h=>?_)
 ·have hi:i<l.length:=by simpa using h
  have hg:=ed_ (k:=.i64) hi;have hd:=yT_ hv hi;have hi0:=(gy_ hv).2 i hi;rw[oB_ hi]at h2 hal;rw[List.length_append]at hal;have ha:=(cb_ (hu_ l i) hd.1 (by omega)).own acc (by omega);have hw:=ae_ hi (by omega);have hwd:IntKind.u64.wrap (hu_ l i)=hu_ l i:=aL_ (by omega) (by omega);by_cases hp:0<i
  ·have hp':((i:Int)==0)=false:=by simp;omega
   have hi1:=(gy_ hv).2 (i-1) (by omega);have hw1:IntKind.i64.wrap ((i:Int)-1)=((i-1:Nat):Int):=by rw[aF_ (by omega) (by omega)];omega
   have hg2:=ed_ (k:=.i64) (show i-1<l.length by omega);have hw2:IntKind.i64.wrap (l.getD i 0-l.getD (i-1) 0)=l.getD i 0-l.getD (i-1) 0:=aF_ (by omega) (by omega);have hw3:IntKind.i64.wrap (l.getD i 0-l.getD (i-1) 0-1)=hu_ l i:=by rw[hu_,if_neg (by omega),aF_ (by omega) (by omega)];omega
   repeat(first|refine aa_ ?_|simp only[go_sem,hp'])
   refine ab_ ?_ (by(try simp only[go_sem,hp']);try exact evd);repeat(first|refine aa_ ?_|simp only[go_sem,hg,hw1,hg2,hw2,hw3,hwd])
   refine bo_ [1] (ha) (by simp) evd (bF_.mk' (by simp) (by simp) evd) ?_;refine evg ?_;repeat(first|refine aa_ ?_|simp only[go_sem,hw])
   refine⟨(acc++bN_ (hu_ l i).toNat,i+1),⟨hi,by simpa using h2⟩,by dsimp only;omega,?_⟩;simp only[List.length_append];exact QV_ [] [0,2]
  ·have h0:i=0:=by omega
   subst h0;have e0:l.getD 0 0=hu_ l 0:=by rw[hu_,if_pos rfl]
   have hz:IntKind.i64.wrap ((0:Int)+1)=1:=by decide
   rw[e0]at hg;try refine aa_ ?_
   refine ac_ ?_;repeat(first|refine aa_ ?_|simp only[go_sem,hg,hwd])
   refine bT_ [1] (ha) evd (bn_.mk' (by simp) evd) ?_;refine evg ?_;repeat(first|refine aa_ ?_|simp only[go_sem,hz])
   refine⟨(acc++bN_ (hu_ l 0).toNat,0+1),⟨hi,by simpa using h2⟩,by dsimp only;omega,?_⟩;simp only[List.length_append];exact QV_ [] [0,2]
 ·have hi:i=l.length:=by simp at h;omega
  subst hi;rw[yi_ (by omega),List.append_nil]at h2;rw[←h2];have h3:=congrArg List.length h2;rw[List.length_append]at h3;rw[←h3];try refine aa_ ?_
  exact QO_ [] [0,1]
end Go.Proofs.YtkgimpdgncakjaaGreat
namespace Go.Proofs.YtkgimpdgncakjaaGreat
open Go Go.FH Go.RowKit
set_option linter.unusedVariables false
set_option linter.unusedSimpArgs false
theorem GW_{l:List Int}{n:Int}(h:cM_ l n=0):∀j,j<l.length→(j:Int)≤l.getD j 0
 |0,hj=>by have:=((gy_ h).2 0 hj).1;omega
 | j + 1, hj => by
   have h1:=GW_ h j (by omega);have h2:=((gy_ h).2 (j+1) hj).2.2 (by omega);simp only[Nat.add_sub_cancel]at h2;omega
theorem MG_{l:List Int}{n:Nat}(h:cM_ l n=0):l.length≤n:=by
 by_cases h0:l.length=0
 ·omega
 ·have h1:=GW_ h (l.length-1) (by omega);have h2:=((gy_ h).2 (l.length-1) (by omega)).2.1;omega
theorem Cw_{l:List Int}(hv:cM_ l 1024=0):∀ (k i:Nat),l.length-i=k→(jP_ l i).length≤10*k
 |0,i,hk=>by rw[yi_ (by omega)];simp
 | k + 1, i, hk => by
   rw[oB_ (by omega),List.length_append];have h1:=Cw_ hv k (i+1) (by omega);have h2:=yT_ hv (j:=i) (by omega);have h3:=fk_ (n:=(hu_ l i).toNat) (by omega);omega
theorem Gs_{l:List Int}(hv:cM_ l 1024=0):(wP_ l).length≤10250:=by
 have h1:=MG_ (n:=1024) hv;have h2:=Cw_ hv _ 0 rfl;have h3:=fk_ (n:=l.length) (by omega);rw[wP_,List.length_append];omega
def PV_(x:Att)(l:List Int):List UInt8:=bN_ x.slot.toNat++x.root.1++fW_ x.target++wP_ l
structure U64(n:Int):Prop where
 lo:0≤n
 hi:n<18446744073709551616
theorem U64.len{n:Int}(h:U64 n):(bN_ n.toNat).length≤10:=fk_ (by have:=h.lo;have:=h.hi;omega)
theorem mA_{c:Cp}(h:U64 c.ep):(fW_ c).length≤42:=by
 have:=h.len;have:=c.rt.2;rw[fW_,List.length_append];omega
theorem Mb_(x:Att)(l:List Int)(cl:Bool)(hx:x.vals=.sl 1 cl (aq_ .i64 l))(hl:l.length≤140737488355328)(h1:U64 x.slot)(h2:U64 x.target.ep):
 PC Tryz.prog 239 [.agg (aY_ x)] (.tup [.sl 1 false (bts (if cM_ l 1024=0 then PV_ x l else [])),.int .i64 (cM_ l 1024)]):=by
 refine PC.fact 5 ji_ (by simp) ⟨(ei_ x).2 (by rw[Att.Pure,hx];exact aM_ _ _),trivial⟩ ⟨je_ _,trivial,trivial⟩ ?_;unfold eW_;refine bd ?_;have hc:=ft_ l cl 1024 hl;have hg:x.good=true:=by rw[Att.good,hx];rfl
 by_cases hv:cM_ l 1024=0
 ·have hr:=x.root.2;have q1:=h1.len;have q2:=mA_ h2;have q3:=Gs_ hv;have p1:=(cb_ x.slot h1.lo h1.hi).nil (by omega);have p2:=(dV_ x.root).own (bN_ x.slot.toNat) (by omega);have p3:=(qa_ x.target h2.lo h2.hi).own (bN_ x.slot.toNat++x.root.1) (by rw[List.length_append];omega);have p4:=rb_ l cl hv (bN_ x.slot.toNat++x.root.1++fW_ x.target) (by simp only[List.length_append];omega);rw[if_pos hv];rw[hv]at hc ⊢;repeat(first|refine aa_ ?_|simp only[go_sem,hx,hg])
  refine Qy_ hc ?_
  refine ab_ ?_;repeat(first|refine aa_ ?_|simp only[go_sem,hx])
  refine bo_ [] (p1) (by simp) evd (bF_.mk' (by simp) (by simp) evd) ?_;refine evg ?_;try refine aa_ ?_
  refine bo_ [1] (p2) (by simp) evd (bF_.mk' (by simp) (by simp) evd) ?_;refine evg ?_;try refine aa_ ?_
  refine bo_ [2] (p3) (by simp) evd (bF_.mk' (by simp) (by simp) evd) ?_;refine evg ?_;repeat(first|refine aa_ ?_|simp only[go_sem,hx])
  refine bo_ [3] (p4) (by simp) evd (bF_.mk' (by simp) (by simp) evd) ?_;refine evg ?_;try refine aa_ ?_
  exact af_
 ·have hv':(cM_ l 1024 != 0)=true:=by simpa using hv
  rw[if_neg hv];repeat(first|refine aa_ ?_|simp only[go_sem,hx,hg])
  refine Qy_ hc ?_
  refine ac_ ?_ (by(try simp only[go_sem,hv']);try exact evd);try refine aa_ ?_
  refine⟨_,rfl,.inr ⟨.tup [.sl 0 true [],.int .i64 (cM_ l 1024)],evd,⟨trivial,trivial,trivial⟩,Wk.tup ⟨Wk.empty _ _ _,Wk.refl _,trivial⟩⟩⟩
def nT_(x:Clm)(l:List Int):List UInt8:=bN_ x.src.toNat++bN_ x.tgt.toNat++x.root.1++wP_ l
structure ql_(x:Clm)(l:List Int)(cl:Bool):Prop where
 src:U64 x.src
 tgt:U64 x.tgt
 vals:x.vals=.sl 1 cl (aq_ .i64 l)
 len:l.length≤140737488355328
theorem ty_{x:Clm}{l:List Int}{cl:Bool}(h:ql_ x l cl)(hv:cM_ l 1024=0):(nT_ x l).length≤10302:=by
 have:=h.src.len;have:=h.tgt.len;have:=Gs_ hv;have:=x.root.2;simp only[nT_,List.length_append];omega
theorem ql_.good{x:Clm}{l:List Int}{cl:Bool}(h:ql_ x l cl):x.good=true:=by rw[Clm.good,h.vals];rfl
theorem ql_.pu{x:Clm}{l:List Int}{cl:Bool}(h:ql_ x l cl):x.Pure:=by rw[Clm.Pure,h.vals];exact aM_ _ _
theorem ql_.map{x:Clm}{l:List Int}{cl:Bool}(h:ql_ x l cl)(ρ:Nat→Nat):x.map (ren ρ)=x:=by
 have hv:=h.vals;obtain⟨s,t,r,v⟩:=x;simp only at hv;subst hv;simp only[Clm.map,ren,ck_]
theorem FI_(x:Clm)(l:List Int)(cl:Bool)(hx:ql_ x l cl)(hv:cM_ l 1024=0):PR_ 265 [.agg (bz_ x)] (nT_ x l):=by
 intro bs hb;refine as_.fact 5 pF_ (by simp) ?_ (by simp);unfold kd_;refine bd ?_;simp only[nT_,List.length_append,←List.append_assoc,←Nat.add_assoc]at hb ⊢;have hg:=hx.good;have hvs:=hx.vals;have p1:=(cb_ x.src hx.src.lo hx.src.hi).own bs (by omega);have p2:=(cb_ x.tgt hx.tgt.lo hx.tgt.hi).own (bs++bN_ x.src.toNat) (by simp only[List.length_append];omega);have p3:=(dV_ x.root).own (bs++bN_ x.src.toNat++bN_ x.tgt.toNat) (by simp only[List.length_append];omega);have p4:=rb_ l cl hv (bs++bN_ x.src.toNat++bN_ x.tgt.toNat++x.root.1) (by simp only[List.length_append];omega);repeat(first|refine aa_ ?_|simp only[go_sem,hg])
 refine bo_ [0] (p1) (by simp) evd (bF_.mk' (by simp) (by simp) evd) ?_;refine evg ?_;try refine aa_ ?_
 refine bo_ [2] (p2) (by simp) evd (bF_.mk' (by simp) (by simp) evd) ?_;refine evg ?_;try refine aa_ ?_
 refine bo_ [3] (p3) (by simp) evd (bF_.mk' (by simp) (by simp) evd) ?_;refine evg ?_;repeat(first|refine aa_ ?_|simp only[go_sem,hvs])
 refine bo_ [4] (p4) (by simp) evd (bF_.mk' (by simp) (by simp) evd) ?_;refine evg ?_;try refine aa_ ?_
 exact QO_ [] [0,5]
theorem FH_(x:Clm)(l:List Int)(cl:Bool)(hx:ql_ x l cl)(hv:cM_ l 1024=0):as_ Tryz.prog 265 [.sl 0 true [],.agg (bz_ x)] [] (.hs 1 0 0 (nT_ x l).length) [.vec 1 (bts (nT_ x l))]:=by
 refine as_.fact 5 pF_ (by simp) ?_ (by simp);have hb:=ty_ hx hv;unfold kd_;refine bd ?_;simp only[nT_,List.length_append,←List.append_assoc,←Nat.add_assoc]at hb ⊢;have hg:=hx.good;have hvs:=hx.vals;have p1:=(cb_ x.src hx.src.lo hx.src.hi).nil (by omega);have p2:=(cb_ x.tgt hx.tgt.lo hx.tgt.hi).own (bN_ x.src.toNat) (by omega);have p3:=(dV_ x.root).own (bN_ x.src.toNat++bN_ x.tgt.toNat) (by simp only[List.length_append];omega);have p4:=rb_ l cl hv (bN_ x.src.toNat++bN_ x.tgt.toNat++x.root.1) (by simp only[List.length_append];omega);repeat(first|refine aa_ ?_|simp only[go_sem,hg])
 refine bo_ [] (p1) (by simp) evd (bF_.mk' (by simp) (by simp) evd) ?_;refine evg ?_;try refine aa_ ?_
 refine bo_ [1] (p2) (by simp) evd (bF_.mk' (by simp) (by simp) evd) ?_;refine evg ?_;try refine aa_ ?_
 refine bo_ [2] (p3) (by simp) evd (bF_.mk' (by simp) (by simp) evd) ?_;refine evg ?_;repeat(first|refine aa_ ?_|simp only[go_sem,hvs])
 refine bo_ [3] (p4) (by simp) evd (bF_.mk' (by simp) (by simp) evd) ?_;refine evg ?_;try refine aa_ ?_
 exact QO_ [] [4]
def Di_(l1 l2:List Int):Int:=if cM_ l1 1024=0 then cM_ l2 1024 else cM_ l1 1024
def ON_(x:Slg)(l1 l2:List Int):List UInt8:=nT_ x.fst l1++nT_ x.snd l2
theorem Md_(x:Slg)(l1 l2:List Int)(c1 c2:Bool)(h1:ql_ x.fst l1 c1)(h2:ql_ x.snd l2 c2):
 PC Tryz.prog 240 [.agg (bZ_ x)] (.tup [.sl 1 false (bts (if Di_ l1 l2=0 then ON_ x l1 l2 else [])),.int .i64 (Di_ l1 l2)]):=by
 refine PC.fact 6 ld_ (by simp) ⟨(fz_ x).2 ⟨h1.pu,h2.pu⟩,trivial⟩ ⟨je_ _,trivial,trivial⟩ ?_;unfold ga_;refine bd ?_;have hg:x.good=true:=by rw[Slg.good,h1.good,h2.good];rfl
 have hv1:=h1.vals;have hv2:=h2.vals;have m1:=h1.map;have m2:=h2.map;have k1:=ft_ l1 c1 1024 h1.len;have k2:=ft_ l2 c2 1024 h2.len;unfold Di_;by_cases e1:cM_ l1 1024=0
 ·simp only[e1,if_true]
  rw[e1]at k1;by_cases e2:cM_ l2 1024=0
  ·simp only[e2,if_true];rw[e2]at k2;have q1:=ty_ h1 e1;have q2:=ty_ h2 e2;have p1:=FH_ x.fst l1 c1 h1 e1;have p2:=FI_ x.snd l2 c2 h2 e2 (nT_ x.fst l1) (by omega);repeat(first|refine aa_ ?_|simp only[go_sem,hg,hv1,hv2])
   refine Qy_ k1 ?_
   refine ab_ ?_;repeat(first|refine aa_ ?_|simp only[go_sem,hg,hv1,hv2])
   refine Qy_ k2 ?_
   refine PG_ ?_
   refine bo_ [] (p1) (by simp) (by(try simp only[go_sem,m1]);try exact evd) (bF_.mk' (by simp) (by simp) (by(try simp only[go_sem,m1]);try exact evd)) ?_;refine evg ?_;try refine aa_ ?_
   refine bo_ [1] (p2) (by simp) (by(try simp only[go_sem,m2]);try exact evd) (bF_.mk' (by simp) (by simp) (by(try simp only[go_sem,m2]);try exact evd)) ?_;refine evg ?_;try refine aa_ ?_
   exact af_
  ·have e2':(cM_ l2 1024 != 0)=true:=by simpa using e2
   simp only[e2,if_false];repeat(first|refine aa_ ?_|simp only[go_sem,hg,hv1,hv2])
   refine Qy_ k1 ?_
   refine ab_ ?_;repeat(first|refine aa_ ?_|simp only[go_sem,hg,hv1,hv2])
   refine Qy_ k2 ?_
   refine ac_ ?_ (by(try simp only[go_sem,e2']);try exact evd);try refine aa_ ?_
   refine⟨_,rfl,.inr ⟨.tup [.sl 0 true [],.int .i64 (cM_ l2 1024)],evd,⟨trivial,trivial,trivial⟩,Wk.tup ⟨Wk.empty _ _ _,Wk.refl _,trivial⟩⟩⟩
 ·have e1':(cM_ l1 1024 != 0)=true:=by simpa using e1
  simp only[e1,if_false];repeat(first|refine aa_ ?_|simp only[go_sem,hg,hv1,hv2])
  refine Qy_ k1 ?_
  refine ac_ ?_ (by(try simp only[go_sem,e1']);try exact evd);try refine aa_ ?_
  refine⟨_,rfl,.inr ⟨.tup [.sl 0 true [],.int .i64 (cM_ l1 1024)],evd,⟨trivial,trivial,trivial⟩,Wk.tup ⟨Wk.empty _ _ _,Wk.refl _,trivial⟩⟩⟩
def Qr_(x:Vdt):List UInt8:=bN_ x.tag.toNat++bN_ x.kind.toNat++x.latest.1
def DE_(x:Vdt):Prop:=x.kind<1∨4<x.kind
instance (x:Vdt):Decidable (DE_ x):=inferInstanceAs (Decidable (_∨_))
theorem Mf_(x:Vdt)(h1:U64 x.tag):
 PC Tryz.prog 242 [.agg (cl_ x)] (.tup [.sl 1 false (bts (if DE_ x then []else Qr_ x)),.int .i64 (if DE_ x then 3 else 0)]):=by
 refine PC.fact 4 lY_ (by simp) ⟨li_ x,trivial⟩ ⟨je_ _,trivial,trivial⟩ ?_;unfold gK_;refine bd ?_;by_cases hv:DE_ x
 ·rw[if_pos hv,if_pos hv]
  unfold DE_ at hv;by_cases ha:x.kind<1
  ·have ha':decide (x.kind<1)=true:=by simpa using ha
   repeat(first|refine aa_ ?_|simp only[go_sem,ha'])
   refine PH_ ?_
   refine⟨_,rfl,.inr ⟨.tup [.sl 0 true [],.int .i64 3],evd,⟨trivial,trivial,trivial⟩,Wk.tup ⟨Wk.empty _ _ _,Wk.refl _,trivial⟩⟩⟩
  ·have ha':decide (x.kind<1)=false:=by simpa using ha
   have hb':decide (4<x.kind)=true:=by rw[decide_eq_true_eq];omega
   repeat(first|refine aa_ ?_|simp only[go_sem,ha',hb'])
   refine PH_ ?_
   refine⟨_,rfl,.inr ⟨.tup [.sl 0 true [],.int .i64 3],evd,⟨trivial,trivial,trivial⟩,Wk.tup ⟨Wk.empty _ _ _,Wk.refl _,trivial⟩⟩⟩
 ·rw[if_neg hv,if_neg hv];unfold DE_ at hv;have ha':decide (x.kind<1)=false:=by rw[decide_eq_false_iff_not];omega
  have hb':decide (4<x.kind)=false:=by rw[decide_eq_false_iff_not];omega
  have hw:IntKind.u64.wrap x.kind=x.kind:=aL_ (by omega) (by omega);have hr:=x.latest.2;have q1:=h1.len;have q2:=fk_ (n:=x.kind.toNat) (by omega);have p1:=(cb_ x.tag h1.lo h1.hi).nil (by omega);have p2:=(cb_ x.kind (by omega) (by omega)).own (bN_ x.tag.toNat) (by omega);have p3:=(dV_ x.latest).own (bN_ x.tag.toNat++bN_ x.kind.toNat) (by rw[List.length_append];omega);repeat(first|refine aa_ ?_|simp only[go_sem,ha',hb'])
  refine ab_ ?_;repeat(first|refine aa_ ?_|simp only[go_sem,hw])
  refine bo_ [] (p1) (by simp) evd (bF_.mk' (by simp) (by simp) evd) ?_;refine evg ?_;repeat(first|refine aa_ ?_|simp only[go_sem,hw])
  refine bo_ [1] (p2) (by simp) evd (bF_.mk' (by simp) (by simp) evd) ?_;refine evg ?_;try refine aa_ ?_
  refine bo_ [2] (p3) (by simp) evd (bF_.mk' (by simp) (by simp) evd) ?_;refine evg ?_;try refine aa_ ?_
  exact af_
def Qe_(x:Blk):List UInt8:=bN_ x.slot.toNat++x.root.1++x.parent.1++x.payload.1++(dl_ x.diff).1++(dl_ x.pdiff).1++fW_ x.just++fW_ x.fin++fW_ x.pul.j++fW_ x.pul.f++Hr_ x.timely
structure jW_(x:Blk):Prop where
 slot:U64 x.slot
 just:U64 x.just.ep
 fin:U64 x.fin.ep
 j:U64 x.pul.j.ep
 f:U64 x.pul.f.ep
theorem Mc_(x:Blk)(hx:jW_ x):PC Tryz.prog 238 [.sl 0 true [],.agg (ap_ x)] (.sl 1 false (bts (Qe_ x))):=by
 refine PC.fact 5 zU_ (by simp) ⟨trivial,dH_ x,trivial⟩ (je_ _) ?_;unfold pr_;refine bd ?_;have r1:=x.root.2;have r2:=x.parent.2;have r3:=x.payload.2;have r4:=(dl_ x.diff).2;have r5:=(dl_ x.pdiff).2;have q1:=hx.slot.len;have q2:=mA_ hx.just;have q3:=mA_ hx.fin;have q4:=mA_ hx.j;have q5:=mA_ hx.f;have q6:(Hr_ x.timely).length≤1:=by cases x.timely<;>simp[Hr_]
 have p1:=(cb_ x.slot hx.slot.lo hx.slot.hi).nil (by omega);have p2:=(dV_ x.root).own (bN_ x.slot.toNat) (by omega);have p3:=(dV_ x.parent).own _ (by simp only[List.length_append];omega:(bN_ x.slot.toNat++x.root.1).length+x.parent.1.length≤140737488355328);have p4:=(dV_ x.payload).own _ (by simp only[List.length_append];omega:(bN_ x.slot.toNat++x.root.1++x.parent.1).length+x.payload.1.length≤140737488355328);have p5:=(yP_ x.diff).own _ (by simp only[List.length_append];omega:(bN_ x.slot.toNat++x.root.1++x.parent.1++x.payload.1).length+(dl_ x.diff).1.length≤140737488355328);have p6:=(yP_ x.pdiff).own _ (by simp only[List.length_append];omega:(bN_ x.slot.toNat++x.root.1++x.parent.1++x.payload.1++(dl_ x.diff).1).length+(dl_ x.pdiff).1.length≤140737488355328);have p7:=(qa_ x.just hx.just.lo hx.just.hi).own _ (by simp only[List.length_append];omega:(bN_ x.slot.toNat++x.root.1++x.parent.1++x.payload.1++(dl_ x.diff).1++(dl_ x.pdiff).1).length+(fW_ x.just).length≤140737488355328);have p8:=(qa_ x.fin hx.fin.lo hx.fin.hi).own _ (by simp only[List.length_append];omega:(bN_ x.slot.toNat++x.root.1++x.parent.1++x.payload.1++(dl_ x.diff).1++(dl_ x.pdiff).1++fW_ x.just).length+(fW_ x.fin).length≤140737488355328);have p9:=(qa_ x.pul.j hx.j.lo hx.j.hi).own _ (by simp only[List.length_append];omega:(bN_ x.slot.toNat++x.root.1++x.parent.1++x.payload.1++(dl_ x.diff).1++(dl_ x.pdiff).1++fW_ x.just++fW_ x.fin).length+(fW_ x.pul.j).length≤140737488355328);have p10:=(qa_ x.pul.f hx.f.lo hx.f.hi).own _ (by simp only[List.length_append];omega:(bN_ x.slot.toNat++x.root.1++x.parent.1++x.payload.1++(dl_ x.diff).1++(dl_ x.pdiff).1++fW_ x.just++fW_ x.fin++fW_ x.pul.j).length+(fW_ x.pul.f).length≤140737488355328);have p11:=(Jq_ x.timely).own _ (by simp only[List.length_append];omega:(bN_ x.slot.toNat++x.root.1++x.parent.1++x.payload.1++(dl_ x.diff).1++(dl_ x.pdiff).1++fW_ x.just++fW_ x.fin++fW_ x.pul.j++fW_ x.pul.f).length+(Hr_ x.timely).length≤140737488355328);try refine aa_ ?_
 refine bo_ [] (p1) (by simp) evd (bF_.mk' (by simp) (by simp) evd) ?_;refine evg ?_;try refine aa_ ?_
 refine bo_ [1] (p2) (by simp) evd (bF_.mk' (by simp) (by simp) evd) ?_;refine evg ?_;try refine aa_ ?_
 refine bo_ [2] (p3) (by simp) evd (bF_.mk' (by simp) (by simp) evd) ?_;refine evg ?_;try refine aa_ ?_
 refine bo_ [3] (p4) (by simp) evd (bF_.mk' (by simp) (by simp) evd) ?_;refine evg ?_;try refine aa_ ?_
 refine bo_ [4] (p5) (by simp) evd (bF_.mk' (by simp) (by simp) evd) ?_;refine evg ?_;try refine aa_ ?_
 refine bo_ [5] (p6) (by simp) evd (bF_.mk' (by simp) (by simp) evd) ?_;refine evg ?_;try refine aa_ ?_
 refine bo_ [6] (p7) (by simp) evd (bF_.mk' (by simp) (by simp) evd) ?_;refine evg ?_;try refine aa_ ?_
 refine bo_ [7] (p8) (by simp) evd (bF_.mk' (by simp) (by simp) evd) ?_;refine evg ?_;try refine aa_ ?_
 refine bo_ [8] (p9) (by simp) evd (bF_.mk' (by simp) (by simp) evd) ?_;refine evg ?_;try refine aa_ ?_
 refine bo_ [9] (p10) (by simp) evd (bF_.mk' (by simp) (by simp) evd) ?_;refine evg ?_;try refine aa_ ?_
 refine bo_ [10] (p11) (by simp) evd (bF_.mk' (by simp) (by simp) evd) ?_;refine evg ?_;try refine aa_ ?_
 exact af_
structure Bl_(x:Tab)(l:List Int)(cl:Bool):Prop where
 ep:U64 x.cp.ep
 bals:x.bals=.sl 1 cl (aq_ .u64 l)
 all:∀n∈l,U64 n
 len:l.length≤140737488355328
def MA_(x:Tab)(l:List Int):List UInt8:=fW_ x.cp++bN_ l.length++wW_ l
theorem Gw_:∀ {l:List Int},(∀n∈l,U64 n)→(wW_ l).length≤10*l.length
 | [],_=>by simp[wW_]
 | n :: l, h => by
   have h1:=Gw_ (l:=l) (fun m hm=>h m (by simp[hm]));have h2:=(h n (by simp)).len;simp only[wW_,List.length_append,List.length_cons];omega
theorem Iy_{l:List Int}{i:Nat}(h:i<l.length):wW_ (l.drop i)=bN_ (l.getD i 0).toNat++wW_ (l.drop (i+1)):=by
 rw[List.drop_eq_getElem_cons h,wW_,List.getD_eq_getElem?_getD,List.getElem?_eq_getElem h];rfl
theorem Bl_.good{x:Tab}{l:List Int}{cl:Bool}(h:Bl_ x l cl):x.good=true:=by rw[Tab.good,h.bals];rfl
theorem Bl_.pu{x:Tab}{l:List Int}{cl:Bool}(h:Bl_ x l cl):x.Pure:=by rw[Tab.Pure,h.bals];exact aM_ _ _
theorem Bl_.getD{x:Tab}{l:List Int}{cl:Bool}(h:Bl_ x l cl){i:Nat}(hi:i<l.length):U64 (l.getD i 0):=by
 rw[List.getD_eq_getElem?_getD,List.getElem?_eq_getElem hi];exact h.all _ (List.getElem_mem hi)
theorem Me_(x:Tab)(l:List Int)(cl:Bool)(hx:Bl_ x l cl):
 PC Tryz.prog 241 [.agg (aT_ x)] (.tup [.sl 1 false (bts (if 1024<l.length then []else MA_ x l)),.int .i64 (if 1024<l.length then 3 else 0)]):=by
 refine PC.fact 6 ov_ (by simp) ⟨(dJ_ x).2 hx.pu,trivial⟩ ⟨je_ _,trivial,trivial⟩ ?_;unfold id_;refine bd ?_;have hg:=hx.good;have hv:=hx.bals;by_cases h0:1024<l.length
 ·have h0':decide ((1024:Int)<(l.length:Int))=true:=by rw[decide_eq_true_eq];omega
  rw[if_pos h0,if_pos h0];repeat(first|refine aa_ ?_|simp only[go_sem,hg,hv])
  refine ac_ ?_ (by(try simp only[go_sem,h0']);try exact evd);try refine aa_ ?_
  refine⟨_,rfl,.inr ⟨.tup [.sl 0 true [],.int .i64 3],evd,⟨trivial,trivial,trivial⟩,Wk.tup ⟨Wk.empty _ _ _,Wk.refl _,trivial⟩⟩⟩
 have h0':decide ((1024:Int)<(l.length:Int))=false:=by rw[decide_eq_false_iff_not];omega
 rw[if_neg h0,if_neg h0];have q1:=mA_ hx.ep;have q2:=fk_ (n:=l.length) (by omega);have q3:=Gw_ hx.all;have hw:IntKind.u64.wrap (l.length:Int)=l.length:=aL_ (by omega) (by omega)
 have hm:∀ρ:Nat→Nat,x.map (ren ρ)=x:=by
  intro ρ;obtain⟨c,v⟩:=x;simp only at hv;subst hv;simp only[Tab.map,ren,ck_]
 have hmf:∀ (σ:St) (zs:List Nat),x.map (fz σ zs)=x:=by
  intro σ zs;obtain⟨c,v⟩:=x;simp only at hv;subst hv;simp only[Tab.map,fz,cZ_]
 have hr:=x.cp.rt.2;have q4:=hx.ep.len;have p1:=(cb_ x.cp.ep hx.ep.lo hx.ep.hi).nil (by omega);have p2:=(dV_ x.cp.rt).own (bN_ x.cp.ep.toNat) (by omega);have p3:=(cb_ (l.length:Int) (by omega) (by omega)).own (bN_ x.cp.ep.toNat++x.cp.rt.1) (by rw[Int.toNat_natCast,List.length_append];omega);rw[Int.toNat_natCast]at p3;repeat(first|refine aa_ ?_|simp only[go_sem,hg,hv])
 refine ab_ ?_ (by(try simp only[go_sem,h0']);try exact evd);repeat(first|refine aa_ ?_|simp only[go_sem,hg,hv,hw])
 refine bo_ [] (p1) (by simp) evd (bF_.mk' (by simp) (by simp) evd) ?_;refine evg ?_;repeat(first|refine aa_ ?_|simp only[go_sem,hg,hv,hw])
 refine bo_ [1] (p2) (by simp) evd (bF_.mk' (by simp) (by simp) evd) ?_;refine evg ?_;repeat(first|refine aa_ ?_|simp only[go_sem,hg,hv,hw])
 refine bo_ [2] (p3) (by simp) evd (bF_.mk' (by simp) (by simp) evd) ?_;refine evg ?_;repeat(first|refine aa_ ?_|simp only[go_sem,hg,hv])
 refine gs_ (fun x':List UInt8×Nat=>⟨6,[.agg (aT_ x),.ptr 0 0,.sl 0 true [],.int .i64 0,.hs 1 1 0 x'.1.length,.int .i64 x'.2],[]⟩)
  (fun x'=>[.var (aT_ x),.vec 1 (bts x'.1)]) (fun x'=>l.length-x'.2) (fun x'=>x'.2≤l.length∧x'.1++wW_ (l.drop x'.2)=MA_ x l) (fW_ x.cp++bN_ l.length,0) ⟨by simp,by simp[MA_]⟩ ?_ ?_
 ·simp only[List.length_append,fW_,←List.append_assoc];refine GC.mk' [] [0,3] (by simp) rfl (by simp) (by simp) (by(try simp only[go_sem,hm,hmf]);try exact evd) (by(try simp only[go_sem,hm,hmf]);try exact evd)
 rintro⟨acc,i⟩ ⟨h1,h2⟩;dsimp only at h1 h2 ⊢;have hal:=congrArg List.length h2;simp only[MA_,List.length_append]at hal;repeat(first|refine aa_ ?_|simp only[go_sem,hg,hv])
 refine bA_ evd (fun h=>?_) (fun h=>?_)
 ·have hi:i<l.length:=by simpa using h
  have hgd:=ed_ (k:=.u64) hi;have hu:=hx.getD hi;rw[Iy_ hi]at h2 hal;rw[List.length_append]at hal;have ha:=(cb_ (l.getD i 0) hu.lo hu.hi).own acc (by omega);have hwi:=ae_ hi (by omega);repeat(first|refine aa_ ?_|simp only[go_sem,hgd,hg,hv])
  refine bT_ [1] (ha) evd (bn_.mk' (by simp) evd) ?_;refine evg ?_;repeat(first|refine aa_ ?_|simp only[go_sem,hwi])
  refine⟨(acc++bN_ (l.getD i 0).toNat,i+1),⟨hi,by simpa using h2⟩,by dsimp only;omega,?_⟩;simp only[List.length_append];refine GC.mk' [] [0,2] (by simp) rfl (by simp) (by simp) (by(try simp only[go_sem,hm,hmf]);try exact evd) (by(try simp only[go_sem,hm,hmf]);try exact evd)
 ·have hi:i=l.length:=by simp at h;omega
  subst hi;rw[List.drop_length,wW_,List.append_nil]at h2;rw[←h2];try refine aa_ ?_
  exact af_
end Go.Proofs.YtkgimpdgncakjaaGreat
