/-
 My texts Eb, Ec, Ea, Ed, Ee, Ef, Eh, Eg, Ei, joined.
-/
import Derived.Test.YtkgimpdgncakjaaGreatW7
import Derived.Test.YtkgimpdgncakjaaGreatW4
import Derived.Test.YtkgimpdgncakjaaGreatW3
namespace Go.Proofs.YtkgimpdgncakjaaGreat
open Go Go.FH
set_option linter.unusedVariables false
set_option linter.unusedSimpArgs false
def jF_(l:List Int)(n:Int)(i:Nat):Int:=
 if i<l.length then (if l.getD i 0<0∨n≤l.getD i 0 then 3 else if 0<i∧l.getD i 0≤l.getD (i-1) 0 then 8 else jF_ l n (i+1))else 0
termination_by l.length-i
def cd_(l:List Int)(n:Int):Int:=if l=[]then 2 else jF_ l n 0
theorem jf_{l:List Int}{n:Int}{i:Nat}(h:i<l.length):jF_ l n i=if l.getD i 0<0∨n≤l.getD i 0 then 3 else if 0<i∧l.getD i 0≤l.getD (i-1) 0 then 8 else jF_ l n (i+1):=by
 rw[jF_,if_pos h]
theorem nH_{l:List Int}{n:Int}{i:Nat}(h:¬i<l.length):jF_ l n i=0:=by rw[jF_,if_neg h]
def hV_(l:List Int)(i:Nat):Int:=if i=0 then l.getD 0 0 else l.getD i 0-(l.getD (i-1) 0+1)
def ku_(l:List Int)(i:Nat):List UInt8:=if i<l.length then cb_ (hV_ l i).toNat++ku_ l (i+1)else []
termination_by l.length-i
theorem px_{l:List Int}{i:Nat}(h:i<l.length):ku_ l i=cb_ (hV_ l i).toNat++ku_ l (i+1):=by rw[ku_,if_pos h]
theorem zw_{l:List Int}{i:Nat}(h:¬i<l.length):ku_ l i=[]:=by rw[ku_,if_neg h]
theorem zx_(l:List Int)(i:Nat)(hi:i≤l.length):l.length-i≤(ku_ l i).length:=by
 by_cases h:i<l.length
 ·rw[px_ h,List.length_append];have:=zx_ l (i+1) h;have:=NZ_ (hV_ l i).toNat
  omega
 ·omega
termination_by l.length-i
def xU_(l:List Int):List UInt8:=cb_ l.length++ku_ l 0
theorem Fg_{l:List Int}{n:Int}:∀ (k i:Nat),l.length-i=k→jF_ l n i=0→∀j,i≤j→j<l.length→0≤l.getD j 0∧l.getD j 0<n∧(0<j→l.getD (j-1) 0<l.getD j 0)
 |0,i,hk,h,j,h1,h2=>by omega
 | k + 1, i, hk, h, j, h1, h2 => by
   rw[jf_ (by omega)]at h;split at h
   ·cases h
   ·rename_i ha
    split at h
    ·cases h
    ·rename_i hb
     by_cases hj:j=i
     ·subst hj;refine⟨by omega,by omega,fun h0=>?_⟩;have:=not_and.1 hb h0;omega
     ·exact Fg_ k (i+1) (by omega) h j (by omega) h2
theorem gw_{l:List Int}{n:Int}(h:cd_ l n=0):l≠[]∧∀j,j<l.length→0≤l.getD j 0∧l.getD j 0<n∧(0<j→l.getD (j-1) 0<l.getD j 0):=by
 unfold cd_ at h;split at h
 ·cases h
 ·rename_i h0;exact⟨h0,fun j hj=>Fg_ _ 0 rfl h j (by omega) hj⟩
theorem Ao_{l:List Int}{n:Int}(h:cd_ l n=0){j:Nat}(hj:j<l.length):0≤hV_ l j∧hV_ l j<n:=by
 have h1:=(gw_ h).2 j hj;unfold hV_;split
 ·subst_vars;exact⟨h1.1,h1.2.1⟩
 ·have h2:=h1.2.2 (by omega);have h3:=(gw_ h).2 (j-1) (by omega);omega
def ya_:List Int→List UInt8
 | []=>[]
 |x::l=>cb_ x.toNat++ya_ l
theorem er_{k:IntKind}{ns:List Int}{i:Nat}(h:i<ns.length):(aq_ k ns).getD i []=[.int k (ns.getD i 0)]:=by
 rw[JN_ h,List.getD_eq_getElem?_getD,List.getElem?_eq_getElem h];rfl
theorem pM_(l:List Int)(cl:Bool)(n:Int)(hb:l.length≤140737488355328):PC Tryz.prog 120 [.sl 1 cl (aq_ .i64 l),.int .i64 n] (.int .i64 (cd_ l n)):=by
 refine PC.fact 13 kP_ (by simp) ⟨aM_ .i64 l,trivial,trivial⟩ trivial ?_;unfold gd_ cd_;refine bd ?_;by_cases h0:l=[]
 ·subst h0;rw[if_pos rfl];try refine aa_ ?_
  refine Ri_ ?_
  exact ae_
 rw[if_neg h0];have hl:0<l.length:=List.length_pos_iff.2 h0;have hl':((l.length:Int)==0)=false:=by simp;omega
 repeat(first|refine aa_ ?_|simp only[go_sem,hl'])
 refine ab_ ?_ (by(try simp only[go_sem,hl']);try exact evd);try refine aa_ ?_
 refine gO_ (fun i:Nat=>⟨13,[.sl 1 cl (aq_ .i64 l),.int .i64 n,.dead,.dead,.int .i64 0,.dead,.dead,.dead,.dead,.dead,.sl 1 cl (aq_ .i64 l),.int .i64 l.length,.int .i64 i],[]⟩) (fun _=>[]) (fun i=>l.length-i) (fun i=>i≤l.length∧jF_ l n i=jF_ l n 0) [5,6,7,8,9] 0 ⟨by omega,rfl⟩ evd rfl ?_;rintro i ⟨hi,hv⟩;try dsimp only
 try refine aa_ ?_
 refine bM_ evd (fun h=>?_) (fun h=>?_)
 ·have h1:i<l.length:=by simp at h;omega
  have hg:=er_ (k:=.i64) h1;have hi':((i:Int)+1)=((i+1:Nat):Int):=by omega
  have hw:=ag_ h1 (by omega);rw[jf_ h1]at hv;generalize hx:l.getD i 0=x at *;by_cases hA:x<0∨n≤x
  ·rw[if_pos hA]at hv
   rw[←hv];by_cases hx0:x<0
   ·have hx0':decide (x<0)=true:=by simpa using hx0
    repeat(first|refine aa_ ?_|simp only[go_sem,hg,hx0'])
    refine Ri_ ?_
    exact ae_
   ·have hx0':decide (x<0)=false:=by simpa using hx0
    have hx1:decide (n≤x)=true:=by rw[decide_eq_true_eq];omega
    repeat(first|refine aa_ ?_|simp only[go_sem,hg,hx0',hx1])
    refine Ri_ ?_
    exact ae_
  ·rw [if_neg hA] at hv
   have hx0':decide (x<0)=false:=by rw[decide_eq_false_iff_not];omega
   have hx1:decide (n≤x)=false:=by rw[decide_eq_false_iff_not];omega
   repeat(first|refine aa_ ?_|simp only[go_sem,hg,hx0',hx1])
   refine ab_ ?_;by_cases hp:0<i
   ·have hp':decide ((0:Int)<(i:Int))=true:=by rw[decide_eq_true_eq];omega
    have hw1:IntKind.i64.wrap ((i:Int)-1)=((i-1:Nat):Int):=by rw[aC_ (by omega) (by omega)];omega
    have hg2:=er_ (k:=.i64) (show i-1<l.length by omega);by_cases hB:x≤l.getD (i-1) 0
    ·have hB':decide (x≤l.getD (i-1) 0)=true:=by simpa using hB
     rw[if_pos ⟨hp,hB⟩]at hv;rw[←hv];repeat(first|refine aa_ ?_|simp only[go_sem,hg,hp',hw1,hg2,hB'])
     refine Ri_ ?_
     exact ae_
    ·have hB':decide (x≤l.getD (i-1) 0)=false:=by simpa using hB
     rw[if_neg (fun hh=>hB hh.2)]at hv;repeat(first|refine aa_ ?_|simp only[go_sem,hg,hp',hw1,hg2,hB'])
     refine ab_ ?_;repeat(first|refine aa_ ?_|simp only[go_sem,hw])
     exact⟨i+1,⟨h1,hv⟩,by omega,rfl⟩
   ·have hp':decide ((0:Int)<(i:Int))=false:=by rw[decide_eq_false_iff_not];omega
    rw[if_neg (fun hh=>hp hh.1)]at hv;repeat(first|refine aa_ ?_|simp only[go_sem,hp'])
    refine ab_ ?_;repeat(first|refine aa_ ?_|simp only[go_sem,hw])
    exact⟨i+1,⟨h1,hv⟩,by omega,rfl⟩
 ·have h1:i=l.length:=by simp at h;omega
  subst h1;rw[←hv,nH_ (by omega)];try refine aa_ ?_
  exact ae_
theorem dX_(l:List Int)(cl:Bool)(n:Int)(hb:l.length≤140737488355328):PC Tryz.prog 127 [.sl 1 cl (aq_ .i64 l),.int .i64 n] (.int .i64 (cd_ l n)):=by
 refine PC.fact 6 nP_ (by simp) ⟨aM_ .i64 l,trivial,trivial⟩ trivial ?_;unfold hQ_ cd_;refine bd ?_;by_cases h0:l=[]
 ·subst h0;rw[if_pos rfl];try refine aa_ ?_
  refine Ri_ ?_
  exact ae_
 rw[if_neg h0];have hl:0<l.length:=List.length_pos_iff.2 h0;have hl':((l.length:Int)==0)=false:=by simp;omega
 repeat(first|refine aa_ ?_|simp only[go_sem,hl'])
 refine ab_ ?_ (by(try simp only[go_sem,hl']);try exact evd);try refine aa_ ?_
 refine gO_ (fun i:Nat=>⟨6,[.sl 1 cl (aq_ .i64 l),.int .i64 n,.dead,.dead,.int .i64 0,.int .i64 i],[]⟩) (fun _=>[]) (fun i=>l.length-i) (fun i=>i≤l.length∧jF_ l n i=jF_ l n 0) [] 0 ⟨by omega,rfl⟩ evd rfl ?_;rintro i ⟨hi,hv⟩;try dsimp only
 try refine aa_ ?_
 refine bM_ evd (fun h=>?_) (fun h=>?_)
 ·have h1:i<l.length:=by simp at h;omega
  have hg:=er_ (k:=.i64) h1;have hi':((i:Int)+1)=((i+1:Nat):Int):=by omega
  have hw:=ag_ h1 (by omega);rw[jf_ h1]at hv;generalize hx:l.getD i 0=x at *;by_cases hA:x<0∨n≤x
  ·rw[if_pos hA]at hv
   rw[←hv];by_cases hx0:x<0
   ·have hx0':decide (x<0)=true:=by simpa using hx0
    repeat(first|refine aa_ ?_|simp only[go_sem,hg,hx0'])
    refine Ri_ ?_
    exact ae_
   ·have hx0':decide (x<0)=false:=by simpa using hx0
    have hx1:decide (n≤x)=true:=by rw[decide_eq_true_eq];omega
    repeat(first|refine aa_ ?_|simp only[go_sem,hg,hx0',hx1])
    refine Ri_ ?_
    exact ae_
  ·rw [if_neg hA] at hv
   have hx0':decide (x<0)=false:=by rw[decide_eq_false_iff_not];omega
   have hx1:decide (n≤x)=false:=by rw[decide_eq_false_iff_not];omega
   repeat(first|refine aa_ ?_|simp only[go_sem,hg,hx0',hx1])
   refine ab_ ?_;by_cases hp:0<i
   ·have hp':decide ((0:Int)<(i:Int))=true:=by rw[decide_eq_true_eq];omega
    have hw1:IntKind.i64.wrap ((i:Int)-1)=((i-1:Nat):Int):=by rw[aC_ (by omega) (by omega)];omega
    have hg2:=er_ (k:=.i64) (show i-1<l.length by omega);by_cases hB:x≤l.getD (i-1) 0
    ·have hB':decide (x≤l.getD (i-1) 0)=true:=by simpa using hB
     rw[if_pos ⟨hp,hB⟩]at hv;rw[←hv];repeat(first|refine aa_ ?_|simp only[go_sem,hg,hp',hw1,hg2,hB'])
     refine Ri_ ?_
     exact ae_
    ·have hB':decide (x≤l.getD (i-1) 0)=false:=by simpa using hB
     rw[if_neg (fun hh=>hB hh.2)]at hv;repeat(first|refine aa_ ?_|simp only[go_sem,hg,hp',hw1,hg2,hB'])
     refine ab_ ?_;repeat(first|refine aa_ ?_|simp only[go_sem,hw])
     exact⟨i+1,⟨h1,hv⟩,by omega,rfl⟩
   ·have hp':decide ((0:Int)<(i:Int))=false:=by rw[decide_eq_false_iff_not];omega
    rw[if_neg (fun hh=>hp hh.1)]at hv;repeat(first|refine aa_ ?_|simp only[go_sem,hp'])
    refine ab_ ?_;repeat(first|refine aa_ ?_|simp only[go_sem,hw])
    exact⟨i+1,⟨h1,hv⟩,by omega,rfl⟩
 ·have h1:i=l.length:=by simp at h;omega
  subst h1;rw[←hv,nH_ (by omega)];try refine aa_ ?_
  exact ae_
def Rr_(f:FuncId)(xs:List AV)(e:List UInt8):Prop:=∀bs:List UInt8,bs.length+e.length≤140737488355328→ar_ Tryz.prog f (.hs 1 0 0 bs.length::xs) [.vec 1 (bts bs)] (.hs 1 1 0 (bs.length+e.length)) [.gone,.vec 1 (bts (bs++e))]
theorem se_(l:List Int)(cl:Bool)(hv:cd_ l 1024=0):Rr_ 264 [.sl 1 cl (aq_ .i64 l)] (xU_ l):=by
 intro bs hb;refine ar_.fact 6 Dw_ (by simp) ?_ (by simp);unfold sq_;refine bd ?_;have hl:(xU_ l).length=(cb_ l.length).length+(ku_ l 0).length:=by rw[xU_,List.length_append]
 have hll:l.length≤(ku_ l 0).length:=zx_ l 0 (by omega);have hu:=(cv_ (l.length:Int) (by omega) (by omega)).own bs (by rw[Int.toNat_natCast];omega);rw[Int.toNat_natCast]at hu;have hw0:IntKind.u64.wrap (l.length:Int)=(l.length:Int):=aH_ (by omega) (by omega);repeat(first|refine aa_ ?_|simp only[go_sem,hw0])
 refine cj_ [0] (hu) evd (br_.mk' (by simp) evd) ?_;refine evg ?_;try refine aa_ ?_
 refine gP_ (fun x:List UInt8×Nat=>⟨6,[.hs 1 1 0 x.1.length,.sl 1 cl (aq_ .i64 l),.dead,.dead,.sl 0 true [],.int .i64 x.2],[]⟩)
  (fun x=>[.gone,.vec 1 (bts x.1)]) (fun x=>l.length-x.2) (fun x=>x.2≤l.length∧x.1++ku_ l x.2=bs++xU_ l) (bs++cb_ l.length,0) ⟨by simp,by simp[xU_]⟩ ?_ ?_
 ·simp only[List.length_append];exact SN_ [] [0,1]
 rintro⟨acc,i⟩ ⟨h1,h2⟩;dsimp only at h1 h2 ⊢;have hal:acc.length+(ku_ l i).length=bs.length+(xU_ l).length:=by simpa using congrArg List.length h2
 try refine aa_ ?_
 refine bM_ evd (fun h=>?_) (fun h=>?_)
 ·have hi:i<l.length:=by simpa using h
  have hg:=er_ (k:=.i64) hi;have hd:=Ao_ hv hi;have hi0:=(gw_ hv).2 i hi;rw[px_ hi]at h2 hal;rw[List.length_append]at hal;have ha:=(cv_ (hV_ l i) hd.1 (by omega)).own acc (by omega);have hw:=ag_ hi (by omega);have hwd:IntKind.u64.wrap (hV_ l i)=hV_ l i:=aH_ (by omega) (by omega);by_cases hp:0<i
  ·have hp':((i:Int)==0)=false:=by simp;omega
   have hi1:=(gw_ hv).2 (i-1) (by omega);have hw1:IntKind.i64.wrap ((i:Int)-1)=((i-1:Nat):Int):=by rw[aC_ (by omega) (by omega)];omega
   have hg2:=er_ (k:=.i64) (show i-1<l.length by omega);have hw2:IntKind.i64.wrap (l.getD i 0-l.getD (i-1) 0)=l.getD i 0-l.getD (i-1) 0:=aC_ (by omega) (by omega);have hw3:IntKind.i64.wrap (l.getD i 0-l.getD (i-1) 0-1)=hV_ l i:=by rw[hV_,if_neg (by omega),aC_ (by omega) (by omega)];omega
   repeat(first|refine aa_ ?_|simp only[go_sem,hp'])
   refine ab_ ?_ (by(try simp only[go_sem,hp']);try exact evd);repeat(first|refine aa_ ?_|simp only[go_sem,hg,hw1,hg2,hw2,hw3,hwd])
   refine bs_ [1] (ha) (by simp) evd (bT_.mk' (by simp) (by simp) evd) ?_;refine evg ?_;repeat(first|refine aa_ ?_|simp only[go_sem,hw])
   refine⟨(acc++cb_ (hV_ l i).toNat,i+1),⟨hi,by simpa using h2⟩,by dsimp only;omega,?_⟩;simp only[List.length_append];exact SN_ [] [0,2]
  ·have h0:i=0:=by omega
   subst h0;have e0:l.getD 0 0=hV_ l 0:=by rw[hV_,if_pos rfl]
   have hz:IntKind.i64.wrap ((0:Int)+1)=1:=by decide
   rw[e0]at hg;try refine aa_ ?_
   refine ac_ ?_;repeat(first|refine aa_ ?_|simp only[go_sem,hg,hwd])
   refine cj_ [1] (ha) evd (br_.mk' (by simp) evd) ?_;refine evg ?_;repeat(first|refine aa_ ?_|simp only[go_sem,hz])
   refine⟨(acc++cb_ (hV_ l 0).toNat,0+1),⟨hi,by simpa using h2⟩,by dsimp only;omega,?_⟩;simp only[List.length_append];exact SN_ [] [0,2]
 ·have hi:i=l.length:=by simp at h;omega
  subst hi;rw[zw_ (by omega),List.append_nil]at h2;rw[←h2];have h3:=congrArg List.length h2;rw[List.length_append]at h3;rw[←h3];try refine aa_ ?_
  exact SG_ [] [0,1]
end Go.Proofs.YtkgimpdgncakjaaGreat
namespace Go.Proofs.YtkgimpdgncakjaaGreat
open Go Go.FH Go.RowKit
set_option linter.unusedVariables false
set_option linter.unusedSimpArgs false
theorem IA_{l:List Int}{n:Int}(h:cd_ l n=0):∀j,j<l.length→(j:Int)≤l.getD j 0
 |0,hj=>by have:=((gw_ h).2 0 hj).1;omega
 | j + 1, hj => by
   have h1:=IA_ h j (by omega);have h2:=((gw_ h).2 (j+1) hj).2.2 (by omega);simp only[Nat.add_sub_cancel]at h2;omega
theorem Ob_{l:List Int}{n:Nat}(h:cd_ l n=0):l.length≤n:=by
 by_cases h0:l.length=0
 ·omega
 ·have h1:=IA_ h (l.length-1) (by omega);have h2:=((gw_ h).2 (l.length-1) (by omega)).2.1;omega
theorem Ea_{l:List Int}(hv:cd_ l 1024=0):∀ (k i:Nat),l.length-i=k→(ku_ l i).length≤10*k
 |0,i,hk=>by rw[zw_ (by omega)];simp
 | k + 1, i, hk => by
   rw[px_ (by omega),List.length_append];have h1:=Ea_ hv k (i+1) (by omega);have h2:=Ao_ hv (j:=i) (by omega);have h3:=fH_ (n:=(hV_ l i).toNat) (by omega);omega
theorem HQ_{l:List Int}(hv:cd_ l 1024=0):(xU_ l).length≤10250:=by
 have h1:=Ob_ (n:=1024) hv;have h2:=Ea_ hv _ 0 rfl;have h3:=fH_ (n:=l.length) (by omega);rw[xU_,List.length_append];omega
def Rw_(x:Att)(l:List Int):List UInt8:=cb_ x.slot.toNat++x.root.1++gx_ x.target++xU_ l
structure U64(n:Int):Prop where
 lo:0≤n
 hi:n<18446744073709551616
theorem U64.len{n:Int}(h:U64 n):(cb_ n.toNat).length≤10:=fH_ (by have:=h.lo;have:=h.hi;omega)
theorem nr_{c:Cp}(h:U64 c.ep):(gx_ c).length≤42:=by
 have:=h.len;have:=c.rt.2;rw[gx_,List.length_append];omega
theorem Nx_(x:Att)(l:List Int)(cl:Bool)(hx:x.vals=.sl 1 cl (aq_ .i64 l))(hl:l.length≤140737488355328)(h1:U64 x.slot)(h2:U64 x.target.ep):
 PC Tryz.prog 239 [.agg (bl_ x)] (.tup [.sl 1 false (bts (if cd_ l 1024=0 then Rw_ x l else [])),.int .i64 (cd_ l 1024)]):=by
 refine PC.fact 5 jN_ (by simp) ⟨(ex_ x).2 (by rw[Att.Pure,hx];exact aM_ _ _),trivial⟩ ⟨jI_ _,trivial,trivial⟩ ?_;unfold fn_;refine bd ?_;have hc:=dX_ l cl 1024 hl;have hg:x.good=true:=by rw[Att.good,hx];rfl
 by_cases hv:cd_ l 1024=0
 ·have hr:=x.root.2;have q1:=h1.len;have q2:=nr_ h2;have q3:=HQ_ hv;have p1:=(cv_ x.slot h1.lo h1.hi).nil (by omega);have p2:=(em_ x.root).own (cb_ x.slot.toNat) (by omega);have p3:=(qZ_ x.target h2.lo h2.hi).own (cb_ x.slot.toNat++x.root.1) (by rw[List.length_append];omega);have p4:=se_ l cl hv (cb_ x.slot.toNat++x.root.1++gx_ x.target) (by simp only[List.length_append];omega);rw[if_pos hv];rw[hv]at hc ⊢;repeat(first|refine aa_ ?_|simp only[go_sem,hx,hg])
  refine So_ hc ?_
  refine ab_ ?_;repeat(first|refine aa_ ?_|simp only[go_sem,hx])
  refine bs_ [] (p1) (by simp) evd (bT_.mk' (by simp) (by simp) evd) ?_;refine evg ?_;try refine aa_ ?_
  refine bs_ [1] (p2) (by simp) evd (bT_.mk' (by simp) (by simp) evd) ?_;refine evg ?_;try refine aa_ ?_
  refine bs_ [2] (p3) (by simp) evd (bT_.mk' (by simp) (by simp) evd) ?_;refine evg ?_;repeat(first|refine aa_ ?_|simp only[go_sem,hx])
  refine bs_ [3] (p4) (by simp) evd (bT_.mk' (by simp) (by simp) evd) ?_;refine evg ?_;try refine aa_ ?_
  exact ae_
 ·have hv':(cd_ l 1024 != 0)=true:=by simpa using hv
  rw[if_neg hv];repeat(first|refine aa_ ?_|simp only[go_sem,hx,hg])
  refine So_ hc ?_
  refine ac_ ?_ (by(try simp only[go_sem,hv']);try exact evd);try refine aa_ ?_
  refine⟨_,rfl,.inr ⟨.tup [.sl 0 true [],.int .i64 (cd_ l 1024)],evd,⟨trivial,trivial,trivial⟩,Wk.tup ⟨Wk.empty _ _ _,Wk.refl _,trivial⟩⟩⟩
def oN_(x:Clm)(l:List Int):List UInt8:=cb_ x.src.toNat++cb_ x.tgt.toNat++x.root.1++xU_ l
structure rn_(x:Clm)(l:List Int)(cl:Bool):Prop where
 src:U64 x.src
 tgt:U64 x.tgt
 vals:x.vals=.sl 1 cl (aq_ .i64 l)
 len:l.length≤140737488355328
theorem uD_{x:Clm}{l:List Int}{cl:Bool}(h:rn_ x l cl)(hv:cd_ l 1024=0):(oN_ x l).length≤10302:=by
 have:=h.src.len;have:=h.tgt.len;have:=HQ_ hv;have:=x.root.2;simp only[oN_,List.length_append];omega
theorem rn_.good{x:Clm}{l:List Int}{cl:Bool}(h:rn_ x l cl):x.good=true:=by rw[Clm.good,h.vals];rfl
theorem rn_.pu{x:Clm}{l:List Int}{cl:Bool}(h:rn_ x l cl):x.Pure:=by rw[Clm.Pure,h.vals];exact aM_ _ _
theorem rn_.map{x:Clm}{l:List Int}{cl:Bool}(h:rn_ x l cl)(ρ:Nat→Nat):x.map (ren ρ)=x:=by
 have hv:=h.vals;obtain⟨s,t,r,v⟩:=x;simp only at hv;subst hv;simp only[Clm.map,ren,cC_]
theorem Hh_(x:Clm)(l:List Int)(cl:Bool)(hx:rn_ x l cl)(hv:cd_ l 1024=0):Rr_ 265 [.agg (bQ_ x)] (oN_ x l):=by
 intro bs hb;refine ar_.fact 5 qy_ (by simp) ?_ (by simp);unfold kK_;refine bd ?_;simp only[oN_,List.length_append,←List.append_assoc,←Nat.add_assoc]at hb ⊢;have hg:=hx.good;have hvs:=hx.vals;have p1:=(cv_ x.src hx.src.lo hx.src.hi).own bs (by omega);have p2:=(cv_ x.tgt hx.tgt.lo hx.tgt.hi).own (bs++cb_ x.src.toNat) (by simp only[List.length_append];omega);have p3:=(em_ x.root).own (bs++cb_ x.src.toNat++cb_ x.tgt.toNat) (by simp only[List.length_append];omega);have p4:=se_ l cl hv (bs++cb_ x.src.toNat++cb_ x.tgt.toNat++x.root.1) (by simp only[List.length_append];omega);repeat(first|refine aa_ ?_|simp only[go_sem,hg])
 refine bs_ [0] (p1) (by simp) evd (bT_.mk' (by simp) (by simp) evd) ?_;refine evg ?_;try refine aa_ ?_
 refine bs_ [2] (p2) (by simp) evd (bT_.mk' (by simp) (by simp) evd) ?_;refine evg ?_;try refine aa_ ?_
 refine bs_ [3] (p3) (by simp) evd (bT_.mk' (by simp) (by simp) evd) ?_;refine evg ?_;repeat(first|refine aa_ ?_|simp only[go_sem,hvs])
 refine bs_ [4] (p4) (by simp) evd (bT_.mk' (by simp) (by simp) evd) ?_;refine evg ?_;try refine aa_ ?_
 exact SG_ [] [0,5]
theorem Hg_(x:Clm)(l:List Int)(cl:Bool)(hx:rn_ x l cl)(hv:cd_ l 1024=0):ar_ Tryz.prog 265 [.sl 0 true [],.agg (bQ_ x)] [] (.hs 1 0 0 (oN_ x l).length) [.vec 1 (bts (oN_ x l))]:=by
 refine ar_.fact 5 qy_ (by simp) ?_ (by simp);have hb:=uD_ hx hv;unfold kK_;refine bd ?_;simp only[oN_,List.length_append,←List.append_assoc,←Nat.add_assoc]at hb ⊢;have hg:=hx.good;have hvs:=hx.vals;have p1:=(cv_ x.src hx.src.lo hx.src.hi).nil (by omega);have p2:=(cv_ x.tgt hx.tgt.lo hx.tgt.hi).own (cb_ x.src.toNat) (by omega);have p3:=(em_ x.root).own (cb_ x.src.toNat++cb_ x.tgt.toNat) (by simp only[List.length_append];omega);have p4:=se_ l cl hv (cb_ x.src.toNat++cb_ x.tgt.toNat++x.root.1) (by simp only[List.length_append];omega);repeat(first|refine aa_ ?_|simp only[go_sem,hg])
 refine bs_ [] (p1) (by simp) evd (bT_.mk' (by simp) (by simp) evd) ?_;refine evg ?_;try refine aa_ ?_
 refine bs_ [1] (p2) (by simp) evd (bT_.mk' (by simp) (by simp) evd) ?_;refine evg ?_;try refine aa_ ?_
 refine bs_ [2] (p3) (by simp) evd (bT_.mk' (by simp) (by simp) evd) ?_;refine evg ?_;repeat(first|refine aa_ ?_|simp only[go_sem,hvs])
 refine bs_ [3] (p4) (by simp) evd (bT_.mk' (by simp) (by simp) evd) ?_;refine evg ?_;try refine aa_ ?_
 exact SG_ [] [4]
def EJ_(l1 l2:List Int):Int:=if cd_ l1 1024=0 then cd_ l2 1024 else cd_ l1 1024
def Ql_(x:Slg)(l1 l2:List Int):List UInt8:=oN_ x.fst l1++oN_ x.snd l2
theorem Nz_(x:Slg)(l1 l2:List Int)(c1 c2:Bool)(h1:rn_ x.fst l1 c1)(h2:rn_ x.snd l2 c2):
 PC Tryz.prog 240 [.agg (cy_ x)] (.tup [.sl 1 false (bts (if EJ_ l1 l2=0 then Ql_ x l1 l2 else [])),.int .i64 (EJ_ l1 l2)]):=by
 refine PC.fact 6 lK_ (by simp) ⟨(fY_ x).2 ⟨h1.pu,h2.pu⟩,trivial⟩ ⟨jI_ _,trivial,trivial⟩ ?_;unfold gB_;refine bd ?_;have hg:x.good=true:=by rw[Slg.good,h1.good,h2.good];rfl
 have hv1:=h1.vals;have hv2:=h2.vals;have m1:=h1.map;have m2:=h2.map;have k1:=dX_ l1 c1 1024 h1.len;have k2:=dX_ l2 c2 1024 h2.len;unfold EJ_;by_cases e1:cd_ l1 1024=0
 ·simp only[e1,if_true]
  rw[e1]at k1;by_cases e2:cd_ l2 1024=0
  ·simp only[e2,if_true];rw[e2]at k2;have q1:=uD_ h1 e1;have q2:=uD_ h2 e2;have p1:=Hg_ x.fst l1 c1 h1 e1;have p2:=Hh_ x.snd l2 c2 h2 e2 (oN_ x.fst l1) (by omega);repeat(first|refine aa_ ?_|simp only[go_sem,hg,hv1,hv2])
   refine So_ k1 ?_
   refine ab_ ?_;repeat(first|refine aa_ ?_|simp only[go_sem,hg,hv1,hv2])
   refine So_ k2 ?_
   refine Rh_ ?_
   refine bs_ [] (p1) (by simp) (by(try simp only[go_sem,m1]);try exact evd) (bT_.mk' (by simp) (by simp) (by(try simp only[go_sem,m1]);try exact evd)) ?_;refine evg ?_;try refine aa_ ?_
   refine bs_ [1] (p2) (by simp) (by(try simp only[go_sem,m2]);try exact evd) (bT_.mk' (by simp) (by simp) (by(try simp only[go_sem,m2]);try exact evd)) ?_;refine evg ?_;try refine aa_ ?_
   exact ae_
  ·have e2':(cd_ l2 1024 != 0)=true:=by simpa using e2
   simp only[e2,if_false];repeat(first|refine aa_ ?_|simp only[go_sem,hg,hv1,hv2])
   refine So_ k1 ?_
   refine ab_ ?_;repeat(first|refine aa_ ?_|simp only[go_sem,hg,hv1,hv2])
   refine So_ k2 ?_
   refine ac_ ?_ (by(try simp only[go_sem,e2']);try exact evd);try refine aa_ ?_
   refine⟨_,rfl,.inr ⟨.tup [.sl 0 true [],.int .i64 (cd_ l2 1024)],evd,⟨trivial,trivial,trivial⟩,Wk.tup ⟨Wk.empty _ _ _,Wk.refl _,trivial⟩⟩⟩
 ·have e1':(cd_ l1 1024 != 0)=true:=by simpa using e1
  simp only[e1,if_false];repeat(first|refine aa_ ?_|simp only[go_sem,hg,hv1,hv2])
  refine So_ k1 ?_
  refine ac_ ?_ (by(try simp only[go_sem,e1']);try exact evd);try refine aa_ ?_
  refine⟨_,rfl,.inr ⟨.tup [.sl 0 true [],.int .i64 (cd_ l1 1024)],evd,⟨trivial,trivial,trivial⟩,Wk.tup ⟨Wk.empty _ _ _,Wk.refl _,trivial⟩⟩⟩
def RX_(x:Vdt):List UInt8:=cb_ x.tag.toNat++cb_ x.kind.toNat++x.latest.1
def Fe_(x:Vdt):Prop:=x.kind<1∨4<x.kind
instance (x:Vdt):Decidable (Fe_ x):=inferInstanceAs (Decidable (_∨_))
theorem NB_(x:Vdt)(h1:U64 x.tag):
 PC Tryz.prog 242 [.agg (cG_ x)] (.tup [.sl 1 false (bts (if Fe_ x then []else RX_ x)),.int .i64 (if Fe_ x then 3 else 0)]):=by
 refine PC.fact 4 mH_ (by simp) ⟨lR_ x,trivial⟩ ⟨jI_ _,trivial,trivial⟩ ?_;unfold hl_;refine bd ?_;by_cases hv:Fe_ x
 ·rw[if_pos hv,if_pos hv]
  unfold Fe_ at hv;by_cases ha:x.kind<1
  ·have ha':decide (x.kind<1)=true:=by simpa using ha
   repeat(first|refine aa_ ?_|simp only[go_sem,ha'])
   refine Ri_ ?_
   refine⟨_,rfl,.inr ⟨.tup [.sl 0 true [],.int .i64 3],evd,⟨trivial,trivial,trivial⟩,Wk.tup ⟨Wk.empty _ _ _,Wk.refl _,trivial⟩⟩⟩
  ·have ha':decide (x.kind<1)=false:=by simpa using ha
   have hb':decide (4<x.kind)=true:=by rw[decide_eq_true_eq];omega
   repeat(first|refine aa_ ?_|simp only[go_sem,ha',hb'])
   refine Ri_ ?_
   refine⟨_,rfl,.inr ⟨.tup [.sl 0 true [],.int .i64 3],evd,⟨trivial,trivial,trivial⟩,Wk.tup ⟨Wk.empty _ _ _,Wk.refl _,trivial⟩⟩⟩
 ·rw[if_neg hv,if_neg hv];unfold Fe_ at hv;have ha':decide (x.kind<1)=false:=by rw[decide_eq_false_iff_not];omega
  have hb':decide (4<x.kind)=false:=by rw[decide_eq_false_iff_not];omega
  have hw:IntKind.u64.wrap x.kind=x.kind:=aH_ (by omega) (by omega);have hr:=x.latest.2;have q1:=h1.len;have q2:=fH_ (n:=x.kind.toNat) (by omega);have p1:=(cv_ x.tag h1.lo h1.hi).nil (by omega);have p2:=(cv_ x.kind (by omega) (by omega)).own (cb_ x.tag.toNat) (by omega);have p3:=(em_ x.latest).own (cb_ x.tag.toNat++cb_ x.kind.toNat) (by rw[List.length_append];omega);repeat(first|refine aa_ ?_|simp only[go_sem,ha',hb'])
  refine ab_ ?_;repeat(first|refine aa_ ?_|simp only[go_sem,hw])
  refine bs_ [] (p1) (by simp) evd (bT_.mk' (by simp) (by simp) evd) ?_;refine evg ?_;repeat(first|refine aa_ ?_|simp only[go_sem,hw])
  refine bs_ [1] (p2) (by simp) evd (bT_.mk' (by simp) (by simp) evd) ?_;refine evg ?_;try refine aa_ ?_
  refine bs_ [2] (p3) (by simp) evd (bT_.mk' (by simp) (by simp) evd) ?_;refine evg ?_;try refine aa_ ?_
  exact ae_
def RG_(x:Blk):List UInt8:=cb_ x.slot.toNat++x.root.1++x.parent.1++x.payload.1++(dy_ x.diff).1++(dy_ x.pdiff).1++gx_ x.just++gx_ x.fin++gx_ x.pul.j++gx_ x.pul.f++IU_ x.timely
structure Ol_(x:Blk):Prop where
 slot:U64 x.slot
 just:U64 x.just.ep
 fin:U64 x.fin.ep
 j:U64 x.pul.j.ep
 f:U64 x.pul.f.ep
theorem Ny_(x:Blk)(hx:Ol_ x):PC Tryz.prog 238 [.sl 0 true [],.agg (ap_ x)] (.sl 1 false (bts (RG_ x))):=by
 refine PC.fact 5 Bq_ (by simp) ⟨trivial,ea_ x,trivial⟩ (jI_ _) ?_;unfold ql_;refine bd ?_;have r1:=x.root.2;have r2:=x.parent.2;have r3:=x.payload.2;have r4:=(dy_ x.diff).2;have r5:=(dy_ x.pdiff).2;have q1:=hx.slot.len;have q2:=nr_ hx.just;have q3:=nr_ hx.fin;have q4:=nr_ hx.j;have q5:=nr_ hx.f;have q6:(IU_ x.timely).length≤1:=by cases x.timely<;>simp[IU_]
 have p1:=(cv_ x.slot hx.slot.lo hx.slot.hi).nil (by omega);have p2:=(em_ x.root).own (cb_ x.slot.toNat) (by omega);have p3:=(em_ x.parent).own _ (by simp only[List.length_append];omega:(cb_ x.slot.toNat++x.root.1).length+x.parent.1.length≤140737488355328);have p4:=(em_ x.payload).own _ (by simp only[List.length_append];omega:(cb_ x.slot.toNat++x.root.1++x.parent.1).length+x.payload.1.length≤140737488355328);have p5:=(Aj_ x.diff).own _ (by simp only[List.length_append];omega:(cb_ x.slot.toNat++x.root.1++x.parent.1++x.payload.1).length+(dy_ x.diff).1.length≤140737488355328);have p6:=(Aj_ x.pdiff).own _ (by simp only[List.length_append];omega:(cb_ x.slot.toNat++x.root.1++x.parent.1++x.payload.1++(dy_ x.diff).1).length+(dy_ x.pdiff).1.length≤140737488355328);have p7:=(qZ_ x.just hx.just.lo hx.just.hi).own _ (by simp only[List.length_append];omega:(cb_ x.slot.toNat++x.root.1++x.parent.1++x.payload.1++(dy_ x.diff).1++(dy_ x.pdiff).1).length+(gx_ x.just).length≤140737488355328);have p8:=(qZ_ x.fin hx.fin.lo hx.fin.hi).own _ (by simp only[List.length_append];omega:(cb_ x.slot.toNat++x.root.1++x.parent.1++x.payload.1++(dy_ x.diff).1++(dy_ x.pdiff).1++gx_ x.just).length+(gx_ x.fin).length≤140737488355328);have p9:=(qZ_ x.pul.j hx.j.lo hx.j.hi).own _ (by simp only[List.length_append];omega:(cb_ x.slot.toNat++x.root.1++x.parent.1++x.payload.1++(dy_ x.diff).1++(dy_ x.pdiff).1++gx_ x.just++gx_ x.fin).length+(gx_ x.pul.j).length≤140737488355328);have p10:=(qZ_ x.pul.f hx.f.lo hx.f.hi).own _ (by simp only[List.length_append];omega:(cb_ x.slot.toNat++x.root.1++x.parent.1++x.payload.1++(dy_ x.diff).1++(dy_ x.pdiff).1++gx_ x.just++gx_ x.fin++gx_ x.pul.j).length+(gx_ x.pul.f).length≤140737488355328);have p11:=(KN_ x.timely).own _ (by simp only[List.length_append];omega:(cb_ x.slot.toNat++x.root.1++x.parent.1++x.payload.1++(dy_ x.diff).1++(dy_ x.pdiff).1++gx_ x.just++gx_ x.fin++gx_ x.pul.j++gx_ x.pul.f).length+(IU_ x.timely).length≤140737488355328);try refine aa_ ?_
 refine bs_ [] (p1) (by simp) evd (bT_.mk' (by simp) (by simp) evd) ?_;refine evg ?_;try refine aa_ ?_
 refine bs_ [1] (p2) (by simp) evd (bT_.mk' (by simp) (by simp) evd) ?_;refine evg ?_;try refine aa_ ?_
 refine bs_ [2] (p3) (by simp) evd (bT_.mk' (by simp) (by simp) evd) ?_;refine evg ?_;try refine aa_ ?_
 refine bs_ [3] (p4) (by simp) evd (bT_.mk' (by simp) (by simp) evd) ?_;refine evg ?_;try refine aa_ ?_
 refine bs_ [4] (p5) (by simp) evd (bT_.mk' (by simp) (by simp) evd) ?_;refine evg ?_;try refine aa_ ?_
 refine bs_ [5] (p6) (by simp) evd (bT_.mk' (by simp) (by simp) evd) ?_;refine evg ?_;try refine aa_ ?_
 refine bs_ [6] (p7) (by simp) evd (bT_.mk' (by simp) (by simp) evd) ?_;refine evg ?_;try refine aa_ ?_
 refine bs_ [7] (p8) (by simp) evd (bT_.mk' (by simp) (by simp) evd) ?_;refine evg ?_;try refine aa_ ?_
 refine bs_ [8] (p9) (by simp) evd (bT_.mk' (by simp) (by simp) evd) ?_;refine evg ?_;try refine aa_ ?_
 refine bs_ [9] (p10) (by simp) evd (bT_.mk' (by simp) (by simp) evd) ?_;refine evg ?_;try refine aa_ ?_
 refine bs_ [10] (p11) (by simp) evd (bT_.mk' (by simp) (by simp) evd) ?_;refine evg ?_;try refine aa_ ?_
 exact ae_
structure CN_(x:Tab)(l:List Int)(cl:Bool):Prop where
 ep:U64 x.cp.ep
 bals:x.bals=.sl 1 cl (aq_ .u64 l)
 all:∀n∈l,U64 n
 len:l.length≤140737488355328
def NV_(x:Tab)(l:List Int):List UInt8:=gx_ x.cp++cb_ l.length++ya_ l
theorem HU_:∀ {l:List Int},(∀n∈l,U64 n)→(ya_ l).length≤10*l.length
 | [],_=>by simp[ya_]
 | n :: l, h => by
   have h1:=HU_ (l:=l) (fun m hm=>h m (by simp[hm]));have h2:=(h n (by simp)).len;simp only[ya_,List.length_append,List.length_cons];omega
theorem Kc_{l:List Int}{i:Nat}(h:i<l.length):ya_ (l.drop i)=cb_ (l.getD i 0).toNat++ya_ (l.drop (i+1)):=by
 rw[List.drop_eq_getElem_cons h,ya_,List.getD_eq_getElem?_getD,List.getElem?_eq_getElem h];rfl
theorem CN_.good{x:Tab}{l:List Int}{cl:Bool}(h:CN_ x l cl):x.good=true:=by rw[Tab.good,h.bals];rfl
theorem CN_.pu{x:Tab}{l:List Int}{cl:Bool}(h:CN_ x l cl):x.Pure:=by rw[Tab.Pure,h.bals];exact aM_ _ _
theorem CN_.getD{x:Tab}{l:List Int}{cl:Bool}(h:CN_ x l cl){i:Nat}(hi:i<l.length):U64 (l.getD i 0):=by
 rw[List.getD_eq_getElem?_getD,List.getElem?_eq_getElem hi];exact h.all _ (List.getElem_mem hi)
theorem NA_(x:Tab)(l:List Int)(cl:Bool)(hx:CN_ x l cl):
 PC Tryz.prog 241 [.agg (aY_ x)] (.tup [.sl 1 false (bts (if 1024<l.length then []else NV_ x l)),.int .i64 (if 1024<l.length then 3 else 0)]):=by
 refine PC.fact 6 ps_ (by simp) ⟨(ec_ x).2 hx.pu,trivial⟩ ⟨jI_ _,trivial,trivial⟩ ?_;unfold iI_;refine bd ?_;have hg:=hx.good;have hv:=hx.bals;by_cases h0:1024<l.length
 ·have h0':decide ((1024:Int)<(l.length:Int))=true:=by rw[decide_eq_true_eq];omega
  rw[if_pos h0,if_pos h0];repeat(first|refine aa_ ?_|simp only[go_sem,hg,hv])
  refine ac_ ?_ (by(try simp only[go_sem,h0']);try exact evd);try refine aa_ ?_
  refine⟨_,rfl,.inr ⟨.tup [.sl 0 true [],.int .i64 3],evd,⟨trivial,trivial,trivial⟩,Wk.tup ⟨Wk.empty _ _ _,Wk.refl _,trivial⟩⟩⟩
 have h0':decide ((1024:Int)<(l.length:Int))=false:=by rw[decide_eq_false_iff_not];omega
 rw[if_neg h0,if_neg h0];have q1:=nr_ hx.ep;have q2:=fH_ (n:=l.length) (by omega);have q3:=HU_ hx.all;have hw:IntKind.u64.wrap (l.length:Int)=l.length:=aH_ (by omega) (by omega)
 have hm:∀ρ:Nat→Nat,x.map (ren ρ)=x:=by
  intro ρ;obtain⟨c,v⟩:=x;simp only at hv;subst hv;simp only[Tab.map,ren,cC_]
 have hmf:∀ (σ:St) (zs:List Nat),x.map (fz σ zs)=x:=by
  intro σ zs;obtain⟨c,v⟩:=x;simp only at hv;subst hv;simp only[Tab.map,fz,ds_]
 have hr:=x.cp.rt.2;have q4:=hx.ep.len;have p1:=(cv_ x.cp.ep hx.ep.lo hx.ep.hi).nil (by omega);have p2:=(em_ x.cp.rt).own (cb_ x.cp.ep.toNat) (by omega);have p3:=(cv_ (l.length:Int) (by omega) (by omega)).own (cb_ x.cp.ep.toNat++x.cp.rt.1) (by rw[Int.toNat_natCast,List.length_append];omega);rw[Int.toNat_natCast]at p3;repeat(first|refine aa_ ?_|simp only[go_sem,hg,hv])
 refine ab_ ?_ (by(try simp only[go_sem,h0']);try exact evd);repeat(first|refine aa_ ?_|simp only[go_sem,hg,hv,hw])
 refine bs_ [] (p1) (by simp) evd (bT_.mk' (by simp) (by simp) evd) ?_;refine evg ?_;repeat(first|refine aa_ ?_|simp only[go_sem,hg,hv,hw])
 refine bs_ [1] (p2) (by simp) evd (bT_.mk' (by simp) (by simp) evd) ?_;refine evg ?_;repeat(first|refine aa_ ?_|simp only[go_sem,hg,hv,hw])
 refine bs_ [2] (p3) (by simp) evd (bT_.mk' (by simp) (by simp) evd) ?_;refine evg ?_;repeat(first|refine aa_ ?_|simp only[go_sem,hg,hv])
 refine gP_ (fun x':List UInt8×Nat=>⟨6,[.agg (aY_ x),.ptr 0 0,.sl 0 true [],.int .i64 0,.hs 1 1 0 x'.1.length,.int .i64 x'.2],[]⟩)
  (fun x'=>[.var (aY_ x),.vec 1 (bts x'.1)]) (fun x'=>l.length-x'.2) (fun x'=>x'.2≤l.length∧x'.1++ya_ (l.drop x'.2)=NV_ x l) (gx_ x.cp++cb_ l.length,0) ⟨by simp,by simp[NV_]⟩ ?_ ?_
 ·simp only[List.length_append,gx_,←List.append_assoc];refine GC.mk' [] [0,3] (by simp) rfl (by simp) (by simp) (by(try simp only[go_sem,hm,hmf]);try exact evd) (by(try simp only[go_sem,hm,hmf]);try exact evd)
 rintro⟨acc,i⟩ ⟨h1,h2⟩;dsimp only at h1 h2 ⊢;have hal:=congrArg List.length h2;simp only[NV_,List.length_append]at hal;repeat(first|refine aa_ ?_|simp only[go_sem,hg,hv])
 refine bM_ evd (fun h=>?_) (fun h=>?_)
 ·have hi:i<l.length:=by simpa using h
  have hgd:=er_ (k:=.u64) hi;have hu:=hx.getD hi;rw[Kc_ hi]at h2 hal;rw[List.length_append]at hal;have ha:=(cv_ (l.getD i 0) hu.lo hu.hi).own acc (by omega);have hwi:=ag_ hi (by omega);repeat(first|refine aa_ ?_|simp only[go_sem,hgd,hg,hv])
  refine cj_ [1] (ha) evd (br_.mk' (by simp) evd) ?_;refine evg ?_;repeat(first|refine aa_ ?_|simp only[go_sem,hwi])
  refine⟨(acc++cb_ (l.getD i 0).toNat,i+1),⟨hi,by simpa using h2⟩,by dsimp only;omega,?_⟩;simp only[List.length_append];refine GC.mk' [] [0,2] (by simp) rfl (by simp) (by simp) (by(try simp only[go_sem,hm,hmf]);try exact evd) (by(try simp only[go_sem,hm,hmf]);try exact evd)
 ·have hi:i=l.length:=by simp at h;omega
  subst hi;rw[List.drop_length,ya_,List.append_nil]at h2;rw[←h2];try refine aa_ ?_
  exact ae_
end Go.Proofs.YtkgimpdgncakjaaGreat
