/-
 My texts Eb, Ec, Ea, Ed, Ee, Ef, Eh, Eg, Ei, joined.
-/
import Derived.Test.YtkgimpdgncakjaaW7
import Derived.Test.YtkgimpdgncakjaaW4
import Derived.Test.YtkgimpdgncakjaaW3
namespace Go.Proofs.Ytkgimpdgncakjaa
open Go Go.FH
set_option linter.unusedVariables false
set_option linter.unusedSimpArgs false
def iA_(l:List Int)(n:Int)(i:Nat):Int:=
 if i<l.length then (if l.getD i 0<0∨n≤l.getD i 0 then 3 else if 0<i∧l.getD i 0≤l.getD (i-1) 0 then 8 else iA_ l n (i+1))else 0
termination_by l.length-i
def fV_(l:List Int)(n:Int):Int:=if l=[]then 2 else iA_ l n 0
theorem kc_{l:List Int}{n:Int}{i:Nat}(h:i<l.length):iA_ l n i=if l.getD i 0<0∨n≤l.getD i 0 then 3 else if 0<i∧l.getD i 0≤l.getD (i-1) 0 then 8 else iA_ l n (i+1):=by
 rw[iA_,if_pos h]
theorem qT_{l:List Int}{n:Int}{i:Nat}(h:¬i<l.length):iA_ l n i=0:=by rw[iA_,if_neg h]
def EX_(l:List Int)(i:Nat):Int:=if i=0 then l.getD 0 0 else l.getD i 0-(l.getD (i-1) 0+1)
def DG_(l:List Int)(i:Nat):List UInt8:=if i<l.length then fY_ (EX_ l i).toNat++DG_ l (i+1)else []
termination_by l.length-i
def Fi_(l:List Int):List UInt8:=fY_ l.length++DG_ l 0
theorem uu_{l:List Int}{n:Int}:∀ (k i:Nat),l.length-i=k→iA_ l n i=0→∀j,i≤j→j<l.length→0≤l.getD j 0∧l.getD j 0<n∧(0<j→l.getD (j-1) 0<l.getD j 0)
 |0,i,hk,h,j,h1,h2=>by omega
 | k + 1, i, hk, h, j, h1, h2 => by
   rw[kc_ (by omega)]at h;split at h
   ·cases h
   ·rename_i ha
    split at h
    ·cases h
    ·rename_i hb
     by_cases hj:j=i
     ·subst hj;refine⟨by omega,by omega,fun h0=>?_⟩;have:=not_and.1 hb h0;omega
     ·exact uu_ k (i+1) (by omega) h j (by omega) h2
theorem Du_{l:List Int}{n:Int}(h:fV_ l n=0):l≠[]∧∀j,j<l.length→0≤l.getD j 0∧l.getD j 0<n∧(0<j→l.getD (j-1) 0<l.getD j 0):=by
 unfold fV_ at h;split at h
 ·cases h
 ·rename_i h0;exact⟨h0,fun j hj=>uu_ _ 0 rfl h j (by omega) hj⟩
def Fn_:List Int→List UInt8
 | []=>[]
 |x::l=>fY_ x.toNat++Fn_ l
theorem iF_{k:IntKind}{ns:List Int}{i:Nat}(h:i<ns.length):(au_ k ns).getD i []=[.int k (ns.getD i 0)]:=by
 rw[xU_ h,List.getD_eq_getElem?_getD,List.getElem?_eq_getElem h];rfl
theorem kd_(l:List Int)(cl:Bool)(n:Int)(hb:l.length≤140737488355328):PC Try.prog 59 [.sl 1 cl (au_ .i64 l),.int .i64 n] (.int .i64 (fV_ l n)):=by
 refine PC.fact 13 ha_ (by simp) ⟨bU_ .i64 l,trivial,trivial⟩ trivial ?_;unfold dV_ fV_;refine bd ?_;by_cases h0:l=[]
 ·subst h0;rw[if_pos rfl];try refine aa_ ?_
  refine EB_ ?_
  exact am_
 rw[if_neg h0];have hl:0<l.length:=List.length_pos_iff.2 h0;have hl':((l.length:Int)==0)=false:=by simp;omega
 repeat(first|refine aa_ ?_|simp only[go_sem,hl'])
 refine ac_ ?_ (by(try simp only[go_sem,hl']);try exact evd);try refine aa_ ?_
 refine lC_ (fun i:Nat=>⟨13,[.sl 1 cl (au_ .i64 l),.int .i64 n,.dead,.dead,.int .i64 0,.dead,.dead,.dead,.dead,.dead,.sl 1 cl (au_ .i64 l),.int .i64 l.length,.int .i64 i],[]⟩) (fun _=>[]) (fun i=>l.length-i) (fun i=>i≤l.length∧iA_ l n i=iA_ l n 0) [5,6,7,8,9] 0 ⟨by omega,rfl⟩ evd rfl ?_;rintro i ⟨hi,hv⟩;try dsimp only
 try refine aa_ ?_
 refine dC_ evd (fun h=>?_) (fun h=>?_)
 ·have h1:i<l.length:=by simp at h;omega
  have hg:=iF_ (k:=.i64) h1;have hi':((i:Int)+1)=((i+1:Nat):Int):=by omega
  have hw:=ai_ h1 (by omega);rw[kc_ h1]at hv;generalize hx:l.getD i 0=x at *;by_cases hA:x<0∨n≤x
  ·rw[if_pos hA]at hv
   rw[←hv];by_cases hx0:x<0
   ·have hx0':decide (x<0)=true:=by simpa using hx0
    repeat(first|refine aa_ ?_|simp only[go_sem,hg,hx0'])
    refine EB_ ?_
    exact am_
   ·have hx0':decide (x<0)=false:=by simpa using hx0
    have hx1:decide (n≤x)=true:=by rw[decide_eq_true_eq];omega
    repeat(first|refine aa_ ?_|simp only[go_sem,hg,hx0',hx1])
    refine EB_ ?_
    exact am_
  ·rw [if_neg hA] at hv
   have hx0':decide (x<0)=false:=by rw[decide_eq_false_iff_not];omega
   have hx1:decide (n≤x)=false:=by rw[decide_eq_false_iff_not];omega
   repeat(first|refine aa_ ?_|simp only[go_sem,hg,hx0',hx1])
   refine ac_ ?_;by_cases hp:0<i
   ·have hp':decide ((0:Int)<(i:Int))=true:=by rw[decide_eq_true_eq];omega
    have hw1:IntKind.i64.wrap ((i:Int)-1)=((i-1:Nat):Int):=by rw[be_ (by omega) (by omega)];omega
    have hg2:=iF_ (k:=.i64) (show i-1<l.length by omega);by_cases hB:x≤l.getD (i-1) 0
    ·have hB':decide (x≤l.getD (i-1) 0)=true:=by simpa using hB
     rw[if_pos ⟨hp,hB⟩]at hv;rw[←hv];repeat(first|refine aa_ ?_|simp only[go_sem,hg,hp',hw1,hg2,hB'])
     refine EB_ ?_
     exact am_
    ·have hB':decide (x≤l.getD (i-1) 0)=false:=by simpa using hB
     rw[if_neg (fun hh=>hB hh.2)]at hv;repeat(first|refine aa_ ?_|simp only[go_sem,hg,hp',hw1,hg2,hB'])
     refine ac_ ?_;repeat(first|refine aa_ ?_|simp only[go_sem,hw])
     exact⟨i+1,⟨h1,hv⟩,by omega,rfl⟩
   ·have hp':decide ((0:Int)<(i:Int))=false:=by rw[decide_eq_false_iff_not];omega
    rw[if_neg (fun hh=>hp hh.1)]at hv;repeat(first|refine aa_ ?_|simp only[go_sem,hp'])
    refine ac_ ?_;repeat(first|refine aa_ ?_|simp only[go_sem,hw])
    exact⟨i+1,⟨h1,hv⟩,by omega,rfl⟩
 ·have h1:i=l.length:=by simp at h;omega
  subst h1;rw[←hv,qT_ (by omega)];try refine aa_ ?_
  exact am_
end Go.Proofs.Ytkgimpdgncakjaa
namespace Go.Proofs.Ytkgimpdgncakjaa
open Go Go.FH Go.RowKit
set_option linter.unusedVariables false
set_option linter.unusedSimpArgs false
def Gd_(x:Att)(l:List Int):List UInt8:=fY_ x.slot.toNat++x.root.1++xs_ x.target++Fi_ l
structure U64(n:Int):Prop where
 lo:0≤n
 hi:n<18446744073709551616
theorem U64.len{n:Int}(h:U64 n):(fY_ n.toNat).length≤10:=wj_ (by have:=h.lo;have:=h.hi;omega)
def DA_(x:Clm)(l:List Int):List UInt8:=fY_ x.src.toNat++fY_ x.tgt.toNat++x.root.1++Fi_ l
structure sD_(x:Clm)(l:List Int)(cl:Bool):Prop where
 src:U64 x.src
 tgt:U64 x.tgt
 vals:x.vals=.sl 1 cl (au_ .i64 l)
 len:l.length≤140737488355328
theorem sD_.good{x:Clm}{l:List Int}{cl:Bool}(h:sD_ x l cl):x.good=true:=by rw[Clm.good,h.vals];rfl
theorem sD_.pu{x:Clm}{l:List Int}{cl:Bool}(h:sD_ x l cl):x.Pure:=by rw[Clm.Pure,h.vals];exact bU_ _ _
theorem sD_.map{x:Clm}{l:List Int}{cl:Bool}(h:sD_ x l cl)(ρ:Nat→Nat):x.map (ren ρ)=x:=by
 have hv:=h.vals;obtain⟨s,t,r,v⟩:=x;simp only at hv;subst hv;simp only[Clm.map,ren,bx_]
def DK_(l1 l2:List Int):Int:=if fV_ l1 1024=0 then fV_ l2 1024 else fV_ l1 1024
def Fw_(x:Slg)(l1 l2:List Int):List UInt8:=DA_ x.fst l1++DA_ x.snd l2
def GG_(x:Vdt):List UInt8:=fY_ x.tag.toNat++fY_ x.kind.toNat++x.latest.1
def EE_(x:Vdt):Prop:=x.kind<1∨4<x.kind
instance (x:Vdt):Decidable (EE_ x):=inferInstanceAs (Decidable (_∨_))
def Gw_(x:Blk):List UInt8:=fY_ x.slot.toNat++x.root.1++x.parent.1++x.payload.1++(BK_ x.diff).1++(BK_ x.pdiff).1++xs_ x.just++xs_ x.fin++xs_ x.pul.j++xs_ x.pul.f++Gg_ x.timely
structure DR_(x:Blk):Prop where
 slot:U64 x.slot
 just:U64 x.just.ep
 fin:U64 x.fin.ep
 j:U64 x.pul.j.ep
 f:U64 x.pul.f.ep
structure uD_(x:Tab)(l:List Int)(cl:Bool):Prop where
 ep:U64 x.cp.ep
 bals:x.bals=.sl 1 cl (au_ .u64 l)
 all:∀n∈l,U64 n
 len:l.length≤140737488355328
def GE_(x:Tab)(l:List Int):List UInt8:=xs_ x.cp++fY_ l.length++Fn_ l
theorem uD_.good{x:Tab}{l:List Int}{cl:Bool}(h:uD_ x l cl):x.good=true:=by rw[Tab.good,h.bals];rfl
theorem uD_.pu{x:Tab}{l:List Int}{cl:Bool}(h:uD_ x l cl):x.Pure:=by rw[Tab.Pure,h.bals];exact bU_ _ _
theorem uD_.getD{x:Tab}{l:List Int}{cl:Bool}(h:uD_ x l cl){i:Nat}(hi:i<l.length):U64 (l.getD i 0):=by
 rw[List.getD_eq_getElem?_getD,List.getElem?_eq_getElem hi];exact h.all _ (List.getElem_mem hi)
end Go.Proofs.Ytkgimpdgncakjaa
