/-
 My texts Ld, Le, Lf, Lg, Lh, Li, Lj, joined.
-/
import Derived.Test.YtkgimpdgncakjaaV3
namespace Go.Proofs.Ytkgimpdgncakjaa
open Go Go.FH Go.RowKit
set_option linter.unusedVariables false
set_option linter.unusedSimpArgs false
abbrev nA(t:List Nod):AV:=.sl 240 false (rows av_ t)
theorem Eh_{t:List Nod}{i:Nat}(h:i<t.length):(rows av_ t).getD i []=av_ (nod t i):=aR_ (f:=av_) fX_ h
theorem yd_(b:Blk)(st:Int):PC Try.prog 17 [.agg (aw_ b),.int .i64 st] (.agg [nA [⟨b,-1,st⟩]]):=by
 refine PC.fact 5 ta_ (by simp) puA puA ?_;unfold lG_;refine bd ?_;try refine aa_ ?_
 refine⟨_,by first|rfl|exact evd,.inr ⟨.agg [.sl 240 true (rows av_ [⟨b,-1,st⟩])],evd,by simp[Pu,PuL,de_],Wk.agg ⟨Wk.open_ _ _ _,fun h=>h,trivial⟩⟩⟩
def jC_(b:Blk):Int:=if b.payload=rt0 then 1 else 0
def Fd_(ttd:Wd)(p b:Blk):Bool:=if b.payload=rt0 then decide (p.payload=rt0)else if p.payload=rt0 then decide (EU_ b.pdiff ttd<0)&&decide (EU_ b.diff ttd ≥ 0)else true
theorem ic_(t:List Nod)(r:Rt):-1≤al_ t r∧al_ t r<t.length:=by
 unfold al_;cases h:cb_ (fun i=>decide ((nod t i).blk.root=r)) t.length with
 |none=>rw[iH_];omega
 |some i=>rw[fs_];have:=(dj_ h).1;omega
theorem vJ_(t:List Nod)(i:Int)(k:Nat)(p:List Nod×List Int):(bt_ t i k p).2.length=p.2.length+1∧(bt_ t i k p).1.length≤p.1.length+1:=by
 unfold bt_;split<;>simp
theorem iL_(t:List Nod)(i:Int):∀k,(bd_ (bt_ t i) ([],[]) k).2.length=k∧(bd_ (bt_ t i) ([],[]) k).1.length≤k
 |0=>⟨rfl,Nat.le_refl _⟩
 | k + 1 => by
   rw[dq_];have h1:=iL_ t i k;have h2:=vJ_ t i k (bd_ (bt_ t i) ([],[]) k);omega
end Go.Proofs.Ytkgimpdgncakjaa
