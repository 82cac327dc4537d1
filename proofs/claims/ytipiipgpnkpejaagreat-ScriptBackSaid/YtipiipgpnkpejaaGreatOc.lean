/-
 The law ScriptEdited.
-/
import Derived.Test.YtipiipgpnkpejaaGreatOb
import Derived.Test.YtipiipgpnkpejaaGreatV2
import Derived.Test.YtipiipgpnkpejaaGreatOa
namespace Go.Proofs.YtipiipgpnkpejaaGreat
open Go Go.FH Go.RowKit
set_option linter.unusedVariables false
set_option linter.unusedSimpArgs false
set_option maxRecDepth 8000
set_option maxHeartbeats 4000000
theorem Fj_(l:List VOp):rows VOp.c l=ops (l.map toV):=by
 unfold rows ops;rw[List.map_map];rfl
theorem DW_:∀ {l:List OpV},(∀x∈l,OpU x)→(cC_ l).1.length≤30010*l.length
 | [],_=>Nat.le_refl _
 | x :: l, h => by
   unfold cC_;split
   ·exact Nat.zero_le _
   ·rename_i hv;have h1:=GF_ (h x (by simp));have h2:=nu_ (by simpa using hv);have h3:=bH_ (n:=x.kind.toNat) (by omega);have h4:=DW_ (fun y hy=>h y (List.mem_cons_of_mem _ hy));unfold hn_;simp only[List.length_append,List.length_cons];omega
theorem zX_{l:List OpV}(h:∀x∈l,OpU x)(hl:l.length≤24):(fj_ l).1.length≤720240:=by
 have:=DW_ h;unfold fj_;(repeat' split)<;>first|exact Nat.zero_le _|(show (cC_ l).1.length≤_;omega)
theorem pc_ScriptEdited(l:List Int)(hl:l.length≤maxLen)(hwl:∀z∈l,(Lit.int .i64 z).wf=true)(at_:Int)(hat:(Lit.int .i64 at_).wf=true)(by_:Int)(hby:(Lit.int .u8 by_).wf=true):
 PC Tryz.prog 6 [.sl 1 false (aq_ .i64 l),.int .i64 at_,.int .u8 by_] (.bool true):=by
 obtain⟨c,vops,hlen,hops,cs⟩:=tt_ l;rw[Fj_]at cs
 have hu:∀x∈vops.map toV,OpU x:=fun x hx=>by
  obtain⟨y,hy,rfl⟩:=List.mem_map.1 hx;exact(hops y hy).u
 have hln:(vops.map toV).length≤24:=by rw[List.length_map];exact hlen
 have ce:=Fr_ (vops.map toV) hu (Nat.le_trans hln (by decide));have hbd:=zX_ hu hln;obtain⟨w3,hw3,_⟩:=iK_ at_ 16777215 (by decide) (by decide);generalize vops.map toV=L at *;generalize fj_ L=E at *;obtain⟨bs,e⟩:=E;dsimp only at ce hbd;refine PC.fact 13 nU_ (by simp) puA trivial ?_;unfold ht_;refine bd ?_;by_cases q:e=0
 case neg=>
  have e1:(e != 0)=true:=by simp[q]
  try refine aa_ ?_
  refine RV_ cs ?_
  refine ae_ ce ?_;repeat(first|refine aa_ ?_|simp only[go_sem,e1])
  refine Rf_ ?_
  refine RV_ dJ_ ?_
  exact ah_
 subst q;by_cases h0:bs.length=0
 ·have e0:((bs.length:Int)==0)=true:=by simp[h0]
  try refine aa_ ?_
  refine RV_ cs ?_
  refine ae_ ce ?_;repeat(first|refine aa_ ?_|simp only[go_sem,e0])
  refine Rf_ ?_
  refine RV_ dJ_ ?_
  exact ah_
 ·have e0:((bs.length:Int)==0)=false:=by rw[←Bool.not_eq_true,beq_iff_eq];omega
  obtain⟨q,hq,hq'⟩:=bN_ (k:=(w3:Int)) (n:=bs.length) (by omega) (by omega);obtain⟨u,hu2⟩:=OO_ ((bs[q]'hq').toNat:Int) (ior .u8 by_ 1)
  have cD:=ar_.lend (σ:=[.vec 1 (bts (bs.set q u))]) (args:=[.hs 1 0 0 bs.length]) (r:=.bool true) rfl (by
   have:=pc_ScriptDecodes (bs.set q u) (by rw[List.length_set];exact Nat.le_trans hbd (by decide));have ht2:List.take bs.length (bts (bs.set q u))=bts (bs.set q u):=List.take_of_length_le (by simp);(try simp only[go_sem,ht2,List.length_cons,List.length_nil,List.range_succ,List.range_zero,List.length_set])
   exact this)
  try refine aa_ ?_
  refine RV_ cs ?_
  refine ae_ ce ?_;repeat(first|refine aa_ ?_|simp only[go_sem,e0])
  refine ab_ ?_;repeat(first|refine aa_ ?_|simp only[go_sem,hw3,hq,iI_ hq',hu2,OC_])
  refine am_ [1] (cD) evd (aj_.mk' (by simp) evd) ?_;refine evg ?_;try refine aa_ ?_
  refine RV_ dJ_ ?_
  exact ah_
end Go.Proofs.YtipiipgpnkpejaaGreat
