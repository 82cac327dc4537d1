/-
 The Go function forkhead/forkheadlaw33.SnapshotLoads returns true for every input and changes nothing that was there. Conditions: none beyond the given row's.
-/
import Derived.Test.YtflhnmleodkjiaaGreatRows
import Derived.Test.YtflhnmleodkjiaaGreatZ3
import Derived.Test.YtflhnmleodkjiaaGreatW1
import Derived.ProofKit
import Derived.OpenShut
import Derived.ChangeOld
import Derived.Test.YtflhnmleodkjiaaGreatW3
namespace Go.Proofs.YtflhnmleodkjiaaGreat.snapshotLoads
open Go.ChangeShapes Go.WideShapes Go.ChangeAt Go.RowKit Go.FH
open Go.ChangeMaps (open_string shut_string)
set_option linter.unusedVariables false
set_option linter.unusedSimpArgs false
theorem own:ownKnob Tryz.prog.godebug=none:=by kernel_rfl
theorem adT:laidOutB Tryz.prog=true:=by kernel_rfl
set_option maxRecDepth 100000 in
theorem lifted(os:Os)(started:os.Started)(H:Type)(enc:TypeId×Value→H):
 ReturnsInHanded {} Tryz.checked os 6 .any (Rows.snapshotLoadsSpec.pre6 enc Tryz.prog Tryz.f6 Rows.snapshotLoadsRow.domain false) (Rows.snapshotLoadsSpec.post enc Tryz.prog Tryz.f6 false true false false):=by
 refine returnsInHanded_of_change (C:=Tryz.checked) own started (by kernel_rfl) Tryz.func6
  (ChangeSpec.witness6 (enc:=enc) (C:=Tryz.checked) false ⟨#[],#[.slice none 0 0],[]⟩ 8 (by kernel_rfl) (by kernel_rfl) (by kernel_rfl) (by kernel_rfl)) ?_
 intro W base args ds gs before hval0 hW hcnd _;have hval:∀ (j:Nat) t v,Tryz.f6.params[j]?=some t→args[j]?=some v→Value.okWide Tryz.prog W .any base t v:=hval0
 have hW':=hW;obtain⟨p,q,hA0,hV,rfl,hfz,hnd⟩:=hW;have hA:DataW.TrodAll enc Tryz.prog W 0 (fun _=>true) true Tryz.f6.params.toList args.toList ds p:=hA0;rw[Tryz.params6]at hA hval;obtain⟨v0,vs0,d0,ds0,p0,q0,hargs,rfl,rfl,h0,r0⟩:=trodAll_cons hA;obtain⟨rfl,rfl,rfl⟩:=trodAll_nil r0;obtain rfl:args=#[v0]:=by cases args;simp_all
 obtain⟨rfl,rfl⟩:=trodVars_none hV;have k0:=h0;have lt0:∀x∈p0,x.block<W.heap.size:=by obtain⟨m,hm⟩:=k0;exact DataW.trod_lt m _ _ _ hm
 obtain⟨a0,l0,s0⟩:=vP (by kernel_rfl) (hval 0 23 v0 rfl rfl) h0 Tryz.underlying23;clear hA0 hval0;refine((pc_SnapshotLoads a0 l0).law (vs:=[v0]) ⟨_,_,rfl,s0,rfl⟩).mono fun e W' ⟨he,bel⟩=>?_
 subst he;exact⟨_,rfl,_,_,_,[],_,[],hW',trodAll_mk1 (shut_bool Tryz.underlying4 _),(trodAll_cons_mk (Below.trod adT (by kernel_rfl) (of_decide_eq_true (by kernel_rfl)) k0 bel lt0) trodAll_mk0),rfl,bel.frame _,fun h=>by cases h⟩
theorem jy{a b:Bool}(h:a=true)(g:b=true):(a&&b)=true:=by rw[h,g];rfl
theorem jf0:(Rows.snapshotLoadsRow.wf (OpenSpec.ofChange Rows.snapshotLoadsSpec))=true:=by kernel_rfl
theorem jf1:(laidOutB Tryz.pinned.checked.prog)=true:=by kernel_rfl
theorem jf2:(mapsRowed Tryz.pinned.checked.prog)=true:=by kernel_rfl
theorem jf3:(Tryz.f6.params.all (Tryz.pinned.checked.prog.readableRec ·))=true:=by kernel_rfl
theorem jf4:(namedTie Tryz.pinned.checked.prog Rows.snapshotLoadsRow.named Rows.snapshotLoadsSpec.vars)=true:=by kernel_rfl
theorem jf5:(Rows.snapshotLoadsRow.stops==[])=true:=by kernel_rfl
theorem jf6:(Tryz.pinned.checked.prog.stops==[])=true:=by kernel_rfl
theorem jf7:(Rows.snapshotLoadsRow.knobs==[])=true:=by kernel_rfl
theorem jf8:(Tryz.pinned.checked.prog.stopKnobs==[])=true:=by kernel_rfl
theorem jf9:(Rows.snapshotLoadsRow.inPlace==Tryz.pinned.checked.prog.inPlace 6)=true:=by kernel_rfl
theorem ahZ:(Rows.snapshotLoadsRow.unfollowed==Tryz.pinned.checked.prog.unfollowed 6)=true:=by kernel_rfl
theorem ah0:(Rows.snapshotLoadsRow.recurses==Tryz.pinned.checked.prog.recurses 6)=true:=by kernel_rfl
theorem ah1:(Rows.snapshotLoadsRow.named==Tryz.pinned.checked.prog.varsNamed 6)=true:=by kernel_rfl
theorem ah2:(Rows.snapshotLoadsRow.maps==(Tryz.f6.params.toList++Rows.snapshotLoadsSpec.plain.varTypes Tryz.pinned.checked.prog).any (Tryz.pinned.checked.prog.mapsRec ·))=true:=by kernel_rfl
theorem ah3:(Rows.snapshotLoadsRow.ifaces==(Tryz.f6.params.toList++Rows.snapshotLoadsSpec.plain.varTypes Tryz.pinned.checked.prog).any (Tryz.pinned.checked.prog.ifacesRec ·))=true:=by kernel_rfl
theorem ah4:(Rows.snapshotLoadsRow.mapsOut==Tryz.pinned.checked.prog.mapsAmong Tryz.f6.resultTypes.toList)=true:=by kernel_rfl
theorem ah5:(Rows.snapshotLoadsRow.loops==(Tryz.f6.params.toList++Rows.snapshotLoadsSpec.plain.varTypes Tryz.pinned.checked.prog).any (Tryz.pinned.checked.prog.loopsFrom ·))=true:=by kernel_rfl
theorem ah6:(Rows.snapshotLoadsRow.wideKeys==(Tryz.f6.params.toList++Rows.snapshotLoadsSpec.plain.varTypes Tryz.pinned.checked.prog++Tryz.f6.resultTypes.toList).any (Tryz.pinned.checked.prog.wideKeysFrom ·))=true:=by kernel_rfl
theorem ah7:(Rows.snapshotLoadsSpec.vars.all (Tryz.pinned.checked.prog.varReadable ·))=true:=by kernel_rfl
theorem ah8:(Tryz.f6.resultTypes.all (fun t=>Tryz.pinned.checked.prog.readableRec t&&decide (t<Tryz.pinned.checked.prog.types.size)))=true:=by kernel_rfl
theorem ah9:(Rows.snapshotLoadsRow.ifacesOut==Tryz.f6.resultTypes.toList.any (Tryz.pinned.checked.prog.ifacesRec ·))=true:=by kernel_rfl
theorem aia:(Rows.snapshotLoadsRow.loopsOut==Tryz.f6.resultTypes.toList.any (Tryz.pinned.checked.prog.loopsFrom ·))=true:=by kernel_rfl
theorem aib:(Rows.snapshotLoadsRow.plainKeys==Tryz.pinned.checked.prog.plainKeys)=true:=by kernel_rfl
theorem aic:(Rows.snapshotLoadsRow.shortTexts.isNone)=true:=by kernel_rfl
theorem aid:(Tryz.pinned.checked.prog.stopsHeard)=true:=by kernel_rfl
theorem aie:(Tryz.pinned.checked.prog.mayEnter)=true:=by kernel_rfl
theorem aif:(Rows.snapshotLoadsRow.lifted==Tryz.pinned.checked.prog.liftsFinal)=true:=by kernel_rfl
theorem aig:(Tryz.pinned.checked.prog.make==some Rows.snapshotLoadsRow.make)=true:=by kernel_rfl
theorem aih:(Rows.snapshotLoadsRow.kinds==(if Rows.snapshotLoadsRow.domain.isEmpty then []else Tryz.f6.params.toList.map fun t=>match Tryz.pinned.checked.prog.underlying t with|some (.int k)=>some k|_=>none))=true:=by kernel_rfl
theorem aii:(Rows.snapshotLoadsRow.pinned==Rows.snapshotLoadsRow.pinnedBy)=true:=by kernel_rfl
theorem aij:(Rows.snapshotLoadsRow.veiled==(Tryz.f6.params.toList++Rows.snapshotLoadsSpec.plain.varTypes Tryz.pinned.checked.prog++Tryz.f6.resultTypes.toList).any (Tryz.pinned.checked.prog.veiledRec ·))=true:=by kernel_rfl
theorem aik:(Rows.snapshotLoadsRow.veiledFits Tryz.pinned.checked.prog Tryz.f6.params.toList (Tryz.f6.params.toList++Rows.snapshotLoadsSpec.plain.varTypes Tryz.pinned.checked.prog++Tryz.f6.resultTypes.toList))=true:=by kernel_rfl
theorem hnm:Tryz.pinned.checked.prog.funcNamed Rows.snapshotLoadsRow.func=some 6:=by kernel_rfl
set_option maxRecDepth 100000 in
theorem af6:joinedFacts Tryz.pinned.checked.prog 6 Tryz.f6 Rows.snapshotLoadsSpec Rows.snapshotLoadsRow=true:=by
 unfold joinedFacts;exact jy (jy (jy (jy (jy (jy (jy (jy (jy (jy (jy (jy (jy (jy (jy (jy (jy (jy (jy (jy (jy (jy (jy (jy (jy (jy (jy (jy (jy (jy (jy jf0 jf1) jf2) jf3) jf4) jf5) jf6) jf7) jf8) jf9) ahZ) ah0) ah1) ah2) ah3) ah4) ah5) ah6) ah7) ah8) ah9) aia) aib) aic) aid) aie) aif) aig) aih) aii) aij) aik
theorem over:Rows.snapshotLoadsRow.holds Tryz.pinned (OpenSpec.ofChange Rows.snapshotLoadsSpec):=
 OpenClaim.holds_of_wide 6 Tryz.f6 rfl rfl rfl rfl rfl rfl rfl ⟨rfl,rfl,rfl,rfl,rfl⟩ rfl rfl rfl rfl rfl hnm Tryz.func6 af6
  (of_decide_eq_true (by kernel_rfl)) (by unfold Func.isWrapper;first|(rw[if_pos (by decide +kernel)];kernel_rfl)|(rw[if_neg (by decide +kernel)];exact⟨rfl,rfl⟩))
  (fun os started H enc _=>lifted os started H enc)
theorem proved:Rows.SnapshotLoadsSaid:=over
#print axioms proved
end Go.Proofs.YtflhnmleodkjiaaGreat.snapshotLoads
