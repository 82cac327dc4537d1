/-
 The Go function forkhead/forkheadlaw30.EngineStatuses returns true for every input and changes nothing that was there. Conditions: none beyond the given row's.
-/
import Derived.Test.YtmpddimhleianaaGreatRows
import Derived.Test.YtmpddimhleianaaGreatE7
import Derived.Test.YtmpddimhleianaaGreatE5
import Derived.Test.YtmpddimhleianaaGreatP1
import Derived.Test.YtmpddimhleianaaGreatP5
import Derived.Test.YtmpddimhleianaaGreatW1
import Derived.ProofKit
import Derived.OpenShut
import Derived.ChangeOld
import Derived.Test.YtmpddimhleianaaGreatW3
import Derived.Test.YtmpddimhleianaaGreatY0
namespace Go.Proofs.YtmpddimhleianaaGreat.engineStatuses
open Go.ChangeShapes Go.WideShapes Go.ChangeAt Go.RowKit Go.FH
open Go.ChangeMaps (open_string shut_string)
set_option linter.unusedVariables false
set_option linter.unusedSimpArgs false
theorem own:ownKnob Tryz.prog.godebug=none:=by kernel_rfl
theorem adT:laidOutB Tryz.prog=true:=by kernel_rfl
set_option maxRecDepth 100000 in
theorem lifted(os:Os)(started:os.Started)(H:Type)(enc:TypeId×Value→H):
 ReturnsInHanded {} Tryz.checked os 8 .any (Rows.engineStatusesSpec.pre6 enc Tryz.prog Tryz.f8 Rows.engineStatusesRow.domain false) (Rows.engineStatusesSpec.post enc Tryz.prog Tryz.f8 false true false false):=by
 refine returnsInHanded_of_change (C:=Tryz.checked) own started (by kernel_rfl) Tryz.func8
  (ChangeSpec.witness6 (enc:=enc) (C:=Tryz.checked) false ⟨#[],#[.slice none 0 0,.int .i64 0],[]⟩ 8 (by kernel_rfl) (by kernel_rfl) (by kernel_rfl) (by kernel_rfl)) ?_
 intro W base args ds gs before hval0 hW hcnd _;have hval:∀ (j:Nat) t v,Tryz.f8.params[j]?=some t→args[j]?=some v→Value.okWide Tryz.prog W .any base t v:=hval0
 have hW':=hW;obtain⟨p,q,hA0,hV,rfl,hfz,hnd⟩:=hW;have hA:DataW.TrodAll enc Tryz.prog W 0 (fun _=>true) true Tryz.f8.params.toList args.toList ds p:=hA0;rw[Tryz.params8]at hA hval;obtain⟨v0,vs0,d0,ds0,p0,q0,hargs,rfl,rfl,h0,r0⟩:=trodAll_cons hA;obtain⟨v1,vs1,d1,ds1,p1,q1,rfl,rfl,rfl,h1,r1⟩:=trodAll_cons r0;obtain⟨rfl,rfl,rfl⟩:=trodAll_nil r1;obtain rfl:args=#[v0,v1]:=by cases args;simp_all
 obtain⟨rfl,rfl⟩:=trodVars_none hV;have k0:=h0;have lt0:∀x∈p0,x.block<W.heap.size:=by obtain⟨m,hm⟩:=k0;exact DataW.trod_lt m _ _ _ hm
 have k1:=h1;have lt1:∀x∈p1,x.block<W.heap.size:=by obtain⟨m,hm⟩:=k1;exact DataW.trod_lt m _ _ _ hm
 obtain⟨a0,l0,w0,s0⟩:=YM .i64 (by kernel_rfl) (hval 0 22 v0 rfl rfl) h0 Tryz.underlying22;obtain⟨a1,w1,s1⟩:=FY .i64 Tryz.underlying3 (hval 1 3 v1 rfl rfl) h1;clear hA0 hval0;refine((pc_EngineStatuses a0 l0 w0 a1 w1).law (vs:=[v0,v1]) ⟨_,_,rfl,s0,⟨_,_,rfl,s1,rfl⟩⟩).mono fun e W' ⟨he,bel⟩=>?_
 subst he;exact⟨_,rfl,_,_,_,[],_,[],hW',trodAll_mk1 (shut_bool Tryz.underlying4 _),(trodAll_cons_mk (Below.trod adT (by kernel_rfl) (of_decide_eq_true (by kernel_rfl)) k0 bel lt0) (trodAll_cons_mk (Below.trod adT (by kernel_rfl) (of_decide_eq_true (by kernel_rfl)) k1 bel lt1) trodAll_mk0)),rfl,bel.frame _,fun h=>by cases h⟩
theorem jy{a b:Bool}(h:a=true)(g:b=true):(a&&b)=true:=by rw[h,g];rfl
theorem jf0:(Rows.engineStatusesRow.wf (OpenSpec.ofChange Rows.engineStatusesSpec))=true:=by kernel_rfl
theorem jf1:(laidOutB Tryz.pinned.checked.prog)=true:=by kernel_rfl
theorem jf2:(mapsRowed Tryz.pinned.checked.prog)=true:=by kernel_rfl
theorem jf3:(Tryz.f8.params.all (Tryz.pinned.checked.prog.readableRec ·))=true:=by kernel_rfl
theorem jf4:(namedTie Tryz.pinned.checked.prog Rows.engineStatusesRow.named Rows.engineStatusesSpec.vars)=true:=by kernel_rfl
theorem jf5:(Rows.engineStatusesRow.stops==[])=true:=by kernel_rfl
theorem jf6:(Tryz.pinned.checked.prog.stops==[])=true:=by kernel_rfl
theorem jf7:(Rows.engineStatusesRow.knobs==[])=true:=by kernel_rfl
theorem jf8:(Tryz.pinned.checked.prog.stopKnobs==[])=true:=by kernel_rfl
theorem jf9:(Rows.engineStatusesRow.inPlace==Tryz.pinned.checked.prog.inPlace 8)=true:=by kernel_rfl
theorem ahZ:(Rows.engineStatusesRow.unfollowed==Tryz.pinned.checked.prog.unfollowed 8)=true:=by kernel_rfl
theorem ah0:(Rows.engineStatusesRow.recurses==Tryz.pinned.checked.prog.recurses 8)=true:=by kernel_rfl
theorem ah1:(Rows.engineStatusesRow.named==Tryz.pinned.checked.prog.varsNamed 8)=true:=by kernel_rfl
theorem ah2:(Rows.engineStatusesRow.maps==(Tryz.f8.params.toList++Rows.engineStatusesSpec.plain.varTypes Tryz.pinned.checked.prog).any (Tryz.pinned.checked.prog.mapsRec ·))=true:=by kernel_rfl
theorem ah3:(Rows.engineStatusesRow.ifaces==(Tryz.f8.params.toList++Rows.engineStatusesSpec.plain.varTypes Tryz.pinned.checked.prog).any (Tryz.pinned.checked.prog.ifacesRec ·))=true:=by kernel_rfl
theorem ah4:(Rows.engineStatusesRow.mapsOut==Tryz.pinned.checked.prog.mapsAmong Tryz.f8.resultTypes.toList)=true:=by kernel_rfl
theorem ah5:(Rows.engineStatusesRow.loops==(Tryz.f8.params.toList++Rows.engineStatusesSpec.plain.varTypes Tryz.pinned.checked.prog).any (Tryz.pinned.checked.prog.loopsFrom ·))=true:=by kernel_rfl
theorem ah6:(Rows.engineStatusesRow.wideKeys==(Tryz.f8.params.toList++Rows.engineStatusesSpec.plain.varTypes Tryz.pinned.checked.prog++Tryz.f8.resultTypes.toList).any (Tryz.pinned.checked.prog.wideKeysFrom ·))=true:=by kernel_rfl
theorem ah7:(Rows.engineStatusesSpec.vars.all (Tryz.pinned.checked.prog.varReadable ·))=true:=by kernel_rfl
theorem ah8:(Tryz.f8.resultTypes.all (fun t=>Tryz.pinned.checked.prog.readableRec t&&decide (t<Tryz.pinned.checked.prog.types.size)))=true:=by kernel_rfl
theorem ah9:(Rows.engineStatusesRow.ifacesOut==Tryz.f8.resultTypes.toList.any (Tryz.pinned.checked.prog.ifacesRec ·))=true:=by kernel_rfl
theorem aia:(Rows.engineStatusesRow.loopsOut==Tryz.f8.resultTypes.toList.any (Tryz.pinned.checked.prog.loopsFrom ·))=true:=by kernel_rfl
theorem aib:(Rows.engineStatusesRow.plainKeys==Tryz.pinned.checked.prog.plainKeys)=true:=by kernel_rfl
theorem aic:(Rows.engineStatusesRow.shortTexts.isNone)=true:=by kernel_rfl
theorem aid:(Tryz.pinned.checked.prog.stopsHeard)=true:=by kernel_rfl
theorem aie:(Tryz.pinned.checked.prog.mayEnter)=true:=by kernel_rfl
theorem aif:(Rows.engineStatusesRow.lifted==Tryz.pinned.checked.prog.liftsFinal)=true:=by kernel_rfl
theorem aig:(Tryz.pinned.checked.prog.make==some Rows.engineStatusesRow.make)=true:=by kernel_rfl
theorem aih:(Rows.engineStatusesRow.kinds==(if Rows.engineStatusesRow.domain.isEmpty then []else Tryz.f8.params.toList.map fun t=>match Tryz.pinned.checked.prog.underlying t with|some (.int k)=>some k|_=>none))=true:=by kernel_rfl
theorem aii:(Rows.engineStatusesRow.pinned==Rows.engineStatusesRow.pinnedBy)=true:=by kernel_rfl
theorem aij:(Rows.engineStatusesRow.veiled==(Tryz.f8.params.toList++Rows.engineStatusesSpec.plain.varTypes Tryz.pinned.checked.prog++Tryz.f8.resultTypes.toList).any (Tryz.pinned.checked.prog.veiledRec ·))=true:=by kernel_rfl
theorem aik:(Rows.engineStatusesRow.veiledFits Tryz.pinned.checked.prog Tryz.f8.params.toList (Tryz.f8.params.toList++Rows.engineStatusesSpec.plain.varTypes Tryz.pinned.checked.prog++Tryz.f8.resultTypes.toList))=true:=by kernel_rfl
theorem hnm:Tryz.pinned.checked.prog.funcNamed Rows.engineStatusesRow.func=some 8:=by kernel_rfl
set_option maxRecDepth 100000 in
theorem af6:joinedFacts Tryz.pinned.checked.prog 8 Tryz.f8 Rows.engineStatusesSpec Rows.engineStatusesRow=true:=by
 unfold joinedFacts;exact jy (jy (jy (jy (jy (jy (jy (jy (jy (jy (jy (jy (jy (jy (jy (jy (jy (jy (jy (jy (jy (jy (jy (jy (jy (jy (jy (jy (jy (jy (jy jf0 jf1) jf2) jf3) jf4) jf5) jf6) jf7) jf8) jf9) ahZ) ah0) ah1) ah2) ah3) ah4) ah5) ah6) ah7) ah8) ah9) aia) aib) aic) aid) aie) aif) aig) aih) aii) aij) aik
theorem over:Rows.engineStatusesRow.holds Tryz.pinned (OpenSpec.ofChange Rows.engineStatusesSpec):=
 OpenClaim.holds_of_wide 8 Tryz.f8 rfl rfl rfl rfl rfl rfl rfl ⟨rfl,rfl,rfl,rfl,rfl⟩ rfl rfl rfl rfl rfl hnm Tryz.func8 af6
  (of_decide_eq_true (by kernel_rfl)) (by unfold Func.isWrapper;first|(rw[if_pos (by decide +kernel)];kernel_rfl)|(rw[if_neg (by decide +kernel)];exact⟨rfl,rfl⟩))
  (fun os started H enc _=>lifted os started H enc)
theorem proved:Rows.EngineStatusesSaid:=over
#print axioms proved
end Go.Proofs.YtmpddimhleianaaGreat.engineStatuses
