/-
 The Go function forkhead/forkheadlaw30.EngineValid returns true for every input and changes nothing that was there. Conditions: none beyond the given row's.
-/
import Derived.Test.YtmpddimhleianaaGreatRows
import Derived.Test.YtmpddimhleianaaGreatL3v
import Derived.Test.YtmpddimhleianaaGreatW1v
import Derived.ProofKit
import Derived.OpenShut
import Derived.ChangeOld
import Derived.Test.YtmpddimhleianaaGreatW3v
namespace Go.Proofs.YtmpddimhleianaaGreat.engineValid
open Go.ChangeShapes Go.WideShapes Go.ChangeAt Go.RowKit Go.FH
open Go.ChangeMaps (open_string shut_string)
set_option linter.unusedVariables false
set_option linter.unusedSimpArgs false
theorem own:ownKnob Tryz.prog.godebug=none:=by kernel_rfl
theorem oO:laidOutB Tryz.prog=true:=by kernel_rfl
set_option maxRecDepth 100000 in
theorem lifted(os:Os)(started:os.Started)(H:Type)(enc:TypeId×Value→H):
 ReturnsInHanded {} Tryz.checked os 11 .any (Rows.engineValidSpec.pre6 enc Tryz.prog Tryz.f11 Rows.engineValidRow.domain false) (Rows.engineValidSpec.post enc Tryz.prog Tryz.f11 false true false false):=by
 refine returnsInHanded_of_change (C:=Tryz.checked) own started (by kernel_rfl) Tryz.func11
  (ChangeSpec.witness6 (enc:=enc) (C:=Tryz.checked) false ⟨#[],#[.slice none 0 0,.int .i64 0,.int .i64 0],[]⟩ 8 (by kernel_rfl) (by kernel_rfl) (by kernel_rfl) (by kernel_rfl)) ?_
 intro W base args ds gs before hval0 hW hcnd _;have hval:∀ (j:Nat) t v,Tryz.f11.params[j]?=some t→args[j]?=some v→Value.okWide Tryz.prog W .any base t v:=hval0
 have hW':=hW;obtain⟨p,q,hA0,hV,rfl,hfz,hnd⟩:=hW;have hA:DataW.TrodAll enc Tryz.prog W 0 (fun _=>true) true Tryz.f11.params.toList args.toList ds p:=hA0;rw[Tryz.params11]at hA hval;obtain⟨v0,vs0,d0,ds0,p0,q0,hargs,rfl,rfl,h0,r0⟩:=trodAll_cons hA;obtain⟨v1,vs1,d1,ds1,p1,q1,rfl,rfl,rfl,h1,r1⟩:=trodAll_cons r0;obtain⟨v2,vs2,d2,ds2,p2,q2,rfl,rfl,rfl,h2,r2⟩:=trodAll_cons r1;obtain⟨rfl,rfl,rfl⟩:=trodAll_nil r2;obtain rfl:args=#[v0,v1,v2]:=by cases args;simp_all
 obtain⟨rfl,rfl⟩:=trodVars_none hV;have k0:=h0;have lt0:∀x∈p0,x.block<W.heap.size:=by obtain⟨m,hm⟩:=k0;exact DataW.trod_lt m _ _ _ hm
 have k1:=h1;have lt1:∀x∈p1,x.block<W.heap.size:=by obtain⟨m,hm⟩:=k1;exact DataW.trod_lt m _ _ _ hm
 have k2:=h2;have lt2:∀x∈p2,x.block<W.heap.size:=by obtain⟨m,hm⟩:=k2;exact DataW.trod_lt m _ _ _ hm
 obtain⟨a0,l0,w0,s0⟩:=tn .i64 (by kernel_rfl) (hval 0 22 v0 rfl rfl) h0 Tryz.underlying22;obtain⟨a1,w1,s1⟩:=Gb .i64 Tryz.underlying3 (hval 1 3 v1 rfl rfl) h1;obtain⟨a2,w2,s2⟩:=Gb .i64 Tryz.underlying3 (hval 2 3 v2 rfl rfl) h2;clear hA0 hval0;refine((pc_EngineValid a0 l0 w0 a1 w1 a2 w2).law (vs:=[v0,v1,v2]) ⟨_,_,rfl,s0,⟨_,_,rfl,s1,⟨_,_,rfl,s2,rfl⟩⟩⟩).mono fun e W' ⟨he,bel⟩=>?_
 subst he
 exact⟨_,rfl,_,_,_,[],_,[],hW',trodAll_mk1 (shut_bool Tryz.underlying4 _),(trodAll_cons_mk (Below.trod oO (by kernel_rfl) (of_decide_eq_true (by kernel_rfl)) k0 bel lt0) (trodAll_cons_mk (Below.trod oO (by kernel_rfl) (of_decide_eq_true (by kernel_rfl)) k1 bel lt1) (trodAll_cons_mk (Below.trod oO (by kernel_rfl) (of_decide_eq_true (by kernel_rfl)) k2 bel lt2) trodAll_mk0))),rfl,bel.frame _,fun h=>by cases h⟩
theorem cF{a b:Bool}(h:a=true)(g:b=true):(a&&b)=true:=by rw[h,g];rfl
theorem jf0:(Rows.engineValidRow.wf (OpenSpec.ofChange Rows.engineValidSpec))=true:=by kernel_rfl
theorem jf1:(laidOutB Tryz.pinned.checked.prog)=true:=by kernel_rfl
theorem jf2:(mapsRowed Tryz.pinned.checked.prog)=true:=by kernel_rfl
theorem jf3:(Tryz.f11.params.all (Tryz.pinned.checked.prog.readableRec ·))=true:=by kernel_rfl
theorem jf4:(namedTie Tryz.pinned.checked.prog Rows.engineValidRow.named Rows.engineValidSpec.vars)=true:=by kernel_rfl
theorem jf5:(Rows.engineValidRow.stops==[])=true:=by kernel_rfl
theorem jf6:(Tryz.pinned.checked.prog.stops==[])=true:=by kernel_rfl
theorem jf7:(Rows.engineValidRow.knobs==[])=true:=by kernel_rfl
theorem jf8:(Tryz.pinned.checked.prog.stopKnobs==[])=true:=by kernel_rfl
theorem jf9:(Rows.engineValidRow.inPlace==Tryz.pinned.checked.prog.inPlace 11)=true:=by kernel_rfl
theorem Ud:(Rows.engineValidRow.unfollowed==Tryz.pinned.checked.prog.unfollowed 11)=true:=by kernel_rfl
theorem Ue:(Rows.engineValidRow.recurses==Tryz.pinned.checked.prog.recurses 11)=true:=by kernel_rfl
theorem Uf:(Rows.engineValidRow.named==Tryz.pinned.checked.prog.varsNamed 11)=true:=by kernel_rfl
theorem Ug:(Rows.engineValidRow.maps==(Tryz.f11.params.toList++Rows.engineValidSpec.plain.varTypes Tryz.pinned.checked.prog).any (Tryz.pinned.checked.prog.mapsRec ·))=true:=by kernel_rfl
theorem Uh:(Rows.engineValidRow.ifaces==(Tryz.f11.params.toList++Rows.engineValidSpec.plain.varTypes Tryz.pinned.checked.prog).any (Tryz.pinned.checked.prog.ifacesRec ·))=true:=by kernel_rfl
theorem Ui:(Rows.engineValidRow.mapsOut==Tryz.pinned.checked.prog.mapsAmong Tryz.f11.resultTypes.toList)=true:=by kernel_rfl
theorem Uj:(Rows.engineValidRow.loops==(Tryz.f11.params.toList++Rows.engineValidSpec.plain.varTypes Tryz.pinned.checked.prog).any (Tryz.pinned.checked.prog.loopsFrom ·))=true:=by kernel_rfl
theorem Uk:(Rows.engineValidRow.wideKeys==(Tryz.f11.params.toList++Rows.engineValidSpec.plain.varTypes Tryz.pinned.checked.prog++Tryz.f11.resultTypes.toList).any (Tryz.pinned.checked.prog.wideKeysFrom ·))=true:=by kernel_rfl
theorem Ul:(Rows.engineValidSpec.vars.all (Tryz.pinned.checked.prog.varReadable ·))=true:=by kernel_rfl
theorem Um:(Tryz.f11.resultTypes.all (fun t=>Tryz.pinned.checked.prog.readableRec t&&decide (t<Tryz.pinned.checked.prog.types.size)))=true:=by kernel_rfl
theorem Un:(Rows.engineValidRow.ifacesOut==Tryz.f11.resultTypes.toList.any (Tryz.pinned.checked.prog.ifacesRec ·))=true:=by kernel_rfl
theorem Uo:(Rows.engineValidRow.loopsOut==Tryz.f11.resultTypes.toList.any (Tryz.pinned.checked.prog.loopsFrom ·))=true:=by kernel_rfl
theorem Up:(Rows.engineValidRow.plainKeys==Tryz.pinned.checked.prog.plainKeys)=true:=by kernel_rfl
theorem Uq:(Rows.engineValidRow.shortTexts.isNone)=true:=by kernel_rfl
theorem Ur:(Tryz.pinned.checked.prog.stopsHeard)=true:=by kernel_rfl
theorem Us:(Tryz.pinned.checked.prog.mayEnter)=true:=by kernel_rfl
theorem Ut:(Rows.engineValidRow.lifted==Tryz.pinned.checked.prog.liftsFinal)=true:=by kernel_rfl
theorem Uu:(Tryz.pinned.checked.prog.make==some Rows.engineValidRow.make)=true:=by kernel_rfl
theorem Uv:(Rows.engineValidRow.kinds==(if Rows.engineValidRow.domain.isEmpty then []else Tryz.f11.params.toList.map fun t=>match Tryz.pinned.checked.prog.underlying t with|some (.int k)=>some k|_=>none))=true:=by kernel_rfl
theorem Uw:(Rows.engineValidRow.pinned==Rows.engineValidRow.pinnedBy)=true:=by kernel_rfl
theorem Ux:(Rows.engineValidRow.veiled==(Tryz.f11.params.toList++Rows.engineValidSpec.plain.varTypes Tryz.pinned.checked.prog++Tryz.f11.resultTypes.toList).any (Tryz.pinned.checked.prog.veiledRec ·))=true:=by kernel_rfl
theorem Uy:(Rows.engineValidRow.veiledFits Tryz.pinned.checked.prog Tryz.f11.params.toList (Tryz.f11.params.toList++Rows.engineValidSpec.plain.varTypes Tryz.pinned.checked.prog++Tryz.f11.resultTypes.toList))=true:=by kernel_rfl
theorem hnm:Tryz.pinned.checked.prog.funcNamed Rows.engineValidRow.func=some 11:=by kernel_rfl
set_option maxRecDepth 100000 in
theorem Br:joinedFacts Tryz.pinned.checked.prog 11 Tryz.f11 Rows.engineValidSpec Rows.engineValidRow=true:=by
 unfold joinedFacts;exact cF (cF (cF (cF (cF (cF (cF (cF (cF (cF (cF (cF (cF (cF (cF (cF (cF (cF (cF (cF (cF (cF (cF (cF (cF (cF (cF (cF (cF (cF (cF jf0 jf1) jf2) jf3) jf4) jf5) jf6) jf7) jf8) jf9) Ud) Ue) Uf) Ug) Uh) Ui) Uj) Uk) Ul) Um) Un) Uo) Up) Uq) Ur) Us) Ut) Uu) Uv) Uw) Ux) Uy
theorem over:Rows.engineValidRow.holds Tryz.pinned (OpenSpec.ofChange Rows.engineValidSpec):=
 OpenClaim.holds_of_wide 11 Tryz.f11 rfl rfl rfl rfl rfl rfl rfl ⟨rfl,rfl,rfl,rfl,rfl⟩ rfl rfl rfl rfl rfl hnm Tryz.func11 Br
  (of_decide_eq_true (by kernel_rfl)) (by unfold Func.isWrapper;first|(rw[if_pos (by decide +kernel)];kernel_rfl)|(rw[if_neg (by decide +kernel)];exact⟨rfl,rfl⟩))
  (fun os started H enc _=>lifted os started H enc)
theorem proved:Rows.EngineValidSaid:=over
#print axioms proved
end Go.Proofs.YtmpddimhleianaaGreat.engineValid
