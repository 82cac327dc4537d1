/-
  No cell of these rows narrows 'for every input' (looked for: loops, veiled, ifaces, maps, wideKeys, modest, calm, conditions, laid).
  DERIVED. THE GIVEN ROWS OF THIS SEAT. 4 by the template 'for every input the law returns true; each argument reads behind the call as it read before'; 0 by the template 'total and deterministic' (their statements: YtblipkgpoaonaaaGreatTotals.lean).
  GIVEN WITH THE SEED: the statements are not yours to turn. If you find one false, say at which input.
  Laid BY PROGRAM, IN A SANDBOX (cutbox-rows.mjs): the forced cells as the released guide's own fill.sh prints them over the translation 63c6a72154317cd7… (all of the seat's roots in one cut). By AI agents, Wed Nov 11 2026. No macro, syntax, notation, axiom, sorry.
-/
import Derived.Test.YtblipkgpoaonaaaGreatChecked
import GoSem.Claim
import GoSem.ClaimJoined
import GoSem.ClaimMapViews
import Derived.JoinedTies
import Derived.KernelRfl
namespace Go.Proofs.YtblipkgpoaonaaaGreat
/- THE CELL 'sum', in the pinned program and in every row, IS THE sha256 OF THE DUMP (.gsa) THAT YtblipkgpoaonaaaGreatProg.lean LOADS. Nothing in Lean hashes anything: it is a label: what it is worth is what the hold of that sum in a sandbox is worth. -/
noncomputable def Tryz.pinned : Pinned := { name := "ytblipkgpoaonaaagreat", sum := "63c6a72154317cd755783138b99908dfa939e58d1d9af96de015f96d03a6ba3e", checked := Tryz.checked }
namespace Rows
def none {H : Type} : Left H := { results := [], args := [] }

/-- 'forkheadlaw32.ImageChanged': WHATEVER THE INPUT: true; the input reads as it did. -/
def imageChangedSpec : ChangeSpec := { name := "imageChanged", fn := fun _ => fun
  | [d1, d2, d3, d4] => { results := [.lit (.bool true)], args := [d1, d2, d3, d4] }
  | _ => none }
def imageChangedRow : OpenClaim := { program := "ytblipkgpoaonaaagreat", sum := "63c6a72154317cd755783138b99908dfa939e58d1d9af96de015f96d03a6ba3e", func := "forkhead/forkheadlaw32.ImageChanged", spec := "imageChanged", inPlace := ["internal/bytealg.Compare"], unfollowed := true, recurses := true, plainKeys := false, apart := false }
def ImageChangedSaid : Prop := imageChangedRow.holds Tryz.pinned (OpenSpec.ofChange imageChangedSpec)

/-- ITS FALSE NEIGHBOUR: 'it returns false'. Refute it at one input. -/
def imageChangedWrong : ChangeSpec := { name := "imageChanged", fn := fun _ => fun
  | [d1, d2, d3, d4] => { results := [.lit (.bool false)], args := [d1, d2, d3, d4] }
  | _ => none }
def ImageChangedWrongFalsely : Prop := imageChangedRow.holds Tryz.pinned (OpenSpec.ofChange imageChangedWrong)

/-- 'forkheadlaw33.SnapshotFull': WHATEVER THE INPUT: true; the input reads as it did. -/
def snapshotFullSpec : ChangeSpec := { name := "snapshotFull", fn := fun _ => fun
  | [d1, d2, d3] => { results := [.lit (.bool true)], args := [d1, d2, d3] }
  | _ => none }
def snapshotFullRow : OpenClaim := { program := "ytblipkgpoaonaaagreat", sum := "63c6a72154317cd755783138b99908dfa939e58d1d9af96de015f96d03a6ba3e", func := "forkhead/forkheadlaw33.SnapshotFull", spec := "snapshotFull", inPlace := ["internal/bytealg.Compare"], unfollowed := true, recurses := true, plainKeys := false, apart := false }
def SnapshotFullSaid : Prop := snapshotFullRow.holds Tryz.pinned (OpenSpec.ofChange snapshotFullSpec)

/-- ITS FALSE NEIGHBOUR: 'it returns false'. Refute it at one input. -/
def snapshotFullWrong : ChangeSpec := { name := "snapshotFull", fn := fun _ => fun
  | [d1, d2, d3] => { results := [.lit (.bool false)], args := [d1, d2, d3] }
  | _ => none }
def SnapshotFullWrongFalsely : Prop := snapshotFullRow.holds Tryz.pinned (OpenSpec.ofChange snapshotFullWrong)

/-- 'forkheadlaw30.EngineSteps': WHATEVER THE INPUT: true; the input reads as it did. -/
def engineStepsSpec : ChangeSpec := { name := "engineSteps", fn := fun _ => fun
  | [d1, d2] => { results := [.lit (.bool true)], args := [d1, d2] }
  | _ => none }
def engineStepsRow : OpenClaim := { program := "ytblipkgpoaonaaagreat", sum := "63c6a72154317cd755783138b99908dfa939e58d1d9af96de015f96d03a6ba3e", func := "forkhead/forkheadlaw30.EngineSteps", spec := "engineSteps", inPlace := ["slices.overlaps[int]", "internal/bytealg.Compare", "slices.overlaps[forkhead/api.Table]", "slices.overlaps[forkhead/api.Request]"], unfollowed := true, recurses := true, named := ["math/bits.divideError", "math/bits.overflowError"], plainKeys := false, apart := false }
def EngineStepsSaid : Prop := engineStepsRow.holds Tryz.pinned (OpenSpec.ofChange engineStepsSpec)

/-- ITS FALSE NEIGHBOUR: 'it returns false'. Refute it at one input. -/
def engineStepsWrong : ChangeSpec := { name := "engineSteps", fn := fun _ => fun
  | [d1, d2] => { results := [.lit (.bool false)], args := [d1, d2] }
  | _ => none }
def EngineStepsWrongFalsely : Prop := engineStepsRow.holds Tryz.pinned (OpenSpec.ofChange engineStepsWrong)

/-- 'forkheadlaw30.EngineRestores': WHATEVER THE INPUT: true; the input reads as it did. -/
def engineRestoresSpec : ChangeSpec := { name := "engineRestores", fn := fun _ => fun
  | [d1, d2] => { results := [.lit (.bool true)], args := [d1, d2] }
  | _ => none }
def engineRestoresRow : OpenClaim := { program := "ytblipkgpoaonaaagreat", sum := "63c6a72154317cd755783138b99908dfa939e58d1d9af96de015f96d03a6ba3e", func := "forkhead/forkheadlaw30.EngineRestores", spec := "engineRestores", inPlace := ["internal/bytealg.Compare", "slices.overlaps[int]", "slices.overlaps[forkhead/api.Table]", "slices.overlaps[forkhead/api.Request]"], unfollowed := true, recurses := true, named := ["math/bits.divideError", "math/bits.overflowError"], plainKeys := false, apart := false }
def EngineRestoresSaid : Prop := engineRestoresRow.holds Tryz.pinned (OpenSpec.ofChange engineRestoresSpec)

/-- ITS FALSE NEIGHBOUR: 'it returns false'. Refute it at one input. -/
def engineRestoresWrong : ChangeSpec := { name := "engineRestores", fn := fun _ => fun
  | [d1, d2] => { results := [.lit (.bool false)], args := [d1, d2] }
  | _ => none }
def EngineRestoresWrongFalsely : Prop := engineRestoresRow.holds Tryz.pinned (OpenSpec.ofChange engineRestoresWrong)

/- THE SECOND FORM. 'bulk': how many values and letters a reading holds, each counted each time it is reached (what is shared counts as often as it is met; a slice's spare places count too). A statement '..UptoSaid' is the law's where the arguments, and the package variables that the reading takes, are together of bulk at most 1048576: NARROWER than '..Said'. Prove '..Said' where nothing that the law and all that it calls make is longer than what came in: it says more and counts as full. Else prove '..UptoSaid'. A law counts once. -/
mutual
def uptoBulk {H : Type} : DataW H → Nat
  | .lit (.string bytes) => bytes.length + 1
  | .lit _ => 1
  | .nil => 1
  | .ptr d => uptoBulk d + 1
  | .slice elems spare => uptoBulkAll elems + uptoBulkAll spare + 1
  | .agg parts => uptoBulkAll parts + 1
  | .iface _ d => uptoBulk d + 1
  | .map entries => uptoBulkEntries entries + 1
  | .held _ => 1
def uptoBulkAll {H : Type} : List (DataW H) → Nat
  | [] => 0
  | d :: r => uptoBulk d + uptoBulkAll r
def uptoBulkEntries {H : Type} : List (Lit × DataW H) → Nat
  | [] => 0
  | x :: r => uptoBulkEntry x + uptoBulkEntries r
def uptoBulkEntry {H : Type} : Lit × DataW H → Nat
  | (.string bytes, d) => bytes.length + uptoBulk d + 1
  | (_, d) => uptoBulk d + 1
 end
def uptoSmall : (H : Type) → List (DataW H) → Bool := fun _ ds => decide (uptoBulkAll ds ≤ 1048576)
def OpenSpec.upto (s : _root_.Go.ChangeSpec) : _root_.Go.OpenSpec := { _root_.Go.OpenSpec.ofChange s with cond := some uptoSmall }

/-- 'forkheadlaw32.ImageChanged', WHERE WHAT IT READS IS OF BULK AT MOST 1048576: true; the input reads as it did. -/
def imageChangedUptoRow : OpenClaim := { program := "ytblipkgpoaonaaagreat", sum := "63c6a72154317cd755783138b99908dfa939e58d1d9af96de015f96d03a6ba3e", func := "forkhead/forkheadlaw32.ImageChanged", spec := "imageChanged", inPlace := ["internal/bytealg.Compare"], unfollowed := true, recurses := true, plainKeys := false, apart := false, narrowed := true }
def ImageChangedUptoSaid : Prop := imageChangedUptoRow.holds Tryz.pinned (OpenSpec.upto imageChangedSpec)

/-- 'forkheadlaw33.SnapshotFull', WHERE WHAT IT READS IS OF BULK AT MOST 1048576: true; the input reads as it did. -/
def snapshotFullUptoRow : OpenClaim := { program := "ytblipkgpoaonaaagreat", sum := "63c6a72154317cd755783138b99908dfa939e58d1d9af96de015f96d03a6ba3e", func := "forkhead/forkheadlaw33.SnapshotFull", spec := "snapshotFull", inPlace := ["internal/bytealg.Compare"], unfollowed := true, recurses := true, plainKeys := false, apart := false, narrowed := true }
def SnapshotFullUptoSaid : Prop := snapshotFullUptoRow.holds Tryz.pinned (OpenSpec.upto snapshotFullSpec)

/-- 'forkheadlaw30.EngineSteps', WHERE WHAT IT READS IS OF BULK AT MOST 1048576: true; the input reads as it did. -/
def engineStepsUptoRow : OpenClaim := { program := "ytblipkgpoaonaaagreat", sum := "63c6a72154317cd755783138b99908dfa939e58d1d9af96de015f96d03a6ba3e", func := "forkhead/forkheadlaw30.EngineSteps", spec := "engineSteps", inPlace := ["slices.overlaps[int]", "internal/bytealg.Compare", "slices.overlaps[forkhead/api.Table]", "slices.overlaps[forkhead/api.Request]"], unfollowed := true, recurses := true, named := ["math/bits.divideError", "math/bits.overflowError"], plainKeys := false, apart := false, narrowed := true }
def EngineStepsUptoSaid : Prop := engineStepsUptoRow.holds Tryz.pinned (OpenSpec.upto engineStepsSpec)

/-- 'forkheadlaw30.EngineRestores', WHERE WHAT IT READS IS OF BULK AT MOST 1048576: true; the input reads as it did. -/
def engineRestoresUptoRow : OpenClaim := { program := "ytblipkgpoaonaaagreat", sum := "63c6a72154317cd755783138b99908dfa939e58d1d9af96de015f96d03a6ba3e", func := "forkhead/forkheadlaw30.EngineRestores", spec := "engineRestores", inPlace := ["internal/bytealg.Compare", "slices.overlaps[int]", "slices.overlaps[forkhead/api.Table]", "slices.overlaps[forkhead/api.Request]"], unfollowed := true, recurses := true, named := ["math/bits.divideError", "math/bits.overflowError"], plainKeys := false, apart := false, narrowed := true }
def EngineRestoresUptoSaid : Prop := engineRestoresUptoRow.holds Tryz.pinned (OpenSpec.upto engineRestoresSpec)

end Rows
end Go.Proofs.YtblipkgpoaonaaaGreat
