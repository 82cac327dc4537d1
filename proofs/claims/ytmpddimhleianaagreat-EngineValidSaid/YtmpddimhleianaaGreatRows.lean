/-
  No cell of these rows narrows 'for every input' (looked for: loops, veiled, ifaces, maps, wideKeys, modest, calm, conditions, laid).
  DERIVED. THE GIVEN ROWS OF THIS SEAT. 9 by the template 'for every input the law returns true; each argument reads behind the call as it read before'; 0 by the template 'total and deterministic' (their statements: YtmpddimhleianaaGreatTotals.lean).
  GIVEN WITH THE SEED: the statements are not yours to turn. If you find one false, say at which input.
  Laid BY PROGRAM, IN A SANDBOX (cutbox-rows.mjs): the forced cells as the released guide's own fill.sh prints them over the translation 838496e35fea2b67… (all of the seat's roots in one cut). By AI agents, Wed Nov 11 2026. No macro, syntax, notation, axiom, sorry.
-/
import Derived.Test.YtmpddimhleianaaGreatChecked
import GoSem.Claim
import GoSem.ClaimJoined
import GoSem.ClaimMapViews
import Derived.JoinedTies
import Derived.KernelRfl
namespace Go.Proofs.YtmpddimhleianaaGreat
/- THE CELL 'sum', in the pinned program and in every row, IS THE sha256 OF THE DUMP (.gsa) THAT YtmpddimhleianaaGreatProg.lean LOADS. Nothing in Lean hashes anything: it is a label: what it is worth is what the hold of that sum in a sandbox is worth. -/
noncomputable def Tryz.pinned : Pinned := { name := "ytmpddimhleianaagreat", sum := "838496e35fea2b67a351cc25bd489ef9b15ec7499ec50ab6c7996953c3dfdf77", checked := Tryz.checked }
namespace Rows
def none {H : Type} : Left H := { results := [], args := [] }

/-- 'forkheadlaw30.EngineBegins': WHATEVER THE INPUT: true; the input reads as it did. -/
def engineBeginsSpec : ChangeSpec := { name := "engineBegins", fn := fun _ => fun
  | [d1, d2] => { results := [.lit (.bool true)], args := [d1, d2] }
  | _ => none }
def engineBeginsRow : OpenClaim := { program := "ytmpddimhleianaagreat", sum := "838496e35fea2b67a351cc25bd489ef9b15ec7499ec50ab6c7996953c3dfdf77", func := "forkhead/forkheadlaw30.EngineBegins", spec := "engineBegins", inPlace := ["internal/bytealg.Compare", "slices.overlaps[int]", "slices.overlaps[forkhead/api.Table]", "slices.overlaps[forkhead/api.Request]"], unfollowed := true, recurses := true, named := ["math/bits.divideError", "math/bits.overflowError"], plainKeys := false, apart := false }
def EngineBeginsSaid : Prop := engineBeginsRow.holds Tryz.pinned (OpenSpec.ofChange engineBeginsSpec)

/-- ITS FALSE NEIGHBOUR: 'it returns false'. Refute it at one input. -/
def engineBeginsWrong : ChangeSpec := { name := "engineBegins", fn := fun _ => fun
  | [d1, d2] => { results := [.lit (.bool false)], args := [d1, d2] }
  | _ => none }
def EngineBeginsWrongFalsely : Prop := engineBeginsRow.holds Tryz.pinned (OpenSpec.ofChange engineBeginsWrong)

/-- 'forkheadlaw30.EngineSteps': WHATEVER THE INPUT: true; the input reads as it did. -/
def engineStepsSpec : ChangeSpec := { name := "engineSteps", fn := fun _ => fun
  | [d1, d2] => { results := [.lit (.bool true)], args := [d1, d2] }
  | _ => none }
def engineStepsRow : OpenClaim := { program := "ytmpddimhleianaagreat", sum := "838496e35fea2b67a351cc25bd489ef9b15ec7499ec50ab6c7996953c3dfdf77", func := "forkhead/forkheadlaw30.EngineSteps", spec := "engineSteps", inPlace := ["slices.overlaps[int]", "internal/bytealg.Compare", "slices.overlaps[forkhead/api.Table]", "slices.overlaps[forkhead/api.Request]"], unfollowed := true, recurses := true, named := ["math/bits.divideError", "math/bits.overflowError"], plainKeys := false, apart := false }
def EngineStepsSaid : Prop := engineStepsRow.holds Tryz.pinned (OpenSpec.ofChange engineStepsSpec)

/-- ITS FALSE NEIGHBOUR: 'it returns false'. Refute it at one input. -/
def engineStepsWrong : ChangeSpec := { name := "engineSteps", fn := fun _ => fun
  | [d1, d2] => { results := [.lit (.bool false)], args := [d1, d2] }
  | _ => none }
def EngineStepsWrongFalsely : Prop := engineStepsRow.holds Tryz.pinned (OpenSpec.ofChange engineStepsWrong)

/-- 'forkheadlaw30.EngineAny': WHATEVER THE INPUT: true; the input reads as it did. -/
def engineAnySpec : ChangeSpec := { name := "engineAny", fn := fun _ => fun
  | [d1, d2] => { results := [.lit (.bool true)], args := [d1, d2] }
  | _ => none }
def engineAnyRow : OpenClaim := { program := "ytmpddimhleianaagreat", sum := "838496e35fea2b67a351cc25bd489ef9b15ec7499ec50ab6c7996953c3dfdf77", func := "forkhead/forkheadlaw30.EngineAny", spec := "engineAny", inPlace := ["internal/bytealg.Compare", "slices.overlaps[int]", "slices.overlaps[forkhead/api.Table]", "slices.overlaps[forkhead/api.Request]"], unfollowed := true, recurses := true, named := ["math/bits.divideError", "math/bits.overflowError"], plainKeys := false, apart := false }
def EngineAnySaid : Prop := engineAnyRow.holds Tryz.pinned (OpenSpec.ofChange engineAnySpec)

/-- ITS FALSE NEIGHBOUR: 'it returns false'. Refute it at one input. -/
def engineAnyWrong : ChangeSpec := { name := "engineAny", fn := fun _ => fun
  | [d1, d2] => { results := [.lit (.bool false)], args := [d1, d2] }
  | _ => none }
def EngineAnyWrongFalsely : Prop := engineAnyRow.holds Tryz.pinned (OpenSpec.ofChange engineAnyWrong)

/-- 'forkheadlaw30.EnginePlays': WHATEVER THE INPUT: true; the input reads as it did. -/
def enginePlaysSpec : ChangeSpec := { name := "enginePlays", fn := fun _ => fun
  | [d1, d2] => { results := [.lit (.bool true)], args := [d1, d2] }
  | _ => none }
def enginePlaysRow : OpenClaim := { program := "ytmpddimhleianaagreat", sum := "838496e35fea2b67a351cc25bd489ef9b15ec7499ec50ab6c7996953c3dfdf77", func := "forkhead/forkheadlaw30.EnginePlays", spec := "enginePlays", inPlace := ["internal/bytealg.Compare", "slices.overlaps[int]", "slices.overlaps[forkhead/api.Table]", "slices.overlaps[forkhead/api.Request]"], unfollowed := true, recurses := true, named := ["math/bits.divideError", "math/bits.overflowError"], plainKeys := false, apart := false }
def EnginePlaysSaid : Prop := enginePlaysRow.holds Tryz.pinned (OpenSpec.ofChange enginePlaysSpec)

/-- ITS FALSE NEIGHBOUR: 'it returns false'. Refute it at one input. -/
def enginePlaysWrong : ChangeSpec := { name := "enginePlays", fn := fun _ => fun
  | [d1, d2] => { results := [.lit (.bool false)], args := [d1, d2] }
  | _ => none }
def EnginePlaysWrongFalsely : Prop := enginePlaysRow.holds Tryz.pinned (OpenSpec.ofChange enginePlaysWrong)

/-- 'forkheadlaw30.EngineHalts': WHATEVER THE INPUT: true; the input reads as it did. -/
def engineHaltsSpec : ChangeSpec := { name := "engineHalts", fn := fun _ => fun
  | [d1, d2] => { results := [.lit (.bool true)], args := [d1, d2] }
  | _ => none }
def engineHaltsRow : OpenClaim := { program := "ytmpddimhleianaagreat", sum := "838496e35fea2b67a351cc25bd489ef9b15ec7499ec50ab6c7996953c3dfdf77", func := "forkhead/forkheadlaw30.EngineHalts", spec := "engineHalts", inPlace := ["slices.overlaps[int]", "internal/bytealg.Compare", "slices.overlaps[forkhead/api.Table]", "slices.overlaps[forkhead/api.Request]"], unfollowed := true, recurses := true, named := ["math/bits.divideError", "math/bits.overflowError"], plainKeys := false, apart := false }
def EngineHaltsSaid : Prop := engineHaltsRow.holds Tryz.pinned (OpenSpec.ofChange engineHaltsSpec)

/-- ITS FALSE NEIGHBOUR: 'it returns false'. Refute it at one input. -/
def engineHaltsWrong : ChangeSpec := { name := "engineHalts", fn := fun _ => fun
  | [d1, d2] => { results := [.lit (.bool false)], args := [d1, d2] }
  | _ => none }
def EngineHaltsWrongFalsely : Prop := engineHaltsRow.holds Tryz.pinned (OpenSpec.ofChange engineHaltsWrong)

/-- 'forkheadlaw30.EngineStatuses': WHATEVER THE INPUT: true; the input reads as it did. -/
def engineStatusesSpec : ChangeSpec := { name := "engineStatuses", fn := fun _ => fun
  | [d1, d2] => { results := [.lit (.bool true)], args := [d1, d2] }
  | _ => none }
def engineStatusesRow : OpenClaim := { program := "ytmpddimhleianaagreat", sum := "838496e35fea2b67a351cc25bd489ef9b15ec7499ec50ab6c7996953c3dfdf77", func := "forkhead/forkheadlaw30.EngineStatuses", spec := "engineStatuses", inPlace := ["slices.overlaps[int]", "internal/bytealg.Compare", "slices.overlaps[forkhead/api.Table]", "slices.overlaps[forkhead/api.Request]"], unfollowed := true, recurses := true, named := ["math/bits.divideError", "math/bits.overflowError"], plainKeys := false, apart := false }
def EngineStatusesSaid : Prop := engineStatusesRow.holds Tryz.pinned (OpenSpec.ofChange engineStatusesSpec)

/-- ITS FALSE NEIGHBOUR: 'it returns false'. Refute it at one input. -/
def engineStatusesWrong : ChangeSpec := { name := "engineStatuses", fn := fun _ => fun
  | [d1, d2] => { results := [.lit (.bool false)], args := [d1, d2] }
  | _ => none }
def EngineStatusesWrongFalsely : Prop := engineStatusesRow.holds Tryz.pinned (OpenSpec.ofChange engineStatusesWrong)

/-- 'forkheadlaw30.EngineCondemns': WHATEVER THE INPUT: true; the input reads as it did. -/
def engineCondemnsSpec : ChangeSpec := { name := "engineCondemns", fn := fun _ => fun
  | [d1, d2] => { results := [.lit (.bool true)], args := [d1, d2] }
  | _ => none }
def engineCondemnsRow : OpenClaim := { program := "ytmpddimhleianaagreat", sum := "838496e35fea2b67a351cc25bd489ef9b15ec7499ec50ab6c7996953c3dfdf77", func := "forkhead/forkheadlaw30.EngineCondemns", spec := "engineCondemns", inPlace := ["internal/bytealg.Compare", "slices.overlaps[int]", "slices.overlaps[forkhead/api.Table]", "slices.overlaps[forkhead/api.Request]"], unfollowed := true, recurses := true, named := ["math/bits.divideError", "math/bits.overflowError"], plainKeys := false, apart := false }
def EngineCondemnsSaid : Prop := engineCondemnsRow.holds Tryz.pinned (OpenSpec.ofChange engineCondemnsSpec)

/-- ITS FALSE NEIGHBOUR: 'it returns false'. Refute it at one input. -/
def engineCondemnsWrong : ChangeSpec := { name := "engineCondemns", fn := fun _ => fun
  | [d1, d2] => { results := [.lit (.bool false)], args := [d1, d2] }
  | _ => none }
def EngineCondemnsWrongFalsely : Prop := engineCondemnsRow.holds Tryz.pinned (OpenSpec.ofChange engineCondemnsWrong)

/-- 'forkheadlaw30.EngineRestores': WHATEVER THE INPUT: true; the input reads as it did. -/
def engineRestoresSpec : ChangeSpec := { name := "engineRestores", fn := fun _ => fun
  | [d1, d2] => { results := [.lit (.bool true)], args := [d1, d2] }
  | _ => none }
def engineRestoresRow : OpenClaim := { program := "ytmpddimhleianaagreat", sum := "838496e35fea2b67a351cc25bd489ef9b15ec7499ec50ab6c7996953c3dfdf77", func := "forkhead/forkheadlaw30.EngineRestores", spec := "engineRestores", inPlace := ["internal/bytealg.Compare", "slices.overlaps[int]", "slices.overlaps[forkhead/api.Table]", "slices.overlaps[forkhead/api.Request]"], unfollowed := true, recurses := true, named := ["math/bits.divideError", "math/bits.overflowError"], plainKeys := false, apart := false }
def EngineRestoresSaid : Prop := engineRestoresRow.holds Tryz.pinned (OpenSpec.ofChange engineRestoresSpec)

/-- ITS FALSE NEIGHBOUR: 'it returns false'. Refute it at one input. -/
def engineRestoresWrong : ChangeSpec := { name := "engineRestores", fn := fun _ => fun
  | [d1, d2] => { results := [.lit (.bool false)], args := [d1, d2] }
  | _ => none }
def EngineRestoresWrongFalsely : Prop := engineRestoresRow.holds Tryz.pinned (OpenSpec.ofChange engineRestoresWrong)

/-- 'forkheadlaw30.EngineValid': WHATEVER THE INPUT: true; the input reads as it did. -/
def engineValidSpec : ChangeSpec := { name := "engineValid", fn := fun _ => fun
  | [d1, d2, d3] => { results := [.lit (.bool true)], args := [d1, d2, d3] }
  | _ => none }
def engineValidRow : OpenClaim := { program := "ytmpddimhleianaagreat", sum := "838496e35fea2b67a351cc25bd489ef9b15ec7499ec50ab6c7996953c3dfdf77", func := "forkhead/forkheadlaw30.EngineValid", spec := "engineValid", inPlace := ["internal/bytealg.Compare", "slices.overlaps[int]", "slices.overlaps[forkhead/api.Table]", "slices.overlaps[forkhead/api.Request]"], unfollowed := true, recurses := true, named := ["math/bits.divideError", "math/bits.overflowError"], plainKeys := false, apart := false }
def EngineValidSaid : Prop := engineValidRow.holds Tryz.pinned (OpenSpec.ofChange engineValidSpec)

/-- ITS FALSE NEIGHBOUR: 'it returns false'. Refute it at one input. -/
def engineValidWrong : ChangeSpec := { name := "engineValid", fn := fun _ => fun
  | [d1, d2, d3] => { results := [.lit (.bool false)], args := [d1, d2, d3] }
  | _ => none }
def EngineValidWrongFalsely : Prop := engineValidRow.holds Tryz.pinned (OpenSpec.ofChange engineValidWrong)

/- THE SECOND FORM. 'bulk': how many values and letters a reading holds, each counted each time it is reached (what is shared counts as often as it is met; a slice's spare places count too). A statement '..UptoSaid' is the law's where the arguments, and the package variables that the reading takes, are together of bulk at most 1048576: NARROWER than '..Said'. Prove '..Said' where nothing that the law and all that it calls make is longer than what came in: it says more and counts as full. Else prove '..UptoSaid'. A law counts once. -/
mutual
def uptoBulk {H : Type} : DataW H → Nat
  | .lit (.string bytes) => bytes.length + 1
  | .lit _ => 1
  | .nil => 1
  | .ptr d => uptoBulk d + 1
  | .slice elems spare => uptoBulkAll elems + uptoBulkAll spare + 1
  | .agg parts => uptoBulkAll parts + 1
  | .iface _ d => uptoBulk d + 1
  | .map entries => uptoBulkEntries entries + 1
  | .held _ => 1
def uptoBulkAll {H : Type} : List (DataW H) → Nat
  | [] => 0
  | d :: r => uptoBulk d + uptoBulkAll r
def uptoBulkEntries {H : Type} : List (Lit × DataW H) → Nat
  | [] => 0
  | x :: r => uptoBulkEntry x + uptoBulkEntries r
def uptoBulkEntry {H : Type} : Lit × DataW H → Nat
  | (.string bytes, d) => bytes.length + uptoBulk d + 1
  | (_, d) => uptoBulk d + 1
 end
def uptoSmall : (H : Type) → List (DataW H) → Bool := fun _ ds => decide (uptoBulkAll ds ≤ 1048576)
def OpenSpec.upto (s : _root_.Go.ChangeSpec) : _root_.Go.OpenSpec := { _root_.Go.OpenSpec.ofChange s with cond := some uptoSmall }

/-- 'forkheadlaw30.EngineBegins', WHERE WHAT IT READS IS OF BULK AT MOST 1048576: true; the input reads as it did. -/
def engineBeginsUptoRow : OpenClaim := { program := "ytmpddimhleianaagreat", sum := "838496e35fea2b67a351cc25bd489ef9b15ec7499ec50ab6c7996953c3dfdf77", func := "forkhead/forkheadlaw30.EngineBegins", spec := "engineBegins", inPlace := ["internal/bytealg.Compare", "slices.overlaps[int]", "slices.overlaps[forkhead/api.Table]", "slices.overlaps[forkhead/api.Request]"], unfollowed := true, recurses := true, named := ["math/bits.divideError", "math/bits.overflowError"], plainKeys := false, apart := false, narrowed := true }
def EngineBeginsUptoSaid : Prop := engineBeginsUptoRow.holds Tryz.pinned (OpenSpec.upto engineBeginsSpec)

/-- 'forkheadlaw30.EngineSteps', WHERE WHAT IT READS IS OF BULK AT MOST 1048576: true; the input reads as it did. -/
def engineStepsUptoRow : OpenClaim := { program := "ytmpddimhleianaagreat", sum := "838496e35fea2b67a351cc25bd489ef9b15ec7499ec50ab6c7996953c3dfdf77", func := "forkhead/forkheadlaw30.EngineSteps", spec := "engineSteps", inPlace := ["slices.overlaps[int]", "internal/bytealg.Compare", "slices.overlaps[forkhead/api.Table]", "slices.overlaps[forkhead/api.Request]"], unfollowed := true, recurses := true, named := ["math/bits.divideError", "math/bits.overflowError"], plainKeys := false, apart := false, narrowed := true }
def EngineStepsUptoSaid : Prop := engineStepsUptoRow.holds Tryz.pinned (OpenSpec.upto engineStepsSpec)

/-- 'forkheadlaw30.EngineAny', WHERE WHAT IT READS IS OF BULK AT MOST 1048576: true; the input reads as it did. -/
def engineAnyUptoRow : OpenClaim := { program := "ytmpddimhleianaagreat", sum := "838496e35fea2b67a351cc25bd489ef9b15ec7499ec50ab6c7996953c3dfdf77", func := "forkhead/forkheadlaw30.EngineAny", spec := "engineAny", inPlace := ["internal/bytealg.Compare", "slices.overlaps[int]", "slices.overlaps[forkhead/api.Table]", "slices.overlaps[forkhead/api.Request]"], unfollowed := true, recurses := true, named := ["math/bits.divideError", "math/bits.overflowError"], plainKeys := false, apart := false, narrowed := true }
def EngineAnyUptoSaid : Prop := engineAnyUptoRow.holds Tryz.pinned (OpenSpec.upto engineAnySpec)

/-- 'forkheadlaw30.EnginePlays', WHERE WHAT IT READS IS OF BULK AT MOST 1048576: true; the input reads as it did. -/
def enginePlaysUptoRow : OpenClaim := { program := "ytmpddimhleianaagreat", sum := "838496e35fea2b67a351cc25bd489ef9b15ec7499ec50ab6c7996953c3dfdf77", func := "forkhead/forkheadlaw30.EnginePlays", spec := "enginePlays", inPlace := ["internal/bytealg.Compare", "slices.overlaps[int]", "slices.overlaps[forkhead/api.Table]", "slices.overlaps[forkhead/api.Request]"], unfollowed := true, recurses := true, named := ["math/bits.divideError", "math/bits.overflowError"], plainKeys := false, apart := false, narrowed := true }
def EnginePlaysUptoSaid : Prop := enginePlaysUptoRow.holds Tryz.pinned (OpenSpec.upto enginePlaysSpec)

/-- 'forkheadlaw30.EngineHalts', WHERE WHAT IT READS IS OF BULK AT MOST 1048576: true; the input reads as it did. -/
def engineHaltsUptoRow : OpenClaim := { program := "ytmpddimhleianaagreat", sum := "838496e35fea2b67a351cc25bd489ef9b15ec7499ec50ab6c7996953c3dfdf77", func := "forkhead/forkheadlaw30.EngineHalts", spec := "engineHalts", inPlace := ["slices.overlaps[int]", "internal/bytealg.Compare", "slices.overlaps[forkhead/api.Table]", "slices.overlaps[forkhead/api.Request]"], unfollowed := true, recurses := true, named := ["math/bits.divideError", "math/bits.overflowError"], plainKeys := false, apart := false, narrowed := true }
def EngineHaltsUptoSaid : Prop := engineHaltsUptoRow.holds Tryz.pinned (OpenSpec.upto engineHaltsSpec)

/-- 'forkheadlaw30.EngineStatuses', WHERE WHAT IT READS IS OF BULK AT MOST 1048576: true; the input reads as it did. -/
def engineStatusesUptoRow : OpenClaim := { program := "ytmpddimhleianaagreat", sum := "838496e35fea2b67a351cc25bd489ef9b15ec7499ec50ab6c7996953c3dfdf77", func := "forkhead/forkheadlaw30.EngineStatuses", spec := "engineStatuses", inPlace := ["slices.overlaps[int]", "internal/bytealg.Compare", "slices.overlaps[forkhead/api.Table]", "slices.overlaps[forkhead/api.Request]"], unfollowed := true, recurses := true, named := ["math/bits.divideError", "math/bits.overflowError"], plainKeys := false, apart := false, narrowed := true }
def EngineStatusesUptoSaid : Prop := engineStatusesUptoRow.holds Tryz.pinned (OpenSpec.upto engineStatusesSpec)

/-- 'forkheadlaw30.EngineCondemns', WHERE WHAT IT READS IS OF BULK AT MOST 1048576: true; the input reads as it did. -/
def engineCondemnsUptoRow : OpenClaim := { program := "ytmpddimhleianaagreat", sum := "838496e35fea2b67a351cc25bd489ef9b15ec7499ec50ab6c7996953c3dfdf77", func := "forkhead/forkheadlaw30.EngineCondemns", spec := "engineCondemns", inPlace := ["internal/bytealg.Compare", "slices.overlaps[int]", "slices.overlaps[forkhead/api.Table]", "slices.overlaps[forkhead/api.Request]"], unfollowed := true, recurses := true, named := ["math/bits.divideError", "math/bits.overflowError"], plainKeys := false, apart := false, narrowed := true }
def EngineCondemnsUptoSaid : Prop := engineCondemnsUptoRow.holds Tryz.pinned (OpenSpec.upto engineCondemnsSpec)

/-- 'forkheadlaw30.EngineRestores', WHERE WHAT IT READS IS OF BULK AT MOST 1048576: true; the input reads as it did. -/
def engineRestoresUptoRow : OpenClaim := { program := "ytmpddimhleianaagreat", sum := "838496e35fea2b67a351cc25bd489ef9b15ec7499ec50ab6c7996953c3dfdf77", func := "forkhead/forkheadlaw30.EngineRestores", spec := "engineRestores", inPlace := ["internal/bytealg.Compare", "slices.overlaps[int]", "slices.overlaps[forkhead/api.Table]", "slices.overlaps[forkhead/api.Request]"], unfollowed := true, recurses := true, named := ["math/bits.divideError", "math/bits.overflowError"], plainKeys := false, apart := false, narrowed := true }
def EngineRestoresUptoSaid : Prop := engineRestoresUptoRow.holds Tryz.pinned (OpenSpec.upto engineRestoresSpec)

/-- 'forkheadlaw30.EngineValid', WHERE WHAT IT READS IS OF BULK AT MOST 1048576: true; the input reads as it did. -/
def engineValidUptoRow : OpenClaim := { program := "ytmpddimhleianaagreat", sum := "838496e35fea2b67a351cc25bd489ef9b15ec7499ec50ab6c7996953c3dfdf77", func := "forkhead/forkheadlaw30.EngineValid", spec := "engineValid", inPlace := ["internal/bytealg.Compare", "slices.overlaps[int]", "slices.overlaps[forkhead/api.Table]", "slices.overlaps[forkhead/api.Request]"], unfollowed := true, recurses := true, named := ["math/bits.divideError", "math/bits.overflowError"], plainKeys := false, apart := false, narrowed := true }
def EngineValidUptoSaid : Prop := engineValidUptoRow.holds Tryz.pinned (OpenSpec.upto engineValidSpec)

end Rows
end Go.Proofs.YtmpddimhleianaaGreat
