/-
  No cell of these rows narrows 'for every input' (looked for: loops, veiled, ifaces, maps, wideKeys, modest, calm, conditions, laid).
  DERIVED. THE GIVEN ROWS OF THIS SEAT. 9 by the template 'for every input the law returns true; each argument reads behind the call as it read before'; 0 by the template 'total and deterministic' (their statements: YtdkahoohedljhaaTotals.lean).
  GIVEN WITH THE SEED: the statements are not yours to turn. If you find one false, say at which input.
  Laid BY PROGRAM, IN A SANDBOX (cutbox-rows.mjs): the forced cells as the released guide's own fill.sh prints them over the translation 691c5e21e18040e6… (all of the seat's roots in one cut). By AI agents, Wed Nov 11 2026. No macro, syntax, notation, axiom, sorry.
-/
import Derived.Test.YtdkahoohedljhaaChecked
import GoSem.Claim
import GoSem.ClaimJoined
import GoSem.ClaimMapViews
import Derived.JoinedTies
import Derived.KernelRfl
namespace Go.Proofs.Ytdkahoohedljhaa
/- THE CELL 'sum', in the pinned program and in every row, IS THE sha256 OF THE DUMP (.gsa) THAT YtdkahoohedljhaaProg.lean LOADS. Nothing in Lean hashes anything: it is a label: what it is worth is what the hold of that sum in a sandbox is worth. -/
noncomputable def Try.pinned : Pinned := { name := "ytdkahoohedljhaa", sum := "691c5e21e18040e6c969a7e889c031af1c47d5c128da01af36279cea05e7e0da", checked := Try.checked }
namespace Rows
def none {H : Type} : Left H := { results := [], args := [] }

/-- 'forkheadlaw9.EquivocationClaims': WHATEVER THE INPUT: true; the input reads as it did. -/
def equivocationClaimsSpec : ChangeSpec := { name := "equivocationClaims", fn := fun _ => fun
  | [d1, d2] => { results := [.lit (.bool true)], args := [d1, d2] }
  | _ => none }
def equivocationClaimsRow : OpenClaim := { program := "ytdkahoohedljhaa", sum := "691c5e21e18040e6c969a7e889c031af1c47d5c128da01af36279cea05e7e0da", func := "forkhead/forkheadlaw9.EquivocationClaims", spec := "equivocationClaims", apart := false }
def EquivocationClaimsSaid : Prop := equivocationClaimsRow.holds Try.pinned (OpenSpec.ofChange equivocationClaimsSpec)

/-- ITS FALSE NEIGHBOUR: 'it returns false'. Refute it at one input. -/
def equivocationClaimsWrong : ChangeSpec := { name := "equivocationClaims", fn := fun _ => fun
  | [d1, d2] => { results := [.lit (.bool false)], args := [d1, d2] }
  | _ => none }
def EquivocationClaimsWrongFalsely : Prop := equivocationClaimsRow.holds Try.pinned (OpenSpec.ofChange equivocationClaimsWrong)

/-- 'forkheadlaw9.EquivocationSets': WHATEVER THE INPUT: true; the input reads as it did. -/
def equivocationSetsSpec : ChangeSpec := { name := "equivocationSets", fn := fun _ => fun
  | [d1, d2] => { results := [.lit (.bool true)], args := [d1, d2] }
  | _ => none }
def equivocationSetsRow : OpenClaim := { program := "ytdkahoohedljhaa", sum := "691c5e21e18040e6c969a7e889c031af1c47d5c128da01af36279cea05e7e0da", func := "forkhead/forkheadlaw9.EquivocationSets", spec := "equivocationSets", apart := false }
def EquivocationSetsSaid : Prop := equivocationSetsRow.holds Try.pinned (OpenSpec.ofChange equivocationSetsSpec)

/-- ITS FALSE NEIGHBOUR: 'it returns false'. Refute it at one input. -/
def equivocationSetsWrong : ChangeSpec := { name := "equivocationSets", fn := fun _ => fun
  | [d1, d2] => { results := [.lit (.bool false)], args := [d1, d2] }
  | _ => none }
def EquivocationSetsWrongFalsely : Prop := equivocationSetsRow.holds Try.pinned (OpenSpec.ofChange equivocationSetsWrong)

/-- 'forkheadlaw9.EquivocationRange': WHATEVER THE INPUT: true; the input reads as it did. -/
def equivocationRangeSpec : ChangeSpec := { name := "equivocationRange", fn := fun _ => fun
  | [d] => { results := [.lit (.bool true)], args := [d] }
  | _ => none }
def equivocationRangeRow : OpenClaim := { program := "ytdkahoohedljhaa", sum := "691c5e21e18040e6c969a7e889c031af1c47d5c128da01af36279cea05e7e0da", func := "forkhead/forkheadlaw9.EquivocationRange", spec := "equivocationRange", apart := false }
def EquivocationRangeSaid : Prop := equivocationRangeRow.holds Try.pinned (OpenSpec.ofChange equivocationRangeSpec)

/-- ITS FALSE NEIGHBOUR: 'it returns false'. Refute it at one input. -/
def equivocationRangeWrong : ChangeSpec := { name := "equivocationRange", fn := fun _ => fun
  | [d] => { results := [.lit (.bool false)], args := [d] }
  | _ => none }
def EquivocationRangeWrongFalsely : Prop := equivocationRangeRow.holds Try.pinned (OpenSpec.ofChange equivocationRangeWrong)

/-- 'forkheadlaw9.EquivocationEvidence': WHATEVER THE INPUT: true; the input reads as it did. -/
def equivocationEvidenceSpec : ChangeSpec := { name := "equivocationEvidence", fn := fun _ => fun
  | [d1, d2] => { results := [.lit (.bool true)], args := [d1, d2] }
  | _ => none }
def equivocationEvidenceRow : OpenClaim := { program := "ytdkahoohedljhaa", sum := "691c5e21e18040e6c969a7e889c031af1c47d5c128da01af36279cea05e7e0da", func := "forkhead/forkheadlaw9.EquivocationEvidence", spec := "equivocationEvidence", recurses := true, apart := false }
def EquivocationEvidenceSaid : Prop := equivocationEvidenceRow.holds Try.pinned (OpenSpec.ofChange equivocationEvidenceSpec)

/-- ITS FALSE NEIGHBOUR: 'it returns false'. Refute it at one input. -/
def equivocationEvidenceWrong : ChangeSpec := { name := "equivocationEvidence", fn := fun _ => fun
  | [d1, d2] => { results := [.lit (.bool false)], args := [d1, d2] }
  | _ => none }
def EquivocationEvidenceWrongFalsely : Prop := equivocationEvidenceRow.holds Try.pinned (OpenSpec.ofChange equivocationEvidenceWrong)

/-- 'forkheadlaw9.EquivocationBuilt': WHATEVER THE INPUT: true; the input reads as it did. -/
def equivocationBuiltSpec : ChangeSpec := { name := "equivocationBuilt", fn := fun _ => fun
  | [d1, d2] => { results := [.lit (.bool true)], args := [d1, d2] }
  | _ => none }
def equivocationBuiltRow : OpenClaim := { program := "ytdkahoohedljhaa", sum := "691c5e21e18040e6c969a7e889c031af1c47d5c128da01af36279cea05e7e0da", func := "forkhead/forkheadlaw9.EquivocationBuilt", spec := "equivocationBuilt", recurses := true, apart := false }
def EquivocationBuiltSaid : Prop := equivocationBuiltRow.holds Try.pinned (OpenSpec.ofChange equivocationBuiltSpec)

/-- ITS FALSE NEIGHBOUR: 'it returns false'. Refute it at one input. -/
def equivocationBuiltWrong : ChangeSpec := { name := "equivocationBuilt", fn := fun _ => fun
  | [d1, d2] => { results := [.lit (.bool false)], args := [d1, d2] }
  | _ => none }
def EquivocationBuiltWrongFalsely : Prop := equivocationBuiltRow.holds Try.pinned (OpenSpec.ofChange equivocationBuiltWrong)

/-- 'forkheadlaw31.DevicePlays': WHATEVER THE INPUT: true; the input reads as it did. -/
def devicePlaysSpec : ChangeSpec := { name := "devicePlays", fn := fun _ => fun
  | [d1, d2] => { results := [.lit (.bool true)], args := [d1, d2] }
  | _ => none }
def devicePlaysRow : OpenClaim := { program := "ytdkahoohedljhaa", sum := "691c5e21e18040e6c969a7e889c031af1c47d5c128da01af36279cea05e7e0da", func := "forkhead/forkheadlaw31.DevicePlays", spec := "devicePlays", apart := false }
def DevicePlaysSaid : Prop := devicePlaysRow.holds Try.pinned (OpenSpec.ofChange devicePlaysSpec)

/-- ITS FALSE NEIGHBOUR: 'it returns false'. Refute it at one input. -/
def devicePlaysWrong : ChangeSpec := { name := "devicePlays", fn := fun _ => fun
  | [d1, d2] => { results := [.lit (.bool false)], args := [d1, d2] }
  | _ => none }
def DevicePlaysWrongFalsely : Prop := devicePlaysRow.holds Try.pinned (OpenSpec.ofChange devicePlaysWrong)

/-- 'forkheadlaw31.DeviceTorn': WHATEVER THE INPUT: true; the input reads as it did. -/
def deviceTornSpec : ChangeSpec := { name := "deviceTorn", fn := fun _ => fun
  | [d1, d2, d3, d4] => { results := [.lit (.bool true)], args := [d1, d2, d3, d4] }
  | _ => none }
def deviceTornRow : OpenClaim := { program := "ytdkahoohedljhaa", sum := "691c5e21e18040e6c969a7e889c031af1c47d5c128da01af36279cea05e7e0da", func := "forkhead/forkheadlaw31.DeviceTorn", spec := "deviceTorn", apart := false }
def DeviceTornSaid : Prop := deviceTornRow.holds Try.pinned (OpenSpec.ofChange deviceTornSpec)

/-- ITS FALSE NEIGHBOUR: 'it returns false'. Refute it at one input. -/
def deviceTornWrong : ChangeSpec := { name := "deviceTorn", fn := fun _ => fun
  | [d1, d2, d3, d4] => { results := [.lit (.bool false)], args := [d1, d2, d3, d4] }
  | _ => none }
def DeviceTornWrongFalsely : Prop := deviceTornRow.holds Try.pinned (OpenSpec.ofChange deviceTornWrong)

/-- 'forkheadlaw31.DeviceCopies': WHATEVER THE INPUT: true; the input reads as it did. -/
def deviceCopiesSpec : ChangeSpec := { name := "deviceCopies", fn := fun _ => fun
  | [d] => { results := [.lit (.bool true)], args := [d] }
  | _ => none }
def deviceCopiesRow : OpenClaim := { program := "ytdkahoohedljhaa", sum := "691c5e21e18040e6c969a7e889c031af1c47d5c128da01af36279cea05e7e0da", func := "forkhead/forkheadlaw31.DeviceCopies", spec := "deviceCopies", apart := false }
def DeviceCopiesSaid : Prop := deviceCopiesRow.holds Try.pinned (OpenSpec.ofChange deviceCopiesSpec)

/-- ITS FALSE NEIGHBOUR: 'it returns false'. Refute it at one input. -/
def deviceCopiesWrong : ChangeSpec := { name := "deviceCopies", fn := fun _ => fun
  | [d] => { results := [.lit (.bool false)], args := [d] }
  | _ => none }
def DeviceCopiesWrongFalsely : Prop := deviceCopiesRow.holds Try.pinned (OpenSpec.ofChange deviceCopiesWrong)

/-- 'forkheadlaw31.DeviceNew': WHATEVER THE INPUT: true; the input reads as it did. -/
def deviceNewSpec : ChangeSpec := { name := "deviceNew", fn := fun _ => fun
  | [d1, d2] => { results := [.lit (.bool true)], args := [d1, d2] }
  | _ => none }
def deviceNewRow : OpenClaim := { program := "ytdkahoohedljhaa", sum := "691c5e21e18040e6c969a7e889c031af1c47d5c128da01af36279cea05e7e0da", func := "forkhead/forkheadlaw31.DeviceNew", spec := "deviceNew", apart := false }
def DeviceNewSaid : Prop := deviceNewRow.holds Try.pinned (OpenSpec.ofChange deviceNewSpec)

/-- ITS FALSE NEIGHBOUR: 'it returns false'. Refute it at one input. -/
def deviceNewWrong : ChangeSpec := { name := "deviceNew", fn := fun _ => fun
  | [d1, d2] => { results := [.lit (.bool false)], args := [d1, d2] }
  | _ => none }
def DeviceNewWrongFalsely : Prop := deviceNewRow.holds Try.pinned (OpenSpec.ofChange deviceNewWrong)

/- THE SECOND FORM. 'bulk': how many values and letters a reading holds, each counted each time it is reached (what is shared counts as often as it is met; a slice's spare places count too). A statement '..UptoSaid' is the law's where the arguments, and the package variables that the reading takes, are together of bulk at most 1048576: NARROWER than '..Said'. Prove '..Said' where nothing that the law and all that it calls make is longer than what came in: it says more and counts as full. Else prove '..UptoSaid'. A law counts once. -/
mutual
def uptoBulk {H : Type} : DataW H → Nat
  | .lit (.string bytes) => bytes.length + 1
  | .lit _ => 1
  | .nil => 1
  | .ptr d => uptoBulk d + 1
  | .slice elems spare => uptoBulkAll elems + uptoBulkAll spare + 1
  | .agg parts => uptoBulkAll parts + 1
  | .iface _ d => uptoBulk d + 1
  | .map entries => uptoBulkEntries entries + 1
  | .held _ => 1
def uptoBulkAll {H : Type} : List (DataW H) → Nat
  | [] => 0
  | d :: r => uptoBulk d + uptoBulkAll r
def uptoBulkEntries {H : Type} : List (Lit × DataW H) → Nat
  | [] => 0
  | x :: r => uptoBulkEntry x + uptoBulkEntries r
def uptoBulkEntry {H : Type} : Lit × DataW H → Nat
  | (.string bytes, d) => bytes.length + uptoBulk d + 1
  | (_, d) => uptoBulk d + 1
 end
def uptoSmall : (H : Type) → List (DataW H) → Bool := fun _ ds => decide (uptoBulkAll ds ≤ 1048576)
def OpenSpec.upto (s : _root_.Go.ChangeSpec) : _root_.Go.OpenSpec := { _root_.Go.OpenSpec.ofChange s with cond := some uptoSmall }

/-- 'forkheadlaw9.EquivocationClaims', WHERE WHAT IT READS IS OF BULK AT MOST 1048576: true; the input reads as it did. -/
def equivocationClaimsUptoRow : OpenClaim := { program := "ytdkahoohedljhaa", sum := "691c5e21e18040e6c969a7e889c031af1c47d5c128da01af36279cea05e7e0da", func := "forkhead/forkheadlaw9.EquivocationClaims", spec := "equivocationClaims", apart := false, narrowed := true }
def EquivocationClaimsUptoSaid : Prop := equivocationClaimsUptoRow.holds Try.pinned (OpenSpec.upto equivocationClaimsSpec)

/-- 'forkheadlaw9.EquivocationSets', WHERE WHAT IT READS IS OF BULK AT MOST 1048576: true; the input reads as it did. -/
def equivocationSetsUptoRow : OpenClaim := { program := "ytdkahoohedljhaa", sum := "691c5e21e18040e6c969a7e889c031af1c47d5c128da01af36279cea05e7e0da", func := "forkhead/forkheadlaw9.EquivocationSets", spec := "equivocationSets", apart := false, narrowed := true }
def EquivocationSetsUptoSaid : Prop := equivocationSetsUptoRow.holds Try.pinned (OpenSpec.upto equivocationSetsSpec)

/-- 'forkheadlaw9.EquivocationRange', WHERE WHAT IT READS IS OF BULK AT MOST 1048576: true; the input reads as it did. -/
def equivocationRangeUptoRow : OpenClaim := { program := "ytdkahoohedljhaa", sum := "691c5e21e18040e6c969a7e889c031af1c47d5c128da01af36279cea05e7e0da", func := "forkhead/forkheadlaw9.EquivocationRange", spec := "equivocationRange", apart := false, narrowed := true }
def EquivocationRangeUptoSaid : Prop := equivocationRangeUptoRow.holds Try.pinned (OpenSpec.upto equivocationRangeSpec)

/-- 'forkheadlaw9.EquivocationEvidence', WHERE WHAT IT READS IS OF BULK AT MOST 1048576: true; the input reads as it did. -/
def equivocationEvidenceUptoRow : OpenClaim := { program := "ytdkahoohedljhaa", sum := "691c5e21e18040e6c969a7e889c031af1c47d5c128da01af36279cea05e7e0da", func := "forkhead/forkheadlaw9.EquivocationEvidence", spec := "equivocationEvidence", recurses := true, apart := false, narrowed := true }
def EquivocationEvidenceUptoSaid : Prop := equivocationEvidenceUptoRow.holds Try.pinned (OpenSpec.upto equivocationEvidenceSpec)

/-- 'forkheadlaw9.EquivocationBuilt', WHERE WHAT IT READS IS OF BULK AT MOST 1048576: true; the input reads as it did. -/
def equivocationBuiltUptoRow : OpenClaim := { program := "ytdkahoohedljhaa", sum := "691c5e21e18040e6c969a7e889c031af1c47d5c128da01af36279cea05e7e0da", func := "forkhead/forkheadlaw9.EquivocationBuilt", spec := "equivocationBuilt", recurses := true, apart := false, narrowed := true }
def EquivocationBuiltUptoSaid : Prop := equivocationBuiltUptoRow.holds Try.pinned (OpenSpec.upto equivocationBuiltSpec)

/-- 'forkheadlaw31.DevicePlays', WHERE WHAT IT READS IS OF BULK AT MOST 1048576: true; the input reads as it did. -/
def devicePlaysUptoRow : OpenClaim := { program := "ytdkahoohedljhaa", sum := "691c5e21e18040e6c969a7e889c031af1c47d5c128da01af36279cea05e7e0da", func := "forkhead/forkheadlaw31.DevicePlays", spec := "devicePlays", apart := false, narrowed := true }
def DevicePlaysUptoSaid : Prop := devicePlaysUptoRow.holds Try.pinned (OpenSpec.upto devicePlaysSpec)

/-- 'forkheadlaw31.DeviceTorn', WHERE WHAT IT READS IS OF BULK AT MOST 1048576: true; the input reads as it did. -/
def deviceTornUptoRow : OpenClaim := { program := "ytdkahoohedljhaa", sum := "691c5e21e18040e6c969a7e889c031af1c47d5c128da01af36279cea05e7e0da", func := "forkhead/forkheadlaw31.DeviceTorn", spec := "deviceTorn", apart := false, narrowed := true }
def DeviceTornUptoSaid : Prop := deviceTornUptoRow.holds Try.pinned (OpenSpec.upto deviceTornSpec)

/-- 'forkheadlaw31.DeviceCopies', WHERE WHAT IT READS IS OF BULK AT MOST 1048576: true; the input reads as it did. -/
def deviceCopiesUptoRow : OpenClaim := { program := "ytdkahoohedljhaa", sum := "691c5e21e18040e6c969a7e889c031af1c47d5c128da01af36279cea05e7e0da", func := "forkhead/forkheadlaw31.DeviceCopies", spec := "deviceCopies", apart := false, narrowed := true }
def DeviceCopiesUptoSaid : Prop := deviceCopiesUptoRow.holds Try.pinned (OpenSpec.upto deviceCopiesSpec)

/-- 'forkheadlaw31.DeviceNew', WHERE WHAT IT READS IS OF BULK AT MOST 1048576: true; the input reads as it did. -/
def deviceNewUptoRow : OpenClaim := { program := "ytdkahoohedljhaa", sum := "691c5e21e18040e6c969a7e889c031af1c47d5c128da01af36279cea05e7e0da", func := "forkhead/forkheadlaw31.DeviceNew", spec := "deviceNew", apart := false, narrowed := true }
def DeviceNewUptoSaid : Prop := deviceNewUptoRow.holds Try.pinned (OpenSpec.upto deviceNewSpec)

end Rows
end Go.Proofs.Ytdkahoohedljhaa
