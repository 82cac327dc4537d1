/-
  No cell of these rows narrows 'for every input' (looked for: loops, veiled, ifaces, maps, wideKeys, modest, calm, conditions, laid).
  DERIVED. THE GIVEN ROWS OF THIS SEAT. 12 by the template 'for every input the law returns true; each argument reads behind the call as it read before'; 0 by the template 'total and deterministic' (their statements: YtnjdpnfglgcjcaaGreatTotals.lean).
  GIVEN WITH THE SEED: the statements are not yours to turn. If you find one false, say at which input.
  Laid BY PROGRAM, IN A SANDBOX (cutbox-rows.mjs): the forced cells as the released guide's own fill.sh prints them over the translation 464d9211beb63c1e… (all of the seat's roots in one cut). By AI agents, Wed Nov 11 2026. No macro, syntax, notation, axiom, sorry.
-/
import Derived.Test.YtnjdpnfglgcjcaaGreatChecked
import GoSem.Claim
import GoSem.ClaimJoined
import GoSem.ClaimMapViews
import Derived.JoinedTies
import Derived.KernelRfl
namespace Go.Proofs.YtnjdpnfglgcjcaaGreat
/- THE CELL 'sum', in the pinned program and in every row, IS THE sha256 OF THE DUMP (.gsa) THAT YtnjdpnfglgcjcaaGreatProg.lean LOADS. Nothing in Lean hashes anything: it is a label: what it is worth is what the hold of that sum in a sandbox is worth. -/
noncomputable def Tryz.pinned : Pinned := { name := "ytnjdpnfglgcjcaagreat", sum := "464d9211beb63c1e655ccb65bbfe0494e43bc1b097abde2c5b1f112da32f2dbb", checked := Tryz.checked }
namespace Rows
def none {H : Type} : Left H := { results := [], args := [] }

/-- 'forkheadlaw32.ImageBack': WHATEVER THE INPUT: true; the input reads as it did. -/
def imageBackSpec : ChangeSpec := { name := "imageBack", fn := fun _ => fun
  | [d] => { results := [.lit (.bool true)], args := [d] }
  | _ => none }
def imageBackRow : OpenClaim := { program := "ytnjdpnfglgcjcaagreat", sum := "464d9211beb63c1e655ccb65bbfe0494e43bc1b097abde2c5b1f112da32f2dbb", func := "forkhead/forkheadlaw32.ImageBack", spec := "imageBack", inPlace := ["internal/bytealg.Compare"], unfollowed := true, recurses := true, plainKeys := false, apart := false }
def ImageBackSaid : Prop := imageBackRow.holds Tryz.pinned (OpenSpec.ofChange imageBackSpec)

/-- ITS FALSE NEIGHBOUR: 'it returns false'. Refute it at one input. -/
def imageBackWrong : ChangeSpec := { name := "imageBack", fn := fun _ => fun
  | [d] => { results := [.lit (.bool false)], args := [d] }
  | _ => none }
def ImageBackWrongFalsely : Prop := imageBackRow.holds Tryz.pinned (OpenSpec.ofChange imageBackWrong)

/-- 'forkheadlaw32.ImageInvalid': WHATEVER THE INPUT: true; the input reads as it did. -/
def imageInvalidSpec : ChangeSpec := { name := "imageInvalid", fn := fun _ => fun
  | [d1, d2] => { results := [.lit (.bool true)], args := [d1, d2] }
  | _ => none }
def imageInvalidRow : OpenClaim := { program := "ytnjdpnfglgcjcaagreat", sum := "464d9211beb63c1e655ccb65bbfe0494e43bc1b097abde2c5b1f112da32f2dbb", func := "forkhead/forkheadlaw32.ImageInvalid", spec := "imageInvalid", inPlace := ["internal/bytealg.Compare"], unfollowed := true, recurses := true, plainKeys := false, apart := false }
def ImageInvalidSaid : Prop := imageInvalidRow.holds Tryz.pinned (OpenSpec.ofChange imageInvalidSpec)

/-- ITS FALSE NEIGHBOUR: 'it returns false'. Refute it at one input. -/
def imageInvalidWrong : ChangeSpec := { name := "imageInvalid", fn := fun _ => fun
  | [d1, d2] => { results := [.lit (.bool false)], args := [d1, d2] }
  | _ => none }
def ImageInvalidWrongFalsely : Prop := imageInvalidRow.holds Tryz.pinned (OpenSpec.ofChange imageInvalidWrong)

/-- 'forkheadlaw32.ImageDecodes': WHATEVER THE INPUT: true; the input reads as it did. -/
def imageDecodesSpec : ChangeSpec := { name := "imageDecodes", fn := fun _ => fun
  | [d] => { results := [.lit (.bool true)], args := [d] }
  | _ => none }
def imageDecodesRow : OpenClaim := { program := "ytnjdpnfglgcjcaagreat", sum := "464d9211beb63c1e655ccb65bbfe0494e43bc1b097abde2c5b1f112da32f2dbb", func := "forkhead/forkheadlaw32.ImageDecodes", spec := "imageDecodes", inPlace := ["internal/bytealg.Compare"], unfollowed := true, recurses := true, plainKeys := false, apart := false }
def ImageDecodesSaid : Prop := imageDecodesRow.holds Tryz.pinned (OpenSpec.ofChange imageDecodesSpec)

/-- ITS FALSE NEIGHBOUR: 'it returns false'. Refute it at one input. -/
def imageDecodesWrong : ChangeSpec := { name := "imageDecodes", fn := fun _ => fun
  | [d] => { results := [.lit (.bool false)], args := [d] }
  | _ => none }
def ImageDecodesWrongFalsely : Prop := imageDecodesRow.holds Tryz.pinned (OpenSpec.ofChange imageDecodesWrong)

/-- 'forkheadlaw32.ImageChanged': WHATEVER THE INPUT: true; the input reads as it did. -/
def imageChangedSpec : ChangeSpec := { name := "imageChanged", fn := fun _ => fun
  | [d1, d2, d3, d4] => { results := [.lit (.bool true)], args := [d1, d2, d3, d4] }
  | _ => none }
def imageChangedRow : OpenClaim := { program := "ytnjdpnfglgcjcaagreat", sum := "464d9211beb63c1e655ccb65bbfe0494e43bc1b097abde2c5b1f112da32f2dbb", func := "forkhead/forkheadlaw32.ImageChanged", spec := "imageChanged", inPlace := ["internal/bytealg.Compare"], unfollowed := true, recurses := true, plainKeys := false, apart := false }
def ImageChangedSaid : Prop := imageChangedRow.holds Tryz.pinned (OpenSpec.ofChange imageChangedSpec)

/-- ITS FALSE NEIGHBOUR: 'it returns false'. Refute it at one input. -/
def imageChangedWrong : ChangeSpec := { name := "imageChanged", fn := fun _ => fun
  | [d1, d2, d3, d4] => { results := [.lit (.bool false)], args := [d1, d2, d3, d4] }
  | _ => none }
def ImageChangedWrongFalsely : Prop := imageChangedRow.holds Tryz.pinned (OpenSpec.ofChange imageChangedWrong)

/-- 'forkheadlaw32.ImageCut': WHATEVER THE INPUT: true; the input reads as it did. -/
def imageCutSpec : ChangeSpec := { name := "imageCut", fn := fun _ => fun
  | [d1, d2, d3] => { results := [.lit (.bool true)], args := [d1, d2, d3] }
  | _ => none }
def imageCutRow : OpenClaim := { program := "ytnjdpnfglgcjcaagreat", sum := "464d9211beb63c1e655ccb65bbfe0494e43bc1b097abde2c5b1f112da32f2dbb", func := "forkhead/forkheadlaw32.ImageCut", spec := "imageCut", inPlace := ["internal/bytealg.Compare"], unfollowed := true, recurses := true, plainKeys := false, apart := false }
def ImageCutSaid : Prop := imageCutRow.holds Tryz.pinned (OpenSpec.ofChange imageCutSpec)

/-- ITS FALSE NEIGHBOUR: 'it returns false'. Refute it at one input. -/
def imageCutWrong : ChangeSpec := { name := "imageCut", fn := fun _ => fun
  | [d1, d2, d3] => { results := [.lit (.bool false)], args := [d1, d2, d3] }
  | _ => none }
def ImageCutWrongFalsely : Prop := imageCutRow.holds Tryz.pinned (OpenSpec.ofChange imageCutWrong)

/-- 'forkheadlaw32.ImageUnique': WHATEVER THE INPUT: true; the input reads as it did. -/
def imageUniqueSpec : ChangeSpec := { name := "imageUnique", fn := fun _ => fun
  | [d1, d2, d3] => { results := [.lit (.bool true)], args := [d1, d2, d3] }
  | _ => none }
def imageUniqueRow : OpenClaim := { program := "ytnjdpnfglgcjcaagreat", sum := "464d9211beb63c1e655ccb65bbfe0494e43bc1b097abde2c5b1f112da32f2dbb", func := "forkhead/forkheadlaw32.ImageUnique", spec := "imageUnique", inPlace := ["internal/bytealg.Compare"], unfollowed := true, recurses := true, plainKeys := false, apart := false }
def ImageUniqueSaid : Prop := imageUniqueRow.holds Tryz.pinned (OpenSpec.ofChange imageUniqueSpec)

/-- ITS FALSE NEIGHBOUR: 'it returns false'. Refute it at one input. -/
def imageUniqueWrong : ChangeSpec := { name := "imageUnique", fn := fun _ => fun
  | [d1, d2, d3] => { results := [.lit (.bool false)], args := [d1, d2, d3] }
  | _ => none }
def ImageUniqueWrongFalsely : Prop := imageUniqueRow.holds Tryz.pinned (OpenSpec.ofChange imageUniqueWrong)

/-- 'forkheadlaw33.SnapshotHeaders': WHATEVER THE INPUT: true; the input reads as it did. -/
def snapshotHeadersSpec : ChangeSpec := { name := "snapshotHeaders", fn := fun _ => fun
  | [d1, d2, d3] => { results := [.lit (.bool true)], args := [d1, d2, d3] }
  | _ => none }
def snapshotHeadersRow : OpenClaim := { program := "ytnjdpnfglgcjcaagreat", sum := "464d9211beb63c1e655ccb65bbfe0494e43bc1b097abde2c5b1f112da32f2dbb", func := "forkhead/forkheadlaw33.SnapshotHeaders", spec := "snapshotHeaders", inPlace := ["internal/bytealg.Compare"], unfollowed := true, recurses := true, plainKeys := false, apart := false }
def SnapshotHeadersSaid : Prop := snapshotHeadersRow.holds Tryz.pinned (OpenSpec.ofChange snapshotHeadersSpec)

/-- ITS FALSE NEIGHBOUR: 'it returns false'. Refute it at one input. -/
def snapshotHeadersWrong : ChangeSpec := { name := "snapshotHeaders", fn := fun _ => fun
  | [d1, d2, d3] => { results := [.lit (.bool false)], args := [d1, d2, d3] }
  | _ => none }
def SnapshotHeadersWrongFalsely : Prop := snapshotHeadersRow.holds Tryz.pinned (OpenSpec.ofChange snapshotHeadersWrong)

/-- 'forkheadlaw33.SnapshotFull': WHATEVER THE INPUT: true; the input reads as it did. -/
def snapshotFullSpec : ChangeSpec := { name := "snapshotFull", fn := fun _ => fun
  | [d1, d2, d3] => { results := [.lit (.bool true)], args := [d1, d2, d3] }
  | _ => none }
def snapshotFullRow : OpenClaim := { program := "ytnjdpnfglgcjcaagreat", sum := "464d9211beb63c1e655ccb65bbfe0494e43bc1b097abde2c5b1f112da32f2dbb", func := "forkhead/forkheadlaw33.SnapshotFull", spec := "snapshotFull", inPlace := ["internal/bytealg.Compare"], unfollowed := true, recurses := true, plainKeys := false, apart := false }
def SnapshotFullSaid : Prop := snapshotFullRow.holds Tryz.pinned (OpenSpec.ofChange snapshotFullSpec)

/-- ITS FALSE NEIGHBOUR: 'it returns false'. Refute it at one input. -/
def snapshotFullWrong : ChangeSpec := { name := "snapshotFull", fn := fun _ => fun
  | [d1, d2, d3] => { results := [.lit (.bool false)], args := [d1, d2, d3] }
  | _ => none }
def SnapshotFullWrongFalsely : Prop := snapshotFullRow.holds Tryz.pinned (OpenSpec.ofChange snapshotFullWrong)

/-- 'forkheadlaw33.SnapshotLoads': WHATEVER THE INPUT: true; the input reads as it did. -/
def snapshotLoadsSpec : ChangeSpec := { name := "snapshotLoads", fn := fun _ => fun
  | [d] => { results := [.lit (.bool true)], args := [d] }
  | _ => none }
def snapshotLoadsRow : OpenClaim := { program := "ytnjdpnfglgcjcaagreat", sum := "464d9211beb63c1e655ccb65bbfe0494e43bc1b097abde2c5b1f112da32f2dbb", func := "forkhead/forkheadlaw33.SnapshotLoads", spec := "snapshotLoads", inPlace := ["internal/bytealg.Compare"], unfollowed := true, recurses := true, plainKeys := false, apart := false }
def SnapshotLoadsSaid : Prop := snapshotLoadsRow.holds Tryz.pinned (OpenSpec.ofChange snapshotLoadsSpec)

/-- ITS FALSE NEIGHBOUR: 'it returns false'. Refute it at one input. -/
def snapshotLoadsWrong : ChangeSpec := { name := "snapshotLoads", fn := fun _ => fun
  | [d] => { results := [.lit (.bool false)], args := [d] }
  | _ => none }
def SnapshotLoadsWrongFalsely : Prop := snapshotLoadsRow.holds Tryz.pinned (OpenSpec.ofChange snapshotLoadsWrong)

/-- 'forkheadlaw26.StoreSlashed': WHATEVER THE INPUT: true; the input reads as it did. -/
def storeSlashedSpec : ChangeSpec := { name := "storeSlashed", fn := fun _ => fun
  | [d1, d2, d3] => { results := [.lit (.bool true)], args := [d1, d2, d3] }
  | _ => none }
def storeSlashedRow : OpenClaim := { program := "ytnjdpnfglgcjcaagreat", sum := "464d9211beb63c1e655ccb65bbfe0494e43bc1b097abde2c5b1f112da32f2dbb", func := "forkhead/forkheadlaw26.StoreSlashed", spec := "storeSlashed", inPlace := ["slices.overlaps[int]", "internal/bytealg.Compare"], unfollowed := true, recurses := true, plainKeys := false, apart := false }
def StoreSlashedSaid : Prop := storeSlashedRow.holds Tryz.pinned (OpenSpec.ofChange storeSlashedSpec)

/-- ITS FALSE NEIGHBOUR: 'it returns false'. Refute it at one input. -/
def storeSlashedWrong : ChangeSpec := { name := "storeSlashed", fn := fun _ => fun
  | [d1, d2, d3] => { results := [.lit (.bool false)], args := [d1, d2, d3] }
  | _ => none }
def StoreSlashedWrongFalsely : Prop := storeSlashedRow.holds Tryz.pinned (OpenSpec.ofChange storeSlashedWrong)

/-- 'forkheadlaw26.StoreVotes': WHATEVER THE INPUT: true; the input reads as it did. -/
def storeVotesSpec : ChangeSpec := { name := "storeVotes", fn := fun _ => fun
  | [d1, d2, d3, d4] => { results := [.lit (.bool true)], args := [d1, d2, d3, d4] }
  | _ => none }
def storeVotesRow : OpenClaim := { program := "ytnjdpnfglgcjcaagreat", sum := "464d9211beb63c1e655ccb65bbfe0494e43bc1b097abde2c5b1f112da32f2dbb", func := "forkhead/forkheadlaw26.StoreVotes", spec := "storeVotes", inPlace := ["slices.overlaps[int]", "internal/bytealg.Compare", "slices.overlaps[forkhead/api.Table]"], unfollowed := true, recurses := true, plainKeys := false, apart := false }
def StoreVotesSaid : Prop := storeVotesRow.holds Tryz.pinned (OpenSpec.ofChange storeVotesSpec)

/-- ITS FALSE NEIGHBOUR: 'it returns false'. Refute it at one input. -/
def storeVotesWrong : ChangeSpec := { name := "storeVotes", fn := fun _ => fun
  | [d1, d2, d3, d4] => { results := [.lit (.bool false)], args := [d1, d2, d3, d4] }
  | _ => none }
def StoreVotesWrongFalsely : Prop := storeVotesRow.holds Tryz.pinned (OpenSpec.ofChange storeVotesWrong)

/-- 'forkheadlaw26.StoreKeeps': WHATEVER THE INPUT: true; the input reads as it did. -/
def storeKeepsSpec : ChangeSpec := { name := "storeKeeps", fn := fun _ => fun
  | [d1, d2, d3] => { results := [.lit (.bool true)], args := [d1, d2, d3] }
  | _ => none }
def storeKeepsRow : OpenClaim := { program := "ytnjdpnfglgcjcaagreat", sum := "464d9211beb63c1e655ccb65bbfe0494e43bc1b097abde2c5b1f112da32f2dbb", func := "forkhead/forkheadlaw26.StoreKeeps", spec := "storeKeeps", inPlace := ["slices.overlaps[int]", "internal/bytealg.Compare", "slices.overlaps[forkhead/api.Table]"], unfollowed := true, recurses := true, plainKeys := false, apart := false }
def StoreKeepsSaid : Prop := storeKeepsRow.holds Tryz.pinned (OpenSpec.ofChange storeKeepsSpec)

/-- ITS FALSE NEIGHBOUR: 'it returns false'. Refute it at one input. -/
def storeKeepsWrong : ChangeSpec := { name := "storeKeeps", fn := fun _ => fun
  | [d1, d2, d3] => { results := [.lit (.bool false)], args := [d1, d2, d3] }
  | _ => none }
def StoreKeepsWrongFalsely : Prop := storeKeepsRow.holds Tryz.pinned (OpenSpec.ofChange storeKeepsWrong)

/- THE SECOND FORM. 'bulk': how many values and letters a reading holds, each counted each time it is reached (what is shared counts as often as it is met; a slice's spare places count too). A statement '..UptoSaid' is the law's where the arguments, and the package variables that the reading takes, are together of bulk at most 1048576: NARROWER than '..Said'. Prove '..Said' where nothing that the law and all that it calls make is longer than what came in: it says more and counts as full. Else prove '..UptoSaid'. A law counts once. -/
mutual
def uptoBulk {H : Type} : DataW H → Nat
  | .lit (.string bytes) => bytes.length + 1
  | .lit _ => 1
  | .nil => 1
  | .ptr d => uptoBulk d + 1
  | .slice elems spare => uptoBulkAll elems + uptoBulkAll spare + 1
  | .agg parts => uptoBulkAll parts + 1
  | .iface _ d => uptoBulk d + 1
  | .map entries => uptoBulkEntries entries + 1
  | .held _ => 1
def uptoBulkAll {H : Type} : List (DataW H) → Nat
  | [] => 0
  | d :: r => uptoBulk d + uptoBulkAll r
def uptoBulkEntries {H : Type} : List (Lit × DataW H) → Nat
  | [] => 0
  | x :: r => uptoBulkEntry x + uptoBulkEntries r
def uptoBulkEntry {H : Type} : Lit × DataW H → Nat
  | (.string bytes, d) => bytes.length + uptoBulk d + 1
  | (_, d) => uptoBulk d + 1
 end
def uptoSmall : (H : Type) → List (DataW H) → Bool := fun _ ds => decide (uptoBulkAll ds ≤ 1048576)
def OpenSpec.upto (s : _root_.Go.ChangeSpec) : _root_.Go.OpenSpec := { _root_.Go.OpenSpec.ofChange s with cond := some uptoSmall }

/-- 'forkheadlaw32.ImageBack', WHERE WHAT IT READS IS OF BULK AT MOST 1048576: true; the input reads as it did. -/
def imageBackUptoRow : OpenClaim := { program := "ytnjdpnfglgcjcaagreat", sum := "464d9211beb63c1e655ccb65bbfe0494e43bc1b097abde2c5b1f112da32f2dbb", func := "forkhead/forkheadlaw32.ImageBack", spec := "imageBack", inPlace := ["internal/bytealg.Compare"], unfollowed := true, recurses := true, plainKeys := false, apart := false, narrowed := true }
def ImageBackUptoSaid : Prop := imageBackUptoRow.holds Tryz.pinned (OpenSpec.upto imageBackSpec)

/-- 'forkheadlaw32.ImageInvalid', WHERE WHAT IT READS IS OF BULK AT MOST 1048576: true; the input reads as it did. -/
def imageInvalidUptoRow : OpenClaim := { program := "ytnjdpnfglgcjcaagreat", sum := "464d9211beb63c1e655ccb65bbfe0494e43bc1b097abde2c5b1f112da32f2dbb", func := "forkhead/forkheadlaw32.ImageInvalid", spec := "imageInvalid", inPlace := ["internal/bytealg.Compare"], unfollowed := true, recurses := true, plainKeys := false, apart := false, narrowed := true }
def ImageInvalidUptoSaid : Prop := imageInvalidUptoRow.holds Tryz.pinned (OpenSpec.upto imageInvalidSpec)

/-- 'forkheadlaw32.ImageDecodes', WHERE WHAT IT READS IS OF BULK AT MOST 1048576: true; the input reads as it did. -/
def imageDecodesUptoRow : OpenClaim := { program := "ytnjdpnfglgcjcaagreat", sum := "464d9211beb63c1e655ccb65bbfe0494e43bc1b097abde2c5b1f112da32f2dbb", func := "forkhead/forkheadlaw32.ImageDecodes", spec := "imageDecodes", inPlace := ["internal/bytealg.Compare"], unfollowed := true, recurses := true, plainKeys := false, apart := false, narrowed := true }
def ImageDecodesUptoSaid : Prop := imageDecodesUptoRow.holds Tryz.pinned (OpenSpec.upto imageDecodesSpec)

/-- 'forkheadlaw32.ImageChanged', WHERE WHAT IT READS IS OF BULK AT MOST 1048576: true; the input reads as it did. -/
def imageChangedUptoRow : OpenClaim := { program := "ytnjdpnfglgcjcaagreat", sum := "464d9211beb63c1e655ccb65bbfe0494e43bc1b097abde2c5b1f112da32f2dbb", func := "forkhead/forkheadlaw32.ImageChanged", spec := "imageChanged", inPlace := ["internal/bytealg.Compare"], unfollowed := true, recurses := true, plainKeys := false, apart := false, narrowed := true }
def ImageChangedUptoSaid : Prop := imageChangedUptoRow.holds Tryz.pinned (OpenSpec.upto imageChangedSpec)

/-- 'forkheadlaw32.ImageCut', WHERE WHAT IT READS IS OF BULK AT MOST 1048576: true; the input reads as it did. -/
def imageCutUptoRow : OpenClaim := { program := "ytnjdpnfglgcjcaagreat", sum := "464d9211beb63c1e655ccb65bbfe0494e43bc1b097abde2c5b1f112da32f2dbb", func := "forkhead/forkheadlaw32.ImageCut", spec := "imageCut", inPlace := ["internal/bytealg.Compare"], unfollowed := true, recurses := true, plainKeys := false, apart := false, narrowed := true }
def ImageCutUptoSaid : Prop := imageCutUptoRow.holds Tryz.pinned (OpenSpec.upto imageCutSpec)

/-- 'forkheadlaw32.ImageUnique', WHERE WHAT IT READS IS OF BULK AT MOST 1048576: true; the input reads as it did. -/
def imageUniqueUptoRow : OpenClaim := { program := "ytnjdpnfglgcjcaagreat", sum := "464d9211beb63c1e655ccb65bbfe0494e43bc1b097abde2c5b1f112da32f2dbb", func := "forkhead/forkheadlaw32.ImageUnique", spec := "imageUnique", inPlace := ["internal/bytealg.Compare"], unfollowed := true, recurses := true, plainKeys := false, apart := false, narrowed := true }
def ImageUniqueUptoSaid : Prop := imageUniqueUptoRow.holds Tryz.pinned (OpenSpec.upto imageUniqueSpec)

/-- 'forkheadlaw33.SnapshotHeaders', WHERE WHAT IT READS IS OF BULK AT MOST 1048576: true; the input reads as it did. -/
def snapshotHeadersUptoRow : OpenClaim := { program := "ytnjdpnfglgcjcaagreat", sum := "464d9211beb63c1e655ccb65bbfe0494e43bc1b097abde2c5b1f112da32f2dbb", func := "forkhead/forkheadlaw33.SnapshotHeaders", spec := "snapshotHeaders", inPlace := ["internal/bytealg.Compare"], unfollowed := true, recurses := true, plainKeys := false, apart := false, narrowed := true }
def SnapshotHeadersUptoSaid : Prop := snapshotHeadersUptoRow.holds Tryz.pinned (OpenSpec.upto snapshotHeadersSpec)

/-- 'forkheadlaw33.SnapshotFull', WHERE WHAT IT READS IS OF BULK AT MOST 1048576: true; the input reads as it did. -/
def snapshotFullUptoRow : OpenClaim := { program := "ytnjdpnfglgcjcaagreat", sum := "464d9211beb63c1e655ccb65bbfe0494e43bc1b097abde2c5b1f112da32f2dbb", func := "forkhead/forkheadlaw33.SnapshotFull", spec := "snapshotFull", inPlace := ["internal/bytealg.Compare"], unfollowed := true, recurses := true, plainKeys := false, apart := false, narrowed := true }
def SnapshotFullUptoSaid : Prop := snapshotFullUptoRow.holds Tryz.pinned (OpenSpec.upto snapshotFullSpec)

/-- 'forkheadlaw33.SnapshotLoads', WHERE WHAT IT READS IS OF BULK AT MOST 1048576: true; the input reads as it did. -/
def snapshotLoadsUptoRow : OpenClaim := { program := "ytnjdpnfglgcjcaagreat", sum := "464d9211beb63c1e655ccb65bbfe0494e43bc1b097abde2c5b1f112da32f2dbb", func := "forkhead/forkheadlaw33.SnapshotLoads", spec := "snapshotLoads", inPlace := ["internal/bytealg.Compare"], unfollowed := true, recurses := true, plainKeys := false, apart := false, narrowed := true }
def SnapshotLoadsUptoSaid : Prop := snapshotLoadsUptoRow.holds Tryz.pinned (OpenSpec.upto snapshotLoadsSpec)

/-- 'forkheadlaw26.StoreSlashed', WHERE WHAT IT READS IS OF BULK AT MOST 1048576: true; the input reads as it did. -/
def storeSlashedUptoRow : OpenClaim := { program := "ytnjdpnfglgcjcaagreat", sum := "464d9211beb63c1e655ccb65bbfe0494e43bc1b097abde2c5b1f112da32f2dbb", func := "forkhead/forkheadlaw26.StoreSlashed", spec := "storeSlashed", inPlace := ["slices.overlaps[int]", "internal/bytealg.Compare"], unfollowed := true, recurses := true, plainKeys := false, apart := false, narrowed := true }
def StoreSlashedUptoSaid : Prop := storeSlashedUptoRow.holds Tryz.pinned (OpenSpec.upto storeSlashedSpec)

/-- 'forkheadlaw26.StoreVotes', WHERE WHAT IT READS IS OF BULK AT MOST 1048576: true; the input reads as it did. -/
def storeVotesUptoRow : OpenClaim := { program := "ytnjdpnfglgcjcaagreat", sum := "464d9211beb63c1e655ccb65bbfe0494e43bc1b097abde2c5b1f112da32f2dbb", func := "forkhead/forkheadlaw26.StoreVotes", spec := "storeVotes", inPlace := ["slices.overlaps[int]", "internal/bytealg.Compare", "slices.overlaps[forkhead/api.Table]"], unfollowed := true, recurses := true, plainKeys := false, apart := false, narrowed := true }
def StoreVotesUptoSaid : Prop := storeVotesUptoRow.holds Tryz.pinned (OpenSpec.upto storeVotesSpec)

/-- 'forkheadlaw26.StoreKeeps', WHERE WHAT IT READS IS OF BULK AT MOST 1048576: true; the input reads as it did. -/
def storeKeepsUptoRow : OpenClaim := { program := "ytnjdpnfglgcjcaagreat", sum := "464d9211beb63c1e655ccb65bbfe0494e43bc1b097abde2c5b1f112da32f2dbb", func := "forkhead/forkheadlaw26.StoreKeeps", spec := "storeKeeps", inPlace := ["slices.overlaps[int]", "internal/bytealg.Compare", "slices.overlaps[forkhead/api.Table]"], unfollowed := true, recurses := true, plainKeys := false, apart := false, narrowed := true }
def StoreKeepsUptoSaid : Prop := storeKeepsUptoRow.holds Tryz.pinned (OpenSpec.upto storeKeepsSpec)

end Rows
end Go.Proofs.YtnjdpnfglgcjcaaGreat
