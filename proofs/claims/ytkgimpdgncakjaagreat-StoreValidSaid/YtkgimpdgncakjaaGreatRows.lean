/-
  No cell of these rows narrows 'for every input' (looked for: loops, veiled, ifaces, maps, wideKeys, modest, calm, conditions, laid).
  DERIVED. THE GIVEN ROWS OF THIS SEAT. 7 by the template 'for every input the law returns true; each argument reads behind the call as it read before'; 0 by the template 'total and deterministic' (their statements: YtkgimpdgncakjaaGreatTotals.lean).
  GIVEN WITH THE SEED: the statements are not yours to turn. If you find one false, say at which input.
  Laid BY PROGRAM, IN A SANDBOX (cutbox-rows.mjs): the forced cells as the released guide's own fill.sh prints them over the translation a534d89e530da15f… (all of the seat's roots in one cut). By AI agents, Wed Nov 11 2026. No macro, syntax, notation, axiom, sorry.
-/
import Derived.Test.YtkgimpdgncakjaaGreatChecked
import GoSem.Claim
import GoSem.ClaimJoined
import GoSem.ClaimMapViews
import Derived.JoinedTies
import Derived.KernelRfl
namespace Go.Proofs.YtkgimpdgncakjaaGreat
/- THE CELL 'sum', in the pinned program and in every row, IS THE sha256 OF THE DUMP (.gsa) THAT YtkgimpdgncakjaaGreatProg.lean LOADS. Nothing in Lean hashes anything: it is a label: what it is worth is what the hold of that sum in a sandbox is worth. -/
noncomputable def Tryz.pinned : Pinned := { name := "ytkgimpdgncakjaagreat", sum := "a534d89e530da15f03dcc8b784f7e59b93379ad7ab922a3491d94d69cfdefe54", checked := Tryz.checked }
namespace Rows
def none {H : Type} : Left H := { results := [], args := [] }

/-- 'forkheadlaw26.StoreTicks': WHATEVER THE INPUT: true; the input reads as it did. -/
def storeTicksSpec : ChangeSpec := { name := "storeTicks", fn := fun _ => fun
  | [d1, d2] => { results := [.lit (.bool true)], args := [d1, d2] }
  | _ => none }
def storeTicksRow : OpenClaim := { program := "ytkgimpdgncakjaagreat", sum := "a534d89e530da15f03dcc8b784f7e59b93379ad7ab922a3491d94d69cfdefe54", func := "forkhead/forkheadlaw26.StoreTicks", spec := "storeTicks", inPlace := ["internal/bytealg.Compare"], unfollowed := true, recurses := true, plainKeys := false, apart := false }
def StoreTicksSaid : Prop := storeTicksRow.holds Tryz.pinned (OpenSpec.ofChange storeTicksSpec)

/-- ITS FALSE NEIGHBOUR: 'it returns false'. Refute it at one input. -/
def storeTicksWrong : ChangeSpec := { name := "storeTicks", fn := fun _ => fun
  | [d1, d2] => { results := [.lit (.bool false)], args := [d1, d2] }
  | _ => none }
def StoreTicksWrongFalsely : Prop := storeTicksRow.holds Tryz.pinned (OpenSpec.ofChange storeTicksWrong)

/-- 'forkheadlaw26.StoreValid': WHATEVER THE INPUT: true; the input reads as it did. -/
def storeValidSpec : ChangeSpec := { name := "storeValid", fn := fun _ => fun
  | [d1, d2, d3] => { results := [.lit (.bool true)], args := [d1, d2, d3] }
  | _ => none }
def storeValidRow : OpenClaim := { program := "ytkgimpdgncakjaagreat", sum := "a534d89e530da15f03dcc8b784f7e59b93379ad7ab922a3491d94d69cfdefe54", func := "forkhead/forkheadlaw26.StoreValid", spec := "storeValid", inPlace := ["internal/bytealg.Compare"], unfollowed := true, recurses := true, plainKeys := false, apart := false }
def StoreValidSaid : Prop := storeValidRow.holds Tryz.pinned (OpenSpec.ofChange storeValidSpec)

/-- ITS FALSE NEIGHBOUR: 'it returns false'. Refute it at one input. -/
def storeValidWrong : ChangeSpec := { name := "storeValid", fn := fun _ => fun
  | [d1, d2, d3] => { results := [.lit (.bool false)], args := [d1, d2, d3] }
  | _ => none }
def StoreValidWrongFalsely : Prop := storeValidRow.holds Tryz.pinned (OpenSpec.ofChange storeValidWrong)

/-- 'forkheadlaw26.StoreBlocks': WHATEVER THE INPUT: true; the input reads as it did. -/
def storeBlocksSpec : ChangeSpec := { name := "storeBlocks", fn := fun _ => fun
  | [d1, d2] => { results := [.lit (.bool true)], args := [d1, d2] }
  | _ => none }
def storeBlocksRow : OpenClaim := { program := "ytkgimpdgncakjaagreat", sum := "a534d89e530da15f03dcc8b784f7e59b93379ad7ab922a3491d94d69cfdefe54", func := "forkhead/forkheadlaw26.StoreBlocks", spec := "storeBlocks", inPlace := ["internal/bytealg.Compare"], unfollowed := true, recurses := true, plainKeys := false, apart := false }
def StoreBlocksSaid : Prop := storeBlocksRow.holds Tryz.pinned (OpenSpec.ofChange storeBlocksSpec)

/-- ITS FALSE NEIGHBOUR: 'it returns false'. Refute it at one input. -/
def storeBlocksWrong : ChangeSpec := { name := "storeBlocks", fn := fun _ => fun
  | [d1, d2] => { results := [.lit (.bool false)], args := [d1, d2] }
  | _ => none }
def StoreBlocksWrongFalsely : Prop := storeBlocksRow.holds Tryz.pinned (OpenSpec.ofChange storeBlocksWrong)

/-- 'forkheadlaw26.StoreOrphans': WHATEVER THE INPUT: true; the input reads as it did. -/
def storeOrphansSpec : ChangeSpec := { name := "storeOrphans", fn := fun _ => fun
  | [d1, d2] => { results := [.lit (.bool true)], args := [d1, d2] }
  | _ => none }
def storeOrphansRow : OpenClaim := { program := "ytkgimpdgncakjaagreat", sum := "a534d89e530da15f03dcc8b784f7e59b93379ad7ab922a3491d94d69cfdefe54", func := "forkhead/forkheadlaw26.StoreOrphans", spec := "storeOrphans", inPlace := ["internal/bytealg.Compare"], unfollowed := true, recurses := true, plainKeys := false, apart := false }
def StoreOrphansSaid : Prop := storeOrphansRow.holds Tryz.pinned (OpenSpec.ofChange storeOrphansSpec)

/-- ITS FALSE NEIGHBOUR: 'it returns false'. Refute it at one input. -/
def storeOrphansWrong : ChangeSpec := { name := "storeOrphans", fn := fun _ => fun
  | [d1, d2] => { results := [.lit (.bool false)], args := [d1, d2] }
  | _ => none }
def StoreOrphansWrongFalsely : Prop := storeOrphansRow.holds Tryz.pinned (OpenSpec.ofChange storeOrphansWrong)

/-- 'forkheadlaw26.StoreSlashed': WHATEVER THE INPUT: true; the input reads as it did. -/
def storeSlashedSpec : ChangeSpec := { name := "storeSlashed", fn := fun _ => fun
  | [d1, d2, d3] => { results := [.lit (.bool true)], args := [d1, d2, d3] }
  | _ => none }
def storeSlashedRow : OpenClaim := { program := "ytkgimpdgncakjaagreat", sum := "a534d89e530da15f03dcc8b784f7e59b93379ad7ab922a3491d94d69cfdefe54", func := "forkhead/forkheadlaw26.StoreSlashed", spec := "storeSlashed", inPlace := ["slices.overlaps[int]", "internal/bytealg.Compare"], unfollowed := true, recurses := true, plainKeys := false, apart := false }
def StoreSlashedSaid : Prop := storeSlashedRow.holds Tryz.pinned (OpenSpec.ofChange storeSlashedSpec)

/-- ITS FALSE NEIGHBOUR: 'it returns false'. Refute it at one input. -/
def storeSlashedWrong : ChangeSpec := { name := "storeSlashed", fn := fun _ => fun
  | [d1, d2, d3] => { results := [.lit (.bool false)], args := [d1, d2, d3] }
  | _ => none }
def StoreSlashedWrongFalsely : Prop := storeSlashedRow.holds Tryz.pinned (OpenSpec.ofChange storeSlashedWrong)

/-- 'forkheadlaw26.StoreVotes': WHATEVER THE INPUT: true; the input reads as it did. -/
def storeVotesSpec : ChangeSpec := { name := "storeVotes", fn := fun _ => fun
  | [d1, d2, d3, d4] => { results := [.lit (.bool true)], args := [d1, d2, d3, d4] }
  | _ => none }
def storeVotesRow : OpenClaim := { program := "ytkgimpdgncakjaagreat", sum := "a534d89e530da15f03dcc8b784f7e59b93379ad7ab922a3491d94d69cfdefe54", func := "forkhead/forkheadlaw26.StoreVotes", spec := "storeVotes", inPlace := ["slices.overlaps[int]", "internal/bytealg.Compare", "slices.overlaps[forkhead/api.Table]"], unfollowed := true, recurses := true, plainKeys := false, apart := false }
def StoreVotesSaid : Prop := storeVotesRow.holds Tryz.pinned (OpenSpec.ofChange storeVotesSpec)

/-- ITS FALSE NEIGHBOUR: 'it returns false'. Refute it at one input. -/
def storeVotesWrong : ChangeSpec := { name := "storeVotes", fn := fun _ => fun
  | [d1, d2, d3, d4] => { results := [.lit (.bool false)], args := [d1, d2, d3, d4] }
  | _ => none }
def StoreVotesWrongFalsely : Prop := storeVotesRow.holds Tryz.pinned (OpenSpec.ofChange storeVotesWrong)

/-- 'forkheadlaw26.StoreKeeps': WHATEVER THE INPUT: true; the input reads as it did. -/
def storeKeepsSpec : ChangeSpec := { name := "storeKeeps", fn := fun _ => fun
  | [d1, d2, d3] => { results := [.lit (.bool true)], args := [d1, d2, d3] }
  | _ => none }
def storeKeepsRow : OpenClaim := { program := "ytkgimpdgncakjaagreat", sum := "a534d89e530da15f03dcc8b784f7e59b93379ad7ab922a3491d94d69cfdefe54", func := "forkhead/forkheadlaw26.StoreKeeps", spec := "storeKeeps", inPlace := ["slices.overlaps[int]", "internal/bytealg.Compare", "slices.overlaps[forkhead/api.Table]"], unfollowed := true, recurses := true, plainKeys := false, apart := false }
def StoreKeepsSaid : Prop := storeKeepsRow.holds Tryz.pinned (OpenSpec.ofChange storeKeepsSpec)

/-- ITS FALSE NEIGHBOUR: 'it returns false'. Refute it at one input. -/
def storeKeepsWrong : ChangeSpec := { name := "storeKeeps", fn := fun _ => fun
  | [d1, d2, d3] => { results := [.lit (.bool false)], args := [d1, d2, d3] }
  | _ => none }
def StoreKeepsWrongFalsely : Prop := storeKeepsRow.holds Tryz.pinned (OpenSpec.ofChange storeKeepsWrong)

/- THE SECOND FORM. 'bulk': how many values and letters a reading holds, each counted each time it is reached (what is shared counts as often as it is met; a slice's spare places count too). A statement '..UptoSaid' is the law's where the arguments, and the package variables that the reading takes, are together of bulk at most 1048576: NARROWER than '..Said'. Prove '..Said' where nothing that the law and all that it calls make is longer than what came in: it says more and counts as full. Else prove '..UptoSaid'. A law counts once. -/
mutual
def uptoBulk {H : Type} : DataW H → Nat
  | .lit (.string bytes) => bytes.length + 1
  | .lit _ => 1
  | .nil => 1
  | .ptr d => uptoBulk d + 1
  | .slice elems spare => uptoBulkAll elems + uptoBulkAll spare + 1
  | .agg parts => uptoBulkAll parts + 1
  | .iface _ d => uptoBulk d + 1
  | .map entries => uptoBulkEntries entries + 1
  | .held _ => 1
def uptoBulkAll {H : Type} : List (DataW H) → Nat
  | [] => 0
  | d :: r => uptoBulk d + uptoBulkAll r
def uptoBulkEntries {H : Type} : List (Lit × DataW H) → Nat
  | [] => 0
  | x :: r => uptoBulkEntry x + uptoBulkEntries r
def uptoBulkEntry {H : Type} : Lit × DataW H → Nat
  | (.string bytes, d) => bytes.length + uptoBulk d + 1
  | (_, d) => uptoBulk d + 1
 end
def uptoSmall : (H : Type) → List (DataW H) → Bool := fun _ ds => decide (uptoBulkAll ds ≤ 1048576)
def OpenSpec.upto (s : _root_.Go.ChangeSpec) : _root_.Go.OpenSpec := { _root_.Go.OpenSpec.ofChange s with cond := some uptoSmall }

/-- 'forkheadlaw26.StoreTicks', WHERE WHAT IT READS IS OF BULK AT MOST 1048576: true; the input reads as it did. -/
def storeTicksUptoRow : OpenClaim := { program := "ytkgimpdgncakjaagreat", sum := "a534d89e530da15f03dcc8b784f7e59b93379ad7ab922a3491d94d69cfdefe54", func := "forkhead/forkheadlaw26.StoreTicks", spec := "storeTicks", inPlace := ["internal/bytealg.Compare"], unfollowed := true, recurses := true, plainKeys := false, apart := false, narrowed := true }
def StoreTicksUptoSaid : Prop := storeTicksUptoRow.holds Tryz.pinned (OpenSpec.upto storeTicksSpec)

/-- 'forkheadlaw26.StoreValid', WHERE WHAT IT READS IS OF BULK AT MOST 1048576: true; the input reads as it did. -/
def storeValidUptoRow : OpenClaim := { program := "ytkgimpdgncakjaagreat", sum := "a534d89e530da15f03dcc8b784f7e59b93379ad7ab922a3491d94d69cfdefe54", func := "forkhead/forkheadlaw26.StoreValid", spec := "storeValid", inPlace := ["internal/bytealg.Compare"], unfollowed := true, recurses := true, plainKeys := false, apart := false, narrowed := true }
def StoreValidUptoSaid : Prop := storeValidUptoRow.holds Tryz.pinned (OpenSpec.upto storeValidSpec)

/-- 'forkheadlaw26.StoreBlocks', WHERE WHAT IT READS IS OF BULK AT MOST 1048576: true; the input reads as it did. -/
def storeBlocksUptoRow : OpenClaim := { program := "ytkgimpdgncakjaagreat", sum := "a534d89e530da15f03dcc8b784f7e59b93379ad7ab922a3491d94d69cfdefe54", func := "forkhead/forkheadlaw26.StoreBlocks", spec := "storeBlocks", inPlace := ["internal/bytealg.Compare"], unfollowed := true, recurses := true, plainKeys := false, apart := false, narrowed := true }
def StoreBlocksUptoSaid : Prop := storeBlocksUptoRow.holds Tryz.pinned (OpenSpec.upto storeBlocksSpec)

/-- 'forkheadlaw26.StoreOrphans', WHERE WHAT IT READS IS OF BULK AT MOST 1048576: true; the input reads as it did. -/
def storeOrphansUptoRow : OpenClaim := { program := "ytkgimpdgncakjaagreat", sum := "a534d89e530da15f03dcc8b784f7e59b93379ad7ab922a3491d94d69cfdefe54", func := "forkhead/forkheadlaw26.StoreOrphans", spec := "storeOrphans", inPlace := ["internal/bytealg.Compare"], unfollowed := true, recurses := true, plainKeys := false, apart := false, narrowed := true }
def StoreOrphansUptoSaid : Prop := storeOrphansUptoRow.holds Tryz.pinned (OpenSpec.upto storeOrphansSpec)

/-- 'forkheadlaw26.StoreSlashed', WHERE WHAT IT READS IS OF BULK AT MOST 1048576: true; the input reads as it did. -/
def storeSlashedUptoRow : OpenClaim := { program := "ytkgimpdgncakjaagreat", sum := "a534d89e530da15f03dcc8b784f7e59b93379ad7ab922a3491d94d69cfdefe54", func := "forkhead/forkheadlaw26.StoreSlashed", spec := "storeSlashed", inPlace := ["slices.overlaps[int]", "internal/bytealg.Compare"], unfollowed := true, recurses := true, plainKeys := false, apart := false, narrowed := true }
def StoreSlashedUptoSaid : Prop := storeSlashedUptoRow.holds Tryz.pinned (OpenSpec.upto storeSlashedSpec)

/-- 'forkheadlaw26.StoreVotes', WHERE WHAT IT READS IS OF BULK AT MOST 1048576: true; the input reads as it did. -/
def storeVotesUptoRow : OpenClaim := { program := "ytkgimpdgncakjaagreat", sum := "a534d89e530da15f03dcc8b784f7e59b93379ad7ab922a3491d94d69cfdefe54", func := "forkhead/forkheadlaw26.StoreVotes", spec := "storeVotes", inPlace := ["slices.overlaps[int]", "internal/bytealg.Compare", "slices.overlaps[forkhead/api.Table]"], unfollowed := true, recurses := true, plainKeys := false, apart := false, narrowed := true }
def StoreVotesUptoSaid : Prop := storeVotesUptoRow.holds Tryz.pinned (OpenSpec.upto storeVotesSpec)

/-- 'forkheadlaw26.StoreKeeps', WHERE WHAT IT READS IS OF BULK AT MOST 1048576: true; the input reads as it did. -/
def storeKeepsUptoRow : OpenClaim := { program := "ytkgimpdgncakjaagreat", sum := "a534d89e530da15f03dcc8b784f7e59b93379ad7ab922a3491d94d69cfdefe54", func := "forkhead/forkheadlaw26.StoreKeeps", spec := "storeKeeps", inPlace := ["slices.overlaps[int]", "internal/bytealg.Compare", "slices.overlaps[forkhead/api.Table]"], unfollowed := true, recurses := true, plainKeys := false, apart := false, narrowed := true }
def StoreKeepsUptoSaid : Prop := storeKeepsUptoRow.holds Tryz.pinned (OpenSpec.upto storeKeepsSpec)

end Rows
end Go.Proofs.YtkgimpdgncakjaaGreat
