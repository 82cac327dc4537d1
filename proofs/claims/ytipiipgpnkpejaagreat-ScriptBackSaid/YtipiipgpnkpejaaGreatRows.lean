/-
  No cell of these rows narrows 'for every input' (looked for: loops, veiled, ifaces, maps, wideKeys, modest, calm, conditions, laid).
  DERIVED. THE GIVEN ROWS OF THIS SEAT. 4 by the template 'for every input the law returns true; each argument reads behind the call as it read before'; 0 by the template 'total and deterministic' (their statements: YtipiipgpnkpejaaGreatTotals.lean).
  GIVEN WITH THE SEED: the statements are not yours to turn. If you find one false, say at which input.
  Laid BY PROGRAM, IN A SANDBOX (cutbox-rows.mjs): the forced cells as the released guide's own fill.sh prints them over the translation 49251c04e03ea1ea… (all of the seat's roots in one cut). By AI agents, Wed Nov 11 2026. No macro, syntax, notation, axiom, sorry.
-/
import Derived.Test.YtipiipgpnkpejaaGreatChecked
import GoSem.Claim
import GoSem.ClaimJoined
import GoSem.ClaimMapViews
import Derived.JoinedTies
import Derived.KernelRfl
namespace Go.Proofs.YtipiipgpnkpejaaGreat
/- THE CELL 'sum', in the pinned program and in every row, IS THE sha256 OF THE DUMP (.gsa) THAT YtipiipgpnkpejaaGreatProg.lean LOADS. Nothing in Lean hashes anything: it is a label: what it is worth is what the hold of that sum in a sandbox is worth. -/
noncomputable def Tryz.pinned : Pinned := { name := "ytipiipgpnkpejaagreat", sum := "49251c04e03ea1ea99f868ab73a1647ef336194032506576bacd447ad4b4bdae", checked := Tryz.checked }
namespace Rows
def none {H : Type} : Left H := { results := [], args := [] }

/-- 'forkheadlaw5.RecordsChanged': WHATEVER THE INPUT: true; the input reads as it did. -/
def recordsChangedSpec : ChangeSpec := { name := "recordsChanged", fn := fun _ => fun
  | [d1, d2, d3, d4] => { results := [.lit (.bool true)], args := [d1, d2, d3, d4] }
  | _ => none }
def recordsChangedRow : OpenClaim := { program := "ytipiipgpnkpejaagreat", sum := "49251c04e03ea1ea99f868ab73a1647ef336194032506576bacd447ad4b4bdae", func := "forkhead/forkheadlaw5.RecordsChanged", spec := "recordsChanged", recurses := true, apart := false }
def RecordsChangedSaid : Prop := recordsChangedRow.holds Tryz.pinned (OpenSpec.ofChange recordsChangedSpec)

/-- ITS FALSE NEIGHBOUR: 'it returns false'. Refute it at one input. -/
def recordsChangedWrong : ChangeSpec := { name := "recordsChanged", fn := fun _ => fun
  | [d1, d2, d3, d4] => { results := [.lit (.bool false)], args := [d1, d2, d3, d4] }
  | _ => none }
def RecordsChangedWrongFalsely : Prop := recordsChangedRow.holds Tryz.pinned (OpenSpec.ofChange recordsChangedWrong)

/-- 'forkheadlaw6.ScriptExtra': WHATEVER THE INPUT: true; the input reads as it did. -/
def scriptExtraSpec : ChangeSpec := { name := "scriptExtra", fn := fun _ => fun
  | [d1, d2, d3] => { results := [.lit (.bool true)], args := [d1, d2, d3] }
  | _ => none }
def scriptExtraRow : OpenClaim := { program := "ytipiipgpnkpejaagreat", sum := "49251c04e03ea1ea99f868ab73a1647ef336194032506576bacd447ad4b4bdae", func := "forkhead/forkheadlaw6.ScriptExtra", spec := "scriptExtra", recurses := true, apart := false }
def ScriptExtraSaid : Prop := scriptExtraRow.holds Tryz.pinned (OpenSpec.ofChange scriptExtraSpec)

/-- ITS FALSE NEIGHBOUR: 'it returns false'. Refute it at one input. -/
def scriptExtraWrong : ChangeSpec := { name := "scriptExtra", fn := fun _ => fun
  | [d1, d2, d3] => { results := [.lit (.bool false)], args := [d1, d2, d3] }
  | _ => none }
def ScriptExtraWrongFalsely : Prop := scriptExtraRow.holds Tryz.pinned (OpenSpec.ofChange scriptExtraWrong)

/-- 'forkheadlaw6.ScriptBack': WHATEVER THE INPUT: true; the input reads as it did. -/
def scriptBackSpec : ChangeSpec := { name := "scriptBack", fn := fun _ => fun
  | [d1, d2] => { results := [.lit (.bool true)], args := [d1, d2] }
  | _ => none }
def scriptBackRow : OpenClaim := { program := "ytipiipgpnkpejaagreat", sum := "49251c04e03ea1ea99f868ab73a1647ef336194032506576bacd447ad4b4bdae", func := "forkhead/forkheadlaw6.ScriptBack", spec := "scriptBack", recurses := true, apart := false }
def ScriptBackSaid : Prop := scriptBackRow.holds Tryz.pinned (OpenSpec.ofChange scriptBackSpec)

/-- ITS FALSE NEIGHBOUR: 'it returns false'. Refute it at one input. -/
def scriptBackWrong : ChangeSpec := { name := "scriptBack", fn := fun _ => fun
  | [d1, d2] => { results := [.lit (.bool false)], args := [d1, d2] }
  | _ => none }
def ScriptBackWrongFalsely : Prop := scriptBackRow.holds Tryz.pinned (OpenSpec.ofChange scriptBackWrong)

/-- 'forkheadlaw6.ScriptEdited': WHATEVER THE INPUT: true; the input reads as it did. -/
def scriptEditedSpec : ChangeSpec := { name := "scriptEdited", fn := fun _ => fun
  | [d1, d2, d3] => { results := [.lit (.bool true)], args := [d1, d2, d3] }
  | _ => none }
def scriptEditedRow : OpenClaim := { program := "ytipiipgpnkpejaagreat", sum := "49251c04e03ea1ea99f868ab73a1647ef336194032506576bacd447ad4b4bdae", func := "forkhead/forkheadlaw6.ScriptEdited", spec := "scriptEdited", recurses := true, apart := false }
def ScriptEditedSaid : Prop := scriptEditedRow.holds Tryz.pinned (OpenSpec.ofChange scriptEditedSpec)

/-- ITS FALSE NEIGHBOUR: 'it returns false'. Refute it at one input. -/
def scriptEditedWrong : ChangeSpec := { name := "scriptEdited", fn := fun _ => fun
  | [d1, d2, d3] => { results := [.lit (.bool false)], args := [d1, d2, d3] }
  | _ => none }
def ScriptEditedWrongFalsely : Prop := scriptEditedRow.holds Tryz.pinned (OpenSpec.ofChange scriptEditedWrong)

/- THE SECOND FORM. 'bulk': how many values and letters a reading holds, each counted each time it is reached (what is shared counts as often as it is met; a slice's spare places count too). A statement '..UptoSaid' is the law's where the arguments, and the package variables that the reading takes, are together of bulk at most 1048576: NARROWER than '..Said'. Prove '..Said' where nothing that the law and all that it calls make is longer than what came in: it says more and counts as full. Else prove '..UptoSaid'. A law counts once. -/
mutual
def uptoBulk {H : Type} : DataW H → Nat
  | .lit (.string bytes) => bytes.length + 1
  | .lit _ => 1
  | .nil => 1
  | .ptr d => uptoBulk d + 1
  | .slice elems spare => uptoBulkAll elems + uptoBulkAll spare + 1
  | .agg parts => uptoBulkAll parts + 1
  | .iface _ d => uptoBulk d + 1
  | .map entries => uptoBulkEntries entries + 1
  | .held _ => 1
def uptoBulkAll {H : Type} : List (DataW H) → Nat
  | [] => 0
  | d :: r => uptoBulk d + uptoBulkAll r
def uptoBulkEntries {H : Type} : List (Lit × DataW H) → Nat
  | [] => 0
  | x :: r => uptoBulkEntry x + uptoBulkEntries r
def uptoBulkEntry {H : Type} : Lit × DataW H → Nat
  | (.string bytes, d) => bytes.length + uptoBulk d + 1
  | (_, d) => uptoBulk d + 1
 end
def uptoSmall : (H : Type) → List (DataW H) → Bool := fun _ ds => decide (uptoBulkAll ds ≤ 1048576)
def OpenSpec.upto (s : _root_.Go.ChangeSpec) : _root_.Go.OpenSpec := { _root_.Go.OpenSpec.ofChange s with cond := some uptoSmall }

/-- 'forkheadlaw5.RecordsChanged', WHERE WHAT IT READS IS OF BULK AT MOST 1048576: true; the input reads as it did. -/
def recordsChangedUptoRow : OpenClaim := { program := "ytipiipgpnkpejaagreat", sum := "49251c04e03ea1ea99f868ab73a1647ef336194032506576bacd447ad4b4bdae", func := "forkhead/forkheadlaw5.RecordsChanged", spec := "recordsChanged", recurses := true, apart := false, narrowed := true }
def RecordsChangedUptoSaid : Prop := recordsChangedUptoRow.holds Tryz.pinned (OpenSpec.upto recordsChangedSpec)

/-- 'forkheadlaw6.ScriptExtra', WHERE WHAT IT READS IS OF BULK AT MOST 1048576: true; the input reads as it did. -/
def scriptExtraUptoRow : OpenClaim := { program := "ytipiipgpnkpejaagreat", sum := "49251c04e03ea1ea99f868ab73a1647ef336194032506576bacd447ad4b4bdae", func := "forkhead/forkheadlaw6.ScriptExtra", spec := "scriptExtra", recurses := true, apart := false, narrowed := true }
def ScriptExtraUptoSaid : Prop := scriptExtraUptoRow.holds Tryz.pinned (OpenSpec.upto scriptExtraSpec)

/-- 'forkheadlaw6.ScriptBack', WHERE WHAT IT READS IS OF BULK AT MOST 1048576: true; the input reads as it did. -/
def scriptBackUptoRow : OpenClaim := { program := "ytipiipgpnkpejaagreat", sum := "49251c04e03ea1ea99f868ab73a1647ef336194032506576bacd447ad4b4bdae", func := "forkhead/forkheadlaw6.ScriptBack", spec := "scriptBack", recurses := true, apart := false, narrowed := true }
def ScriptBackUptoSaid : Prop := scriptBackUptoRow.holds Tryz.pinned (OpenSpec.upto scriptBackSpec)

/-- 'forkheadlaw6.ScriptEdited', WHERE WHAT IT READS IS OF BULK AT MOST 1048576: true; the input reads as it did. -/
def scriptEditedUptoRow : OpenClaim := { program := "ytipiipgpnkpejaagreat", sum := "49251c04e03ea1ea99f868ab73a1647ef336194032506576bacd447ad4b4bdae", func := "forkhead/forkheadlaw6.ScriptEdited", spec := "scriptEdited", recurses := true, apart := false, narrowed := true }
def ScriptEditedUptoSaid : Prop := scriptEditedUptoRow.holds Tryz.pinned (OpenSpec.upto scriptEditedSpec)

end Rows
end Go.Proofs.YtipiipgpnkpejaaGreat
