/-
  No cell of these rows narrows 'for every input' (looked for: loops, veiled, ifaces, maps, wideKeys, modest, calm, conditions, laid).
  DERIVED. THE GIVEN ROWS OF THIS SEAT. 14 by the template 'for every input the law returns true; each argument reads behind the call as it read before'; 0 by the template 'total and deterministic' (their statements: YtachiahepppajaaTotals.lean).
  GIVEN WITH THE SEED: the statements are not yours to turn. If you find one false, say at which input.
  Laid BY PROGRAM, IN A SANDBOX (cutbox-rows.mjs): the forced cells as the released guide's own fill.sh prints them over the translation e35a851bb4aefb8b… (all of the seat's roots in one cut). By AI agents, Wed Nov 11 2026. No macro, syntax, notation, axiom, sorry.
-/
import Derived.Test.YtachiahepppajaaChecked
import GoSem.Claim
import GoSem.ClaimJoined
import GoSem.ClaimMapViews
import Derived.JoinedTies
import Derived.KernelRfl
namespace Go.Proofs.Ytachiahepppajaa
/- THE CELL 'sum', in the pinned program and in every row, IS THE sha256 OF THE DUMP (.gsa) THAT YtachiahepppajaaProg.lean LOADS. Nothing in Lean hashes anything: it is a label: what it is worth is what the hold of that sum in a sandbox is worth. -/
noncomputable def Try.pinned : Pinned := { name := "ytachiahepppajaa", sum := "e35a851bb4aefb8b18e5164d3c2c9b05042664db646ec011ec293861016ea1d3", checked := Try.checked }
namespace Rows
def none {H : Type} : Left H := { results := [], args := [] }

/-- 'forkheadlaw4.CodecSums': WHATEVER THE INPUT: true; the input reads as it did. -/
def codecSumsSpec : ChangeSpec := { name := "codecSums", fn := fun _ => fun
  | [d] => { results := [.lit (.bool true)], args := [d] }
  | _ => none }
def codecSumsRow : OpenClaim := { program := "ytachiahepppajaa", sum := "e35a851bb4aefb8b18e5164d3c2c9b05042664db646ec011ec293861016ea1d3", func := "forkhead/forkheadlaw4.CodecSums", spec := "codecSums", apart := false }
def CodecSumsSaid : Prop := codecSumsRow.holds Try.pinned (OpenSpec.ofChange codecSumsSpec)

/-- ITS FALSE NEIGHBOUR: 'it returns false'. Refute it at one input. -/
def codecSumsWrong : ChangeSpec := { name := "codecSums", fn := fun _ => fun
  | [d] => { results := [.lit (.bool false)], args := [d] }
  | _ => none }
def CodecSumsWrongFalsely : Prop := codecSumsRow.holds Try.pinned (OpenSpec.ofChange codecSumsWrong)

/-- 'forkheadlaw4.CodecSumsDiffer': WHATEVER THE INPUT: true; the input reads as it did. -/
def codecSumsDifferSpec : ChangeSpec := { name := "codecSumsDiffer", fn := fun _ => fun
  | [d1, d2, d3] => { results := [.lit (.bool true)], args := [d1, d2, d3] }
  | _ => none }
def codecSumsDifferRow : OpenClaim := { program := "ytachiahepppajaa", sum := "e35a851bb4aefb8b18e5164d3c2c9b05042664db646ec011ec293861016ea1d3", func := "forkhead/forkheadlaw4.CodecSumsDiffer", spec := "codecSumsDiffer", apart := false }
def CodecSumsDifferSaid : Prop := codecSumsDifferRow.holds Try.pinned (OpenSpec.ofChange codecSumsDifferSpec)

/-- ITS FALSE NEIGHBOUR: 'it returns false'. Refute it at one input. -/
def codecSumsDifferWrong : ChangeSpec := { name := "codecSumsDiffer", fn := fun _ => fun
  | [d1, d2, d3] => { results := [.lit (.bool false)], args := [d1, d2, d3] }
  | _ => none }
def CodecSumsDifferWrongFalsely : Prop := codecSumsDifferRow.holds Try.pinned (OpenSpec.ofChange codecSumsDifferWrong)

/-- 'forkheadlaw4.CodecAppends': WHATEVER THE INPUT: true; the input reads as it did. -/
def codecAppendsSpec : ChangeSpec := { name := "codecAppends", fn := fun _ => fun
  | [d1, d2, d3, d4, d5, d6] => { results := [.lit (.bool true)], args := [d1, d2, d3, d4, d5, d6] }
  | _ => none }
def codecAppendsRow : OpenClaim := { program := "ytachiahepppajaa", sum := "e35a851bb4aefb8b18e5164d3c2c9b05042664db646ec011ec293861016ea1d3", func := "forkhead/forkheadlaw4.CodecAppends", spec := "codecAppends", apart := false }
def CodecAppendsSaid : Prop := codecAppendsRow.holds Try.pinned (OpenSpec.ofChange codecAppendsSpec)

/-- ITS FALSE NEIGHBOUR: 'it returns false'. Refute it at one input. -/
def codecAppendsWrong : ChangeSpec := { name := "codecAppends", fn := fun _ => fun
  | [d1, d2, d3, d4, d5, d6] => { results := [.lit (.bool false)], args := [d1, d2, d3, d4, d5, d6] }
  | _ => none }
def CodecAppendsWrongFalsely : Prop := codecAppendsRow.holds Try.pinned (OpenSpec.ofChange codecAppendsWrong)

/-- 'forkheadlaw4.CodecSticky': WHATEVER THE INPUT: true; the input reads as it did. -/
def codecStickySpec : ChangeSpec := { name := "codecSticky", fn := fun _ => fun
  | [d1, d2] => { results := [.lit (.bool true)], args := [d1, d2] }
  | _ => none }
def codecStickyRow : OpenClaim := { program := "ytachiahepppajaa", sum := "e35a851bb4aefb8b18e5164d3c2c9b05042664db646ec011ec293861016ea1d3", func := "forkhead/forkheadlaw4.CodecSticky", spec := "codecSticky", apart := false }
def CodecStickySaid : Prop := codecStickyRow.holds Try.pinned (OpenSpec.ofChange codecStickySpec)

/-- ITS FALSE NEIGHBOUR: 'it returns false'. Refute it at one input. -/
def codecStickyWrong : ChangeSpec := { name := "codecSticky", fn := fun _ => fun
  | [d1, d2] => { results := [.lit (.bool false)], args := [d1, d2] }
  | _ => none }
def CodecStickyWrongFalsely : Prop := codecStickyRow.holds Try.pinned (OpenSpec.ofChange codecStickyWrong)

/-- 'forkheadlaw4.CodecBack': WHATEVER THE INPUT: true; the input reads as it did. -/
def codecBackSpec : ChangeSpec := { name := "codecBack", fn := fun _ => fun
  | [d1, d2, d3, d4, d5, d6] => { results := [.lit (.bool true)], args := [d1, d2, d3, d4, d5, d6] }
  | _ => none }
def codecBackRow : OpenClaim := { program := "ytachiahepppajaa", sum := "e35a851bb4aefb8b18e5164d3c2c9b05042664db646ec011ec293861016ea1d3", func := "forkhead/forkheadlaw4.CodecBack", spec := "codecBack", apart := false }
def CodecBackSaid : Prop := codecBackRow.holds Try.pinned (OpenSpec.ofChange codecBackSpec)

/-- ITS FALSE NEIGHBOUR: 'it returns false'. Refute it at one input. -/
def codecBackWrong : ChangeSpec := { name := "codecBack", fn := fun _ => fun
  | [d1, d2, d3, d4, d5, d6] => { results := [.lit (.bool false)], args := [d1, d2, d3, d4, d5, d6] }
  | _ => none }
def CodecBackWrongFalsely : Prop := codecBackRow.holds Try.pinned (OpenSpec.ofChange codecBackWrong)

/-- 'forkheadlaw5.RecordsLists': WHATEVER THE INPUT: true; the input reads as it did. -/
def recordsListsSpec : ChangeSpec := { name := "recordsLists", fn := fun _ => fun
  | [d1, d2] => { results := [.lit (.bool true)], args := [d1, d2] }
  | _ => none }
def recordsListsRow : OpenClaim := { program := "ytachiahepppajaa", sum := "e35a851bb4aefb8b18e5164d3c2c9b05042664db646ec011ec293861016ea1d3", func := "forkhead/forkheadlaw5.RecordsLists", spec := "recordsLists", apart := false }
def RecordsListsSaid : Prop := recordsListsRow.holds Try.pinned (OpenSpec.ofChange recordsListsSpec)

/-- ITS FALSE NEIGHBOUR: 'it returns false'. Refute it at one input. -/
def recordsListsWrong : ChangeSpec := { name := "recordsLists", fn := fun _ => fun
  | [d1, d2] => { results := [.lit (.bool false)], args := [d1, d2] }
  | _ => none }
def RecordsListsWrongFalsely : Prop := recordsListsRow.holds Try.pinned (OpenSpec.ofChange recordsListsWrong)

/-- 'forkheadlaw5.RecordsAttestations': WHATEVER THE INPUT: true; the input reads as it did. -/
def recordsAttestationsSpec : ChangeSpec := { name := "recordsAttestations", fn := fun _ => fun
  | [d] => { results := [.lit (.bool true)], args := [d] }
  | _ => none }
def recordsAttestationsRow : OpenClaim := { program := "ytachiahepppajaa", sum := "e35a851bb4aefb8b18e5164d3c2c9b05042664db646ec011ec293861016ea1d3", func := "forkhead/forkheadlaw5.RecordsAttestations", spec := "recordsAttestations", apart := false }
def RecordsAttestationsSaid : Prop := recordsAttestationsRow.holds Try.pinned (OpenSpec.ofChange recordsAttestationsSpec)

/-- ITS FALSE NEIGHBOUR: 'it returns false'. Refute it at one input. -/
def recordsAttestationsWrong : ChangeSpec := { name := "recordsAttestations", fn := fun _ => fun
  | [d] => { results := [.lit (.bool false)], args := [d] }
  | _ => none }
def RecordsAttestationsWrongFalsely : Prop := recordsAttestationsRow.holds Try.pinned (OpenSpec.ofChange recordsAttestationsWrong)

/-- 'forkheadlaw5.RecordsLimits': WHATEVER THE INPUT: true; the input reads as it did. -/
def recordsLimitsSpec : ChangeSpec := { name := "recordsLimits", fn := fun _ => fun
  | [d] => { results := [.lit (.bool true)], args := [d] }
  | _ => none }
def recordsLimitsRow : OpenClaim := { program := "ytachiahepppajaa", sum := "e35a851bb4aefb8b18e5164d3c2c9b05042664db646ec011ec293861016ea1d3", func := "forkhead/forkheadlaw5.RecordsLimits", spec := "recordsLimits", apart := false }
def RecordsLimitsSaid : Prop := recordsLimitsRow.holds Try.pinned (OpenSpec.ofChange recordsLimitsSpec)

/-- ITS FALSE NEIGHBOUR: 'it returns false'. Refute it at one input. -/
def recordsLimitsWrong : ChangeSpec := { name := "recordsLimits", fn := fun _ => fun
  | [d] => { results := [.lit (.bool false)], args := [d] }
  | _ => none }
def RecordsLimitsWrongFalsely : Prop := recordsLimitsRow.holds Try.pinned (OpenSpec.ofChange recordsLimitsWrong)

/-- 'forkheadlaw5.RecordsSlashings': WHATEVER THE INPUT: true; the input reads as it did. -/
def recordsSlashingsSpec : ChangeSpec := { name := "recordsSlashings", fn := fun _ => fun
  | [d] => { results := [.lit (.bool true)], args := [d] }
  | _ => none }
def recordsSlashingsRow : OpenClaim := { program := "ytachiahepppajaa", sum := "e35a851bb4aefb8b18e5164d3c2c9b05042664db646ec011ec293861016ea1d3", func := "forkhead/forkheadlaw5.RecordsSlashings", spec := "recordsSlashings", apart := false }
def RecordsSlashingsSaid : Prop := recordsSlashingsRow.holds Try.pinned (OpenSpec.ofChange recordsSlashingsSpec)

/-- ITS FALSE NEIGHBOUR: 'it returns false'. Refute it at one input. -/
def recordsSlashingsWrong : ChangeSpec := { name := "recordsSlashings", fn := fun _ => fun
  | [d] => { results := [.lit (.bool false)], args := [d] }
  | _ => none }
def RecordsSlashingsWrongFalsely : Prop := recordsSlashingsRow.holds Try.pinned (OpenSpec.ofChange recordsSlashingsWrong)

/-- 'forkheadlaw5.RecordsTables': WHATEVER THE INPUT: true; the input reads as it did. -/
def recordsTablesSpec : ChangeSpec := { name := "recordsTables", fn := fun _ => fun
  | [d1, d2] => { results := [.lit (.bool true)], args := [d1, d2] }
  | _ => none }
def recordsTablesRow : OpenClaim := { program := "ytachiahepppajaa", sum := "e35a851bb4aefb8b18e5164d3c2c9b05042664db646ec011ec293861016ea1d3", func := "forkhead/forkheadlaw5.RecordsTables", spec := "recordsTables", apart := false }
def RecordsTablesSaid : Prop := recordsTablesRow.holds Try.pinned (OpenSpec.ofChange recordsTablesSpec)

/-- ITS FALSE NEIGHBOUR: 'it returns false'. Refute it at one input. -/
def recordsTablesWrong : ChangeSpec := { name := "recordsTables", fn := fun _ => fun
  | [d1, d2] => { results := [.lit (.bool false)], args := [d1, d2] }
  | _ => none }
def RecordsTablesWrongFalsely : Prop := recordsTablesRow.holds Try.pinned (OpenSpec.ofChange recordsTablesWrong)

/-- 'forkheadlaw5.RecordsBlocks': WHATEVER THE INPUT: true; the input reads as it did. -/
def recordsBlocksSpec : ChangeSpec := { name := "recordsBlocks", fn := fun _ => fun
  | [d1, d2] => { results := [.lit (.bool true)], args := [d1, d2] }
  | _ => none }
def recordsBlocksRow : OpenClaim := { program := "ytachiahepppajaa", sum := "e35a851bb4aefb8b18e5164d3c2c9b05042664db646ec011ec293861016ea1d3", func := "forkhead/forkheadlaw5.RecordsBlocks", spec := "recordsBlocks", apart := false }
def RecordsBlocksSaid : Prop := recordsBlocksRow.holds Try.pinned (OpenSpec.ofChange recordsBlocksSpec)

/-- ITS FALSE NEIGHBOUR: 'it returns false'. Refute it at one input. -/
def recordsBlocksWrong : ChangeSpec := { name := "recordsBlocks", fn := fun _ => fun
  | [d1, d2] => { results := [.lit (.bool false)], args := [d1, d2] }
  | _ => none }
def RecordsBlocksWrongFalsely : Prop := recordsBlocksRow.holds Try.pinned (OpenSpec.ofChange recordsBlocksWrong)

/-- 'forkheadlaw5.RecordsDecodes': WHATEVER THE INPUT: true; the input reads as it did. -/
def recordsDecodesSpec : ChangeSpec := { name := "recordsDecodes", fn := fun _ => fun
  | [d] => { results := [.lit (.bool true)], args := [d] }
  | _ => none }
def recordsDecodesRow : OpenClaim := { program := "ytachiahepppajaa", sum := "e35a851bb4aefb8b18e5164d3c2c9b05042664db646ec011ec293861016ea1d3", func := "forkhead/forkheadlaw5.RecordsDecodes", spec := "recordsDecodes", apart := false }
def RecordsDecodesSaid : Prop := recordsDecodesRow.holds Try.pinned (OpenSpec.ofChange recordsDecodesSpec)

/-- ITS FALSE NEIGHBOUR: 'it returns false'. Refute it at one input. -/
def recordsDecodesWrong : ChangeSpec := { name := "recordsDecodes", fn := fun _ => fun
  | [d] => { results := [.lit (.bool false)], args := [d] }
  | _ => none }
def RecordsDecodesWrongFalsely : Prop := recordsDecodesRow.holds Try.pinned (OpenSpec.ofChange recordsDecodesWrong)

/-- 'forkheadlaw6.ScriptOps': WHATEVER THE INPUT: true; the input reads as it did. -/
def scriptOpsSpec : ChangeSpec := { name := "scriptOps", fn := fun _ => fun
  | [d1, d2] => { results := [.lit (.bool true)], args := [d1, d2] }
  | _ => none }
def scriptOpsRow : OpenClaim := { program := "ytachiahepppajaa", sum := "e35a851bb4aefb8b18e5164d3c2c9b05042664db646ec011ec293861016ea1d3", func := "forkhead/forkheadlaw6.ScriptOps", spec := "scriptOps", apart := false }
def ScriptOpsSaid : Prop := scriptOpsRow.holds Try.pinned (OpenSpec.ofChange scriptOpsSpec)

/-- ITS FALSE NEIGHBOUR: 'it returns false'. Refute it at one input. -/
def scriptOpsWrong : ChangeSpec := { name := "scriptOps", fn := fun _ => fun
  | [d1, d2] => { results := [.lit (.bool false)], args := [d1, d2] }
  | _ => none }
def ScriptOpsWrongFalsely : Prop := scriptOpsRow.holds Try.pinned (OpenSpec.ofChange scriptOpsWrong)

/-- 'forkheadlaw6.ScriptDecodes': WHATEVER THE INPUT: true; the input reads as it did. -/
def scriptDecodesSpec : ChangeSpec := { name := "scriptDecodes", fn := fun _ => fun
  | [d] => { results := [.lit (.bool true)], args := [d] }
  | _ => none }
def scriptDecodesRow : OpenClaim := { program := "ytachiahepppajaa", sum := "e35a851bb4aefb8b18e5164d3c2c9b05042664db646ec011ec293861016ea1d3", func := "forkhead/forkheadlaw6.ScriptDecodes", spec := "scriptDecodes", apart := false }
def ScriptDecodesSaid : Prop := scriptDecodesRow.holds Try.pinned (OpenSpec.ofChange scriptDecodesSpec)

/-- ITS FALSE NEIGHBOUR: 'it returns false'. Refute it at one input. -/
def scriptDecodesWrong : ChangeSpec := { name := "scriptDecodes", fn := fun _ => fun
  | [d] => { results := [.lit (.bool false)], args := [d] }
  | _ => none }
def ScriptDecodesWrongFalsely : Prop := scriptDecodesRow.holds Try.pinned (OpenSpec.ofChange scriptDecodesWrong)

/- THE SECOND FORM. 'bulk': how many values and letters a reading holds, each counted each time it is reached (what is shared counts as often as it is met; a slice's spare places count too). A statement '..UptoSaid' is the law's where the arguments, and the package variables that the reading takes, are together of bulk at most 1048576: NARROWER than '..Said'. Prove '..Said' where nothing that the law and all that it calls make is longer than what came in: it says more and counts as full. Else prove '..UptoSaid'. A law counts once. -/
mutual
def uptoBulk {H : Type} : DataW H → Nat
  | .lit (.string bytes) => bytes.length + 1
  | .lit _ => 1
  | .nil => 1
  | .ptr d => uptoBulk d + 1
  | .slice elems spare => uptoBulkAll elems + uptoBulkAll spare + 1
  | .agg parts => uptoBulkAll parts + 1
  | .iface _ d => uptoBulk d + 1
  | .map entries => uptoBulkEntries entries + 1
  | .held _ => 1
def uptoBulkAll {H : Type} : List (DataW H) → Nat
  | [] => 0
  | d :: r => uptoBulk d + uptoBulkAll r
def uptoBulkEntries {H : Type} : List (Lit × DataW H) → Nat
  | [] => 0
  | x :: r => uptoBulkEntry x + uptoBulkEntries r
def uptoBulkEntry {H : Type} : Lit × DataW H → Nat
  | (.string bytes, d) => bytes.length + uptoBulk d + 1
  | (_, d) => uptoBulk d + 1
 end
def uptoSmall : (H : Type) → List (DataW H) → Bool := fun _ ds => decide (uptoBulkAll ds ≤ 1048576)
def OpenSpec.upto (s : _root_.Go.ChangeSpec) : _root_.Go.OpenSpec := { _root_.Go.OpenSpec.ofChange s with cond := some uptoSmall }

/-- 'forkheadlaw4.CodecSums', WHERE WHAT IT READS IS OF BULK AT MOST 1048576: true; the input reads as it did. -/
def codecSumsUptoRow : OpenClaim := { program := "ytachiahepppajaa", sum := "e35a851bb4aefb8b18e5164d3c2c9b05042664db646ec011ec293861016ea1d3", func := "forkhead/forkheadlaw4.CodecSums", spec := "codecSums", apart := false, narrowed := true }
def CodecSumsUptoSaid : Prop := codecSumsUptoRow.holds Try.pinned (OpenSpec.upto codecSumsSpec)

/-- 'forkheadlaw4.CodecSumsDiffer', WHERE WHAT IT READS IS OF BULK AT MOST 1048576: true; the input reads as it did. -/
def codecSumsDifferUptoRow : OpenClaim := { program := "ytachiahepppajaa", sum := "e35a851bb4aefb8b18e5164d3c2c9b05042664db646ec011ec293861016ea1d3", func := "forkhead/forkheadlaw4.CodecSumsDiffer", spec := "codecSumsDiffer", apart := false, narrowed := true }
def CodecSumsDifferUptoSaid : Prop := codecSumsDifferUptoRow.holds Try.pinned (OpenSpec.upto codecSumsDifferSpec)

/-- 'forkheadlaw4.CodecAppends', WHERE WHAT IT READS IS OF BULK AT MOST 1048576: true; the input reads as it did. -/
def codecAppendsUptoRow : OpenClaim := { program := "ytachiahepppajaa", sum := "e35a851bb4aefb8b18e5164d3c2c9b05042664db646ec011ec293861016ea1d3", func := "forkhead/forkheadlaw4.CodecAppends", spec := "codecAppends", apart := false, narrowed := true }
def CodecAppendsUptoSaid : Prop := codecAppendsUptoRow.holds Try.pinned (OpenSpec.upto codecAppendsSpec)

/-- 'forkheadlaw4.CodecSticky', WHERE WHAT IT READS IS OF BULK AT MOST 1048576: true; the input reads as it did. -/
def codecStickyUptoRow : OpenClaim := { program := "ytachiahepppajaa", sum := "e35a851bb4aefb8b18e5164d3c2c9b05042664db646ec011ec293861016ea1d3", func := "forkhead/forkheadlaw4.CodecSticky", spec := "codecSticky", apart := false, narrowed := true }
def CodecStickyUptoSaid : Prop := codecStickyUptoRow.holds Try.pinned (OpenSpec.upto codecStickySpec)

/-- 'forkheadlaw4.CodecBack', WHERE WHAT IT READS IS OF BULK AT MOST 1048576: true; the input reads as it did. -/
def codecBackUptoRow : OpenClaim := { program := "ytachiahepppajaa", sum := "e35a851bb4aefb8b18e5164d3c2c9b05042664db646ec011ec293861016ea1d3", func := "forkhead/forkheadlaw4.CodecBack", spec := "codecBack", apart := false, narrowed := true }
def CodecBackUptoSaid : Prop := codecBackUptoRow.holds Try.pinned (OpenSpec.upto codecBackSpec)

/-- 'forkheadlaw5.RecordsLists', WHERE WHAT IT READS IS OF BULK AT MOST 1048576: true; the input reads as it did. -/
def recordsListsUptoRow : OpenClaim := { program := "ytachiahepppajaa", sum := "e35a851bb4aefb8b18e5164d3c2c9b05042664db646ec011ec293861016ea1d3", func := "forkhead/forkheadlaw5.RecordsLists", spec := "recordsLists", apart := false, narrowed := true }
def RecordsListsUptoSaid : Prop := recordsListsUptoRow.holds Try.pinned (OpenSpec.upto recordsListsSpec)

/-- 'forkheadlaw5.RecordsAttestations', WHERE WHAT IT READS IS OF BULK AT MOST 1048576: true; the input reads as it did. -/
def recordsAttestationsUptoRow : OpenClaim := { program := "ytachiahepppajaa", sum := "e35a851bb4aefb8b18e5164d3c2c9b05042664db646ec011ec293861016ea1d3", func := "forkhead/forkheadlaw5.RecordsAttestations", spec := "recordsAttestations", apart := false, narrowed := true }
def RecordsAttestationsUptoSaid : Prop := recordsAttestationsUptoRow.holds Try.pinned (OpenSpec.upto recordsAttestationsSpec)

/-- 'forkheadlaw5.RecordsLimits', WHERE WHAT IT READS IS OF BULK AT MOST 1048576: true; the input reads as it did. -/
def recordsLimitsUptoRow : OpenClaim := { program := "ytachiahepppajaa", sum := "e35a851bb4aefb8b18e5164d3c2c9b05042664db646ec011ec293861016ea1d3", func := "forkhead/forkheadlaw5.RecordsLimits", spec := "recordsLimits", apart := false, narrowed := true }
def RecordsLimitsUptoSaid : Prop := recordsLimitsUptoRow.holds Try.pinned (OpenSpec.upto recordsLimitsSpec)

/-- 'forkheadlaw5.RecordsSlashings', WHERE WHAT IT READS IS OF BULK AT MOST 1048576: true; the input reads as it did. -/
def recordsSlashingsUptoRow : OpenClaim := { program := "ytachiahepppajaa", sum := "e35a851bb4aefb8b18e5164d3c2c9b05042664db646ec011ec293861016ea1d3", func := "forkhead/forkheadlaw5.RecordsSlashings", spec := "recordsSlashings", apart := false, narrowed := true }
def RecordsSlashingsUptoSaid : Prop := recordsSlashingsUptoRow.holds Try.pinned (OpenSpec.upto recordsSlashingsSpec)

/-- 'forkheadlaw5.RecordsTables', WHERE WHAT IT READS IS OF BULK AT MOST 1048576: true; the input reads as it did. -/
def recordsTablesUptoRow : OpenClaim := { program := "ytachiahepppajaa", sum := "e35a851bb4aefb8b18e5164d3c2c9b05042664db646ec011ec293861016ea1d3", func := "forkhead/forkheadlaw5.RecordsTables", spec := "recordsTables", apart := false, narrowed := true }
def RecordsTablesUptoSaid : Prop := recordsTablesUptoRow.holds Try.pinned (OpenSpec.upto recordsTablesSpec)

/-- 'forkheadlaw5.RecordsBlocks', WHERE WHAT IT READS IS OF BULK AT MOST 1048576: true; the input reads as it did. -/
def recordsBlocksUptoRow : OpenClaim := { program := "ytachiahepppajaa", sum := "e35a851bb4aefb8b18e5164d3c2c9b05042664db646ec011ec293861016ea1d3", func := "forkhead/forkheadlaw5.RecordsBlocks", spec := "recordsBlocks", apart := false, narrowed := true }
def RecordsBlocksUptoSaid : Prop := recordsBlocksUptoRow.holds Try.pinned (OpenSpec.upto recordsBlocksSpec)

/-- 'forkheadlaw5.RecordsDecodes', WHERE WHAT IT READS IS OF BULK AT MOST 1048576: true; the input reads as it did. -/
def recordsDecodesUptoRow : OpenClaim := { program := "ytachiahepppajaa", sum := "e35a851bb4aefb8b18e5164d3c2c9b05042664db646ec011ec293861016ea1d3", func := "forkhead/forkheadlaw5.RecordsDecodes", spec := "recordsDecodes", apart := false, narrowed := true }
def RecordsDecodesUptoSaid : Prop := recordsDecodesUptoRow.holds Try.pinned (OpenSpec.upto recordsDecodesSpec)

/-- 'forkheadlaw6.ScriptOps', WHERE WHAT IT READS IS OF BULK AT MOST 1048576: true; the input reads as it did. -/
def scriptOpsUptoRow : OpenClaim := { program := "ytachiahepppajaa", sum := "e35a851bb4aefb8b18e5164d3c2c9b05042664db646ec011ec293861016ea1d3", func := "forkhead/forkheadlaw6.ScriptOps", spec := "scriptOps", apart := false, narrowed := true }
def ScriptOpsUptoSaid : Prop := scriptOpsUptoRow.holds Try.pinned (OpenSpec.upto scriptOpsSpec)

/-- 'forkheadlaw6.ScriptDecodes', WHERE WHAT IT READS IS OF BULK AT MOST 1048576: true; the input reads as it did. -/
def scriptDecodesUptoRow : OpenClaim := { program := "ytachiahepppajaa", sum := "e35a851bb4aefb8b18e5164d3c2c9b05042664db646ec011ec293861016ea1d3", func := "forkhead/forkheadlaw6.ScriptDecodes", spec := "scriptDecodes", apart := false, narrowed := true }
def ScriptDecodesUptoSaid : Prop := scriptDecodesUptoRow.holds Try.pinned (OpenSpec.upto scriptDecodesSpec)

end Rows
end Go.Proofs.Ytachiahepppajaa
