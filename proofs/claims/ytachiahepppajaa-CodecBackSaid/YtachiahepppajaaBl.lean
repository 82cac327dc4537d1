/-
  The abstract walk, part 21: bytes and numbers as cells. It holds of any program.
-/
import Derived.Test.YtachiahepppajaaBk
import Derived.Laws.BitsLemmas
namespace Go.FH
set_option linter.unusedVariables false
set_option linter.unusedSimpArgs false
open Go Go.RowKit

/-- Bytes as elements. -/
def bts (bs : List UInt8) : List (List AV) := bs.map fun b => [.int .u8 (b.toNat : Int)]
/-- Numbers as elements. -/
def nums (k : IntKind) (ns : List Int) : List (List AV) := ns.map fun n => [.int k n]
@[simp] theorem length_bts (bs : List UInt8) : (bts bs).length = bs.length := by simp [bts]
@[simp] theorem length_nums (k : IntKind) (ns : List Int) : (nums k ns).length = ns.length := by simp [nums]
theorem Pu_bts (bs : List UInt8) : PuLL (bts bs) := by
  rw [PuLL_iff]; intro x hx
  obtain ⟨b, _, rfl⟩ := List.mem_map.1 hx
  exact ⟨trivial, trivial⟩
theorem Pu_nums (k : IntKind) (ns : List Int) : PuLL (nums k ns) := by
  rw [PuLL_iff]; intro x hx
  obtain ⟨b, _, rfl⟩ := List.mem_map.1 hx
  exact ⟨trivial, trivial⟩
theorem renLL_bts (ρ : Nat → Nat) (bs : List UInt8) : renLL ρ (bts bs) = bts bs := (Pu_bts bs).ren ρ
theorem fzLL_bts (σ : St) (zs : List Nat) (bs : List UInt8) : fzLL σ zs (bts bs) = bts bs := (Pu_bts bs).fz σ zs
theorem renLL_nums (ρ : Nat → Nat) (k : IntKind) (ns : List Int) : renLL ρ (nums k ns) = nums k ns := (Pu_nums k ns).ren ρ
theorem fzLL_nums (σ : St) (zs : List Nat) (k : IntKind) (ns : List Int) : fzLL σ zs (nums k ns) = nums k ns := (Pu_nums k ns).fz σ zs
theorem getD_bts {bs : List UInt8} {i : Nat} (h : i < bs.length) : (bts bs).getD i [] = [.int .u8 (bs[i].toNat : Int)] := by
  simp [bts, List.getD_eq_getElem?_getD, h]
theorem getD_nums {k : IntKind} {ns : List Int} {i : Nat} (h : i < ns.length) : (nums k ns).getD i [] = [.int k ns[i]] := by
  simp [nums, List.getD_eq_getElem?_getD, h]
theorem fzLL_append (σ : St) (zs : List Nat) : ∀ a b, fzLL σ zs (a ++ b) = fzLL σ zs a ++ fzLL σ zs b
  | [], b => rfl
  | x :: a, b => by simp only [List.cons_append, fzLL, fzLL_append σ zs a b]
theorem renLL_append (ρ : Nat → Nat) : ∀ a b, renLL ρ (a ++ b) = renLL ρ a ++ renLL ρ b
  | [], b => rfl
  | x :: a, b => by simp only [List.cons_append, renLL, renLL_append ρ a b]
theorem bts_join (a b : List UInt8) : bts a ++ bts b = bts (a ++ b) := by simp [bts]
theorem bts_one (b : UInt8) : [[AV.int .u8 (b.toNat : Int)]] = bts [b] := rfl
theorem all_isByte (bs : List UInt8) : (bts bs).all isByte = true := by simp [bts, isByte]
theorem map_byOf (bs : List UInt8) : (bts bs).map byOf = bs := by
  simp only [bts, List.map_map]
  conv => rhs; rw [← List.map_id bs]
  apply List.map_congr_left
  intro b _
  simp [byOf]
theorem rdB_sl (σ : St) (e : Nat) (cl : Bool) (xs : List (List AV)) : rdB σ (.sl e cl xs) = rdS σ 1 (.sl e cl xs) := rfl
theorem rdB_hs (σ : St) (e id off len : Nat) : rdB σ (.hs e id off len) = rdS σ 1 (.hs e id off len) := rfl
theorem rdB_va (σ : St) (e id off len : Nat) : rdB σ (.va e id off len) = rdS σ 1 (.va e id off len) := rfl
theorem bts_nil : bts [] = [] := rfl
theorem bts_append (a b : List UInt8) : bts (a ++ b) = bts a ++ bts b := by simp [bts]
theorem bts_eq_nil {bs : List UInt8} : bts bs = [] ↔ bs = [] := by simp [bts]
theorem bts_cons (b : UInt8) (bs : List UInt8) : bts (b :: bs) = [.int .u8 (b.toNat : Int)] :: bts bs := rfl
theorem bts_take (n : Nat) (bs : List UInt8) : (bts bs).take n = bts (bs.take n) := by simp [bts, List.map_take]
theorem bts_drop (n : Nat) (bs : List UInt8) : (bts bs).drop n = bts (bs.drop n) := by simp [bts, List.map_drop]
theorem bts_set (bs : List UInt8) (i : Nat) (b : UInt8) : (bts bs).set i [.int .u8 (b.toNat : Int)] = bts (bs.set i b) := by simp [bts, List.map_set]
/-- A byte that a number is turned into. -/
def byt (n : Int) : UInt8 := UInt8.ofNat (IntKind.u8.wrap n).toNat
theorem wrap_byt (n : Int) : ((byt n).toNat : Int) = IntKind.u8.wrap n := by
  unfold byt
  have h1 : 0 ≤ IntKind.u8.wrap n ∧ IntKind.u8.wrap n < 256 := by
    rw [IntKind.wrap_u8]; omega
  simp only [UInt8.toNat_ofNat']
  omega
theorem bts_wrap (n : Int) : [[AV.int .u8 (IntKind.u8.wrap n)]] = bts [byt n] := by simp only [bts, List.map, wrap_byt]
theorem cast_lit (n : Nat) : ((no_index (OfNat.ofNat n) : Nat) : Int) = OfNat.ofNat n := rfl
theorem wrap_i64_in {n : Int} (h1 : -9223372036854775808 ≤ n) (h2 : n ≤ 9223372036854775807) : IntKind.i64.wrap n = n := by rw [IntKind.wrap_i64]; omega
theorem wrap_i64_succ {i n : Nat} (h1 : i < n) (h2 : n ≤ 9223372036854775807) : IntKind.i64.wrap ((i : Int) + 1) = ((i + 1 : Nat) : Int) := by rw [wrap_i64_in (by omega) (by omega)]; rfl
theorem wrap_u64 (n : Int) : IntKind.u64.wrap n = n % 18446744073709551616 := by simp [IntKind.wrap, IntKind.bits, IntKind.signed]
theorem wrap_u64_in {n : Int} (h1 : 0 ≤ n) (h2 : n < 18446744073709551616) : IntKind.u64.wrap n = n := by rw [wrap_u64]; omega
end Go.FH
