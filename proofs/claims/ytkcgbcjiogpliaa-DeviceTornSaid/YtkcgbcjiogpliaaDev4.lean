/-
  Contracts of package device: the torn Write.
-/
import Derived.Test.YtkcgbcjiogpliaaDev3
namespace Go.Proofs.Ytkcgbcjiogpliaa
open Go.RowKit Go.FH
set_option linter.unusedVariables false
set_option linter.unusedSimpArgs false

theorem Sl.hi8 {w : World} {S : Nat → Prop} {b off n cap : Nat} {bs : List UInt8} (h : Sl w S (some ⟨b, off, none⟩) n cap (u8l bs)) (j : Nat) (hj : j ≤ n) : Sl w S (some ⟨b, off, none⟩) j cap (u8l (bs.take j)) := by
  rw [← u8l_take]; exact h.hi j hj
theorem cutA_zero (b o cap : Nat) : cutA (some ⟨b, o, none⟩) 0 cap 1 = some ⟨b, o, none⟩ := by
  unfold cutA
  split <;> simp [addr_add]
set_option maxHeartbeats 2000000 in
theorem write_torn (p gb cap : Nat) (d : Dv) (a : Nat) (ad : Option Addr) (n c : Nat) (S : Nat → Prop) (xs : List UInt8) (w : World) (h : DevAt w p gb cap d) (hc : d.crashed = false)
    (hs : Sl w S ad n c (u8l xs)) (hn0 : 0 < n) (hfit : a + secs n ≤ d.bs.length / 64) (hp : d.planned = true) (hw0 : d.wait = 0) :
    Calls Try.prog 28 #[.pointer (some ⟨p, 0, none⟩), .int .i64 a, .slice ad n c] w
      (DevWrote w p gb cap { d with crashed := true, wait := 0, bs := putAt d.bs (a * 64) ((fullOf xs).take (min d.keep (secs n) * 64)) } (.int .i64 24)) := by
  obtain ⟨c0, c1, c2, c3, c4, cf⟩ := h.cells
  rw [hc] at c1
  rw [hp] at c2
  rw [hw0] at c3
  have hlt := h.lt.1
  have hltg := h.lt.2
  have hsm := h.small
  have hlc := h.le
  have hmax := hs.max
  have hlen := hs.len
  rw [length_u8l] at hlen
  have hkp := h.keep
  have hne := h.ne
  have hne' : gb ≠ p := fun e => hne e.symm
  obtain ⟨cur, hr, hcs, htk⟩ := h.row
  unfold secs at hfit
  have hx := exist_any p gb cap d a (((n + 63) / 64 : Nat) : Int) w h (by omega) (by omega) (by omega) (by omega)
  have he : existB d (a : Int) (((n + 63) / 64 : Nat) : Int) = true := by simp [existB]; omega
  rw [he] at hx
  have HX := Lib.hid hx
  have HS := Lib.hid hs
  have HD := Lib.hid h
  have hq0 : 0 < (n + 63) / 64 := by omega
  have HL := Lib.hid hlen
  have hq : (n + 63) / 64 = secs n := rfl
  have hqn : n ≤ (n + 63) / 64 * 64 := by omega
  have e1 : ((((n : Int) + 64) - 1) / 64) = (((n + 63) / 64 : Nat) : Int) := by omega
  have hcl : ¬ cap = a * 64 := by omega
  have hfl : (fullOf xs).length = (n + 63) / 64 * 64 := by rw [length_fullOf, hlen]; rfl
  have hq6 : (n + 63) / 64 * 64 ≤ 4000000 := by omega
  have hmm : min (min d.keep ((n + 63) / 64) * 64) (d.bs.length - a * 64) = min d.keep ((n + 63) / 64) * 64 := by omega
  have hml : ((fullOf xs).take (min d.keep ((n + 63) / 64) * 64)).length = min d.keep ((n + 63) / 64) * 64 := by rw [List.length_take, hfl]; omega
  have hfit' : a * 64 + ((fullOf xs).take (min d.keep ((n + 63) / 64) * 64)).length ≤ d.bs.length := by rw [hml]; omega
  have HF := Lib.hid hfl
  have HR := Lib.hid hr
  have HT := Lib.hid htk
  have HC := Lib.hid hcs
  have HM := Lib.hid hmm
  have HML := Lib.hid hml
  have HG := Lib.hid hfit'
  have hmk : ((if (n + 63) / 64 < d.keep then (((n + 63) / 64 : Nat) : Int) else (d.keep : Int)) * 64).toNat = min d.keep ((n + 63) / 64) * 64 := by split <;> omega
  have HMT := Lib.hid hmk
  clear hmk
  have hmq : min d.keep ((n + 63) / 64) ≤ (n + 63) / 64 := by omega
  rw [← hq]
  clear hfl hr htk hcs hmm hfit' hml
  generalize min d.keep ((n + 63) / 64) = m at *
  generalize (n + 63) / 64 = q at *
  have HQ := Lib.hid hq
  clear h hs hx he hlen hc hq
  clear hp hw0
  generalize hN : d.bs.length = N at *
  have HN := Lib.hid hN
  clear hN
  go_enter Try.func28, Try.ntmps28
  go_wp2_with (first | (go_at_call 43; refine HX.out.mono ?_; rintro e w' ⟨rfl, rfl⟩) | (refine copy_guard ?_; refine wl_copy rfl _ _ 48 48 rfl Try.underlying48 hsz8 (g := w.heap.size) (off := 0) (dLen := q * 64) (dCap := q * 64) (sp := ad) (sLen := n) (sCap := c) (by simp [Act.eval]) (by simp [Act.eval]) (rowOf?_alloc_at _ _ _ _ rfl) (HS.out.below ((Below.refl _ _).alloc (Nat.le_refl _) _) (Nat.le_refl _)) (u8l_one _) (by simp) ?_; rw [setRow_alloc_at _ _ _ _ _ rfl, zeros_u8, put_full xs n q HL.out HQ.out]) | (refine copy_guard ?_; (refine wl_copy rfl _ _ 48 48 rfl Try.underlying48 hsz8 (g := gb) (off := a * 64) (dLen := N - a * 64) (dCap := cap - a * 64) (sp := some ⟨w.heap.size, 0, none⟩) (sLen := m * 64) (sCap := q * 64) (by simp [Act.eval, cutA, hcl, addr_add]) (by have h8 := HMT.out; show Value.slice _ _ _ = _; rw [cutA_zero, h8]) (c := cur) (t := 5) ?_ (Sl.hi8 (Sl.fresh _ _ (fullOf xs) _ HF.out hq6 rfl _ (by simp)) (m * 64) (by omega)) (u8l_one _) ?_ ?_); (rw [rowOf?_alloc_past _ _ _ (by simpa using hltg), rowOf?_setCell_other _ ⟨p, _, none⟩ _ _ hne', rowOf?_setCell_other _ ⟨p, _, none⟩ _ _ hne']; exact HR.out); (have := HC.out; omega); rw [HM.out, u8l_take, List.take_take, Nat.min_self]))
  all_goals (
    go_ret
    rw [← setRow_alloc_past _ _ _ _ (by simpa using hltg)]
    refine wrote_of (d' := { d with crashed := true, wait := 0, bs := putAt d.bs (a * 64) ((fullOf xs).take (m * 64)) }) _ (a * 64) ((fullOf xs).take (m * 64)) cur HD.out rfl (by rw [HN.out]; exact HG.out) (by show 0 ≤ _; omega) HD.out.keep ?_ HR.out (by rw [HN.out]; exact HT.out) HC.out ?_ ?_ (by simp) rfl rfl rfl
    · rw [rowOf?_alloc_past _ _ _ (by simpa using hlt), rowOf?_setCell_same, rowOf?_setCell_same, HD.out.box]
      simp [dvCells]
    · rw [rowOf?_alloc_past _ _ _ (by simpa using hltg), rowOf?_setCell_other _ ⟨p, _, none⟩ _ _ hne', rowOf?_setCell_other _ ⟨p, _, none⟩ _ _ hne']
    · intro k k1 k2 k3
      rw [Below.heap_alloc _ _ _ (by simpa using k3), heap_setCell_other _ ⟨p, _, none⟩ _ _ k1, heap_setCell_other _ ⟨p, _, none⟩ _ _ k1])
end Go.Proofs.Ytkcgbcjiogpliaa
