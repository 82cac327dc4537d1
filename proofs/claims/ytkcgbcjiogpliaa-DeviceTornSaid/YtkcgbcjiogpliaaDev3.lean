/-
  Contracts of package device: Write.
-/
import Derived.Test.YtkcgbcjiogpliaaDev2
namespace Go.Proofs.Ytkcgbcjiogpliaa
open Go.RowKit Go.FH
set_option linter.unusedVariables false
set_option linter.unusedSimpArgs false

def secs (n : Nat) : Nat := (n + 63) / 64
/-- Bytes laid into whole sectors. -/
def fullOf (xs : List UInt8) : List UInt8 := xs ++ List.replicate (secs xs.length * 64 - xs.length) 0
theorem secs_ge (n : Nat) : n ≤ secs n * 64 := by unfold secs; omega
theorem length_fullOf (xs : List UInt8) : (fullOf xs).length = secs xs.length * 64 := by
  have := secs_ge xs.length
  simp [fullOf]; omega
/-- Bytes laid over others. -/
def putAt (bs : List UInt8) (off : Nat) (xs : List UInt8) : List UInt8 := bs.take off ++ xs ++ bs.drop (off + xs.length)
theorem length_putAt (bs : List UInt8) (off : Nat) (xs : List UInt8) (h : off + xs.length ≤ bs.length) : (putAt bs off xs).length = bs.length := by
  simp [putAt]; omega

/-- The struct and the bytes have turned, nothing else that there was. -/
def DevWrote (W : World) (p gb cap : Nat) (d : Dv) (v : Value) (e : Ending) (w' : World) : Prop :=
  e = .returned v ∧ DevAt w' p gb cap d ∧ (∀ k, k ≠ p → k ≠ gb → k < W.heap.size → w'.heap[k]? = W.heap[k]?) ∧ W.heap.size ≤ w'.heap.size ∧ w'.os = W.os ∧ w'.tape = W.tape ∧ w'.output = W.output

set_option maxHeartbeats 400000 in
theorem write_crashed (p gb cap : Nat) (d : Dv) (at_ : Int) (b : Value) (w : World) (h : DevAt w p gb cap d) (hc : d.crashed = true) :
    Calls Try.prog 28 #[.pointer (some ⟨p, 0, none⟩), .int .i64 at_, b] w fun e w' => e = .returned (.int .i64 24) ∧ w = w' := by
  obtain ⟨c0, c1, c2, c3, c4, cf⟩ := h.cells
  rw [hc] at c1
  clear h hc
  go_enter Try.func28, Try.ntmps28
  go_wp2
  go_ret
  exact ⟨rfl, rfl⟩

set_option maxHeartbeats 400000 in
theorem write_bad (p gb cap : Nat) (d : Dv) (at_ : Int) (a : Option Addr) (n c : Nat) (w : World) (h : DevAt w p gb cap d) (hc : d.crashed = false) (h1 : -1000000000 ≤ at_) (h2 : at_ ≤ 1000000000) (hn : n ≤ 1000000000)
    (he : n = 0 ∨ existB d at_ (secs n : Nat) = false) :
    Calls Try.prog 28 #[.pointer (some ⟨p, 0, none⟩), .int .i64 at_, .slice a n c] w fun e w' => e = .returned (.int .i64 3) ∧ w = w' := by
  obtain ⟨c0, c1, c2, c3, c4, cf⟩ := h.cells
  rw [hc] at c1
  by_cases h0 : n = 0
  · subst h0
    clear h hc he
    go_enter Try.func28, Try.ntmps28
    go_wp2
    go_ret
    exact ⟨rfl, rfl⟩
  · have he' : existB d at_ (((n + 63) / 64 : Nat) : Int) = false := by simpa [h0, secs] using he
    have hq : (n + 63) / 64 ≤ 1000000000 := by omega
    have hx := exist_any p gb cap d at_ (((n + 63) / 64 : Nat) : Int) w h h1 h2 (by omega) (by omega)
    rw [he'] at hx
    have HX := Lib.hid hx
    have hq0 : 0 < (n + 63) / 64 := by omega
    clear h hc hx he he'
    have e1 : ((((n : Int) + 64) - 1) / 64) = (((n + 63) / 64 : Nat) : Int) := by omega
    go_enter Try.func28, Try.ntmps28
    go_wp2_with (go_at_call 43; refine HX.out.mono ?_; rintro e w' ⟨rfl, rfl⟩)
    go_ret
    exact ⟨rfl, rfl⟩

theorem addr_add (b o j : Nat) : (⟨b, o, none⟩ : Addr).add j = ⟨b, o + j, none⟩ := by unfold Addr.add; split <;> simp_all
theorem hsz8 : (Try.prog.info? 5).map (·.size) = some 1 := by kernel_rfl
theorem put_full (xs : List UInt8) (n q : Nat) (hn : xs.length = n) (hq : q = secs n) :
    putRange (u8c (List.replicate (q * 64) 0)) 0 ((u8l xs).take (min n (q * 64))) = u8c (fullOf xs) := by
  have := secs_ge n
  subst hq hn
  rw [Nat.min_eq_left this, u8l_take, List.take_length, putRange_u8 _ _ _ (by simp; omega)]
  simp [fullOf]


theorem Sl.fresh {W : World} (w : World) (t : TypeId) (bs : List UInt8) (n : Nat) (hn : bs.length = n) (hm : n ≤ 4000000) (hW : W = w.alloc (.cells (u8c bs) t)) (k : Nat) (hk : k = w.heap.size) :
    Sl W (fun b => b = k) (some ⟨k, 0, none⟩) n n (u8l bs) := by
  subst hW hk hn
  refine ⟨length_u8l _, Nat.le_refl _, by simp only [maxLen]; omega, by simp, .inr ⟨w.heap.size, 0, rfl, rfl, by simp, fun j v hj => ?_⟩⟩
  rw [Nat.zero_add, World.cell?_alloc_new]
  simpa [u8c, u8l] using hj

theorem putRange_dev (cur : Array Value) (bs xs : List UInt8) (off : Nat) (h : off + xs.length ≤ bs.length) (ht : cur.toList.take bs.length = u8l bs) :
    (putRange cur off (u8l xs)).toList.take bs.length = u8l (putAt bs off xs) := by
  have hl : bs.length ≤ cur.size := by
    have := congrArg List.length ht
    simp [length_u8l] at this
    omega
  have e1 : cur.toList.take off = u8l (bs.take off) := by
    rw [← u8l_take, ← ht, List.take_take, Nat.min_eq_left (by omega)]
  have e2 : (cur.toList.drop (off + xs.length)).take (bs.length - (off + xs.length)) = u8l (bs.drop (off + xs.length)) := by
    rw [← u8l_drop, ← ht, List.drop_take]
  unfold putRange putAt
  rw [length_u8l]
  simp only [e1, u8l_app]
  have e3 : (u8l (bs.take off) ++ u8l xs).length = off + xs.length := by simp [length_u8l]; omega
  rw [← e3] at e2 ⊢
  rw [List.toList_toArray, List.take_append, List.take_of_length_le (by omega), e2, e3]

/-- A world where the struct has turned, then the bytes. -/
theorem wrote_of {w W2 : World} {p gb cap : Nat} {d d' : Dv} (v : Value) (off : Nat) (xs : List UInt8) (cur : Array Value) (h : DevAt w p gb cap d) (hb : d'.bs = putAt d.bs off xs) (hfit : off + xs.length ≤ d.bs.length)
    (hw' : d'.wait ≤ 1000000000) (hk' : d'.keep ≤ 1000000000) (hbox : rowOf? W2 p = some (dvCells gb cap { d' with bs := d.bs }, 74))
    (hr : rowOf? w gb = some (cur, 5)) (htk : cur.toList.take d.bs.length = u8l d.bs) (hcs : cur.size = cap) (h2 : rowOf? W2 gb = rowOf? w gb) (hB : ∀ k, k ≠ p → k ≠ gb → k < w.heap.size → W2.heap[k]? = w.heap[k]?) (hz : w.heap.size ≤ W2.heap.size)
    (ho : W2.os = w.os) (hta : W2.tape = w.tape) (hou : W2.output = w.output) :
    DevWrote w p gb cap d' v (.returned v) (W2.setRow gb (putRange cur off (u8l xs))) := by
  have hlen : d'.bs.length = d.bs.length := by rw [hb, length_putAt _ _ _ hfit]
  have hle := h.le
  refine ⟨rfl, ⟨?_, ?_, by rw [hlen]; exact h.le, h.cmax, h.ne, by rw [hlen]; exact h.small, hw', hk'⟩, ?_, by simpa using hz, ho, hta, hou⟩
  · rw [rowOf?_setRow_other _ _ _ _ h.ne, hbox]
    simp [dvCells, hlen]
  · refine ⟨putRange cur off (u8l xs), ?_, ?_, ?_⟩
    · rw [rowOf?_setRow_same, h2, hr]; rfl
    · rw [size_putRange _ _ _ (by rw [length_u8l]; omega), hcs]
    · rw [hlen, hb]; exact putRange_dev cur _ _ _ hfit htk
  · intro k k1 k2 k3
    rw [setRow_other _ _ _ _ k2]
    exact hB k k1 k2 k3
set_option maxHeartbeats 1000000 in
theorem write_ok (p gb cap : Nat) (d : Dv) (a : Nat) (ad : Option Addr) (n c : Nat) (S : Nat → Prop) (xs : List UInt8) (w : World) (h : DevAt w p gb cap d) (hc : d.crashed = false)
    (hs : Sl w S ad n c (u8l xs)) (hn0 : 0 < n) (hfit : a + secs n ≤ d.bs.length / 64) (hp : (d.planned && decide (d.wait = 0)) = false) :
    Calls Try.prog 28 #[.pointer (some ⟨p, 0, none⟩), .int .i64 a, .slice ad n c] w
      (DevWrote w p gb cap { d with wait := d.wait - 1, bs := putAt d.bs (a * 64) (fullOf xs) } (.int .i64 0)) := by
  obtain ⟨c0, c1, c2, c3, c4, cf⟩ := h.cells
  rw [hc] at c1
  have hlt := h.lt.1
  have hltg := h.lt.2
  have hsm := h.small
  have hlc := h.le
  have hmax := hs.max
  have hlen := hs.len
  rw [length_u8l] at hlen
  have hwt := h.wait
  have hne := h.ne
  have hne' : gb ≠ p := fun e => hne e.symm
  obtain ⟨cur, hr, hcs, htk⟩ := h.row
  unfold secs at hfit
  have hx := exist_any p gb cap d a (((n + 63) / 64 : Nat) : Int) w h (by omega) (by omega) (by omega) (by omega)
  have he : existB d (a : Int) (((n + 63) / 64 : Nat) : Int) = true := by simp [existB]; omega
  rw [he] at hx
  have HX := Lib.hid hx
  have HS := Lib.hid hs
  have HD := Lib.hid h
  have hq0 : 0 < (n + 63) / 64 := by omega
  have HL := Lib.hid hlen
  have hq : (n + 63) / 64 = secs n := rfl
  have hqn : n ≤ (n + 63) / 64 * 64 := by omega
  have e1 : ((((n : Int) + 64) - 1) / 64) = (((n + 63) / 64 : Nat) : Int) := by omega
  have hcl : ¬ cap = a * 64 := by omega
  have hmm : min ((n + 63) / 64 * 64) (d.bs.length - a * 64) = (n + 63) / 64 * 64 := by omega
  have hfl : (fullOf xs).length = (n + 63) / 64 * 64 := by rw [length_fullOf, hlen]; rfl
  have hq6 : (n + 63) / 64 * 64 ≤ 4000000 := by omega
  have hfit' : a * 64 + (fullOf xs).length ≤ d.bs.length := by omega
  have HF := Lib.hid hfl
  have HR := Lib.hid hr
  have HT := Lib.hid htk
  have HC := Lib.hid hcs
  have HM := Lib.hid hmm
  have HG := Lib.hid hfit'
  clear hfl hr htk hcs hmm hfit'
  generalize (n + 63) / 64 = q at *
  have HQ := Lib.hid hq
  clear h hs hx he hlen hc hq
  by_cases hpl : d.planned = true
  · have hw0 : ¬ d.wait = 0 := by simpa [hpl] using hp
    rw [hpl] at c2
    have E1 : ((d.wait : Int) == 0) = false := by simp; omega
    clear hp hpl
    generalize hN : d.bs.length = N at *
    have HN := Lib.hid hN
    clear hN
    go_enter Try.func28, Try.ntmps28
    go_wp2_with (first | (go_at_call 43; refine HX.out.mono ?_; rintro e w' ⟨rfl, rfl⟩) | (refine copy_guard ?_; refine wl_copy rfl _ _ 48 48 rfl Try.underlying48 hsz8 (g := w.heap.size) (off := 0) (dLen := q * 64) (dCap := q * 64) (sp := ad) (sLen := n) (sCap := c) (by simp [Act.eval]) (by simp [Act.eval]) (rowOf?_alloc_at _ _ _ _ rfl) (HS.out.below ((Below.refl _ _).alloc (Nat.le_refl _) _) (Nat.le_refl _)) (u8l_one _) (by simp) ?_; rw [setRow_alloc_at _ _ _ _ _ rfl, zeros_u8, put_full xs n q HL.out HQ.out]) | (refine copy_guard ?_; refine wl_copy rfl _ _ 48 48 rfl Try.underlying48 hsz8 (g := gb) (off := a * 64) (dLen := N - a * 64) (dCap := cap - a * 64) (sp := some ⟨w.heap.size, 0, none⟩) (sLen := q * 64) (sCap := q * 64) (by simp [Act.eval, cutA, hcl, addr_add]) (by simp [Act.eval]) (c := cur) (t := 5) ?_ (Sl.fresh _ _ (fullOf xs) _ HF.out hq6 rfl _ (by simp)) (u8l_one _) ?_ ?_; (rw [rowOf?_alloc_past _ _ _ (by simpa using hltg), rowOf?_setCell_other _ ⟨p, _, none⟩ _ _ hne']; exact HR.out); (have := HC.out; omega); rw [HM.out, u8l_take, ← HF.out, List.take_length]))
    all_goals (
      go_ret
      rw [← setRow_alloc_past _ _ _ _ (by simpa using hltg)]
      refine wrote_of (d' := { d with wait := d.wait - 1, bs := putAt d.bs (a * 64) (fullOf xs) }) _ (a * 64) (fullOf xs) cur HD.out rfl (by rw [HN.out]; exact HG.out) (by show d.wait - 1 ≤ _; omega) HD.out.keep ?_ HR.out (by rw [HN.out]; exact HT.out) HC.out ?_ ?_ (by simp) rfl rfl rfl
      · rw [rowOf?_alloc_past _ _ _ (by simpa using hlt), rowOf?_setCell_same, HD.out.box]
        simp [dvCells]
        try omega
      · rw [rowOf?_alloc_past _ _ _ (by simpa using hltg), rowOf?_setCell_other _ ⟨p, _, none⟩ _ _ hne']
      · intro k k1 k2 k3
        rw [Below.heap_alloc _ _ _ (by simpa using k3), heap_setCell_other _ ⟨p, _, none⟩ _ _ k1])
  · have hpl' : d.planned = false := by simpa using hpl
    rw [hpl'] at c2
    clear hpl hp hpl'
    generalize hN : d.bs.length = N at *
    have HN := Lib.hid hN
    clear hN
    go_enter Try.func28, Try.ntmps28
    go_wp2_with (first | (go_at_call 43; refine HX.out.mono ?_; rintro e w' ⟨rfl, rfl⟩) | (refine copy_guard ?_; refine wl_copy rfl _ _ 48 48 rfl Try.underlying48 hsz8 (g := w.heap.size) (off := 0) (dLen := q * 64) (dCap := q * 64) (sp := ad) (sLen := n) (sCap := c) (by simp [Act.eval]) (by simp [Act.eval]) (rowOf?_alloc_at _ _ _ _ rfl) (HS.out.below ((Below.refl _ _).alloc (Nat.le_refl _) _) (Nat.le_refl _)) (u8l_one _) (by simp) ?_; rw [setRow_alloc_at _ _ _ _ _ rfl, zeros_u8, put_full xs n q HL.out HQ.out]) | (refine copy_guard ?_; refine wl_copy rfl _ _ 48 48 rfl Try.underlying48 hsz8 (g := gb) (off := a * 64) (dLen := N - a * 64) (dCap := cap - a * 64) (sp := some ⟨w.heap.size, 0, none⟩) (sLen := q * 64) (sCap := q * 64) (by simp [Act.eval, cutA, hcl, addr_add]) (by simp [Act.eval]) (c := cur) (t := 5) ?_ (Sl.fresh _ _ (fullOf xs) _ HF.out hq6 rfl _ (by simp)) (u8l_one _) ?_ ?_; (rw [rowOf?_alloc_past _ _ _ (by simpa using hltg), rowOf?_setCell_other _ ⟨p, _, none⟩ _ _ hne']; exact HR.out); (have := HC.out; omega); rw [HM.out, u8l_take, ← HF.out, List.take_length]))
    all_goals (
      go_ret
      rw [← setRow_alloc_past _ _ _ _ (by simpa using hltg)]
      refine wrote_of (d' := { d with wait := d.wait - 1, bs := putAt d.bs (a * 64) (fullOf xs) }) _ (a * 64) (fullOf xs) cur HD.out rfl (by rw [HN.out]; exact HG.out) (by show d.wait - 1 ≤ _; omega) HD.out.keep ?_ HR.out (by rw [HN.out]; exact HT.out) HC.out ?_ ?_ (by simp) rfl rfl rfl
      · rw [rowOf?_alloc_past _ _ _ (by simpa using hlt), rowOf?_setCell_same, HD.out.box]
        simp [dvCells]
        try omega
      · rw [rowOf?_alloc_past _ _ _ (by simpa using hltg), rowOf?_setCell_other _ ⟨p, _, none⟩ _ _ hne']
      · intro k k1 k2 k3
        rw [Below.heap_alloc _ _ _ (by simpa using k3), heap_setCell_other _ ⟨p, _, none⟩ _ _ k1])
end Go.Proofs.Ytkcgbcjiogpliaa
