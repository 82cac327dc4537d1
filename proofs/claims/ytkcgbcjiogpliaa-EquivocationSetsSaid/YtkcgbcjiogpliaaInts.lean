/-
  Contracts of the functions on lists of ints: Has, SameInts, ValidateList (program and reference).
-/
import Derived.Test.YtkcgbcjiogpliaaProg
import Derived.Test.YtkcgbcjiogpliaaBase
import Derived.Deep.QuietTactic
import Derived.BigQuiet
namespace Go.Proofs.Ytkcgbcjiogpliaa
open Go.RowKit Go.FH
set_option linter.unusedVariables false
set_option linter.unusedSimpArgs false

theorem elemInt : Elem Try.prog 25 3 8 := ⟨Try.underlying25, by kernel_rfl⟩

set_option maxHeartbeats 400000 in
theorem has_any (a : Option Addr) (n cap : Nat) (S : Nat → Prop) (xs : List Int) (k : Int) (w : World) (h : Sl w S a n cap (ints xs)) :
    Calls Try.prog 23 #[.slice a n cap, .int .i64 k] w fun e w' => e = .returned (.bool (decide (k ∈ xs))) ∧ w = w' := by
  have hmax := h.max
  have HL := Lib.hid h.len
  have H := Lib.hid h
  clear h
  go_enter Try.func23, Try.ntmps23
  go_wp2
  go_loop [5] (fun i => ∃ j : Nat, j ≤ n ∧ i = .int .i64 j ∧ Hid (∀ x ∈ xs.take j, x ≠ k)) (fun i => n - (intOf i).toNat)
  case atStart => exact ⟨0, by omega, rfl, by unfold Hid; simp⟩
  case round =>
    obtain ⟨j, hj, rfl, hx⟩ := hrel
    by_cases hlt : j < n
    · obtain ⟨b, off, rfl, hb, hc⟩ := H.out.get (by omega)
      have hj' : j < xs.length := by have := HL.out; rw [length_ints] at this; omega
      have hcell := hc j _ (ints_get xs j hj')
      clear hc
      by_cases hk : xs[j] = k
      · have hk' : (xs[j] == k) = true := by simpa using hk
        go_wp2
        go_ret
        refine ⟨?_, rfl⟩
        have : k ∈ xs := hk ▸ List.getElem_mem hj'
        simp [this]
      · have hk' : (xs[j] == k) = false := by simpa using hk
        have HK := Lib.hid hk
        clear hk
        go_wp2
        go_round
        case rel =>
          refine ⟨j + 1, by omega, by go_num, ?_⟩
          intro x hx'
          rw [List.take_succ_eq_append_getElem hj', List.mem_append] at hx'
          rcases hx' with hx' | hx'
          · exact hx.out x hx'
          · simp at hx'; rw [hx']; exact HK.out
        case measure => simp [intOf]; omega
    · go_wp2
      go_ret
      refine ⟨?_, rfl⟩
      have hl := HL.out
      rw [length_ints] at hl
      have : k ∉ xs := fun hm => hx.out k (by rw [List.take_of_length_le (by omega)]; exact hm) rfl
      simp [this]

set_option maxHeartbeats 400000 in
theorem sameInts_any (a : Option Addr) (n cap : Nat) (S : Nat → Prop) (xs : List Int) (a' : Option Addr) (n' cap' : Nat) (S' : Nat → Prop) (ys : List Int) (w : World) (h : Sl w S a n cap (ints xs)) (h' : Sl w S' a' n' cap' (ints ys)) :
    Calls Try.prog 20 #[.slice a n cap, .slice a' n' cap'] w fun e w' => e = .returned (.bool (decide (xs = ys))) ∧ ∃ m, w' = w.drewN m := by
  have hmax := h.max
  have hmax' := h'.max
  have HL := Lib.hid h.len
  have HL' := Lib.hid h'.len
  have H := Lib.hid h
  have H' := Lib.hid h'
  clear h h'
  by_cases hn : n = n'
  · subst hn
    go_enter Try.func20, Try.ntmps20
    go_wp2
    go_loopw [5] (fun i wr => ∃ j q : Nat, j ≤ n ∧ i = .int .i64 j ∧ Hid (xs.take j = ys.take j) ∧ wr = w.drewN q) (fun i _ => n - (intOf i).toNat)
    case atStart => exact ⟨0, 0, by omega, rfl, by unfold Hid; simp, rfl⟩
    case round =>
      obtain ⟨j, q, hj, rfl, hx, rfl⟩ := hrel
      by_cases hlt : j < n
      · obtain ⟨b, off, rfl, hb, hc⟩ := H.out.get (by omega)
        obtain ⟨b', off', rfl, hb', hc'⟩ := H'.out.get (by omega)
        have hj' : j < xs.length := by have := HL.out; rw [length_ints] at this; omega
        have hj2 : j < ys.length := by have := HL'.out; rw [length_ints] at this; omega
        have hcell := hc j _ (ints_get xs j hj')
        have hcell' := hc' j _ (ints_get ys j hj2)
        clear hc hc'
        by_cases hk : xs[j] = ys[j]
        · have hk' : (xs[j] == ys[j]) = true := by simpa using hk
          have hk2 : (xs[j] != ys[j]) = false := by simpa using hk
          have HK := Lib.hid hk
          clear hk
          go_wp2
          go_quiet (fail)
          go_wp2
          go_roundw
          case rel =>
            refine ⟨j + 1, _, by omega, by go_num, ?_, rfl⟩
            show xs.take (j + 1) = ys.take (j + 1)
            rw [List.take_succ_eq_append_getElem hj', List.take_succ_eq_append_getElem hj2, hx.out, HK.out]
          case measure => simp [intOf]; omega
        · have hk' : (xs[j] == ys[j]) = false := by simpa using hk
          have hk2 : (xs[j] != ys[j]) = true := by simpa using hk
          have HK := Lib.hid hk
          clear hk
          go_wp2
          go_quiet (fail)
          go_wp2
          go_ret
          refine ⟨?_, q + nq, by rw [World.drewN_drewN]⟩
          have : xs ≠ ys := fun e => HK.out (by subst e; rfl)
          simp [this]
      · go_wp2
        go_ret
        refine ⟨?_, _, rfl⟩
        have hl := HL.out
        have hl' := HL'.out
        rw [length_ints] at hl hl'
        have hx := hx.out
        rw [List.take_of_length_le (by omega), List.take_of_length_le (by omega)] at hx
        simp [hx]
  · have hn' : ((n : Int) == (n' : Int)) = false := by simp; omega
    have hn2 : ((n : Int) != (n' : Int)) = true := by simp; omega
    go_enter Try.func20, Try.ntmps20
    go_wp2
    go_ret
    refine ⟨?_, 0, rfl⟩
    have hl := HL.out
    have hl' := HL'.out
    rw [length_ints] at hl hl'
    have : xs ≠ ys := fun e => hn (by subst e; omega)
    simp [this]

/-- What ValidateList answers of the elements from the i-th on. -/
def vlFrom (n : Int) : Option Int → List Int → Int
  | _, [] => 0
  | prev, x :: xs => if x < 0 ∨ n ≤ x then 3 else if (match prev with | some p => decide (x ≤ p) | none => false) then 8 else vlFrom n (some x) xs
def vl (n : Int) (xs : List Int) : Int := if xs = [] then 2 else vlFrom n none xs

def lastOf (xs : List Int) (j : Nat) : Option Int := if j = 0 then none else xs[j - 1]?
theorem vlFrom_step (n : Int) (xs : List Int) (j : Nat) (h : j < xs.length) : vlFrom n (lastOf xs j) (xs.drop j) =
    if xs[j] < 0 ∨ n ≤ xs[j] then 3 else if (match lastOf xs j with | some p => decide (xs[j] ≤ p) | none => false) then 8 else vlFrom n (lastOf xs (j + 1)) (xs.drop (j + 1)) := by
  rw [List.drop_eq_getElem_cons h]
  have e : lastOf xs (j + 1) = some xs[j] := by simp [lastOf, h]
  rw [e]
  rfl

set_option maxHeartbeats 400000 in
theorem validateList_any (a : Option Addr) (n cap : Nat) (S : Nat → Prop) (xs : List Int) (k : Int) (w : World) (h : Sl w S a n cap (ints xs)) (h64 : I64 xs) :
    Calls Try.prog 41 #[.slice a n cap, .int .i64 k] w fun e w' => e = .returned (.int .i64 (vl k xs)) ∧ w = w' := by
  have hmax := h.max
  have HL := Lib.hid h.len
  have H := Lib.hid h
  clear h
  by_cases hn : n = 0
  · subst hn
    go_enter Try.func41, Try.ntmps41
    go_wp2
    go_ret
    refine ⟨?_, rfl⟩
    have hl := HL.out
    rw [length_ints] at hl
    have : xs = [] := List.eq_nil_of_length_eq_zero hl
    simp [vl, this]
  · have hn' : ((n : Int) == 0) = false := by simp; omega
    have hne : xs ≠ [] := by
      intro e; have := HL.out; rw [e] at this; simp [ints] at this; omega
    have hv : vl k xs = vlFrom k (lastOf xs 0) (xs.drop 0) := by simp [vl, hne, lastOf]
    rw [hv]
    generalize hres : vlFrom k (lastOf xs 0) (xs.drop 0) = res
    have HR := Lib.hid hres
    clear hres hv
    go_enter Try.func41, Try.ntmps41
    go_wp2
    go_loop [5, 6, 12] (fun _ _ i => ∃ j : Nat, j ≤ n ∧ i = .int .i64 j ∧ Hid (vlFrom k (lastOf xs j) (xs.drop j) = res)) (fun _ _ i => n - (intOf i).toNat)
    case atStart => exact ⟨0, by omega, rfl, HR⟩
    case round =>
      obtain ⟨j, hj, rfl, hx⟩ := hrel
      by_cases hlt : j < n
      · obtain ⟨b, off, rfl, hb, hc⟩ := H.out.get (by omega)
        have hj' : j < xs.length := by have := HL.out; rw [length_ints] at this; omega
        have hcell := hc j _ (ints_get xs j hj')
        have hstep := vlFrom_step k xs j hj'
        rw [hx.out] at hstep
        obtain ⟨hr1, hr2⟩ := h64.get j hj'
        by_cases hj0 : j = 0
        · subst hj0
          rw [Nat.add_zero] at hcell
          have HS := Lib.hid hstep
          clear hstep hc
          by_cases hlo : xs[0] < 0
          · go_wp2
            go_ret
            refine ⟨?_, rfl⟩
            rw [HS.out, if_pos (Or.inl hlo)]
            rfl
          · by_cases hhi : xs[0] < k
            · go_wp2
              go_round
              case rel =>
                refine ⟨1, by omega, rfl, ?_⟩
                show vlFrom k (lastOf xs 1) (xs.drop 1) = res
                rw [HS.out, if_neg (by omega)]
                simp [lastOf]
              case measure => simp [intOf]; omega
            · go_wp2
              go_ret
              refine ⟨?_, rfl⟩
              rw [HS.out, if_pos (by omega)]
              rfl
        · have hcell' := hc (j - 1) _ (ints_get xs (j - 1) (by omega))
          have hjj : (((j : Int) - 1).toNat) = j - 1 := by omega
          have hlast : lastOf xs j = some xs[j - 1] := by
            have hjl : j - 1 < xs.length := by omega
            simp [lastOf, hj0, hjl]
          rw [hlast] at hstep
          have HS := Lib.hid hstep
          clear hstep hc hlast
          have hj1 : (0 : Int) < (j : Int) := by omega
          by_cases hlo : xs[j] < 0
          · go_wp2
            go_ret
            refine ⟨?_, rfl⟩
            rw [HS.out, if_pos (Or.inl hlo)]
            rfl
          · by_cases hhi : xs[j] < k
            · by_cases hle : xs[j] ≤ xs[j - 1]
              · go_wp2
                go_ret
                refine ⟨?_, rfl⟩
                rw [HS.out, if_neg (by omega)]
                simp [hle]
              · go_wp2
                go_round
                case rel =>
                  refine ⟨j + 1, by omega, by go_num, ?_⟩
                  show vlFrom k (lastOf xs (j + 1)) (xs.drop (j + 1)) = res
                  rw [HS.out, if_neg (by omega)]
                  simp [hle]
                case measure => simp [intOf]; omega
            · go_wp2
              go_ret
              refine ⟨?_, rfl⟩
              rw [HS.out, if_pos (by omega)]
              rfl
      · go_wp2
        go_ret
        refine ⟨?_, rfl⟩
        have hl := HL.out
        rw [length_ints] at hl
        have hxx := hx.out
        rw [List.drop_eq_nil_of_le (by omega)] at hxx
        rw [← hxx]
        simp [vlFrom]
end Go.Proofs.Ytkcgbcjiogpliaa
