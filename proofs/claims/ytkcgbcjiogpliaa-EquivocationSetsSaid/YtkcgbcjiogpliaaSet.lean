/-
  Contracts of the set of punished validators (package equivocation), and of the reference's ascending list.
-/
import Derived.Test.YtkcgbcjiogpliaaEquiv
import Derived.Test.YtkcgbcjiogpliaaSetPlain
import Derived.Deep.RegionLaw
namespace Go.Proofs.Ytkcgbcjiogpliaa
open Go.RowKit Go.FH
set_option linter.unusedVariables false
set_option linter.unusedSimpArgs false

/-- ref.Insert's answer: a slice that reads as the list with the number in it; it is the one that came in or it lies in new memory. -/
def InsPost (W : World) (S : Nat → Prop) (cs : List Value) (e : Ending) (w' : World) : Prop :=
  ∃ a n cap, e = .returned (.slice a n cap) ∧ n = cs.length ∧ Sl w' (fun b => S b ∨ W.heap.size ≤ b) a n cap cs ∧ Below W.heap.size W w'

set_option maxHeartbeats 1000000 in
theorem insert_any (a : Option Addr) (n cap : Nat) (S : Nat → Prop) (xs : List Int) (k : Int) (w : World) (h : Sl w S a n cap (ints xs)) (hlen : n ≤ 100000) :
    Calls Try.prog 42 #[.slice a n cap, .int .i64 k] w (InsPost w S (ints (ins k xs))) := by
  have hmax := h.cmax'
  have hle := h.le
  have HL := Lib.hid h.len
  have H := Lib.hid h
  clear h
  have hln : xs.length = n := by have := HL.out; rwa [length_ints] at this
  have HN := Lib.hid hln
  clear hln
  go_enter Try.func42, Try.ntmps42
  go_wp2
  go_loop [5] (fun i => ∃ j : Nat, j ≤ n ∧ i = .int .i64 j ∧ Hid (∀ m (h : m < xs.length), m < j → xs[m] < k)) (fun i => n - (intOf i).toNat)
  case atStart => exact ⟨0, by omega, rfl, by intro m _ h; omega⟩
  case round =>
    obtain ⟨j, hj, rfl, hx⟩ := hrel
    by_cases hlt : j < n
    · obtain ⟨b, off, rfl, hb, hc⟩ := H.out.get (by omega)
      have hj' : j < xs.length := by have := HN.out; omega
      have hcell := hc j _ (ints_get xs j hj')
      clear hc
      by_cases hk : xs[j] < k
      · go_wp2
        go_round
        case rel =>
          refine ⟨j + 1, by omega, by go_num, ?_⟩
          intro m hm hmj
          by_cases hmj' : m = j
          · subst hmj'; exact hk
          · exact hx.out m hm (by omega)
        case measure => simp [intOf]; omega
      · have hins := ins_skip k xs j (by omega) hx.out
        by_cases heq : xs[j] = k
        · have heq' : (xs[j] == k) = true := by simpa using heq
          have HQ := Lib.hid heq
          have HI := Lib.hid hins
          clear heq hins
          go_wp2
          go_ret
          refine ⟨_, _, _, rfl, ?_, ?_, Below.refl _ _⟩
          · rw [length_ints, HI.out, List.drop_eq_getElem_cons hj']
            simp only [ins, HQ.out, if_true, Int.lt_irrefl, if_false]
            simp; have := HN.out; omega
          · have e : ins k xs = xs := by
              rw [HI.out, List.drop_eq_getElem_cons hj']
              simp only [ins, HQ.out, if_true, Int.lt_irrefl, if_false]
              conv => rhs; rw [← List.take_append_drop j xs, List.drop_eq_getElem_cons hj', HQ.out]
            rw [e]
            exact H.out.mono fun b hb _ => .inl hb
        · have heq' : (xs[j] == k) = false := by simpa using heq
          have HQ := Lib.hid heq
          have HI := Lib.hid hins
          clear heq hins
          have HP1 := Lib.hid (show Sl w S (some ⟨b, off, none⟩) j cap (ints (xs.take j)) from by
            have := H.out.hi j (by omega)
            simpa [ints, List.map_take] using this)
          have HP2 := Lib.hid (show Sl w S (if cap = j then some ⟨b, off, none⟩ else some ⟨b, off + j, none⟩) (n - j) (cap - j) (ints (xs.drop j)) from by
            have := H.out.lo j (by omega)
            simpa [ints, List.map_drop] using this)
          have hjc : j ≤ cap := by omega
          go_wp2
          go_region_law (first
            | (refine st_append rfl (.const (.slice none 0 0)) (.tmp 35) 25 rfl elemInt (v := .slice none 0 0) (by rfl) (Own.nil _ _ _) (ad := some ⟨b, off, none⟩) (m := j) (c := cap) (by simp [Act.eval, Act.put]) (S' := S) (news := ints (xs.take j)) (by exact HP1.out.below (B := w.heap.size) (by (repeat (first | (with_reducible exact Below.refl _ _) | (with_reducible assumption) | (with_reducible refine Below.alloc ?_ ?_ _) | (with_reducible refine Below.drew ?_) | (with_reducible refine Below.setCell ?_ ?_ _) | (refine Below.step ?_ (by with_reducible assumption) ?_) | go_size))) (Nat.le_refl _)) (ints_one _) (by simp <;> omega) (by simp <;> omega) (Nat.le_refl _) ?_; intro v1 w1 hown1 hb1 hg1; have hz1 := hb1.size; (try simp only [World.size_alloc, World.size_drew] at hz1))
            | (refine st_append rfl (.tmp 36) (.tmp 38) 25 rfl elemInt (v := v1) (by simp [Act.eval, Act.put]) (hown1.alloc _) (ad := some ⟨w1.heap.size, 0, none⟩) (m := 1) (c := 1) (by simp [Act.eval, Act.put]) (news := ints [k]) (by exact Sl.one _ _ _) (ints_one _) (by simp <;> omega) (by simp <;> omega) (by first | (have := hb1.size; simp at *; omega) | (have := hb1.size; simp at *; omega)) ?_; intro v2 w2 hown2 hb2 hg2; have hz2 := hb2.size; (try simp only [World.size_alloc, World.size_drew] at hz2))
            | (refine st_append rfl (.tmp 36) (.tmp 38) 25 rfl elemInt (v := v1) (by simp [Act.eval, Act.put]) hown1 (ad := some ⟨w.heap.size, 0, none⟩) (m := 1) (c := 1) (by simp [Act.eval, Act.put]) (news := ints [k]) (by exact (Sl.one w.drew _ _).below hb1 (by simp)) (ints_one _) (by simp <;> omega) (by simp <;> omega) (by first | exact hb1.size | (have := hb1.size; simp at *; omega)) ?_; intro v2 w2 hown2 hb2 hg2; have hz2 := hb2.size; (try simp only [World.size_alloc, World.size_drew] at hz2))
            | (refine st_append rfl (.tmp 39) (.tmp 42) 25 rfl elemInt (v := v2) (by simp [Act.eval, Act.put]) hown2 (ad := if cap = j then some ⟨b, off, none⟩ else some ⟨b, off + j, none⟩) (m := n - j) (c := cap - j) (by simp [Act.eval, Act.put]) (S' := S) (news := ints (xs.drop j)) (by exact HP2.out.below (B := w.heap.size) (by (repeat (first | (with_reducible exact Below.refl _ _) | (with_reducible assumption) | (with_reducible refine Below.alloc ?_ ?_ _) | (with_reducible refine Below.drew ?_) | (with_reducible refine Below.setCell ?_ ?_ _) | (refine Below.step ?_ (by with_reducible assumption) ?_) | go_size))) (Nat.le_refl _)) (ints_one _) (by simp <;> omega) (by simp <;> omega) (by have := hb1.size; have := hb2.size; simp at *; omega) ?_; intro v3 w3 hown3 hb3 hg3; have hz3 := hb3.size; (try simp only [World.size_alloc, World.size_drew] at hz3)))
          all_goals
            go_wp2
            obtain ⟨a', n', cap', rfl, hn', hs'⟩ := hown3.sl
            go_ret
            refine ⟨_, _, _, rfl, ?_, ?_, by (repeat (first | (with_reducible exact Below.refl _ _) | (with_reducible assumption) | (with_reducible refine Below.alloc ?_ ?_ _) | (with_reducible refine Below.drew ?_) | (with_reducible refine Below.setCell ?_ ?_ _) | (refine Below.step ?_ (by with_reducible assumption) ?_) | go_size))⟩
            · rw [hn', HI.out, List.drop_eq_getElem_cons hj']
              have e1 : ¬ xs[j] < k := by have := hk; omega
              have e2 : ¬ xs[j] = k := HQ.out
              simp only [ins, e1, e2, if_false]
              simp [ints]
            · have e : ints (ins k xs) = [] ++ ints (xs.take j) ++ ints [k] ++ ints (xs.drop j) := by
                rw [HI.out, List.drop_eq_getElem_cons hj']
                have e1 : ¬ xs[j] < k := by have := hk; omega
                have e2 : ¬ xs[j] = k := HQ.out
                simp only [ins, e1, e2, if_false]
                simp [ints]
              rw [e]
              refine hs'.mono fun b hb _ => .inr ?_
              have := hb1.size
              have := hb2.size
              simp at *
              omega
    · obtain rfl : j = n := by omega
      have hins := ins_skip k xs j (by have := HN.out; omega) hx.out
      have HI := Lib.hid hins
      clear hins
      have hdrop := List.drop_eq_nil_of_le (show xs.length ≤ j by have := HN.out; omega)
      have HD := Lib.hid hdrop
      clear hdrop
      have hjc : j ≤ cap := hle
      rcases H.out.addr with h0 | ⟨b, off, rfl, hb, hbl, _⟩
      · obtain rfl : j = 0 := by omega
        have hxe := Lib.hid (show xs = [] from List.eq_nil_of_length_eq_zero HN.out)
        cases a with
        | none =>
          subst h0
          go_wp2
          go_region_law (first
            | (refine st_append rfl (.const (.slice none 0 0)) (.tmp 35) 25 rfl elemInt (v := .slice none 0 0) (by rfl) (Own.nil _ _ _) (ad := none) (m := 0) (c := 0) (by simp [Act.eval, Act.put]) (S' := S) (news := ints []) (by exact Sl.zero _ _ _) (ints_one _) (by simp <;> omega) (by simp <;> omega) (Nat.le_refl _) ?_; intro v1 w1 hown1 hb1 hg1; have hz1 := hb1.size; (try simp only [World.size_alloc, World.size_drew] at hz1))
            | (refine st_append rfl (.tmp 36) (.tmp 38) 25 rfl elemInt (v := v1) (by simp [Act.eval, Act.put]) (hown1.alloc _) (ad := some ⟨w1.heap.size, 0, none⟩) (m := 1) (c := 1) (by simp [Act.eval, Act.put]) (news := ints [k]) (by exact Sl.one _ _ _) (ints_one _) (by simp <;> omega) (by simp <;> omega) (by first | (have := hb1.size; simp at *; omega) | (have := hb1.size; simp at *; omega)) ?_; intro v2 w2 hown2 hb2 hg2; have hz2 := hb2.size; (try simp only [World.size_alloc, World.size_drew] at hz2))
            | (refine st_append rfl (.tmp 36) (.tmp 38) 25 rfl elemInt (v := v1) (by simp [Act.eval, Act.put]) hown1 (ad := some ⟨w.heap.size, 0, none⟩) (m := 1) (c := 1) (by simp [Act.eval, Act.put]) (news := ints [k]) (by exact (Sl.one w.drew _ _).below hb1 (by simp)) (ints_one _) (by simp <;> omega) (by simp <;> omega) (by first | exact hb1.size | (have := hb1.size; simp at *; omega)) ?_; intro v2 w2 hown2 hb2 hg2; have hz2 := hb2.size; (try simp only [World.size_alloc, World.size_drew] at hz2))
            | (refine st_append rfl (.tmp 39) (.tmp 42) 25 rfl elemInt (v := v2) (by simp [Act.eval, Act.put]) hown2 (ad := none) (m := 0) (c := 0) (by simp [Act.eval, Act.put]) (S' := S) (news := ints []) (by exact Sl.zero _ _ _) (ints_one _) (by simp <;> omega) (by simp <;> omega) (by have := hb1.size; have := hb2.size; simp at *; omega) ?_; intro v3 w3 hown3 hb3 hg3; have hz3 := hb3.size; (try simp only [World.size_alloc, World.size_drew] at hz3)))
          all_goals
            go_wp2
            obtain ⟨a', n', cap', rfl, hn', hs'⟩ := hown3.sl
            go_ret
            refine ⟨_, _, _, rfl, ?_, ?_, by (repeat (first | (with_reducible exact Below.refl _ _) | (with_reducible assumption) | (with_reducible refine Below.alloc ?_ ?_ _) | (with_reducible refine Below.drew ?_) | (with_reducible refine Below.setCell ?_ ?_ _) | (refine Below.step ?_ (by with_reducible assumption) ?_) | go_size))⟩
            · rw [hn', hxe.out]
              simp [ints, ins]
            · have e : ints (ins k xs) = [] ++ ints [] ++ ints [k] ++ ints [] := by
                rw [hxe.out]
                simp [ints, ins]
              rw [e]
              refine hs'.mono fun b hb _ => .inr ?_
              have := hb1.size
              have := hb2.size
              simp at *
              omega
        | some ad =>
          subst h0
          go_wp2
          go_region_law (first
            | (refine st_append rfl (.const (.slice none 0 0)) (.tmp 35) 25 rfl elemInt (v := .slice none 0 0) (by rfl) (Own.nil _ _ _) (ad := some ad) (m := 0) (c := 0) (by simp [Act.eval, Act.put]) (S' := S) (news := ints []) (by exact Sl.zero _ _ _) (ints_one _) (by simp <;> omega) (by simp <;> omega) (Nat.le_refl _) ?_; intro v1 w1 hown1 hb1 hg1; have hz1 := hb1.size; (try simp only [World.size_alloc, World.size_drew] at hz1))
            | (refine st_append rfl (.tmp 36) (.tmp 38) 25 rfl elemInt (v := v1) (by simp [Act.eval, Act.put]) (hown1.alloc _) (ad := some ⟨w1.heap.size, 0, none⟩) (m := 1) (c := 1) (by simp [Act.eval, Act.put]) (news := ints [k]) (by exact Sl.one _ _ _) (ints_one _) (by simp <;> omega) (by simp <;> omega) (by first | (have := hb1.size; simp at *; omega) | (have := hb1.size; simp at *; omega)) ?_; intro v2 w2 hown2 hb2 hg2; have hz2 := hb2.size; (try simp only [World.size_alloc, World.size_drew] at hz2))
            | (refine st_append rfl (.tmp 36) (.tmp 38) 25 rfl elemInt (v := v1) (by simp [Act.eval, Act.put]) hown1 (ad := some ⟨w.heap.size, 0, none⟩) (m := 1) (c := 1) (by simp [Act.eval, Act.put]) (news := ints [k]) (by exact (Sl.one w.drew _ _).below hb1 (by simp)) (ints_one _) (by simp <;> omega) (by simp <;> omega) (by first | exact hb1.size | (have := hb1.size; simp at *; omega)) ?_; intro v2 w2 hown2 hb2 hg2; have hz2 := hb2.size; (try simp only [World.size_alloc, World.size_drew] at hz2))
            | (refine st_append rfl (.tmp 39) (.tmp 42) 25 rfl elemInt (v := v2) (by simp [Act.eval, Act.put]) hown2 (ad := some ad) (m := 0) (c := 0) (by simp [Act.eval, Act.put]) (S' := S) (news := ints []) (by exact Sl.zero _ _ _) (ints_one _) (by simp <;> omega) (by simp <;> omega) (by have := hb1.size; have := hb2.size; simp at *; omega) ?_; intro v3 w3 hown3 hb3 hg3; have hz3 := hb3.size; (try simp only [World.size_alloc, World.size_drew] at hz3)))
          all_goals
            go_wp2
            obtain ⟨a', n', cap', rfl, hn', hs'⟩ := hown3.sl
            go_ret
            refine ⟨_, _, _, rfl, ?_, ?_, by (repeat (first | (with_reducible exact Below.refl _ _) | (with_reducible assumption) | (with_reducible refine Below.alloc ?_ ?_ _) | (with_reducible refine Below.drew ?_) | (with_reducible refine Below.setCell ?_ ?_ _) | (refine Below.step ?_ (by with_reducible assumption) ?_) | go_size))⟩
            · rw [hn', hxe.out]
              simp [ints, ins]
            · have e : ints (ins k xs) = [] ++ ints [] ++ ints [k] ++ ints [] := by
                rw [hxe.out]
                simp [ints, ins]
              rw [e]
              refine hs'.mono fun b hb _ => .inr ?_
              have := hb1.size
              have := hb2.size
              simp at *
              omega
      · have HP1 := Lib.hid (show Sl w S (some ⟨b, off, none⟩) j cap (ints (xs.take j)) from by
          have := H.out.hi j (by omega)
          simpa [ints, List.map_take] using this)
        have HP2 := Lib.hid (show Sl w S (if cap = j then some ⟨b, off, none⟩ else some ⟨b, off + j, none⟩) 0 (cap - j) (ints (xs.drop j)) from by
          have := H.out.lo j (by omega)
          rw [Nat.sub_self] at this
          simpa [ints, List.map_drop] using this)
        go_wp2
        go_region_law (first
          | (refine st_append rfl (.const (.slice none 0 0)) (.tmp 35) 25 rfl elemInt (v := .slice none 0 0) (by rfl) (Own.nil _ _ _) (ad := some ⟨b, off, none⟩) (m := j) (c := cap) (by simp [Act.eval, Act.put]) (S' := S) (news := ints (xs.take j)) (by exact HP1.out.below (B := w.heap.size) (by (repeat (first | (with_reducible exact Below.refl _ _) | (with_reducible assumption) | (with_reducible refine Below.alloc ?_ ?_ _) | (with_reducible refine Below.drew ?_) | (with_reducible refine Below.setCell ?_ ?_ _) | (refine Below.step ?_ (by with_reducible assumption) ?_) | go_size))) (Nat.le_refl _)) (ints_one _) (by simp <;> omega) (by simp <;> omega) (Nat.le_refl _) ?_; intro v1 w1 hown1 hb1 hg1; have hz1 := hb1.size; (try simp only [World.size_alloc, World.size_drew] at hz1))
          | (refine st_append rfl (.tmp 36) (.tmp 38) 25 rfl elemInt (v := v1) (by simp [Act.eval, Act.put]) (hown1.alloc _) (ad := some ⟨w1.heap.size, 0, none⟩) (m := 1) (c := 1) (by simp [Act.eval, Act.put]) (news := ints [k]) (by exact Sl.one _ _ _) (ints_one _) (by simp <;> omega) (by simp <;> omega) (by first | (have := hb1.size; simp at *; omega) | (have := hb1.size; simp at *; omega)) ?_; intro v2 w2 hown2 hb2 hg2; have hz2 := hb2.size; (try simp only [World.size_alloc, World.size_drew] at hz2))
          | (refine st_append rfl (.tmp 36) (.tmp 38) 25 rfl elemInt (v := v1) (by simp [Act.eval, Act.put]) hown1 (ad := some ⟨w.heap.size, 0, none⟩) (m := 1) (c := 1) (by simp [Act.eval, Act.put]) (news := ints [k]) (by exact (Sl.one w.drew _ _).below hb1 (by simp)) (ints_one _) (by simp <;> omega) (by simp <;> omega) (by first | exact hb1.size | (have := hb1.size; simp at *; omega)) ?_; intro v2 w2 hown2 hb2 hg2; have hz2 := hb2.size; (try simp only [World.size_alloc, World.size_drew] at hz2))
          | (refine st_append rfl (.tmp 39) (.tmp 42) 25 rfl elemInt (v := v2) (by simp [Act.eval, Act.put]) hown2 (ad := if cap = j then some ⟨b, off, none⟩ else some ⟨b, off + j, none⟩) (m := 0) (c := cap - j) (by simp [Act.eval, Act.put]) (S' := S) (news := ints (xs.drop j)) (by exact HP2.out.below (B := w.heap.size) (by (repeat (first | (with_reducible exact Below.refl _ _) | (with_reducible assumption) | (with_reducible refine Below.alloc ?_ ?_ _) | (with_reducible refine Below.drew ?_) | (with_reducible refine Below.setCell ?_ ?_ _) | (refine Below.step ?_ (by with_reducible assumption) ?_) | go_size))) (Nat.le_refl _)) (ints_one _) (by simp <;> omega) (by simp <;> omega) (by have := hb1.size; have := hb2.size; simp at *; omega) ?_; intro v3 w3 hown3 hb3 hg3; have hz3 := hb3.size; (try simp only [World.size_alloc, World.size_drew] at hz3)))
        all_goals go_wp2
        all_goals
          obtain ⟨a', n', cap', rfl, hn', hs'⟩ := hown3.sl
          go_ret
          refine ⟨_, _, _, rfl, ?_, ?_, by (repeat (first | (with_reducible exact Below.refl _ _) | (with_reducible assumption) | (with_reducible refine Below.alloc ?_ ?_ _) | (with_reducible refine Below.drew ?_) | (with_reducible refine Below.setCell ?_ ?_ _) | (refine Below.step ?_ (by with_reducible assumption) ?_) | go_size))⟩
          · rw [hn', HI.out, HD.out]
            simp [ints, ins, HD.out]
          · have e : ints (ins k xs) = [] ++ ints (xs.take j) ++ ints [k] ++ ints (xs.drop j) := by
              rw [HI.out, HD.out]
              simp [ints, ins]
            rw [e]
            refine hs'.mono fun b hb _ => .inr ?_
            have := hb1.size
            have := hb2.size
            simp at *
            omega


def bools (gs : List Bool) : Array Value := (gs.map Value.bool).toArray
theorem bools_get (gs : List Bool) (i : Nat) : (bools gs)[i]? = (gs[i]?).map Value.bool := by simp [bools]
theorem bools_at (gs : List Bool) (i : Nat) (h : i < gs.length) : (bools gs)[i]? = some (.bool (gs.getD i false)) := by
  simp [bools, h]
theorem size_bools (gs : List Bool) : (bools gs).size = gs.length := by simp [bools]
theorem bools_set (gs : List Bool) (i : Nat) (b : Bool) : (bools gs).setIfInBounds i (.bool b) = bools (gs.set i b) := by
  simp [bools, List.map_set]
/-- A set in memory: the struct's block ps, the row gb of its flags gs. -/
structure SetAt (w : World) (ps gb : Nat) (gs : List Bool) : Prop where
  box : rowOf? w ps = some (#[.slice (some ⟨gb, 0, none⟩) gs.length gs.length], 71)
  row : rowOf? w gb = some (bools gs, 4)
  ne : ps ≠ gb
  small : gs.length ≤ 1024
theorem SetAt.frame {w w' : World} {ps gb : Nat} {gs : List Bool} (h : SetAt w ps gb gs) (h1 : w'.heap[ps]? = w.heap[ps]?) (h2 : w'.heap[gb]? = w.heap[gb]?) : SetAt w' ps gb gs :=
  ⟨(rowOf?_block h1).trans h.box, (rowOf?_block h2).trans h.row, h.ne, h.small⟩
theorem SetAt.below {w w' : World} {ps gb B : Nat} {gs : List Bool} (h : SetAt w ps gb gs) (hb : Below B w w') (h1 : ps < B) (h2 : gb < B) : SetAt w' ps gb gs :=
  h.frame (hb.block ps h1) (hb.block gb h2)

def guiltyB (gs : List Bool) (v : Int) : Bool := decide (0 ≤ v) && decide (v < gs.length) && gs.getD v.toNat false

set_option maxHeartbeats 400000 in
theorem guilty_any (ps gb : Nat) (gs : List Bool) (v : Int) (w : World) (h : SetAt w ps gb gs) :
    Calls Try.prog 22 #[.pointer (some ⟨ps, 0, none⟩), .int .i64 v] w fun e w' => e = .returned (.bool (guiltyB gs v)) ∧ w = w' := by
  have hs := h.small
  obtain ⟨pc, pf, _, _⟩ := rfacts h.box
  obtain ⟨gc, gf, _, _⟩ := rfacts h.row
  have p0 := pc 0
  clear pc pf gf h
  by_cases h0 : 0 ≤ v
  · by_cases h1 : v < gs.length
    · have hg := gc v.toNat
      rw [bools_at gs v.toNat (by omega)] at hg
      clear gc
      have hv : (guiltyB gs v) = gs.getD v.toNat false := by simp [guiltyB, h0, h1]
      rw [hv]
      obtain ⟨n, rfl⟩ := Int.eq_ofNat_of_zero_le h0
      simp only [Int.toNat_natCast] at hg ⊢
      generalize gs.getD n false = x at *
      go_enter Try.func22, Try.ntmps22
      go_wp2
      go_ret
      exact ⟨rfl, rfl⟩
    · have hv : (guiltyB gs v) = false := by simp [guiltyB, h1]
      rw [hv]
      clear gc
      go_enter Try.func22, Try.ntmps22
      go_wp2
      go_ret
      exact ⟨rfl, rfl⟩
  · have hv : (guiltyB gs v) = false := by simp [guiltyB, h0]
    rw [hv]
    clear gc
    go_enter Try.func22, Try.ntmps22
    go_wp2
    go_ret
    exact ⟨rfl, rfl⟩
end Go.Proofs.Ytkcgbcjiogpliaa
