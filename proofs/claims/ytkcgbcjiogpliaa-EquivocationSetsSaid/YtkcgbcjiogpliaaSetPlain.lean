/-
  Plain facts on ascending lists and lists of truth values: insertion, the indices of the true ones. No program.
-/
import Derived.Test.YtkcgbcjiogpliaaBase
namespace Go.FH
set_option linter.unusedVariables false
set_option linter.unusedSimpArgs false

/-- Inserting into an ascending list (forkheadref7.Insert). -/
def ins (x : Int) : List Int → List Int
  | [] => [x]
  | y :: r => if y < x then y :: ins x r else if y = x then y :: r else x :: y :: r

theorem ins_skip (x : Int) (xs : List Int) : ∀ (k : Nat), k ≤ xs.length → (∀ j (h : j < xs.length), j < k → xs[j] < x) → ins x xs = xs.take k ++ ins x (xs.drop k) := by
  induction xs with
  | nil => intro k hk _; simp at hk; subst hk; simp
  | cons y r ih =>
    intro k hk h
    cases k with
    | zero => simp
    | succ k =>
      have h0 : y < x := by have := h 0 (by simp) (by omega); simpa using this
      simp only [ins, h0, if_true, List.take_succ_cons, List.drop_succ_cons, List.cons_append, List.cons.injEq, true_and]
      refine ih k (by simpa using hk) (fun j hj hjk => ?_)
      have := h (j + 1) (by simpa using hj) (by omega)
      simpa using this

theorem ins_range (p : Nat → Bool) (k : Nat) : ∀ (n s : Nat), s ≤ k → k < s + n →
    ((List.range' s n).filter (fun i => p i || i == k)).map (Int.ofNat) = ins k (((List.range' s n).filter p).map Int.ofNat) := by
  intro n
  induction n with
  | zero => intro s h1 h2; omega
  | succ n ih =>
    intro s h1 h2
    rw [List.range'_succ]
    by_cases hs : s = k
    · subst hs
      have hrest : (List.range' (s + 1) n).filter (fun i => p i || i == s) = (List.range' (s + 1) n).filter p := by
        apply List.filter_congr
        intro i hi
        have := List.mem_range'_1.1 hi
        have : (i == s) = false := by simp; omega
        simp [this]
      cases hp : p s
      · simp only [List.filter_cons, hp, beq_self_eq_true, Bool.or_true, if_true, List.map_cons, hrest, Bool.false_eq_true, if_false]
        cases hr : ((List.range' (s + 1) n).filter p).map Int.ofNat with
        | nil => simp [ins]
        | cons y r =>
          have hy : (s : Int) < y := by
            have hm : y ∈ ((List.range' (s + 1) n).filter p).map Int.ofNat := by rw [hr]; simp
            simp only [List.mem_map, List.mem_filter, List.mem_range'_1] at hm
            obtain ⟨a, ⟨⟨ha, _⟩, _⟩, rfl⟩ := hm
            simp; omega
          have h3 : ¬ y < (s : Int) := by omega
          have h4 : ¬ y = (s : Int) := by omega
          simp [ins, h3, h4]
      · simp [List.filter_cons, hp, hrest, ins]
    · have hks : (s == k) = false := by simp; omega
      have ih' := ih (s + 1) (by omega) (by omega)
      cases hp : p s
      · simp only [List.filter_cons, hp, hks, Bool.or_self, Bool.false_eq_true, if_false]
        exact ih'
      · have hlt : (s : Int) < (k : Int) := by omega
        simp only [List.filter_cons, hp, hks, Bool.or_false, if_true, List.map_cons, ins]
        rw [if_pos (by simpa using hlt), ih']

/-- The indices of the true ones among the first j. -/
def memUpto (gs : List Bool) (j : Nat) : List Int := ((List.range j).filter fun i => gs.getD i false).map Int.ofNat
def mem (gs : List Bool) : List Int := memUpto gs gs.length
theorem memUpto_zero (gs : List Bool) : memUpto gs 0 = [] := by simp [memUpto]
theorem memUpto_succ (gs : List Bool) (j : Nat) : memUpto gs (j + 1) = memUpto gs j ++ (if gs.getD j false then [(j : Int)] else []) := by
  simp only [memUpto, List.range_succ, List.filter_append, List.map_append]
  congr 1
  cases h : gs.getD j false <;> simp only [List.filter_cons, List.filter_nil, h, if_true, Bool.false_eq_true, if_false] <;> rfl
theorem memUpto_length (gs : List Bool) (j : Nat) : (memUpto gs j).length ≤ j := by
  simp only [memUpto, List.length_map]
  exact Nat.le_trans (List.length_filter_le _ _) (by simp)
theorem mem_set (gs : List Bool) (k : Nat) (h : k < gs.length) : mem (gs.set k true) = ins k (mem gs) := by
  unfold mem memUpto
  rw [List.length_set, List.range_eq_range', ← ins_range _ k gs.length 0 (by omega) (by omega)]
  congr 1
  apply List.filter_congr
  intro i hi
  have := List.mem_range'_1.1 hi
  simp only [List.getD_eq_getElem?_getD, List.getElem?_set]
  by_cases hik : k = i
  · subst hik; simp [h]
  · have h2 : (i == k) = false := by simp; omega
    simp [hik, h2]
theorem mem_mem (gs : List Bool) (v : Int) : v ∈ mem gs ↔ 0 ≤ v ∧ v < gs.length ∧ gs.getD v.toNat false = true := by
  simp only [mem, memUpto, List.mem_map, List.mem_filter, List.mem_range]
  constructor
  · rintro ⟨a, ⟨h1, h2⟩, rfl⟩
    refine ⟨by simp, by simpa using h1, by simpa using h2⟩
  · rintro ⟨h1, h2, h3⟩
    exact ⟨v.toNat, ⟨by omega, h3⟩, by simp; omega⟩
theorem mem_replicate (n : Nat) : mem (List.replicate n false) = [] := by
  simp only [mem, memUpto, List.map_eq_nil_iff, List.filter_eq_nil_iff]
  intro a _
  simp [List.getD_eq_getElem?_getD, List.getElem?_replicate]
  split <;> simp

/-- Marking a list of validators, and the number of those that were not marked before. -/
def markAll (gs : List Bool) : List Int → List Bool
  | [] => gs
  | v :: r => markAll (gs.set v.toNat true) r
def fresh (gs : List Bool) : List Int → Nat
  | [] => 0
  | v :: r => (if gs.getD v.toNat false then 0 else 1) + fresh (gs.set v.toNat true) r
theorem mark_length (gs : List Bool) (l : List Int) : (markAll gs l).length = gs.length := by
  induction l generalizing gs with
  | nil => rfl
  | cons v r ih => simp [markAll, ih]
theorem fresh_le (gs : List Bool) (l : List Int) : fresh gs l ≤ l.length := by
  induction l generalizing gs with
  | nil => simp [fresh]
  | cons v r ih => have := ih (gs.set v.toNat true); simp only [fresh, List.length_cons]; split <;> omega
theorem mem_mark (gs : List Bool) (l : List Int) (h : ∀ v ∈ l, 0 ≤ v ∧ v < gs.length) : mem (markAll gs l) = l.foldl (fun a v => ins v a) (mem gs) := by
  induction l generalizing gs with
  | nil => rfl
  | cons v r ih =>
    have hv := h v (by simp)
    simp only [markAll, List.foldl_cons]
    rw [ih _ (fun u hu => by rw [List.length_set]; exact h u (by simp [hu])), mem_set gs v.toNat (by omega)]
    congr 2
    omega

theorem mark_snoc (gs : List Bool) (l : List Int) (v : Int) : markAll gs (l ++ [v]) = (markAll gs l).set v.toNat true := by
  induction l generalizing gs with
  | nil => rfl
  | cons u r ih => simp only [List.cons_append, markAll, ih]
theorem fresh_snoc (gs : List Bool) (l : List Int) (v : Int) : fresh gs (l ++ [v]) = fresh gs l + (if (markAll gs l).getD v.toNat false then 0 else 1) := by
  induction l generalizing gs with
  | nil => simp [fresh, markAll]
  | cons u r ih => simp only [List.cons_append, fresh, markAll, ih, Nat.add_assoc]; rfl
theorem set_same (gs : List Bool) (k : Nat) (h : gs.getD k false = true) : gs.set k true = gs := by
  apply List.ext_getElem?
  intro i
  rw [List.getElem?_set]
  by_cases hk : k = i
  · subst hk
    rw [List.getD_eq_getElem?_getD] at h
    cases hg : gs[k]? with
    | none => rw [hg] at h; simp at h
    | some b =>
      rw [hg] at h
      have hlt := (List.getElem?_eq_some_iff.1 hg).1
      simp only [Option.getD_some] at h
      simp [hlt, h]
  · simp [hk]
theorem mark_getD (gs : List Bool) (l : List Int) (k : Nat) (h : gs.getD k false = true) : (markAll gs l).getD k false = true := by
  induction l generalizing gs with
  | nil => exact h
  | cons v r ih =>
    apply ih
    rw [List.getD_eq_getElem?_getD, List.getElem?_set]
    rw [List.getD_eq_getElem?_getD] at h
    by_cases hk : v.toNat = k
    · subst hk
      by_cases hl : v.toNat < gs.length
      · simp [hl]
      · rw [List.getElem?_eq_none (by omega)] at h; simp at h
    · simpa [hk] using h
theorem ins_length (x : Int) (l : List Int) : (ins x l).length ≤ l.length + 1 := by
  induction l with
  | nil => simp [ins]
  | cons y r ih =>
    simp only [ins]
    split
    · simp only [List.length_cons]; omega
    · split <;> simp only [List.length_cons] <;> omega
theorem foldl_ins_snoc (l : List Int) (v : Int) (acc : List Int) : (l ++ [v]).foldl (fun a u => ins u a) acc = ins v (l.foldl (fun a u => ins u a) acc) := by
  simp [List.foldl_append]
theorem foldl_ins_length (l : List Int) (acc : List Int) : (l.foldl (fun a u => ins u a) acc).length ≤ acc.length + l.length := by
  induction l generalizing acc with
  | nil => simp
  | cons v r ih => have := ih (ins v acc); have := ins_length v acc; simp only [List.foldl_cons, List.length_cons]; omega
theorem mem_ins (x : Int) (l : List Int) (y : Int) : y ∈ ins x l ↔ y = x ∨ y ∈ l := by
  induction l with
  | nil => simp [ins]
  | cons z r ih =>
    simp only [ins]
    split
    · simp [ih]; constructor
      · rintro (h | h | h) <;> simp [h]
      · rintro (h | h | h) <;> simp [h]
    · split
      · rename_i h; subst h; simp
      · simp

theorem cnt_range (p : Nat → Bool) (k : Nat) : ∀ (n s : Nat), ((List.range' s n).filter (fun i => p i || i == k)).length = ((List.range' s n).filter p).length + (if s ≤ k ∧ k < s + n ∧ p k = false then 1 else 0) := by
  intro n
  induction n with
  | zero => intro s; simp; intro h1 h2; omega
  | succ n ih =>
    intro s
    rw [List.range'_succ]
    have ih' := ih (s + 1)
    by_cases hs : s = k
    · subst hs
      rw [if_neg (by omega)] at ih'
      cases hp : p s
      · simp only [List.filter_cons, hp, beq_self_eq_true, Bool.or_true, if_true, List.length_cons, Bool.false_eq_true, if_false, ih', Nat.add_zero]
        rw [if_pos ⟨Nat.le_refl _, by omega, trivial⟩]
      · simp only [List.filter_cons, hp, Bool.true_or, if_true, List.length_cons, ih', Nat.add_zero]
        rw [if_neg (by simp)]
    · have hks : (s == k) = false := by simp; omega
      have e : (s ≤ k ∧ k < s + (n + 1) ∧ p k = false) ↔ (s + 1 ≤ k ∧ k < s + 1 + n ∧ p k = false) := by
        constructor
        · rintro ⟨h1, h2, h3⟩; exact ⟨by omega, by omega, h3⟩
        · rintro ⟨h1, h2, h3⟩; exact ⟨by omega, by omega, h3⟩
      simp only [e]
      cases hp : p s
      · simp only [List.filter_cons, hp, hks, Bool.or_self, Bool.false_eq_true, if_false]; exact ih'
      · simp only [List.filter_cons, hp, Bool.true_or, if_true, List.length_cons, ih']; omega
theorem mem_set_length (gs : List Bool) (k : Nat) (h : k < gs.length) : (mem (gs.set k true)).length = (mem gs).length + (if gs.getD k false then 0 else 1) := by
  unfold mem memUpto
  rw [List.length_set, List.length_map, List.length_map, List.range_eq_range']
  have hc := cnt_range (fun i => gs.getD i false) k gs.length 0
  have e : (List.range' 0 gs.length).filter (fun i => (gs.set k true).getD i false) = (List.range' 0 gs.length).filter (fun i => gs.getD i false || i == k) := by
    apply List.filter_congr
    intro i hi
    have := List.mem_range'_1.1 hi
    simp only [List.getD_eq_getElem?_getD, List.getElem?_set]
    by_cases hik : k = i
    · subst hik; simp [h]
    · have h2 : (i == k) = false := by simp; omega
      simp [hik, h2]
  rw [e, hc]
  cases hk : gs.getD k false
  · rw [if_pos ⟨Nat.zero_le _, by omega, rfl⟩]; rfl
  · rw [if_neg (by simp)]; rfl
theorem mem_mark_length (gs : List Bool) (l : List Int) (h : ∀ v ∈ l, 0 ≤ v ∧ v < gs.length) : (mem (markAll gs l)).length = (mem gs).length + fresh gs l := by
  induction l generalizing gs with
  | nil => simp [markAll, fresh]
  | cons v r ih =>
    have hv := h v (by simp)
    simp only [markAll, fresh]
    rw [ih _ (fun u hu => by rw [List.length_set]; exact h u (by simp [hu])), mem_set_length gs v.toNat (by omega)]
    omega
theorem mem_markAll_of (gs : List Bool) (l : List Int) (v : Int) (h : v ∈ mem gs) : v ∈ mem (markAll gs l) := by
  rw [mem_mem] at h ⊢
  rw [mark_length]
  exact ⟨h.1, h.2.1, mark_getD gs l _ h.2.2⟩
theorem mem_length (gs : List Bool) : (mem gs).length ≤ gs.length := memUpto_length gs gs.length
end Go.FH
