/-
  Sorted lists of numbers; what a map holds. No program in sight.
-/
import Derived.Test.YtdkahoohedljhaaIb
namespace Go.Proofs.Ytdkahoohedljhaa
set_option linter.unusedVariables false
set_option linter.unusedSimpArgs false

theorem sorted_ext : ∀ (a b : List Int), a.Pairwise (· < ·) → b.Pairwise (· < ·) → (∀ x, x ∈ a ↔ x ∈ b) → a = b
  | [], [], _, _, _ => rfl
  | [], y :: ys, _, _, h => by have := (h y).2 (by simp); simp at this
  | x :: xs, [], _, _, h => by have := (h x).1 (by simp); simp at this
  | x :: xs, y :: ys, ha, hb, h => by
    rw [List.pairwise_cons] at ha hb
    have h1 : x = y := by
      have p1 := (h x).1 (by simp)
      have p2 := (h y).2 (by simp)
      rcases List.mem_cons.1 p1 with e | e
      · exact e
      · rcases List.mem_cons.1 p2 with e2 | e2
        · exact e2.symm
        · have := ha.1 y e2
          have := hb.1 x e
          omega
    subst h1
    congr 1
    refine sorted_ext xs ys ha.2 hb.2 fun z => ⟨fun hz => ?_, fun hz => ?_⟩
    · rcases List.mem_cons.1 ((h z).1 (List.mem_cons_of_mem _ hz)) with e | e
      · subst e; have := ha.1 z hz; omega
      · exact e
    · rcases List.mem_cons.1 ((h z).2 (List.mem_cons_of_mem _ hz)) with e | e
      · subst e; have := hb.1 z hz; omega
      · exact e
theorem insL_mem (v x : Int) : ∀ l : List Int, x ∈ insL l v ↔ x = v ∨ x ∈ l
  | [] => by simp [insL]
  | a :: r => by
    have ih := insL_mem v x r
    unfold insL
    split
    · simp only [List.mem_cons, ih]
      constructor
      · rintro (h | h | h)
        · exact .inr (.inl h)
        · exact .inl h
        · exact .inr (.inr h)
      · rintro (h | h | h)
        · exact .inr (.inl h)
        · exact .inl h
        · exact .inr (.inr h)
    · split
      · rename_i h; subst h
        simp only [List.mem_cons]
        constructor
        · exact fun h => .inr h
        · rintro (h | h)
          · exact .inl h
          · exact h
      · simp only [List.mem_cons]
theorem insL_sorted (v : Int) : ∀ l : List Int, l.Pairwise (· < ·) → (insL l v).Pairwise (· < ·)
  | [], _ => by simp [insL]
  | a :: r, h => by
    rw [List.pairwise_cons] at h
    have ih := insL_sorted v r h.2
    unfold insL
    split
    · rename_i h1
      rw [List.pairwise_cons]
      refine ⟨fun x hx => ?_, ih⟩
      rcases (insL_mem v x r).1 hx with e | e
      · omega
      · exact h.1 x e
    · split
      · rw [List.pairwise_cons]; exact h
      · rename_i h1 h2
        rw [List.pairwise_cons, List.pairwise_cons]
        refine ⟨fun x hx => ?_, h⟩
        rcases List.mem_cons.1 hx with e | e
        · omega
        · have := h.1 x e; omega
theorem culR_spec (l m : List Int) : ∀ i, i ≤ l.length → (culR l m i).Pairwise (· < ·) ∧ ∀ x, x ∈ culR l m i ↔ x ∈ l.take i ∧ x ∈ m
  | 0, _ => ⟨by simp [culR], by simp [culR]⟩
  | i + 1, h => by
    have h1 : i < l.length := h
    obtain ⟨g1, g2⟩ := culR_spec l m i (by omega)
    have e0 : l[i] = l.getD i 0 := by rw [List.getD_eq_getElem?_getD, List.getElem?_eq_getElem h1]; rfl
    have ht : ∀ x, x ∈ l.take (i + 1) ↔ x ∈ l.take i ∨ x = l.getD i 0 := by
      intro x
      rw [List.take_add_one, List.getElem?_eq_getElem h1, e0]
      simp
    rw [culR_s h1]
    by_cases hm : l.getD i 0 ∈ m
    · rw [if_pos hm]
      refine ⟨insL_sorted _ _ g1, fun x => ?_⟩
      rw [insL_mem, g2, ht]
      constructor
      · rintro (e | ⟨e1, e2⟩)
        · subst e; exact ⟨.inr rfl, hm⟩
        · exact ⟨.inl e1, e2⟩
      · rintro ⟨e | e, e2⟩
        · exact .inr ⟨e, e2⟩
        · exact .inl e
    · rw [if_neg hm]
      refine ⟨g1, fun x => ?_⟩
      rw [g2, ht]
      constructor
      · rintro ⟨e1, e2⟩; exact ⟨.inl e1, e2⟩
      · rintro ⟨e | e, e2⟩
        · exact ⟨e, e2⟩
        · subst e; exact absurd e2 hm

/-- A map with an entry set. -/
def upB (m : List (Int × Bool)) (v : Int) (b : Bool) : List (Int × Bool) := match m.findIdx? (fun p => p.1 == v) with
  | some j => m.set j (v, b)
  | none => m ++ [(v, b)]
/-- The map once the first numbers of the first list are in, and the one once those of the second have been looked up. -/
def mp1 (l : List Int) (i : Nat) : List (Int × Bool) := (l.take i).foldl (fun m v => upB m v false) []
def mp2 (l m : List Int) (i : Nat) : List (Int × Bool) := (m.take i).foldl (fun M v => if (M.findIdx? (fun p => p.1 == v)).isSome then upB M v true else M) (mp1 l l.length)
theorem mp1_s {l : List Int} {i : Nat} (h : i < l.length) : mp1 l (i + 1) = upB (mp1 l i) (l.getD i 0) false := by
  have e0 : l[i] = l.getD i 0 := by rw [List.getD_eq_getElem?_getD, List.getElem?_eq_getElem h]; rfl
  unfold mp1
  rw [List.take_add_one, List.getElem?_eq_getElem h, Option.toList_some, List.foldl_append, List.foldl_cons, List.foldl_nil, e0]
theorem mp2_s {l m : List Int} {i : Nat} (h : i < m.length) : mp2 l m (i + 1) = if ((mp2 l m i).findIdx? (fun p => p.1 == m.getD i 0)).isSome then upB (mp2 l m i) (m.getD i 0) true else mp2 l m i := by
  have e0 : m[i] = m.getD i 0 := by rw [List.getD_eq_getElem?_getD, List.getElem?_eq_getElem h]; rfl
  unfold mp2
  rw [List.take_add_one, List.getElem?_eq_getElem h, Option.toList_some, List.foldl_append, List.foldl_cons, List.foldl_nil, e0]
theorem upB_found {m : List (Int × Bool)} {v : Int} {j : Nat} (h : m.findIdx? (fun p => p.1 == v) = some j) : ∃ q, m[j]? = some (v, q) := by
  obtain ⟨h1, h2, _⟩ := List.findIdx?_eq_some_iff_getElem.1 h
  refine ⟨m[j].2, ?_⟩
  rw [List.getElem?_eq_getElem h1]
  have : m[j].1 = v := by simpa using h2
  rw [← this]
theorem upB_keys (m : List (Int × Bool)) (v : Int) (b : Bool) : (upB m v b).map (·.1) = if v ∈ m.map (·.1) then m.map (·.1) else m.map (·.1) ++ [v] := by
  unfold upB
  split
  · rename_i j hj
    obtain ⟨q, hq⟩ := upB_found hj
    have hmem : v ∈ m.map (·.1) := List.mem_map.2 ⟨(v, q), List.mem_of_getElem? hq, rfl⟩
    rw [if_pos hmem]
    apply List.ext_getElem?
    intro i
    simp only [List.getElem?_map, List.getElem?_set]
    by_cases hij : j = i
    · subst hij
      have hlt : j < m.length := (List.getElem?_eq_some_iff.1 hq).1
      have e : m[j] = (v, q) := by simpa [hlt] using hq
      simp [hlt, e]
    · simp [hij]
  · rename_i hn
    have hmem : v ∉ m.map (·.1) := by
      intro hv
      obtain ⟨p, hp, rfl⟩ := List.mem_map.1 hv
      have := List.findIdx?_eq_none_iff.1 hn p hp
      simp at this
    rw [if_neg hmem]
    simp
theorem found_iff (m : List (Int × Bool)) (v : Int) : (m.findIdx? (fun p => p.1 == v)).isSome = true ↔ v ∈ m.map (·.1) := by
  rw [List.findIdx?_isSome, List.any_eq_true]
  simp only [List.mem_map, beq_iff_eq]
theorem upB_mem {m : List (Int × Bool)} {v : Int} {b : Bool} (hd : (m.map (·.1)).Nodup) (k : Int) (q : Bool) : (k, q) ∈ upB m v b ↔ (k = v ∧ q = b) ∨ (k ≠ v ∧ (k, q) ∈ m) := by
  unfold upB
  split
  · rename_i j hj
    obtain ⟨q0, hq⟩ := upB_found hj
    have hlt : j < m.length := (List.getElem?_eq_some_iff.1 hq).1
    have uniq : ∀ i p, m[i]? = some p → p.1 = v → i = j := by
      intro i p hi hp
      have h1 : (m.map (·.1))[i]? = some v := by rw [List.getElem?_map, hi]; simp [hp]
      have h2 : (m.map (·.1))[j]? = some v := by rw [List.getElem?_map, hq]; rfl
      exact (List.getElem?_inj (by rw [List.length_map]; exact (List.getElem?_eq_some_iff.1 hi).1) hd).1 (by rw [h1, h2])
    constructor
    · intro h
      obtain ⟨i, hi⟩ := List.mem_iff_getElem?.1 h
      rw [List.getElem?_set] at hi
      by_cases hij : j = i
      · subst hij
        simp [hlt] at hi
        exact .inl ⟨hi.1.symm, hi.2.symm⟩
      · rw [if_neg hij] at hi
        refine .inr ⟨fun e => hij (uniq i _ hi e).symm, List.mem_of_getElem? hi⟩
    · rintro (⟨rfl, rfl⟩ | ⟨h1, h2⟩)
      · exact List.mem_of_getElem? (i := j) (by simp [hlt])
      · obtain ⟨i, hi⟩ := List.mem_iff_getElem?.1 h2
        have hij : j ≠ i := by
          rintro rfl
          rw [hq] at hi
          simp only [Option.some.injEq, Prod.mk.injEq] at hi
          exact h1 hi.1.symm
        exact List.mem_of_getElem? (i := i) (by rw [List.getElem?_set, if_neg hij]; exact hi)
  · rename_i hn
    have hno : ∀ p ∈ m, p.1 ≠ v := fun p hp e => by
      have := List.findIdx?_eq_none_iff.1 hn p hp
      simp [e] at this
    rw [List.mem_append, List.mem_singleton, Prod.mk.injEq]
    constructor
    · rintro (h | h)
      · exact .inr ⟨hno _ h, h⟩
      · exact .inl h
    · rintro (h | h)
      · exact .inr h
      · exact .inl h.2
theorem mp1_spec (l : List Int) : ∀ i, i ≤ l.length → ((mp1 l i).map (·.1)).Nodup ∧ (∀ x, x ∈ (mp1 l i).map (·.1) ↔ x ∈ l.take i) ∧ ∀ k q, (k, q) ∈ mp1 l i → q = false
  | 0, _ => ⟨by simp [mp1], by simp [mp1], by simp [mp1]⟩
  | i + 1, h => by
    have h1 : i < l.length := h
    obtain ⟨g1, g2, g3⟩ := mp1_spec l i (by omega)
    have e0 : l[i] = l.getD i 0 := by rw [List.getD_eq_getElem?_getD, List.getElem?_eq_getElem h1]; rfl
    have ht : ∀ x, x ∈ l.take (i + 1) ↔ x ∈ l.take i ∨ x = l.getD i 0 := by
      intro x
      rw [List.take_add_one, List.getElem?_eq_getElem h1, e0]
      simp
    rw [mp1_s h1]
    refine ⟨?_, fun x => ?_, fun k q hk => ?_⟩
    · rw [upB_keys]
      split
      · exact g1
      · rename_i hn
        rw [List.nodup_append]
        refine ⟨g1, by simp, fun a ha b hb => ?_⟩
        simp only [List.mem_singleton] at hb
        subst hb
        rintro rfl
        exact hn ha
    · rw [upB_keys, ht]
      split
      · rename_i hin
        rw [g2]
        constructor
        · exact .inl
        · rintro (e | e)
          · exact e
          · subst e; exact (g2 _).1 hin
      · rw [List.mem_append, List.mem_singleton, g2]
    · rcases (upB_mem g1 k q).1 hk with ⟨_, e⟩ | ⟨_, e⟩
      · exact e
      · exact g3 k q e
theorem mp2_spec (l m : List Int) : ∀ i, i ≤ m.length → (mp2 l m i).map (·.1) = (mp1 l l.length).map (·.1) ∧ ∀ k q, (k, q) ∈ mp2 l m i ↔ k ∈ l ∧ q = decide (k ∈ m.take i)
  | 0, _ => by
    obtain ⟨g1, g2, g3⟩ := mp1_spec l l.length (Nat.le_refl _)
    refine ⟨rfl, fun k q => ?_⟩
    show (k, q) ∈ mp1 l l.length ↔ _
    rw [List.take_length] at g2
    constructor
    · intro h
      exact ⟨(g2 k).1 (List.mem_map.2 ⟨_, h, rfl⟩), by simpa using g3 k q h⟩
    · rintro ⟨h1, h2⟩
      obtain ⟨p, hp, rfl⟩ := List.mem_map.1 ((g2 k).2 h1)
      have := g3 p.1 p.2 hp
      have h3 : q = false := by simpa using h2
      rw [h3, ← this]
      exact hp
  | i + 1, h => by
    have h1 : i < m.length := h
    obtain ⟨g1, g2, g3⟩ := mp1_spec l l.length (Nat.le_refl _)
    obtain ⟨k1, k2⟩ := mp2_spec l m i (by omega)
    rw [List.take_length] at g2
    have e0 : m[i] = m.getD i 0 := by rw [List.getD_eq_getElem?_getD, List.getElem?_eq_getElem h1]; rfl
    have ht : ∀ x, x ∈ m.take (i + 1) ↔ x ∈ m.take i ∨ x = m.getD i 0 := by
      intro x
      rw [List.take_add_one, List.getElem?_eq_getElem h1, e0]
      simp
    rw [mp2_s h1]
    by_cases hf : ((mp2 l m i).findIdx? (fun p => p.1 == m.getD i 0)).isSome = true
    · rw [if_pos hf]
      have hin := (found_iff _ _).1 hf
      refine ⟨by rw [upB_keys, if_pos hin, k1], fun k q => ?_⟩
      rw [upB_mem (by rw [k1]; exact g1), k2]
      have hl : m.getD i 0 ∈ l := (g2 _).1 (by rw [← k1]; exact hin)
      constructor
      · rintro (⟨rfl, rfl⟩ | ⟨e1, e2, e3⟩)
        · exact ⟨hl, (decide_eq_true ((ht _).2 (.inr rfl))).symm⟩
        · refine ⟨e2, ?_⟩
          rw [e3]
          refine decide_eq_decide.2 ?_
          rw [ht]
          simp only [e1, or_false]
      · rintro ⟨e1, e2⟩
        by_cases hk : k = m.getD i 0
        · left
          refine ⟨hk, ?_⟩
          rw [e2]
          exact decide_eq_true ((ht _).2 (.inr hk))
        · right
          refine ⟨hk, e1, ?_⟩
          rw [e2]
          refine decide_eq_decide.2 ?_
          rw [ht]
          simp only [hk, or_false]
    · rw [if_neg hf]
      refine ⟨k1, fun k q => ?_⟩
      rw [k2]
      have hno : m.getD i 0 ∉ l := fun hl => hf ((found_iff _ _).2 (by rw [k1]; exact (g2 _).2 hl))
      constructor
      · rintro ⟨e1, e2⟩
        refine ⟨e1, ?_⟩
        rw [e2]
        refine decide_eq_decide.2 ?_
        rw [ht]
        have : k ≠ m.getD i 0 := fun e => hno (e ▸ e1)
        simp only [this, or_false]
      · rintro ⟨e1, e2⟩
        refine ⟨e1, ?_⟩
        rw [e2]
        refine decide_eq_decide.2 ?_
        rw [ht]
        have : k ≠ m.getD i 0 := fun e => hno (e ▸ e1)
        simp only [this, or_false]
theorem upB_len (m : List (Int × Bool)) (v : Int) (b : Bool) : (upB m v b).length ≤ m.length + 1 := by
  unfold upB
  split <;> simp
theorem mp1_len (l : List Int) : ∀ i, (mp1 l i).length ≤ i
  | 0 => by simp [mp1]
  | i + 1 => by
    have ih := mp1_len l i
    by_cases h : i < l.length
    · rw [mp1_s h]
      have := upB_len (mp1 l i) (l.getD i 0) false
      omega
    · have : mp1 l (i + 1) = mp1 l i := by unfold mp1; rw [List.take_of_length_le (by omega), List.take_of_length_le (by omega)]
      rw [this]; omega
/-- What a walk over a map has laid aside. -/
def outS (M : List (Int × Bool)) (seen : List Nat) : List Int := seen.filterMap fun i => (M[i]?).bind fun p => if p.2 then some p.1 else none
theorem outS_s (M : List (Int × Bool)) (seen : List Nat) (i : Nat) (h : i < M.length) : outS M (seen ++ [i]) = if M[i].2 then outS M seen ++ [M[i].1] else outS M seen := by
  unfold outS
  rw [List.filterMap_append]
  simp only [List.filterMap_cons, List.filterMap_nil, List.getElem?_eq_getElem h, Option.bind_some]
  cases M[i].2 <;> simp
theorem outS_len (M : List (Int × Bool)) (seen : List Nat) : (outS M seen).length ≤ seen.length := List.length_filterMap_le _ _
theorem outS_sorted (l m : List Int) (seen : List Nat) (hn : seen.Nodup) (hall : ∀ i, i < (mp2 l m m.length).length → i ∈ seen) :
    (outS (mp2 l m m.length) seen).mergeSort (fun x y => decide (x ≤ y)) = culR l m l.length := by
  obtain ⟨g1, g2, g3⟩ := mp1_spec l l.length (Nat.le_refl _)
  obtain ⟨k1, k2⟩ := mp2_spec l m m.length (Nat.le_refl _)
  obtain ⟨c1, c2⟩ := culR_spec l m l.length (Nat.le_refl _)
  rw [List.take_length] at c2 k2
  generalize hM : mp2 l m m.length = M at *
  have hkeys : (M.map (·.1)).Nodup := by rw [k1]; exact g1
  have hmem : ∀ x, x ∈ outS M seen ↔ x ∈ l ∧ x ∈ m := by
    intro x
    unfold outS
    rw [List.mem_filterMap]
    constructor
    · rintro ⟨i, hi, h⟩
      obtain ⟨p, hp, hq⟩ := Option.bind_eq_some_iff.1 h
      have := (k2 p.1 p.2).1 (List.mem_of_getElem? hp)
      split at hq
      · rename_i ht
        simp only [Option.some.injEq] at hq
        subst hq
        rw [ht] at this
        exact ⟨this.1, of_decide_eq_true this.2.symm⟩
      · cases hq
    · rintro ⟨h1, h2⟩
      have : (x, true) ∈ M := (k2 x true).2 ⟨h1, (decide_eq_true h2).symm⟩
      obtain ⟨i, hi⟩ := List.mem_iff_getElem?.1 this
      exact ⟨i, hall i (List.getElem?_eq_some_iff.1 hi).1, by rw [hi]; rfl⟩
  have hnd : (outS M seen).Nodup := by
    unfold outS
    clear hall hmem
    induction seen with
    | nil => simp
    | cons i r ih =>
      rw [List.nodup_cons] at hn
      rw [List.filterMap_cons]
      split
      · exact ih hn.2
      · rename_i x hx
        rw [List.nodup_cons]
        refine ⟨fun hin => ?_, ih hn.2⟩
        obtain ⟨j, hj, hx2⟩ := List.mem_filterMap.1 hin
        obtain ⟨p, hp, hq⟩ := Option.bind_eq_some_iff.1 hx
        obtain ⟨p2, hp2, hq2⟩ := Option.bind_eq_some_iff.1 hx2
        have e1 : p.1 = x := by split at hq <;> simp_all
        have e2 : p2.1 = x := by split at hq2 <;> simp_all
        have h1 : (M.map (·.1))[i]? = some x := by rw [List.getElem?_map, hp]; simp [e1]
        have h2 : (M.map (·.1))[j]? = some x := by rw [List.getElem?_map, hp2]; simp [e2]
        have : i = j := (List.getElem?_inj (by rw [List.length_map]; exact (List.getElem?_eq_some_iff.1 hp).1) hkeys).1 (by rw [h1, h2])
        subst this
        exact hn.1 hj
  refine sorted_ext _ _ ?_ c1 fun x => ?_
  · have hs := List.pairwise_mergeSort (le := fun x y : Int => decide (x ≤ y)) (fun a b c h1 h2 => by simp at *; omega) (fun a b => by simp; omega) (outS M seen)
    have hn2 : ((outS M seen).mergeSort (fun x y => decide (x ≤ y))).Nodup := (List.mergeSort_perm _ _).nodup_iff.2 hnd
    exact (hs.and hn2).imp (fun {a b} h => by have h1 : a ≤ b := by simpa using h.1
                                              have h2 : a ≠ b := h.2
                                              omega)
  · rw [(List.mergeSort_perm _ _).mem_iff, hmem, c2]
theorem left_lt {n i : Nat} {seen : List Nat} (hi : i < n) (hs : i ∉ seen) : ((List.range n).filter fun j => decide (j ∉ seen ++ [i])).length < ((List.range n).filter fun j => decide (j ∉ seen)).length := by
  have e : ((List.range n).filter fun j => decide (j ∉ seen ++ [i])) = ((List.range n).filter fun j => decide (j ∉ seen)).filter fun j => decide (j ≠ i) := by
    rw [List.filter_filter]
    apply List.filter_congr
    intro j _
    by_cases h1 : j ∈ seen <;> by_cases h2 : j = i <;> simp [h1, h2]
  rw [e]
  exact List.length_filter_lt_length_iff_exists.2 ⟨i, List.mem_filter.2 ⟨List.mem_range.2 hi, by simpa using hs⟩, by simp⟩
theorem nodup_snoc {seen : List Nat} {i : Nat} (h : seen.Nodup) (hi : i ∉ seen) : (seen ++ [i]).Nodup := by
  rw [List.nodup_append]
  refine ⟨h, by simp, fun a ha b hb => ?_⟩
  simp only [List.mem_singleton] at hb
  subst hb
  rintro rfl
  exact hi ha
end Go.Proofs.Ytdkahoohedljhaa
