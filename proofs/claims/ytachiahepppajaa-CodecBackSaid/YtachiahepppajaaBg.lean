/-
  The abstract walk, part 16: what an operation looks at, of slots and of objects. It holds of any program.
-/
import Derived.Test.YtachiahepppajaaBf
namespace Go.FH
set_option linter.unusedVariables false
set_option linter.unusedSimpArgs false
open Go Go.RowKit

theorem bndO_congr {ρ ρ2 : Opd → AV} {d : Int} {lo : Option Opd} (h : ∀ x ∈ lo.toList, ρ x = ρ2 x) : bndO ρ d lo = bndO ρ2 d lo := by
  cases lo with
  | none => rfl
  | some x => simp only [bndO, h x (by simp)]
theorem opF_congr {n : Nat} {σ : St} {ρ ρ2 : Opd → AV} {K : AV → List Nat → Bool → St → Prop} {op : AOp} (h : ∀ x ∈ op.opds, ρ x = ρ2 x) : opF n σ ρ K op = opF n σ ρ2 K op := by
  cases op <;> simp only [AOp.opds, List.mem_cons, List.not_mem_nil, or_false, forall_eq_or_imp, forall_eq] at h <;> simp only [opF]
  case pick c a b => rw [h.1, h.2.1, h.2.2]
  case bld z ps =>
    have e : (ps.map fun p => (p.1, p.2.1, ρ p.2.2)) = ps.map fun p => (p.1, p.2.1, ρ2 p.2.2) := List.map_congr_left fun p hp => by rw [h _ (List.mem_map.2 ⟨p, hp, rfl⟩)]
    rw [e]
  case bldS e m z ps =>
    have e : (ps.map fun p => (p.1, ρ p.2)) = ps.map fun p => (p.1, ρ2 p.2) := List.map_congr_left fun p hp => by rw [h _ (List.mem_map.2 ⟨p, hp, rfl⟩)]
    rw [e]
  case sli e x lo hi mx =>
    obtain ⟨h0, h1⟩ := h
    have a1 : ∀ d, bndO ρ d lo = bndO ρ2 d lo := fun d => bndO_congr fun x hx => h1 x (by simp at hx ⊢; simp [hx])
    have a2 : ∀ d, bndO ρ d hi = bndO ρ2 d hi := fun d => bndO_congr fun x hx => h1 x (by simp at hx ⊢; simp [hx])
    have a3 : ∀ d, bndO ρ d mx = bndO ρ2 d mx := fun d => bndO_congr fun x hx => h1 x (by simp at hx ⊢; simp [hx])
    simp only [h0, a1, a2, a3]
  case sliA e m x lo hi =>
    obtain ⟨h0, h1⟩ := h
    have a1 : ∀ d, bndO ρ d lo = bndO ρ2 d lo := fun d => bndO_congr fun x hx => h1 x (by simp at hx ⊢; simp [hx])
    have a2 : ∀ d, bndO ρ d hi = bndO ρ2 d hi := fun d => bndO_congr fun x hx => h1 x (by simp at hx ⊢; simp [hx])
    simp only [h0, a1, a2]
  case mn xs => rw [List.map_congr_left h]
  case mx xs => rw [List.map_congr_left h]
  case mkf f xs => rw [List.map_congr_left h]
  all_goals first
    | rfl
    | (rw [h])
    | (rw [h.1, h.2])

theorem binK_det {op : BinOp} {k k' : IntKind} {a b : Int} {K : AV → Prop} (h : binK op k a k' b K) : ∃ v, K v ∧ ∀ K' : AV → Prop, K' v → binK op k a k' b K' := by
  cases op <;> simp only [binK] at h ⊢ <;> first
    | (obtain ⟨h1, h2⟩ := h; exact ⟨_, h2, fun K' hk => ⟨h1, hk⟩⟩)
    | (obtain ⟨h1, h0, h2⟩ := h; exact ⟨_, h2, fun K' hk => ⟨h1, h0, hk⟩⟩)

/-- The objects ft of τ as σ' has them. -/
def updF (τ : St) (ft : List Nat) (σ' : St) : St := (List.range τ.length).map fun i => if ft.contains i then σ'.getD i .gone else τ.getD i .gone
@[simp] theorem length_updF (τ : St) (ft : List Nat) (σ' : St) : (updF τ ft σ').length = τ.length := by simp [updF]
theorem get_updF (τ : St) (ft : List Nat) (σ' : St) (i : Nat) (hi : i < τ.length) : (updF τ ft σ')[i]? = some (if i ∈ ft then σ'.getD i .gone else τ.getD i .gone) := by
  simp [updF, hi]
theorem getD_of {σ : St} {i : Nat} (h : i < σ.length) : σ[i]? = some (σ.getD i .gone) := by simp [List.getD, h]
theorem st_ext {σ τ : St} (hl : σ.length = τ.length) (h : ∀ i, i < σ.length → σ.getD i .gone = τ.getD i .gone) : σ = τ := by
  apply List.ext_getElem? 
  intro i
  by_cases hi : i < σ.length
  · rw [getD_of hi, getD_of (by omega), h i hi]
  · rw [List.getElem?_eq_none (by omega), List.getElem?_eq_none (by omega)]
theorem getD_updF (τ : St) (ft : List Nat) (σ' : St) (i : Nat) (hi : i < τ.length) : (updF τ ft σ').getD i .gone = if i ∈ ft then σ'.getD i .gone else τ.getD i .gone := by
  rw [List.getD_eq_getElem?_getD, get_updF τ ft σ' i hi]; rfl
theorem getD_set (σ : St) (j : Nat) (o : AObj) (i : Nat) : (σ.set j o).getD i .gone = if i = j ∧ j < σ.length then o else σ.getD i .gone := by
  simp only [List.getD_eq_getElem?_getD, List.getElem?_set]
  by_cases h : j = i
  · subst h
    by_cases hl : j < σ.length
    · simp [hl]
    · simp [hl, List.getElem?_eq_none (Nat.not_lt.1 hl)]
  · simp [h, Ne.symm h]

theorem getD_set_ne (σ : St) {j : Nat} (o : AObj) {i : Nat} (h : i ≠ j) : (σ.set j o).getD i .gone = σ.getD i .gone := by
  rw [getD_set, if_neg (fun h1 => h h1.1)]
/-- What happens is told by the objects of ft alone. -/
structure Local (σ : St) (ft : List Nat) (wr : Bool) (σ' : St) (R : St → St → Prop) : Prop where
  len : σ'.length = σ.length
  keep : ∀ i, i ∉ ft → σ'.getD i .gone = σ.getD i .gone
  same : wr = false → σ' = σ
  else_ : ∀ τ : St, τ.length = σ.length → (∀ i ∈ ft, τ.getD i .gone = σ.getD i .gone) → R τ (updF τ ft σ')

theorem Local.pure {σ : St} {ft : List Nat} {wr : Bool} {R : St → St → Prop} (h : ∀ τ : St, τ.length = σ.length → (∀ i ∈ ft, τ.getD i .gone = σ.getD i .gone) → R τ τ) : Local σ ft wr σ R :=
  ⟨rfl, fun _ _ => rfl, fun _ => rfl, fun τ hl ht => by
    have : updF τ ft σ = τ := st_ext (by simp) fun i hi => by
      rw [length_updF] at hi
      rw [getD_updF τ ft σ i hi]
      split
      · rename_i h1; exact (ht i h1).symm
      · rfl
    rw [this]; exact h τ hl ht⟩
theorem Local.set {σ : St} {ft : List Nat} {id : Nat} {o : AObj} {R : St → St → Prop} (hid : id ∈ ft) (h : ∀ τ : St, τ.length = σ.length → (∀ i ∈ ft, τ.getD i .gone = σ.getD i .gone) → R τ (τ.set id o)) : Local σ ft true (σ.set id o) R :=
  ⟨by simp, fun i hi => by exact getD_set_ne σ o (show i ≠ id from fun e => hi (e ▸ hid)), (fun h => by cases h), fun τ hl ht => by
    have : updF τ ft (σ.set id o) = τ.set id o := st_ext (by simp) fun i hi => by
      rw [length_updF] at hi
      rw [getD_updF τ ft _ i hi]
      split
      · rename_i h1
        rw [getD_set, getD_set, ht i h1, hl]
      · rename_i h1
        rw [getD_set_ne τ o (show i ≠ id from fun e => h1 (e ▸ hid))]
    rw [this]; exact h τ hl ht⟩
theorem Local.set2 {σ : St} {ft : List Nat} {id n : Nat} {o o2 : AObj} {R : St → St → Prop} (hid : id ∈ ft) (hn : n ∈ ft) (h : ∀ τ : St, τ.length = σ.length → (∀ i ∈ ft, τ.getD i .gone = σ.getD i .gone) → R τ ((τ.set id o).set n o2)) : Local σ ft true ((σ.set id o).set n o2) R :=
  ⟨by simp, fun i hi => by rw [getD_set_ne _ o2 (show i ≠ n from fun e => hi (e ▸ hn)), getD_set_ne _ o (show i ≠ id from fun e => hi (e ▸ hid))], (fun h => by cases h), fun τ hl ht => by
    have : updF τ ft ((σ.set id o).set n o2) = (τ.set id o).set n o2 := st_ext (by simp) fun i hi => by
      rw [length_updF] at hi
      rw [getD_updF τ ft _ i hi]
      split
      · rename_i h1
        rw [getD_set, getD_set, getD_set, getD_set]
        simp only [List.length_set]
        rw [ht i h1, hl]
      · rename_i h1
        rw [getD_set_ne _ o2 (show i ≠ n from fun e => h1 (e ▸ hn)), getD_set_ne τ o (show i ≠ id from fun e => h1 (e ▸ hid))]
    rw [this]; exact h τ hl ht⟩
theorem getElem_of_getD {σ τ : St} {id : Nat} {o : AObj} (hl : τ.length = σ.length) (h : τ.getD id .gone = σ.getD id .gone) (hσ : σ[id]? = some o) : τ[id]? = some o := by
  have hi : id < σ.length := (List.getElem?_eq_some_iff.1 hσ).1
  rw [getD_of (by omega), h, ← getD_of hi, hσ]
theorem rdS_local {σ τ : St} {e : Nat} {av : AV} {ys : List (List AV)} (hl : τ.length = σ.length) (h : rdS σ e av = some ys) (ht : ∀ i ∈ srcId av, τ.getD i .gone = σ.getD i .gone) : rdS τ e av = some ys := by
  cases av <;> simp only [rdS, reduceCtorEq] at h ⊢
  case sl => exact h
  case str => exact h
  case hs e' id off len =>
    split at h
    · rename_i he
      split at h
      · rename_i e2 xs hσ
        rw [getElem_of_getD hl (ht id (by simp [srcId])) hσ]
        simpa [he] using h
      · cases h
    · cases h
  case va e' id off len =>
    split at h
    · rename_i he
      split at h
      · rename_i cs hσ
        rw [getElem_of_getD hl (ht id (by simp [srcId])) hσ]
        simpa [he] using h
      · cases h
    · cases h

/-- One outcome, and it is local. -/
theorem opF_local {n : Nat} {σ : St} {ρ : Opd → AV} {K : AV → List Nat → Bool → St → Prop} {op : AOp} (h : opF n σ ρ K op) :
    ∃ v ft wr σ', K v ft wr σ' ∧ Local σ ft wr σ' (fun τ τ' => opF n τ ρ (fun v1 f1 w1 t1 => v1 = v ∧ f1 = ft ∧ w1 = wr ∧ t1 = τ') op) := by
  cases op <;> simp only [opF] at h ⊢
  case mv x => exact ⟨_, _, _, _, h, .pure fun τ _ _ => ⟨rfl, rfl, rfl, rfl⟩⟩
  case pick c a b =>
    split at h
    · rename_i t ht; exact ⟨_, _, _, _, h, .pure fun τ _ _ => ⟨rfl, rfl, rfl, rfl⟩⟩
    · exact h.elim
  case bin op x y =>
    split at h
    · obtain ⟨v, h1, h2⟩ := binK_det h
      exact ⟨_, _, _, _, h1, .pure fun τ _ _ => h2 _ ⟨rfl, rfl, rfl, rfl⟩⟩
    · exact h.elim
  case eqv kd neg x y =>
    split at h
    · exact ⟨_, _, _, _, h, .pure fun τ _ _ => ⟨rfl, rfl, rfl, rfl⟩⟩
    · exact h.elim
  case eqa ks neg x y =>
    split at h
    · obtain ⟨h1, h2, h⟩ := h
      split at h
      · exact ⟨_, _, _, _, h, .pure fun τ _ _ => ⟨h1, h2, rfl, rfl, rfl, rfl⟩⟩
      · exact h.elim
    · exact h.elim
  case un op x =>
    split at h
    · exact ⟨_, _, _, _, h, .pure fun τ _ _ => ⟨rfl, rfl, rfl, rfl⟩⟩
    · exact h.elim
  case cvt k x =>
    split at h
    · exact ⟨_, _, _, _, h, .pure fun τ _ _ => ⟨rfl, rfl, rfl, rfl⟩⟩
    · exact h.elim
  case b2s x =>
    split at h
    · rename_i xs hxs
      obtain ⟨hb, h⟩ := h
      refine ⟨_, _, _, _, h, .pure fun τ hl ht => ?_⟩
      have : rdB τ (ρ x) = some xs := by
        generalize ρ x = A at *
        cases A <;> simp only [rdB] at hxs ⊢ <;> first | exact absurd hxs (by simp) | exact rdS_local hl hxs ht
      rw [this]
      exact ⟨hb, rfl, rfl, rfl, rfl⟩
    · exact h.elim
  case nilc x =>
    split at h <;> first | exact h.elim | exact ⟨_, _, _, _, h, .pure fun τ _ _ => ⟨rfl, rfl, rfl, rfl⟩⟩
  case fld ag off sz x =>
    split at h
    · obtain ⟨h1, h⟩ := h; exact ⟨_, _, _, _, h, .pure fun τ _ _ => ⟨h1, rfl, rfl, rfl, rfl⟩⟩
    · exact h.elim
  case fldA off x =>
    split at h <;> first | exact h.elim | exact ⟨_, _, _, _, h, .pure fun τ _ _ => ⟨rfl, rfl, rfl, rfl⟩⟩
  case idx ag m e x i =>
    split at h
    · obtain ⟨h1, h2, h3, h⟩ := h; exact ⟨_, _, _, _, h, .pure fun τ _ _ => ⟨h1, h2, h3, rfl, rfl, rfl, rfl⟩⟩
    · exact h.elim
  case idxA m e x i =>
    split at h <;> first | exact h.elim | (obtain ⟨h1, h2, h⟩ := h; exact ⟨_, _, _, _, h, .pure fun τ _ _ => ⟨h1, h2, rfl, rfl, rfl, rfl⟩⟩)
  case idxS e x i =>
    split at h <;> first | exact h.elim | (obtain ⟨h0, h1, h2, h⟩ := h; exact ⟨_, _, _, _, h, .pure fun τ _ _ => ⟨h0, h1, h2, rfl, rfl, rfl, rfl⟩⟩)
  case ld ag sz x =>
    split at h
    · split at h
      · rename_i hσ
        obtain ⟨h1, h⟩ := h
        refine ⟨_, _, _, _, h, .pure fun τ hl ht => ?_⟩
        rw [getElem_of_getD hl (ht _ (by simp)) hσ]
        exact ⟨h1, rfl, rfl, rfl, rfl⟩
      · exact h.elim
    · split at h
      · rename_i hσ
        obtain ⟨h1, h2, h3, h⟩ := h
        refine ⟨_, _, _, _, h, .pure fun τ hl ht => ?_⟩
        rw [getElem_of_getD hl (ht _ (by simp)) hσ]
        exact ⟨h1, h2, h3, rfl, rfl, rfl, rfl⟩
      · exact h.elim
    · obtain ⟨h1, h2, h⟩ := h
      exact ⟨_, _, _, _, h, .pure fun τ _ _ => ⟨h1, h2, rfl, rfl, rfl, rfl⟩⟩
    · exact h.elim
  case sto sz x y =>
    obtain ⟨k1, k2, h⟩ := h
    split at h
    · split at h
      · rename_i hσ
        obtain ⟨h1, h⟩ := h
        refine ⟨_, _, _, _, h, .set (by simp) fun τ hl ht => ?_⟩
        rw [getElem_of_getD hl (ht _ (by simp)) hσ]
        exact ⟨k1, k2, h1, rfl, rfl, rfl, rfl⟩
      · exact h.elim
    · split at h
      · rename_i hσ
        obtain ⟨h1, h2, h3, h⟩ := h
        refine ⟨_, _, _, _, h, .set (by simp) fun τ hl ht => ?_⟩
        rw [getElem_of_getD hl (ht _ (by simp)) hσ]
        exact ⟨k1, k2, h1, h2, h3, rfl, rfl, rfl, rfl⟩
      · exact h.elim
    · exact h.elim
  case new z => exact ⟨_, _, _, _, h, .set (by simp) fun τ _ _ => ⟨rfl, rfl, rfl, rfl⟩⟩
  case box sz x =>
    obtain ⟨k1, k2, h⟩ := h
    exact ⟨_, _, _, _, h, .set (by simp) fun τ _ _ => ⟨k1, k2, rfl, rfl, rfl, rfl⟩⟩
  case bld z ps => obtain ⟨k1, h⟩ := h; exact ⟨_, _, _, _, h, .pure fun τ _ _ => ⟨k1, rfl, rfl, rfl, rfl⟩⟩
  case bldS e m z ps => obtain ⟨k1, h⟩ := h; exact ⟨_, _, _, _, h, .pure fun τ _ _ => ⟨k1, rfl, rfl, rfl, rfl⟩⟩
  case mk e bytes z l c =>
    split at h
    · obtain ⟨h1, h2, h3, h4, h⟩ := h; exact ⟨_, _, _, _, h, .set (by simp) fun τ _ _ => ⟨h1, h2, h3, h4, rfl, rfl, rfl, rfl⟩⟩
    · exact h.elim
  case sli e x lo hi mx =>
    split at h
    · obtain ⟨h1, h2, h3, h4, h5, h6, h⟩ := h; exact ⟨_, _, _, _, h, .pure fun τ _ _ => ⟨h1, h2, h3, h4, h5, h6, rfl, rfl, rfl, rfl⟩⟩
    · obtain ⟨h1, h2, h3, h4, h5, h⟩ := h; exact ⟨_, _, _, _, h, .pure fun τ _ _ => ⟨h1, h2, h3, h4, h5, rfl, rfl, rfl, rfl⟩⟩
    · obtain ⟨h1, h2, h3, h4, h5, h⟩ := h; exact ⟨_, _, _, _, h, .pure fun τ _ _ => ⟨h1, h2, h3, h4, h5, rfl, rfl, rfl, rfl⟩⟩
    · exact h.elim
  case sliA e m x lo hi =>
    split at h
    · obtain ⟨h1, h2, h3, h⟩ := h; exact ⟨_, _, _, _, h, .pure fun τ _ _ => ⟨h1, h2, h3, rfl, rfl, rfl, rfl⟩⟩
    · exact h.elim
  case ext i x =>
    split at h
    · obtain ⟨h1, h⟩ := h; exact ⟨_, _, _, _, h, .pure fun τ _ _ => ⟨h1, rfl, rfl, rfl, rfl⟩⟩
    · exact h.elim
  case len st x =>
    split at h
    · exact ⟨_, _, _, _, h, .pure fun τ _ _ => ⟨rfl, rfl, rfl, rfl⟩⟩
    · exact h.elim
  case cap x =>
    split at h
    · exact ⟨_, _, _, _, h, .pure fun τ _ _ => ⟨rfl, rfl, rfl, rfl⟩⟩
    · exact h.elim
  case app e bytes s x =>
    split at h
    · exact h.elim
    · rename_i ys hys
      split at h
      · obtain ⟨h1, h2, h3, h4, h5, h⟩ := h
        refine ⟨_, _, _, _, h, .set (by simp) fun τ hl ht => ?_⟩
        rw [rdS_local hl hys fun i hi => ht i (List.mem_cons_of_mem _ hi)]
        exact ⟨h1, h2, h3, h4, h5, rfl, rfl, rfl, rfl⟩
      · obtain ⟨h1, h⟩ := h
        split at h
        · rename_i hσ
          obtain ⟨h2, h3, h4, h5, h⟩ := h
          refine ⟨_, _, _, _, h, .set2 (by simp) (by simp) fun τ hl ht => ?_⟩
          rw [rdS_local hl hys fun i hi => ht i (List.mem_cons_of_mem _ (List.mem_cons_of_mem _ hi)), getElem_of_getD hl (ht _ (by simp)) hσ]
          exact ⟨h1, h2, h3, h4, h5, rfl, rfl, rfl, rfl⟩
        · exact h.elim
      · exact h.elim
  case cpy e d s =>
    split at h
    · exact h.elim
    · rename_i ys hys
      split at h
      · obtain ⟨h1, h⟩ := h
        split at h
        · rename_i hσ
          obtain ⟨h2, h3, h⟩ := h
          refine ⟨_, _, _, _, h, .set (by simp) fun τ hl ht => ?_⟩
          rw [rdS_local hl hys fun i hi => ht i (List.mem_cons_of_mem _ hi), getElem_of_getD hl (ht _ (by simp)) hσ]
          exact ⟨h1, h2, h3, rfl, rfl, rfl, rfl⟩
        · exact h.elim
      · obtain ⟨h1, h⟩ := h
        split at h
        · rename_i hσ
          obtain ⟨h3, h⟩ := h
          refine ⟨_, _, _, _, h, .set (by simp) fun τ hl ht => ?_⟩
          rw [rdS_local hl hys fun i hi => ht i (List.mem_cons_of_mem _ hi), getElem_of_getD hl (ht _ (by simp)) hσ]
          exact ⟨h1, h3, rfl, rfl, rfl, rfl⟩
        · exact h.elim
      · exact h.elim
  case mn xs =>
    split at h
    · split at h
      · exact ⟨_, _, _, _, h, .pure fun τ _ _ => ⟨rfl, rfl, rfl, rfl⟩⟩
      · exact h.elim
    · exact h.elim
  case mx xs =>
    split at h
    · split at h
      · exact ⟨_, _, _, _, h, .pure fun τ _ _ => ⟨rfl, rfl, rfl, rfl⟩⟩
      · exact h.elim
    · exact h.elim
  case mkf f xs => exact ⟨_, _, _, _, h, .pure fun τ _ _ => ⟨rfl, rfl, rfl, rfl⟩⟩
end Go.FH
