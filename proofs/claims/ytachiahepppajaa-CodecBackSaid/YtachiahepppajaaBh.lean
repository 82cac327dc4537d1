/-
  The abstract walk, part 17: regions that draw their order: one walk in the order of the text serves every order. It holds of any program.
-/
import Derived.Test.YtachiahepppajaaBg
import Derived.Orders
namespace Go.FH
set_option linter.unusedVariables false
set_option linter.unusedSimpArgs false
open Go Go.RowKit

def callD (P : Program) (n : Nat) (g : AV) (xs : List AV) (σ : St) (v : AV) (ft : List Nat) (wr : Bool) (σ' : St) : Prop := match g with
  | .fn (.func f) caps => ∃ (args : List AV) (σs : St) (r : AV) (σs' : St), ACall P f args σs r σs' ∧ xs ++ caps = renL (rn ft σ.length) args ∧ σs'.length = ft.length ∧ v = ren (rn ft σ.length) r ∧ σ' = afterCall σ ft σs' ∧
      ((Picks σ ft σs ∧ (wr = false → σs' = σs)) ∨ ∃ js, ft = js ++ [n] ∧ PickS σ js ft σs ∧ wr = true)
  | _ => False
def StepD (P : Program) (n : Nat) (op : AOp) (ρ : Opd → AV) (σ : St) (v : AV) (ft : List Nat) (wr : Bool) (σ' : St) : Prop := match op with
  | .call g xs => callD P n (ρ g) (xs.map ρ) σ v ft wr σ'
  | op => opF n σ ρ (fun v1 f1 w1 t1 => v1 = v ∧ f1 = ft ∧ w1 = wr ∧ t1 = σ') op
def aDoD (P : Program) (n : Nat) (op : AOp) (fr : Fr) (σ : St) (K : AV → List Nat → Bool → St → Prop) : Prop := match op with
  | .call g xs => ∃ v ft wr σ', callD P n (g.ev fr) (xs.map (Opd.ev fr)) σ v ft wr σ' ∧ K v ft wr σ'
  | op => opF n σ (Opd.ev fr) K op

theorem stepD_congr {P : Program} {n : Nat} {op : AOp} {ρ ρ2 : Opd → AV} (h : ∀ x ∈ op.opds, ρ x = ρ2 x) {σ : St} {v : AV} {ft : List Nat} {wr : Bool} {σ' : St} (hs : StepD P n op ρ σ v ft wr σ') : StepD P n op ρ2 σ v ft wr σ' := by
  cases op
  case call g xs =>
    simp only [StepD] at hs ⊢
    rw [← h g (by simp [AOp.opds]), List.map_congr_left fun x hx => (h x (by simp [AOp.opds, hx])).symm]
    exact hs
  all_goals (simp only [StepD] at hs ⊢; rw [← opF_congr h]; exact hs)

theorem afterCall_same {σ σs : St} {js : List Nat} (hp : Picks σ js σs) : afterCall σ js σs = σ := by
  obtain ⟨h1, h2, h3, h4⟩ := hp
  unfold afterCall
  rw [h1, List.drop_length, List.take_length, List.map_nil, List.append_nil]
  apply List.ext_getElem?
  intro i
  by_cases hi : i ∈ js
  · obtain ⟨q, hq, rfl⟩ := List.getElem_of_mem hi
    have hj : js[q]? = some js[q] := List.getElem?_eq_getElem hq
    have h5 := h4 q _ hj
    have h6 : σs[q]? = some (σs[q]'(by omega)) := List.getElem?_eq_getElem (by omega)
    rw [h6] at h5
    rw [h5]
    exact putAll_mem js _ σ h2 h3 q _ _ hj (by rw [List.getElem?_map, h6]; rfl)
  · exact putAll_ne js _ σ i hi
theorem stepD_local {P : Program} {n : Nat} {op : AOp} {ρ : Opd → AV} {σ : St} {v : AV} {ft : List Nat} {wr : Bool} {σ' : St} (hs : StepD P n op ρ σ v ft wr σ') : Local σ ft wr σ' (fun τ τ' => StepD P n op ρ τ v ft wr τ') := by
  cases op
  case call g xs =>
    simp only [StepD, callD] at hs ⊢
    split at hs
    · rename_i f caps hg
      obtain ⟨args, σs, r, σs', h1, h2, h4, h5, h6, h37⟩ := hs
      have hnd : ft.Nodup := by
        rcases h37 with ⟨h3, _⟩ | ⟨js, _, h3, _⟩
        · exact h3.2.1
        · exact h3.2.1
      have hltf : ∀ j ∈ ft, j < σ.length := by
        rcases h37 with ⟨h3, _⟩ | ⟨js, _, h3, _⟩
        · exact h3.2.2.1
        · exact h3.2.2.1
      have hget : ∀ (τ : St) (i : Nat), τ.length = σ.length → (∀ j ∈ ft, τ.getD j .gone = σ.getD j .gone) → i ∈ ft → (afterCall τ ft σs').getD i .gone = (afterCall σ ft σs').getD i .gone := by
        intro τ i hl _ hi
        obtain ⟨q, hq, rfl⟩ := List.getElem_of_mem hi
        have hj : ft[q]? = some ft[q] := List.getElem?_eq_getElem hq
        have e : ∀ ρ : St, ρ.length = σ.length → (afterCall ρ ft σs')[ft[q]]? = some (renO (rn ft σ.length) (σs'[q]'(by omega))) := by
          intro ρ hρ
          unfold afterCall
          rw [List.getElem?_append_left (by rw [length_putAll, hρ]; exact hltf _ (List.getElem_mem hq))]
          refine putAll_mem ft _ ρ hnd (fun j hj => by rw [hρ]; exact hltf j hj) q _ _ hj ?_
          rw [List.getElem?_map, List.getElem?_take, if_pos hq, List.getElem?_eq_getElem (by omega), hρ]
          rfl
        rw [List.getD_eq_getElem?_getD, List.getD_eq_getElem?_getD, e τ hl, e σ rfl]
      have hlen : ∀ τ : St, (afterCall τ ft σs').length = τ.length := by
        intro τ
        simp [afterCall, h4]
      have hkeep : ∀ (τ : St) (i : Nat), i ∉ ft → (afterCall τ ft σs').getD i .gone = τ.getD i .gone := by
        intro τ i hi
        by_cases hlt : i < τ.length
        · rw [List.getD_eq_getElem?_getD, List.getD_eq_getElem?_getD]
          unfold afterCall
          rw [List.getElem?_append_left (by rw [length_putAll]; exact hlt), putAll_ne _ _ _ _ hi]
        · rw [List.getD_eq_getElem?_getD, List.getD_eq_getElem?_getD, List.getElem?_eq_none (by rw [hlen]; omega), List.getElem?_eq_none (by omega)]
      have hwr : wr = false → σ' = σ := by
        intro hw
        rcases h37 with ⟨h3, h7⟩ | ⟨_, _, _, h7⟩
        · rw [h6, h7 hw]; exact afterCall_same h3
        · rw [h7] at hw; cases hw
      refine ⟨by rw [h6, hlen], fun i hi => by rw [h6, hkeep σ i hi], hwr, fun τ hl ht => ?_⟩
      refine ⟨args, σs, r, σs', h1, by rw [hl]; exact h2, h4, by rw [hl]; exact h5, ?_, ?_⟩
      rotate_left
      · have hto : ∀ j ∈ ft, τ[j]? = σ[j]? := by
          intro j hj
          have hlt := hltf j hj
          rw [getD_of (show j < τ.length by omega), getD_of hlt, ht j hj]
        rcases h37 with ⟨h3, h7⟩ | ⟨js, rfl, h3, h7⟩
        · refine .inl ⟨⟨h3.1, h3.2.1, fun j hj => by rw [hl]; exact h3.2.2.1 j hj, fun i j hij => ?_⟩, h7⟩
          rw [hl, hto j (List.mem_of_getElem? hij)]
          exact h3.2.2.2 i j hij
        · refine .inr ⟨js, rfl, ⟨h3.1, h3.2.1, fun j hj => by rw [hl]; exact h3.2.2.1 j hj, fun i j hij => ?_⟩, h7⟩
          rw [hl, hto j (List.mem_append_left _ (List.mem_of_getElem? hij))]
          exact h3.2.2.2 i j hij
      · refine st_ext (by rw [length_updF, hlen]) fun i hi => ?_
        rw [length_updF] at hi
        rw [getD_updF τ ft σ' i hi]
        split
        · rename_i hif
          rw [h6, hget τ i hl ht hif]
        · rename_i hif
          rw [hkeep τ i hif]
    · exact hs.elim
  all_goals (
    simp only [StepD] at hs ⊢
    obtain ⟨v2, ft2, wr2, σ2, ⟨rfl, rfl, rfl, rfl⟩, hL⟩ := opF_local hs
    exact hL)

def guardF (gd : Option (Nat × Bool)) (fr : Fr) : Option Bool := match gd with
  | none => some true
  | some (t, want) => match fr.get t with
    | .bool b => some (b == want)
    | .tup [] => some false
    | _ => none
def StepF (P : Program) (n : Nat) (o : AOpr) (fr : Fr) (σ : St) (v : AV) (ft : List Nat) (wr : Bool) (σ' : St) : Prop := match guardF o.gd fr with
  | some true => StepD P n o.op (Opd.ev fr) σ v ft wr σ'
  | some false => v = .tup [] ∧ ft = [] ∧ wr = false ∧ σ' = σ
  | none => False
theorem stepF_local {P : Program} {n : Nat} {o : AOpr} {fr : Fr} {σ : St} {v : AV} {ft : List Nat} {wr : Bool} {σ' : St} (h : StepF P n o fr σ v ft wr σ') : Local σ ft wr σ' (fun τ τ' => StepF P n o fr τ v ft wr τ') := by
  unfold StepF at h ⊢
  split at h
  · exact stepD_local h
  · obtain ⟨rfl, rfl, rfl, rfl⟩ := h
    exact .pure fun τ _ _ => ⟨rfl, rfl, rfl, rfl⟩
  · exact h.elim
theorem stepF_congr {P : Program} {n : Nat} {o : AOpr} {fr fr2 : Fr} (h : ∀ t ∈ o.looks, fr.get t = fr2.get t) {σ : St} {v : AV} {ft : List Nat} {wr : Bool} {σ' : St} (hs : StepF P n o fr σ v ft wr σ') : StepF P n o fr2 σ v ft wr σ' := by
  have hg : guardF o.gd fr2 = guardF o.gd fr := by
    unfold guardF
    split
    · rfl
    · rename_i t want hgd
      rw [h t (by simp [AOpr.looks, hgd])]
  unfold StepF at hs ⊢
  rw [hg]
  split at hs
  · refine stepD_congr (fun x hx => ?_) hs
    cases x with
    | t u => exact h u (by simp only [AOpr.looks, List.mem_append, List.mem_filterMap]; exact .inl ⟨_, hx, rfl⟩)
    | c v => rfl
  · exact hs
  · exact hs.elim

/-- Frames that read alike. -/
structure FrEq (f g : Fr) : Prop where
  lf : f.vs.length = f.nv
  lg : g.vs.length = g.nv
  eq : ∀ t, f.get t = g.get t
theorem FrEq.refl {f : Fr} (h : f.vs.length = f.nv) : FrEq f f := ⟨h, h, fun _ => rfl⟩
theorem Fr.get_put_exact (f : Fr) (h : f.vs.length = f.nv) (t : Nat) (v : AV) (u : Nat) : (f.put t v).get u = if u = t then v else f.get u := by
  by_cases hut : u = t
  · subst hut
    rw [if_pos rfl]
    unfold Fr.put Fr.get
    by_cases h1 : u < f.nv
    · simp [h1, List.getD, h]
    · simp [h1, look]
  · rw [if_neg hut]; exact Fr.get_put_ne f v (Ne.symm hut)
theorem Fr.len_put (f : Fr) (h : f.vs.length = f.nv) (t : Nat) (v : AV) : (f.put t v).vs.length = (f.put t v).nv := by
  unfold Fr.put
  split <;> simp [h]
theorem Fr.len_putO (f : Fr) (h : f.vs.length = f.nv) (t : Option Nat) (v : AV) : (f.putO t v).vs.length = (f.putO t v).nv := by
  cases t with
  | none => exact h
  | some t => exact Fr.len_put f h t v
theorem FrEq.put {f g : Fr} (h : FrEq f g) (d : Option Nat) (v : AV) : FrEq (f.putO d v) (g.putO d v) := by
  cases d with
  | none => exact h
  | some t => exact ⟨Fr.len_put f h.lf t v, Fr.len_put g h.lg t v, fun u => by
      show (f.put t v).get u = (g.put t v).get u
      rw [Fr.get_put_exact f h.lf, Fr.get_put_exact g h.lg, h.eq]⟩
theorem FrEq.comm {f : Fr} (h : f.vs.length = f.nv) {a b : Option Nat} (v u : AV) (hab : ∀ d, a = some d → b ≠ some d) : FrEq ((f.putO a v).putO b u) ((f.putO b u).putO a v) := by
  cases a with
  | none => exact .refl (Fr.len_putO f h b u)
  | some d =>
    cases b with
    | none => exact .refl (Fr.len_putO f h (some d) v)
    | some e =>
      have hne : d ≠ e := fun he => hab d rfl (he ▸ rfl)
      refine ⟨Fr.len_put _ (Fr.len_put f h d v) e u, Fr.len_put _ (Fr.len_put f h e u) d v, fun t => ?_⟩
      show ((f.put d v).put e u).get t = ((f.put e u).put d v).get t
      rw [Fr.get_put_exact _ (Fr.len_put f h d v), Fr.get_put_exact _ h, Fr.get_put_exact _ (Fr.len_put f h e u), Fr.get_put_exact _ h]
      by_cases h1 : t = e
      · by_cases h2 : t = d
        · exact absurd (h2.symm.trans h1) hne
        · simp [h1, Ne.symm hne]
      · simp [h1]

def compat (f1 : List Nat) (w1 : Bool) (f2 : List Nat) (w2 : Bool) : Prop := (w1 = false ∧ w2 = false) ∨ ∀ i ∈ f1, i ∉ f2
theorem compat.symm {f1 f2 : List Nat} {w1 w2 : Bool} (h : compat f1 w1 f2 w2) : compat f2 w2 f1 w1 := h.imp (fun h => ⟨h.2, h.1⟩) fun h i hi hj => h i hj hi
abbrev Hist := List (Nat × List Nat × Bool)
def okH (m : Nat) (H : Hist) (ft : List Nat) (wr : Bool) : Prop := ∀ h ∈ H, m.testBit h.1 = true ∨ compat h.2.1 h.2.2 ft wr

theorem apartA_spec {x y : AOpr} (h : apartA x y = true) : (∀ d, x.dst = some d → d ∉ y.looks) ∧ (∀ d, x.dst = some d → y.dst ≠ some d) ∧ (∀ d, y.dst = some d → d ∉ x.looks) := by
  simp only [apartA, Bool.and_eq_true] at h
  obtain ⟨h1, h2⟩ := h
  refine ⟨fun d hd => ?_, fun d hd => ?_, fun d hd => ?_⟩
  · simp [hd] at h1; exact h1.1
  · simp [hd] at h1; exact h1.2
  · simp [hd] at h2; exact h2.1
theorem apartA_symm {x y : AOpr} (h : apartA x y = true) : apartA y x = true := by
  simp only [apartA, Bool.and_eq_true] at h ⊢
  exact ⟨h.2, h.1⟩
theorem get_putO_apart {fr : Fr} {d : Option Nat} {v : AV} {l : List Nat} (h : ∀ t, d = some t → t ∉ l) : ∀ t ∈ l, (fr.putO d v).get t = fr.get t := by
  intro t ht
  cases d with
  | none => rfl
  | some u => exact Fr.get_put_ne fr v (by rintro rfl; exact h u rfl ht)

/-- Two operations that are apart, of slots and of objects, in either order. -/
theorem stepF_swap {P : Program} {ni nj : Nat} {oi oj : AOpr} {fr : Fr} {σ σi σij : St} {vi vj : AV} {fi fj : List Nat} {wi wj : Bool} (hap : apartA oi oj = true) (hi : StepF P ni oi fr σ vi fi wi σi)
    (hj : StepF P nj oj (fr.putO oi.dst vi) σi vj fj wj σij) (hc : compat fi wi fj wj) : ∃ σj, StepF P nj oj fr σ vj fj wj σj ∧ StepF P ni oi (fr.putO oj.dst vj) σj vi fi wi σij := by
  obtain ⟨h1, h2, h3⟩ := apartA_spec hap
  have hj' := stepF_congr (get_putO_apart h1) hj
  have hLi := stepF_local hi
  have hLj := stepF_local hj'
  have hiback : ∀ {τ τ' : St}, StepF P ni oi fr τ vi fi wi τ' → StepF P ni oi (fr.putO oj.dst vj) τ vi fi wi τ' := fun h => stepF_congr (fun t ht => (get_putO_apart h3 t ht).symm) h
  rcases hc with ⟨hwi, hwj⟩ | hdis
  · have e1 := hLi.same hwi
    have e2 := hLj.same hwj
    subst e2
    rw [e1] at hj' ⊢
    exact ⟨σ, hj', hiback (by rw [e1] at hi; exact hi)⟩
  · -- j on σ
    have s1 := hLj.else_ σ hLi.len.symm fun i hi' => (hLi.keep i fun h => hdis i h hi').symm
    refine ⟨_, s1, ?_⟩
    have s2 := hLi.else_ (updF σ fj σij) (by simp) fun i hi' => by
      by_cases hl : i < σ.length
      · rw [getD_updF σ fj σij i hl, if_neg (hdis i hi')]
      · rw [List.getD_eq_getElem?_getD, List.getD_eq_getElem?_getD, List.getElem?_eq_none (by simp; omega), List.getElem?_eq_none (by omega)]
    have e : updF (updF σ fj σij) fi σi = σij := st_ext (by simp [hLj.len, hLi.len]) fun i hi' => by
      simp only [length_updF] at hi'
      rw [getD_updF _ fi σi i (by simpa using hi')]
      split
      · rename_i hif
        rw [hLj.keep i (hdis i hif)]
      · rename_i hif
        rw [getD_updF σ fj σij i hi']
        split
        · rfl
        · rename_i hjf
          rw [hLj.keep i hjf, hLi.keep i hif]
    rw [e] at s2
    exact hiback s2
end Go.FH
