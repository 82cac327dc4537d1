/-
  The abstract walk, part 18: regions that draw their order. It holds of any program.
-/
import Derived.Test.YtachiahepppajaaBh
namespace Go.FH
set_option linter.unusedVariables false
set_option linter.unusedSimpArgs false
open Go Go.RowKit

def pushH (i : Nat) (ft : List Nat) (wr : Bool) (H : Hist) : Hist := if ft.isEmpty then H else (i, ft, wr) :: H
theorem okH_push {m i : Nat} {ft f2 : List Nat} {wr w2 : Bool} {H : Hist} : okH m (pushH i ft wr H) f2 w2 ↔ okH m H f2 w2 ∧ (m.testBit i = true ∨ compat ft wr f2 w2) := by
  unfold pushH okH
  split
  · rename_i h
    have : ft = [] := by simpa using h
    subst this
    exact ⟨fun h => ⟨h, .inr (.inr fun i hi => by cases hi)⟩, fun h => h.1⟩
  · constructor
    · intro h
      exact ⟨fun x hx => h x (List.mem_cons_of_mem _ hx), h (i, ft, wr) (List.mem_cons_self ..)⟩
    · rintro ⟨h1, h2⟩ x hx
      rcases List.mem_cons.1 hx with rfl | hx
      · exact h2
      · exact h1 x hx

section
variable (P : Program) (ops : List Oper) (als : List AOpr) (bf : List Nat) (nb : Nat → Nat) (Q : Fr → St → Prop)
def anyF : Nat → Array Bool → Hist → Fr → St → Prop
  | 0, L, H, fr, σ => Region.ready .any ops.toArray L = [] ∧ Q fr σ
  | f + 1, L, H, fr, σ => (Region.ready .any ops.toArray L = [] → Q fr σ) ∧ ∀ i ∈ Region.ready .any ops.toArray L, ∃ o, als[i]? = some o ∧ ∃ v ft wr σ', StepF P (nb i) o fr σ v ft wr σ' ∧ okH (bf.getD i 0) H ft wr ∧
      anyF f (L.setIfInBounds i true) (pushH i ft wr H) (fr.putO o.dst v) σ'
end

section
variable {P : Program} {ops : List Oper} {als : List AOpr} {bf : List Nat} {nb : Nat → Nat} {Q : Fr → St → Prop}

theorem anyF_hist : ∀ (f : Nat) (L : Array Bool) (H H2 : Hist) (fr : Fr) (σ : St), (∀ m ft wr, okH m H ft wr → okH m H2 ft wr) → anyF P ops als bf nb Q f L H fr σ → anyF P ops als bf nb Q f L H2 fr σ
  | 0, _, _, _, _, _, _, h => h
  | f + 1, L, H, H2, fr, σ, hH, h => ⟨h.1, fun i hi => by
    obtain ⟨o, h1, v, ft, wr, σ', h2, h3, h4⟩ := h.2 i hi
    exact ⟨o, h1, v, ft, wr, σ', h2, hH _ _ _ h3, anyF_hist f _ _ _ _ _ (fun m f2 w2 h5 => by rw [okH_push] at h5 ⊢; exact ⟨hH _ _ _ h5.1, h5.2⟩) h4⟩⟩
theorem anyF_eq (hQ : ∀ fr fr2 σ, FrEq fr fr2 → Q fr σ → Q fr2 σ) : ∀ (f : Nat) (L : Array Bool) (H : Hist) (fr fr2 : Fr) (σ : St), FrEq fr fr2 → anyF P ops als bf nb Q f L H fr σ → anyF P ops als bf nb Q f L H fr2 σ
  | 0, _, _, fr, fr2, σ, he, h => ⟨h.1, hQ _ _ _ he h.2⟩
  | f + 1, L, H, fr, fr2, σ, he, h => ⟨fun h0 => hQ _ _ _ he (h.1 h0), fun i hi => by
    obtain ⟨o, h1, v, ft, wr, σ', h2, h3, h4⟩ := h.2 i hi
    exact ⟨o, h1, v, ft, wr, σ', stepF_congr (fun t _ => he.eq t) h2, h3, anyF_eq hQ f _ _ _ _ _ (he.put o.dst v) h4⟩⟩

/-- The order that a region asks for. -/
structure DrawOk (ops : List Oper) (als : List AOpr) (bf : List Nat) : Prop where
  lb : bf.length = ops.length
  la : als.length = ops.length
  lt : ∀ j, j < ops.length → ∀ e ∈ predsOf (ops.getD j default), e < j
  bits : ∀ j, j < ops.length → ∀ i, i < ops.length → (bf.getD j 0).testBit i = true → ∃ e ∈ predsOf (ops.getD j default), e = i ∨ (bf.getD e 0).testBit i = true
  apart : ∀ j, j < ops.length → ∀ i, i < j → (bf.getD j 0).testBit i = true ∨ apartA (als.getD i default) (als.getD j default) = true
theorem allBelow_spec {n : Nat} {f : Nat → Bool} (h : allBelow n f = true) : ∀ i, i < n → f i = true := fun i hi => List.all_eq_true.1 h i (List.mem_range.2 hi)
theorem drawOk_spec (h : drawOk ops als bf = true) : DrawOk ops als bf := by
  simp only [drawOk, Bool.and_eq_true, beq_iff_eq] at h
  obtain ⟨⟨⟨⟨h1, h2⟩, h3⟩, h4⟩, h5⟩ := h
  refine ⟨h1, h2, fun j hj e he => ?_, fun j hj i hi hb => ?_, fun j hj i hi => ?_⟩
  · exact of_decide_eq_true (List.all_eq_true.1 (allBelow_spec h3 j hj) e he)
  · have := allBelow_spec (allBelow_spec h4 j hj) i hi
    rw [hb] at this
    simp only [Bool.not_true, Bool.false_or] at this
    obtain ⟨e, he, h6⟩ := List.any_eq_true.1 this
    exact ⟨e, he, by simpa using h6⟩
  · have := allBelow_spec (allBelow_spec h5 j hj) i hi
    simpa using this

theorem ready_spec {j : Nat} {L : Array Bool} : j ∈ Region.ready .any ops.toArray L ↔ j < ops.length ∧ L.getD j true = false ∧ ∀ e ∈ predsOf (ops.getD j default), L.getD e false = true := by
  rw [mem_ready]
  constructor
  · rintro ⟨h1, o, h2, h3⟩
    have hj : j < ops.length := by simpa using (Array.getElem?_eq_some_iff.1 h2).1
    have ho : ops.getD j default = o := by
      have : ops[j]? = some o := by simpa using h2
      rw [List.getD_eq_getElem?_getD, this]; rfl
    refine ⟨hj, h1, fun e he => ?_⟩
    rw [ho] at he
    obtain ⟨x, hx, rfl⟩ := List.mem_map.1 he
    obtain ⟨h4, h5⟩ := List.mem_filter.1 hx
    exact h3 x (Array.mem_toList_iff.1 h4) h5
  · rintro ⟨hj, h1, h2⟩
    refine ⟨h1, ops.getD j default, by simp [List.getD, hj], fun e he hb => h2 _ ?_⟩
    exact List.mem_map.2 ⟨e, List.mem_filter.2 ⟨Array.mem_toList_iff.2 he, hb⟩, rfl⟩
/-- Whoever is listed, its predecessors are. -/
def Closed (ops : List Oper) (L : Array Bool) : Prop := ∀ j, j < ops.length → L.getD j false = true → ∀ e ∈ predsOf (ops.getD j default), L.getD e false = true
theorem getD_set_true {L : Array Bool} {i : Nat} (d : Bool) {j : Nat} : (L.setIfInBounds i true).getD j d = if j = i ∧ i < L.size then true else L.getD j d := by
  simp only [Array.getD_eq_getD_getElem?, Array.getElem?_setIfInBounds]
  by_cases h : i = j
  · subst h
    by_cases hl : i < L.size
    · simp [hl]
    · simp [hl, Array.getElem?_eq_none (Nat.not_lt.1 hl)]
  · simp [h, Ne.symm h]
theorem Closed.set {L : Array Bool} (h : Closed ops L) {i : Nat} (hi : i ∈ Region.ready .any ops.toArray L) : Closed ops (L.setIfInBounds i true) := by
  obtain ⟨h1, h2, h3⟩ := ready_spec.1 hi
  intro j hj hL e he
  have keep : L.getD e false = true → (L.setIfInBounds i true).getD e false = true := fun h => by
    rw [getD_set_true]; split
    · rfl
    · exact h
  rw [getD_set_true] at hL
  split at hL
  · rename_i hc
    obtain ⟨rfl, _⟩ := hc
    exact keep (h3 e he)
  · exact keep (h j hj hL e he)
theorem Closed.bits (hd : DrawOk ops als bf) {L : Array Bool} (h : Closed ops L) (hs : L.size = ops.length) : ∀ (j : Nat), j < ops.length → (∀ e ∈ predsOf (ops.getD j default), L.getD e false = true) → ∀ i, i < ops.length → (bf.getD j 0).testBit i = true → L.getD i false = true := by
  intro j
  induction j using Nat.strongRecOn with
  | _ j ih =>
    intro hj hp i hi hb
    obtain ⟨e, he, h1⟩ := hd.bits j hj i hi hb
    have hej := hd.lt j hj e he
    rcases h1 with rfl | h1
    · exact hp e he
    · exact ih e hej (by omega) (h e (by omega) (hp e he)) i hi h1

theorem ready_keep {i j : Nat} {L : Array Bool} (h : j ∈ Region.ready .any ops.toArray L) (hne : j ≠ i) : j ∈ Region.ready .any ops.toArray (L.setIfInBounds i true) := by
  obtain ⟨h1, h2, h3⟩ := ready_spec.1 h
  refine ready_spec.2 ⟨h1, ?_, fun e he => ?_⟩
  · rw [getD_set_true, if_neg (fun h => hne h.1)]; exact h2
  · rw [getD_set_true]; split
    · rfl
    · exact h3 e he

theorem anyF_first (hd : DrawOk ops als bf) (hQ : ∀ fr fr2 σ, FrEq fr fr2 → Q fr σ → Q fr2 σ) {i : Nat} {oi : AOpr} (hoi : als[i]? = some oi) {vi : AV} {fi : List Nat} {wi : Bool} :
    ∀ (f : Nat) (L : Array Bool) (H : Hist) (fr : Fr) (σ σi : St), L.size = ops.length → Closed ops L → fr.vs.length = fr.nv → i ∈ Region.ready .any ops.toArray L → StepF P (nb i) oi fr σ vi fi wi σi → okH (bf.getD i 0) H fi wi →
      anyF P ops als bf nb Q f (L.setIfInBounds i true) (pushH i fi wi H) (fr.putO oi.dst vi) σi → anyF P ops als bf nb Q (f + 1) L H fr σ := by
  intro f
  induction f with
  | zero =>
    intro L H fr σ σi hs hcl hfr hr hstep hok hrest
    refine ⟨fun h => (by rw [h] at hr; cases hr), fun j hj => ?_⟩
    by_cases hji : j = i
    · subst hji; exact ⟨oi, hoi, vi, fi, wi, σi, hstep, hok, hrest⟩
    · have := ready_keep hj hji
      rw [hrest.1] at this
      cases this
  | succ f ih =>
    intro L H fr σ σi hs hcl hfr hr hstep hok hrest
    refine ⟨fun h => (by rw [h] at hr; cases hr), fun j hj => ?_⟩
    by_cases hji : j = i
    · subst hji; exact ⟨oi, hoi, vi, fi, wi, σi, hstep, hok, hrest⟩
    · obtain ⟨oj, hoj, vj, fj, wj, σij, g1, g2, g3⟩ := hrest.2 j (ready_keep hj hji)
      obtain ⟨hi1, hi2, hi3⟩ := ready_spec.1 hr
      obtain ⟨hj1, hj2, hj3⟩ := ready_spec.1 hj
      have hunl : ∀ q, q < ops.length → L.getD q true = false → L.getD q false = false := by
        intro q hq h
        rw [Array.getD_eq_getD_getElem?] at h ⊢
        have : q < L.size := by omega
        rw [Array.getElem?_eq_getElem this] at h ⊢
        exact h
      have nij : (bf.getD j 0).testBit i = false := by
        cases hb : (bf.getD j 0).testBit i with
        | false => rfl
        | true =>
          have := hcl.bits hd hs j hj1 hj3 i hi1 hb
          rw [hunl i hi1 hi2] at this; cases this
      have nji : (bf.getD i 0).testBit j = false := by
        cases hb : (bf.getD i 0).testBit j with
        | false => rfl
        | true =>
          have := hcl.bits hd hs i hi1 hi3 j hj1 hb
          rw [hunl j hj1 hj2] at this; cases this
      have goi : als.getD i default = oi := by rw [List.getD_eq_getElem?_getD, hoi]; rfl
      have goj : als.getD j default = oj := by rw [List.getD_eq_getElem?_getD, hoj]; rfl
      have hap : apartA oi oj = true := by
        rcases Nat.lt_or_gt_of_ne hji with h | h
        · rcases hd.apart i hi1 j h with h1 | h1
          · rw [nji] at h1; cases h1
          · rw [goi, goj] at h1; exact apartA_symm h1
        · rcases hd.apart j hj1 i h with h1 | h1
          · rw [nij] at h1; cases h1
          · rw [goi, goj] at h1; exact h1
      rw [okH_push] at g2
      have hc : compat fi wi fj wj := g2.2.resolve_left (by rw [nij]; simp)
      obtain ⟨σj, k1, k2⟩ := stepF_swap hap hstep g1 hc
      refine ⟨oj, hoj, vj, fj, wj, σj, k1, g2.1, ?_⟩
      have hr2 : i ∈ Region.ready .any ops.toArray (L.setIfInBounds j true) := ready_keep hr (Ne.symm hji)
      refine ih (L.setIfInBounds j true) (pushH j fj wj H) (fr.putO oj.dst vj) σj σij (by simpa using hs) (hcl.set hj) (Fr.len_putO fr hfr _ _) hr2 k2 ?_ ?_
      · rw [okH_push]; exact ⟨hok, .inr hc.symm⟩
      · rw [Array.setIfInBounds_comm _ _ hji]
        have h2 := (apartA_spec hap).2.1
        refine anyF_eq hQ f _ _ _ _ _ (FrEq.comm hfr vi vj h2) (anyF_hist f _ _ _ _ _ (fun m ft wr h => ?_) g3)
        rw [okH_push, okH_push] at h ⊢
        exact ⟨⟨h.1.1, h.2⟩, h.1.2⟩

/-- The number of a new object of operation i. -/
def nbOf (base : Nat) (als : List AOpr) (i : Nat) : Nat := base + ((als.take i).filter fun o => o.op.allocs).length

/-- The walk in the order of the text. -/
def aLex (P : Program) : List (AOpr × Nat) → Nat → Nat → Hist → (Fr → St → Prop) → Fr → St → Prop
  | [], _, _, _, Q, fr, σ => Q fr σ
  | (o, m) :: r, i, n, H, Q, fr, σ =>
    aGd o.gd fr (fun fr => aDoD P n o.op fr σ fun av ft wr σ' => okH m H ft wr ∧ aLex P r (i + 1) (if o.op.allocs then n + 1 else n) (pushH i ft wr H) Q (fr.putO o.dst av) σ')
      (fun fr => aLex P r (i + 1) (if o.op.allocs then n + 1 else n) H Q (fr.putO o.dst (.tup [])) σ)

theorem aDoD_step {n : Nat} {op : AOp} {fr : Fr} {σ : St} {K : AV → List Nat → Bool → St → Prop} (h : aDoD P n op fr σ K) : ∃ v ft wr σ', StepD P n op (Opd.ev fr) σ v ft wr σ' ∧ K v ft wr σ' := by
  cases op
  case call g xs =>
    simp only [aDoD] at h
    exact h
  all_goals (
    simp only [aDoD] at h
    obtain ⟨v, ft, wr, σ', h1, h2⟩ := opF_local h
    refine ⟨v, ft, wr, σ', ?_, h1⟩
    have h3 := h2.else_ σ rfl (fun _ _ => rfl)
    have e : updF σ ft σ' = σ' := st_ext (by rw [length_updF, h2.len]) fun i hi => by
      rw [length_updF] at hi
      rw [getD_updF σ ft σ' i hi]
      split
      · rfl
      · rename_i hif; exact (h2.keep i hif).symm
    rw [e] at h3
    exact h3)

theorem lex_any {Q2 : Fr → St → Prop} (hd : DrawOk ops als bf) (hQ : ∀ fr fr2 σ, FrEq fr fr2 → Q2 fr σ → Q2 fr2 σ) (hQ0 : ∀ fr σ, fr.vs.length = fr.nv → Q fr σ → Q2 fr σ) (base : Nat) : ∀ (r : List (AOpr × Nat)) (k : Nat) (L : Array Bool) (H : Hist) (fr : Fr) (σ : St), (∀ j, r[j]? = (als.zip bf)[k + j]?) → r.length = ops.length - k → k ≤ ops.length →
    L.size = ops.length → (∀ j, j < ops.length → L.getD j true = decide (j < k)) → fr.vs.length = fr.nv → aLex P r k (nbOf base als k) H Q fr σ → anyF P ops als bf (nbOf base als) Q2 r.length L H fr σ
  | [], k, L, H, fr, σ, hr, hl, hk, hs, hL, hfr, h => by
    refine ⟨?_, hQ0 _ _ hfr h⟩
    have hkk : k = ops.length := by simp at hl; omega
    rw [List.eq_nil_iff_forall_not_mem]
    intro j hj
    obtain ⟨h1, h2, _⟩ := ready_spec.1 hj
    rw [hL j h1] at h2
    simp at h2; omega
  | (o, m) :: r, k, L, H, fr, σ, hr, hl, hk, hs, hL, hfr, h => by
    have hkl : k < ops.length := by simp at hl; omega
    have h0 := hr 0
    simp only [List.getElem?_cons_zero, Nat.add_zero] at h0
    have hz : (als.zip bf)[k]? = some (o, m) := h0.symm
    have ho : als[k]? = some o ∧ bf[k]? = some m := by
      rw [List.getElem?_zip_eq_some] at hz
      exact hz
    have hm : bf.getD k 0 = m := by rw [List.getD_eq_getElem?_getD, ho.2]; rfl
    have hcl : Closed ops L := by
      intro j hj hLj e he
      have hej := hd.lt j hj e he
      have h1 := hL j hj
      have h2 := hL e (by omega)
      have e1 : ∀ q, q < ops.length → L.getD q false = L.getD q true := by
        intro q hq
        rw [Array.getD_eq_getD_getElem?, Array.getD_eq_getD_getElem?, Array.getElem?_eq_getElem (by omega)]
        rfl
      rw [e1 j hj, h1] at hLj
      rw [e1 e (by omega), h2]
      simp at hLj ⊢; omega
    have hready : k ∈ Region.ready .any ops.toArray L := by
      refine ready_spec.2 ⟨hkl, by rw [hL k hkl]; simp, fun e he => ?_⟩
      have hej := hd.lt k hkl e he
      have h2 := hL e (by omega)
      have e1 : L.getD e false = L.getD e true := by
        rw [Array.getD_eq_getD_getElem?, Array.getD_eq_getD_getElem?, Array.getElem?_eq_getElem (by omega)]
        rfl
      rw [e1, h2]; simpa using hej
    have hL' : ∀ j, j < ops.length → (L.setIfInBounds k true).getD j true = decide (j < k + 1) := by
      intro j hj
      rw [getD_set_true]
      by_cases hjk : j = k
      · subst hjk; simp [hs, hkl]
      · rw [if_neg (fun h => hjk h.1), hL j hj]
        simp only [decide_eq_decide]; omega
    have hnb : (if o.op.allocs then nbOf base als k + 1 else nbOf base als k) = nbOf base als (k + 1) := by
      unfold nbOf
      rw [List.take_add_one, ho.1]
      simp only [Option.toList_some, List.filter_append, List.length_append]
      by_cases ha : o.op.allocs = true <;> simp [ha, List.filter_cons, Nat.add_assoc]
    have hr' : ∀ j, r[j]? = (als.zip bf)[k + 1 + j]? := fun j => by
      have := hr (j + 1)
      simp only [List.getElem?_cons_succ] at this
      rw [this]; congr 1; omega
    have hl' : r.length = ops.length - (k + 1) := by simp at hl; omega
    simp only [aLex, hnb] at h
    -- one step, whatever frame reads alike
    have fin : ∀ {fr2 : Fr} {v : AV} {ft : List Nat} {wr : Bool} {σ' : St}, FrEq fr2 fr → StepF P (nbOf base als k) o fr σ v ft wr σ' → okH m H ft wr → aLex P r (k + 1) (nbOf base als (k + 1)) (pushH k ft wr H) Q (fr2.putO o.dst v) σ' → anyF P ops als bf (nbOf base als) Q2 (r.length + 1) L H fr σ := by
      intro fr2 v ft wr σ' hfe h1 h2 h3
      have h4 := lex_any hd hQ hQ0 base r (k + 1) (L.setIfInBounds k true) (pushH k ft wr H) (fr2.putO o.dst v) σ' hr' hl' (by omega) (by simpa using hs) hL' (Fr.len_putO fr2 hfe.lf _ _) h3
      have h5 := anyF_eq hQ _ _ _ _ _ _ (hfe.put o.dst v) h4
      exact anyF_first hd hQ ho.1 r.length L H fr σ σ' hs hcl hfr hready h1 (by rw [hm]; exact h2) h5
    cases hgd : o.gd with
    | none =>
      rw [hgd] at h
      simp only [aGd] at h
      obtain ⟨v, ft, wr, σ', h1, h2, h3⟩ := aDoD_step h
      exact fin (.refl hfr) (by unfold StepF; rw [hgd]; exact h1) h2 h3
    | some p =>
      obtain ⟨t, want⟩ := p
      rw [hgd] at h
      simp only [aGd] at h
      split at h
      · rename_i b hb
        have same : ∀ c : Bool, b = c → FrEq (fr.put t (.bool c)) fr := by
          intro c hc
          refine ⟨Fr.len_put fr hfr _ _, hfr, fun u => ?_⟩
          rw [Fr.get_put_exact fr hfr]
          split
          · rename_i hu; subst hu; rw [hb, hc]
          · rfl
        by_cases hbw : b = want
        · have h' := h.1 hbw
          obtain ⟨v, ft, wr, σ', h1, h2, h3⟩ := aDoD_step h'
          have hfe := same want hbw
          have hg : guardF o.gd fr = some true := by simp [guardF, hgd, hb, hbw]
          have hg2 : guardF o.gd (fr.put t (.bool want)) = some true := by simp [guardF, hgd, Fr.get_put_exact fr hfr]
          refine fin hfe (stepF_congr (fun u _ => hfe.eq u) (by unfold StepF; rw [hg2]; exact h1)) h2 h3
        · have hbn : b = !want := by cases b <;> cases want <;> simp_all
          have h' := h.2 hbn
          have hfe := same (!want) hbn
          have hg : guardF o.gd fr = some false := by simp [guardF, hgd, hb, hbw]
          refine fin (v := .tup []) (ft := []) (wr := false) (σ' := σ) hfe (by unfold StepF; rw [hg]; exact ⟨rfl, rfl, rfl, rfl⟩) (fun x _ => .inr (.inr fun _ _ h => by cases h)) (by simpa [pushH] using h')
      · rename_i hb
        have hg : guardF o.gd fr = some false := by simp [guardF, hgd, hb]
        refine fin (v := .tup []) (ft := []) (wr := false) (σ' := σ) (.refl hfr) (by unfold StepF; rw [hg]; exact ⟨rfl, rfl, rfl, rfl⟩) (fun x _ => .inr (.inr fun _ _ h => by cases h)) (by simpa [pushH] using h)
      · exact h.elim
end
end Go.FH
