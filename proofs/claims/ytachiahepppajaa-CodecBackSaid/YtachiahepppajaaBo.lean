/-
  The abstract walk, part 24: from a contract to a call of a program.
-/
import Derived.Test.YtachiahepppajaaBn
namespace Go.FH
set_option linter.unusedVariables false
set_option linter.unusedSimpArgs false
open Go Go.RowKit

theorem RlE_bts {E : Env} : ∀ {bs : List UInt8} {vs : List Value}, RlE E 1 (bts bs) vs ↔ vs = bs.map fun b => Value.int .u8 b.toNat
  | [], vs => by simp [bts, RlE]
  | b :: bs, vs => by
    rw [bts_cons]
    simp only [RlE, RlC, Rl, RlE_bts (bs := bs)]
    constructor
    · rintro ⟨us, ws, rfl, h1, ⟨v, vs', rfl, h2, rfl, rfl⟩, rfl⟩
      rfl
    · rintro rfl
      exact ⟨[.int .u8 b.toNat], _, rfl, rfl, ⟨_, [], rfl, rfl, rfl, rfl⟩, rfl⟩

theorem range_of_cells {w : World} {b o : Nat} {vs : List Value} (hn : vs ≠ []) (h : ∀ j u, vs[j]? = some u → w.cell? ⟨b, o + j, none⟩ = some u) : range? w b o vs.length = some vs.toArray := by
  unfold range?
  have h0 : ∃ u, vs[0]? = some u := by
    cases vs with
    | nil => exact absurd rfl hn
    | cons u us => exact ⟨u, rfl⟩
  obtain ⟨u0, hu0⟩ := h0
  have hc0 := h 0 u0 hu0
  unfold World.cell? at hc0
  split at hc0
  · rename_i c t f hb
    simp only at hb
    have key : ∀ j u, vs[j]? = some u → c[o + j]? = some u := by
      intro j u hj
      have := h j u hj
      unfold World.cell? at this
      simp only [hb] at this
      simpa using this
    rw [hb]
    simp only
    have hlen : o + vs.length ≤ c.size := by
      have hlt : vs.length - 1 < vs.length := by
        have : vs.length ≠ 0 := fun hh => hn (List.eq_nil_of_length_eq_zero hh)
        omega
      have := key (vs.length - 1) _ (List.getElem?_eq_getElem hlt)
      have := (Array.getElem?_eq_some_iff.1 this).1
      omega
    rw [if_pos hlen]
    congr 1
    apply Array.ext
    · simp; omega
    · intro i h1 h2
      have hi : i < vs.length := by simpa using h2
      have := key i _ (List.getElem?_eq_getElem hi)
      rw [Array.getElem?_eq_some_iff] at this
      obtain ⟨h3, h4⟩ := this
      simp [h4]
  · cases hc0

/-- The environment at the top. -/
abbrev topE (w : World) : Env := ⟨fun _ => none, fun _ => False, w⟩
theorem top_bytes {w : World} {a : Option Addr} {n cap : Nat} {bs : List UInt8} (h : Sl w (fun _ => True) a n cap (bs.map fun b => Value.int .u8 b.toNat)) : Rl (topE w) (.sl 1 false (bts bs)) (.slice a n cap) := by
  have hl := h.len
  rw [List.length_map] at hl
  refine ⟨a, n, cap, rfl, by rw [length_bts, hl], h.le, h.cmax, (fun h => Bool.noConfusion h), h.nocap, ?_⟩
  by_cases h0 : n = 0
  · exact .inl h0
  · right
    rcases h.addr with h1 | ⟨b, off, h1, _, h2, h3⟩
    · have := h.le; omega
    · refine ⟨b, off, _, h1, h2, fun hf => hf, ?_, RlE_bts.2 rfl⟩
      have := range_of_cells (w := w) (b := b) (o := off) (vs := bs.map fun b => Value.int .u8 b.toNat) (fun hh => h0 (by rw [← hl, ← List.length_map (f := fun b : UInt8 => Value.int .u8 b.toNat), hh]; rfl)) h3
      rw [List.length_map, hl] at this
      rwa [Nat.mul_one]
theorem PC.top {P : Program} {f : FuncId} {args : List AV} {r : AV} (h : PC P f args r) {w : World} {vs : List Value} (hv : RlS (topE w) args vs) :
    Calls P f vs.toArray w fun e w' => (∃ v, e = .returned v ∧ Rl (topE w') r v) ∧ Below w.heap.size w w' := by
  have hF : ∀ w : World, envOf (fun _ => False) (fun _ => none) [] w = topE w := by
    intro w
    unfold envOf topE
    congr 1
    funext b
    apply propext
    constructor
    · rintro (h | ⟨id, o, L, h1, _⟩)
      · exact h
      · simp at h1
    · exact fun h => h.elim
  have hr : Rel (fun _ => False) (fun _ => none) [] w := ⟨fun id o h => by simp at h, fun i j a b La Lb _ h => by simp at h, fun b h => h.elim, fun _ _ => rfl⟩
  refine (h.call.2.2 _ _ w vs hr (by rw [hF]; exact hv)).mono ?_
  rintro e w' ⟨v, loc', rfl, ho, _⟩
  refine ⟨⟨v, rfl, ?_⟩, ho.ev.below fun b _ hb => ?_⟩
  · have hl : loc' = fun _ => none := funext fun id => ho.rel.beyond id (Nat.zero_le _)
    have := ho.val
    rw [hl, hF] at this
    exact this
  · obtain ⟨id, o, L, h1, _⟩ := hb
    simp at h1
theorem PC.law {P : Program} {f : FuncId} {args : List AV} (h : PC P f args (.bool true)) {w : World} {vs : List Value} (hv : RlS (topE w) args vs) :
    Calls P f vs.toArray w fun e w' => e = .returned (.bool true) ∧ Below w.heap.size w w' :=
  (h.top hv).mono fun e w' ⟨⟨v, h1, h2⟩, h3⟩ => ⟨by rw [h1]; exact congrArg Ending.returned h2, h3⟩
end Go.FH
