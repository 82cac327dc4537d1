/-
  The abstract walk, part 32: own objects given away to a call. It holds of any program.
-/
import Derived.Test.YtdkahoohedljhaaMc
namespace Go.FH
set_option linter.unusedVariables false
set_option linter.unusedSimpArgs false
open Go Go.RowKit

section
variable {P : Program} {σ : St}
theorem gone_none {n : Nat} {loc : Nat → Option Loc} {b : Nat} : ¬ liveB (List.replicate n .gone) loc b := by
  rintro ⟨id, o, L, h1, h2, _⟩
  rw [List.getElem?_replicate] at h1
  split at h1
  · simp only [Option.some.injEq] at h1
    subst h1
    cases h2
  · cases h1
/-- A call that is given its own objects to read: they are no longer written. -/
theorem ACall.give {f : FuncId} {args : List AV} {r : AV} (h : PC P f (fzL σ (List.range σ.length) args) r) : ACall P f args σ r (List.replicate σ.length .gone) := by
  refine ⟨h.call.1, by simp, fun X loc w vs hr hv => ?_⟩
  obtain ⟨loc2, g1, g2, g3, g4⟩ := (forget_all σ (List.range σ.length)).rel hr
  have hpu := h.pa
  have hv2 : RlS (envOf X loc2 [] w) (fzL σ (List.range σ.length) args) vs := by
    have key : ∀ {xs : List AV} {us : List Value}, PuL (fzL σ (List.range σ.length) xs) → RlS (envOf X loc σ w) xs us → RlS (envOf X loc2 [] w) (fzL σ (List.range σ.length) xs) us := by
      intro xs
      induction xs with
      | nil => intro us _ hv; exact hv
      | cons a xs ih =>
        intro us hp hv
        obtain ⟨u, us', e, h1, h2⟩ := hv
        exact ⟨u, us', e, g4 a u h1 _ (hp.1.ren _).symm, ih hp.2 h2⟩
    exact key hpu hv
  refine (h.call.2.2 X loc2 w vs g2 hv2).mono ?_
  rintro e w' ⟨v, loc', rfl, ho, _⟩
  have hl : loc' = fun _ => none := funext fun id => ho.rel.beyond id (Nat.zero_le _)
  have hnl : ∀ b, ¬ liveB [] loc' b := fun b hd => by obtain ⟨id, o, L, h1, _⟩ := hd; simp at h1
  refine ⟨v, loc, rfl, ⟨fun _ _ h => h, ⟨fun id o h1 h2 => ?_, fun i j a b La Lb _ h1 _ h3 => ?_, fun b hb => ⟨Nat.lt_of_lt_of_le (hr.out b hb).1 ho.ev.size, gone_none⟩, fun id hid => hr.beyond id (by simpa using hid)⟩, ?_, ⟨ho.ev.size, fun b hb hn => ho.ev.blk b hb (fun hd => by obtain ⟨id, o, L, h1, _⟩ := hd; simp at h1), ho.ev.os, ho.ev.tape, ho.ev.output⟩, fun b hb => absurd hb gone_none⟩, fun _ _ => rfl⟩
  · rw [List.getElem?_replicate] at h1
    split at h1
    · simp only [Option.some.injEq] at h1; subst h1; cases h2
    · cases h1
  · rw [List.getElem?_replicate] at h1
    split at h1
    · simp only [Option.some.injEq] at h1; subst h1; cases h3
    · cases h1
  · refine Rl.mono (E := envOf X loc' [] w') (E' := envOf X loc (List.replicate σ.length .gone) w') ⟨fun id L hL => ?_, Nat.le_refl _, fun b hb hn => ⟨fun (hf : X b ∨ liveB _ loc b) => hn (hf.elim .inl fun hd => absurd hd gone_none), rfl⟩⟩ _ _ ho.val
    have hL2 : loc' id = some L := hL
    rw [hl] at hL2
    cases hL2
end
end Go.FH
