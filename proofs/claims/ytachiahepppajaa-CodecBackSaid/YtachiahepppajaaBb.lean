/-
  The abstract walk, part 11: every operation that has an abstract form does what it says. It holds of any program.
-/
import Derived.Test.YtachiahepppajaaBa
namespace Go.FH
set_option linter.unusedVariables false
set_option linter.unusedSimpArgs false
open Go Go.RowKit

def AOp.allocs : AOp → Bool
  | .new _ | .box _ _ | .mk _ _ _ _ _ | .app _ _ _ _ | .call _ _ => true
  | _ => false
theorem aggT_of {P : Program} {t : TypeId} (h : (∃ fs, P.underlying t = some (.struct fs)) ∨ ∃ n e, P.underlying t = some (.array n e)) : aggT P t = true := by
  unfold aggT
  rcases h with ⟨fs, h⟩ | ⟨n, e, h⟩ <;> rw [h]
theorem leafs_le {P : Program} : ∀ (d : Nat) {t : TypeId} {ks : List Nat}, leafs P d t = some ks → ∀ k ∈ ks, k ≤ 2
  | 0, _, _, h, _, _ => by simp [leafs] at h
  | d + 1, t, ks, h, k, hk => by
    have ih := @leafs_le P d
    unfold leafs at h
    cases hu : P.underlying t with
    | none => simp [hu] at h
    | some td =>
      simp only [hu] at h
      cases td <;> simp only [reduceCtorEq, Option.some.injEq] at h
      case bool => subst h; simp at hk; omega
      case int => subst h; simp at hk; omega
      case string => subst h; simp at hk; omega
      case array n e =>
        split at h
        · rename_i l hl
          split at h
          · simp only [Option.some.injEq] at h
            subst h
            obtain ⟨q, hq, hk2⟩ := List.mem_flatten.1 hk
            have := (List.mem_replicate.1 hq).2
            rw [this] at hk2
            exact ih hl k hk2
          · cases h
        · cases h
      case struct fs =>
        split at h
        · cases h
        · have key : ∀ (gs : List Field) (off : Nat) (ks : List Nat), leafF (leafs P d) P gs off = some ks → ∀ k ∈ ks, k ≤ 2 := by
            intro gs
            induction gs with
            | nil => intro off ks h k hk; simp only [leafF, Option.some.injEq] at h; subst h; cases hk
            | cons g gs ihg =>
              intro off ks h k hk
              simp only [leafF] at h
              split at h
              · rename_i a b ha hb
                split at h
                · simp only [Option.some.injEq] at h
                  subst h
                  rcases List.mem_append.1 hk with h1 | h1
                  · exact ih ha k h1
                  · exact ihg _ _ hb k h1
                · cases h
              · cases h
          exact key _ _ _ h k hk
theorem squeezeK_mem : ∀ (l : List Nat) (p : Nat × Nat), p ∈ squeezeK l → p.2 ∈ l
  | [], p, h => by simp [squeezeK] at h
  | k :: r, p, h => by
    have ih := squeezeK_mem r
    simp only [squeezeK] at h
    split at h
    · rename_i n k' q hq
      split at h
      · rename_i hkk
        subst hkk
        rcases List.mem_cons.1 h with rfl | h1
        · exact List.mem_cons_self ..
        · exact List.mem_cons_of_mem _ (ih p (by rw [hq]; exact List.mem_cons_of_mem _ h1))
      · rcases List.mem_cons.1 h with rfl | h1
        · exact List.mem_cons_self ..
        · exact List.mem_cons_of_mem _ (ih p (by rw [hq]; exact h1))
    · rcases List.mem_cons.1 h with rfl | h1
      · exact List.mem_cons_self ..
      · cases h1

section
variable {X : Nat → Prop} {loc : Nat → Option Loc} {σ : St} {w : World} {n : Nat} {P : Program} {ρ : Operand → Value} {ρ' : Opd → AV} {K : AV → List Nat → Bool → St → Prop}

theorem op_sound (hr : Rel X loc σ w) (hρ : OpdOk (envOf X loc σ w) ρ ρ') {o : Oper} {op : AOp} (hc : convOp P o.op = some op) (hn : op.allocs = true → n < σ.length ∧ loc n = none ∧ ∀ o : AObj, σ[n]? = some o → o.live = false)
    (h : opF n σ ρ' K op) : Snd X loc σ w n ((execOp ρ o).run P w) K := by
  cases ho : o.op <;> rw [ho] at hc <;> simp only [convOp, reduceCtorEq] at hc
  case move x => obtain ⟨a, h1, rfl⟩ := Option.map_eq_some_iff.1 hc; exact snd_mv hr hρ (.inl ho) h1 h
  case assign x => obtain ⟨a, h1, rfl⟩ := Option.map_eq_some_iff.1 hc; exact snd_mv hr hρ (.inr ho) h1 h
  case pick c x y =>
    split at hc
    · rename_i c' a b h1 h2 h3; simp only [Option.some.injEq] at hc; subst hc; exact snd_pick hr hρ ho h1 h2 h3 h
    · cases hc
  case binOp op t x y yt =>
    split at hc
    · rename_i a b h1 h2
      split at hc
      · simp only [Option.some.injEq] at hc; subst hc; exact snd_bin hr hρ ho h1 h2 h
      · rename_i hu
        cases op <;> simp only [reduceCtorEq, Option.some.injEq] at hc <;> subst hc
        · exact snd_eqv (neg := false) hr hρ ho h1 h2 (.inl ⟨rfl, hu⟩) h
        · exact snd_eqv (neg := true) hr hρ ho h1 h2 (.inl ⟨rfl, hu⟩) h
      · rename_i hu
        cases op <;> simp only [reduceCtorEq, Option.some.injEq] at hc <;> subst hc
        · exact snd_eqv (neg := false) hr hρ ho h1 h2 (.inr (.inl ⟨rfl, hu⟩)) h
        · exact snd_eqv (neg := true) hr hρ ho h1 h2 (.inr (.inl ⟨rfl, hu⟩)) h
      · rename_i hu
        cases op <;> simp only [reduceCtorEq, Option.some.injEq] at hc <;> subst hc
        · exact snd_eqv (neg := false) hr hρ ho h1 h2 (.inr (.inr (.inl ⟨rfl, _, hu⟩))) h
        · exact snd_eqv (neg := true) hr hρ ho h1 h2 (.inr (.inr (.inl ⟨rfl, _, hu⟩))) h
      · rename_i hu
        cases op <;> simp only [reduceCtorEq, Option.some.injEq] at hc <;> subst hc
        · exact snd_eqv (neg := false) hr hρ ho h1 h2 (.inr (.inr (.inr ⟨rfl, _, _, _, hu⟩))) h
        · exact snd_eqv (neg := true) hr hρ ho h1 h2 (.inr (.inr (.inr ⟨rfl, _, _, _, hu⟩))) h
      · rename_i fs hu
        split at hc
        · rename_i l hl
          split at hc
          · rename_i hcond
            obtain ⟨he, hg⟩ := hcond
            have hl' : leafs P 40 t = some (expandK (squeezeK l)) := by rw [he]; exact hl
            have h3 : ∀ p ∈ squeezeK l, p.2 ≤ 2 := fun p hp => leafs_le 40 hl _ (squeezeK_mem l p hp)
            cases op <;> simp only [reduceCtorEq, Option.some.injEq] at hc <;> subst hc
            · exact snd_eqa (neg := false) hr hρ ho h1 h2 (aggT_of (.inl ⟨_, hu⟩)) hl' h3 hg h
            · exact snd_eqa (neg := true) hr hρ ho h1 h2 (aggT_of (.inl ⟨_, hu⟩)) hl' h3 hg h
          · cases hc
        · cases hc
      · rename_i fs hu
        split at hc
        · rename_i l hl
          split at hc
          · rename_i hcond
            obtain ⟨he, hg⟩ := hcond
            have hl' : leafs P 40 t = some (expandK (squeezeK l)) := by rw [he]; exact hl
            have h3 : ∀ p ∈ squeezeK l, p.2 ≤ 2 := fun p hp => leafs_le 40 hl _ (squeezeK_mem l p hp)
            cases op <;> simp only [reduceCtorEq, Option.some.injEq] at hc <;> subst hc
            · exact snd_eqa (neg := false) hr hρ ho h1 h2 (aggT_of (.inr ⟨_, _, hu⟩)) hl' h3 hg h
            · exact snd_eqa (neg := true) hr hρ ho h1 h2 (aggT_of (.inr ⟨_, _, hu⟩)) hl' h3 hg h
          · cases hc
        · cases hc
      · exfalso
        revert hc
        (repeat' split) <;> intro hc <;> first | (cases hc; done) | (simp only [Option.some.injEq] at hc; subst hc; exact h)
      · cases hc
    · cases hc
  case unOp op t x => obtain ⟨a, h1, rfl⟩ := Option.map_eq_some_iff.1 hc; exact snd_un hr hρ ho h1 h
  case convert s d x =>
    split at hc
    · rename_i h1 h2 h3; simp only [Option.some.injEq] at hc; subst hc; exact snd_cvt hr hρ ho h1 h2 h3 h
    · rename_i h1 h2 h3
      split at hc
      · rename_i h4; simp only [Option.some.injEq] at hc; subst hc; exact snd_b2s hr hρ ho h1 h4 h2 h3 h
      · cases hc
    · cases hc
  case nilCheck x => obtain ⟨a, h1, rfl⟩ := Option.map_eq_some_iff.1 hc; exact snd_nilc hr hρ ho h1 h
  case field t x i =>
    split at hc
    · rename_i fs a h1 h2
      split at hc
      · rename_i f h3
        obtain ⟨⟨ag, sz⟩, h4, rfl⟩ := Option.map_eq_some_iff.1 hc
        exact snd_fld hr hρ ho h1 h3 h4 h2 h
      · cases hc
    · cases hc
  case fieldAddr t x i =>
    split at hc
    · rename_i fs a h1 h2
      split at hc
      · rename_i f h3
        split at hc
        · rename_i ti h4
          split at hc
          · cases hc
          · rename_i h5; simp only [Option.some.injEq] at hc; subst hc; exact snd_fldA hr hρ ho h1 h3 h4 h5 h2 h
        · cases hc
      · cases hc
    · cases hc
  case index t x i =>
    split at hc
    · rename_i m e a b h1 h2 h3
      obtain ⟨⟨ag, sz⟩, h4, rfl⟩ := Option.map_eq_some_iff.1 hc
      exact snd_idx hr hρ ho h1 h4 h2 h3 h
    · cases hc
  case indexAddr t x i =>
    split at hc
    · rename_i m e a b h1 h2 h3
      obtain ⟨ti, h4, rfl⟩ := Option.map_eq_some_iff.1 hc
      exact snd_idxA hr hρ ho h1 h4 h2 h3 h
    · rename_i e a b h1 h2 h3
      split at hc
      · rename_i ti h4
        split at hc
        · simp only [Option.some.injEq] at hc; subst hc; exact snd_idxS hr hρ ho h1 h4 h2 h3 h
        · cases hc
      · cases hc
    · cases hc
  case load t x =>
    split at hc
    · rename_i p a h1 h2; simp only [Option.some.injEq] at hc; subst hc; exact snd_ld hr hρ ho h1 h2 h
    · cases hc
  case store t x y =>
    split at hc
    · rename_i i a b h1 h2 h3; simp only [Option.some.injEq] at hc; subst hc; exact snd_sto hr hρ ho h1 h2 h3 h
    · cases hc
  case alloc t =>
    split at hc
    · rename_i z i h1 h2; simp only [Option.some.injEq] at hc; subst hc; exact snd_new hr (hn rfl).1 (hn rfl).2.1 ho h1 h
    · cases hc
  case box t x =>
    split at hc
    · rename_i i a h1 h2; simp only [Option.some.injEq] at hc; subst hc; exact snd_box hr hρ (hn rfl).1 (hn rfl).2.1 ho h2 h
    · cases hc
  case build t ps =>
    split at hc
    · rename_i fs z h1 h2
      obtain ⟨q, h3, h4⟩ := Option.bind_eq_some_iff.1 hc
      split at h4
      · rename_i h5; simp only [Option.some.injEq] at h4; subst h4; exact snd_bldS0 hr hρ ho h1 h2 h3 h5 h
      · cases h4
    · rename_i m e z h1 h2
      obtain ⟨ti, h3, h4⟩ := Option.bind_eq_some_iff.1 hc
      obtain ⟨q, h5, rfl⟩ := Option.map_eq_some_iff.1 h4
      exact snd_bldA hr hρ ho h1 h2 h3 h5 h
    · cases hc
  case buildSlice t m ps =>
    split at hc
    · rename_i e h1
      split at hc
      · rename_i z i q h2 h3 h4
        split at hc
        · rename_i h5
          simp only [Option.some.injEq] at hc
          subst hc
          have hmm : m ≤ maxLen := by
            have : m ≤ m * i.size := Nat.le_mul_of_pos_right _ h5.1
            simp only [maxLen]; omega
          exact snd_bldS hr hρ ho h1 h2 h3 h4 h5.1 h5.2 hmm h
        · cases hc
      · cases hc
    · cases hc
  case makeSlice t l c =>
    split at hc
    · rename_i e h1
      split at hc
      · rename_i z i a b h2 h3 h4 h5
        split at hc
        · rename_i h6; simp only [Option.some.injEq] at hc; subst hc; exact snd_mk hr hρ (hn rfl).1 (hn rfl).2.1 ho h1 h2 h3 h6 h4 h5 h
        · cases hc
      · cases hc
    · cases hc
  case slice t x lo hi mx =>
    split at hc
    · rename_i e a l hh m h1 h2 h3 h4 h5
      split at hc
      · rename_i ti h6
        split at hc
        · simp only [Option.some.injEq] at hc; subst hc; exact snd_sli hr hρ ho h1 h6 h2 h3 h4 h5 h
        · cases hc
      · cases hc
    · rename_i m e a l hh h1 h2 h3 h4 h5
      split at hc
      · rename_i ti h6
        split at hc
        · rename_i h7
          simp only [Option.some.injEq] at hc
          subst hc
          have := (convOpt_none h5).1 rfl
          subst this
          exact snd_sliA hr hρ ho h1 h6 h7.2 h2 h3 h4 h
        · cases hc
      · cases hc
    · cases hc
  case extract x i => obtain ⟨a, h1, rfl⟩ := Option.map_eq_some_iff.1 hc; exact snd_ext hr hρ ho h1 h
  case makeFunc f first caps =>
    split at hc
    · rename_i h0
      obtain ⟨ys, h1, rfl⟩ := Option.map_eq_some_iff.1 hc
      exact snd_mkf hr hρ ho (by simpa using h0) h1 h
    · cases hc
  case call c =>
    obtain ⟨callee, args, ats⟩ := c
    unfold convCall at hc
    split at hc
    · split at hc
      · simp only [Option.some.injEq] at hc; subst hc; exact h.elim
      · cases hc
    · rename_i b hb
      simp only at hb
      subst hb
      split at hc
      · rename_i x t h1 h2
        have e1 : args = #[x] := Array.toList_inj.1 h1
        have e2 : ats = #[t] := Array.toList_inj.1 h2
        subst e1; subst e2
        split at hc
        · rename_i hu; obtain ⟨a, h3, rfl⟩ := Option.map_eq_some_iff.1 hc; exact snd_len hr hρ ho (.inl ⟨rfl, _, hu⟩) h3 h
        · rename_i hu; obtain ⟨a, h3, rfl⟩ := Option.map_eq_some_iff.1 hc; exact snd_len hr hρ ho (.inr ⟨rfl, hu⟩) h3 h
        · cases hc
      · rename_i x t h1 h2
        have e1 : args = #[x] := Array.toList_inj.1 h1
        have e2 : ats = #[t] := Array.toList_inj.1 h2
        subst e1; subst e2
        split at hc
        · rename_i hu; obtain ⟨a, h3, rfl⟩ := Option.map_eq_some_iff.1 hc; exact snd_cap hr hρ ho hu h3 h
        · cases hc
      · rename_i s x t u h1 h2
        have e1 : args = #[s, x] := Array.toList_inj.1 h1
        have e2 : ats = #[t, u] := Array.toList_inj.1 h2
        subst e1; subst e2
        split at hc
        · rename_i e hu
          split at hc
          · rename_i i z a b h3 h4 h5 h6
            split at hc
            · rename_i e' hu2
              split at hc
              · rename_i h7; simp only [Option.some.injEq] at hc; subst hc; exact snd_app hr hρ (hn rfl).1 (hn rfl).2.1 (hn rfl).2.2 ho hu (.inl ⟨_, hu2⟩) h4 h3 h7.1 h5 h6 h
              · cases hc
            · rename_i hu2
              split at hc
              · rename_i h7; simp only [Option.some.injEq] at hc; subst hc; exact snd_app hr hρ (hn rfl).1 (hn rfl).2.1 (hn rfl).2.2 ho hu (.inr hu2) h4 h3 h7.1 h5 h6 h
              · cases hc
            · cases hc
          · cases hc
        · cases hc
      · rename_i d s t u h1 h2
        have e1 : args = #[d, s] := Array.toList_inj.1 h1
        have e2 : ats = #[t, u] := Array.toList_inj.1 h2
        subst e1; subst e2
        split at hc
        · rename_i e hu
          split at hc
          · rename_i i a b h3 h4 h5
            split at hc
            · rename_i h7; simp only [Option.some.injEq] at hc; subst hc; exact snd_cpy hr hρ ho hu h3 h7 h4 h5 h
            · cases hc
          · cases hc
        · cases hc
      · obtain ⟨ys, h3, rfl⟩ := Option.map_eq_some_iff.1 hc; exact snd_mn hr hρ ho h3 h
      · obtain ⟨ys, h3, rfl⟩ := Option.map_eq_some_iff.1 hc; exact snd_mx hr hρ ho h3 h
      · cases hc
    · cases hc
end
end Go.FH
