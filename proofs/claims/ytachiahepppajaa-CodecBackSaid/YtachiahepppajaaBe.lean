/-
  The abstract walk, part 14: code and functions. It holds of any program.
-/
import Derived.Test.YtachiahepppajaaBd
import Derived.Tactics
namespace Go.FH
set_option linter.unusedVariables false
set_option linter.unusedSimpArgs false
open Go Go.RowKit

section
variable {P : Program} {C : Cx} {nt k : Nat} {fr : Fr} {σ : St} {loc : Nat → Option Loc} {a : Act} {w : World}

theorem run_list {all : List Oper} {Q : Exit → Act → World → Prop} {Q' : Fr → St → Prop} (hQ : ∀ fr' σ' loc' a' w', Q' fr' σ' → SR C nt k fr' σ' loc' a' w' → Q .normal a' w') :
    ∀ (l : List Oper) (al : List AOpr) (fr : Fr) (σ : St) (loc : Nat → Option Loc) (a : Act) (w : World), convOprs P nt all l = some al → SR C nt k fr σ loc a w → aRun P al Q' fr σ → wpList P all.toArray Q l a w
  | [], al, fr, σ, loc, a, w, hc, h, hr => by
    simp only [convOprs, Option.some.injEq] at hc
    subst hc
    exact hQ _ _ _ _ _ hr h
  | o :: l, al, fr, σ, loc, a, w, hc, h, hr => by
    simp only [convOprs] at hc
    split at hc
    · rename_i ao r h1 h2
      simp only [Option.some.injEq] at hc
      subst hc
      simp only [aRun] at hr
      obtain ⟨fr', hs, hw | hw⟩ := wanted_of h1 h hr
      · simp only [wpList, hw.1, if_true]
        refine .inl (wp_aDo h1 _ (fun fr' σ' loc' a' w' k1 k2 => run_list hQ l r fr' σ' loc' a' w' h2 k2 k1) hs hw.2)
      · simp only [wpList, hw.1, Bool.false_eq_true, if_false]
        have hd := convOpr_spec h1
        have := hs.skip o.dst hd.2.2.1
        rw [hd.2.1] at hw
        exact run_list hQ l r _ _ _ _ _ h2 this hw.2
    · cases hc

/-- A loop, its measure beside its relation. -/
theorem wp_loop_ix {c : Code} {Q : Exit → Act → World → Prop} (I : Nat → Act → World → Prop) (m : Nat) (h₀ : I m a w)
    (round : ∀ m a w, I m a w → c.wp P (Exit.then (fun a' w' => ∃ m', m' < m ∧ I m' a' w') Q) a w) : (Code.loop c).wp P Q a w := by
  intro b k cs
  have key : ∀ n a w, I n a w → ∃ e a' w', Q e a' w' ∧ Arrives P (lone (b.at a (.code c :: .inLoop c :: k)) cs w) b k cs e a' w' := by
    intro n
    induction n using Nat.strongRecOn with
    | _ n ih =>
      intro a w hI
      obtain ⟨e, a₁, w₁, hq, harr⟩ := round n a w hI b (.inLoop c :: k) cs
      cases e with
      | normal =>
        obtain ⟨m', hlt, hI₁⟩ := hq
        obtain ⟨e₂, a₂, w₂, hq₂, harr₂⟩ := ih m' hlt a₁ w₁ hI₁
        exact ⟨e₂, a₂, w₂, hq₂, .of_steps (Steps.trans harr (.one step_inLoop)) harr₂⟩
      | exit id => exact ⟨_, a₁, w₁, hq, .pass (x := .inLoop c) rfl (fun _ _ => .inl (by simp)) harr⟩
      | goto l => exact ⟨_, a₁, w₁, hq, .pass (x := .inLoop c) rfl (fun _ _ => .inl (by simp)) harr⟩
      | ret => exact ⟨_, a₁, w₁, hq, .pass (x := .inLoop c) rfl (fun _ _ => .inl (by simp)) harr⟩
      | panic ch => exact ⟨_, a₁, w₁, hq, .pass (x := .inLoop c) rfl (fun _ _ => .inl (by simp)) harr⟩
      | outgrown => exact ⟨_, a₁, w₁, hq, .pass (x := .inLoop c) rfl (fun _ _ => .inl (by simp)) harr⟩
  obtain ⟨e, a', w', hq, harr⟩ := key m a w h₀
  exact ⟨e, a', w', hq, .of_steps (.one step_loop) harr⟩
/-- Code that does what its abstract form says. -/
def Tri (P : Program) (nt k : Nat) (c : ACode) (Q : Ex → Fr → St → Prop) (fr : Fr) (σ : St) : Prop :=
  ∀ (code : Code), convC P nt code = some c → ∀ (C : Cx) (loc : Nat → Option Loc) (a : Act) (w : World), SR C nt k fr σ loc a w →
    code.wp P (fun ex a' w' => ∃ e fr' σ' loc', ex = Ex.to e ∧ Q e fr' σ' ∧ SR C nt k fr' σ' loc' a' w') a w

theorem Tri.mono {c : ACode} {Q Q' : Ex → Fr → St → Prop} (h : Tri P nt k c Q fr σ) (hq : ∀ e fr σ, Q e fr σ → Q' e fr σ) : Tri P nt k c Q' fr σ :=
  fun code hc C loc a w hs => wp_mono (h code hc C loc a w hs) fun ex a' w' ⟨e, fr', σ', loc', h1, h2, h3⟩ => ⟨e, fr', σ', loc', h1, hq _ _ _ h2, h3⟩

def thenQ (next : Fr → St → Prop) (Q : Ex → Fr → St → Prop) : Ex → Fr → St → Prop
  | .normal, fr, σ => next fr σ
  | e, fr, σ => Q e fr σ
def inBlockQ (id : Nat) (Q : Ex → Fr → St → Prop) : Ex → Fr → St → Prop
  | .exit i, fr, σ => if i = id then Q .normal fr σ else Q (.exit i) fr σ
  | e, fr, σ => Q e fr σ

theorem tri_skip {Q : Ex → Fr → St → Prop} (h : Q .normal fr σ) : Tri P nt k .skip Q fr σ := by
  intro code hc C loc a w hs
  cases code <;> simp only [convC, reduceCtorEq] at hc
  case skip => exact wp_skip ⟨.normal, fr, σ, loc, rfl, h, hs⟩
  all_goals (exfalso; revert hc; (repeat' split) <;> intro hc <;> first | (cases hc; done) | (obtain ⟨_, _, hc⟩ := Option.map_eq_some_iff.1 hc; cases hc; done))
theorem tri_exit {id : Nat} {Q : Ex → Fr → St → Prop} (h : Q (.exit id) fr σ) : Tri P nt k (.exit id) Q fr σ := by
  intro code hc C loc a w hs
  cases code <;> simp only [convC, reduceCtorEq] at hc
  case exit i => simp only [Option.some.injEq, ACode.exit.injEq] at hc; subst hc; exact wp_exit ⟨.exit i, fr, σ, loc, rfl, h, hs⟩
  all_goals (exfalso; revert hc; (repeat' split) <;> intro hc <;> first | (cases hc; done) | (obtain ⟨_, _, hc⟩ := Option.map_eq_some_iff.1 hc; cases hc; done))
theorem tri_ret {Q : Ex → Fr → St → Prop} (h : Q .ret fr σ) : Tri P nt k .ret Q fr σ := by
  intro code hc C loc a w hs
  cases code <;> simp only [convC, reduceCtorEq] at hc
  case ret => exact wp_ret ⟨.ret, fr, σ, loc, rfl, h, hs⟩
  all_goals (exfalso; revert hc; (repeat' split) <;> intro hc <;> first | (cases hc; done) | (obtain ⟨_, _, hc⟩ := Option.map_eq_some_iff.1 hc; cases hc; done))
theorem tri_seq {x y : ACode} {Q : Ex → Fr → St → Prop} (h : Tri P nt k x (thenQ (Tri P nt k y Q) Q) fr σ) : Tri P nt k (.seq x y) Q fr σ := by
  intro code hc C loc a w hs
  cases code <;> simp only [convC, reduceCtorEq] at hc
  case seq u v =>
    split at hc
    · rename_i x' y' h1 h2
      simp only [Option.some.injEq, ACode.seq.injEq] at hc
      obtain ⟨rfl, rfl⟩ := hc
      refine wp_seq (wp_mono (h u h1 C loc a w hs) fun ex a' w' ⟨e, fr', σ', loc', k1, k2, k3⟩ => ?_)
      subst k1
      cases e with
      | normal => exact k2 v h2 C loc' a' w' k3
      | exit id => exact ⟨.exit id, fr', σ', loc', rfl, k2, k3⟩
      | ret => exact ⟨.ret, fr', σ', loc', rfl, k2, k3⟩
    · cases hc
  all_goals (exfalso; revert hc; (repeat' split) <;> intro hc <;> first | (cases hc; done) | (obtain ⟨_, _, hc⟩ := Option.map_eq_some_iff.1 hc; cases hc; done))
theorem tri_cond {c : Opd} {x y : ACode} {Q : Ex → Fr → St → Prop} {t : Bool} (hb : c.ev fr = .bool t) (h1 : t = true → Tri P nt k x Q fr σ) (h2 : t = false → Tri P nt k y Q fr σ) : Tri P nt k (.cond c x y) Q fr σ := by
  intro code hc C loc a w hs
  cases code <;> simp only [convC, reduceCtorEq] at hc
  case cond c0 u v =>
    split at hc
    · rename_i c' x' y' k1 k2 k3
      simp only [Option.some.injEq, ACode.cond.injEq] at hc
      obtain ⟨rfl, rfl, rfl⟩ := hc
      have hv := hs.opd c0 c' k1
      rw [hb] at hv
      simp only [Rl] at hv
      cases t
      · exact wp_cond hv (h2 rfl v k3 C loc a w hs)
      · exact wp_cond hv (h1 rfl u k2 C loc a w hs)
    · cases hc
  all_goals (exfalso; revert hc; (repeat' split) <;> intro hc <;> first | (cases hc; done) | (obtain ⟨_, _, hc⟩ := Option.map_eq_some_iff.1 hc; cases hc; done))
theorem tri_block {id : Nat} {x : ACode} {Q : Ex → Fr → St → Prop} (h : Tri P nt k x (inBlockQ id Q) fr σ) : Tri P nt k (.block id x) Q fr σ := by
  intro code hc C loc a w hs
  cases code <;> simp only [convC, reduceCtorEq] at hc
  case block i u =>
    obtain ⟨x', k1, k2⟩ := Option.map_eq_some_iff.1 hc
    simp only [ACode.block.injEq] at k2
    obtain ⟨rfl, rfl⟩ := k2
    refine wp_block (wp_mono (h u k1 C loc a w hs) fun ex a' w' ⟨e, fr', σ', loc', g1, g2, g3⟩ => ?_)
    subst g1
    cases e with
    | normal => exact ⟨.normal, fr', σ', loc', rfl, g2, g3⟩
    | ret => exact ⟨.ret, fr', σ', loc', rfl, g2, g3⟩
    | exit j =>
      simp only [Ex.to, Exit.inBlock]
      simp only [inBlockQ] at g2
      split at g2
      · rename_i hj; rw [if_pos hj]; exact ⟨.normal, fr', σ', loc', rfl, g2, g3⟩
      · rename_i hj; rw [if_neg hj]; exact ⟨.exit j, fr', σ', loc', rfl, g2, g3⟩
  all_goals (exfalso; revert hc; (repeat' split) <;> intro hc <;> first | (cases hc; done) | (obtain ⟨_, _, hc⟩ := Option.map_eq_some_iff.1 hc; cases hc; done))
/-- A loop: I holds at each round's head, the number goes down. -/
theorem tri_loop {x : ACode} {Q : Ex → Fr → St → Prop} (I : Nat → Fr → St → Prop) (m : Nat) (h0 : I m fr σ) (round : ∀ m fr σ, I m fr σ → Tri P nt k x (thenQ (fun fr σ => ∃ m', m' < m ∧ I m' fr σ) Q) fr σ) : Tri P nt k (.loop x) Q fr σ := by
  intro code hc C loc a w hs
  cases code <;> simp only [convC, reduceCtorEq] at hc
  case loop u =>
    obtain ⟨x', k1, k2⟩ := Option.map_eq_some_iff.1 hc
    simp only [ACode.loop.injEq] at k2
    subst k2
    refine wp_loop_ix (fun m a w => ∃ fr σ loc, I m fr σ ∧ SR C nt k fr σ loc a w) m ⟨fr, σ, loc, h0, hs⟩ fun m a w ⟨fr1, σ1, loc1, g1, g2⟩ => ?_
    refine wp_mono (round m fr1 σ1 g1 u k1 C loc1 a w g2) fun ex a' w' ⟨e, fr', σ', loc', q1, q2, q3⟩ => ?_
    subst q1
    cases e with
    | normal =>
      obtain ⟨m', hm, hI'⟩ := q2
      exact ⟨m', hm, fr', σ', loc', hI', q3⟩
    | exit id => exact ⟨.exit id, fr', σ', loc', rfl, q2, q3⟩
    | ret => exact ⟨.ret, fr', σ', loc', rfl, q2, q3⟩
  all_goals (exfalso; revert hc; (repeat' split) <;> intro hc <;> first | (cases hc; done) | (obtain ⟨_, _, hc⟩ := Option.map_eq_some_iff.1 hc; cases hc; done))
theorem tri_reg {l : List AOpr} {Q : Ex → Fr → St → Prop} (h : aRun P l (fun fr σ => Q .normal fr σ) fr σ) : Tri P nt k (.reg l) Q fr σ := by
  intro code hc C loc a w hs
  cases code <;> simp only [convC, reduceCtorEq] at hc
  case region id ops draw =>
    split at hc
    · rename_i l' h1
      cases draw
      · simp only [Bool.false_eq_true, if_false, Option.some.injEq, ACode.reg.injEq] at hc
        subst hc
        refine wp_region_list ?_
        have := run_list (C := C) (k := k) (Q := fun ex a' w' => ∃ e fr' σ' loc', ex = Ex.to e ∧ Q e fr' σ' ∧ SR C nt k fr' σ' loc' a' w') (Q' := fun fr σ => Q .normal fr σ) (fun fr' σ' loc' a' w' g1 g2 => ⟨.normal, fr', σ', loc', rfl, g1, g2⟩) ops.toList l' fr σ loc a w h1 hs h
        simpa using this
      · simp only [if_true] at hc
        split at hc
        · cases hc
        · cases hc
    · cases hc
  all_goals (exfalso; revert hc; (repeat' split) <;> intro hc <;> first | (cases hc; done) | (obtain ⟨_, _, hc⟩ := Option.map_eq_some_iff.1 hc; cases hc; done))
end
end Go.FH
