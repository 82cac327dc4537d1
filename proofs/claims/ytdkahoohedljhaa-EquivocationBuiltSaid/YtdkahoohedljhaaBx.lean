/-
  The abstract walk, part 33: loops whose hidden slots live on; weaker slices of structures. It holds of any program.
-/
import Derived.Test.YtdkahoohedljhaaBw
namespace Go.FH
set_option linter.unusedVariables false
set_option linter.unusedSimpArgs false
open Go Go.RowKit

def tsOk (σ : St) (zs : List Nat) (ρ : Nat → Nat) (ts : List (Nat × AV)) : List (Nat × AV) → Prop
  | [] => True
  | p :: r => fz σ zs (look ts p.1) = ren ρ p.2 ∧ tsOk σ zs ρ ts r
theorem tsOk.get {σ : St} {zs : List Nat} {ρ : Nat → Nat} {ts : List (Nat × AV)} (t : Nat) : ∀ {ts2 : List (Nat × AV)}, tsOk σ zs ρ ts ts2 → look ts2 t = .dead ∨ fz σ zs (look ts t) = ren ρ (look ts2 t)
  | [], _ => .inl rfl
  | (u, v) :: r, h => by
    rw [show look ((u, v) :: r) t = if t = u then v else look r t from rfl]
    by_cases hu : t = u
    · subst hu
      rw [if_pos rfl]
      exact .inr h.1
    · rw [if_neg hu]
      exact tsOk.get t h.2
section
variable {k : Nat} {σ : St}
theorem GC.mkT {nv : Nat} {vs vs2 : List AV} {ts ts2 : List (Nat × AV)} {σ2 : St} (zs js : List Nat) (hk : k ≤ js.length) (hfix : js.take k = List.range k) (hnd : js.Nodup) (hlt : ∀ j ∈ js, j < σ.length) (ho : objsOk σ zs (rn js σ.length) js σ2)
    (hs : slotsOk σ zs (rn js σ.length) vs vs2) (ht : tsOk σ zs (rn js σ.length) ts ts2) : GC k ⟨nv, vs, ts⟩ σ ⟨nv, vs2, ts2⟩ σ2 := by
  refine ⟨zs, js, ⟨fun i hi => ?_, hnd, hlt, ho.len, ho.get⟩, hk, fun t => ?_⟩
  · have : (js.take k)[i]? = some i := by rw [hfix]; simp [hi]
    rwa [List.getElem?_take, if_pos hi] at this
  · unfold Fr.get
    simp only
    split
    · exact hs.get t
    · exact ht.get t
end
attribute [go_sem] tsOk look
/-- What is left of a sequence behind its first parts. -/
def ACode.tl : Nat → ACode → ACode
  | 0, c => c
  | n + 1, .seq _ b => b.tl n
  | _ + 1, c => c

/-- Parts of a text. -/
def ACode.hd : ACode → ACode
  | .seq a _ => a
  | c => c
def ACode.inner : ACode → ACode
  | .block _ a => a
  | .loop a => a
  | c => c
def ACode.els : ACode → ACode
  | .cond _ _ b => b
  | c => c
end Go.FH
