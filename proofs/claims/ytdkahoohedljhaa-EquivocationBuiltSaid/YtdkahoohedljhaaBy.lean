/-
  The abstract walk, part 35: the equations of maps. It holds of any program.
-/
import Derived.Test.YtdkahoohedljhaaMc
namespace Go.FH
open Go Go.RowKit
set_option linter.unusedVariables false
set_option linter.unusedSimpArgs false

theorem evP :
    (∀ n σ K, mopF n σ K .mkm [] = K (.mp n) [n] true (σ.set n (.map []))) ∧
    (∀ n σ K kk z ok id k, mopF n σ K (.lkp kk z ok) [.mp id, k] = (kfit kk k = true ∧ match σ[id]? with
      | some (.map es) => (match midx kk k es with
        | some (some j) => K (if ok then .tup [(es.getD j []).getD 1 .dead, .bool true] else (es.getD j []).getD 1 .dead) [id] false σ
        | some none => K (if ok then .tup [z, .bool false] else z) [id] false σ
        | none => False)
      | _ => False)) ∧
    (∀ n σ K kk id k v, mopF n σ K (.upd kk) [.mp id, k, v] = (kfit kk k = true ∧ match σ[id]? with
      | some (.map es) => (match midx kk k es with
        | some (some j) => K (.tup []) [id] true (σ.set id (.map (es.set j [k, v])))
        | some none => K (.tup []) [id] true (σ.set id (.map (es ++ [[k, v]])))
        | none => False)
      | _ => False)) ∧
    (∀ n σ K id, mopF n σ K .rng [.mp id] = (match σ[id]? with
      | some (.map es) => K (.ptr n 0) [n, id] true (σ.set n (.iter id es.length []))
      | _ => False)) ∧
    (∀ n σ K id, mopF n σ K .ent [.ptr id 0] = (match σ[id]? with
      | some (.iter m N seen) => (match seen.getLast?, σ[m]? with
        | some i, some (.map es) => es.length = N ∧ i < N ∧ K (.tup (es.getD i [])) [id, m] false σ
        | _, _ => False)
      | _ => False)) ∧
    (∀ id σ K, nxtStep (.ptr id 0) σ K = (match σ[id]? with
      | some (.iter m N seen) => (match σ[m]? with
        | some (.map es) => id ≠ m ∧ es.length = N ∧ (∀ i, i < N → i ∉ seen → K (.tup (.bool true :: es.getD i [])) (σ.set id (.iter m N (seen ++ [i])))) ∧ ((∀ i, i < N → i ∈ seen) → K (.tup [.bool false]) σ)
        | _ => False)
      | _ => False)) ∧
    (∀ k n, kfit none (.int k n) = true) ∧ (∀ n cs, kfit (some n) (.agg cs) = fitsK [(n, 1)] cs) ∧
    (∀ id, AV.cellsOf (.mp id) = [.mp id]) ∧ (∀ σ zs id, fz σ zs (.mp id) = .mp id) ∧ (∀ ρ id, ren ρ (.mp id) = .mp (ρ id)) :=
  ⟨fun _ _ _ => rfl, fun _ _ _ _ _ _ _ _ => rfl, fun _ _ _ _ _ _ _ => rfl, fun _ _ _ _ => rfl, fun _ _ _ _ => rfl, fun _ _ _ => rfl, fun _ _ => rfl, fun _ _ => rfl, fun _ => rfl, fun _ _ _ => rfl, fun _ _ => rfl⟩
attribute [go_sem] evP List.getLast?_concat List.getLast?_singleton
/-- Entries of numbers. -/
def mns (k : IntKind) (m : List (Int × Bool)) : List (List AV) := m.map fun p => [.int k p.1, .bool p.2]
theorem length_mns (k : IntKind) (m : List (Int × Bool)) : (mns k m).length = m.length := by simp [mns]
theorem midx_mns (k : IntKind) (x : Int) : ∀ m : List (Int × Bool), midx none (.int k x) (mns k m) = some (m.findIdx? fun p => p.1 == x)
  | [] => rfl
  | (a, b) :: m => by
    have ih := midx_mns k x m
    simp only [mns, List.map_cons, midx, kfit, if_true, keq] at ih ⊢
    rw [ih, List.findIdx?_cons]
    by_cases h : a = x
    · subst h; simp
    · have h' : ¬ x = a := fun e => h e.symm
      simp only [beq_eq_false_iff_ne.2 h', beq_eq_false_iff_ne.2 h, Option.map_some, Bool.false_eq_true, if_false]
theorem mns_set (k : IntKind) (m : List (Int × Bool)) (j : Nat) (x : Int) (b : Bool) : (mns k m).set j [.int k x, .bool b] = mns k (m.set j (x, b)) := by simp [mns, List.map_set]
theorem mns_push (k : IntKind) (m : List (Int × Bool)) (x : Int) (b : Bool) : mns k m ++ [[.int k x, .bool b]] = mns k (m ++ [(x, b)]) := by simp [mns]
theorem mns_get (k : IntKind) (m : List (Int × Bool)) (j : Nat) (h : j < m.length) : (mns k m).getD j [] = [.int k m[j].1, .bool m[j].2] := by simp [mns, List.getD_eq_getElem?_getD, h]
theorem PuLL_mns (k : IntKind) (m : List (Int × Bool)) : PuLL (mns k m) := by
  rw [PuLL_iff]
  intro x hx
  obtain ⟨p, _, rfl⟩ := List.mem_map.1 hx
  exact ⟨trivial, trivial, trivial⟩
theorem renLL_mns (ρ : Nat → Nat) (k : IntKind) (m : List (Int × Bool)) : renLL ρ (mns k m) = mns k m := (PuLL_mns k m).ren ρ
theorem fzLL_mns (σ : St) (zs : List Nat) (k : IntKind) (m : List (Int × Bool)) : fzLL σ zs (mns k m) = mns k m := (PuLL_mns k m).fz σ zs
attribute [go_sem] length_mns renLL_mns fzLL_mns midx_mns mns_set mns_push
end Go.FH
