/-
  The abstract walk, part 7: operations that make or turn memory do what their abstract forms say. It holds of any program.
-/
import Derived.Test.YtachiahepppajaaAu
import Derived.Laws.BytesString
import Derived.Laws.AppendOwn
import Derived.Laws.CopyRow
namespace Go.FH
set_option linter.unusedVariables false
set_option linter.unusedSimpArgs false
open Go Go.RowKit

theorem RlC.ofVal {E : Env} {av : AV} {v : Value} (h : Rl E av v) (ha : allCells av.cellsOf = true) : RlC E av.cellsOf v.cells.toList := by
  cases av <;> simp only [AV.cellsOf, allCells, List.all_cons, List.all_nil, Bool.and_true] at ha ⊢
  case agg cs => obtain ⟨vs, rfl, h2⟩ := h; simpa [Value.cells] using h2
  case dead => simp [AV.cell] at ha
  case tup => simp [AV.cell] at ha
  all_goals (
    have h1 := oneCell_of h rfl
    refine ⟨v, [], ?_, rfl, h, rfl⟩
    cases v <;> simp_all [Value.cells, Value.oneCell'])
theorem RlC.spl {E : Env} {cs ys : List AV} {vs us : List Value} (h : RlC E cs vs) (hy : RlC E ys us) (o : Nat) : RlC E (spl cs o ys) (vs.take o ++ us ++ vs.drop (o + us.length)) := by
  unfold Go.FH.spl
  rw [hy.length]
  exact ((h.take o).app hy).app (h.drop _)
theorem RlE.set {E : Env} {e : Nat} : ∀ {xs : List (List AV)} {vs : List Value} (i : Nat) (hi : i < xs.length) {x : List AV} {us : List Value}, RlE E e xs vs → RlC E x us → us.length = e → RlE E e (xs.set i x) (vs.take (i * e) ++ us ++ vs.drop (i * e + e))
  | [], _, i, hi, _, _, _, _, _ => by simp at hi
  | c :: cs, _, 0, _, x, us, h, hx, hu => by
    obtain ⟨q, ws, rfl, h2, h3, h4⟩ := h
    refine ⟨us, ws, ?_, hu, hx, h4⟩
    have : (q ++ ws).drop (0 * e + e) = ws := by rw [Nat.zero_mul, Nat.zero_add, ← h2, List.drop_left]
    rw [this]; simp
  | c :: cs, _, i + 1, hi, x, us, h, hx, hu => by
    obtain ⟨q, ws, rfl, h2, h3, h4⟩ := h
    have ih := RlE.set i (by simpa using hi) h4 hx hu
    refine ⟨q, _, ?_, h2, h3, ih⟩
    have e1 : (i + 1) * e = q.length + i * e := by rw [h2, Nat.add_mul]; omega
    have e2 : (i + 1) * e + e = q.length + (i * e + e) := by rw [e1]; omega
    rw [e2, e1, List.take_append, List.take_of_length_le (Nat.le_add_right _ _), Nat.add_sub_cancel_left, List.drop_append, List.drop_of_length_le (Nat.le_add_right _ _), Nat.add_sub_cancel_left]
    simp [List.append_assoc]
theorem RlE.flat {E : Env} {e : Nat} : ∀ {xs : List (List AV)} {vs : List Value}, RlE E e xs vs → RlC E xs.flatten vs
  | [], _, h => h
  | x :: xs, _, h => by
    obtain ⟨us, ws, rfl, _, h3, h4⟩ := h
    rw [List.flatten_cons]
    exact h3.app (RlE.flat h4)
/-- A write into the middle of a row. -/
theorem splice_mid (cs vs ws us : List Value) (p : Nat) (hp : p + us.length ≤ vs.length) :
    (cs ++ vs ++ ws).take (cs.length + p) ++ us ++ (cs ++ vs ++ ws).drop (cs.length + p + us.length) = cs ++ (vs.take p ++ us ++ vs.drop (p + us.length)) ++ ws := by
  rw [List.append_assoc cs vs ws, List.take_append, List.take_of_length_le (Nat.le_add_right _ _), Nat.add_sub_cancel_left, Nat.add_assoc, List.drop_append, List.drop_of_length_le (Nat.le_add_right _ _), Nat.add_sub_cancel_left, List.take_append, List.drop_append]
  have e1 : p - vs.length = 0 := by omega
  have e2 : p + us.length - vs.length = 0 := by omega
  rw [e1, e2]
  simp [List.append_assoc]
theorem setRow_get (w : World) {b : Nat} {cs : List Value} {t : TypeId} (h : w.heap[b]? = some (.cells cs.toArray t (0, 0))) (ds : List Value) : (w.setRow b ds.toArray).heap[b]? = some (.cells ds.toArray t (0, 0)) :=
  setRow_heap w b _ _ t (0, 0) h

section
variable {X : Nat → Prop} {loc loc' : Nat → Option Loc} {σ σ' : St} {w w' : World} {n : Nat} {P : Program} {ρ : Operand → Value} {ρ' : Opd → AV} {K : AV → List Nat → Bool → St → Prop}

/-- A variable's cells turn. -/
theorem Rel.putVar (hr : Rel X loc σ w) {id : Nat} {cs cs' : List AV} {L : Loc} (hσ : σ[id]? = some (.var cs)) (hL : loc id = some L) (us : List Value) (h : RlC (envOf X loc σ w) cs' us) :
    Rel X loc (σ.set id (.var cs')) (w.setRow L.blk us.toArray) ∧ (∀ b, liveB (σ.set id (.var cs')) loc b → liveB σ loc b) ∧ Ev (liveB σ loc) w (w.setRow L.blk us.toArray) := by
  obtain ⟨h1, h2, vs, t, h3, h4⟩ := hr.var hσ hL
  exact hr.turn hσ rfl rfl hL h1 us.toArray fun E hE hw => ⟨h1, h2, us, t, by rw [hw]; exact setRow_get w h3 us, RlC.mono hE _ _ h⟩
/-- The elements behind slices turn. -/
theorem Rel.putVec (hr : Rel X loc σ w) {id e : Nat} {xs xs' : List (List AV)} {L : Loc} (hσ : σ[id]? = some (.vec e xs)) (hL : loc id = some L) (hh : L.has = true) {cs vs ws us : List Value} {t : TypeId}
    (h3 : w.heap[L.blk]? = some (.cells (cs ++ vs ++ ws).toArray t (0, 0))) (h4 : cs.length = L.base) (h5 : (cs ++ vs ++ ws).length = L.rows) (h : RlE (envOf X loc σ w) e xs' us) (hl : us.length = vs.length) :
    Rel X loc (σ.set id (.vec e xs')) (w.setRow L.blk (cs ++ us ++ ws).toArray) ∧ (∀ b, liveB (σ.set id (.vec e xs')) loc b → liveB σ loc b) ∧ Ev (liveB σ loc) w (w.setRow L.blk (cs ++ us ++ ws).toArray) :=
  hr.turn hσ rfl rfl hL hh _ fun E hE hw => .inr ⟨hh, cs, us, ws, t, by rw [hw]; exact setRow_get w h3 _, h4, by simpa [hl] using h5, RlE.mono hE _ _ _ h⟩
theorem Snd.turned {r : Result Next} {av : AV} {v : Value} {ft : List Nat} {wr : Bool} (hR : Rel X loc σ' w' ∧ (∀ b, liveB σ' loc b → liveB σ loc b) ∧ Ev (liveB σ loc) w w') (hl : σ'.length = σ.length)
    (h3 : K av ft wr σ') (h1 : r = .ok (.value v) w' ∨ (r = .ok .skip w' ∧ v = undef)) (h2 : Rl (envOf X loc σ' w') av v) : Snd X loc σ w n r K :=
  ⟨av, ft, wr, σ', v, w', loc, h3, h1, ⟨fun _ _ h => h, hR.1, h2, hR.2.2, fun b hb => .inl (hR.2.1 b hb)⟩, fun _ _ => rfl, hl⟩

theorem run_storeVar_row {b o : Nat} {t ty : TypeId} {i : TypeInfo} {rs : List Value} {v : Value} (hi : P.info? ty = some i) (hb : w.heap[b]? = some (.cells rs.toArray t (0, 0))) (hs : v.cells.size = i.size) (hl : o + v.cells.size ≤ rs.length) (h1 : ∀ u ∈ v.cells.toList, u.oneCell' = true) :
    (storeVar ty ⟨b, o, none⟩ v).run P w = .ok () (w.setRow b (rs.take o ++ v.cells.toList ++ rs.drop (o + v.cells.toList.length)).toArray) := by
  have hst := run_storeCells_at (P := P) b o t v.cells.toList 0 rs.toArray w hb (by simpa using hl) h1
  simp only [Nat.add_zero] at hst
  simp [storeVar, sizeOf, typeInfo, hi, hs, hst]

variable (hr : Rel X loc σ w) (hρ : OpdOk (envOf X loc σ w) ρ ρ')
include hr hρ

theorem snd_sto {o : Oper} {t : TypeId} {x y : Operand} {a b : Opd} {i : TypeInfo} (ho : o.op = .store t x y) (hi : P.info? t = some i) (hx : convOpd x = some a) (hy : convOpd y = some b)
    (h : opF n σ ρ' K (.sto i.size a b)) : Snd X loc σ w n ((execOp ρ o).run P w) K := by
  simp only [opF] at h
  obtain ⟨hsz, hall, h⟩ := h
  have hx' := hρ x a hx
  have hy' := hρ y b hy
  have hc := RlC.ofVal hy' hall
  have hcl := hc.length
  have hvs : (ρ y).cells.size = i.size := by rw [← Array.length_toList, hcl, hsz]
  have fin : ∀ {bb oo : Nat} {t' : TypeId} {rs : List Value}, ρ x = .pointer (some ⟨bb, oo, none⟩) → w.heap[bb]? = some (.cells rs.toArray t' (0, 0)) → oo + i.size ≤ rs.length →
      (execOp ρ o).run P w = .ok .skip (w.setRow bb (rs.take oo ++ (ρ y).cells.toList ++ rs.drop (oo + (ρ y).cells.toList.length)).toArray) := by
    intro bb oo t' rs k1 k2 k3
    have := run_storeVar_row (P := P) (o := oo) hi k2 hvs (by omega) hc.one
    simp only [execOp, ho, Instr.storeAt, k1, Instr.sureAddr, Sem.run_bind, Sem.run_pure, Result.andThen_ok]
    rw [this]
    rfl
  split at h
  · rename_i id oo hv
    rw [hv] at hx'
    obtain ⟨L, g1, g2, g3⟩ := hx'
    split at h
    · rename_i cs hσ
      obtain ⟨hl, h⟩ := h
      obtain ⟨_, k1, vs, tt, k2, k3⟩ := hr.var hσ g1
      have hvl := k3.length
      rw [k1, Nat.zero_add] at g3
      exact Snd.turned (hr.putVar hσ g1 _ (k3.spl hc oo)) (by simp) h (.inr ⟨fin g3 k2 (by omega), rfl⟩) ⟨[], rfl, rfl⟩
    · exact h.elim
  · rename_i e id q oo hv
    rw [hv] at hx'
    obtain ⟨L, g1, g2, g3⟩ := hx'
    split at h
    · rename_i e' xs hσ
      obtain ⟨rfl, hl, hi', h⟩ := h
      rcases hr.vec hσ g1 with ⟨k0, _⟩ | ⟨_, cs, vs, ws, tt, k2, k3, k4, k5⟩
      · rw [g2] at k0; cases k0
      · have hvl := k5.length
        have hle : q * e' + e' ≤ vs.length := by
          rw [hvl]
          have : (q + 1) * e' ≤ xs.length * e' := Nat.mul_le_mul_right _ hi'
          rw [Nat.add_mul] at this; omega
        have hd : xs.getD q [] = xs[q] := by simp [List.getD, hi']
        rw [hd] at h
        have k7 := (k5.get q hi').spl hc oo
        have hlu : ((ρ y).cells.toList).length = i.size := by rw [hcl, hsz]
        have k8 := k5.set q hi' k7 (by simp; omega)
        have e1 : vs.take (q * e') ++ (((vs.drop (q * e')).take e').take oo ++ (ρ y).cells.toList ++ ((vs.drop (q * e')).take e').drop (oo + (ρ y).cells.toList.length)) ++ vs.drop (q * e' + e') =
            vs.take (q * e' + oo) ++ (ρ y).cells.toList ++ vs.drop (q * e' + oo + (ρ y).cells.toList.length) := by
          have a1 : vs.take (q * e') ++ ((vs.drop (q * e')).take e').take oo = vs.take (q * e' + oo) := by
            rw [List.take_take, Nat.min_eq_left (by omega), ← List.take_add]
          have a2 : ((vs.drop (q * e')).take e').drop (oo + (ρ y).cells.toList.length) ++ vs.drop (q * e' + e') = vs.drop (q * e' + oo + (ρ y).cells.toList.length) := by
            have h9 := List.take_append_drop (e' - (oo + (ρ y).cells.toList.length)) (vs.drop (q * e' + (oo + (ρ y).cells.toList.length)))
            rw [List.drop_drop] at h9
            have e5 : q * e' + (oo + (ρ y).cells.toList.length) + (e' - (oo + (ρ y).cells.toList.length)) = q * e' + e' := by omega
            rw [e5] at h9
            rw [List.drop_take, List.drop_drop, h9, Nat.add_assoc]
          rw [← a1, ← a2]
          simp [List.append_assoc]
        rw [e1] at k8
        have g4 : ρ x = .pointer (some ⟨L.blk, cs.length + (q * e' + oo), none⟩) := by rw [g3, k3]; congr 3; omega
        have k9 := hr.putVec hσ g1 g2 k2 k3 k4 k8 (by simp; omega)
        rw [← splice_mid cs vs ws _ (q * e' + oo) (by omega)] at k9
        exact Snd.turned k9 (by simp) h (.inr ⟨fin g4 k2 (by simp; omega), rfl⟩) ⟨[], rfl, rfl⟩
    · exact h.elim
  · exact h.elim

variable (hn : n < σ.length) (hg : loc n = none)
include hn hg
omit hρ in
theorem snd_new {o : Oper} {t : TypeId} {z : List AV} (ho : o.op = .alloc t) (hz : zeroL P t = some z) (h : opF n σ ρ' K (.new z)) : Snd X loc σ w n ((execOp ρ o).run P w) K := by
  simp only [opF] at h
  unfold zeroL at hz
  split at hz
  · rename_i i hi
    split at hz
    · rename_i zv hzv
      split at hz
      · refine Snd.alloc hr hn hg (.var z) ⟨true, w.heap.size, 0, zv.cells.size⟩ rfl rfl (.cells zv.cells t (0, 0)) (v := .pointer (some ⟨w.heap.size, 0, none⟩)) h (fun E hE hw => ⟨rfl, rfl, zv.cells.toList, t, ?_, RlC.ofCells E hz⟩) ?_ (fun E hE => ⟨_, hE, rfl, rfl⟩)
        · rw [hw, _root_.Go.heap_alloc_new]
        · simp [execOp, ho, Instr.alloc, zeroValue, typeInfo, hi, hzv, newVar, newRow, newObj, Sem.run]
      · cases hz
    · cases hz
  · cases hz
theorem snd_box {o : Oper} {t : TypeId} {x : Operand} {a : Opd} {sz : Nat} (ho : o.op = .box t x) (hx : convOpd x = some a) (h : opF n σ ρ' K (.box sz a)) : Snd X loc σ w n ((execOp ρ o).run P w) K := by
  simp only [opF] at h
  obtain ⟨hsz, hall, h⟩ := h
  have hc := RlC.ofVal (hρ x a hx) hall
  refine Snd.alloc hr hn hg (.var (ρ' a).cellsOf) ⟨true, w.heap.size, 0, (ρ x).cells.size⟩ rfl rfl (.cells (ρ x).cells t (0, 0)) (v := .pointer (some ⟨w.heap.size, 0, none⟩)) h (fun E hE hw => ⟨rfl, rfl, (ρ x).cells.toList, t, ?_, RlC.mono hE _ _ hc⟩) ?_ (fun E hE => ⟨_, hE, rfl, rfl⟩)
  · rw [hw, _root_.Go.heap_alloc_new]
  · simp [execOp, ho, Instr.box, newVar, newRow, newObj, Sem.run]
end
end Go.FH
