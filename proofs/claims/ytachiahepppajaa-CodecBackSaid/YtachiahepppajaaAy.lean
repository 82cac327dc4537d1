/-
  The abstract walk, part 8: composite values, slices, append and copy do what their abstract forms say. It holds of any program.
-/
import Derived.Test.YtachiahepppajaaAx
import Derived.Laws.Tables
namespace Go.FH
set_option linter.unusedVariables false
set_option linter.unusedSimpArgs false
open Go Go.RowKit

theorem fold_put : ∀ (vs : List Value) (off k : Nat) (cs : List Value), off + k + vs.length ≤ cs.length →
    ((vs.zipIdx k).foldl (fun (cs : Array Value) (x : Value × Nat) => cs.setIfInBounds (off + x.2) x.1) cs.toArray) = (cs.take (off + k) ++ vs ++ cs.drop (off + k + vs.length)).toArray
  | [], off, k, cs, _ => by simp
  | v :: vs, off, k, cs, h => by
    simp only [List.length_cons] at h
    rw [List.zipIdx_cons, List.foldl_cons]
    have h1 : (cs.toArray.setIfInBounds (off + k) v) = (cs.set (off + k) v).toArray := by simp
    simp only [h1]
    rw [fold_put vs off (k + 1) (cs.set (off + k) v) (by simp; omega)]
    congr 1
    have e1 : (cs.set (off + k) v).take (off + (k + 1)) = cs.take (off + k) ++ [v] := by
      rw [← Nat.add_assoc, List.take_succ_eq_append_getElem (by simp; omega), List.take_set_of_le (Nat.le_refl _)]
      simp
    have e2 : (cs.set (off + k) v).drop (off + (k + 1) + vs.length) = cs.drop (off + k + (v :: vs).length) := by
      rw [List.drop_set_of_lt (by omega)]
      congr 1
      simp; omega
    rw [e1, e2]
    simp
/-- The parts of a composite, laid over its zero. -/
theorem fill_ok {E : Env} (place : Nat → Option (Nat × Nat)) : ∀ (ps : List (Nat × Value)) (qs : List (Nat × Nat × AV)) (cs : List AV) (us : List Value), RlC E cs us → ps.length = qs.length →
    (∀ (j : Nat) (p : Nat × Value) (q : Nat × Nat × AV), ps[j]? = some p → qs[j]? = some q → place p.1 = some (q.1, q.2.1) ∧ Rl E q.2.2 p.2) → partsOk cs.length qs = true →
    ∃ us' : List Value, Instr.fill place us.toArray ps = some us'.toArray ∧ RlC E (fillL cs qs) us' ∧ us'.length = us.length
  | [], [], cs, us, h, _, _, _ => ⟨us, rfl, h, rfl⟩
  | [], _ :: _, _, _, _, hl, _, _ => by simp at hl
  | _ :: _, [], _, _, _, hl, _, _ => by simp at hl
  | (i, v) :: ps, (off, sz, av) :: qs, cs, us, h, hl, hp, hok => by
    simp only [partsOk, Bool.and_eq_true, beq_iff_eq, decide_eq_true_eq] at hok
    obtain ⟨⟨⟨h1, h2⟩, h3⟩, h4⟩ := hok
    obtain ⟨h5, h6⟩ := hp 0 (i, v) (off, sz, av) rfl rfl
    have hc := RlC.ofVal h6 h3
    have hcl := hc.length
    have hul := h.length
    have hsz : v.cells.size = sz := by rw [← Array.length_toList, hcl, h1]
    have h7 := h.spl hc off
    have h8 : (spl cs off av.cellsOf).length = cs.length := by simp [spl]; omega
    obtain ⟨us', g1, g2, g3⟩ := fill_ok place ps qs (spl cs off av.cellsOf) _ h7 (by simpa using hl) (fun j p q hj hq => hp (j + 1) p q (by simpa using hj) (by simpa using hq)) (by rw [h8]; exact h4)
    refine ⟨us', ?_, g2, ?_⟩
    · simp only [Instr.fill, h5]
      rw [if_neg (by simp [hsz]; omega)]
      rw [← g1]
      congr 1
      have := fold_put v.cells.toList off 0 us (by simp [hsz]; omega)
      simp only [Nat.add_zero] at this
      rw [← this]
      rw [← Array.foldl_toList]
      congr 1
      simp
    · rw [g3]; simp [hsz]; omega

theorem convPartsS_len {P : Program} {fs : Array Field} : ∀ {ps : List (Nat × Operand)} {qs : List (Nat × Nat × Opd)}, convPartsS P fs ps = some qs → ps.length = qs.length ∧ ∀ (j : Nat) (p : Nat × Operand) (q : Nat × Nat × Opd), ps[j]? = some p → qs[j]? = some q →
    ∃ f ti, fs[p.1]? = some f ∧ P.info? f.type = some ti ∧ q.1 = f.offset ∧ q.2.1 = ti.size ∧ convOpd p.2 = some q.2.2
  | [], qs, h => by simp only [convPartsS, Option.some.injEq] at h; subst h; exact ⟨rfl, fun j p q h => by simp at h⟩
  | (i, x) :: ps, qs, h => by
    simp only [convPartsS] at h
    split at h
    · rename_i f y q h1 h2 h3
      split at h
      · rename_i ti h4
        simp only [Option.some.injEq] at h
        subst h
        obtain ⟨g1, g2⟩ := convPartsS_len h3
        refine ⟨by simp [g1], fun j p q' hj hq => ?_⟩
        cases j with
        | zero => simp at hj hq; subst hj; subst hq; exact ⟨f, ti, h1, h4, rfl, rfl, h2⟩
        | succ j => exact g2 j p q' (by simpa using hj) (by simpa using hq)
      · cases h
    · cases h
theorem convPartsA_len {sz : Nat} : ∀ {ps : List (Nat × Operand)} {qs : List (Nat × Nat × Opd)}, convPartsA sz ps = some qs → ps.length = qs.length ∧ ∀ (j : Nat) (p : Nat × Operand) (q : Nat × Nat × Opd), ps[j]? = some p → qs[j]? = some q →
    q.1 = p.1 * sz ∧ q.2.1 = sz ∧ convOpd p.2 = some q.2.2
  | [], qs, h => by simp only [convPartsA, Option.some.injEq] at h; subst h; exact ⟨rfl, fun j p q h => by simp at h⟩
  | (i, x) :: ps, qs, h => by
    simp only [convPartsA] at h
    split at h
    · rename_i y q h1 h2
      simp only [Option.some.injEq] at h
      subst h
      obtain ⟨g1, g2⟩ := convPartsA_len h2
      refine ⟨by simp [g1], fun j p q' hj hq => ?_⟩
      cases j with
      | zero => simp at hj hq; subst hj; subst hq; exact ⟨rfl, rfl, h1⟩
      | succ j => exact g2 j p q' (by simpa using hj) (by simpa using hq)
    · cases h
theorem convPartsE_len : ∀ {ps : List (Nat × Operand)} {qs : List (Nat × Opd)}, convPartsE ps = some qs → ps.length = qs.length ∧ ∀ (j : Nat) (p : Nat × Operand) (q : Nat × Opd), ps[j]? = some p → qs[j]? = some q →
    q.1 = p.1 ∧ convOpd p.2 = some q.2
  | [], qs, h => by simp only [convPartsE, Option.some.injEq] at h; subst h; exact ⟨rfl, fun j p q h => by simp at h⟩
  | (i, x) :: ps, qs, h => by
    simp only [convPartsE] at h
    split at h
    · rename_i y q h1 h2
      simp only [Option.some.injEq] at h
      subst h
      obtain ⟨g1, g2⟩ := convPartsE_len h2
      refine ⟨by simp [g1], fun j p q' hj hq => ?_⟩
      cases j with
      | zero => simp at hj hq; subst hj; subst hq; exact ⟨rfl, h1⟩
      | succ j => exact g2 j p q' (by simpa using hj) (by simpa using hq)
    · cases h
theorem zeroL_spec {P : Program} {t : TypeId} {z : List AV} (h : zeroL P t = some z) : ∃ i zv, P.info? t = some i ∧ i.zero = some zv ∧ zv.cells.size = i.size ∧ ofCells zv.cells.toList = some z := by
  unfold zeroL at h
  split at h
  · rename_i i hi
    split at h
    · rename_i zv hz
      split at h
      · rename_i hs
        exact ⟨i, zv, hi, hz, hs, h⟩
      · cases h
    · cases h
  · cases h
theorem range_cells (zs : List Value) (hz : 0 < zs.length) : ∀ n, (madeCells zs.toArray (n * zs.length)).toList = (List.replicate n zs).flatten
  | 0 => by simp [madeCells]
  | n + 1 => by
    have ih := range_cells zs hz n
    simp only [madeCells, Array.toList_map, Array.toList_range] at ih ⊢
    rw [List.replicate_succ', List.flatten_append, ← ih, Nat.add_mul, Nat.one_mul, List.range_add, List.map_append]
    congr 1
    simp only [List.map_map, List.flatten_cons, List.flatten_nil, List.append_nil]
    apply List.ext_getElem?
    intro i
    simp only [List.getElem?_map, List.getElem?_range]
    by_cases hi : i < zs.length
    · simp [hi, List.getElem?_range hi, Nat.mul_comm n, Nat.mul_add_mod, Nat.mod_eq_of_lt hi]
    · simp [hi, List.getElem?_eq_none (show (List.range zs.length).length ≤ i by simp; omega)]
theorem RlE.rep {E : Env} {z : List AV} {zs : List Value} {e : Nat} (h : RlC E z zs) (he : zs.length = e) : ∀ n, RlE E e (List.replicate n z) (List.replicate n zs).flatten
  | 0 => rfl
  | n + 1 => ⟨zs, _, rfl, he, h, RlE.rep h he n⟩
/-- The parts of a slice literal. -/
theorem fillE_ok {E : Env} {e : Nat} : ∀ (ps : List (Nat × Value)) (qs : List (Nat × AV)) (xs : List (List AV)) (us : List Value), RlE E e xs us → ps.length = qs.length →
    (∀ (j : Nat) (p : Nat × Value) (q : Nat × AV), ps[j]? = some p → qs[j]? = some q → q.1 = p.1 ∧ Rl E q.2 p.2) → partsE e xs.length qs = true →
    ∃ us' : List Value, Instr.fill (fun i => some (i * e, e)) us.toArray ps = some us'.toArray ∧ RlE E e (fillE xs qs) us'
  | [], [], xs, us, h, _, _, _ => ⟨us, rfl, h⟩
  | [], _ :: _, _, _, _, hl, _, _ => by simp at hl
  | _ :: _, [], _, _, _, hl, _, _ => by simp at hl
  | (i, v) :: ps, (i', av) :: qs, xs, us, h, hl, hp, hok => by
    simp only [partsE, Bool.and_eq_true, beq_iff_eq, decide_eq_true_eq] at hok
    obtain ⟨⟨⟨h1, h2⟩, h3⟩, h4⟩ := hok
    obtain ⟨h5, h6⟩ := hp 0 (i, v) (i', av) rfl rfl
    simp only at h5
    subst h5
    have hc := RlC.ofVal h6 h3
    have hcl := hc.length
    have hul := h.length
    have hsz : v.cells.size = e := by rw [← Array.length_toList, hcl, h1]
    have h7 := h.set i' h2 hc (by simpa using hsz)
    have hle : i' * e + e ≤ us.length := by
      rw [hul]
      have : (i' + 1) * e ≤ xs.length * e := Nat.mul_le_mul_right _ h2
      rw [Nat.add_mul] at this; omega
    obtain ⟨us', g1, g2⟩ := fillE_ok ps qs (xs.set i' av.cellsOf) _ h7 (by simpa using hl) (fun j p q hj hq => hp (j + 1) p q (by simpa using hj) (by simpa using hq)) (by simpa using h4)
    refine ⟨us', ?_, g2⟩
    simp only [Instr.fill]
    rw [if_neg (by simp [hsz]; omega)]
    rw [← g1]
    congr 1
    have := fold_put v.cells.toList (i' * e) 0 us (by simp [hsz]; omega)
    simp only [Nat.add_zero] at this
    have hvl : v.cells.toList.length = e := by simpa using hsz
    rw [hvl] at this
    rw [← this, ← Array.foldl_toList]
    congr 1
    simp

theorem sliceAt_run {P : Program} {w : World} {t e : TypeId} {i : TypeInfo} (ht : P.underlying t = some (.slice e)) (hi : P.info? e = some i) (a : Option Addr) (m cap : Nat) (lo hi' mx : Option Value) (l h q : Nat)
    (hlo : (lo = none ∧ l = 0) ∨ ∃ k, lo = some (.int k l)) (hhi : (hi' = none ∧ h = m) ∨ ∃ k, hi' = some (.int k h)) (hmx : (mx = none ∧ q = cap) ∨ ((∃ k, mx = some (.int k q)) ∧ hi' ≠ none)) (h1 : l ≤ h) (h2 : h ≤ q) (h3 : q ≤ cap) :
    (Instr.sliceAt t (.slice a m cap) lo hi' mx).run P w = .ok (.slice (cutA a l q i.size) (h - l) (q - l)) w := by
  have c1 : (l : Int) ≤ (h : Int) := by omega
  have c2 : (h : Int) ≤ (q : Int) := by omega
  have c3 : (q : Int) ≤ (cap : Int) := by omega
  rcases hmx with ⟨rfl, rfl⟩ | ⟨⟨km, rfl⟩, hne⟩
  · rcases hlo with ⟨rfl, rfl⟩ | ⟨k, rfl⟩ <;> rcases hhi with ⟨rfl, rfl⟩ | ⟨k', rfl⟩ <;>
      simp [Instr.sliceAt, Instr.slice, Instr.sliceBounds, Instr.sliceBound, asIntOf, run_underlying ht, sizeOf, typeInfo, hi, cutA, h1, h2, c1, c2]
  · rcases hhi with ⟨rfl, rfl⟩ | ⟨k', rfl⟩
    · exact absurd rfl hne
    · rcases hlo with ⟨rfl, rfl⟩ | ⟨k, rfl⟩ <;>
        simp [Instr.sliceAt, Instr.slice, Instr.sliceBounds, Instr.sliceBound, asIntOf, run_underlying ht, sizeOf, typeInfo, hi, cutA, h1, h2, h3, c1, c2, c3]
/-- A part of a slice that nobody writes. -/
theorem Rl.sliced {E : Env} {e e' : Nat} {cl cl' : Bool} {xs : List (List AV)} {ad : Option Addr} {m cap : Nat} (hv : Rl E (.sl e' cl xs) (.slice ad m cap)) (he : e' = e ∨ xs = []) {l h q : Nat} (h1 : l ≤ h) (h2 : h ≤ xs.length) (h3 : h ≤ q) (h4 : q ≤ cap) (hcl : cl' = true → q - l = h - l) :
    Rl E (.sl e cl' ((xs.drop l).take (h - l))) (.slice (cutA ad l q e) (h - l) (q - l)) := by
  obtain ⟨a, m', cap', g1, g2, g3, g4, g5, g6, g7⟩ := hv
  simp only [Value.slice.injEq] at g1
  obtain ⟨rfl, rfl, rfl⟩ := g1
  refine ⟨_, _, _, rfl, by simp; omega, by omega, by omega, hcl, fun hn => ?_, ?_⟩
  · unfold cutA at hn
    split at hn
    · omega
    · have := g6 (by simpa using hn); omega
  · by_cases hz : h - l = 0
    · exact .inl hz
    · rcases g7 with g7 | ⟨b, off, vs, rfl, k1, k2, k3, k4⟩
      · omega
      · have hne : xs ≠ [] := by rintro rfl; simp at h2; omega
        obtain rfl := he.resolve_right hne
        have hvl := k4.length
        have hq : l * e' + (h - l) * e' ≤ m * e' := by
          rw [← Nat.add_mul]; exact Nat.mul_le_mul_right _ (by omega)
        have k5 := range_sub k3 (l * e') ((h - l) * e') hq
        right
        refine ⟨b, off + l * e', _, ?_, k1, k2, k5, (k4.drop l).take (h - l)⟩
        have : ¬ q = l := by omega
        simp [cutA, this, add_at]
/-- An optional bound. -/
theorem bnd_ok {E : Env} {ρ : Operand → Value} {ρ' : Opd → AV} (hρ : OpdOk E ρ ρ') {lo : Option Operand} {lo' : Option Opd} (h : convOpt lo = some lo') (d : Nat) (h0 : 0 ≤ bndO ρ' d lo') :
    (lo' = none ∧ lo.map ρ = none ∧ (bndO ρ' d lo').toNat = d) ∨ (lo' ≠ none ∧ ∃ k, lo.map ρ = some (.int k (bndO ρ' d lo').toNat)) := by
  cases lo with
  | none => simp only [convOpt, Option.some.injEq] at h; subst h; exact .inl ⟨rfl, rfl, by simp [bndO]⟩
  | some x =>
    simp only [convOpt] at h
    obtain ⟨y, h1, rfl⟩ := Option.map_eq_some_iff.1 h
    have hv := hρ x y h1
    refine .inr ⟨by simp, ?_⟩
    simp only [bndO, bndI] at h0 ⊢
    split at h0
    · rename_i k z hz
      rw [hz] at hv
      simp only [Rl] at hv
      exact ⟨k, by simp only [Option.map_some, hv, Int.toNat_of_nonneg h0]⟩
    · omega
theorem convOpt_none {lo : Option Operand} {lo' : Option Opd} (h : convOpt lo = some lo') : lo' = none ↔ lo = none := by
  cases lo with
  | none => simp only [convOpt, Option.some.injEq] at h; subst h; simp
  | some x => simp only [convOpt] at h; obtain ⟨y, _, rfl⟩ := Option.map_eq_some_iff.1 h; simp

section
variable {X : Nat → Prop} {loc loc' : Nat → Option Loc} {σ σ' : St} {w w' : World} {n : Nat} {P : Program} {ρ : Operand → Value} {ρ' : Opd → AV} {K : AV → List Nat → Bool → St → Prop}
variable (hr : Rel X loc σ w) (hρ : OpdOk (envOf X loc σ w) ρ ρ')
include hr hρ

theorem snd_bldA {o : Oper} {t e : TypeId} {m : Nat} {ps : Array (Nat × Operand)} {qs : List (Nat × Nat × Opd)} {z : List AV} {ti : TypeInfo} (ho : o.op = .build t ps) (ht : P.underlying t = some (.array m e)) (hz : zeroL P t = some z) (hti : P.info? e = some ti)
    (hq : convPartsA ti.size ps.toList = some qs) (h : opF n σ ρ' K (.bld z qs)) : Snd X loc σ w n ((execOp ρ o).run P w) K := by
  simp only [opF] at h
  obtain ⟨hok, h⟩ := h
  obtain ⟨i, zv, hi, hzv, hzs, hzc⟩ := zeroL_spec hz
  obtain ⟨hl, hpq⟩ := convPartsA_len hq
  have hz0 := RlC.ofCells (envOf X loc σ w) hzc
  obtain ⟨us', g1, g2, _⟩ := fill_ok (E := envOf X loc σ w) (fun i => some (i * ti.size, ti.size)) ((ps.toList).map fun p => (p.1, ρ p.2)) (qs.map fun p => (p.1, p.2.1, ρ' p.2.2)) z zv.cells.toList hz0 (by simpa using hl) (fun j p q hj hq' => by
    obtain ⟨p0, hp0, rfl⟩ := List.getElem?_map .. ▸ hj |> Option.map_eq_some_iff.1
    obtain ⟨q0, hq0, rfl⟩ := List.getElem?_map .. ▸ hq' |> Option.map_eq_some_iff.1
    obtain ⟨k1, k2, k3⟩ := hpq j p0 q0 hp0 hq0
    exact ⟨by simp [k1, k2], hρ _ _ k3⟩) hok
  refine Snd.of hr h (v := .agg us'.toArray) ?_ ⟨us', rfl, g2⟩
  have e1 : (ps.map fun p => (p.1, ρ p.2)).toList = ps.toList.map fun p => (p.1, ρ p.2) := by simp
  simp only [Array.toArray_toList] at g1
  simp [execOp, ho, Instr.build, zeroValue, typeInfo, hi, hzv, run_underlying ht, sizeOf, hti, g1]
theorem snd_bldS0 {o : Oper} {t : TypeId} {fs : Array Field} {ps : Array (Nat × Operand)} {qs : List (Nat × Nat × Opd)} {z : List AV} (ho : o.op = .build t ps) (ht : P.underlying t = some (.struct fs)) (hz : zeroL P t = some z)
    (hq : convPartsS P fs ps.toList = some qs) (hfs : fs.toList.all (fun f => (P.info? f.type).isSome) = true) (h : opF n σ ρ' K (.bld z qs)) : Snd X loc σ w n ((execOp ρ o).run P w) K := by
  simp only [opF] at h
  obtain ⟨hok, h⟩ := h
  obtain ⟨i, zv, hi, hzv, hzs, hzc⟩ := zeroL_spec hz
  obtain ⟨hl, hpq⟩ := convPartsS_len hq
  have hz0 := RlC.ofCells (envOf X loc σ w) hzc
  have hpl : ∀ (l : List Field), (l.all fun f => (P.info? f.type).isSome) = true → (l.mapM fun f => (P.info? f.type).map fun i => (f.offset, i.size)) = some (l.map fun f => (f.offset, P.cellsOf f.type)) := by
    intro l
    induction l with
    | nil => intro _; rfl
    | cons f l ih =>
      intro hl
      simp only [List.all_cons, Bool.and_eq_true] at hl
      obtain ⟨j, hj⟩ := Option.isSome_iff_exists.1 hl.1
      rw [List.mapM_cons, ih hl.2]
      simp [hj, Program.cellsOf]
  obtain ⟨us', g1, g2, _⟩ := fill_ok (E := envOf X loc σ w) ((fs.toList.map fun f => (f.offset, P.cellsOf f.type)).toArray[·]?) ((ps.toList).map fun p => (p.1, ρ p.2)) (qs.map fun p => (p.1, p.2.1, ρ' p.2.2)) z zv.cells.toList hz0 (by simpa using hl) (fun j p q hj hq' => by
    obtain ⟨p0, hp0, rfl⟩ := List.getElem?_map .. ▸ hj |> Option.map_eq_some_iff.1
    obtain ⟨q0, hq0, rfl⟩ := List.getElem?_map .. ▸ hq' |> Option.map_eq_some_iff.1
    obtain ⟨f, ti, k0, k1, k2, k3, k4⟩ := hpq j p0 q0 hp0 hq0
    refine ⟨?_, hρ _ _ k4⟩
    simp [k0, k2, k3, Program.cellsOf, k1]) hok
  refine Snd.of hr h (v := .agg us'.toArray) ?_ ⟨us', rfl, g2⟩
  simp only [Array.toArray_toList] at g1
  have hb : P.built t ((ps.map fun p => (p.1, ρ p.2)).toList) = some us'.toArray := by
    simp only [Program.built, hi, ht, hzv, hpl _ hfs]
    simpa using g1
  have := run_build (P := P) w t (ps.map fun p => (p.1, ρ p.2)) us'.toArray hb
  simp only [execOp, ho, Sem.run_bind]
  rw [this]
  rfl


theorem snd_sli {o : Oper} {t e : TypeId} {x : Operand} {lo hi mx : Option Operand} {a : Opd} {lo' hi' mx' : Option Opd} {ti : TypeInfo} (ho : o.op = .slice t x lo hi mx) (ht : P.underlying t = some (.slice e)) (hti : P.info? e = some ti)
    (hx : convOpd x = some a) (hlo : convOpt lo = some lo') (hhi : convOpt hi = some hi') (hmx : convOpt mx = some mx') (h : opF n σ ρ' K (.sli ti.size a lo' hi' mx')) : Snd X loc σ w n ((execOp ρ o).run P w) K := by
  simp only [opF] at h
  have hx' := hρ x a hx
  have run : ∀ {ad : Option Addr} {m cap l hh q : Nat}, ρ x = .slice ad m cap → ((lo.map ρ = none ∧ l = 0) ∨ ∃ k, lo.map ρ = some (.int k l)) → ((hi.map ρ = none ∧ hh = m) ∨ ∃ k, hi.map ρ = some (.int k hh)) →
      ((mx.map ρ = none ∧ q = cap) ∨ ((∃ k, mx.map ρ = some (.int k q)) ∧ hi.map ρ ≠ none)) → l ≤ hh → hh ≤ q → q ≤ cap → (execOp ρ o).run P w = .ok (.value (.slice (cutA ad l q ti.size) (hh - l) (q - l))) w := by
    intro ad m cap l hh q k1 k2 k3 k4 k5 k6 k7
    have := sliceAt_run (P := P) (w := w) ht hti ad m cap _ _ _ l hh q k2 k3 k4 k5 k6 k7
    simp only [execOp, ho, Sem.run_bind, k1]
    rw [this]
    rfl
  split at h
  · rename_i e' cl xs hv
    rw [hv] at hx'
    obtain ⟨he, h0, h1, h2, h3, h4, h⟩ := h
    have hx2 := hx'
    obtain ⟨ad, m, cap, g1, rfl, g3, g4, g5, g6, g7⟩ := hx2
    have k1 := bnd_ok hρ hlo 0 h0
    have k2 := bnd_ok hρ hhi xs.length (by omega)
    have k3 := bnd_ok hρ hmx xs.length (by omega)
    rw [g1] at hx'
    generalize hL : bndO ρ' ((0 : Nat) : Int) lo' = l at *
    generalize hH : bndO ρ' (xs.length : Int) hi' = hh at *
    generalize hM : bndO ρ' (xs.length : Int) mx' = q at *
    have a1 : (lo.map ρ = none ∧ l.toNat = 0) ∨ ∃ k, lo.map ρ = some (.int k l.toNat) := k1.imp (fun x => x.2) (fun x => x.2)
    have a2 : (hi.map ρ = none ∧ hh.toNat = xs.length) ∨ ∃ k, hi.map ρ = some (.int k hh.toNat) := k2.imp (fun x => x.2) (fun x => x.2)
    rcases k3 with ⟨b1, b2, b3⟩ | ⟨b1, b2⟩
    · have r := run g1 a1 a2 (.inl ⟨b2, rfl⟩) (by omega) (by omega) (Nat.le_refl _)
      subst b1
      refine Snd.of hr h r (Rl.sliced hx' he (by omega) (by omega) (by omega) (Nat.le_refl _) fun hc => ?_)
      simp only [Bool.and_eq_true, Option.isNone_iff_eq_none] at hc
      obtain ⟨hc1, rfl⟩ := hc
      have := g5 hc1
      simp only [bndO] at hH
      omega
    · have hne : hi.map ρ ≠ none := by
        have : hi' ≠ none := h4.resolve_left b1
        have h5 := (not_congr (convOpt_none hhi)).1 this
        simpa using h5
      have r := run g1 a1 a2 (.inr ⟨b2, hne⟩) (by omega) (by omega) (by omega)
      refine Snd.of hr h r (Rl.sliced hx' he (by omega) (by omega) (by omega) (by omega) fun hc => ?_)
      cases mx' with
      | none => exact absurd rfl b1
      | some _ =>
        simp only [decide_eq_true_eq] at hc
        omega
  · rename_i e' id off len hv
    rw [hv] at hx'
    obtain ⟨rfl, rfl, h0, h1, h2, h⟩ := h
    have hx2 := hx'
    obtain ⟨ad, cap, L, g1, g2, g3, g4, g5, g6⟩ := hx2
    have k1 := bnd_ok hρ hlo 0 h0
    have k2 := bnd_ok hρ hhi len (by omega)
    have hmn : mx = none := (convOpt_none hmx).1 rfl
    subst hmn
    generalize hL : bndO ρ' ((0 : Nat) : Int) lo' = l at *
    generalize hH : bndO ρ' (len : Int) hi' = hh at *
    have a1 : (lo.map ρ = none ∧ l.toNat = 0) ∨ ∃ k, lo.map ρ = some (.int k l.toNat) := k1.imp (fun x => x.2) (fun x => x.2)
    have a2 : (hi.map ρ = none ∧ hh.toNat = len) ∨ ∃ k, hi.map ρ = some (.int k hh.toNat) := k2.imp (fun x => x.2) (fun x => x.2)
    have r := run g1 a1 a2 (.inl ⟨rfl, rfl⟩) (by omega) (by omega) (Nat.le_refl _)
    refine Snd.of hr h r ⟨_, _, L, rfl, by omega, by omega, fun hn => ?_, g5, ?_⟩
    · unfold cutA at hn
      split at hn
      · omega
      · have := g4 (by simpa using hn); omega
    · rcases g6 with g6 | ⟨g6, rfl, g7⟩
      · left; omega
      · by_cases hc : cap = l.toNat
        · left; omega
        · right
          refine ⟨g6, by simp [cutA, hc, add_at, Nat.add_mul, Nat.add_assoc], ?_⟩
          have : off + l.toNat + (cap - l.toNat) = off + cap := by omega
          rw [this]; exact g7
  · rename_i e' id off len hv
    rw [hv] at hx'
    obtain ⟨rfl, rfl, h0, h1, h2, h⟩ := h
    have hx2 := hx'
    obtain ⟨ad, cap, L, g1, g2, g3, g4, g5, g6, g7⟩ := hx2
    have k1 := bnd_ok hρ hlo 0 h0
    have k2 := bnd_ok hρ hhi len (by omega)
    have hmn : mx = none := (convOpt_none hmx).1 rfl
    subst hmn
    generalize hL : bndO ρ' ((0 : Nat) : Int) lo' = l at *
    generalize hH : bndO ρ' (len : Int) hi' = hh at *
    have a1 : (lo.map ρ = none ∧ l.toNat = 0) ∨ ∃ k, lo.map ρ = some (.int k l.toNat) := k1.imp (fun x => x.2) (fun x => x.2)
    have a2 : (hi.map ρ = none ∧ hh.toNat = len) ∨ ∃ k, hi.map ρ = some (.int k hh.toNat) := k2.imp (fun x => x.2) (fun x => x.2)
    have r := run g1 a1 a2 (.inl ⟨rfl, rfl⟩) (by omega) (by omega) (Nat.le_refl _)
    refine Snd.of hr h r ⟨_, _, L, rfl, by omega, by omega, fun hn => ?_, g5, g6, ?_⟩
    · unfold cutA at hn
      split at hn
      · omega
      · have := g4 (by simpa using hn); omega
    · rcases g7 with g7 | rfl
      · left; omega
      · by_cases hc : cap = l.toNat
        · left; omega
        · right
          simp [cutA, hc, add_at, Nat.add_assoc]
  · exact h.elim
end
end Go.FH
