/-
  The abstract walk, part 6: the other operations that make or read values do what their abstract forms say. It holds of any program.
-/
import Derived.Test.YtachiahepppajaaAt
namespace Go.FH
set_option linter.unusedVariables false
set_option linter.unusedSimpArgs false
open Go Go.RowKit

theorem veqL_of {E : Env} : ∀ {xs ys : List AV} {us vs : List Value} {r : Bool}, RlC E xs us → RlC E ys vs → aeqL xs ys = some r → veqL us vs = some r
  | [], [], us, vs, r, h1, h2, h => by
    simp only [RlC] at h1 h2
    subst h1; subst h2
    exact h
  | [], _ :: _, _, _, _, _, _, h => by simp [aeqL] at h
  | _ :: _, [], _, _, _, _, _, h => by simp [aeqL] at h
  | x :: xs, y :: ys, _, _, r, h1, h2, h => by
    obtain ⟨u, us, rfl, _, hu, h1'⟩ := h1
    obtain ⟨v, vs, rfl, _, hv, h2'⟩ := h2
    simp only [aeqL] at h
    split at h
    · rename_i a b ha hb
      have := veqL_of h1' h2' hb
      have h3 : veq1 u v = some a := by
        cases x <;> simp only [aeq1, reduceCtorEq] at ha <;> cases y <;> simp only [aeq1, reduceCtorEq] at ha <;> simp only [Rl] at hu hv <;> subst hu <;> subst hv
        · simpa [veq1] using ha
        · simpa [veq1] using ha
        · simp only [Option.some.injEq] at ha
          simp [veq1, ByteArray.toList_eq, ← ha]
      simpa [veqL, h3, this] using h
    · cases h
theorem kind_of {E : Env} {c : AV} {u : Value} {k : Nat} (h : Rl E c u) (hk : kindAV c = k) (h3 : k ≤ 2) : vkind u = k := by
  cases c <;> simp only [kindAV] at hk <;> first | omega | (simp only [Rl] at h; subst h; exact hk)
theorem kinds_of {E : Env} : ∀ {cs : List AV} {us : List Value} {ks : List (Nat × Nat)}, RlC E cs us → fitsK ks cs = true → (∀ p ∈ ks, p.2 ≤ 2) → us.map vkind = expandK ks
  | cs, us, [], h, hf, _ => by
    simp only [fitsK, List.isEmpty_iff] at hf
    subst hf
    simp only [RlC] at h
    subst h
    rfl
  | cs, us, (n, k) :: r, h, hf, h3 => by
    simp only [fitsK, Bool.and_eq_true, beq_iff_eq] at hf
    obtain ⟨⟨h1, h2⟩, h4⟩ := hf
    have h5 := kinds_of (h.drop n) h4 fun p hp => h3 p (List.mem_cons_of_mem _ hp)
    have h6 := h.take n
    have hk : k ≤ 2 := h3 (n, k) (List.mem_cons_self ..)
    have h7 : ∀ {cs : List AV} {us : List Value}, RlC E cs us → cs.all (kindAV · == k) = true → us.map vkind = List.replicate cs.length k := by
      intro cs
      induction cs with
      | nil => intro us h _; simp only [RlC] at h; subst h; rfl
      | cons c cs ih =>
        intro us h ha
        obtain ⟨u, us, rfl, _, hu, h'⟩ := h
        simp only [List.all_cons, Bool.and_eq_true, beq_iff_eq] at ha
        simp [List.replicate_succ, ih h' ha.2, kind_of hu ha.1 hk]
    have h8 := h7 h6 h2
    rw [h1] at h8
    rw [expandK, ← h8, ← h5, ← List.map_append, List.take_append_drop]

theorem run_equalIn_ptr_nil {P : Program} {w : World} {t e : TypeId} (hu : P.underlying t = some (.pointer e)) (a : Addr) : (Op.equalIn (9999 + 1) t (.pointer (some a)) (.pointer none)).run P w = .ok false w := by
  rw [Op.equalIn]; simp [run_underlying hu]
theorem run_equalIn_nil_ptr {P : Program} {w : World} {t e : TypeId} (hu : P.underlying t = some (.pointer e)) (a : Addr) : (Op.equalIn (9999 + 1) t (.pointer none) (.pointer (some a))).run P w = .ok false w := by
  rw [Op.equalIn]; simp [run_underlying hu]
theorem run_equalIn_nil_nilp {P : Program} {w : World} {t e : TypeId} (hu : P.underlying t = some (.pointer e)) : (Op.equalIn (9999 + 1) t (.pointer none) (.pointer none)).run P w = .ok true w := by
  rw [Op.equalIn]; simp [run_underlying hu]
theorem run_equalIn_fn_nil {P : Program} {w : World} {t : TypeId} {p q : Array TypeId} {v : Bool} (hu : P.underlying t = some (.func p q v)) (f : Fn) (x y : Array Value) : (Op.equalIn (9999 + 1) t (.func f x y) .nilFunc).run P w = .ok false w := by
  rw [Op.equalIn]; simp [run_underlying hu]
theorem run_equalIn_nil_fn {P : Program} {w : World} {t : TypeId} {p q : Array TypeId} {v : Bool} (hu : P.underlying t = some (.func p q v)) (f : Fn) (x y : Array Value) : (Op.equalIn (9999 + 1) t .nilFunc (.func f x y)).run P w = .ok false w := by
  rw [Op.equalIn]; simp [run_underlying hu]
theorem run_equalIn_nil_nilf {P : Program} {w : World} {t : TypeId} {p q : Array TypeId} {v : Bool} (hu : P.underlying t = some (.func p q v)) : (Op.equalIn (9999 + 1) t .nilFunc .nilFunc).run P w = .ok true w := by
  rw [Op.equalIn]; simp [run_underlying hu]
theorem size_bytes (s : List UInt8) : (⟨s.toArray⟩ : ByteArray).size = s.length := by
  show s.toArray.size = _
  simp
theorem exec_builtin {ρ : Operand → Value} {o : Oper} {b : Builtin} {xs : Array Operand} {ats : Array TypeId} (ho : o.op = .call { callee := .builtin b, args := xs, argTypes := ats }) :
    execOp ρ o = builtin b ats o.type (xs.map fun | .const _ => true | _ => false) (xs.map ρ) := by
  obtain ⟨dst, op, ty, pos, aft, gd⟩ := o
  simp only at ho
  subst ho
  rfl
theorem run_min2 {P : Program} {w : World} {k k' : IntKind} {a b : Int} : (Builtin.min2 (.int k a) (.int k' b)).run P w = .ok (.int k (if b < a then b else a)) w := by simp [Builtin.min2]
theorem run_max2 {P : Program} {w : World} {k k' : IntKind} {a b : Int} : (Builtin.max2 (.int k a) (.int k' b)).run P w = .ok (.int k (if b > a then b else a)) w := by simp [Builtin.max2]
theorem min_ok {P : Program} {w : World} {E : Env} : ∀ {r : List AV} {us : List Value} {x u : AV} {v : Value}, RlS E r us → Rl E x v → minL x r = some u → ∃ v', (us.foldlM Builtin.min2 v : Sem Value).run P w = .ok v' w ∧ Rl E u v'
  | [], _, x, u, v, h, hx, hm => by
    simp only [RlS] at h
    subst h
    simp only [minL, Option.some.injEq] at hm
    subst hm
    exact ⟨v, by simp, hx⟩
  | y :: r, _, x, u, v, h, hx, hm => by
    obtain ⟨z, us, rfl, hy, h⟩ := h
    cases x <;> cases y <;> simp only [minL, reduceCtorEq] at hm
    simp only [Rl] at hx hy
    subst hx
    subst hy
    have g0 := fun v hv => min_ok (P := P) (w := w) (v := v) h hv hm
    obtain ⟨v', g1, g2⟩ := g0 _ rfl
    refine ⟨v', ?_, g2⟩
    rw [List.foldlM_cons, Sem.run_bind, run_min2]
    exact g1
theorem max_ok {P : Program} {w : World} {E : Env} : ∀ {r : List AV} {us : List Value} {x u : AV} {v : Value}, RlS E r us → Rl E x v → maxL x r = some u → ∃ v', (us.foldlM Builtin.max2 v : Sem Value).run P w = .ok v' w ∧ Rl E u v'
  | [], _, x, u, v, h, hx, hm => by
    simp only [RlS] at h
    subst h
    simp only [maxL, Option.some.injEq] at hm
    subst hm
    exact ⟨v, by simp, hx⟩
  | y :: r, _, x, u, v, h, hx, hm => by
    obtain ⟨z, us, rfl, hy, h⟩ := h
    cases x <;> cases y <;> simp only [maxL, reduceCtorEq] at hm
    simp only [Rl] at hx hy
    subst hx
    subst hy
    have g0 := fun v hv => max_ok (P := P) (w := w) (v := v) h hv hm
    obtain ⟨v', g1, g2⟩ := g0 _ rfl
    refine ⟨v', ?_, g2⟩
    rw [List.foldlM_cons, Sem.run_bind, run_max2]
    exact g1
section
variable {X : Nat → Prop} {loc loc' : Nat → Option Loc} {σ σ' : St} {w w' : World} {n : Nat} {P : Program} {ρ : Operand → Value} {ρ' : Opd → AV} {K : AV → List Nat → Bool → St → Prop}
variable (hr : Rel X loc σ w) (hρ : OpdOk (envOf X loc σ w) ρ ρ')
include hr hρ

theorem snd_eqv {o : Oper} {t yt : TypeId} {x y : Operand} {a b : Opd} {kd : Nat} {neg : Bool} (ho : o.op = .binOp (if neg then .neq else .eql) t x y yt) (hx : convOpd x = some a) (hy : convOpd y = some b)
    (hk : (kd = 0 ∧ P.underlying t = some .bool) ∨ (kd = 1 ∧ P.underlying t = some .string) ∨ (kd = 2 ∧ ∃ e, P.underlying t = some (.pointer e)) ∨ (kd = 3 ∧ ∃ p q v, P.underlying t = some (.func p q v)))
    (h : opF n σ ρ' K (.eqv kd neg a b)) : Snd X loc σ w n ((execOp ρ o).run P w) K := by
  simp only [opF] at h
  split at h
  · rename_i r hr'
    have hx' := hρ x a hx
    have hy' := hρ y b hy
    refine Snd.of hr h (v := .bool (r != neg)) ?_ rfl
    clear h
    generalize ρ' a = A at *
    generalize ρ' b = B at *
    rcases hk with ⟨rfl, hu⟩ | ⟨rfl, hu⟩ | ⟨rfl, e, hu⟩ | ⟨rfl, p, q, vr, hu⟩
    · cases A <;> simp only [aeqN, reduceCtorEq] at hr' <;> cases B <;> simp only [aeqN, reduceCtorEq, Option.some.injEq] at hr' <;> simp only [Rl] at hx' hy'
      subst hr'
      cases neg <;> simp [execOp, ho, hx', hy', eqGuard, binOp, run_equal_bool w t _ _ hu]
    · cases A <;> simp only [aeqN, reduceCtorEq] at hr' <;> cases B <;> simp only [aeqN, reduceCtorEq, Option.some.injEq] at hr' <;> simp only [Rl] at hx' hy'
      subst hr'
      cases neg <;> simp [execOp, ho, hx', hy', eqGuard, binOp, Op.stringOp, ByteArray.toList_eq]
    · have e1 : ∀ a : Addr, (Op.equal t (.pointer (some a)) (.pointer none)).run P w = .ok false w := fun a => run_equalIn_ptr_nil hu a
      have e2 : ∀ a : Addr, (Op.equal t (.pointer none) (.pointer (some a))).run P w = .ok false w := fun a => run_equalIn_nil_ptr hu a
      have e3 : (Op.equal t (.pointer none) (.pointer none)).run P w = .ok true w := run_equalIn_nil_nilp hu
      cases A <;> simp only [aeqN, reduceCtorEq] at hr' <;> cases B <;> simp only [aeqN, reduceCtorEq, Option.some.injEq] at hr' <;> simp only [Rl] at hx' hy' <;> subst hr' <;>
        (first
          | (obtain ⟨L, _, _, hx'⟩ := hx')
          | (obtain ⟨L2, _, _, hy'⟩ := hy')
          | (obtain ⟨_, _, _, hx', _⟩ := hx')
          | (obtain ⟨_, _, _, hy', _⟩ := hy')
          | skip) <;>
        cases neg <;> simp [execOp, ho, hx', hy', eqGuard, binOp, e1, e2, e3]
    · have e1 : ∀ (f : Fn) (p q : Array Value), (Op.equal t (.func f p q) .nilFunc).run P w = .ok false w := fun f p q => run_equalIn_fn_nil hu f p q
      have e2 : ∀ (f : Fn) (p q : Array Value), (Op.equal t .nilFunc (.func f p q)).run P w = .ok false w := fun f p q => run_equalIn_nil_fn hu f p q
      have e3 : (Op.equal t .nilFunc .nilFunc).run P w = .ok true w := run_equalIn_nil_nilf hu
      cases A <;> simp only [aeqN, reduceCtorEq] at hr' <;> cases B <;> simp only [aeqN, reduceCtorEq, Option.some.injEq] at hr' <;> simp only [Rl] at hx' hy' <;> subst hr' <;>
        (first
          | (obtain ⟨_, hx', _⟩ := hx')
          | (obtain ⟨_, hy', _⟩ := hy')
          | skip) <;>
        cases neg <;> simp [execOp, ho, hx', hy', eqGuard, binOp, e1, e2, e3]
  · exact h.elim

theorem snd_eqa {o : Oper} {t yt : TypeId} {x y : Operand} {a b : Opd} {ks : List (Nat × Nat)} {neg : Bool} (ho : o.op = .binOp (if neg then .neq else .eql) t x y yt) (hx : convOpd x = some a) (hy : convOpd y = some b)
    (ha : aggT P t = true) (hl : leafs P 40 t = some (expandK ks)) (hk3 : ∀ p ∈ ks, p.2 ≤ 2) (hg : P.eqGuardType P.depth t = false) (h : opF n σ ρ' K (.eqa ks neg a b)) : Snd X loc σ w n ((execOp ρ o).run P w) K := by
  simp only [opF] at h
  split at h
  · rename_i xs1 ys1 h1 h2
    obtain ⟨h3, h4, h⟩ := h
    split at h
    · rename_i r h5
      have hx' := hρ x a hx
      have hy' := hρ y b hy
      rw [h1] at hx'
      rw [h2] at hy'
      obtain ⟨us, hx1, hx2⟩ := hx'
      obtain ⟨vs, hy1, hy2⟩ := hy'
      refine Snd.of hr h (v := .bool (r != neg)) ?_ rfl
      have he := run_leaf_eq 40 hl (kinds_of hx2 h3 hk3) (kinds_of hy2 h4 hk3) (veqL_of hx2 hy2 h5) 9960 w
      simp only [pk, ha, if_true] at he
      cases neg <;> simp [execOp, ho, hx1, hy1, run_eqGuard_agg w _ _ _ _ _ _ hg, run_eql_struct, run_neq_struct, he]
    · exact h.elim
  · exact h.elim

theorem snd_un {o : Oper} {op : UnOp} {t : TypeId} {x : Operand} {a : Opd} (ho : o.op = .unOp op t x) (hx : convOpd x = some a) (h : opF n σ ρ' K (.un op a)) : Snd X loc σ w n ((execOp ρ o).run P w) K := by
  simp only [opF] at h
  split at h
  · rename_i v hv
    have hx' := hρ x a hx
    generalize ρ' a = A at *
    unfold unV at hv
    split at hv <;> simp only [Option.some.injEq, reduceCtorEq] at hv <;> subst hv <;> simp only [Rl] at hx'
    · exact Snd.of hr h (by simp [execOp, ho, hx', Op.unary, Op.intArith]) rfl
    · exact Snd.of hr h (by simp [execOp, ho, hx', Op.unary, Op.intBits, icom]) rfl
    · exact Snd.of hr h (by simp [execOp, ho, hx', Op.unary]) rfl
  · exact h.elim

theorem snd_cvt {o : Oper} {s d : TypeId} {x : Operand} {a : Opd} {k j : IntKind} (ho : o.op = .convert s d x) (hs : P.underlying s = some (.int j)) (hd : P.underlying d = some (.int k)) (hx : convOpd x = some a) (h : opF n σ ρ' K (.cvt k a)) : Snd X loc σ w n ((execOp ρ o).run P w) K := by
  simp only [opF] at h
  split at h
  · rename_i k' m hv
    have hx' := hρ x a hx
    rw [hv] at hx'
    simp only [Rl] at hx'
    exact Snd.of hr h (v := .int k (k.wrap m)) (by simp [execOp, ho, hx', convert, run_underlying hs, run_underlying hd, Conv.intToInt]) rfl
  · exact h.elim

theorem snd_nilc {o : Oper} {x : Operand} {a : Opd} (ho : o.op = .nilCheck x) (hx : convOpd x = some a) (h : opF n σ ρ' K (.nilc a)) : Snd X loc σ w n ((execOp ρ o).run P w) K := by
  simp only [opF] at h
  have hx' := hρ x a hx
  split at h
  · rename_i hv; rw [hv] at hx'; obtain ⟨L, g1, g2, g3⟩ := hx'
    exact Snd.of hr h (v := ρ x) (by simp [execOp, ho, g3]) ⟨L, g1, g2, g3⟩
  · rename_i hv; rw [hv] at hx'; obtain ⟨L, g1, g2, g3⟩ := hx'
    exact Snd.of hr h (v := ρ x) (by simp [execOp, ho, g3]) ⟨L, g1, g2, g3⟩
  · rename_i hv; rw [hv] at hx'; obtain ⟨b, oo, vs, g3, g4⟩ := hx'
    exact Snd.of hr h (v := ρ x) (by simp [execOp, ho, g3]) ⟨b, oo, vs, g3, g4⟩
  · rename_i hv; rw [hv] at hx'; obtain ⟨vs, g3, g4⟩ := hx'
    exact Snd.of hr h (v := ρ x) (by simp [execOp, ho, g3]) ⟨vs, g3, g4⟩
  · exact h.elim

theorem snd_fld {o : Oper} {t : TypeId} {x : Operand} {i : Nat} {a : Opd} {fs : Array Field} {f : Field} {ag : Bool} {sz : Nat} (ho : o.op = .field t x i) (ht : P.underlying t = some (.struct fs)) (hf : fs[i]? = some f) (hs : sizeInfo P f.type = some (ag, sz)) (hx : convOpd x = some a)
    (h : opF n σ ρ' K (.fld ag f.offset sz a)) : Snd X loc σ w n ((execOp ρ o).run P w) K := by
  simp only [opF] at h
  split at h
  · rename_i cs hv
    obtain ⟨hl, h⟩ := h
    have hx' := hρ x a hx
    rw [hv] at hx'
    obtain ⟨vs, g1, g2⟩ := hx'
    have g3 := (g2.drop f.offset).take sz
    have hvl := g2.length
    refine Snd.pure hr (v := packV ag ((vs.drop f.offset).take sz)) ?_ (Rl.pack g3 (fun h0 => by subst h0; rw [(sizeInfo_one hs).1] at hl ⊢; simp; omega)) h
    cases ag
    · obtain ⟨rfl, g4, _⟩ := sizeInfo_one hs
      have : ((vs.drop f.offset).take 1).head?.getD undef = vs[f.offset]'(by omega) := by
        rw [List.drop_eq_getElem_cons (by omega)]; rfl
      have hlt : f.offset < vs.length := by omega
      simp [execOp, ho, Instr.field, run_underlying ht, hf, g1, asAgg, part, g4, packV, this, hlt]
    · obtain ⟨g4, g5⟩ := sizeInfo_agg hs
      obtain ⟨ti, hi, hsz⟩ := sizeInfo_info hs
      have hag : (isAgg f.type).run P w = .ok true w := by
        unfold aggB at g4
        rw [Bool.and_eq_true] at g4
        unfold isAgg
        cases hu : P.underlying f.type with
        | none => simp [hu] at g4
        | some d => rw [Sem.run_bind, run_underlying hu w]; cases d <;> simp_all
      simp [execOp, ho, Instr.field, run_underlying ht, hf, g1, asAgg, part, hag, packV, sizeOf, typeInfo, hi, hsz, List.extract_eq_take_drop]
  · exact h.elim

theorem snd_fldA {o : Oper} {t : TypeId} {x : Operand} {i : Nat} {a : Opd} {fs : Array Field} {f : Field} {ti : TypeInfo} (ho : o.op = .fieldAddr t x i) (ht : P.underlying t = some (.struct fs)) (hf : fs[i]? = some f) (hi : P.info? f.type = some ti) (hz : ti.size ≠ 0) (hx : convOpd x = some a)
    (h : opF n σ ρ' K (.fldA f.offset a)) : Snd X loc σ w n ((execOp ρ o).run P w) K := by
  simp only [opF] at h
  have hx' := hρ x a hx
  split at h
  · rename_i hv; rw [hv] at hx'; obtain ⟨L, g1, g2, g3⟩ := hx'
    exact Snd.of hr h (by simp [execOp, ho, Instr.fieldAt, run_underlying ht, hf, Instr.sureAddr, g3, fieldPlace, sizeOf, typeInfo, hi, hz, add_at]; rfl) ⟨L, g1, g2, by rw [Nat.add_assoc]⟩
  · rename_i hv; rw [hv] at hx'; obtain ⟨L, g1, g2, g3⟩ := hx'
    exact Snd.of hr h (by simp [execOp, ho, Instr.fieldAt, run_underlying ht, hf, Instr.sureAddr, g3, fieldPlace, sizeOf, typeInfo, hi, hz, add_at]; rfl) ⟨L, g1, g2, by rw [Nat.add_assoc]⟩
  · rename_i hv; rw [hv] at hx'; obtain ⟨b, oo, vs, g3, g4⟩ := hx'
    exact Snd.of hr h (by simp [execOp, ho, Instr.fieldAt, run_underlying ht, hf, Instr.sureAddr, g3, fieldPlace, sizeOf, typeInfo, hi, hz, add_at]; rfl) ⟨b, oo, vs, by rw [Nat.add_assoc], g4⟩
  · exact h.elim

theorem snd_idx {o : Oper} {t e : TypeId} {x i : Operand} {a b : Opd} {m : Nat} {ag : Bool} {sz : Nat} (ho : o.op = .index t x i) (ht : P.underlying t = some (.array m e)) (hs : sizeInfo P e = some (ag, sz)) (hx : convOpd x = some a) (hi : convOpd i = some b)
    (h : opF n σ ρ' K (.idx ag m sz a b)) : Snd X loc σ w n ((execOp ρ o).run P w) K := by
  simp only [opF] at h
  split at h
  · rename_i cs k j hv hw
    obtain ⟨h0, h1, hl, h⟩ := h
    have hx' := hρ x a hx
    have hi' := hρ i b hi
    rw [hv] at hx'
    rw [hw] at hi'
    obtain ⟨vs, g1, g2⟩ := hx'
    simp only [Rl] at hi'
    have g3 := (g2.drop (j.toNat * sz)).take sz
    have hvl := g2.length
    have hjm : j.toNat < m := by omega
    have hle : j.toNat * sz + sz ≤ cs.length := by
      rw [hl]
      have : (j.toNat + 1) * sz ≤ m * sz := Nat.mul_le_mul_right _ (by omega)
      rw [Nat.add_mul] at this; omega
    obtain ⟨ti, hti, hsz⟩ := sizeInfo_info hs
    refine Snd.pure hr (v := packV ag ((vs.drop (j.toNat * sz)).take sz)) ?_ (Rl.pack g3 (fun h0 => by subst h0; rw [(sizeInfo_one hs).1] at hle ⊢; simp; omega)) h
    cases ag
    · obtain ⟨rfl, g4, _⟩ := sizeInfo_one hs
      have hlt : j.toNat < vs.length := by omega
      have : ((vs.drop j.toNat).take 1).head?.getD undef = vs[j.toNat] := by
        rw [List.drop_eq_getElem_cons hlt]; rfl
      simp [execOp, ho, Instr.index, run_underlying ht, g1, hi', asIntOf, h0, h1, part, g4, packV, this, hlt, sizeOf, typeInfo, hti, hsz]
    · obtain ⟨g4, g5⟩ := sizeInfo_agg hs
      have hag : (isAgg e).run P w = .ok true w := by
        unfold aggB at g4
        rw [Bool.and_eq_true] at g4
        unfold isAgg
        cases hu : P.underlying e with
        | none => simp [hu] at g4
        | some d => rw [Sem.run_bind, run_underlying hu w]; cases d <;> simp_all
      simp [execOp, ho, Instr.index, run_underlying ht, g1, hi', asIntOf, h0, h1, part, hag, packV, sizeOf, typeInfo, hti, hsz, List.extract_eq_take_drop]
  · exact h.elim

theorem snd_idxA {o : Oper} {t e : TypeId} {x i : Operand} {a b : Opd} {m : Nat} {ti : TypeInfo} (ho : o.op = .indexAddr t x i) (ht : P.underlying t = some (.array m e)) (hti : P.info? e = some ti) (hx : convOpd x = some a) (hi : convOpd i = some b)
    (h : opF n σ ρ' K (.idxA m ti.size a b)) : Snd X loc σ w n ((execOp ρ o).run P w) K := by
  simp only [opF] at h
  have hx' := hρ x a hx
  have hi' := hρ i b hi
  split at h
  · rename_i hv hw; rw [hv] at hx'; rw [hw] at hi'; obtain ⟨L, g1, g2, g3⟩ := hx'; simp only [Rl] at hi'; obtain ⟨h0, h1, h⟩ := h
    exact Snd.of hr h (by simp [execOp, ho, Instr.indexAt, run_underlying ht, Instr.sureAddr, g3, hi', asIntOf, h0, h1, sizeOf, typeInfo, hti, add_at]; rfl) ⟨L, g1, g2, by rw [Nat.add_assoc]⟩
  · rename_i hv hw; rw [hv] at hx'; rw [hw] at hi'; obtain ⟨L, g1, g2, g3⟩ := hx'; simp only [Rl] at hi'; obtain ⟨h0, h1, h⟩ := h
    exact Snd.of hr h (by simp [execOp, ho, Instr.indexAt, run_underlying ht, Instr.sureAddr, g3, hi', asIntOf, h0, h1, sizeOf, typeInfo, hti, add_at]; rfl) ⟨L, g1, g2, by rw [Nat.add_assoc]⟩
  · rename_i hv hw; rw [hv] at hx'; rw [hw] at hi'; obtain ⟨bb, oo, vs, g3, g4⟩ := hx'; simp only [Rl] at hi'; obtain ⟨h0, h1, h⟩ := h
    exact Snd.of hr h (by simp [execOp, ho, Instr.indexAt, run_underlying ht, Instr.sureAddr, g3, hi', asIntOf, h0, h1, sizeOf, typeInfo, hti, add_at]; rfl) ⟨bb, oo, vs, by rw [Nat.add_assoc], g4⟩
  · exact h.elim

theorem snd_ext {o : Oper} {x : Operand} {a : Opd} {i : Nat} (ho : o.op = .extract x i) (hx : convOpd x = some a) (h : opF n σ ρ' K (.ext i a)) : Snd X loc σ w n ((execOp ρ o).run P w) K := by
  simp only [opF] at h
  split at h
  · rename_i us hv
    obtain ⟨hl, h⟩ := h
    have hx' := hρ x a hx
    rw [hv] at hx'
    obtain ⟨vs, g1, g2⟩ := hx'
    obtain ⟨u, g3, g4⟩ := g2.get i hl
    have hd : us.getD i .dead = us[i] := by simp [List.getD, hl]
    refine Snd.pure hr (v := u) ?_ (by rw [hd]; exact g4) h
    simp [execOp, ho, Instr.extract, g1, g3]
  · exact h.elim

theorem snd_len {o : Oper} {x : Operand} {a : Opd} {t : TypeId} {st : Bool} (ho : o.op = .call { callee := .builtin .len, args := #[x], argTypes := #[t] }) (ht : (st = false ∧ ∃ e, P.underlying t = some (.slice e)) ∨ (st = true ∧ P.underlying t = some .string)) (hx : convOpd x = some a)
    (h : opF n σ ρ' K (.len st a)) : Snd X loc σ w n ((execOp ρ o).run P w) K := by
  simp only [opF] at h
  have hx' := hρ x a hx
  split at h
  · rename_i m hm
    refine Snd.of hr h (v := .int .i64 m) ?_ rfl
    clear h
    have e0 : (execOp ρ o) = (do pure (Next.value (← Builtin.len_ #[t] o.type #[ρ x])) : Sem Next) := by
      rw [exec_builtin ho]
      simp [builtin]
    have e1 : (Builtin.len_ #[t] o.type #[ρ x]).run P w = .ok (.int .i64 m) w := by
      generalize ρ' a = A at *
      rcases ht with ⟨rfl, e, ht⟩ | ⟨rfl, ht⟩ <;> cases A <;> simp only [lenV, reduceCtorEq, Option.some.injEq] at hm
      case inl.sl e cl xs =>
        obtain ⟨ad, q, cap, g1, g2, _⟩ := hx'
        simp [Builtin.len_, run_underlying ht, g1, goInt, ← hm, g2]
      case inl.hs e id off len =>
        obtain ⟨ad, cap, L, g1, _⟩ := hx'
        simp [Builtin.len_, run_underlying ht, g1, goInt, ← hm]
      case inl.va e id off len =>
        obtain ⟨ad, cap, L, g1, _⟩ := hx'
        simp [Builtin.len_, run_underlying ht, g1, goInt, ← hm]
      case inr.str s =>
        simp only [Rl] at hx'
        simp only [Builtin.len_, hx', goInt, Sem.run_bind, run_underlying ht, Result.andThen_ok, ← hm]
        simp [run_underlying ht, size_bytes]
    rw [e0, Sem.run_bind, e1]
    rfl
  · exact h.elim

theorem snd_cap {o : Oper} {x : Operand} {a : Opd} {t e : TypeId} (ho : o.op = .call { callee := .builtin .cap, args := #[x], argTypes := #[t] }) (ht : P.underlying t = some (.slice e)) (hx : convOpd x = some a)
    (h : opF n σ ρ' K (.cap a)) : Snd X loc σ w n ((execOp ρ o).run P w) K := by
  simp only [opF] at h
  split at h
  · rename_i e' xs hv
    have hx' := hρ x a hx
    rw [hv] at hx'
    obtain ⟨ad, q, cap, g1, g2, g3, g4, g5, _⟩ := hx'
    refine Snd.of hr h (v := .int .i64 xs.length) ?_ rfl
    rw [exec_builtin ho]
    have g6 := g5 rfl
    subst g6
    simp [builtin, Builtin.cap_, run_underlying ht, g1, goInt, g2]
  · exact h.elim

theorem snd_mn {o : Oper} {xs : Array Operand} {ys : List Opd} {ats : Array TypeId} (ho : o.op = .call { callee := .builtin .min, args := xs, argTypes := ats }) (hx : convOpds xs.toList = some ys)
    (h : opF n σ ρ' K (.mn ys)) : Snd X loc σ w n ((execOp ρ o).run P w) K := by
  simp only [opF] at h
  have hx' := convOpds_eval hρ hx
  split at h
  · rename_i v r hv
    split at h
    · rename_i u hu
      rw [hv] at hx'
      obtain ⟨z, us, g1, g2, g3⟩ := hx'
      obtain ⟨v', g4, g5⟩ := min_ok (P := P) (w := w) g3 g2 hu
      refine Snd.of hr h (v := v') ?_ g5
      rw [exec_builtin ho]
      simp only [builtin, Builtin.min_, Array.toList_map, g1, Sem.run_bind, g4, Result.andThen_ok, Sem.run_pure]
    · exact h.elim
  · exact h.elim
theorem snd_mx {o : Oper} {xs : Array Operand} {ys : List Opd} {ats : Array TypeId} (ho : o.op = .call { callee := .builtin .max, args := xs, argTypes := ats }) (hx : convOpds xs.toList = some ys)
    (h : opF n σ ρ' K (.mx ys)) : Snd X loc σ w n ((execOp ρ o).run P w) K := by
  simp only [opF] at h
  have hx' := convOpds_eval hρ hx
  split at h
  · rename_i v r hv
    split at h
    · rename_i u hu
      rw [hv] at hx'
      obtain ⟨z, us, g1, g2, g3⟩ := hx'
      obtain ⟨v', g4, g5⟩ := max_ok (P := P) (w := w) g3 g2 hu
      refine Snd.of hr h (v := v') ?_ g5
      rw [exec_builtin ho]
      simp only [builtin, Builtin.max_, Array.toList_map, g1, Sem.run_bind, g4, Result.andThen_ok, Sem.run_pure]
    · exact h.elim
  · exact h.elim
theorem snd_mkf {o : Oper} {f : Fn} {first caps : Array Operand} {ys : List Opd} (ho : o.op = .makeFunc f first caps) (hf : first = #[]) (hx : convOpds caps.toList = some ys)
    (h : opF n σ ρ' K (.mkf f ys)) : Snd X loc σ w n ((execOp ρ o).run P w) K := by
  simp only [opF] at h
  have hx' := convOpds_eval hρ hx
  refine Snd.of hr h (v := .func f #[] (caps.map ρ)) ?_ ⟨_, by rw [← Array.toList_map], hx'⟩
  subst hf
  simp [execOp, ho, Instr.makeFunc]

theorem snd_idxS {o : Oper} {t e : TypeId} {x i : Operand} {a b : Opd} {ti : TypeInfo} (ho : o.op = .indexAddr t x i) (ht : P.underlying t = some (.slice e)) (hti : P.info? e = some ti) (hx : convOpd x = some a) (hi : convOpd i = some b)
    (h : opF n σ ρ' K (.idxS ti.size a b)) : Snd X loc σ w n ((execOp ρ o).run P w) K := by
  simp only [opF] at h
  have hx' := hρ x a hx
  have hi' := hρ i b hi
  split at h
  · rename_i e' cl xs k j hv hw
    rw [hv] at hx'; rw [hw] at hi'
    obtain ⟨rfl, h0, h1, h⟩ := h
    obtain ⟨ad, q, cap, g1, g2, g3, g4, g5, g6, g7⟩ := hx'
    simp only [Rl] at hi'
    rcases g7 with g7 | ⟨bb, off, vs, rfl, k2, k3, k4, k5⟩
    · omega
    · have h1' : j < (q : Int) := by omega
      refine Snd.of hr h (v := .pointer (some ⟨bb, off + j.toNat * ti.size + 0, none⟩)) ?_ ⟨bb, off, vs, rfl, k2, k3, by rw [← g2]; exact k4, k5⟩
      simp [execOp, ho, Instr.indexAt, run_underlying ht, g1, hi', asIntOf, h0, h1', sizeOf, typeInfo, hti, add_at]
  · rename_i e' id off len k j hv hw
    rw [hv] at hx'; rw [hw] at hi'
    obtain ⟨rfl, h0, h1, h⟩ := h
    obtain ⟨ad, cap, L, g1, g2, g3, g4, g5, g6⟩ := hx'
    simp only [Rl] at hi'
    rcases g6 with g6 | ⟨k1, rfl, k3⟩
    · omega
    · refine Snd.of hr h (v := .pointer (some ⟨L.blk, L.base + (off + j.toNat) * ti.size + 0, none⟩)) ?_ ⟨L, g5, k1, rfl⟩
      have : L.base + off * ti.size + j.toNat * ti.size = L.base + (off + j.toNat) * ti.size := by rw [Nat.add_mul]; omega
      simp [execOp, ho, Instr.indexAt, run_underlying ht, g1, hi', asIntOf, h0, h1, sizeOf, typeInfo, hti, add_at, this]
  · rename_i e' id off len k j hv hw
    rw [hv] at hx'; rw [hw] at hi'
    obtain ⟨rfl, h0, h1, h⟩ := h
    obtain ⟨ad, cap, L, g1, g2, g3, g4, g5, g6, g7⟩ := hx'
    simp only [Rl] at hi'
    rcases g7 with g7 | rfl
    · omega
    · refine Snd.of hr h (v := .pointer (some ⟨L.blk, L.base + (off + j.toNat * ti.size), none⟩)) ?_ ⟨L, g5, g6, rfl⟩
      simp [execOp, ho, Instr.indexAt, run_underlying ht, g1, hi', asIntOf, h0, h1, sizeOf, typeInfo, hti, add_at, Nat.add_assoc]
  · exact h.elim

theorem snd_ld {o : Oper} {t : TypeId} {x : Operand} {a : Opd} {ag : Bool} {sz : Nat} (ho : o.op = .load t x) (hs : sizeInfo P t = some (ag, sz)) (hx : convOpd x = some a)
    (h : opF n σ ρ' K (.ld ag sz a)) : Snd X loc σ w n ((execOp ρ o).run P w) K := by
  simp only [opF] at h
  have hx' := hρ x a hx
  have fin : ∀ {cs : List AV} {vs : List Value} {b oo : Nat} {ft : List Nat}, RlC (envOf X loc σ w) cs vs → cs.length = sz → range? w b oo sz = some vs.toArray → ρ x = .pointer (some ⟨b, oo, none⟩) → K (pack ag cs) ft false σ → Snd X loc σ w n ((execOp ρ o).run P w) K := by
    intro cs vs b oo ft k1 k2 k3 k4 k5
    refine Snd.of hr k5 (v := packV ag vs) ?_ (Rl.pack k1 fun h0 => by subst h0; rw [k2]; exact (sizeInfo_one hs).1)
    have := run_load_range P w b oo hs k3
    simp [execOp, ho, Instr.loadAt, k4, Instr.sureAddr, this]
  split at h
  · rename_i id oo hv
    rw [hv] at hx'
    obtain ⟨L, g1, g2, g3⟩ := hx'
    split at h
    · rename_i cs hσ
      obtain ⟨hl, h⟩ := h
      obtain ⟨_, k1, vs, tt, k2, k3⟩ := hr.var hσ g1
      have hvl := k3.length
      have k4 := range_whole k2 oo sz (by omega)
      rw [k1, Nat.zero_add] at g3
      exact fin ((k3.drop oo).take sz) (by simp; omega) k4 g3 h
    · exact h.elim
  · rename_i e id i oo hv
    rw [hv] at hx'
    obtain ⟨L, g1, g2, g3⟩ := hx'
    split at h
    · rename_i e' xs hσ
      obtain ⟨rfl, hl, hi, h⟩ := h
      rcases hr.vec hσ g1 with ⟨k0, _⟩ | ⟨_, cs, vs, ws, tt, k2, k3, k4, k5⟩
      · rw [g2] at k0; cases k0
      · have hvl := k5.length
        have hle : i * e' + e' ≤ vs.length := by
          rw [hvl]
          have : (i + 1) * e' ≤ xs.length * e' := Nat.mul_le_mul_right _ hi
          rw [Nat.add_mul] at this; omega
        have k6 := range_sub (range_of_list k2) (i * e' + oo) sz (by omega)
        rw [k3] at k6
        have k7 := k5.get i hi
        have k8 := (k7.drop oo).take sz
        have hel := RlE.elen k5 xs[i] (List.getElem_mem hi)
        have hd : xs.getD i [] = xs[i] := by simp [List.getD, hi]
        rw [hd] at h
        have e1 : (((vs.drop (i * e')).take e').drop oo).take sz = (vs.drop (i * e' + oo)).take sz := by
          rw [List.drop_take, List.take_take, List.drop_drop, Nat.min_eq_left (by omega)]
        rw [e1] at k8
        exact fin k8 (by simp; omega) k6 (by rw [g3]; congr 3; omega) h
    · exact h.elim
  · rename_i e xs i oo hv
    rw [hv] at hx'
    obtain ⟨hl, hi, h⟩ := h
    obtain ⟨b, off, vs, g3, g4, g5, g6, k5⟩ := hx'
    have hvl := k5.length
    have hle : i * e + e ≤ xs.length * e := by
      have : (i + 1) * e ≤ xs.length * e := Nat.mul_le_mul_right _ hi
      rw [Nat.add_mul] at this; omega
    have k6 := range_sub g6 (i * e + oo) sz (by omega)
    have k7 := k5.get i hi
    have k8 := (k7.drop oo).take sz
    have hel := RlE.elen k5 xs[i] (List.getElem_mem hi)
    have hd : xs.getD i [] = xs[i] := by simp [List.getD, hi]
    rw [hd] at h
    have e1 : (((vs.drop (i * e)).take e).drop oo).take sz = (vs.drop (i * e + oo)).take sz := by
      rw [List.drop_take, List.take_take, List.drop_drop, Nat.min_eq_left (by omega)]
    rw [e1] at k8
    exact fin k8 (by simp; omega) k6 (by rw [g3]; congr 3; omega) h
  · exact h.elim
end
end Go.FH
