/-
  The abstract walk, part 4: each operation does what its abstract form says. It holds of any program.
-/
import Derived.Test.YtachiahepppajaaAo
namespace Go.FH
set_option linter.unusedVariables false
set_option linter.unusedSimpArgs false
open Go Go.RowKit

/-- A run leaves what the walk goes on with. -/
def Snd (X : Nat → Prop) (loc : Nat → Option Loc) (σ : St) (w : World) (n : Nat) (r : Result Next) (K : AV → List Nat → Bool → St → Prop) : Prop :=
  ∃ av ft wr σ' v w' loc', K av ft wr σ' ∧ (r = .ok (.value v) w' ∨ (r = .ok .skip w' ∧ v = undef)) ∧ Out X loc σ w av σ' v w' loc' ∧ (∀ id, id ≠ n → loc' id = loc id) ∧ σ'.length = σ.length

section
variable {X : Nat → Prop} {loc : Nat → Option Loc} {σ : St} {w : World} {n : Nat} {P : Program} {ρ : Operand → Value} {ρ' : Opd → AV} {K : AV → List Nat → Bool → St → Prop}

theorem Snd.pure (hr : Rel X loc σ w) {r : Result Next} {v : Value} {av : AV} {ft : List Nat} {wr : Bool} (h1 : r = .ok (.value v) w) (h2 : Rl (envOf X loc σ w) av v) (h3 : K av ft wr σ) : Snd X loc σ w n r K :=
  ⟨av, ft, wr, σ, v, w, loc, h3, .inl h1, ⟨fun _ _ h => h, hr, h2, Ev.refl _ _, fun _ h => .inl h⟩, fun _ _ => rfl, rfl⟩

theorem Snd.of (hr : Rel X loc σ w) {r : Result Next} {v : Value} {av : AV} {ft : List Nat} {wr : Bool} (h3 : K av ft wr σ) (h1 : r = .ok (.value v) w) (h2 : Rl (envOf X loc σ w) av v) : Snd X loc σ w n r K := Snd.pure hr h1 h2 h3
theorem Rl.ofCell (E : Env) {v : Value} {a : AV} (h : ofCell v = some a) : a.cell = true ∧ Rl E a v := by
  unfold Go.FH.ofCell at h
  split at h <;> simp only [Option.some.injEq, reduceCtorEq] at h <;> subst h
  · exact ⟨rfl, rfl⟩
  · exact ⟨rfl, rfl⟩
  · refine ⟨rfl, ?_⟩
    simp [Rl]
  · exact ⟨rfl, rfl⟩
  · exact ⟨rfl, none, 0, 0, rfl, rfl, Nat.le_refl _, by simp [maxLen], fun _ => rfl, fun _ => rfl, .inl rfl⟩
  · exact ⟨rfl, rfl⟩
theorem RlC.ofCells (E : Env) : ∀ {vs : List Value} {cs : List AV}, ofCells vs = some cs → RlC E cs vs
  | [], _, h => by simp only [Go.FH.ofCells, Option.some.injEq] at h; subst h; rfl
  | v :: vs, _, h => by
    simp only [Go.FH.ofCells] at h
    split at h
    · rename_i a b h1 h2
      simp only [Option.some.injEq] at h
      subst h
      obtain ⟨h3, h4⟩ := Rl.ofCell E h1
      exact ⟨v, vs, rfl, h3, h4, RlC.ofCells E h2⟩
    · cases h
theorem Rl.ofVal (E : Env) {v : Value} {a : AV} (h : ofVal v = some a) : Rl E a v := by
  unfold Go.FH.ofVal at h
  split at h
  · rename_i cs
    obtain ⟨qs, h1, rfl⟩ := Option.map_eq_some_iff.1 h
    exact ⟨cs.toList, by simp, RlC.ofCells E h1⟩
  · exact (Rl.ofCell E h).2
theorem convOpd_eval {E : Env} {fr : Fr} {a : Act} (hf : ∀ t, Rl E (fr.get t) (a.tmps.getD t undef)) {x : Operand} {y : Opd} (h : convOpd x = some y) : Rl E (y.ev fr) (a.eval x) := by
  cases x with
  | tmp t => simp only [convOpd, Option.some.injEq] at h; subst h; exact hf t
  | const v =>
    simp only [convOpd] at h
    obtain ⟨c, h1, rfl⟩ := Option.map_eq_some_iff.1 h
    exact Rl.ofVal E h1
  | global g => simp [convOpd] at h
  | func f => simp only [convOpd, Option.some.injEq] at h; subst h; exact ⟨[], rfl, rfl⟩
def OpdOk (E : Env) (ρ : Operand → Value) (ρ' : Opd → AV) : Prop := ∀ x y, convOpd x = some y → Rl E (ρ' y) (ρ x)
theorem convOpds_eval {E : Env} (h : OpdOk E ρ ρ') : ∀ {xs : List Operand} {ys : List Opd}, convOpds xs = some ys → RlS E (ys.map ρ') (xs.map ρ)
  | [], _, h1 => by simp only [convOpds, Option.some.injEq] at h1; subst h1; rfl
  | x :: xs, _, h1 => by
    simp only [convOpds] at h1
    split at h1
    · rename_i a b h2 h3
      simp only [Option.some.injEq] at h1
      subst h1
      exact ⟨ρ x, xs.map ρ, rfl, h x a h2, convOpds_eval h h3⟩
    · cases h1
theorem selAV_ok {E : Env} {b : Bool} {x y : AV} {u v : Value} (hx : Rl E x u) (hy : Rl E y v) : Rl E (selAV b x y) (if b then u else v) := by
  unfold selAV
  split
  · simp only [Rl] at hx hy; subst hx; subst hy; cases b <;> rfl
  · cases b
    · exact hy
    · exact hx
theorem run_binOp_int (E : Env) (op : BinOp) (k k' : IntKind) (a b : Int) (t : TypeId) (x y : Operand) (Q : AV → Prop) (h : binK op k a k' b Q) :
    ∃ av v, Q av ∧ (do eqGuard op t x y (.int k a) (.int k' b); binOp op t (.int k a) (.int k' b) : Sem Value).run P w = .ok v w ∧ Rl E av v := by
  cases op <;> simp only [binK] at h
  case add => obtain ⟨rfl, h⟩ := h; exact ⟨_, _, h, by simp [eqGuard, binOp, Op.intArith], rfl⟩
  case sub => obtain ⟨rfl, h⟩ := h; exact ⟨_, _, h, by simp [eqGuard, binOp, Op.intArith], rfl⟩
  case mul => obtain ⟨rfl, h⟩ := h; exact ⟨_, _, h, by simp [eqGuard, binOp, Op.intArith], rfl⟩
  case quo => obtain ⟨rfl, h0, h⟩ := h; exact ⟨_, _, h, by simp [eqGuard, binOp, Op.intDiv, h0], rfl⟩
  case rem => obtain ⟨rfl, h0, h⟩ := h; exact ⟨_, _, h, by simp [eqGuard, binOp, Op.intDiv, h0], rfl⟩
  case and => obtain ⟨rfl, h⟩ := h; exact ⟨_, _, h, by simp [eqGuard, binOp, Op.intBits, iand, ior, ixor, iandn], rfl⟩
  case or => obtain ⟨rfl, h⟩ := h; exact ⟨_, _, h, by simp [eqGuard, binOp, Op.intBits, iand, ior, ixor, iandn], rfl⟩
  case xor => obtain ⟨rfl, h⟩ := h; exact ⟨_, _, h, by simp [eqGuard, binOp, Op.intBits, iand, ior, ixor, iandn], rfl⟩
  case andNot => obtain ⟨rfl, h⟩ := h; exact ⟨_, _, h, by simp [eqGuard, binOp, Op.intBits, iand, ior, ixor, iandn], rfl⟩
  case shl => obtain ⟨h0, h⟩ := h; exact ⟨_, _, h, by simp [eqGuard, binOp, Op.shift, Int.not_lt.2 h0, ishl, ishr], rfl⟩
  case shr => obtain ⟨h0, h⟩ := h; exact ⟨_, _, h, by simp [eqGuard, binOp, Op.shift, Int.not_lt.2 h0, ishl, ishr], rfl⟩
  case eql => obtain ⟨rfl, h⟩ := h; exact ⟨_, _, h, by simp [eqGuard, binOp, Op.intCmp], rfl⟩
  case neq => obtain ⟨rfl, h⟩ := h; exact ⟨_, _, h, by simp [eqGuard, binOp, Op.intCmp], rfl⟩
  case lss => obtain ⟨rfl, h⟩ := h; exact ⟨_, _, h, by simp [eqGuard, binOp, Op.intCmp], rfl⟩
  case leq => obtain ⟨rfl, h⟩ := h; exact ⟨_, _, h, by simp [eqGuard, binOp, Op.intCmp], rfl⟩
  case gtr => obtain ⟨rfl, h⟩ := h; exact ⟨_, _, h, by simp [eqGuard, binOp, Op.intCmp], rfl⟩
  case geq => obtain ⟨rfl, h⟩ := h; exact ⟨_, _, h, by simp [eqGuard, binOp, Op.intCmp], rfl⟩

/-! ### Memory -/
theorem cell_at {w : World} {b : Nat} {c : Array Value} {t : TypeId} {f : Nat × Nat} (h : w.heap[b]? = some (.cells c t f)) (o : Nat) : w.cell? ⟨b, o, none⟩ = c[o]? := by
  simp [World.cell?, h]
theorem add_at (b o j : Nat) : (⟨b, o, none⟩ : Addr).add j = ⟨b, o + j, none⟩ := by unfold Addr.add; split <;> simp_all
theorem range_get {w : World} {b o m : Nat} {vs : List Value} (h : range? w b o m = some vs.toArray) : vs.length = m ∧ ∀ j u, vs[j]? = some u → w.cell? ⟨b, o + j, none⟩ = some u := by
  obtain ⟨h1, h2⟩ := range?_cells h
  exact ⟨by simpa using h1, fun j u hj => h2 j u (by simpa using hj)⟩
theorem range_sub {w : World} {b o m : Nat} {vs : List Value} (h : range? w b o m = some vs.toArray) (p q : Nat) (hq : p + q ≤ m) : range? w b (o + p) q = some ((vs.drop p).take q).toArray := by
  unfold range? at h ⊢
  cases hb : w.heap[b]? with
  | none => simp [hb] at h
  | some ob =>
    cases ob with
    | cells c t f =>
      simp only [hb] at h ⊢
      by_cases hle : o + m ≤ c.size
      · rw [if_pos hle] at h
        rw [if_pos (by omega)]
        simp only [Option.some.injEq] at h ⊢
        apply Array.toList_inj.1
        have h' := congrArg Array.toList h
        simp only [Array.toList_extract, List.extract_eq_take_drop] at h' ⊢
        rw [← h', List.drop_take, List.take_take, List.drop_drop, Nat.min_eq_left (by omega)]
        congr 1
        omega
      · rw [if_neg hle] at h; cases h
    | _ => simp [hb] at h
theorem range_of_list {w : World} {b : Nat} {cs vs ws : List Value} {t : TypeId} {f : Nat × Nat} (h : w.heap[b]? = some (.cells (cs ++ vs ++ ws).toArray t f)) : range? w b cs.length vs.length = some vs.toArray := by
  rw [range?_of h _ _ (by simp)]
  congr 1
  apply Array.toList_inj.1
  simp
def packV (ag : Bool) (vs : List Value) : Value := if ag then .agg vs.toArray else vs.headD undef
theorem Rl.pack {E : Env} {ag : Bool} {cs : List AV} {vs : List Value} (h : RlC E cs vs) (h1 : ag = false → cs.length = 1) : Rl E (pack ag cs) (packV ag vs) := by
  cases ag
  · cases cs with
    | nil => simp at h1
    | cons c cs =>
      obtain ⟨u, us, rfl, _, h3, _⟩ := h
      exact h3
  · exact ⟨vs, rfl, h⟩
theorem sizeInfo_agg {P : Program} {t : TypeId} {sz : Nat} (h : sizeInfo P t = some (true, sz)) : aggB P t = true ∧ sizeB P t = sz := by
  unfold sizeInfo at h
  unfold aggB sizeB
  split at h <;> simp_all
theorem sizeInfo_one {P : Program} {t : TypeId} {sz : Nat} (h : sizeInfo P t = some (false, sz)) : sz = 1 ∧ (∀ w, (isAgg t).run P w = .ok false w) ∧ ∃ i, P.info? t = some i ∧ i.size = 1 := by
  unfold sizeInfo at h
  split at h
  · simp at h
  · simp at h
  · rename_i d i hns hna hd hi
    split at h
    · rename_i h1
      simp only [Option.some.injEq, Prod.mk.injEq, true_and] at h
      refine ⟨h.symm, fun w => ?_, i, hi, h1⟩
      unfold isAgg
      rw [Sem.run_bind, run_underlying hd w]
      cases d <;> simp_all
    · cases h
  · cases h
theorem sizeInfo_info {P : Program} {t : TypeId} {ag : Bool} {sz : Nat} (h : sizeInfo P t = some (ag, sz)) : ∃ i, P.info? t = some i ∧ i.size = sz := by
  cases ag
  · obtain ⟨rfl, _, h⟩ := sizeInfo_one h; exact h
  · obtain ⟨h1, h2⟩ := sizeInfo_agg h
    unfold aggB at h1
    rw [Bool.and_eq_true] at h1
    obtain ⟨i, hi⟩ := Option.isSome_iff_exists.1 h1.2
    exact ⟨i, hi, by simpa [sizeB, hi] using h2⟩
theorem run_load_range (P : Program) (w : World) (b o : Nat) {t : TypeId} {ag : Bool} {sz : Nat} {vs : List Value} (hs : sizeInfo P t = some (ag, sz)) (h : range? w b o sz = some vs.toArray) :
    (loadVar t ⟨b, o, none⟩).run P w = .ok (packV ag vs) w := by
  cases ag
  · obtain ⟨rfl, h1, _⟩ := sizeInfo_one hs
    obtain ⟨h2, h3⟩ := range_get h
    match vs, h2 with
    | [v], _ =>
      have := h3 0 v rfl
      simp only [Nat.add_zero] at this
      simp [loadVar, Sem.run_bind, h1, this, packV]
  · obtain ⟨h1, h2⟩ := sizeInfo_agg hs
    subst h2
    exact run_loadVar_range P w b o t vs.toArray h1 h
variable (hr : Rel X loc σ w) (hρ : OpdOk (envOf X loc σ w) ρ ρ')
include hr hρ

theorem snd_mv {o : Oper} {x : Operand} {a : Opd} (ho : o.op = .move x ∨ o.op = .assign x) (hx : convOpd x = some a) (h : opF n σ ρ' K (.mv a)) : Snd X loc σ w n ((execOp ρ o).run P w) K := by
  refine Snd.pure hr (v := ρ x) ?_ (hρ x a hx) h
  rcases ho with ho | ho <;> simp [execOp, ho]

theorem snd_pick {o : Oper} {c x y : Operand} {c' a b : Opd} (ho : o.op = .pick c x y) (hc : convOpd c = some c') (hx : convOpd x = some a) (hy : convOpd y = some b) (h : opF n σ ρ' K (.pick c' a b)) : Snd X loc σ w n ((execOp ρ o).run P w) K := by
  simp only [opF] at h
  split at h
  · rename_i t ht
    have hc' := hρ c c' hc
    rw [ht] at hc'
    simp only [Rl] at hc'
    refine Snd.pure hr (v := if t then ρ x else ρ y) ?_ (selAV_ok (hρ x a hx) (hρ y b hy)) h
    simp [execOp, ho, hc', asBool]
  · exact h.elim
theorem snd_bin {o : Oper} {op : BinOp} {t yt : TypeId} {x y : Operand} {a b : Opd} (ho : o.op = .binOp op t x y yt) (hx : convOpd x = some a) (hy : convOpd y = some b) (h : opF n σ ρ' K (.bin op a b)) : Snd X loc σ w n ((execOp ρ o).run P w) K := by
  simp only [opF] at h
  split at h
  · rename_i k m k' m' h1 h2
    have hx' := hρ x a hx
    have hy' := hρ y b hy
    rw [h1] at hx'
    rw [h2] at hy'
    simp only [Rl] at hx' hy'
    obtain ⟨av, v, hK, hrun, hv⟩ := run_binOp_int (P := P) (w := w) (envOf X loc σ w) op k k' m m' t x y _ h
    refine Snd.pure hr (v := v) ?_ hv hK
    simp only [execOp, ho, hx', hy', Sem.run_bind, hrun, Result.andThen_ok, Sem.run_pure]
  · exact h.elim
end
end Go.FH
