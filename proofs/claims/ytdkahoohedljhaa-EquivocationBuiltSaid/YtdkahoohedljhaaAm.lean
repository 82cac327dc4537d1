/-
  The abstract walk, part 4b: operations on maps do what their abstract forms say. It holds of any program.
-/
import Derived.Test.YtdkahoohedljhaaMa
import Derived.Maps.RangeRun
import Derived.MapKept
namespace Go.FH
set_option linter.unusedVariables false
set_option linter.unusedSimpArgs false
open Go Go.RowKit Go.MapKept
open Go.ChangeMaps (setBlock)

section
variable {X : Nat → Prop} {loc loc' : Nat → Option Loc} {σ σ' : St} {w w' : World} {n : Nat} {P : Program} {ρ : Operand → Value} {ρ' : Opd → AV} {K : AV → List Nat → Bool → St → Prop}

/-- An object turns, in its place: any world that differs in its block alone. -/
theorem Rel.turnW (hr : Rel X loc σ w) {id : Nat} {o o' : AObj} {L : Loc} (h1 : σ[id]? = some o) (h2 : o.live = true) (h2' : o'.live = true) (hL : loc id = some L) (hh : L.has = true) (hev : Ev (fun b => b = L.blk) w w')
    (ho : ∀ E : Env, EnvLe (envOf X loc σ w) E → E.loc = loc → E.w = w' → ObjR E L o') :
    Rel X loc (σ.set id o') w' ∧ (∀ b, liveB (σ.set id o') loc b → liveB σ loc b) ∧ Ev (liveB σ loc) w w' := by
  have hlive : liveB σ loc L.blk := ⟨id, o, L, h1, h2, hL, hh, rfl⟩
  have hold : ∀ b, liveB (σ.set id o') loc b → liveB σ loc b := by
    rintro b ⟨j, oj, Lj, g1, g2, g3, g4, rfl⟩
    rcases get_set σ id j o' g1 with ⟨rfl, _, _⟩ | ⟨_, g5⟩
    · rw [hL] at g3; cases g3; exact hlive
    · exact ⟨j, oj, Lj, g5, g2, g3, g4, rfl⟩
  have hev' : Ev (liveB σ loc) w w' := ⟨hev.size, fun b hb hn => hev.blk b hb fun e => hn (e ▸ hlive), hev.os, hev.tape, hev.output⟩
  have hle := envLe_of (X := X) hr (fun _ _ h => h) hev' fun b hb => .inl (hold b hb)
  refine ⟨hr.change (fun _ _ h => h) hev' (fun b hb => .inl (hold b hb)) (fun j hj => hr.beyond j (by simpa using hj)) ?_ ?_, hold, hev'⟩
  · intro j oj g1 g2
    rcases get_set σ id j o' g1 with ⟨rfl, rfl, _⟩ | ⟨g4, g5⟩
    · exact .inr ⟨L, hL, ho _ hle rfl rfl⟩
    · refine .inl ⟨g5, fun Lj g6 g7 => hev.blk _ (liveB.lt hr ⟨j, oj, Lj, g5, g2, g6, g7, rfl⟩) ?_⟩
      exact hr.apart j id oj o Lj L g4 g5 h1 g2 h2 g6 hL g7 hh
  · intro i j a b La Lb hij g1 g2 g3 g4 g5 g6 g7 g8
    have : ∀ (i : Nat) (a : AObj), (σ.set id o')[i]? = some a → a.live = true → ∃ a', σ[i]? = some a' ∧ a'.live = true := by
      intro i a g1 g3
      rcases get_set σ id i o' g1 with ⟨rfl, _, _⟩ | ⟨_, g5⟩
      · exact ⟨o, h1, h2⟩
      · exact ⟨a, g5, g3⟩
    obtain ⟨a', k1, k2⟩ := this i a g1 g3
    obtain ⟨b', k3, k4⟩ := this j b g2 g4
    exact hr.apart i j a' b' La Lb hij k1 k3 k2 k4 g5 g6 g7 g8
theorem Ev.setB {b : Nat} (w : World) (ob : Obj) : Ev (fun c => c = b) w (setBlock w b ob) := by
  refine ⟨by simp [setBlock], fun c hc hn => ?_, rfl, rfl, rfl⟩
  simp only [setBlock]
  rw [Array.getElem?_setIfInBounds_ne (fun e => hn e.symm)]
theorem get_setB {w : World} {b : Nat} (ob : Obj) (hb : b < w.heap.size) : (setBlock w b ob).heap[b]? = some ob := by
  simp [setBlock, hb]

theorem Rel.map (hr : Rel X loc σ w) {id : Nat} {es : List (List AV)} {L : Loc} (h : σ[id]? = some (.map es)) (hL : loc id = some L) :
    L.has = true ∧ ∃ ents : List MapEntry, w.heap[L.blk]? = some (.map ents.toArray es.length) ∧ RlM (envOf X loc σ w) es ents 0 := by
  obtain ⟨L', h1, h2⟩ := hr.obj id _ h rfl
  rw [hL] at h1; cases h1
  exact h2
theorem Rel.iter (hr : Rel X loc σ w) {id m N : Nat} {seen : List Nat} {L : Loc} (h : σ[id]? = some (.iter m N seen)) (hL : loc id = some L) :
    L.has = true ∧ L.base = 0 ∧ ∃ Lm, loc m = some Lm ∧ Lm.has = true ∧ w.heap[L.blk]? = some (.mapIter (some Lm.blk) N seen.toArray N) := by
  obtain ⟨L', h1, h2⟩ := hr.obj id _ h rfl
  rw [hL] at h1; cases h1
  exact h2

/-! ### Keys -/
theorem expandK_one (n k : Nat) : expandK [(n, k)] = List.replicate n k := by simp [expandK]
theorem keyK_int {kt : TypeId} (h : keyK P kt = some none) : ∃ ki, P.underlying kt = some (.int ki) := by
  unfold keyK at h
  split at h
  · rename_i ki hu; exact ⟨ki, hu⟩
  · exfalso; revert h; (repeat' split) <;> intro h <;> cases h
  · cases h
theorem keyK_arr {kt : TypeId} {m : Nat} (h : keyK P kt = some (some m)) : ∃ e ke, P.underlying kt = some (.array m e) ∧ P.underlying e = some (.int ke) ∧ leafs P 40 kt = some (List.replicate m 1) ∧ P.cellsOf e = 1 := by
  unfold keyK at h
  split at h
  · cases h
  · rename_i n e hu
    split at h
    · rename_i ke he
      split at h
      · rename_i hc
        simp only [Option.some.injEq] at h
        subst h
        exact ⟨e, ke, hu, he, hc.1, hc.2.1⟩
      · cases h
    · cases h
  · cases h
theorem kfit_int {E : Env} {k : AV} {v : Value} (h : kfit none k = true) (hv : Rl E k v) : ∃ ki a, k = .int ki a ∧ v = .int ki a := by
  cases k <;> simp only [kfit, Bool.false_eq_true] at h
  exact ⟨_, _, rfl, hv⟩
theorem kfit_arr {E : Env} {k : AV} {v : Value} {m : Nat} (h : kfit (some m) k = true) (hv : Rl E k v) : ∃ cs us, k = .agg cs ∧ v = .agg us.toArray ∧ RlC E cs us ∧ us.map vkind = List.replicate m 1 := by
  cases k <;> simp only [kfit, Bool.false_eq_true] at h
  rename_i cs
  obtain ⟨us, h1, h2⟩ := hv
  refine ⟨cs, us, rfl, h1, h2, ?_⟩
  have := kinds_of h2 h (by simp)
  rwa [expandK_one] at this
theorem run_key_eq {E : Env} {kt : TypeId} {kk : Option Nat} (hk : keyK P kt = some kk) {a b : AV} {u v : Value} (fa : kfit kk a = true) (fb : kfit kk b = true) (ha : Rl E a u) (hb : Rl E b v) {r : Bool} (h : keq a b = some r) (w : World) :
    (Op.equal kt u v).run P w = .ok r w := by
  cases kk with
  | none =>
    obtain ⟨ki, hu⟩ := keyK_int hk
    obtain ⟨k1, x, rfl, rfl⟩ := kfit_int fa ha
    obtain ⟨k2, y, rfl, rfl⟩ := kfit_int fb hb
    simp only [keq] at h
    split at h
    · rename_i e; subst e
      simp only [Option.some.injEq] at h
      subst h
      exact run_equalIn_int w 9999 kt k1 ki x y hu
    · cases h
  | some m =>
    obtain ⟨e, ke, hu, he, hl, hc⟩ := keyK_arr hk
    obtain ⟨cs, us, rfl, rfl, h1, h2⟩ := kfit_arr fa ha
    obtain ⟨ds, vs, rfl, rfl, h3, h4⟩ := kfit_arr fb hb
    simp only [keq] at h
    have := run_leaf_eq 40 hl h2 h4 (veqL_of h1 h3 h) 9960 w
    have hat : aggT P kt = true := by simp [aggT, hu]
    simp only [pk, hat, if_true] at this
    exact this
theorem run_key_check {E : Env} {kt : TypeId} {kk : Option Nat} (hk : keyK P kt = some kk) {a : AV} {u : Value} (fa : kfit kk a = true) (ha : Rl E a u) (em : Bool) (w : World) :
    (Instr.checkKey em 10000 kt u).run P w = .ok () w := by
  cases kk with
  | none =>
    obtain ⟨ki, hu⟩ := keyK_int hk
    obtain ⟨k1, x, rfl, rfl⟩ := kfit_int fa ha
    rw [show (10000 : Nat) = 9999 + 1 from rfl, Instr.checkKey]
    simp only [Sem.run_bind, run_underlying hu, Result.andThen_ok, Sem.run_pure]
  | some m =>
    obtain ⟨e, ke, hu, he, hl, hc⟩ := keyK_arr hk
    obtain ⟨cs, us, rfl, rfl, h1, h2⟩ := kfit_arr fa ha
    have hlen : us.length = m := by simpa using congrArg List.length h2
    obtain ⟨i, hi⟩ : ∃ i, P.info? e = some i := by
      unfold Program.underlying at he
      cases hi : P.info? e with
      | none => simp [hi] at he
      | some i => exact ⟨i, rfl⟩
    have hs : i.size = 1 := by simpa [Program.cellsOf, hi] using hc
    rw [show (10000 : Nat) = 9999 + 1 from rfl, Instr.checkKey]
    simp only [Sem.run_bind, run_underlying hu, Result.andThen_ok]
    simp only [Std.Legacy.Range.forIn_eq_forIn_range', Std.Legacy.Range.size, Nat.sub_zero, Nat.add_one_sub_one, Nat.div_one]
    have each : ∀ j ∈ List.range' 0 m, j < m := fun j hj => by simpa using hj
    generalize List.range' 0 m = is at each
    induction is with
    | nil => simp
    | cons j is ih =>
      have hj : j < us.length := by rw [hlen]; exact each j (by simp)
      have p1 : (part e us.toArray (j * P.cellsOf e)).run P w = .ok us[j] w := by
        have hag : (isAgg e).run P w = .ok false w := by
          unfold isAgg
          rw [Sem.run_bind, run_underlying he w]
          simp
        simp [part, Sem.run_bind, hag, hc, hj]
      have hkind : vkind us[j] = 1 := by
        have : (us.map vkind)[j]? = some 1 := by rw [h2]; simp [each j (by simp)]
        simpa [hj] using this
      have p2 : (Instr.checkKey em 9999 e us[j]).run P w = .ok () w := by
        generalize us[j] = x at hkind
        cases x <;> simp [vkind] at hkind
        rw [show (9999 : Nat) = 9998 + 1 from rfl, Instr.checkKey]
        simp only [Sem.run_bind, run_underlying he, Result.andThen_ok, Sem.run_pure]
      simp only [List.forIn_cons, Sem.run_bind, run_sizeOf w hi, Result.andThen_ok, p1, p2, Sem.run_pure]
      exact ih (fun y hy => each y (by simp [hy]))
/-- Where the model finds a key. -/
theorem run_key_find {E : Env} {kt : TypeId} {kk : Option Nat} (hk : keyK P kt = some kk) {a : AV} {u : Value} (fa : kfit kk a = true) (ha : Rl E a u) (w : World) : ∀ {xs : List (List AV)} {es : List MapEntry} {b : Nat} {r : Option Nat}, RlM E xs es b → midx kk a xs = some r →
    (∀ j, r = some j → j < xs.length ∧ ∃ k v, xs.getD j [] = [k, v] ∧ keq a k = some true ∧ kfit kk k = true) ∧ (Instr.findKey kt u es).run P w = .ok (r.map fun j => (j, (es.getD j default).val)) w := by
  have now : ∀ {xs : List (List AV)} {es : List MapEntry} {b : Nat} {r : Option Nat}, RlM E xs es b → midx kk a xs = some r → ∀ d, P.underlying kt = some d → ∀ i, Instr.findNow d u es i = none ∨ Instr.findNow d u es i = some (r.map fun j => (i + j, (es.getD j default).val)) := by
    intro xs
    induction xs with
    | nil =>
      intro es b r hm h d hd i
      simp only [RlM] at hm
      subst hm
      simp only [midx, Option.some.injEq] at h
      subst h
      exact .inr rfl
    | cons x xs ih =>
      intro es b r hm h d hd i
      obtain ⟨e, es', rfl, h1, h2, h3⟩ := hm
      simp only [midx] at h
      split at h
      · rename_i k v
        obtain ⟨u1, us1, q1, q2, q3⟩ := h1
        simp only [List.cons.injEq] at q1
        obtain ⟨rfl, _⟩ := q1
        split at h
        · rename_i hf
          have same : Instr.sameNow d u e.key = none ∨ ∃ q, Instr.sameNow d u e.key = some q ∧ keq a k = some q := by
            cases kk with
            | none =>
              obtain ⟨ki, hu⟩ := keyK_int hk
              obtain ⟨k1, x1, rfl, rfl⟩ := kfit_int fa ha
              obtain ⟨k2, y1, rfl, hv2⟩ := kfit_int hf q2
              rw [hu] at hd
              cases hd
              rw [hv2]
              simp only [Instr.sameNow, keq]
              split
              · exact .inr ⟨_, rfl, rfl⟩
              · exact .inl rfl
            | some m =>
              obtain ⟨e', ke, hu, _⟩ := keyK_arr hk
              rw [hu] at hd
              cases hd
              exact .inl rfl
          rcases same with hs | ⟨q, hs, hq⟩
          · left; simp [Instr.findNow, hs]
          · rw [hq] at h
            cases q
            · simp only at h
              obtain ⟨r', hr', rfl⟩ := Option.map_eq_some_iff.1 h
              rcases ih h3 hr' d hd (i + 1) with h5 | h5
              · left; simp [Instr.findNow, hs, h5]
              · right
                simp only [Instr.findNow, hs, h5, Option.map_map]
                cases r' <;> simp [Nat.add_assoc, Nat.add_comm 1]
            · simp only [Option.some.injEq] at h
              subst h
              right
              simp [Instr.findNow, hs]
        · cases h
      · cases h
  have ask : ∀ {xs : List (List AV)} {es : List MapEntry} {b : Nat} {r : Option Nat}, RlM E xs es b → midx kk a xs = some r → ∀ i, (Instr.findAsking kt u es i).run P w = .ok (r.map fun j => (i + j, (es.getD j default).val)) w := by
    intro xs
    induction xs with
    | nil =>
      intro es b r hm h i
      simp only [RlM] at hm
      subst hm
      simp only [midx, Option.some.injEq] at h
      subst h
      simp [Instr.findAsking]
    | cons x xs ih =>
      intro es b r hm h i
      obtain ⟨e, es', rfl, h1, h2, h3⟩ := hm
      simp only [midx] at h
      split at h
      · rename_i k v
        obtain ⟨u1, us1, q1, q2, q3⟩ := h1
        simp only [List.cons.injEq] at q1
        obtain ⟨rfl, _⟩ := q1
        split at h
        · rename_i hf
          split at h
          · rename_i hq
            simp only [Option.some.injEq] at h
            subst h
            simp [Instr.findAsking, Sem.run_bind, run_key_eq hk fa hf ha q2 hq w]
          · rename_i hq
            obtain ⟨r', hr', rfl⟩ := Option.map_eq_some_iff.1 h
            have := ih h3 hr' (i + 1)
            simp only [Instr.findAsking, Sem.run_bind, run_key_eq hk fa hf ha q2 hq w, Result.andThen_ok, Bool.false_eq_true, if_false, this]
            cases r' <;> simp [Nat.add_assoc, Nat.add_comm 1]
          · cases h
        · cases h
      · cases h
  intro xs es b r hm h
  refine ⟨fun j hj => ?_, ?_⟩
  · subst hj
    clear now ask hm
    induction xs generalizing j with
    | nil => simp [midx] at h
    | cons x xs ih =>
      simp only [midx] at h
      split at h
      · rename_i k v
        split at h
        · rename_i hf
          split at h
          · rename_i hq
            simp only [Option.some.injEq] at h
            subst h
            exact ⟨by simp, k, v, rfl, hq, hf⟩
          · obtain ⟨r', hr', hr2⟩ := Option.map_eq_some_iff.1 h
            cases r' with
            | none => cases hr2
            | some j' =>
              simp only [Option.map_some, Option.some.injEq] at hr2
              subst hr2
              obtain ⟨g1, g2⟩ := ih j' hr'
              exact ⟨by simp; omega, by simpa using g2⟩
          · cases h
        · cases h
      · cases h
  · have hd : ∃ d, P.underlying kt = some d := by
      cases kk with
      | none => exact ⟨_, (keyK_int hk).choose_spec⟩
      | some m => exact ⟨_, (keyK_arr hk).choose_spec.choose_spec.1⟩
    obtain ⟨d, hd⟩ := hd
    unfold Instr.findKey
    rw [Sem.run_bind, run_underlying hd, Result.andThen_ok]
    rcases now hm h d hd 0 with h5 | h5
    · simp only [h5]
      have := ask hm h 0
      simpa using this
    · simp only [h5]
      simp
theorem veq_same : ∀ {us vs : List Value}, us.map vkind = List.replicate us.length 1 → vs.map vkind = List.replicate vs.length 1 → veqL us vs = some true → us = vs
  | [], [], _, _, _ => rfl
  | [], _ :: _, _, _, h => by simp [veqL] at h
  | _ :: _, [], _, _, h => by simp [veqL] at h
  | u :: us, v :: vs, h1, h2, h => by
    simp only [List.map_cons, List.length_cons, List.replicate_succ, List.cons.injEq] at h1 h2
    simp only [veqL] at h
    split at h
    · rename_i p q e1 e2
      simp only [Option.some.injEq, Bool.and_eq_true] at h
      obtain ⟨rfl, rfl⟩ := h
      have := veq_same h1.2 h2.2 e2
      subst this
      obtain ⟨g1, _⟩ := h1
      obtain ⟨g2, _⟩ := h2
      cases u <;> simp [vkind] at g1
      cases v <;> simp [vkind] at g2
      simp only [veq1] at e1
      split at e1
      · rename_i e; subst e
        simp only [Option.some.injEq, beq_iff_eq] at e1
        rw [e1]
      · cases e1
    · cases h
theorem key_same {E : Env} {kk : Option Nat} {a b : AV} {u v : Value} (fa : kfit kk a = true) (fb : kfit kk b = true) (ha : Rl E a u) (hb : Rl E b v) (h : keq a b = some true) : u = v ∧ Instr.sameBits 10000 v u = true := by
  cases kk with
  | none =>
    obtain ⟨k1, x, rfl, rfl⟩ := kfit_int fa ha
    obtain ⟨k2, y, rfl, rfl⟩ := kfit_int fb hb
    simp only [keq] at h
    split at h
    · rename_i e; subst e
      simp only [Option.some.injEq, beq_iff_eq] at h
      subst h
      exact ⟨rfl, by simp [Instr.sameBits]⟩
    · cases h
  | some m =>
    obtain ⟨cs, us, rfl, rfl, h1, h2⟩ := kfit_arr fa ha
    obtain ⟨ds, vs, rfl, rfl, h3, h4⟩ := kfit_arr fb hb
    simp only [keq] at h
    have e1 : us.length = m := by simpa using congrArg List.length h2
    have e2 : vs.length = m := by simpa using congrArg List.length h4
    have := veq_same (by rw [h2, e1]) (by rw [h4, e2]) (veqL_of h1 h3 h)
    subst this
    refine ⟨rfl, ?_⟩
    rw [show (10000 : Nat) = 9999 + 1 from rfl, Instr.sameBits]
    simp only [List.size_toArray, beq_self_eq_true, Bool.true_and]
    have key : ∀ (us : List Value) (q : Nat), us.map vkind = List.replicate us.length 1 → ((us.zip us).all fun (x, y) => Instr.sameBits q x y) = true := by
      intro us q
      induction us with
      | nil => intro _; rfl
      | cons u us ih =>
        intro h
        simp only [List.map_cons, List.length_cons, List.replicate_succ, List.cons.injEq] at h
        obtain ⟨g1, g2⟩ := h
        simp only [List.zip_cons_cons, List.all_cons, Bool.and_eq_true]
        refine ⟨?_, ih g2⟩
        cases u <;> simp [vkind] at g1
        simp [Instr.sameBits]
    exact key us _ (by rw [h2, e1])
theorem RlM.get {E : Env} : ∀ {xs : List (List AV)} {es : List MapEntry} {b : Nat}, RlM E xs es b → ∀ j, j < xs.length → RlS E (xs.getD j []) [(es.getD j default).key, (es.getD j default).val] ∧ (es.getD j default).born = b + j
  | [], _, _, _, j, hj => by simp at hj
  | x :: xs, _, b, ⟨e, r, rfl, h2, h3, h4⟩, 0, _ => ⟨by simpa using h2, by simpa using h3⟩
  | x :: xs, _, b, ⟨e, r, rfl, h2, h3, h4⟩, j + 1, hj => by
    obtain ⟨g1, g2⟩ := RlM.get h4 j (by simpa using hj)
    exact ⟨by simpa using g1, by simp only [List.getD_cons_succ]; omega⟩
theorem RlM.set {E : Env} {y : List AV} : ∀ {xs : List (List AV)} {es : List MapEntry} {b : Nat}, RlM E xs es b → ∀ j (e : MapEntry), RlS E y [e.key, e.val] → e.born = b + j → RlM E (xs.set j y) (es.set j e) b
  | [], _, _, h, j, e, _, _ => by simp only [RlM] at h; subst h; simp [RlM]
  | x :: xs, _, b, ⟨e, r, rfl, h2, h3, h4⟩, 0, e', g1, g2 => ⟨e', r, rfl, g1, by simpa using g2, h4⟩
  | x :: xs, _, b, ⟨e, r, rfl, h2, h3, h4⟩, j + 1, e', g1, g2 => ⟨e, r.set j e', rfl, h2, h3, RlM.set h4 j e' g1 (by omega)⟩
theorem RlM.push {E : Env} {y : List AV} : ∀ {xs : List (List AV)} {es : List MapEntry} {b : Nat}, RlM E xs es b → ∀ (e : MapEntry), RlS E y [e.key, e.val] → e.born = b + xs.length → RlM E (xs ++ [y]) (es ++ [e]) b
  | [], _, _, h, e, g1, g2 => by simp only [RlM] at h; subst h; exact ⟨e, [], rfl, g1, by simpa using g2, rfl⟩
  | x :: xs, _, b, ⟨e, r, rfl, h2, h3, h4⟩, e', g1, g2 => ⟨e, r ++ [e'], rfl, h2, h3, RlM.push h4 e' g1 (by simp only [List.length_cons] at g2; omega)⟩
theorem RlM.borns {E : Env} : ∀ {xs : List (List AV)} {es : List MapEntry} {b : Nat}, RlM E xs es b → es.map (·.born) = List.range' b xs.length
  | [], _, _, h => by simp only [RlM] at h; subst h; rfl
  | x :: xs, _, b, ⟨e, r, rfl, h2, h3, h4⟩ => by simp [h3, RlM.borns h4, List.range'_succ]
theorem RlS.two {E : Env} {x : List AV} {k v : AV} {a b : Value} (h : RlS E x [a, b]) (hx : x = [k, v]) : Rl E k a ∧ Rl E v b := by
  subst hx
  obtain ⟨u, us, h1, h2, h3⟩ := h
  obtain ⟨u', us', h4, h5, h6⟩ := h3
  simp only [List.cons.injEq] at h1
  obtain ⟨rfl, rfl⟩ := h1
  simp only [List.cons.injEq] at h4
  obtain ⟨rfl, rfl⟩ := h4
  exact ⟨h2, h5⟩
theorem RlS.mk2 {E : Env} {k v : AV} {a b : Value} (h1 : Rl E k a) (h2 : Rl E v b) : RlS E [k, v] [a, b] := ⟨a, [b], rfl, h1, b, [], rfl, h2, rfl⟩
theorem zeroV_run {t : TypeId} {z : AV} (h : zeroV P t = some z) (E : Env) (w : World) : ∃ v, (zeroValue t).run P w = .ok v w ∧ Rl E z v := by
  unfold zeroV at h
  split at h
  · rename_i i hi
    split at h
    · rename_i v hv
      exact ⟨v, by simp [zeroValue, typeInfo, Sem.run_bind, hi, hv], (Rl.ofCell E h).2⟩
    · cases h
  · cases h

variable (hr : Rel X loc σ w) (hρ : OpdOk (envOf X loc σ w) ρ ρ')
include hr hρ

theorem snd_lkp {o : Oper} {t kt et : TypeId} {m k : Operand} {ok : Bool} {a b : Opd} {kk : Option Nat} {z : AV} (ho : o.op = .lookup t m k ok) (ht : P.underlying t = some (.map kt et)) (hm : convOpd m = some a) (hk : convOpd k = some b) (hkk : keyK P kt = some kk) (hz : zeroV P et = some z)
    (h : opF n σ ρ' K (.mop (.lkp kk z ok) [a, b])) : Snd X loc σ w n ((execOp ρ o).run P w) K := by
  simp only [opF, List.map_cons, List.map_nil] at h
  have hm' := hρ m a hm
  have hk' := hρ k b hk
  generalize ρ' a = A at *
  generalize ρ' b = B at *
  cases A <;> simp only [mopF] at h
  rename_i id
  obtain ⟨fit, h⟩ := h
  obtain ⟨L, hL, hh, hv⟩ := hm'
  split at h
  · rename_i es hσ
    obtain ⟨_, ents, hb, hR⟩ := hr.map hσ hL
    have chk := run_key_check hkk fit hk' ents.isEmpty w
    split at h
    · rename_i j hj
      obtain ⟨g1, g2⟩ := run_key_find hkk fit hk' w hR hj
      obtain ⟨hlt, k2, v2, e2, e3, e4⟩ := g1 j rfl
      have hget := (hR.get j hlt).1
      obtain ⟨q1, q2⟩ := hget.two e2
      have hval : (es.getD j []).getD 1 .dead = v2 := by rw [e2]; rfl
      rw [hval] at h
      cases ok
      · refine Snd.of hr h (v := (ents.getD j default).val) ?_ q2
        simp [execOp, ho, hv, Instr.lookup, Sem.run_bind, run_underlying ht, MapKept.run_getObj_map hb, chk, g2]
      · refine Snd.of hr h (v := .tuple #[(ents.getD j default).val, .bool true]) ?_ ⟨_, rfl, RlS.mk2 q2 rfl⟩
        simp [execOp, ho, hv, Instr.lookup, Sem.run_bind, run_underlying ht, MapKept.run_getObj_map hb, chk, g2]
    · rename_i hj
      obtain ⟨_, g2⟩ := run_key_find hkk fit hk' w hR hj
      obtain ⟨zv, hz1, hz2⟩ := zeroV_run hz (envOf X loc σ w) w
      cases ok
      · refine Snd.of hr h (v := zv) ?_ hz2
        simp [execOp, ho, hv, Instr.lookup, Sem.run_bind, run_underlying ht, MapKept.run_getObj_map hb, chk, g2, hz1]
      · refine Snd.of hr h (v := .tuple #[zv, .bool false]) ?_ ⟨_, rfl, RlS.mk2 hz2 rfl⟩
        simp [execOp, ho, hv, Instr.lookup, Sem.run_bind, run_underlying ht, MapKept.run_getObj_map hb, chk, g2, hz1]
    · exact h.elim
  · exact h.elim
theorem snd_upd {o : Oper} {t kt et : TypeId} {m k x : Operand} {a b c : Opd} {kk : Option Nat} (ho : o.op = .mapUpdate t m k x) (ht : P.underlying t = some (.map kt et)) (hm : convOpd m = some a) (hk : convOpd k = some b) (hx : convOpd x = some c) (hkk : keyK P kt = some kk)
    (h : opF n σ ρ' K (.mop (.upd kk) [a, b, c])) : Snd X loc σ w n ((execOp ρ o).run P w) K := by
  simp only [opF, List.map_cons, List.map_nil] at h
  have hm' := hρ m a hm
  have hk' := hρ k b hk
  have hx' := hρ x c hx
  generalize ρ' a = A at *
  generalize ρ' b = B at *
  generalize ρ' c = C at *
  cases A <;> simp only [mopF] at h
  rename_i id
  obtain ⟨fit, h⟩ := h
  obtain ⟨L, hL, hh, hv⟩ := hm'
  split at h
  · rename_i es hσ
    obtain ⟨_, ents, hb, hR⟩ := hr.map hσ hL
    have chk := run_key_check hkk fit hk' false w
    have hlt : L.blk < w.heap.size := (Array.getElem?_eq_some_iff.1 hb).1
    have fin : ∀ (es' : List (List AV)) (ents' : List MapEntry) (cl : Nat), cl = es'.length → RlM (envOf X loc σ w) es' ents' 0 → K (.tup []) [id] true (σ.set id (.map es')) → (execOp ρ o).run P w = .ok .skip (setBlock w L.blk (.map ents'.toArray cl)) → Snd X loc σ w n ((execOp ρ o).run P w) K := by
      intro es' ents' cl hcl h1 h2 h3
      obtain ⟨g1, g2, g3⟩ := hr.turnW hσ rfl (o' := .map es') rfl hL hh (Ev.setB (b := L.blk) w (.map ents'.toArray cl)) (fun E hE hloc hw => ⟨hh, ents', by rw [hw, get_setB _ hlt, hcl], h1.mono hE⟩)
      exact ⟨_, _, _, _, undef, _, loc, h2, .inr ⟨h3, rfl⟩, ⟨fun _ _ h => h, g1, ⟨[], rfl, rfl⟩, g3, fun b hb => .inl (g2 b hb)⟩, fun _ _ => rfl, by simp⟩
    split at h
    · rename_i j hj
      obtain ⟨g1, g2⟩ := run_key_find hkk fit hk' w hR hj
      obtain ⟨hlt2, k2, v2, e2, e3, e4⟩ := g1 j rfl
      obtain ⟨hget, hborn⟩ := hR.get j hlt2
      obtain ⟨q1, q2⟩ := hget.two e2
      obtain ⟨q3, q4⟩ := key_same fit e4 hk' q1 e3
      have hle := hR.length
      have hje : j < ents.length := by omega
      have hgd : ents.getD j default = ents[j] := by simp [List.getD_eq_getElem?_getD, hje]
      refine fin _ (ents.set j { ents[j] with key := ρ k, val := ρ x }) es.length (by simp) (hR.set j _ (RlS.mk2 hk' hx') (by rw [← hgd]; exact hborn)) h ?_
      have hmod : (ents.modify j fun e => { key := ρ k, val := ρ x, born := e.born }) = ents.set j { key := ρ k, val := ρ x, born := ents[j].born } := by
        apply List.ext_getElem?
        intro q
        simp only [List.getElem?_modify, List.getElem?_set]
        by_cases hq : j = q
        · subst hq; simp [hje]
        · simp [hq]
      rw [hgd] at q3 q4
      have stay : (Instr.keyThatStays ((Option.map (fun x => x.key) ents[j]?).getD (ρ k)) (ρ k)).run P w = .ok (ρ k) w := by
        have e1 : ents[j]? = some ents[j] := by simp [hje]
        rw [e1]
        simp [Instr.keyThatStays, q4]
      simp [execOp, ho, hv, Instr.mapUpdate, Sem.run_bind, run_underlying ht, MapKept.run_getObj_map hb, chk, g2, stay, hmod, MapKept.run_setObj_map _ hb, setBlock]
    · rename_i hj
      obtain ⟨_, g2⟩ := run_key_find hkk fit hk' w hR hj
      have hle := hR.length
      refine fin _ (ents ++ [{ key := ρ k, val := ρ x, born := es.length }]) (es.length + 1) (by simp) (hR.push _ (RlS.mk2 hk' hx') (by simp)) h ?_
      simp [execOp, ho, hv, Instr.mapUpdate, Sem.run_bind, run_underlying ht, MapKept.run_getObj_map hb, chk, g2, MapKept.run_setObj_map _ hb, setBlock]
    · exact h.elim
  · exact h.elim
theorem snd_ent {o : Oper} {x : Operand} {a : Opd} (ho : o.op = .entry x) (hx : convOpd x = some a) (h : opF n σ ρ' K (.mop .ent [a])) : Snd X loc σ w n ((execOp ρ o).run P w) K := by
  simp only [opF, List.map_cons, List.map_nil] at h
  have hx' := hρ x a hx
  generalize ρ' a = A at *
  cases A <;> simp only [mopF] at h
  rename_i id off
  cases off <;> simp only [mopF] at h
  obtain ⟨L, hL, hh, hv⟩ := hx'
  split at h
  · rename_i m N seen hσ
    obtain ⟨_, hbase, Lm, hLm, hhm, hb⟩ := hr.iter hσ hL
    split at h
    · rename_i i es hlast hσm
      obtain ⟨hlen, hi, h⟩ := h
      obtain ⟨_, ents, hbm, hR⟩ := hr.map hσm hLm
      have hle := hR.length
      have hie : i < ents.length := by omega
      obtain ⟨hget, hborn⟩ := hR.get i (by omega)
      have hgd : ents.getD i default = ents[i] := by simp [List.getD_eq_getElem?_getD, hie]
      rw [hgd] at hget hborn
      refine Snd.of hr h (v := .tuple #[ents[i].key, ents[i].val]) ?_ ⟨_, rfl, hget⟩
      rw [hbase] at hv
      have hseen : seen.toArray = seen.dropLast.toArray.push ents[i].born := by
        have h1 : seen = seen.dropLast ++ [i] := by
          obtain ⟨r, rfl⟩ := List.getLast?_eq_some_iff.1 hlast
          simp
        rw [hborn]
        apply Array.toList_inj.1
        simp only [Array.toList_push, Nat.zero_add]
        exact h1
      rw [hseen] at hb
      have hst : N = es.length := hlen.symm
      subst hst
      have := run_entry_at (P := P) w L.blk Lm.blk es.length seen.dropLast.toArray ents.toArray es.length ents[i] hb hbm (by simp) (by simp [hR.borns, List.nodup_range'])
      simp [execOp, ho, hv, Sem.run_bind, this]
    · exact h.elim
  · exact h.elim
end
section
variable {X : Nat → Prop} {loc loc' : Nat → Option Loc} {σ σ' : St} {w w' : World} {n : Nat} {P : Program} {ρ : Operand → Value} {ρ' : Opd → AV} {K : AV → List Nat → Bool → St → Prop}
variable (hr : Rel X loc σ w) (hρ : OpdOk (envOf X loc σ w) ρ ρ') (hn : n < σ.length) (hg : loc n = none) (hgn : ∀ o : AObj, σ[n]? = some o → o.live = false)
include hr hρ hn hg
theorem snd_mkm {o : Oper} {t : TypeId} (ho : o.op = .makeMap t none) (h : opF n σ ρ' K (.mop .mkm [])) : Snd X loc σ w n ((execOp ρ o).run P w) K := by
  have _ := hρ
  simp only [opF, List.map_nil, mopF] at h
  refine Snd.alloc hr hn hg (.map []) ⟨true, w.heap.size, 0, 0⟩ rfl rfl (.map #[] 0) (v := .map (some w.heap.size)) h (fun E hE hw => ⟨rfl, [], ?_, rfl⟩) ?_ (fun E hE => ⟨_, hE, rfl, rfl⟩)
  · rw [hw, _root_.Go.heap_alloc_new]; rfl
  · simp [execOp, ho, Instr.makeMap, newObj, Sem.run]
include hgn
theorem snd_rng {o : Oper} {t kt et : TypeId} {m : Operand} {a : Opd} (ho : o.op = .range t m) (ht : P.underlying t = some (.map kt et)) (hm : convOpd m = some a) (h : opF n σ ρ' K (.mop .rng [a])) : Snd X loc σ w n ((execOp ρ o).run P w) K := by
  simp only [opF, List.map_cons, List.map_nil] at h
  have hm' := hρ m a hm
  generalize ρ' a = A at *
  cases A <;> simp only [mopF] at h
  rename_i id
  obtain ⟨L, hL, hh, hv⟩ := hm'
  split at h
  · rename_i es hσ
    obtain ⟨_, ents, hb, hR⟩ := hr.map hσ hL
    have hne : id ≠ n := by rintro rfl; have : loc id = some L := hL; rw [hg] at this; cases this
    refine Snd.alloc hr hn hg (.iter id es.length []) ⟨true, w.heap.size, 0, 0⟩ rfl rfl (.mapIter (some L.blk) es.length #[] es.length) (v := .pointer (some ⟨w.heap.size, 0, none⟩)) h (fun E hE hw => ⟨rfl, rfl, L, hE.loc _ _ hL, hh, ?_⟩) ?_ (fun E hE => ⟨_, hE, rfl, rfl⟩)
    · rw [hw, _root_.Go.heap_alloc_new]
    · simp [execOp, ho, hv, Instr.range, Sem.run_bind, run_underlying ht, MapKept.run_getObj_map hb, newObj, Sem.run]
  · exact h.elim
end
section
variable {X : Nat → Prop} {loc loc' : Nat → Option Loc} {σ σ' : St} {w w' : World} {n : Nat} {P : Program} {ρ : Operand → Value} {ρ' : Opd → AV}
theorem snd_nxt {K : AV → St → Prop} (hr : Rel X loc σ w) (hρ : OpdOk (envOf X loc σ w) ρ ρ') {o : Oper} {x : Operand} {a : Opd} (ho : o.op = .next x false) (hx : convOpd x = some a) (h : nxtStep (ρ' a) σ K) : Snd X loc σ w n ((execOp ρ o).run P w) (fun av _ _ σ' => K av σ') := by
  have hx' := hρ x a hx
  generalize ρ' a = A at *
  cases A <;> simp only [nxtStep] at h
  rename_i id off
  cases off <;> simp only at h
  obtain ⟨L, hL, hh, hv⟩ := hx'
  split at h
  · rename_i m N seen hσ
    obtain ⟨_, hbase, Lm, hLm, hhm, hb⟩ := hr.iter hσ hL
    split at h
    · rename_i es hσm
      obtain ⟨hne, hlen, h1, h2⟩ := h
      obtain ⟨_, ents, hbm, hR⟩ := hr.map hσm hLm
      have hle := hR.length
      have hlt : L.blk < w.heap.size := (Array.getElem?_eq_some_iff.1 hb).1
      rw [hbase] at hv
      have born : ∀ e ∈ ents, ∃ i, i < ents.length ∧ ents[i]? = some e ∧ e.born = i := by
        intro e he
        obtain ⟨i, hi, rfl⟩ := List.getElem_of_mem he
        have := (hR.get i (by omega)).2
        rw [show ents.getD i default = ents[i] by simp [List.getD_eq_getElem?_getD, hi]] at this
        exact ⟨i, hi, by simp [hi], by omega⟩
      rcases run_next_at (P := P) w o.type L.blk Lm.blk N N seen.toArray ents.toArray es.length hb hbm (fun e he => by obtain ⟨i, hi, _, hbi⟩ := born e (by simpa using he); omega) (Nat.le_refl _) with ⟨g1, g2⟩ | ⟨e, he, w1, hw1, g2⟩
      · refine Snd.of (ft := []) (wr := false) hr (h2 fun i hi => ?_) (v := .tuple #[.bool false]) ?_ ⟨_, rfl, _, _, rfl, rfl, rfl⟩
        · have hie : i < ents.length := by omega
          have hbi := (hR.get i (by omega)).2
          rw [show ents.getD i default = ents[i] by simp [List.getD_eq_getElem?_getD, hie]] at hbi
          by_cases hs : i ∈ seen
          · exact hs
          · exfalso
            have : ents[i] ∈ leftOf ents.toArray seen.toArray := by
              unfold leftOf
              rw [Array.mem_filter]
              refine ⟨by simp, ?_⟩
              rw [hbi]
              simpa using hs
            have := Array.size_pos_of_mem this
            omega
        · simp [execOp, ho, hv, Sem.run_bind, g2]
      · have hmem : e ∈ ents ∧ e.born ∉ seen := by
          have := Array.mem_toList_iff.1 he
          unfold leftOf at this
          rw [Array.mem_filter] at this
          exact ⟨by simpa using this.1, by simpa using this.2⟩
        obtain ⟨i, hi, hei, hbi⟩ := born e hmem.1
        have hk := h1 i (by omega) (by rw [← hbi]; exact hmem.2)
        have hev : Ev (fun b => b = L.blk) w (setBlock w1 L.blk (.mapIter (some Lm.blk) N (seen.toArray.push e.born) es.length)) := by
          have := Ev.setB (b := L.blk) w1 (.mapIter (some Lm.blk) N (seen.toArray.push e.born) es.length)
          rcases hw1 with rfl | rfl
          · exact this
          · exact ⟨this.size, this.blk, this.os, this.tape, this.output⟩
        have hlt1 : L.blk < w1.heap.size := by rcases hw1 with rfl | rfl <;> exact hlt
        obtain ⟨k1, k2, k3⟩ := hr.turnW hσ rfl (o' := .iter m N (seen ++ [i])) rfl hL hh hev (fun E hE hloc hw => ⟨hh, hbase, Lm, hE.loc _ _ hLm, hhm, by rw [hw, get_setB _ hlt1, hlen, hbi]; simp⟩)
        refine ⟨_, [], false, _, .tuple #[.bool true, e.key, e.val], _, loc, hk, .inl ?_, ⟨fun _ _ h => h, k1, ⟨_, rfl, _, _, rfl, rfl, ?_⟩, k3, fun b hb => .inl (k2 b hb)⟩, fun _ _ => rfl, by simp⟩
        · simp [execOp, ho, hv, Sem.run_bind, g2]
        · have hget := (hR.get i (by omega)).1
          rw [show ents.getD i default = e by simp [List.getD_eq_getElem?_getD, hei]] at hget
          exact RlS.mono (envLe_of hr (fun _ _ h => h) k3 fun b hb => .inl (k2 b hb)) _ _ hget
    · exact h.elim
  · exact h.elim
end
end Go.FH
