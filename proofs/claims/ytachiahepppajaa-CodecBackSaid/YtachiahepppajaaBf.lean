/-
  The abstract walk, part 15: what may be forgotten; functions. It holds of any program.
-/
import Derived.Test.YtachiahepppajaaBe
namespace Go.FH
set_option linter.unusedVariables false
set_option linter.unusedSimpArgs false
open Go Go.RowKit

mutual
/-- The slices over the objects zs are slices that nobody writes any more. -/
def fz (σ : St) (zs : List Nat) : AV → AV
  | .dead => .dead
  | .bool b => .bool b
  | .int k n => .int k n
  | .str s => .str s
  | .agg cs => .agg (fzL σ zs cs)
  | .sl e cl xs => .sl e cl (fzLL σ zs xs)
  | .tup us => .tup (fzL σ zs us)
  | .ptr id off => .ptr id off
  | .nilp => .nilp
  | .hs e id off len => if zs.contains id then match σ[id]? with
    | some (.vec e' xs) => if e' = e ∧ off + len ≤ xs.length then .sl e false ((xs.drop off).take len) else .hs e id off len
    | _ => .hs e id off len else .hs e id off len
  | .va e id off len => .va e id off len
  | .elt e xs i off => .elt e (fzLL σ zs xs) i off
  | .vp e id i off => .vp e id i off
  | .fn f caps => .fn f (fzL σ zs caps)
  | .nilf => .nilf
def fzL (σ : St) (zs : List Nat) : List AV → List AV
  | [] => []
  | c :: cs => fz σ zs c :: fzL σ zs cs
def fzLL (σ : St) (zs : List Nat) : List (List AV) → List (List AV)
  | [] => []
  | x :: xs => fzL σ zs x :: fzLL σ zs xs
end
@[simp] theorem length_fzL (σ : St) (zs : List Nat) : ∀ cs, (fzL σ zs cs).length = cs.length
  | [] => rfl
  | c :: cs => by simp [fzL, length_fzL σ zs cs]
@[simp] theorem length_fzLL (σ : St) (zs : List Nat) : ∀ cs, (fzLL σ zs cs).length = cs.length
  | [] => rfl
  | c :: cs => by simp [fzLL, length_fzLL σ zs cs]
def fzO (σ : St) (zs : List Nat) : AObj → AObj
  | .gone => .gone
  | .var cs => .var (fzL σ zs cs)
  | .vec e xs => .vec e (fzLL σ zs xs)
theorem live_fzO (σ : St) (zs : List Nat) (o : AObj) : (fzO σ zs o).live = o.live := by cases o <;> rfl
theorem cell_fz (σ : St) (zs : List Nat) (c : AV) : (fz σ zs c).cell = c.cell := by
  cases c
  case hs e id off len =>
    show (fz σ zs (.hs e id off len)).cell = true
    simp only [fz]
    (repeat' split) <;> rfl
  all_goals rfl

section
variable {X : Nat → Prop} {loc : Nat → Option Loc} {σ : St} {w : World} {zs : List Nat} {F' : Nat → Prop}

theorem fz_hs (hr : Rel X loc σ w) (hF1 : ∀ b, F' b → forb X σ loc b) (hF2 : ∀ (id : Nat) (o : AObj) (L : Loc), id ∈ zs → σ[id]? = some o → o.live = true → loc id = some L → L.has = true → ¬ F' L.blk)
    {e id off len : Nat} {v : Value} (h : Rl (envOf X loc σ w) (.hs e id off len) v) : Rl ⟨loc, F', w⟩ (fz σ zs (.hs e id off len)) v := by
  simp only [fz]
  split
  · rename_i hz
    have hz' : id ∈ zs := by simpa using hz
    split
    · rename_i e' xs hσ
      split
      · rename_i hc
        obtain ⟨rfl, hle⟩ := hc
        obtain ⟨a, cap, L, rfl, h2, h3, h4, h5, h6⟩ := h
        refine ⟨a, len, cap, rfl, by simp; omega, h2, h3, by simp, h4, ?_⟩
        by_cases h0 : len = 0
        · exact .inl h0
        · rcases h6 with h6 | ⟨h6, rfl, h7⟩
          · omega
          · rcases hr.vec hσ h5 with ⟨h8, _⟩ | ⟨_, cs, vs, ws, t, h9, h10, h11, h12⟩
            · rw [h6] at h8; cases h8
            · have hvl := h12.length
              have hq : off * e' + len * e' ≤ vs.length := by rw [hvl, ← Nat.add_mul]; exact Nat.mul_le_mul_right _ hle
              have g0 := range_sub (range_of_list h9) (off * e') (len * e') hq
              rw [h10] at g0
              have hle2 : EnvLe (envOf X loc σ w) ⟨loc, F', w⟩ := ⟨fun _ _ h => h, Nat.le_refl _, fun b _ hb => ⟨fun h => hb (hF1 b h), rfl⟩⟩
              exact .inr ⟨L.blk, L.base + off * e', _, rfl, liveB.lt hr ⟨id, _, L, hσ, rfl, h5, h6, rfl⟩, hF2 id _ L hz' hσ rfl h5 h6, g0, RlE.mono hle2 _ _ _ ((h12.drop off).take len)⟩
      · exact h
    · exact h
  · exact h

mutual
theorem Rl_fz (hr : Rel X loc σ w) (hF1 : ∀ b, F' b → forb X σ loc b) (hF2 : ∀ (id : Nat) (o : AObj) (L : Loc), id ∈ zs → σ[id]? = some o → o.live = true → loc id = some L → L.has = true → ¬ F' L.blk) :
    ∀ (av : AV) (v : Value), Rl (envOf X loc σ w) av v → Rl ⟨loc, F', w⟩ (fz σ zs av) v
  | .dead, v, _ => trivial
  | .bool b, v, h => h
  | .int k n, v, h => h
  | .str s, v, h => h
  | .agg cs, v, h => by
    obtain ⟨vs, h1, h2⟩ := h
    exact ⟨vs, h1, RlC_fz hr hF1 hF2 cs vs h2⟩
  | .sl e cl xs, v, h => by
    obtain ⟨a, n, cap, h1, h2, h3, h4, h5, h6, h7⟩ := h
    refine ⟨a, n, cap, h1, by simpa using h2, h3, h4, h5, h6, h7.imp id ?_⟩
    rintro ⟨b, off, vs, g1, g2, g3, g4, g5⟩
    exact ⟨b, off, vs, g1, g2, fun h => g3 (hF1 b h), g4, RlE_fz hr hF1 hF2 e xs vs g5⟩
  | .tup us, v, h => by
    obtain ⟨vs, h1, h2⟩ := h
    exact ⟨vs, h1, RlS_fz hr hF1 hF2 us vs h2⟩
  | .ptr id off, v, h => h
  | .nilp, v, h => h
  | .hs e id off len, v, h => fz_hs hr hF1 hF2 h
  | .va e id off len, v, h => h
  | .elt e xs i off, v, h => by
    obtain ⟨b, o, vs, g1, g2, g3, g4, g5⟩ := h
    exact ⟨b, o, vs, g1, g2, fun h => g3 (hF1 b h), by simpa using g4, RlE_fz hr hF1 hF2 e xs vs g5⟩
  | .vp e id i off, v, h => h
  | .fn f caps, v, h => by
    obtain ⟨vs, h1, h2⟩ := h
    exact ⟨vs, h1, RlS_fz hr hF1 hF2 caps vs h2⟩
  | .nilf, v, h => h
theorem RlC_fz (hr : Rel X loc σ w) (hF1 : ∀ b, F' b → forb X σ loc b) (hF2 : ∀ (id : Nat) (o : AObj) (L : Loc), id ∈ zs → σ[id]? = some o → o.live = true → loc id = some L → L.has = true → ¬ F' L.blk) :
    ∀ (cs : List AV) (vs : List Value), RlC (envOf X loc σ w) cs vs → RlC ⟨loc, F', w⟩ (fzL σ zs cs) vs
  | [], _, h => h
  | c :: cs, _, h => by
    obtain ⟨u, us, rfl, h2, h3, h4⟩ := h
    exact ⟨u, us, rfl, by rw [cell_fz]; exact h2, Rl_fz hr hF1 hF2 c u h3, RlC_fz hr hF1 hF2 cs us h4⟩
theorem RlS_fz (hr : Rel X loc σ w) (hF1 : ∀ b, F' b → forb X σ loc b) (hF2 : ∀ (id : Nat) (o : AObj) (L : Loc), id ∈ zs → σ[id]? = some o → o.live = true → loc id = some L → L.has = true → ¬ F' L.blk) :
    ∀ (cs : List AV) (vs : List Value), RlS (envOf X loc σ w) cs vs → RlS ⟨loc, F', w⟩ (fzL σ zs cs) vs
  | [], _, h => h
  | c :: cs, _, h => by
    obtain ⟨u, us, rfl, h3, h4⟩ := h
    exact ⟨u, us, rfl, Rl_fz hr hF1 hF2 c u h3, RlS_fz hr hF1 hF2 cs us h4⟩
theorem RlE_fz (hr : Rel X loc σ w) (hF1 : ∀ b, F' b → forb X σ loc b) (hF2 : ∀ (id : Nat) (o : AObj) (L : Loc), id ∈ zs → σ[id]? = some o → o.live = true → loc id = some L → L.has = true → ¬ F' L.blk) (e : Nat) :
    ∀ (xs : List (List AV)) (vs : List Value), RlE (envOf X loc σ w) e xs vs → RlE ⟨loc, F', w⟩ e (fzLL σ zs xs) vs
  | [], _, h => h
  | x :: xs, _, h => by
    obtain ⟨us, ws, rfl, h2, h3, h4⟩ := h
    exact ⟨us, ws, rfl, h2, RlC_fz hr hF1 hF2 x us h3, RlE_fz hr hF1 hF2 e xs ws h4⟩
end
theorem ObjR_fz (hr : Rel X loc σ w) (hF1 : ∀ b, F' b → forb X σ loc b) (hF2 : ∀ (id : Nat) (o : AObj) (L : Loc), id ∈ zs → σ[id]? = some o → o.live = true → loc id = some L → L.has = true → ¬ F' L.blk) (L : Loc) (o : AObj) (h : ObjR (envOf X loc σ w) L o) :
    ObjR ⟨loc, F', w⟩ L (fzO σ zs o) := by
  cases o with
  | gone => trivial
  | var cs =>
    obtain ⟨h1, h2, vs, t, h3, h4⟩ := h
    exact ⟨h1, h2, vs, t, h3, RlC_fz hr hF1 hF2 _ _ h4⟩
  | vec e xs =>
    rcases h with ⟨h1, h2⟩ | ⟨h1, cs, vs, ws, t, h3, h4, h5, h6⟩
    · subst h2; exact .inl ⟨h1, rfl⟩
    · exact .inr ⟨h1, cs, vs, ws, t, h3, h4, h5, RlE_fz hr hF1 hF2 _ _ _ h6⟩

/-- What may be forgotten of objects: zs become slices that nobody writes any more; of the others, those of js stay, in js's order. -/
structure Forget (k : Nat) (σ : St) (zs js : List Nat) (σ2 : St) : Prop where
  fix : ∀ i, i < k → js[i]? = some i
  nodup : js.Nodup
  lt : ∀ j ∈ js, j < σ.length
  len : σ2.length = js.length
  obj : ∀ (i : Nat) (o : AObj), σ2[i]? = some o → o = .gone ∨ ∃ j, js[i]? = some j ∧ j ∉ zs ∧ (σ[j]?).map (fzO σ zs) = some (renO (rn js σ.length) o)

theorem Forget.rel {k : Nat} {js : List Nat} {σ2 : St} (hf : Forget k σ zs js σ2) (hr : Rel X loc σ w) :
    ∃ loc2 : Nat → Option Loc, (∀ i, loc2 i = loc (rn js σ.length i)) ∧ Rel X loc2 σ2 w ∧ (∀ b, liveB σ2 loc2 b → liveB σ loc b) ∧ ∀ av v, Rl (envOf X loc σ w) av v → ∀ av2, fz σ zs av = ren (rn js σ.length) av2 → Rl (envOf X loc2 σ2 w) av2 v := by
  have hR : ∀ i j : Nat, js[i]? = some j → rn js σ.length i = j := fun i j hij => by simp [rn, List.getD, hij]
  have hR2 : ∀ i : Nat, js.length ≤ i → rn js σ.length i = σ.length + (i - js.length) := fun i hi => by simp [rn, List.getD, List.getElem?_eq_none hi]
  let loc2 : Nat → Option Loc := fun i => loc (rn js σ.length i)
  have hl2 : ∀ i, loc2 i = loc (rn js σ.length i) := fun _ => rfl
  have hcase : ∀ (i : Nat) (o : AObj), σ2[i]? = some o → o.live = true → ∃ (j : Nat) (o' : AObj), js[i]? = some j ∧ j ∉ zs ∧ σ[j]? = some o' ∧ fzO σ zs o' = renO (rn js σ.length) o ∧ o'.live = true ∧ loc2 i = loc j := by
    intro i o g1 g2
    rcases hf.obj i o g1 with rfl | ⟨j, h1, h2, h3⟩
    · cases g2
    · obtain ⟨o', h4, h5⟩ := Option.map_eq_some_iff.1 h3
      refine ⟨j, o', h1, h2, h4, h5, ?_, by rw [hl2, hR i j h1]⟩
      rw [← live_fzO σ zs, h5, live_renO]; exact g2
  have hlive : ∀ b, liveB σ2 loc2 b → liveB σ loc b := by
    rintro b ⟨i, o, L, g1, g2, g3, g4, g5⟩
    obtain ⟨j, o', h1, h2, h3, h4, h5, h6⟩ := hcase i o g1 g2
    exact ⟨j, o', L, h3, h5, by rw [← h6]; exact g3, g4, g5⟩
  have hF1 : ∀ b, forb X σ2 loc2 b → forb X σ loc b := fun b hb => hb.imp id (hlive b)
  have hF2 : ∀ (id : Nat) (o : AObj) (L : Loc), id ∈ zs → σ[id]? = some o → o.live = true → loc id = some L → L.has = true → ¬ forb X σ2 loc2 L.blk := by
    intro id o L g1 g2 g3 g4 g5 g6
    rcases g6 with g6 | ⟨i, o2, L2, k1, k2, k3, k4, k5⟩
    · exact (hr.out _ g6).2 ⟨id, o, L, g2, g3, g4, g5, rfl⟩
    · obtain ⟨j, o', h1, h2, h3, h4, h5, h6⟩ := hcase i o2 k1 k2
      refine hr.apart j id o' o L2 L (by rintro rfl; exact h2 g1) h3 g2 h5 g3 (by rw [← h6]; exact k3) g4 k4 g5 k5
  refine ⟨loc2, hl2, ⟨fun i o g1 g2 => ?_, fun i j a b La Lb hij g1 g2 g3 g4 g5 g6 g7 g8 => ?_, fun b hb => ⟨(hr.out b hb).1, fun h => (hr.out b hb).2 (hlive b h)⟩, fun i hi => ?_⟩, hlive, fun av v h1 av2 h2 => ?_⟩
  · obtain ⟨j, o', h1, h2, h3, h4, h5, h6⟩ := hcase i o g1 g2
    obtain ⟨L, m1, m2⟩ := hr.obj j o' h3 h5
    refine ⟨L, by rw [h6]; exact m1, ?_⟩
    have m3 := ObjR_fz (F' := forb X σ2 loc2) hr hF1 hF2 L o' m2
    rw [h4] at m3
    exact (ObjR_ren (E' := envOf X loc2 σ2 w) (E := ⟨loc, forb X σ2 loc2, w⟩) (r := rn js σ.length) hl2 rfl rfl L o).2 m3
  · obtain ⟨i', a', h1, h2, h3, h4, h5, h6⟩ := hcase i a g1 g3
    obtain ⟨j', b', q1, q2, q3, q4, q5, q6⟩ := hcase j b g2 g4
    refine hr.apart i' j' a' b' La Lb ?_ h3 q3 h5 q5 (by rw [← h6]; exact g5) (by rw [← q6]; exact g6) g7 g8
    rintro rfl
    obtain ⟨hi1, e1⟩ := List.getElem?_eq_some_iff.1 h1
    obtain ⟨hj1, e2⟩ := List.getElem?_eq_some_iff.1 q1
    exact hij ((List.getElem_inj hf.nodup).1 (e1.trans e2.symm))
  · rw [hl2, hR2 i (by rw [← hf.len]; exact hi)]
    exact hr.beyond _ (by omega)
  · have h3 := Rl_fz (F' := forb X σ2 loc2) hr hF1 hF2 av v h1
    rw [h2] at h3
    exact (Rl_ren (E' := envOf X loc2 σ2 w) (E := ⟨loc, forb X σ2 loc2, w⟩) (r := rn js σ.length) hl2 rfl rfl av2 v).2 h3
end

section
variable {P : Program} {C : Cx} {nt k : Nat} {fr : Fr} {σ : St} {loc : Nat → Option Loc} {a : Act} {w : World}

/-- Slots may be forgotten, objects may be forgotten. -/
theorem SR.forget (h : SR C nt k fr σ loc a w) {zs js : List Nat} {σ2 : St} (hf : Forget k σ zs js σ2) (hk : k ≤ js.length) {fr2 : Fr} (hfr : ∀ t, fr2.get t = .dead ∨ fz σ zs (fr.get t) = ren (rn js σ.length) (fr2.get t)) :
    ∃ loc2, SR C nt k fr2 σ2 loc2 a w := by
  obtain ⟨loc2, h1, h2, h3, h4⟩ := hf.rel h.rel
  refine ⟨loc2, h2, fun t => ?_, h.size, h.dfr, h.ev, fun b hb => h.old b (h3 b hb), fun i hi => ?_, by rw [hf.len]; exact hk⟩
  · rcases hfr t with h5 | h5
    · rw [h5]; trivial
    · exact h4 _ _ (h.frm t) _ h5
  · rw [h1, ← h.pre i hi]
    congr 1
    simp [rn, List.getD, hf.fix i hi]
theorem tri_forget {c : ACode} {Q : Ex → Fr → St → Prop} (zs js : List Nat) (fr2 : Fr) (σ2 : St) (hf : Forget k σ zs js σ2) (hk : k ≤ js.length) (hfr : ∀ t, fr2.get t = .dead ∨ fz σ zs (fr.get t) = ren (rn js σ.length) (fr2.get t)) (h : Tri P nt k c Q fr2 σ2) : Tri P nt k c Q fr σ := by
  intro code hc C loc a w hs
  obtain ⟨loc2, h2⟩ := hs.forget hf hk hfr
  exact h code hc C loc2 a w h2
/-- Slots alone may be forgotten. -/
theorem SR.slots (h : SR C nt k fr σ loc a w) {fr2 : Fr} (hfr : ∀ t, fr2.get t = .dead ∨ fr2.get t = fr.get t) : SR C nt k fr2 σ loc a w :=
  ⟨h.rel, fun t => by rcases hfr t with h5 | h5 <;> rw [h5]; trivial; exact h.frm t, h.size, h.dfr, h.ev, h.old, h.pre, h.klen⟩
theorem tri_slots {c : ACode} {Q : Ex → Fr → St → Prop} (fr2 : Fr) (hfr : ∀ t, fr2.get t = .dead ∨ fr2.get t = fr.get t) (h : Tri P nt k c Q fr2 σ) : Tri P nt k c Q fr σ :=
  fun code hc C loc a w hs => h code hc C loc a w (hs.slots hfr)

/-- A result: a temporary, or a variable that it points to. -/
inductive ARes where
  | tmp (t : Nat)
  | cell (t : Nat) (ag : Bool) (sz : Nat)
  deriving Inhabited
def convRes (P : Program) : ResultVar → Option ARes
  | .tmp t => some (.tmp t)
  | .cell a t => (sizeInfo P t).map fun p => .cell a p.1 p.2
def convRess (P : Program) : List ResultVar → Option (List ARes)
  | [] => some []
  | r :: rs => match convRes P r, convRess P rs with
    | some a, some b => some (a :: b)
    | _, _ => none
def resOne (fr : Fr) (σ : St) : ARes → Option AV
  | .tmp t => some (fr.get t)
  | .cell t ag sz => match fr.get t with
    | .ptr id o => match σ[id]? with
      | some (.var cs) => if o + sz ≤ cs.length then some (pack ag (cut cs o sz)) else none
      | _ => none
    | _ => none
/-- A function's results. -/
def resVal (fr : Fr) (σ : St) : List ARes → Option (List AV)
  | [] => some []
  | x :: r => match resOne fr σ x, resVal fr σ r with
    | some a, some b => some (a :: b)
    | _, _ => none
def resAV (l : List AV) : AV := match l with
  | [x] => x
  | xs => .tup xs
/-- What is told less closely. -/
def Wk (v r : AV) : Prop := ∀ E u, Rl E v u → Rl E r u
theorem Wk.refl (v : AV) : Wk v v := fun _ _ h => h
theorem Wk.empty (e e' : Nat) (cl : Bool) : Wk (.sl e true []) (.sl e' cl []) := by
  rintro E u ⟨a, n, cap, rfl, h1, h2, h3, h4, h5, h6⟩
  have : n = 0 := by simpa using h1
  subst this
  exact ⟨a, 0, cap, rfl, rfl, h2, h3, fun _ => h4 rfl, h5, .inl rfl⟩
theorem Wk.open_ (e : Nat) (cl : Bool) (xs : List (List AV)) : Wk (.sl e cl xs) (.sl e false xs) := by
  rintro E u ⟨a, n, cap, rfl, h1, h2, h3, h4, h5, h6⟩
  exact ⟨a, n, cap, rfl, h1, h2, h3, (fun h => Bool.noConfusion h), h5, h6⟩
theorem Wk.dead (v : AV) : Wk v .dead := fun _ _ _ => trivial
def WkL : List AV → List AV → Prop
  | [], [] => True
  | v :: vs, r :: rs => Wk v r ∧ WkL vs rs
  | _, _ => False
theorem WkL.rls {E : Env} : ∀ {vs rs : List AV} {us : List Value}, WkL vs rs → RlS E vs us → RlS E rs us
  | [], [], us, _, h => h
  | v :: vs, r :: rs, us, hw, h => by
    obtain ⟨u, us', rfl, h1, h2⟩ := h
    exact ⟨u, us', rfl, hw.1 _ _ h1, WkL.rls hw.2 h2⟩
  | [], _ :: _, _, h, _ | _ :: _, [], _, h, _ => h.elim
theorem Wk.tup {vs rs : List AV} (h : WkL vs rs) : Wk (.tup vs) (.tup rs) := by
  rintro E u ⟨us, rfl, h1⟩
  exact ⟨us, rfl, h.rls h1⟩
/-- How a body ends. -/
def FinQ (rs : List ARes) (k : Nat) (σ' : St) (r : AV) : Ex → Fr → St → Prop
  | .exit _, _, _ => False
  | _, fr, σ1 => ∃ l zs js r0, resVal fr σ1 rs = some l ∧ Forget k σ1 zs js σ' ∧ k ≤ js.length ∧ fz σ1 zs (resAV l) = ren (rn js σ1.length) r0 ∧ Wk r0 r

/-- One result, in the model. -/
def resM (tmps : Array Value) : ResultVar → Sem Value
  | .tmp t => pure (tmps.getD t undef)
  | .cell a t => do loadVar t (← asAddr (tmps.getD a undef))
theorem results_eq (fn : Func) (tmps : Array Value) : results fn tmps = (do
    let vs ← fn.results.mapM (resM tmps)
    pure (if h : vs.size = 1 then vs[0] else .tuple vs)) := by
  unfold results
  congr 2
theorem res_one {X : Nat → Prop} {loc : Nat → Option Loc} {σ : St} {w : World} {fr : Fr} {tmps : Array Value} (hr : Rel X loc σ w) (hf : ∀ t, Rl (envOf X loc σ w) (fr.get t) (tmps.getD t undef)) {x : ResultVar} {y : ARes} (hx : convRes P x = some y) {av : AV} (h : resOne fr σ y = some av) :
    ∃ v, Rl (envOf X loc σ w) av v ∧ (resM tmps x).run P w = .ok v w := by
  cases x with
  | tmp t =>
    cases hx
    cases h
    exact ⟨_, hf t, by simp [resM]⟩
  | cell a t =>
    simp only [convRes] at hx
    obtain ⟨⟨ag, sz⟩, hs, rfl⟩ := Option.map_eq_some_iff.1 hx
    simp only [resOne] at h
    split at h
    · rename_i id oo hv
      have ha := hf a
      rw [hv] at ha
      obtain ⟨L, g1, g2, g3⟩ := ha
      split at h
      · rename_i cs hσ
        split at h
        · rename_i hl
          cases h
          obtain ⟨_, k1, vs, tt, k2, k3⟩ := hr.var hσ g1
          have hvl := k3.length
          have k4 := range_whole k2 oo sz (by omega)
          rw [k1, Nat.zero_add] at g3
          have hlen : ((cs.drop oo).take sz).length = sz := by simp; omega
          refine ⟨packV ag ((vs.drop oo).take sz), Rl.pack ((k3.drop oo).take sz) fun h0 => by subst h0; exact hlen.trans (sizeInfo_one hs).1, ?_⟩
          have := run_load_range P w L.blk oo hs k4
          simp [resM, g3, asAddr, this]
        · cases h
      · cases h
    · cases h
theorem conv_cons {P : Program} {x : ResultVar} {rs : List ResultVar} {ys : List ARes} (h : convRess P (x :: rs) = some ys) : ∃ y ys', ys = y :: ys' ∧ convRes P x = some y ∧ convRess P rs = some ys' := by
  simp only [convRess] at h
  split at h
  · rename_i a b h1 h2
    cases h
    exact ⟨a, b, rfl, h1, h2⟩
  · cases h
theorem resVal_step {fr : Fr} {σ : St} {y : ARes} {ys : List ARes} {l : List AV} (h : resVal fr σ (y :: ys) = some l) : ∃ a l', l = a :: l' ∧ resOne fr σ y = some a ∧ resVal fr σ ys = some l' := by
  simp only [resVal] at h
  split at h
  · rename_i a b h1 h2
    cases h
    exact ⟨a, b, rfl, h1, h2⟩
  · cases h
theorem results_run {X : Nat → Prop} {loc : Nat → Option Loc} {σ : St} {w : World} {fr : Fr} {tmps : Array Value} (hr : Rel X loc σ w) (hf : ∀ t, Rl (envOf X loc σ w) (fr.get t) (tmps.getD t undef)) {fn : Func} {l : List AV} {rs : List ResultVar} {ys : List ARes} (hrs : fn.results = rs.toArray) (hl : rs.length ≤ 5) (hc : convRess P rs = some ys) (h : resVal fr σ ys = some l) :
    ∃ v, Rl (envOf X loc σ w) (resAV l) v ∧ (results fn tmps).run P w = .ok v w := by
  rw [results_eq, hrs]
  match rs, hl with
  | [], _ =>
    cases hc
    cases h
    exact ⟨.tuple #[], ⟨[], rfl, rfl⟩, by simp⟩
  | [x1], _ =>
    obtain ⟨y1, ys, rfl, c1, hc⟩ := conv_cons hc
    obtain ⟨a1, l, rfl, b1, h⟩ := resVal_step h
    cases hc
    cases h
    obtain ⟨v1, e1, d1⟩ := res_one hr hf c1 b1
    exact ⟨v1, e1, by simp [Sem.run_bind, d1]⟩
  | [x1, x2], _ =>
    obtain ⟨y1, ys, rfl, c1, hc⟩ := conv_cons hc
    obtain ⟨y2, ys, rfl, c2, hc⟩ := conv_cons hc
    obtain ⟨a1, l, rfl, b1, h⟩ := resVal_step h
    obtain ⟨a2, l, rfl, b2, h⟩ := resVal_step h
    cases hc
    cases h
    obtain ⟨v1, e1, d1⟩ := res_one hr hf c1 b1
    obtain ⟨v2, e2, d2⟩ := res_one hr hf c2 b2
    exact ⟨.tuple #[v1, v2], ⟨[_, _], rfl, _, _, rfl, e1, _, _, rfl, e2, rfl⟩, by simp [Sem.run_bind, d1, d2]⟩
  | [x1, x2, x3], _ =>
    obtain ⟨y1, ys, rfl, c1, hc⟩ := conv_cons hc
    obtain ⟨y2, ys, rfl, c2, hc⟩ := conv_cons hc
    obtain ⟨y3, ys, rfl, c3, hc⟩ := conv_cons hc
    obtain ⟨a1, l, rfl, b1, h⟩ := resVal_step h
    obtain ⟨a2, l, rfl, b2, h⟩ := resVal_step h
    obtain ⟨a3, l, rfl, b3, h⟩ := resVal_step h
    cases hc
    cases h
    obtain ⟨v1, e1, d1⟩ := res_one hr hf c1 b1
    obtain ⟨v2, e2, d2⟩ := res_one hr hf c2 b2
    obtain ⟨v3, e3, d3⟩ := res_one hr hf c3 b3
    exact ⟨.tuple #[v1, v2, v3], ⟨[_, _, _], rfl, _, _, rfl, e1, _, _, rfl, e2, _, _, rfl, e3, rfl⟩, by simp [Sem.run_bind, d1, d2, d3]⟩
  | [x1, x2, x3, x4], _ =>
    obtain ⟨y1, ys, rfl, c1, hc⟩ := conv_cons hc
    obtain ⟨y2, ys, rfl, c2, hc⟩ := conv_cons hc
    obtain ⟨y3, ys, rfl, c3, hc⟩ := conv_cons hc
    obtain ⟨y4, ys, rfl, c4, hc⟩ := conv_cons hc
    obtain ⟨a1, l, rfl, b1, h⟩ := resVal_step h
    obtain ⟨a2, l, rfl, b2, h⟩ := resVal_step h
    obtain ⟨a3, l, rfl, b3, h⟩ := resVal_step h
    obtain ⟨a4, l, rfl, b4, h⟩ := resVal_step h
    cases hc
    cases h
    obtain ⟨v1, e1, d1⟩ := res_one hr hf c1 b1
    obtain ⟨v2, e2, d2⟩ := res_one hr hf c2 b2
    obtain ⟨v3, e3, d3⟩ := res_one hr hf c3 b3
    obtain ⟨v4, e4, d4⟩ := res_one hr hf c4 b4
    exact ⟨.tuple #[v1, v2, v3, v4], ⟨[_, _, _, _], rfl, _, _, rfl, e1, _, _, rfl, e2, _, _, rfl, e3, _, _, rfl, e4, rfl⟩, by simp [Sem.run_bind, d1, d2, d3, d4]⟩
  | [x1, x2, x3, x4, x5], _ =>
    obtain ⟨y1, ys, rfl, c1, hc⟩ := conv_cons hc
    obtain ⟨y2, ys, rfl, c2, hc⟩ := conv_cons hc
    obtain ⟨y3, ys, rfl, c3, hc⟩ := conv_cons hc
    obtain ⟨y4, ys, rfl, c4, hc⟩ := conv_cons hc
    obtain ⟨y5, ys, rfl, c5, hc⟩ := conv_cons hc
    obtain ⟨a1, l, rfl, b1, h⟩ := resVal_step h
    obtain ⟨a2, l, rfl, b2, h⟩ := resVal_step h
    obtain ⟨a3, l, rfl, b3, h⟩ := resVal_step h
    obtain ⟨a4, l, rfl, b4, h⟩ := resVal_step h
    obtain ⟨a5, l, rfl, b5, h⟩ := resVal_step h
    cases hc
    cases h
    obtain ⟨v1, e1, d1⟩ := res_one hr hf c1 b1
    obtain ⟨v2, e2, d2⟩ := res_one hr hf c2 b2
    obtain ⟨v3, e3, d3⟩ := res_one hr hf c3 b3
    obtain ⟨v4, e4, d4⟩ := res_one hr hf c4 b4
    obtain ⟨v5, e5, d5⟩ := res_one hr hf c5 b5
    exact ⟨.tuple #[v1, v2, v3, v4, v5], ⟨[_, _, _, _, _], rfl, _, _, rfl, e1, _, _, rfl, e2, _, _, rfl, e3, _, _, rfl, e4, _, _, rfl, e5, rfl⟩, by simp [Sem.run_bind, d1, d2, d3, d4, d5]⟩

/-- A function, by its body. -/
theorem ACall.of_body {f : FuncId} {fn : Func} {c : Code} {ac : ACode} {rs : List ResultVar} {ys : List ARes} {args : List AV} {r : AV} {σ' : St} (nv : Nat) (hf : P.funcs[f]? = some fn) (hb : fn.body = some c) (hn : callable P f = true) (hc : convC P fn.ntmps c = some ac)
    (hrs : fn.results = rs.toArray) (hl : rs.length ≤ 5) (hys : convRess P rs = some ys) (ha : args.length ≤ fn.ntmps)
    (h : Tri P fn.ntmps σ.length ac (FinQ ys σ.length σ' r) ⟨nv, args ++ List.replicate (nv - args.length) .dead, []⟩ σ) (hlen : σ.length ≤ σ'.length) : ACall P f args σ r σ' := by
  refine ⟨hn, hlen, fun X loc w vs hr hv => ?_⟩
  have hvl := hv.length
  let C : Cx := ⟨X, w, liveB σ loc, loc⟩
  have hs : SR C fn.ntmps σ.length ⟨nv, args ++ List.replicate (nv - args.length) .dead, []⟩ σ loc { tmps := vs.toArray ++ Array.replicate (fn.ntmps - vs.toArray.size) undef, defers := [] } w := by
    refine ⟨hr, fun t => ?_, ?_, rfl, Ev.refl _ _, fun b hb => .inl hb, fun _ _ => rfl, Nat.le_refl _⟩
    · unfold Fr.get
      simp only
      split
      · by_cases ht : t < args.length
        · obtain ⟨u, h1, h2⟩ := hv.get t ht
          have e1 : (args ++ List.replicate (nv - args.length) AV.dead).getD t .dead = args[t] := by
            rw [List.getD_eq_getElem?_getD, List.getElem?_append_left ht, List.getElem?_eq_getElem ht]
            rfl
          have e2 : (vs.toArray ++ Array.replicate (fn.ntmps - vs.toArray.size) undef).getD t undef = u := by
            rw [Array.getD_eq_getD_getElem?, Array.getElem?_append_left (by simp; omega)]
            simp [h1]
          rw [e1, e2]; exact h2
        · have e1 : (args ++ List.replicate (nv - args.length) AV.dead).getD t .dead = .dead := by
            rw [List.getD_eq_getElem?_getD, List.getElem?_append_right (by omega), List.getElem?_replicate]
            split <;> rfl
          rw [e1]; trivial
      · simp [look]; trivial
    · simp; omega
  have hw := h c hc C loc _ w hs
  refine calls_of_wp hf hb (wp_mono hw fun ex a' w' ⟨e, fr', σ1, loc1, he, hq, hs'⟩ => ?_)
  have key : e = .normal ∨ e = .ret → ∃ v, (results fn a'.tmps).run P w' = .ok v w' ∧ ∃ loc', Out X loc σ w r σ' v w' loc' ∧ ∀ id, id < σ.length → loc' id = loc id := by
    intro hcase
    have hq' : ∃ l zs js r0, resVal fr' σ1 ys = some l ∧ Forget σ.length σ1 zs js σ' ∧ σ.length ≤ js.length ∧ fz σ1 zs (resAV l) = ren (rn js σ1.length) r0 ∧ Wk r0 r := by
      rcases hcase with rfl | rfl <;> exact hq
    obtain ⟨l, zs, js, r0, q1, q2, q3, q4, q5⟩ := hq'
    obtain ⟨v, g1, g2⟩ := results_run (P := P) hs'.rel hs'.frm hrs hl hys q1
    obtain ⟨loc2, m1, m2, m3, m4⟩ := q2.rel hs'.rel
    have hfix : ∀ id, id < σ.length → loc2 id = loc id := by
      intro id hlt
      rw [m1]
      have : rn js σ1.length id = id := by simp [rn, List.getD, q2.fix id hlt]
      rw [this, hs'.pre id hlt]
    refine ⟨v, g2, loc2, ⟨fun id L hid => ?_, m2, q5 _ _ (m4 _ _ g1 _ q4), hs'.ev, fun b hb => hs'.old b (m3 b hb)⟩, hfix⟩
    have hlt : id < σ.length := by
      rcases Nat.lt_or_ge id σ.length with h1 | h1
      · exact h1
      · rw [hr.beyond id h1] at hid; cases hid
    rw [hfix id hlt]
    exact hid
  subst he
  cases e with
  | exit id => exact hq.elim
  | normal =>
    obtain ⟨v, g1, loc', g2, g3⟩ := key (.inl rfl)
    exact ⟨hs'.dfr, v, g1, v, loc', rfl, g2, g3⟩
  | ret =>
    obtain ⟨v, g1, loc', g2, g3⟩ := key (.inr rfl)
    exact ⟨hs'.dfr, v, g1, v, loc', rfl, g2, g3⟩
end
end Go.FH
