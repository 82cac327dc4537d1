/-
  The abstract walk, part 12: what a function does to objects, and that the rest is kept. It holds of any program.
-/
import Derived.Test.YtachiahepppajaaBb
namespace Go.FH
set_option linter.unusedVariables false
set_option linter.unusedSimpArgs false
open Go Go.RowKit

def renO (r : Nat → Nat) : AObj → AObj
  | .gone => .gone
  | .var cs => .var (renL r cs)
  | .vec e xs => .vec e (renLL r xs)
theorem live_renO (r : Nat → Nat) (o : AObj) : (renO r o).live = o.live := by cases o <;> rfl
theorem ObjR_ren {E E' : Env} {r : Nat → Nat} (h : ∀ id, E'.loc id = E.loc (r id)) (hw : E'.w = E.w) (hF : E'.F = E.F) (L : Loc) (o : AObj) : ObjR E' L o ↔ ObjR E L (renO r o) := by
  cases o with
  | gone => exact Iff.rfl
  | var cs => simp only [ObjR, renO, RlC_ren h hw hF cs, hw]
  | vec e xs =>
    have : (renLL r xs = []) ↔ xs = [] := by cases xs <;> simp [renLL]
    simp only [ObjR, renO, RlE_ren h hw hF e xs, hw, this]

def callable (P : Program) (f : FuncId) : Bool := match P.funcs[f]? with
  | some fn => fn.name != "runtime.NumGoroutine" && fn.body.isSome
  | none => false

/-- The call returns r and leaves the objects σ'. -/
def ACall (P : Program) (f : FuncId) (args : List AV) (σ : St) (r : AV) (σ' : St) : Prop :=
  callable P f = true ∧ σ.length ≤ σ'.length ∧ ∀ (X : Nat → Prop) (loc : Nat → Option Loc) (w : World) (vs : List Value), Rel X loc σ w → RlS (envOf X loc σ w) args vs →
    Calls P f vs.toArray w fun e w' => ∃ v loc', e = .returned v ∧ Out X loc σ w r σ' v w' loc' ∧ ∀ id, id < σ.length → loc' id = loc id

/-- The caller's number of a callee's object: js those that were handed on, then new ones. -/
def rn (js : List Nat) (n : Nat) (i : Nat) : Nat := js.getD i (n + (i - js.length))
def putAll (σ : St) : List Nat → St → St
  | j :: js, o :: os => putAll (σ.set j o) js os
  | _, _ => σ
@[simp] theorem length_putAll : ∀ (js : List Nat) (os σ : St), (putAll σ js os).length = σ.length
  | [], _, _ => by simp [putAll]
  | _ :: _, [], _ => by simp [putAll]
  | j :: js, o :: os, σ => by simp [putAll, length_putAll js os]
theorem putAll_ne : ∀ (js : List Nat) (os σ : St) (id : Nat), id ∉ js → (putAll σ js os)[id]? = σ[id]?
  | [], _, _, _, _ => by simp [putAll]
  | _ :: _, [], _, _, _ => by simp [putAll]
  | j :: js, o :: os, σ, id, h => by
    simp only [List.mem_cons, not_or] at h
    rw [putAll, putAll_ne js os _ id h.2, List.getElem?_set_ne (Ne.symm h.1)]
theorem putAll_mem : ∀ (js : List Nat) (os σ : St), js.Nodup → (∀ j ∈ js, j < σ.length) → ∀ (i j : Nat) (o : AObj), js[i]? = some j → os[i]? = some o → (putAll σ js os)[j]? = some o
  | [], _, _, _, _, i, j, o, h, _ => by simp at h
  | _ :: _, [], _, _, _, i, j, o, _, h => by simp at h
  | k :: js, o' :: os, σ, hn, hl, i, j, o, h1, h2 => by
    rw [putAll]
    have hn' := List.nodup_cons.1 hn
    cases i with
    | zero =>
      simp only [List.getElem?_cons_zero, Option.some.injEq] at h1 h2
      subst h1; subst h2
      rw [putAll_ne js os _ k hn'.1]
      simp [hl k (List.mem_cons_self ..)]
    | succ i =>
      exact putAll_mem js os (σ.set k o') hn'.2 (fun q hq => by simpa using hl q (List.mem_cons_of_mem _ hq)) i j o (by simpa using h1) (by simpa using h2)

/-- The objects behind a call. -/
def afterCall (σ : St) (js : List Nat) (σs' : St) : St :=
  putAll σ js ((σs'.take js.length).map (renO (rn js σ.length))) ++ (σs'.drop js.length).map (renO (rn js σ.length))
/-- The objects js of σ are σs. -/
def Picks (σ : St) (js : List Nat) (σs : St) : Prop :=
  js.length = σs.length ∧ js.Nodup ∧ (∀ j ∈ js, j < σ.length) ∧ ∀ i j : Nat, js[i]? = some j → σ[j]? = (σs[i]?).map (renO (rn js σ.length))

/-- The objects js of σ are σs; J: the numbers that the callee's objects have. -/
def PickS (σ : St) (js J : List Nat) (σs : St) : Prop :=
  js.length = σs.length ∧ J.Nodup ∧ (∀ j ∈ J, j < σ.length) ∧ ∀ i j : Nat, js[i]? = some j → σ[j]? = (σs[i]?).map (renO (rn J σ.length))

section
variable {X : Nat → Prop} {loc : Nat → Option Loc} {σ σs σs' : St} {w : World} {P : Program} {js : List Nat}

theorem ACall.frame {f : FuncId} {args : List AV} {r : AV} (h : ACall P f args σs r σs') (hr : Rel X loc σ w) (hp : Picks σ js σs) {vs : List Value} (hv : RlS (envOf X loc σ w) (renL (rn js σ.length) args) vs) :
    Calls P f vs.toArray w fun e w' => ∃ v loc', e = .returned v ∧ Out X loc σ w (ren (rn js σ.length) r) (afterCall σ js σs') v w' loc' ∧ ∀ id, id < σ.length → loc' id = loc id := by
  obtain ⟨_, hlen, hcall⟩ := h
  obtain ⟨hjl, hnd, hjs, hobj⟩ := hp
  have hR : ∀ i j : Nat, js[i]? = some j → rn js σ.length i = j := fun i j hij => by simp [rn, List.getD, hij]
  have hR2 : ∀ i : Nat, js.length ≤ i → rn js σ.length i = σ.length + (i - js.length) := fun i hi => by simp [rn, List.getD, List.getElem?_eq_none hi]
  let locs : Nat → Option Loc := fun i => loc (rn js σ.length i)
  have hlocs : ∀ i, locs i = loc (rn js σ.length i) := fun _ => rfl
  -- live blocks of the objects that are handed on
  have live1 : ∀ b, liveB σs locs b → ∃ (i j : Nat) (o : AObj) (L : Loc), js[i]? = some j ∧ σs[i]? = some o ∧ o.live = true ∧ σ[j]? = some (renO (rn js σ.length) o) ∧ loc j = some L ∧ L.has = true ∧ L.blk = b := by
    rintro b ⟨i, o, L, g1, g2, g3, g4, g5⟩
    have hi : i < js.length := by rw [hjl]; exact (List.getElem?_eq_some_iff.1 g1).1
    have hij : js[i]? = some js[i] := List.getElem?_eq_getElem hi
    refine ⟨i, js[i], o, L, hij, g1, g2, by rw [hobj i _ hij, g1]; rfl, ?_, g4, g5⟩
    rw [hlocs, hR i _ hij] at g3
    exact g3
  have live2 : ∀ b, liveB σs locs b → liveB σ loc b := fun b hb => by
    obtain ⟨i, j, o, L, g1, g2, g3, g4, g5, g6, g7⟩ := live1 b hb
    exact ⟨j, _, L, g4, by rw [live_renO]; exact g3, g5, g6, g7⟩
  have live3 : ∀ (i j : Nat) (o : AObj) (L : Loc), js[i]? = some j → σ[j]? = some o → o.live = true → loc j = some L → L.has = true → liveB σs locs L.blk := by
    intro i j o L g1 g2 g3 g4 g5
    have hi : i < σs.length := by rw [← hjl]; exact (List.getElem?_eq_some_iff.1 g1).1
    have g6 := hobj i j g1
    rw [g2, List.getElem?_eq_getElem hi] at g6
    simp only [Option.map_some, Option.some.injEq] at g6
    refine ⟨i, σs[i], L, List.getElem?_eq_getElem hi, ?_, by rw [hlocs, hR i j g1]; exact g4, g5, rfl⟩
    rw [← live_renO (rn js σ.length), ← g6]; exact g3
  let Xs : Nat → Prop := fun b => forb X σ loc b ∧ ¬ liveB σs locs b
  have hF1 : forb Xs σs locs = forb X σ loc := by
    funext b
    apply propext
    constructor
    · rintro (⟨h1, _⟩ | h1)
      · exact h1
      · exact .inr (live2 b h1)
    · intro h1
      by_cases h2 : liveB σs locs b
      · exact .inr h2
      · exact .inl ⟨h1, h2⟩
  have hrs : Rel Xs locs σs w := by
    refine ⟨fun i o g1 g2 => ?_, fun i j a b La Lb hij g1 g2 g3 g4 g5 g6 g7 g8 => ?_, fun b hb => ⟨?_, hb.2⟩, fun i hi => ?_⟩
    · have hi : i < js.length := by rw [hjl]; exact (List.getElem?_eq_some_iff.1 g1).1
      have hij : js[i]? = some js[i] := List.getElem?_eq_getElem hi
      have g3 : σ[js[i]]? = some (renO (rn js σ.length) o) := by rw [hobj i _ hij, g1]; rfl
      obtain ⟨L, g4, g5⟩ := hr.obj js[i] _ g3 (by rw [live_renO]; exact g2)
      exact ⟨L, by rw [hlocs, hR i _ hij]; exact g4, (ObjR_ren (E' := envOf Xs locs σs w) (E := envOf X loc σ w) (r := rn js σ.length) hlocs rfl hF1 L o).2 g5⟩
    · have hi : i < js.length := by rw [hjl]; exact (List.getElem?_eq_some_iff.1 g1).1
      have hj : j < js.length := by rw [hjl]; exact (List.getElem?_eq_some_iff.1 g2).1
      have e1 : js[i]? = some js[i] := List.getElem?_eq_getElem hi
      have e2 : js[j]? = some js[j] := List.getElem?_eq_getElem hj
      rw [hlocs, hR i _ e1] at g5
      rw [hlocs, hR j _ e2] at g6
      refine hr.apart js[i] js[j] _ _ La Lb (fun e => hij ((List.getElem_inj hnd).1 e)) (by rw [hobj i _ e1, g1]; rfl) (by rw [hobj j _ e2, g2]; rfl) (by rw [live_renO]; exact g3) (by rw [live_renO]; exact g4) g5 g6 g7 g8
    · rcases hb.1 with h1 | h1
      · exact (hr.out b h1).1
      · exact liveB.lt hr h1
    · rw [hlocs, hR2 i (by omega)]
      exact hr.beyond _ (by omega)
  have hvs : RlS (envOf Xs locs σs w) args vs := (RlS_ren (E' := envOf Xs locs σs w) (E := envOf X loc σ w) (r := rn js σ.length) hlocs rfl hF1 args vs).2 hv
  refine (hcall Xs locs w vs hrs hvs).mono fun e w' ⟨v, locs', he, ho, hkeep⟩ => ?_
  let loc' : Nat → Option Loc := fun id => if id < σ.length then loc id else locs' (js.length + (id - σ.length))
  have hl1 : ∀ id, id < σ.length → loc' id = loc id := fun id hid => by simp [loc', hid]
  have hl2 : ∀ id, σ.length ≤ id → loc' id = locs' (js.length + (id - σ.length)) := fun id hid => by simp [loc', Nat.not_lt.2 hid]
  have hlr : ∀ i, locs' i = loc' (rn js σ.length i) := by
    intro i
    by_cases hi : i < js.length
    · have e1 : js[i]? = some js[i] := List.getElem?_eq_getElem hi
      rw [hR i _ e1, hl1 _ (hjs _ (List.getElem_mem hi)), hkeep i (by omega), hlocs, hR i _ e1]
    · rw [hR2 i (by omega), hl2 _ (by omega)]
      congr 1; omega
  have hσ1 : ∀ (i j : Nat) (o : AObj), js[i]? = some j → σs'[i]? = some o → (afterCall σ js σs')[j]? = some (renO (rn js σ.length) o) := by
    intro i j o g1 g2
    have hi : i < js.length := (List.getElem?_eq_some_iff.1 g1).1
    unfold afterCall
    rw [List.getElem?_append_left (by rw [length_putAll]; exact hjs j (List.mem_of_getElem? g1))]
    exact putAll_mem js _ σ hnd hjs i j _ g1 (by rw [List.getElem?_map, List.getElem?_take, if_pos hi, g2]; rfl)
  have hσ2 : ∀ id, id < σ.length → id ∉ js → (afterCall σ js σs')[id]? = σ[id]? := by
    intro id h1 h2
    unfold afterCall
    rw [List.getElem?_append_left (by rw [length_putAll]; exact h1), putAll_ne _ _ _ _ h2]
  have hσ3 : ∀ id, σ.length ≤ id → (afterCall σ js σs')[id]? = (σs'[js.length + (id - σ.length)]?).map (renO (rn js σ.length)) := by
    intro id h1
    unfold afterCall
    rw [List.getElem?_append_right (by rw [length_putAll]; exact h1), length_putAll, List.getElem?_map, List.getElem?_drop]
  have hlen' : (afterCall σ js σs').length = σ.length + (σs'.length - js.length) := by simp [afterCall]
  -- an object behind the call: one of the callee's, or an old one
  have hcase : ∀ (id : Nat) (o : AObj), (afterCall σ js σs')[id]? = some o → (∃ (i : Nat) (o' : AObj), σs'[i]? = some o' ∧ o = renO (rn js σ.length) o' ∧ loc' id = locs' i ∧ id = rn js σ.length i) ∨ (id < σ.length ∧ id ∉ js ∧ σ[id]? = some o ∧ loc' id = loc id) := by
    intro id o g1
    by_cases hid : id < σ.length
    · by_cases hj : id ∈ js
      · obtain ⟨i, hi, rfl⟩ := List.getElem_of_mem hj
        have e1 : js[i]? = some js[i] := List.getElem?_eq_getElem hi
        have hi' : i < σs'.length := by omega
        have g2 := hσ1 i js[i] σs'[i] e1 (List.getElem?_eq_getElem hi')
        rw [g1] at g2
        exact .inl ⟨i, σs'[i], List.getElem?_eq_getElem hi', Option.some.inj g2, by rw [hlr i, hR i _ e1], (hR i _ e1).symm⟩
      · rw [hσ2 id hid hj] at g1
        exact .inr ⟨hid, hj, g1, hl1 id hid⟩
    · rw [hσ3 id (by omega)] at g1
      obtain ⟨o', g2, g3⟩ := Option.map_eq_some_iff.1 g1
      exact .inl ⟨_, o', g2, g3.symm, hl2 id (by omega), by rw [hR2 _ (by omega)]; omega⟩
  have hback : ∀ (i : Nat) (o : AObj), σs'[i]? = some o → (afterCall σ js σs')[rn js σ.length i]? = some (renO (rn js σ.length) o) := by
    intro i o g1
    by_cases hi : i < js.length
    · have e1 : js[i]? = some js[i] := List.getElem?_eq_getElem hi
      rw [hR i _ e1]
      exact hσ1 i _ o e1 g1
    · rw [hR2 i (by omega), hσ3 _ (by omega)]
      have : js.length + (σ.length + (i - js.length) - σ.length) = i := by omega
      rw [this, g1]; rfl
  have live4 : ∀ b, liveB σs' locs' b → liveB (afterCall σ js σs') loc' b := by
    rintro b ⟨i, o, L, g1, g2, g3, g4, g5⟩
    exact ⟨rn js σ.length i, _, L, hback i o g1, by rw [live_renO]; exact g2, by rw [← hlr]; exact g3, g4, g5⟩
  have live5 : ∀ b, liveB (afterCall σ js σs') loc' b → liveB σs' locs' b ∨ ∃ (id : Nat) (o : AObj) (L : Loc), id < σ.length ∧ id ∉ js ∧ σ[id]? = some o ∧ o.live = true ∧ loc id = some L ∧ L.has = true ∧ L.blk = b := by
    rintro b ⟨id, o, L, g1, g2, g3, g4, g5⟩
    rcases hcase id o g1 with ⟨i, o', k1, rfl, k3, _⟩ | ⟨k1, k2, k3, k4⟩
    · exact .inl ⟨i, o', L, k1, by rw [live_renO] at g2; exact g2, by rw [← k3]; exact g3, g4, g5⟩
    · exact .inr ⟨id, o, L, k1, k2, k3, g2, by rw [← k4]; exact g3, g4, g5⟩
  have notlive : ∀ (id : Nat) (o : AObj) (L : Loc), id ∉ js → σ[id]? = some o → o.live = true → loc id = some L → L.has = true → ¬ liveB σs locs L.blk := by
    intro id o L h1 h2 h3 h4 h5 h6
    obtain ⟨i, j, o', L', g1, g2, g3, g4, g5, g6, g7⟩ := live1 _ h6
    exact hr.apart j id _ o L' L (by rintro rfl; exact h1 (List.mem_of_getElem? g1)) g4 h2 (by rw [live_renO]; exact g3) h3 g5 h4 g6 h5 g7
  have hF2 : forb Xs σs' locs' = forb X (afterCall σ js σs') loc' := by
    funext b
    apply propext
    constructor
    · rintro (⟨h1, h2⟩ | h1)
      · rcases h1 with h1 | ⟨id, o, L, g1, g2, g3, g4, g5⟩
        · exact .inl h1
        · have hj : id ∉ js := by
            intro hj
            obtain ⟨i, hi, rfl⟩ := List.getElem_of_mem hj
            exact h2 (by rw [← g5]; exact live3 i _ o L (List.getElem?_eq_getElem hi) g1 g2 g3 g4)
          have hid : id < σ.length := (List.getElem?_eq_some_iff.1 g1).1
          exact .inr ⟨id, o, L, by rw [hσ2 id hid hj]; exact g1, g2, by rw [hl1 id hid]; exact g3, g4, g5⟩
      · exact .inr (live4 b h1)
    · rintro (h1 | h1)
      · exact .inl ⟨.inl h1, fun h2 => (hr.out b h1).2 (live2 b h2)⟩
      · rcases live5 b h1 with h2 | ⟨id, o, L, k1, k2, k3, k4, k5, k6, rfl⟩
        · exact .inr h2
        · exact .inl ⟨.inr ⟨id, o, L, k3, k4, k5, k6, rfl⟩, notlive id o L k2 k3 k4 k5 k6⟩
  have hold : ∀ b, liveB (afterCall σ js σs') loc' b → liveB σ loc b ∨ w.heap.size ≤ b := by
    intro b hb
    rcases live5 b hb with h2 | ⟨id, o, L, k1, k2, k3, k4, k5, k6, rfl⟩
    · exact (ho.old b h2).imp (live2 b) id
    · exact .inl ⟨id, o, L, k3, k4, k5, k6, rfl⟩
  have hev : Ev (liveB σ loc) w w' := ⟨ho.ev.size, fun b hb hn => ho.ev.blk b hb fun h1 => hn (live2 b h1), ho.ev.os, ho.ev.tape, ho.ev.output⟩
  have hlocs' : ∀ id L, loc id = some L → loc' id = some L := by
    intro id L h1
    by_cases hid : id < σ.length
    · rw [hl1 id hid]; exact h1
    · rw [hr.beyond id (by omega)] at h1; cases h1
  refine ⟨v, loc', he, ⟨hlocs', ?_, ?_, hev, hold⟩, hl1⟩
  · refine hr.change hlocs' hev hold (fun id hid => ?_) (fun id o g1 g2 => ?_) (fun i j a b La Lb hij g1 g2 g3 g4 g5 g6 g7 g8 => ?_)
    · rw [hlen'] at hid
      rw [hl2 id (by omega)]
      exact ho.rel.beyond _ (by omega)
    · rcases hcase id o g1 with ⟨i, o', k1, rfl, k3, _⟩ | ⟨k1, k2, k3, k4⟩
      · obtain ⟨L, m1, m2⟩ := ho.rel.obj i o' k1 (by rw [live_renO] at g2; exact g2)
        exact .inr ⟨L, by rw [k3]; exact m1, (ObjR_ren (E' := envOf Xs locs' σs' w') (E := envOf X loc' (afterCall σ js σs') w') (r := rn js σ.length) hlr rfl hF2 L o').1 m2⟩
      · refine .inl ⟨k3, fun L m1 m2 => ho.ev.blk _ (liveB.lt hr ⟨id, o, L, k3, g2, m1, m2, rfl⟩) (notlive id o L k2 k3 g2 m1 m2)⟩
    · rcases hcase i a g1 with ⟨i', a', k1, rfl, k3, k4⟩ | ⟨k1, k2, k3, k4⟩ <;> rcases hcase j b g2 with ⟨j', b', q1, rfl, q3, q4⟩ | ⟨q1, q2, q3, q4⟩
      · rw [live_renO] at g3 g4
        exact ho.rel.apart i' j' a' b' La Lb (by rintro rfl; exact hij (k4.trans q4.symm)) k1 q1 g3 g4 (by rw [← k3]; exact g5) (by rw [← q3]; exact g6) g7 g8
      · rw [live_renO] at g3
        rw [q4] at g6
        intro e1
        rcases ho.old La.blk ⟨i', a', La, k1, g3, by rw [← k3]; exact g5, g7, rfl⟩ with h1 | h1
        · exact notlive j b Lb q2 q3 g4 g6 g8 (by rw [← e1]; exact h1)
        · have := liveB.lt hr ⟨j, b, Lb, q3, g4, g6, g8, rfl⟩; omega
      · rw [live_renO] at g4
        rw [k4] at g5
        intro e1
        rcases ho.old Lb.blk ⟨j', b', Lb, q1, g4, by rw [← q3]; exact g6, g8, rfl⟩ with h1 | h1
        · exact notlive i a La k2 k3 g3 g5 g7 (by rw [e1]; exact h1)
        · have := liveB.lt hr ⟨i, a, La, k3, g3, g5, g7, rfl⟩; omega
      · rw [k4] at g5
        rw [q4] at g6
        exact hr.apart i j a b La Lb hij k3 q3 g3 g4 g5 g6 g7 g8
  · exact (Rl_ren (E' := envOf Xs locs' σs' w') (E := envOf X loc' (afterCall σ js σs') w') (r := rn js σ.length) hlr rfl hF2 r v).1 ho.val
/-- A call that makes one object in the place n. -/
theorem ACall.frameS {n : Nat} {f : FuncId} {args : List AV} {r : AV} (h : ACall P f args σs r σs') (hr : Rel X loc σ w) (hp : PickS σ js (js ++ [n]) σs) (hn : loc n = none) (hlen1 : σs'.length = js.length + 1) {vs : List Value} (hv : RlS (envOf X loc σ w) (renL (rn (js ++ [n]) σ.length) args) vs) :
    Calls P f vs.toArray w fun e w' => ∃ v loc', e = .returned v ∧ Out X loc σ w (ren (rn (js ++ [n]) σ.length) r) (afterCall σ (js ++ [n]) σs') v w' loc' ∧ ∀ id, id ≠ n → loc' id = loc id := by
  obtain ⟨_, hlen, hcall⟩ := h
  obtain ⟨hjl, hndJ, hjsJ, hobj⟩ := hp
  have hnd : js.Nodup := (List.nodup_append.1 hndJ).1
  have hjs : ∀ j ∈ js, j < σ.length := fun j hj => hjsJ j (List.mem_append_left _ hj)
  have hnl : n < σ.length := hjsJ n (by simp)
  have hnj : ∀ j ∈ js, j ≠ n := fun j hj e => (List.nodup_append.1 hndJ).2.2 j hj n (by simp) e
  have hR : ∀ i j : Nat, js[i]? = some j → rn (js ++ [n]) σ.length i = j := fun i j hij => by simp [rn, List.getD, List.getElem?_append_left (List.getElem?_eq_some_iff.1 hij).1, hij]
  have hRn : rn (js ++ [n]) σ.length js.length = n := by simp [rn, List.getD]
  have hR2 : ∀ i : Nat, js.length < i → rn (js ++ [n]) σ.length i = σ.length + (i - (js.length + 1)) := fun i hi => by simp [rn, List.getD, List.getElem?_eq_none (l := js ++ [n]) (i := i) (by simp; omega)]
  let locs : Nat → Option Loc := fun i => loc (rn (js ++ [n]) σ.length i)
  have hlocs : ∀ i, locs i = loc (rn (js ++ [n]) σ.length i) := fun _ => rfl
  -- live blocks of the objects that are handed on
  have live1 : ∀ b, liveB σs locs b → ∃ (i j : Nat) (o : AObj) (L : Loc), js[i]? = some j ∧ σs[i]? = some o ∧ o.live = true ∧ σ[j]? = some (renO (rn (js ++ [n]) σ.length) o) ∧ loc j = some L ∧ L.has = true ∧ L.blk = b := by
    rintro b ⟨i, o, L, g1, g2, g3, g4, g5⟩
    have hi : i < js.length := by rw [hjl]; exact (List.getElem?_eq_some_iff.1 g1).1
    have hij : js[i]? = some js[i] := List.getElem?_eq_getElem hi
    refine ⟨i, js[i], o, L, hij, g1, g2, by rw [hobj i _ hij, g1]; rfl, ?_, g4, g5⟩
    rw [hlocs, hR i _ hij] at g3
    exact g3
  have live2 : ∀ b, liveB σs locs b → liveB σ loc b := fun b hb => by
    obtain ⟨i, j, o, L, g1, g2, g3, g4, g5, g6, g7⟩ := live1 b hb
    exact ⟨j, _, L, g4, by rw [live_renO]; exact g3, g5, g6, g7⟩
  have live3 : ∀ (i j : Nat) (o : AObj) (L : Loc), js[i]? = some j → σ[j]? = some o → o.live = true → loc j = some L → L.has = true → liveB σs locs L.blk := by
    intro i j o L g1 g2 g3 g4 g5
    have hi : i < σs.length := by rw [← hjl]; exact (List.getElem?_eq_some_iff.1 g1).1
    have g6 := hobj i j g1
    rw [g2, List.getElem?_eq_getElem hi] at g6
    simp only [Option.map_some, Option.some.injEq] at g6
    refine ⟨i, σs[i], L, List.getElem?_eq_getElem hi, ?_, by rw [hlocs, hR i j g1]; exact g4, g5, rfl⟩
    rw [← live_renO (rn (js ++ [n]) σ.length), ← g6]; exact g3
  let Xs : Nat → Prop := fun b => forb X σ loc b ∧ ¬ liveB σs locs b
  have hF1 : forb Xs σs locs = forb X σ loc := by
    funext b
    apply propext
    constructor
    · rintro (⟨h1, _⟩ | h1)
      · exact h1
      · exact .inr (live2 b h1)
    · intro h1
      by_cases h2 : liveB σs locs b
      · exact .inr h2
      · exact .inl ⟨h1, h2⟩
  have hrs : Rel Xs locs σs w := by
    refine ⟨fun i o g1 g2 => ?_, fun i j a b La Lb hij g1 g2 g3 g4 g5 g6 g7 g8 => ?_, fun b hb => ⟨?_, hb.2⟩, fun i hi => ?_⟩
    · have hi : i < js.length := by rw [hjl]; exact (List.getElem?_eq_some_iff.1 g1).1
      have hij : js[i]? = some js[i] := List.getElem?_eq_getElem hi
      have g3 : σ[js[i]]? = some (renO (rn (js ++ [n]) σ.length) o) := by rw [hobj i _ hij, g1]; rfl
      obtain ⟨L, g4, g5⟩ := hr.obj js[i] _ g3 (by rw [live_renO]; exact g2)
      exact ⟨L, by rw [hlocs, hR i _ hij]; exact g4, (ObjR_ren (E' := envOf Xs locs σs w) (E := envOf X loc σ w) (r := rn (js ++ [n]) σ.length) hlocs rfl hF1 L o).2 g5⟩
    · have hi : i < js.length := by rw [hjl]; exact (List.getElem?_eq_some_iff.1 g1).1
      have hj : j < js.length := by rw [hjl]; exact (List.getElem?_eq_some_iff.1 g2).1
      have e1 : js[i]? = some js[i] := List.getElem?_eq_getElem hi
      have e2 : js[j]? = some js[j] := List.getElem?_eq_getElem hj
      rw [hlocs, hR i _ e1] at g5
      rw [hlocs, hR j _ e2] at g6
      refine hr.apart js[i] js[j] _ _ La Lb (fun e => hij ((List.getElem_inj hnd).1 e)) (by rw [hobj i _ e1, g1]; rfl) (by rw [hobj j _ e2, g2]; rfl) (by rw [live_renO]; exact g3) (by rw [live_renO]; exact g4) g5 g6 g7 g8
    · rcases hb.1 with h1 | h1
      · exact (hr.out b h1).1
      · exact liveB.lt hr h1
    · rw [hlocs]
      rcases Nat.eq_or_lt_of_le (show js.length ≤ i by omega) with e | e
      · rw [← e, hRn]; exact hn
      · rw [hR2 i e]
        exact hr.beyond _ (by omega)
  have hvs : RlS (envOf Xs locs σs w) args vs := (RlS_ren (E' := envOf Xs locs σs w) (E := envOf X loc σ w) (r := rn (js ++ [n]) σ.length) hlocs rfl hF1 args vs).2 hv
  refine (hcall Xs locs w vs hrs hvs).mono fun e w' ⟨v, locs', he, ho, hkeep⟩ => ?_
  let loc' : Nat → Option Loc := fun id => if id = n then locs' js.length else loc id
  have hl1 : ∀ id, id ≠ n → loc' id = loc id := fun id hid => by simp [loc', hid]
  have hl2 : loc' n = locs' js.length := by simp [loc']
  have hlr : ∀ i, locs' i = loc' (rn (js ++ [n]) σ.length i) := by
    intro i
    by_cases hi : i < js.length
    · have e1 : js[i]? = some js[i] := List.getElem?_eq_getElem hi
      rw [hR i _ e1, hl1 _ (hnj _ (List.getElem_mem hi)), hkeep i (by omega), hlocs, hR i _ e1]
    · rcases Nat.eq_or_lt_of_le (Nat.le_of_not_lt hi) with e | e
      · rw [← e, hRn, hl2]
      · rw [hR2 i e, hl1 _ (by omega), hr.beyond _ (by omega)]
        exact ho.rel.beyond _ (by omega)
  have hJl : (js ++ [n]).length = js.length + 1 := by simp
  have hσ1 : ∀ (i j : Nat) (o : AObj), (js ++ [n])[i]? = some j → σs'[i]? = some o → (afterCall σ (js ++ [n]) σs')[j]? = some (renO (rn (js ++ [n]) σ.length) o) := by
    intro i j o g1 g2
    have hi : i < js.length + 1 := by rw [← hJl]; exact (List.getElem?_eq_some_iff.1 g1).1
    unfold afterCall
    rw [List.getElem?_append_left (by rw [length_putAll]; exact hjsJ j (List.mem_of_getElem? g1))]
    exact putAll_mem (js ++ [n]) _ σ hndJ hjsJ i j _ g1 (by rw [List.getElem?_map, List.getElem?_take, if_pos (by rw [hJl]; exact hi), g2]; rfl)
  have hσ2 : ∀ id, id < σ.length → id ∉ js ++ [n] → (afterCall σ (js ++ [n]) σs')[id]? = σ[id]? := by
    intro id h1 h2
    unfold afterCall
    rw [List.getElem?_append_left (by rw [length_putAll]; exact h1), putAll_ne _ _ _ _ h2]
  have hlen' : (afterCall σ (js ++ [n]) σs').length = σ.length := by simp [afterCall, hlen1]
  -- an object behind the call: one of the callee's, or an old one
  have hRJ : ∀ i j : Nat, (js ++ [n])[i]? = some j → rn (js ++ [n]) σ.length i = j := fun i j hij => by simp [rn, List.getD, hij]
  have hcase : ∀ (id : Nat) (o : AObj), (afterCall σ (js ++ [n]) σs')[id]? = some o → (∃ (i : Nat) (o' : AObj), σs'[i]? = some o' ∧ o = renO (rn (js ++ [n]) σ.length) o' ∧ loc' id = locs' i ∧ id = rn (js ++ [n]) σ.length i) ∨ (id < σ.length ∧ id ∉ js ++ [n] ∧ σ[id]? = some o ∧ loc' id = loc id) := by
    intro id o g1
    have hid : id < σ.length := by rw [← hlen']; exact (List.getElem?_eq_some_iff.1 g1).1
    by_cases hj : id ∈ js ++ [n]
    · obtain ⟨i, hi, e⟩ := List.getElem_of_mem hj
      have e1 : (js ++ [n])[i]? = some id := by rw [List.getElem?_eq_getElem hi, e]
      have hi' : i < σs'.length := by rw [hlen1, ← hJl]; exact hi
      have g2 := hσ1 i id σs'[i] e1 (List.getElem?_eq_getElem hi')
      rw [g1] at g2
      exact .inl ⟨i, σs'[i], List.getElem?_eq_getElem hi', Option.some.inj g2, by rw [hlr i, hRJ i _ e1], (hRJ i _ e1).symm⟩
    · rw [hσ2 id hid hj] at g1
      exact .inr ⟨hid, hj, g1, hl1 id fun e => hj (by simp [e])⟩
  have hback : ∀ (i : Nat) (o : AObj), σs'[i]? = some o → (afterCall σ (js ++ [n]) σs')[rn (js ++ [n]) σ.length i]? = some (renO (rn (js ++ [n]) σ.length) o) := by
    intro i o g1
    have hi : i < (js ++ [n]).length := by rw [hJl, ← hlen1]; exact (List.getElem?_eq_some_iff.1 g1).1
    have e1 : (js ++ [n])[i]? = some (js ++ [n])[i] := List.getElem?_eq_getElem hi
    rw [hRJ i _ e1]
    exact hσ1 i _ o e1 g1
  have live4 : ∀ b, liveB σs' locs' b → liveB (afterCall σ (js ++ [n]) σs') loc' b := by
    rintro b ⟨i, o, L, g1, g2, g3, g4, g5⟩
    exact ⟨rn (js ++ [n]) σ.length i, _, L, hback i o g1, by rw [live_renO]; exact g2, by rw [← hlr]; exact g3, g4, g5⟩
  have live5 : ∀ b, liveB (afterCall σ (js ++ [n]) σs') loc' b → liveB σs' locs' b ∨ ∃ (id : Nat) (o : AObj) (L : Loc), id < σ.length ∧ id ∉ js ++ [n] ∧ σ[id]? = some o ∧ o.live = true ∧ loc id = some L ∧ L.has = true ∧ L.blk = b := by
    rintro b ⟨id, o, L, g1, g2, g3, g4, g5⟩
    rcases hcase id o g1 with ⟨i, o', k1, rfl, k3, _⟩ | ⟨k1, k2, k3, k4⟩
    · exact .inl ⟨i, o', L, k1, by rw [live_renO] at g2; exact g2, by rw [← k3]; exact g3, g4, g5⟩
    · exact .inr ⟨id, o, L, k1, k2, k3, g2, by rw [← k4]; exact g3, g4, g5⟩
  have notlive : ∀ (id : Nat) (o : AObj) (L : Loc), id ∉ js → σ[id]? = some o → o.live = true → loc id = some L → L.has = true → ¬ liveB σs locs L.blk := by
    intro id o L h1 h2 h3 h4 h5 h6
    obtain ⟨i, j, o', L', g1, g2, g3, g4, g5, g6, g7⟩ := live1 _ h6
    exact hr.apart j id _ o L' L (by rintro rfl; exact h1 (List.mem_of_getElem? g1)) g4 h2 (by rw [live_renO]; exact g3) h3 g5 h4 g6 h5 g7
  have hF2 : forb Xs σs' locs' = forb X (afterCall σ (js ++ [n]) σs') loc' := by
    funext b
    apply propext
    constructor
    · rintro (⟨h1, h2⟩ | h1)
      · rcases h1 with h1 | ⟨id, o, L, g1, g2, g3, g4, g5⟩
        · exact .inl h1
        · have hjn : id ≠ n := by rintro rfl; rw [hn] at g3; cases g3
          have hj : id ∉ js ++ [n] := by
            intro hj
            rcases List.mem_append.1 hj with hj | hj
            · obtain ⟨i, hi, rfl⟩ := List.getElem_of_mem hj
              exact h2 (by rw [← g5]; exact live3 i _ o L (List.getElem?_eq_getElem hi) g1 g2 g3 g4)
            · exact hjn (by simpa using hj)
          have hid : id < σ.length := (List.getElem?_eq_some_iff.1 g1).1
          exact .inr ⟨id, o, L, by rw [hσ2 id hid hj]; exact g1, g2, by rw [hl1 id hjn]; exact g3, g4, g5⟩
      · exact .inr (live4 b h1)
    · rintro (h1 | h1)
      · exact .inl ⟨.inl h1, fun h2 => (hr.out b h1).2 (live2 b h2)⟩
      · rcases live5 b h1 with h2 | ⟨id, o, L, k1, k2, k3, k4, k5, k6, rfl⟩
        · exact .inr h2
        · exact .inl ⟨.inr ⟨id, o, L, k3, k4, k5, k6, rfl⟩, notlive id o L (fun hh => k2 (List.mem_append_left _ hh)) k3 k4 k5 k6⟩
  have hold : ∀ b, liveB (afterCall σ (js ++ [n]) σs') loc' b → liveB σ loc b ∨ w.heap.size ≤ b := by
    intro b hb
    rcases live5 b hb with h2 | ⟨id, o, L, k1, k2, k3, k4, k5, k6, rfl⟩
    · exact (ho.old b h2).imp (live2 b) id
    · exact .inl ⟨id, o, L, k3, k4, k5, k6, rfl⟩
  have hev : Ev (liveB σ loc) w w' := ⟨ho.ev.size, fun b hb hn => ho.ev.blk b hb fun h1 => hn (live2 b h1), ho.ev.os, ho.ev.tape, ho.ev.output⟩
  have hlocs' : ∀ id L, loc id = some L → loc' id = some L := by
    intro id L h1
    by_cases hid : id = n
    · subst hid; rw [hn] at h1; cases h1
    · rw [hl1 id hid]; exact h1
  refine ⟨v, loc', he, ⟨hlocs', ?_, ?_, hev, hold⟩, hl1⟩
  · refine hr.change hlocs' hev hold (fun id hid => ?_) (fun id o g1 g2 => ?_) (fun i j a b La Lb hij g1 g2 g3 g4 g5 g6 g7 g8 => ?_)
    · rw [hlen'] at hid
      rw [hl1 id (by omega)]
      exact hr.beyond _ hid
    · rcases hcase id o g1 with ⟨i, o', k1, rfl, k3, _⟩ | ⟨k1, k2, k3, k4⟩
      · obtain ⟨L, m1, m2⟩ := ho.rel.obj i o' k1 (by rw [live_renO] at g2; exact g2)
        exact .inr ⟨L, by rw [k3]; exact m1, (ObjR_ren (E' := envOf Xs locs' σs' w') (E := envOf X loc' (afterCall σ (js ++ [n]) σs') w') (r := rn (js ++ [n]) σ.length) hlr rfl hF2 L o').1 m2⟩
      · refine .inl ⟨k3, fun L m1 m2 => ho.ev.blk _ (liveB.lt hr ⟨id, o, L, k3, g2, m1, m2, rfl⟩) (notlive id o L (fun hh => k2 (List.mem_append_left _ hh)) k3 g2 m1 m2)⟩
    · rcases hcase i a g1 with ⟨i', a', k1, rfl, k3, k4⟩ | ⟨k1, k2, k3, k4⟩ <;> rcases hcase j b g2 with ⟨j', b', q1, rfl, q3, q4⟩ | ⟨q1, q2, q3, q4⟩
      · rw [live_renO] at g3 g4
        exact ho.rel.apart i' j' a' b' La Lb (by rintro rfl; exact hij (k4.trans q4.symm)) k1 q1 g3 g4 (by rw [← k3]; exact g5) (by rw [← q3]; exact g6) g7 g8
      · rw [live_renO] at g3
        rw [q4] at g6
        intro e1
        rcases ho.old La.blk ⟨i', a', La, k1, g3, by rw [← k3]; exact g5, g7, rfl⟩ with h1 | h1
        · exact notlive j b Lb (fun hh => q2 (List.mem_append_left _ hh)) q3 g4 g6 g8 (by rw [← e1]; exact h1)
        · have := liveB.lt hr ⟨j, b, Lb, q3, g4, g6, g8, rfl⟩; omega
      · rw [live_renO] at g4
        rw [k4] at g5
        intro e1
        rcases ho.old Lb.blk ⟨j', b', Lb, q1, g4, by rw [← q3]; exact g6, g8, rfl⟩ with h1 | h1
        · exact notlive i a La (fun hh => k2 (List.mem_append_left _ hh)) k3 g3 g5 g7 (by rw [e1]; exact h1)
        · have := liveB.lt hr ⟨i, a, La, k3, g3, g5, g7, rfl⟩; omega
      · rw [k4] at g5
        rw [q4] at g6
        exact hr.apart i j a b La Lb hij k3 q3 g3 g4 g5 g6 g7 g8
  · exact (Rl_ren (E' := envOf Xs locs' σs' w') (E := envOf X loc' (afterCall σ (js ++ [n]) σs') w') (r := rn (js ++ [n]) σ.length) hlr rfl hF2 r v).1 ho.val
end
end Go.FH
