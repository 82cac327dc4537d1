/-
  The abstract walk, part 13: bodies. It holds of any program.
-/
import Derived.Test.YtachiahepppajaaBc
import Derived.Lib.LazyBuf
namespace Go.FH
set_option linter.unusedVariables false
set_option linter.unusedSimpArgs false
open Go Go.RowKit

inductive ACode where
  | skip
  | reg (ops : List AOpr)
  | dreg (ops : List (AOpr × Nat))
  | seq (a b : ACode)
  | cond (c : Opd) (a b : ACode)
  | block (id : Nat) (b : ACode)
  | loop (b : ACode)
  | exit (id : Nat)
  | ret

def dstOk (nt : Nat) : Option Nat → Bool
  | some d => decide (d < nt)
  | none => true
/-- One operation of a region. -/
def convOpr (P : Program) (nt : Nat) (ops : List Oper) (o : Oper) : Option AOpr :=
  match convOp P o.op, dstOk nt o.dst, o.guard with
  | some op, true, none => some ⟨o.dst, op, none⟩
  | some op, true, some (j, want) => match (ops[j]?).bind (·.dst) with
    | some t => some ⟨o.dst, op, some (t, want)⟩
    | none => none
  | _, _, _ => none
theorem convOpr_spec {P : Program} {nt : Nat} {all : List Oper} {o : Oper} {ao : AOpr} (hc : convOpr P nt all o = some ao) : convOp P o.op = some ao.op ∧ ao.dst = o.dst ∧ (∀ t, o.dst = some t → t < nt) ∧
    ((o.guard = none ∧ ao.gd = none) ∨ ∃ j want t, o.guard = some (j, want) ∧ (all[j]?).bind (·.dst) = some t ∧ ao.gd = some (t, want)) := by
  have hd : dstOk nt o.dst = true → ∀ t, o.dst = some t → t < nt := by
    intro h t ht
    rw [ht] at h
    simpa [dstOk] using h
  unfold convOpr at hc
  split at hc
  · rename_i op h1 h2 h3
    simp only [Option.some.injEq] at hc
    subst hc
    exact ⟨h1, rfl, hd h2, .inl ⟨h3, rfl⟩⟩
  · rename_i op j want h1 h2 h3
    split at hc
    · rename_i t ht
      simp only [Option.some.injEq] at hc
      subst hc
      exact ⟨h1, rfl, hd h2, .inr ⟨j, want, t, h3, ht, rfl⟩⟩
    · cases hc
  · cases hc
def convOprs (P : Program) (nt : Nat) (all : List Oper) : List Oper → Option (List AOpr)
  | [] => some []
  | o :: r => match convOpr P nt all o, convOprs P nt all r with
    | some a, some b => some (a :: b)
    | _, _ => none
/-- The operands of an operation. -/
def AOp.opds : AOp → List Opd
  | .mv x | .un _ x | .cvt _ x | .b2s x | .nilc x | .fld _ _ _ x | .fldA _ x | .ld _ _ x | .box _ x | .ext _ x | .len _ x | .cap x | .isn _ x => [x]
  | .pick c a b => [c, a, b]
  | .bin _ x y | .eqv _ _ x y | .eqa _ _ x y | .idx _ _ _ x y | .idxA _ _ x y | .idxS _ x y | .sto _ x y | .mk _ _ _ x y | .app _ _ x y | .cpy _ x y => [x, y]
  | .new _ => []
  | .bld _ ps => ps.map (·.2.2)
  | .bldS _ _ _ ps => ps.map (·.2)
  | .sli _ x lo hi m' => x :: (lo.toList ++ hi.toList ++ m'.toList)
  | .sliA _ _ x lo hi => x :: (lo.toList ++ hi.toList)
  | .mn xs | .mx xs => xs
  | .mkf _ xs => xs
  | .call g xs => g :: xs
/-- The slots that an operation looks at. -/
def AOpr.looks (o : AOpr) : List Nat := (o.op.opds.filterMap fun | .t n => some n | .c _ => none) ++ (match o.gd with | some (t, _) => [t] | none => [])
def apartA (x y : AOpr) : Bool :=
  (match x.dst with
   | some d => !y.looks.contains d && y.dst != some d
   | none => true) &&
  (match y.dst with
   | some d => !x.looks.contains d && x.dst != some d
   | none => true)
/-- The edges of an operation, its predecessors. -/
def predsOf (o : Oper) : List Nat := (o.after.toList.filter (Region.binds .any)).map (·.on)
/-- For each operation the set of those that come before it in every order (as the bits of a number). -/
def befs : List Oper → List Nat → List Nat
  | [], acc => acc
  | o :: r, acc => befs r (acc ++ [(predsOf o).foldl (fun s e => s ||| 2 ^ e ||| acc.getD e 0) 0])
def allBelow (n : Nat) (f : Nat → Bool) : Bool := (List.range n).all f
/-- What is asked of a region that draws its order. -/
def drawOk (ops : List Oper) (als : List AOpr) (bf : List Nat) : Bool :=
  bf.length == ops.length && als.length == ops.length &&
  (allBelow ops.length fun j => (predsOf (ops.getD j default)).all fun e => decide (e < j)) &&
  (allBelow ops.length fun j => allBelow ops.length fun i => !(bf.getD j 0).testBit i || (predsOf (ops.getD j default)).any fun e => e == i || (bf.getD e 0).testBit i) &&
  (allBelow ops.length fun j => allBelow j fun i => (bf.getD j 0).testBit i || apartA (als.getD i default) (als.getD j default))
def convC (P : Program) (nt : Nat) : Code → Option ACode
  | .skip => some .skip
  | .region _ ops draw => match convOprs P nt ops.toList ops.toList with
    | some l => if draw then (if drawOk ops.toList l (befs ops.toList []) = true ∧ P.follows .mixedOrders = true then some (.dreg (l.zip (befs ops.toList []))) else none) else some (.reg l)
    | none => none
  | .seq a b => match convC P nt a, convC P nt b with
    | some x, some y => some (.seq x y)
    | _, _ => none
  | .cond c a b => match convOpd c, convC P nt a, convC P nt b with
    | some c, some x, some y => some (.cond c x y)
    | _, _, _ => none
  | .block id b => (convC P nt b).map (.block id)
  | .loop b => (convC P nt b).map .loop
  | .exit id => some (.exit id)
  | .ret => some .ret
  | _ => none

inductive Ex where
  | normal
  | exit (id : Nat)
  | ret
def Ex.to : Ex → Exit
  | .normal => .normal
  | .exit id => .exit id
  | .ret => .ret

/-- A call, at its operands. -/
def callStep (P : Program) (g : AV) (xs : List AV) (σ : St) (K : AV → St → Prop) : Prop := match g with
  | .fn (.func f) caps => ∃ (args : List AV) (σs : St) (r : AV) (σs' : St) (js : List Nat), ACall P f args σs r σs' ∧ xs ++ caps = renL (rn js σ.length) args ∧ Picks σ js σs ∧ K (ren (rn js σ.length) r) (afterCall σ js σs')
  | _ => False
/-- Is a slice nil: of an empty one it can't be told. -/
def isnStep (neg : Bool) (x : AV) (σ : St) (K : AV → St → Prop) : Prop := match x with
  | .sl _ _ xs => ∀ b : Bool, (b = true → xs = []) → K (.bool (b != neg)) σ
  | .hs _ _ _ len => ∀ b : Bool, (b = true → len = 0) → K (.bool (b != neg)) σ
  | _ => False
def aDo (P : Program) (op : AOp) (fr : Fr) (σ : St) (K : AV → St → Prop) : Prop := match op with
  | .call g xs => callStep P (g.ev fr) (xs.map (Opd.ev fr)) σ K
  | .isn neg x => isnStep neg (x.ev fr) σ K
  | op => if op.allocs then opF σ.length (σ ++ [.gone]) (Opd.ev fr) (fun av _ _ σ' => K av σ') op else opF 0 σ (Opd.ev fr) (fun av _ _ σ' => K av σ') op
def aGd (gd : Option (Nat × Bool)) (fr : Fr) (yes no : Fr → Prop) : Prop := match gd with
  | none => yes fr
  | some (t, want) => match fr.get t with
    | .bool b => (b = want → yes (fr.put t (.bool want))) ∧ (b = !want → no (fr.put t (.bool !want)))
    | .tup [] => no fr
    | _ => False
def aRun (P : Program) : List AOpr → (Fr → St → Prop) → Fr → St → Prop
  | [], Q, fr, σ => Q fr σ
  | o :: r, Q, fr, σ => aGd o.gd fr (fun fr => aDo P o.op fr σ fun av σ' => aRun P r Q (fr.putO o.dst av) σ') (fun fr => aRun P r Q (fr.putO o.dst (.tup [])) σ)

section
variable {P : Program} {C : Cx} {nt k : Nat} {fr : Fr} {σ : St} {loc : Nat → Option Loc} {a : Act} {w : World}

theorem SR.pad (h : SR C nt k fr σ loc a w) (l : Nat) : SR C nt k fr (σ ++ List.replicate l .gone) loc a w := by
  have hl : ∀ b, liveB (σ ++ List.replicate l .gone) loc b ↔ liveB σ loc b := by
    intro b
    constructor
    · rintro ⟨id, o, L, g1, g2, g3⟩
      rcases Nat.lt_or_ge id σ.length with h1 | h1
      · rw [List.getElem?_append_left h1] at g1
        exact ⟨id, o, L, g1, g2, g3⟩
      · rw [List.getElem?_append_right h1] at g1
        have := List.mem_of_getElem? g1
        rw [(List.mem_replicate.1 this).2] at g2
        cases g2
    · rintro ⟨id, o, L, g1, g2, g3⟩
      exact ⟨id, o, L, by rw [List.getElem?_append_left (List.getElem?_eq_some_iff.1 g1).1]; exact g1, g2, g3⟩
  have hF : forb C.X (σ ++ List.replicate l .gone) loc = forb C.X σ loc := by funext b; unfold forb; rw [hl b]
  have hget : ∀ (id : Nat) (o : AObj), (σ ++ List.replicate l .gone)[id]? = some o → o.live = true → σ[id]? = some o := by
    intro id o g1 g2
    rcases Nat.lt_or_ge id σ.length with h1 | h1
    · rw [List.getElem?_append_left h1] at g1; exact g1
    · rw [List.getElem?_append_right h1] at g1
      rw [(List.mem_replicate.1 (List.mem_of_getElem? g1)).2] at g2
      cases g2
  refine ⟨⟨fun id o g1 g2 => ?_, fun i j x y La Lb hij g1 g2 g3 g4 => h.rel.apart i j x y La Lb hij (hget i x g1 g3) (hget j y g2 g4) g3 g4, fun b hb => ?_, fun id hid => ?_⟩, fun t => ?_, h.size, h.dfr, h.ev, fun b hb => h.old b ((hl b).1 hb), h.pre, by simp; have := h.klen; omega⟩
  · obtain ⟨L, m1, m2⟩ := h.rel.obj id o (hget id o g1 g2) g2
    refine ⟨L, m1, ?_⟩
    show ObjR ⟨loc, forb C.X (σ ++ List.replicate l .gone) loc, w⟩ L o
    rw [hF]; exact m2
  · rw [hl b]; exact h.rel.out b hb
  · exact h.rel.beyond id (by simp at hid; omega)
  · show Rl ⟨loc, forb C.X (σ ++ List.replicate l .gone) loc, w⟩ _ _
    rw [hF]; exact h.frm t

theorem SR.opd (h : SR C nt k fr σ loc a w) : OpdOk (envOf C.X loc σ w) a.eval (Opd.ev fr) := fun x y hx => convOpd_eval h.frm hx
/-- A slot's value, said otherwise. -/
theorem SR.putSame (h : SR C nt k fr σ loc a w) (t : Nat) (v : AV) (hv : Rl (envOf C.X loc σ w) v (a.tmps.getD t undef)) : SR C nt k (fr.put t v) σ loc a w :=
  ⟨h.rel, fun u => by
    by_cases htu : t = u
    · subst htu
      rcases Fr.get_put_same fr t v with h1 | h1
      · rw [h1]; exact hv
      · rw [h1]; trivial
    · rw [Fr.get_put_ne fr v htu]; exact h.frm u, h.size, h.dfr, h.ev, h.old, h.pre, h.klen⟩
theorem SR.skip (h : SR C nt k fr σ loc a w) (dst : Option Nat) (hd : ∀ t, dst = some t → t < nt) : SR C nt k (fr.putO dst (.tup [])) σ loc (a.put dst undef) w :=
  h.step (loc' := loc) (show Out C.X loc σ w (.tup []) σ undef w loc from ⟨fun _ _ h => h, h.rel, ⟨[], rfl, rfl⟩, Ev.refl _ _, fun _ h => .inl h⟩) (fun _ _ => rfl) (Nat.le_refl _) dst hd

theorem resolve_run {ρ : Operand → Value} {c : Operand} {xs : Array Operand} {ats : Array TypeId} {ty : TypeId} {f : FuncId} {caps : Array Value} (hc : ρ c = .func (.func f) #[] caps) (hf : callable P f = true) (dst : Option Tmp) (pos : String) (aft : Array Edge) (gd : Option (Nat × Bool)) :
    (execOp ρ ⟨dst, .call { callee := .value c, args := xs, argTypes := ats }, ty, pos, aft, gd⟩).run P w = .ok (.enter f (xs.map ρ ++ caps)) w := by
  unfold callable at hf
  split at hf
  · rename_i fn hfn
    rw [Bool.and_eq_true] at hf
    obtain ⟨h1, h2⟩ := hf
    have h1' : (fn.name == "runtime.NumGoroutine") = false := by
      simpa using h1
    have h3 : fn.body.isNone = false := by
      cases hb : fn.body with
      | none => rw [hb] at h2; cases h2
      | some b => rfl
    have e : execOp ρ ⟨dst, .call { callee := .value c, args := xs, argTypes := ats }, ty, pos, aft, gd⟩ = (do let d ← resolve ρ { callee := .value c, args := xs, argTypes := ats } ty; invoke d.target d.args : Sem Next) := rfl
    rw [e]
    have hne : ¬ fn.name = "runtime.NumGoroutine" := by simpa using h1'
    simp only [resolve, hc, Deferred.ofValue, invoke, callFunc, Sem.run_bind, Sem.run_pure, Result.andThen_ok, run_program, hfn]
    simp [hne, h3]
  · cases hf

theorem convOp_call {op : Op} {g : Opd} {xs : List Opd} (h : convOp P op = some (.call g xs)) : ∃ c, op = .call c := by
  cases op <;> simp only [convOp, reduceCtorEq] at h
  case call c => exact ⟨c, rfl⟩
  case build t ps =>
    exfalso
    split at h
    · obtain ⟨_, _, h⟩ := Option.bind_eq_some_iff.1 h
      split at h <;> simp at h
    · obtain ⟨_, _, h⟩ := Option.bind_eq_some_iff.1 h
      obtain ⟨_, _, h⟩ := Option.map_eq_some_iff.1 h
      cases h
    · cases h
  all_goals (exfalso; revert h; repeat' split)
  all_goals simp
/-- One operation, guarded or not. -/
theorem convOp_isn {op : Op} {neg : Bool} {a : Opd} (h : convOp P op = some (.isn neg a)) : ∃ t e x yt, op = .binOp (if neg then .neq else .eql) t x (.const (.slice none 0 0)) yt ∧ P.underlying t = some (.slice e) ∧ convOpd x = some a := by
  cases op <;> simp only [convOp] at h
  case binOp op t x y yt =>
    split at h
    · rename_i a' b' h1 h2
      split at h
      case h_8 hu =>
        split at h
        · cases op <;> first | (cases h; done) | (simp only [Option.some.injEq, AOp.isn.injEq] at h; obtain ⟨rfl, rfl⟩ := h; exact ⟨t, _, x, yt, rfl, hu, h1⟩)
        · cases h
      all_goals (exfalso; revert h; (repeat' split) <;> intro h <;> cases h)
    · cases h
  case call c =>
    exfalso
    revert h
    unfold convCall
    (repeat' split) <;> intro h <;> first | (cases h; done) | (obtain ⟨_, _, h⟩ := Option.map_eq_some_iff.1 h; cases h; done)
  all_goals (exfalso; revert h; (repeat' split) <;> intro h <;> first | (cases h; done) | (obtain ⟨_, _, h⟩ := Option.map_eq_some_iff.1 h; cases h; done) | (obtain ⟨_, _, h⟩ := Option.bind_eq_some_iff.1 h; revert h; (repeat' split) <;> intro h <;> first | (cases h; done) | (obtain ⟨_, _, h⟩ := Option.map_eq_some_iff.1 h; cases h; done)))
theorem snd_isn {X : Nat → Prop} {n : Nat} {ρ : Operand → Value} {ρ' : Opd → AV} {o : Oper} {neg : Bool} {x : Opd} {K : AV → St → Prop} (hr : Rel X loc σ w) (hρ : OpdOk (envOf X loc σ w) ρ ρ') (hnc : ∀ v, ρ (.const v) = v) (hc : convOp P o.op = some (.isn neg x)) (h : isnStep neg (ρ' x) σ K) :
    Snd X loc σ w n ((execOp ρ o).run P w) (fun av _ _ σ' => K av σ') := by
  obtain ⟨t, e, y, yt, ho, hu, hy⟩ := convOp_isn hc
  have hv := hρ y x hy
  have hn := hnc (.slice none 0 0)
  have key : ∀ (a : Option Addr) (l c : Nat), ρ y = .slice a l c → (execOp ρ o).run P w = .ok (.value (.bool (a.isNone != neg))) w := by
    intro a l c hyv
    have h1 := Go.run_eql_slice_nil (P := P) w t e a l c hu
    have h2 := Go.run_neq_slice_nil (P := P) w t e a l c hu
    cases neg <;> simp [execOp, ho, hyv, hn, eqGuard, h1, h2]
  unfold isnStep at h
  split at h
  · rename_i e' cl xs hx
    rw [hx] at hv
    obtain ⟨a, l, c, g1, g2, g3, _, _, g5, _⟩ := hv
    refine Snd.of (ft := []) (wr := false) hr (h a.isNone fun hb => ?_) (key a l c g1) rfl
    have : a = none := by simpa using hb
    have := g5 this
    exact List.eq_nil_of_length_eq_zero (by omega)
  · rename_i e' id off len hx
    rw [hx] at hv
    obtain ⟨a, c, L, g1, g2, g3, g5, _⟩ := hv
    refine Snd.of (ft := []) (wr := false) hr (h a.isNone fun hb => ?_) (key a len c g1) rfl
    have : a = none := by simpa using hb
    have := g5 this
    omega
  · exact h.elim

theorem wp_aDo {Q : Exit → Act → World → Prop} {o : Oper} {ao : AOpr} {all : List Oper} (hc : convOpr P nt all o = some ao) {next : Fr → St → Prop} (K : Act → World → Prop)
    (hK : ∀ fr' σ' loc' a' w', next fr' σ' → SR C nt k fr' σ' loc' a' w' → K a' w') (h : SR C nt k fr σ loc a w) (hop : aDo P ao.op fr σ fun av σ' => next (fr.putO ao.dst av) σ') : o.wp P a w K Q := by
  have hs := convOpr_spec hc
  have hop' := hs.1
  have e2 := hs.2.1
  have hd := hs.2.2.1
  clear hs hc
  rw [e2] at hop
  -- a call
  by_cases hcall : ∃ g xs, ao.op = .call g xs
  · obtain ⟨g, xs, hg⟩ := hcall
    rw [hg] at hop hop'
    simp only [aDo] at hop
    obtain ⟨dst, op0, ty, pos, aft, gd⟩ := o
    simp only at hop' hd hop
    obtain ⟨c, rfl⟩ := convOp_call hop'
    simp only [convOp] at hop'
    obtain ⟨callee, args, ats⟩ := c
    unfold convCall at hop'
    split at hop'
    · rename_i f hcf
      simp only at hcf
      subst hcf
      split at hop'
      · rename_i g' ys h1 h2
        simp only [Option.some.injEq, AOp.call.injEq] at hop'
        obtain ⟨rfl, rfl⟩ := hop'
        unfold callStep at hop
        split at hop
        · rename_i f' caps hcaps
          obtain ⟨args', σs, r, σs', js, k1, k2, k3, k4⟩ := hop
          have hv := h.opd f g' h1
          rw [hcaps] at hv
          obtain ⟨cvs, hv1, hv2⟩ := hv
          have hxs := convOpds_eval h.opd h2
          have hall := hxs.app hv2
          rw [k2] at hall
          have hrun := resolve_run (P := P) (w := w) (xs := args) (ats := ats) (ty := ty) hv1 k1.1 dst pos aft gd
          unfold Oper.wp
          rw [hrun, Oper.upon_enter]
          have hfr := ACall.frame k1 h.rel k3 hall
          have e3 : (args.map a.eval ++ cvs.toArray) = (List.map a.eval args.toList ++ cvs).toArray := by
            apply Array.toList_inj.1
            simp
          rw [e3]
          refine hfr.mono fun e w' ⟨v, loc', he, ho, hk⟩ => ?_
          subst he
          refine hK _ _ loc' _ _ k4 (h.step ho (fun id hid => hk id (Nat.lt_of_lt_of_le hid h.klen)) ?_ dst hd)
          unfold afterCall; simp
        · exact hop.elim
      · cases hop'
    · exfalso
      revert hop'
      repeat' split
      all_goals simp
    · cases hop'
  · by_cases hisn : ∃ neg x, ao.op = .isn neg x
    · obtain ⟨neg, x, hg⟩ := hisn
      rw [hg] at hop hop'
      simp only [aDo] at hop
      obtain ⟨av, ft, wr, σ', v, w', loc', k1, k2, k3, k4, k5⟩ := snd_isn (n := σ.length) h.rel h.opd (fun _ => rfl) hop' hop
      have h2 := h.step k3 (fun id hid => k4 id fun e => by have := h.klen; omega) (by omega) o.dst hd
      unfold Oper.wp
      rcases k2 with k2 | ⟨k2, rfl⟩
      · rw [k2]; exact hK _ _ _ _ _ k1 h2
      · rw [k2]; exact hK _ _ _ _ _ k1 h2
    have hop2 : if ao.op.allocs then opF σ.length (σ ++ [.gone]) (Opd.ev fr) (fun av _ _ σ' => next (fr.putO o.dst av) σ') ao.op else opF 0 σ (Opd.ev fr) (fun av _ _ σ' => next (fr.putO o.dst av) σ') ao.op := by
      unfold aDo at hop
      split at hop
      · rename_i g xs hg; exact absurd ⟨g, xs, hg⟩ hcall
      · rename_i neg x hg; exact absurd ⟨neg, x, hg⟩ hisn
      · exact hop
    clear hop
    have fin : ∀ {σ1 : St} {n : Nat}, SR C nt k fr σ1 loc a w → k ≤ n ∨ ao.op.allocs = false → σ.length ≤ σ1.length → Snd C.X loc σ1 w n ((execOp a.eval o).run P w) (fun av _ _ σ' => next (fr.putO o.dst av) σ') → (∀ id, id < k → id = n → False) → o.wp P a w K Q := by
      intro σ1 n h1 _ hl ⟨av, ft, wr, σ', v, w', loc', k1, k2, k3, k4, k5⟩ hkn
      have h2 := h1.step k3 (fun id hid => k4 id fun e => hkn id hid e) (by omega) o.dst hd
      unfold Oper.wp
      rcases k2 with k2 | ⟨k2, rfl⟩
      · rw [k2]; exact hK _ _ _ _ _ k1 h2
      · rw [k2]; exact hK _ _ _ _ _ k1 h2
    by_cases hal : ao.op.allocs = true
    · rw [if_pos hal] at hop2
      have h1 := h.pad 1
      have hgone : (σ ++ [AObj.gone])[σ.length]? = some .gone := by simp
      refine fin h1 (.inl h.klen) (by simp) (op_sound h1.rel h1.opd hop' (fun _ => ⟨by simp, h.rel.beyond _ (Nat.le_refl _), fun o' ho' => ?_⟩) hop2) fun id hid e => ?_
      · have := hgone.symm.trans ho'
        cases this; rfl
      · have := h.klen; omega
    · rw [if_neg hal] at hop2
      have hsnd := op_sound (n := σ.length) h.rel h.opd hop' (fun h' => absurd h' hal) (show opF σ.length σ (Opd.ev fr) (fun av _ _ σ' => next (fr.putO o.dst av) σ') ao.op from by
        revert hop2 hal
        cases ao.op <;> intro hop2 hal <;> first | exact hop2 | exact absurd rfl hal)
      exact fin h (.inr (by simpa using hal)) (Nat.le_refl _) hsnd fun id hid e => by have := h.klen; omega

/-- A guard: carried out or passed over. -/
theorem wanted_of {all : List Oper} {o : Oper} {ao : AOpr} (hc : convOpr P nt all o = some ao) {yes no : Fr → Prop} (h : SR C nt k fr σ loc a w) (hg : aGd ao.gd fr yes no) :
    ∃ fr', SR C nt k fr' σ loc a w ∧ ((Region.wanted o (yielded all.toArray a.tmps) = true ∧ yes fr') ∨ (Region.wanted o (yielded all.toArray a.tmps) = false ∧ no fr')) := by
  rcases (convOpr_spec hc).2.2.2 with ⟨h1, h2⟩ | ⟨j, want, t, h1, h2, h3⟩
  · rw [h2] at hg
    exact ⟨fr, h, .inl ⟨by simp [Region.wanted, h1], hg⟩⟩
  · rw [h3] at hg
    simp only [aGd] at hg
    have hy : yielded all.toArray a.tmps j = match a.tmps[t]? with | some (.bool b) => some b | _ => none := by
      have : ((all.toArray[j]?).bind (·.dst)) = some t := by simpa using h2
      unfold yielded
      rw [this]
      simp only [Option.bind_some]
      cases a.tmps[t]? with
      | none => rfl
      | some v => cases v <;> rfl
    have hslot := h.frm t
    split at hg
    · rename_i b hb
      rw [hb] at hslot
      simp only [Rl] at hslot
      have ht : a.tmps[t]? = some (.bool b) := by
        rw [Array.getD_eq_getD_getElem?] at hslot
        cases hq : a.tmps[t]? with
        | none => rw [hq] at hslot; simp [undef] at hslot
        | some v => rw [hq] at hslot; simp at hslot; rw [hslot]
      by_cases hbw : b = want
      · subst hbw
        exact ⟨_, h.putSame t (.bool b) hslot, .inl ⟨by simp [Region.wanted, h1, hy, ht], hg.1 rfl⟩⟩
      · have hbn : b = !want := by cases b <;> cases want <;> simp_all
        exact ⟨_, h.putSame t (.bool !want) (by rw [← hbn]; exact hslot), .inr ⟨by simp [Region.wanted, h1, hy, ht, hbw], hg.2 hbn⟩⟩
    · rename_i hb
      rw [hb] at hslot
      obtain ⟨vs, hv1, hv2⟩ := hslot
      simp only [RlS] at hv2
      subst hv2
      refine ⟨fr, h, .inr ⟨?_, hg⟩⟩
      have : yielded all.toArray a.tmps j = none := by
        rw [hy]
        rw [Array.getD_eq_getD_getElem?] at hv1
        cases hq : a.tmps[t]? with
        | none => rfl
        | some v => rw [hq] at hv1; simp at hv1; rw [hv1]
      simp [Region.wanted, h1, this]
    · exact hg.elim
end
end Go.FH
