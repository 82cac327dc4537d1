/-
  The abstract walk, part 25: own slices become readable. It holds of any program.
-/
import Derived.Test.YtachiahepppajaaBn
namespace Go.FH
set_option linter.unusedVariables false
set_option linter.unusedSimpArgs false
open Go Go.RowKit

/-- The frame and the objects once the objects zs are no longer written. -/
def fzFr (σ : St) (zs : List Nat) (fr : Fr) : Fr := ⟨fr.nv, fr.vs.map (fz σ zs), []⟩
def fzSt (σ : St) (zs : List Nat) : St := (List.range σ.length).map fun i => if zs.contains i then .gone else fzO σ zs (σ.getD i .gone)
theorem evZ : (∀ σ zs nv vs ts, fzFr σ zs ⟨nv, vs, ts⟩ = ⟨nv, vs.map (fz σ zs), []⟩) := fun _ _ _ _ _ => rfl

section
variable {P : Program} {nt k : Nat} {fr : Fr} {σ : St}
theorem tri_fz {c : ACode} {Q : Ex → Fr → St → Prop} (zs : List Nat) (h : Tri P nt k c Q (fzFr σ zs fr) (fzSt σ zs)) : Tri P nt k c Q fr σ := by
  intro code hc C loc a w hs
  have hk := hs.klen
  have hf : Forget k σ zs (List.range σ.length) (fzSt σ zs) := by
    refine ⟨fun i hi => List.getElem?_range (by omega), List.nodup_range, fun j hj => List.mem_range.1 hj, by simp [fzSt], fun i o ho => ?_⟩
    have hi : i < σ.length := by
      have := (List.getElem?_eq_some_iff.1 ho).1
      simpa [fzSt] using this
    unfold fzSt at ho
    rw [List.getElem?_map, List.getElem?_range hi] at ho
    simp only [Option.map_some, Option.some.injEq] at ho
    split at ho
    · exact .inl ho.symm
    · rename_i hz
      refine .inr ⟨i, List.getElem?_range hi, by simpa using hz, ?_⟩
      rw [rn_range, renO_id, ← ho, List.getElem?_eq_getElem hi, List.getD_eq_getElem?_getD, List.getElem?_eq_getElem hi]
      rfl
  refine tri_forget zs (List.range σ.length) (fzFr σ zs fr) (fzSt σ zs) hf (by simpa using hk) (fun t => ?_) h code hc C loc a w hs
  rw [rn_range, ren_id]
  unfold Fr.get fzFr
  simp only
  split
  · right
    rw [List.getD_eq_getElem?_getD, List.getD_eq_getElem?_getD, List.getElem?_map]
    cases fr.vs[t]? <;> rfl
  · exact .inl rfl

/-- Values that mean the same in every world. -/
def Sc (v : AV) : Prop := ∀ E E' u, Rl E v u → Rl E' v u
/-- A call that only reads its own slices. -/
theorem ACall.borrow {f : FuncId} {args : List AV} {r : AV} (h : PC P f (fzL σ (List.range σ.length) args) r) (hs : Sc r) : ACall P f args σ r σ := by
  refine ⟨h.call.1, Nat.le_refl _, fun X loc w vs hr hv => ?_⟩
  obtain ⟨loc2, g1, g2, g3, g4⟩ := (forget_all σ (List.range σ.length)).rel hr
  have hpu := h.pa
  have hv2 : RlS (envOf X loc2 [] w) (fzL σ (List.range σ.length) args) vs := by
    have key : ∀ {xs : List AV} {us : List Value}, PuL (fzL σ (List.range σ.length) xs) → RlS (envOf X loc σ w) xs us → RlS (envOf X loc2 [] w) (fzL σ (List.range σ.length) xs) us := by
      intro xs
      induction xs with
      | nil => intro us _ hv; exact hv
      | cons a xs ih =>
        intro us hp hv
        obtain ⟨u, us', e, h1, h2⟩ := hv
        exact ⟨u, us', e, g4 a u h1 _ (hp.1.ren _).symm, ih hp.2 h2⟩
    exact key hpu hv
  refine (h.call.2.2 X loc2 w vs g2 hv2).mono ?_
  rintro e w' ⟨v, loc', rfl, ho, _⟩
  have hev : Ev (fun _ => False) w w' := ⟨ho.ev.size, fun b hb _ => ho.ev.blk b hb (fun hd => by obtain ⟨id, o, L, h1, _⟩ := hd; simp at h1), ho.ev.os, ho.ev.tape, ho.ev.output⟩
  obtain ⟨q1, q2⟩ := hr.grow hev
  exact ⟨v, loc, rfl, ⟨fun _ _ h => h, q1, hs _ _ _ ho.val, ⟨hev.size, fun b hb _ => hev.blk b hb (fun h => h), hev.os, hev.tape, hev.output⟩, fun b hb => .inl hb⟩, fun _ _ => rfl⟩
theorem picks_all : Picks σ (List.range σ.length) σ := by
  refine ⟨by simp, List.nodup_range, fun j hj => List.mem_range.1 hj, fun i j hij => ?_⟩
  have hi : i < σ.length := by
    have := (List.getElem?_eq_some_iff.1 hij).1
    simpa using this
  rw [List.getElem?_range hi] at hij
  cases hij
  rw [rn_range, List.getElem?_eq_getElem hi]
  simp [renO_id]
theorem pcallb {f : FuncId} {args args' caps : List AV} {r : AV} {K : AV → St → Prop} (h : PC P f args' r) (ha : fzL σ (List.range σ.length) (args ++ caps) = args') (hs : Sc r) (hk : K r σ) : callStep P (.fn (.func f) caps) args σ K := by
  subst ha
  refine ⟨args ++ caps, σ, r, σ, List.range σ.length, ACall.borrow h hs, ?_, picks_all, ?_⟩
  · rw [rn_range, renL_id]
  · rw [afterCall_same picks_all, rn_range, ren_id]; exact hk
theorem Sc.int (k : IntKind) (n : Int) : Sc (.int k n) := fun _ _ _ h => h
theorem Sc.bool (b : Bool) : Sc (.bool b) := fun _ _ _ h => h
theorem Sc.str (s : List UInt8) : Sc (.str s) := fun _ _ _ h => h
end
end Go.FH
