/-
  The watch of chapter 6; small operations.
-/
import Derived.Test.YtachiahepppajabGk
namespace Go.Proofs.Ytachiahepppajab
open Go Go.FH Go.RowKit
set_option linter.unusedVariables false
set_option linter.unusedSimpArgs false

/-- Elements that say less. -/
def WkE : List (List AV) → List (List AV) → Prop
  | [], [] => True
  | x :: xs, y :: ys => WkC x y ∧ WkE xs ys
  | _, _ => False
theorem WkE.length : ∀ {xs ys : List (List AV)}, WkE xs ys → xs.length = ys.length
  | [], [], _ => rfl
  | _ :: _, _ :: _, h => by simp [WkE.length h.2]
  | [], _ :: _, h | _ :: _, [], h => h.elim
theorem WkE.rle {E : Env} {e : Nat} : ∀ {xs ys : List (List AV)} {us : List Value}, WkE xs ys → RlE E e xs us → RlE E e ys us
  | [], [], _, _, h => h
  | _ :: _, _ :: _, _, hw, ⟨us, ws, q1, q2, q3, q4⟩ => ⟨us, ws, q1, q2, hw.1.rlc q3, WkE.rle hw.2 q4⟩
  | [], _ :: _, _, h, _ | _ :: _, [], _, h, _ => h.elim
theorem Wk.sl {e : Nat} {cl : Bool} {xs ys : List (List AV)} (h : WkE xs ys) : Wk (.sl e cl xs) (.sl e false ys) := by
  rintro E u ⟨a, n, cap, rfl, h1, h2, h3, h4, h5, h6⟩
  refine ⟨a, n, cap, rfl, by rw [h1, h.length], h2, h3, (fun h => Bool.noConfusion h), h5, h6.imp id ?_⟩
  rintro ⟨b, off, vs, g1, g2, g3, g4, g5⟩
  exact ⟨b, off, vs, g1, g2, g3, g4, h.rle g5⟩

def t1 : OpV := ⟨1, blk0, attZ, slgZ, tabZ, vdt0, 0, 0⟩
def t8 : OpV := ⟨8, blk0, attZ, slgZ, tabZ, vdt0, 2, 5⟩
theorem idle_t1 : idle t1 = true := by rw [idle_eq]; simp [t1, slgZ, tabZ]
theorem idle_t8 : idle t8 = true := by rw [idle_eq]; simp [t8, slgZ, tabZ]
theorem fld_t1 : fld t1 = ([], 0) := by simp [fld, t1]
theorem fld_t8 : fld t8 = ([2, 5], 0) := by simp [fld, t8, bad8, uenc_small]
theorem vOp_t1 : vOp t1 = 0 := by rw [vOp, fld_t1, idle_t1]; simp [t1]
theorem vOp_t8 : vOp t8 = 0 := by rw [vOp, fld_t8, idle_t8]; simp [t8]
theorem oenc_t1 : oenc t1 = [1] := by rw [oenc, fld_t1]; simp [t1, uenc_small]
theorem oenc_t8 : oenc t8 = [8, 2, 5] := by rw [oenc, fld_t8]; simp [t8, uenc_small]
theorem enc_6 : encOps [t1, t8] = ([1, 8, 2, 5], 0) := by simp [encOps, eFrom, vOp_t1, vOp_t8, oenc_t1, oenc_t8]
theorem rOp_t1 : ∀ b, rUint (1 :: b) 0 8 = (1, b, 0) → rOp (1 :: b) = (t1, b, 0) := by
  intro b h
  rw [rOp, h]
  simp [t1]
theorem rOp_t8 : rOp [8, 2, 5] = (t8, [], 0) := by
  have h1 : rUint [8, 2, 5] 0 8 = (8, [2, 5], 0) := by decide +kernel
  have h2 : rUint [2, 5] 0 32768 = (2, [5], 0) := by decide +kernel
  have h3 : rUint [5] 0 32768 = (5, [], 0) := by decide +kernel
  rw [rOp]
  simp [h1, h2, h3, t8]
theorem dec_6 : decO [1, 8, 2, 5] = ([t1, t8], 0) := by
  have h1 := rOp_t1 [8, 2, 5] (by decide +kernel)
  have h : dFrom [] [1, 8, 2, 5] = ([t1, t8], [], 0) := by
    rw [dFrom, if_neg (by simp), if_neg (by simp), h1, if_neg (by simp), dFrom, if_neg (by simp), if_neg (by simp), rOp_t8, if_neg (by simp), dFrom, if_pos rfl]
    rfl
  simp [decO, dAll, h]
theorem OpU_Z (k w p : Int) : OpU ⟨k, blk0, attZ, slgZ, tabZ, vdt0, w, p⟩ := by
  have u0 : U64 0 := ⟨by decide, by decide⟩
  exact ⟨⟨u0, u0, u0, u0, u0⟩, u0, u0, by simp [attZ], ⟨u0, u0, rfl, by simp [slgZ, clmZ]⟩, ⟨u0, u0, rfl, by simp [slgZ, clmZ]⟩, ⟨u0, rfl, by simp [tabZ], by simp [tabZ]⟩, u0⟩

set_option maxRecDepth 100000 in
theorem awake6_walk : PC Try.prog 7 [] (.bool true) := by
  refine PC.fact 5 f_law6_awake (by simp) trivial trivial ?_
  unfold c_law6_awake
  have c1 := renc_ops [t1, t8] (by intro x hx; simp only [List.mem_cons, List.not_mem_nil, or_false] at hx; rcases hx with rfl | rfl <;> exact OpU_Z _ _ _) (by decide)
  have c2 := rdec_ops [1, 8, 2, 5] (by decide)
  rw [enc_6] at c1
  rw [dec_6] at c2
  have hg : (ops [t1, t8]).getD 1 [] = sOpC (opL t8) := rfl
  have hk : (opL t8).keep = 5 := rfl
  have hl : (ops [t1, t8]).length = 2 := rfl
  have hw : Wk (.sl 446 true [sOpC ⟨1, blk0, att0, slg0, tab0, vdt0, 0, 0⟩, sOpC ⟨8, blk0, att0, slg0, tab0, vdt0, 2, 5⟩]) (.sl 446 false (ops [t1, t8])) :=
    Wk.sl ⟨wkc_op rfl rfl wkc_att0 wkc_slg0 wkc_tab0 rfl rfl rfl, wkc_op rfl rfl wkc_att0 wkc_slg0 wkc_tab0 rfl rfl rfl, trivial⟩
  have hq : (([1, 8, 2, 5] : List UInt8) == [UInt8.ofNat 1, UInt8.ofNat 8, UInt8.ofNat 2, UInt8.ofNat 5]) = true := by decide
  have ht : ops [t1, t8] = ops [t1, t8] := rfl
  generalize hO : ops [t1, t8] = O at c1 c2 hg hl hw ht
  have hp : (renLL (rn [] 0) O) = O := by rw [← hO, renLL_ops]
  generalize opL t8 = T at *
  dsimp only at c1 c2
  try refine go_on ?_
  refine pcallw c1 ⟨hw, trivial⟩ ⟨⟨(PuL_sOpC _).2 ⟨trivial, ⟨trivial, trivial⟩, trivial⟩, (PuL_sOpC _).2 ⟨trivial, ⟨trivial, trivial⟩, trivial⟩, trivial⟩, trivial⟩ ?_
  try refine go_on ?_
  refine pcall c2 ?_
  repeat (first | refine go_on ?_ | simp only [go_sem, hl, hg, hk, hq])
  refine ⟨_, (by first | rfl | exact evd), .inl ?_⟩; (try simp only [go_sem, Nat.reduceAdd, Nat.reduceSub, Nat.reduceMul, Nat.reduceLT, Nat.reduceLeDiff, Nat.reduceEqDiff, reduceIte, Int.reduceToNat, Int.reduceLT, Int.reduceLE, Int.reduceEq, Int.reduceNeg, reduceCtorEq, Int.reduceBEq, Int.reduceBNe])

/-- Small enough for a law. -/
def light (x : OpV) : Prop := x.att.2.2.2.length ≤ 100 ∧ x.slg.1.2.2.2.length ≤ 100 ∧ x.slg.2.2.2.2.length ≤ 100 ∧ x.tab.2.length ≤ 100
instance (x : OpV) : Decidable (light x) := inferInstanceAs (Decidable (_ ∧ _ ∧ _ ∧ _))
end Go.Proofs.Ytachiahepppajab
