/-
  Contracts of package equivocation and its reference: Slashable, the set of punished validators.
-/
import Derived.Test.YtkcgbcjiogpliaaInts
import Derived.Test.YtkcgbcjiogpliaaOpen
namespace Go.Proofs.Ytkcgbcjiogpliaa
open Go.RowKit Go.FH
set_option linter.unusedVariables false
set_option linter.unusedSimpArgs false

structure Claim where
  s : Nat
  t : Nat
  r : List UInt8
  va : Option Addr
  vn : Nat
  vc : Nat
def Claim.v (c : Claim) : Value := .slice c.va c.vn c.vc
def claimCells (c : Claim) : Array Value := #[.int .u64 c.s, .int .u64 c.t] ++ u8c c.r ++ #[c.v]
theorem claim_one (c : Claim) : plain (claimCells c) = true := by
  simp only [claimCells, plain_app, plain_u8c]
  simp [plain, Value.oneCell', Claim.v]
theorem claim0 (c : Claim) : (claimCells c)[0]? = some (.int .u64 c.s) := by simp [claimCells, Array.getElem?_append]
theorem claim1 (c : Claim) : (claimCells c)[1]? = some (.int .u64 c.t) := by simp [claimCells, Array.getElem?_append]
theorem claim0' (c : Claim) (h : 0 < (claimCells c).size) : (claimCells c)[0] = .int .u64 c.s := by simp [claimCells]
theorem claim1' (c : Claim) (h : 1 < (claimCells c).size) : (claimCells c)[1] = .int .u64 c.t := by simp [claimCells]
theorem claim_size (c : Claim) (h : c.r.length = 32) : (claimCells c).size = 35 := by simp [claimCells, h]
theorem claim_34 (c : Claim) (h : c.r.length = 32) : (claimCells c)[34]? = some c.v := by
  have h1 : (claimCells c)[34]? = (claimCells c).toList[34]? := by simp
  rw [h1]
  simp [claimCells, u8c, List.getElem?_append, List.getElem?_cons, h]
theorem claim_34' (c : Claim) (hr : c.r.length = 32) (h : 34 < (claimCells c).size) : (claimCells c)[34] = c.v := by
  have := claim_34 c hr
  rwa [Array.getElem?_eq_getElem h, Option.some.injEq] at this
theorem claim_all (c : Claim) (h : c.r.length = 32) : (claimCells c).extract 0 35 = claimCells c := by
  rw [← claim_size c h]; simp
theorem claim_root (c : Claim) (h : c.r.length = 32) : (claimCells c).extract 2 34 = u8c c.r := by
  apply Array.toList_inj.1
  simp [claimCells, u8c, h, List.take_of_length_le]
attribute [local go_sem] claim0 claim1 claim0' claim1' claim_size claim_all claim_root claim_34 claim_34' claim_one
@[go_sem ↓] theorem load_Root (ρ : Operand → Value) (dst : Option Tmp) (x : Operand) (ty : TypeId) (pos : String) (aft : Array Edge) (g : Option (Nat × Bool)) (w : World) : (execOp ρ ⟨dst, .load 24 x, ty, pos, aft, g⟩).run Try.prog w = loadAgg Try.prog 24 w (ρ x) := exec_load _ _ _ _ _ _ _ _ _ _ (by kernel_rfl)
@[go_sem ↓] theorem load_Claim (ρ : Operand → Value) (dst : Option Tmp) (x : Operand) (ty : TypeId) (pos : String) (aft : Array Edge) (g : Option (Nat × Bool)) (w : World) : (execOp ρ ⟨dst, .load 27 x, ty, pos, aft, g⟩).run Try.prog w = loadAgg Try.prog 27 w (ρ x) := exec_load _ _ _ _ _ _ _ _ _ _ (by kernel_rfl)
@[go_sem] theorem size_Root : sizeB Try.prog 24 = 32 := by kernel_rfl
@[go_sem] theorem size_Claim : sizeB Try.prog 27 = 35 := by kernel_rfl
@[go_sem] theorem eq_Root (w : World) (xs ys : List UInt8) (hx : xs.length = 32) (hy : ys.length = 32) : (Op.equalIn 10000 24 (.agg (u8c xs)) (.agg (u8c ys))).run Try.prog w = .ok (decide (xs = ys)) w :=
  run_equalIn_u8 Try.prog w 9998 _ Try.underlying24 Try.underlying5 rfl (by kernel_rfl) xs ys hx hy

def claimSlash (a b : Claim) : Bool := (decide (a.t = b.t) && (!decide (a.s = b.s) || !decide (a.r = b.r))) || (decide (a.s < b.s) && decide (b.t < a.t)) || (decide (b.s < a.s) && decide (a.t < b.t))

set_option maxHeartbeats 400000 in
theorem surrounds_any (a b : Claim) (w : World) :
    Calls Try.prog 40 #[.agg (claimCells a), .agg (claimCells b)] w fun e w' => e = .returned (.bool (decide (a.s < b.s) && decide (b.t < a.t))) ∧ Below w.heap.size w w' := by
  go_enter Try.func40, Try.ntmps40
  go_wp2
  all_goals (go_ret; exact ⟨by simp [*], ((Below.refl _ _).alloc (Nat.le_refl _) _).alloc (by simp) _⟩)

set_option maxHeartbeats 400000 in
set_option maxRecDepth 20000 in
theorem slashable_any (a b : Claim) (w : World) (ha : a.r.length = 32) (hb : b.r.length = 32) :
    Calls Try.prog 12 #[.agg (claimCells a), .agg (claimCells b)] w fun e w' => e = .returned (.bool (claimSlash a b)) ∧ Below w.heap.size w w' := by
  go_enter Try.func12, Try.ntmps12
  go_wp2_with (go_at_call 40; refine (surrounds_any _ _ _).mono ?_; rintro e w' ⟨rfl, hb⟩; obtain ⟨hc, hf, hr, hz⟩ := bfacts hb; (try simp only [World.size_alloc, World.size_setCell, World.heap_drewN] at hz); have z0 : w.heap.size < w'.heap.size := (by omega); have z1 : w.heap.size + 1 < w'.heap.size := (by omega))
  all_goals
    go_ret
    refine ⟨congrArg (fun x => Ending.returned (Value.bool x)) ?_, by (repeat (first | (with_reducible exact Below.refl _ _) | (with_reducible assumption) | (with_reducible refine Below.alloc ?_ ?_ _) | (with_reducible refine Below.drew ?_) | (with_reducible refine Below.setCell ?_ ?_ _) | (refine Below.step ?_ (by with_reducible assumption) ?_) | go_size))⟩
    rw [Bool.eq_iff_iff]
    simp only [claimSlash, Bool.or_eq_true, Bool.and_eq_true, decide_eq_true_eq, Bool.not_eq_true', decide_eq_false_iff_not, true_iff, false_iff, reduceCtorEq, iff_true, iff_false]
    by_cases h3 : a.r = b.r <;> simp only [h3, not_true_eq_false, not_false_eq_true, or_true, or_false, and_true, true_and] at * <;> omega

set_option maxHeartbeats 400000 in
set_option maxRecDepth 20000 in
theorem refSlashable_any (a b : Claim) (w : World) (ha : a.r.length = 32) (hb : b.r.length = 32) :
    Calls Try.prog 13 #[.agg (claimCells a), .agg (claimCells b)] w fun e w' => e = .returned (.bool (claimSlash a b)) ∧ Below w.heap.size w w' := by
  go_enter Try.func13, Try.ntmps13
  go_wp2
  all_goals
    go_ret
    refine ⟨congrArg (fun x => Ending.returned (Value.bool x)) ?_, by (repeat (first | (with_reducible exact Below.refl _ _) | (with_reducible assumption) | (with_reducible refine Below.alloc ?_ ?_ _) | (with_reducible refine Below.drew ?_) | (with_reducible refine Below.setCell ?_ ?_ _) | (refine Below.step ?_ (by with_reducible assumption) ?_) | go_size))⟩
    rw [Bool.eq_iff_iff]
    simp only [claimSlash, Bool.or_eq_true, Bool.and_eq_true, decide_eq_true_eq, Bool.not_eq_true', decide_eq_false_iff_not, true_iff, false_iff, reduceCtorEq, iff_true, iff_false]
    by_cases h3 : a.r = b.r <;> simp only [h3, not_true_eq_false, not_false_eq_true, or_true, or_false, and_true, true_and] at * <;> omega

/-- A claim between two epochs, all else zero. -/
def kc (s t : Nat) : Claim := ⟨s, t, List.replicate 32 0, none, 0, 0⟩
theorem kc_r (s t : Nat) : (kc s t).r.length = 32 := by simp [kc]
theorem size_kc (s t : Nat) : (claimCells (kc s t)).size = 35 := claim_size _ (kc_r s t)
@[go_sem ↓] theorem build_15 (a : Act) (dst : Option Tmp) (ty : TypeId) (pos : String) (aft : Array Edge) (g : Option (Nat × Bool)) (w : World) : (execOp a.eval ⟨dst, .build 27 #[(0, .const (.int .u64 1)), (1, .const (.int .u64 5))], ty, pos, aft, g⟩).run Try.prog w = .ok (.value (.agg (claimCells (kc 1 5)))) w := by kernel_rfl
@[go_sem ↓] theorem build_24 (a : Act) (dst : Option Tmp) (ty : TypeId) (pos : String) (aft : Array Edge) (g : Option (Nat × Bool)) (w : World) : (execOp a.eval ⟨dst, .build 27 #[(0, .const (.int .u64 2)), (1, .const (.int .u64 4))], ty, pos, aft, g⟩).run Try.prog w = .ok (.value (.agg (claimCells (kc 2 4)))) w := by kernel_rfl
@[go_sem ↓] theorem build_14 (a : Act) (dst : Option Tmp) (ty : TypeId) (pos : String) (aft : Array Edge) (g : Option (Nat × Bool)) (w : World) : (execOp a.eval ⟨dst, .build 27 #[(0, .const (.int .u64 1)), (1, .const (.int .u64 4))], ty, pos, aft, g⟩).run Try.prog w = .ok (.value (.agg (claimCells (kc 1 4)))) w := by kernel_rfl
@[go_sem ↓] theorem build_25 (a : Act) (dst : Option Tmp) (ty : TypeId) (pos : String) (aft : Array Edge) (g : Option (Nat × Bool)) (w : World) : (execOp a.eval ⟨dst, .build 27 #[(0, .const (.int .u64 2)), (1, .const (.int .u64 5))], ty, pos, aft, g⟩).run Try.prog w = .ok (.value (.agg (claimCells (kc 2 5)))) w := by kernel_rfl
@[go_sem ↓] theorem alloc_Claim (a : Act) (dst : Option Tmp) (ty : TypeId) (pos : String) (aft : Array Edge) (g : Option (Nat × Bool)) (w : World) : (execOp a.eval ⟨dst, .alloc 27, ty, pos, aft, g⟩).run Try.prog w = .ok (.value (.pointer (some ⟨w.heap.size, 0, none⟩))) (w.alloc (.cells (claimCells (kc 0 0)) 27)) := by kernel_rfl
@[go_sem ↓] theorem store_Claim (ρ : Operand → Value) (dst : Option Tmp) (x y : Operand) (ty : TypeId) (pos : String) (aft : Array Edge) (g : Option (Nat × Bool)) (w : World) : (execOp ρ ⟨dst, .store 27 x y, ty, pos, aft, g⟩).run Try.prog w = storeAgg Try.prog 27 w (ρ x) (ρ y) := exec_store _ _ _ _ _ _ _ _ _ _ _ (by kernel_rfl)
attribute [local go_sem] size_kc kc_r
theorem kc_all (s t : Nat) : (claimCells (kc s t)).extract 0 35 = claimCells (kc s t) := claim_all _ (kc_r s t)
attribute [local go_sem] kc_all

set_option maxHeartbeats 1000000 in
set_option maxRecDepth 20000 in
theorem awake9_any (w : World) : Calls Try.prog 14 #[] w fun e w' => e = .returned (.bool true) ∧ Below w.heap.size w w' := by
  have s1 : claimSlash (kc 1 5) (kc 2 4) = true := by decide
  have s2 : claimSlash (kc 2 4) (kc 1 5) = true := by decide
  have s3 : claimSlash (kc 1 4) (kc 2 5) = false := by decide
  have s4 : claimSlash (kc 1 5) (kc 1 5) = false := by decide
  go_enter Try.func14, Try.ntmps14
  go_wp2_with (go_at_call 12; refine (slashable_any _ _ _ (kc_r _ _) (kc_r _ _)).mono ?_; rintro e w' ⟨rfl, hb⟩; obtain ⟨hc, hf, hr, hz⟩ := bfacts hb; (try simp only [World.size_alloc, World.size_setCell, World.heap_drewN] at hz); have z0 : w.heap.size < w'.heap.size := (by omega); have z1 : w.heap.size + 1 < w'.heap.size := (by omega); have z2 : w.heap.size + 1 + 1 < w'.heap.size := (by omega); have z3 : w.heap.size + 1 + 1 + 1 < w'.heap.size := (by omega))
  go_ret
  exact ⟨rfl, by (repeat (first | (with_reducible exact Below.refl _ _) | (with_reducible assumption) | (with_reducible refine Below.alloc ?_ ?_ _) | (with_reducible refine Below.drew ?_) | (with_reducible refine Below.setCell ?_ ?_ _) | (refine Below.step ?_ (by with_reducible assumption) ?_) | go_size))⟩

theorem slash_sym (a b : Claim) : claimSlash b a = claimSlash a b := by
  rw [Bool.eq_iff_iff]
  simp only [claimSlash, Bool.or_eq_true, Bool.and_eq_true, decide_eq_true_eq, Bool.not_eq_true', decide_eq_false_iff_not]
  by_cases h3 : a.r = b.r
  · simp only [h3, not_true_eq_false, or_false]; omega
  · have h4 : ¬ b.r = a.r := fun e => h3 e.symm
    simp only [h3, h4, not_false_eq_true, or_true, and_true]; omega
theorem slash_self (a : Claim) : claimSlash a a = false := by
  simp [claimSlash]

set_option maxHeartbeats 1000000 in
set_option maxRecDepth 20000 in
theorem walk_EquivocationClaims (a : Claim) (hra : a.r.length = 32) (b : Claim) (hrb : b.r.length = 32) (w : World) :
    Calls Try.prog 3 #[.agg (claimCells a), .agg (claimCells b)] w fun e w' => e = .returned (.bool true) ∧ Below w.heap.size w w' := by
  have s1 := slash_sym a b
  have s2 := slash_self a
  generalize hx : claimSlash a b = x at *
  have X := Lib.hid hx
  have Y := Lib.hid s1
  have Z := Lib.hid s2
  clear hx s1 s2
  go_enter Try.func3, Try.ntmps3
  go_wp2_with (first | (go_at_call 12; refine (slashable_any _ _ _ (by assumption) (by assumption)).mono ?_; rintro e w' ⟨rfl, hb⟩; (first | rw [X.out] | rw [Y.out] | rw [Z.out]); obtain ⟨hc, hf, hr, hz⟩ := bfacts hb; (try simp only [World.size_alloc, World.size_setCell, World.heap_drewN] at hz); have z0 : w.heap.size < w'.heap.size := (by omega); have z1 : w.heap.size + 1 < w'.heap.size := (by omega)) | (go_at_call 13; refine (refSlashable_any _ _ _ hra hrb).mono ?_; rintro e w' ⟨rfl, hb⟩; rw [X.out]; obtain ⟨hc, hf, hr, hz⟩ := bfacts hb; (try simp only [World.size_alloc, World.size_setCell, World.heap_drewN] at hz); have z0 : w.heap.size < w'.heap.size := (by omega); have z1 : w.heap.size + 1 < w'.heap.size := (by omega)) | (go_at_call 14; refine (awake9_any _).mono ?_; rintro e w' ⟨rfl, hb⟩; obtain ⟨hc, hf, hr, hz⟩ := bfacts hb; (try simp only [World.size_alloc, World.size_setCell, World.heap_drewN] at hz); have z0 : w.heap.size < w'.heap.size := (by omega); have z1 : w.heap.size + 1 < w'.heap.size := (by omega)))
  go_ret
  exact ⟨rfl, by (repeat (first | (with_reducible exact Below.refl _ _) | (with_reducible assumption) | (with_reducible refine Below.alloc ?_ ?_ _) | (with_reducible refine Below.drew ?_) | (with_reducible refine Below.setCell ?_ ?_ _) | (refine Below.step ?_ (by with_reducible assumption) ?_) | go_size))⟩

set_option maxRecDepth 20000 in
theorem open_claim {H : Type} {enc : TypeId × Value → H} {W : World} {r : Reach} {base : Nat} {v : Value} {d : DataW H} {p : List MemPlace} (hv : Value.okWide Try.prog W r base 27 v)
    (h : DataW.Trod enc Try.prog W 0 (fun _ => true) true 27 v d p) : ∃ c : Claim, v = .agg (claimCells c) ∧ c.r.length = 32 := by
  obtain ⟨cs, rfl, hsz⟩ := WideShapes.okWide_struct Try.underlying27 hv
  obtain ⟨fuel, hf⟩ := h
  obtain ⟨xs, n, rfl, _, hl, hxs, hi⟩ := DataW.trod_struct Try.underlying27 hf
  have c35 : Try.prog.cellsOf 27 = 35 := by kernel_rfl
  have c22 : Try.prog.cellsOf 22 = 1 := by kernel_rfl
  have c24 : Try.prog.cellsOf 24 = 32 := by kernel_rfl
  have c25 : Try.prog.cellsOf 25 = 1 := by kernel_rfl
  have hl' : cs.toList.length = 35 := by simpa [Value.cells, c35] using hl
  simp only [Value.cells] at hi
  have hx : ∀ i, i < 4 → ∃ y, xs[i]? = some y := fun i h => ⟨xs[i]'(by rw [hxs]; simpa using h), List.getElem?_eq_getElem _⟩
  obtain ⟨y0, e0⟩ := hx 0 (by omega)
  obtain ⟨y1, e1⟩ := hx 1 (by omega)
  obtain ⟨y2, e2⟩ := hx 2 (by omega)
  obtain ⟨y3, e3⟩ := hx 3 (by omega)
  have h0 : DataW.trod enc Try.prog W 0 (fun _ => true) true n 22 ((cs.toList.drop 0).take (Try.prog.cellsOf 22)) = xs[0]? := hi 0 _ rfl
  have h1 : DataW.trod enc Try.prog W 0 (fun _ => true) true n 22 ((cs.toList.drop 1).take (Try.prog.cellsOf 22)) = xs[1]? := hi 1 _ rfl
  have h2 : DataW.trod enc Try.prog W 0 (fun _ => true) true n 24 ((cs.toList.drop 2).take (Try.prog.cellsOf 24)) = xs[2]? := hi 2 _ rfl
  have h3 : DataW.trod enc Try.prog W 0 (fun _ => true) true n 25 ((cs.toList.drop 34).take (Try.prog.cellsOf 25)) = xs[3]? := hi 3 _ rfl
  rw [e0] at h0; rw [e1] at h1; rw [e2] at h2; rw [e3] at h3
  rw [c22] at h0 h1; rw [c24] at h2; rw [c25] at h3
  obtain ⟨z0, i0, _, w0⟩ := DataW.trod_int Try.underlying22 h0
  obtain ⟨z1, i1, _, w1⟩ := DataW.trod_int Try.underlying22 h1
  obtain ⟨r, hr, i2⟩ := open_u8s Try.underlying24 Try.underlying5 (by kernel_rfl) c24 h2
  obtain ⟨a, m, cap, zs, i3, _, _⟩ := open_sl Try.underlying25 Try.underlying3 (by kernel_rfl) h3
  have b0 := bounds_u64 w0
  have b1 := bounds_u64 w1
  refine ⟨⟨z0.toNat, z1.toNat, r, a, m, cap⟩, ?_, hr⟩
  congr 1
  apply Array.toList_inj.1
  have split : cs.toList = (cs.toList.drop 0).take 1 ++ ((cs.toList.drop 1).take 1 ++ ((cs.toList.drop 2).take 32 ++ (cs.toList.drop 34).take 1)) := by
    have step : ∀ (l : List Value) (a b : Nat), (l.drop a).take b ++ l.drop (a + b) = l.drop a := fun l a b => by
      rw [← List.drop_drop, List.take_append_drop]
    have e34 : (cs.toList.drop 34).take 1 = cs.toList.drop 34 := List.take_of_length_le (by simp at hl' ⊢; omega)
    rw [e34, step cs.toList 2 32, step cs.toList 1 1, step cs.toList 0 1, List.drop_zero]
  rw [split, i0, i1, i2, i3]
  simp only [claimCells, Claim.v, Array.toList_append]
  rw [show ((z0.toNat : Nat) : Int) = z0 from by omega, show ((z1.toNat : Nat) : Int) = z1 from by omega]
  simp
end Go.Proofs.Ytkcgbcjiogpliaa
