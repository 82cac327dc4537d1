/-
  Plain laws: what was appended is read back, and what is cut off is found out.
-/
import Derived.Test.YtachiahepppajaaDe
namespace Go.Proofs.Ytachiahepppajaa
open Go Go.FH
set_option linter.unusedVariables false
set_option linter.unusedSimpArgs false

/-- What a reader answers: the value, what is left, what is wrong. -/
abbrev RR (α : Type) := List UInt8 → Int → α × List UInt8 × Int
structure Back {α : Type} (z v : α) (enc : List UInt8) (r : RR α) : Prop where
  full : ∀ t, r (enc ++ t) 0 = (v, t, 0)
  cut : ∀ k, k < enc.length → r (enc.take k) 0 = (z, enc.take k, 5)
  sticky : ∀ bs e, e ≠ 0 → r bs e = (z, bs, e)

theorem rUint_back {n : Nat} {m : Int} (h : n < 18446744073709551616) (hm : (n : Int) ≤ m) : Back 0 (n : Int) (uenc n) (fun bs e => rUint bs e m) := by
  refine ⟨fun t => ?_, fun k hk => ?_, fun bs e he => ?_⟩
  · simp only [rUint, rnum_uenc h, ne_eq, not_true_eq_false, if_false, if_true]
    rw [if_neg (by omega), List.drop_left]
  · simp only [rUint, rnum_cut h hk, ne_eq, not_true_eq_false, if_false]
    rw [if_neg (by decide)]
  · simp only [rUint, ne_eq, he, not_false_eq_true, if_true]
theorem rBool_back (x : Bool) : Back false x (benc x) rBool := by
  refine ⟨fun t => ?_, fun k hk => ?_, fun bs e he => ?_⟩
  · cases x <;> simp [rBool, benc]
  · have hk0 : k = 0 := by cases x <;> simp [benc] at hk <;> omega
    subst hk0
    simp [rBool]
  · simp only [rBool, ne_eq, he, not_false_eq_true, if_true]
theorem rRoot_back (r : Rt) : Back rt0 r r.1 rRoot := by
  have hr := r.2
  refine ⟨fun t => ?_, fun k hk => ?_, fun bs e he => ?_⟩
  · simp only [rRoot, ne_eq, not_true_eq_false, if_false]
    rw [if_neg (by rw [List.length_append]; omega)]
    have h1 : (r.1 ++ t).take 32 = r.1 := List.take_left' hr
    have h2 : (r.1 ++ t).drop 32 = t := List.drop_left' hr
    rw [h1, h2]
    congr 1
    exact Subtype.ext (mkRt_val hr)
  · simp only [rRoot, ne_eq, not_true_eq_false, if_false]
    rw [if_pos (by rw [List.length_take]; omega)]
  · simp only [rRoot, ne_eq, he, not_false_eq_true, if_true]

/-! Wide numbers. -/
theorem ishr_nat (m s : Nat) (hs : s < 64) : ishr .u64 (m : Int) s = ((m / 2 ^ s : Nat) : Int) := by
  unfold ishr
  rw [show min s IntKind.u64.bits = s by simp only [IntKind.bits]; omega, show ((2 : Int) ^ s) = ((2 ^ s : Nat) : Int) by push_cast; rfl]
  rw [Int.fdiv_eq_ediv_of_nonneg _ (Int.natCast_nonneg _)]; rfl
theorem ishl_nat {c s : Nat} (hs : s < 64) (h : c * 2 ^ s < 18446744073709551616) : ishl .u64 (c : Int) s = ((c * 2 ^ s : Nat) : Int) := by
  unfold ishl
  rw [show min s IntKind.u64.bits = s by simp only [IntKind.bits]; omega, show ((c : Int) * 2 ^ s) = ((c * 2 ^ s : Nat) : Int) by push_cast; rfl]
  exact wrap_u64_in (by omega) (by omega)
theorem byt_nat (m : Nat) : (byt (m : Int)).toNat = m % 256 := by
  have := wrap_byt (m : Int)
  rw [IntKind.wrap_u8] at this
  omega
theorem pbytes_get (a : Wd) : ∀ (k i : Nat), k ≤ 32 → i < k → (pbytes a k).1.getD (31 - i) 0 = wbyte a i
  | 0, i, _, h => by omega
  | k + 1, i, hk, h => by
    have hl := (pbytes a k).2
    simp only [pbytes_s, Rt.set, List.getD_eq_getElem?_getD, List.getElem?_set]
    by_cases hi : i = k
    · subst hi
      rw [if_pos rfl, if_pos (by omega)]; rfl
    · rw [if_neg (by omega)]
      have := pbytes_get a k i (by omega) (by omega)
      rwa [List.getD_eq_getElem?_getD] at this
/-- The limb j after k bytes. -/
theorem wfold_get (a : Wd) (ha : ∀ n ∈ a.1, 0 ≤ n ∧ n < 18446744073709551616) : ∀ (k j : Nat), k ≤ 32 → j < 4 → (wfold (wbytes a) k).1.getD j 0 = (((a.1.getD j 0).toNat % 2 ^ (8 * (min (k - 8 * j) 8)) : Nat) : Int)
  | 0, j, _, hj => by
    have : (8 * min (0 - 8 * j) 8) = 0 := by omega
    rw [this, Nat.pow_zero, Nat.mod_one]
    have hj' : j = 0 ∨ j = 1 ∨ j = 2 ∨ j = 3 := by omega
    rw [wfold_0]
    rcases hj' with rfl | rfl | rfl | rfl <;> rfl
  | k + 1, j, hk, hj => by
    have ih := wfold_get a ha k
    have hl := (wfold (wbytes a) k).2
    have hal := a.2
    simp only [wfold_s, wstep, Wd.set, List.getD_eq_getElem?_getD, List.getElem?_set]
    by_cases hjk : j = k / 8
    · subst hjk
      rw [if_pos rfl, if_pos (by omega)]
      have e1 := ih (k / 8) (by omega) (by omega)
      rw [List.getD_eq_getElem?_getD] at e1
      have e2 : (wbytes a).1[31 - k]?.getD 0 = wbyte a k := by
        have := pbytes_get a 32 k (by omega) (by omega)
        rwa [List.getD_eq_getElem?_getD] at this
      rw [e1, e2]
      have hmem : a.1.getD (k / 8) 0 ∈ a.1 := by rw [List.getD_eq_getElem?_getD, List.getElem?_eq_getElem (by omega)]; exact List.getElem_mem _
      have hb := ha _ hmem
      obtain ⟨x, hx⟩ : ∃ x : Nat, a.1.getD (k / 8) 0 = (x : Int) := ⟨(a.1.getD (k / 8) 0).toNat, by omega⟩
      simp only [wbyte, hx, Int.toNat_natCast]
      rw [hx] at hb
      have hs : 8 * (k % 8) < 64 := by omega
      rw [ishr_nat _ _ hs, byt_nat]
      simp only [Option.getD_some]
      have m1 : min (k - 8 * (k / 8)) 8 = k % 8 := by omega
      have m2 : min (k + 1 - 8 * (k / 8)) 8 = k % 8 + 1 := by omega
      rw [m1, m2]
      have e3 : x % 2 ^ (8 * (k % 8 + 1)) = x % 2 ^ (8 * (k % 8)) + x / 2 ^ (8 * (k % 8)) % 256 * 2 ^ (8 * (k % 8)) := by
        rw [Nat.mul_add, Nat.mul_one, Nat.pow_add, Nat.mod_mul, Nat.mul_comm (2 ^ (8 * (k % 8)))]
      have hlt : x % 2 ^ (8 * (k % 8)) + x / 2 ^ (8 * (k % 8)) % 256 * 2 ^ (8 * (k % 8)) < 18446744073709551616 := by
        rw [← e3]; exact Nat.lt_of_le_of_lt (Nat.mod_le _ _) (by omega)
      have hx2 : a.1[k / 8]?.getD 0 = (x : Int) := by rw [← List.getD_eq_getElem?_getD]; exact hx
      rw [ishl_nat hs (by omega), or_add (Nat.mod_lt _ (Nat.two_pow_pos _)) hlt, hx2, Int.toNat_natCast, e3]
    · rw [if_neg (by omega)]
      have e1 := ih j (by omega) hj
      rw [List.getD_eq_getElem?_getD] at e1
      rw [e1]
      have : min (k + 1 - 8 * j) 8 = min (k - 8 * j) 8 := by omega
      rw [this]; simp [List.getD_eq_getElem?_getD]
theorem wof_wbytes (a : Wd) (ha : ∀ n ∈ a.1, 0 ≤ n ∧ n < 18446744073709551616) : wof (wbytes a) = a := by
  apply Subtype.ext
  have h1 := (wof (wbytes a)).2
  have h2 := a.2
  apply List.ext_getElem (by omega)
  intro j hj1 hj2
  have := wfold_get a ha 32 j (by omega) (by omega)
  have e : (wof (wbytes a)).1.getD j 0 = (wof (wbytes a)).1[j] := by rw [List.getD_eq_getElem?_getD, List.getElem?_eq_getElem hj1]; rfl
  have e2 : a.1.getD j 0 = a.1[j] := by rw [List.getD_eq_getElem?_getD, List.getElem?_eq_getElem hj2]; rfl
  rw [← e]
  refine this.trans ?_
  rw [e2, show min (32 - 8 * j) 8 = 8 by omega]
  have hb := ha _ (List.getElem_mem hj2)
  rw [Nat.mod_eq_of_lt (by omega)]
  omega
theorem wstep_rt0 : ∀ k : Fin 32, wstep rt0 wd0 k.val = wd0 := by decide +kernel
theorem wfold_rt0 : ∀ k, k ≤ 32 → wfold rt0 k = wd0
  | 0, _ => wfold_0 _
  | k + 1, h => by rw [wfold_s, wfold_rt0 k (by omega)]; exact wstep_rt0 ⟨k, by omega⟩
theorem wof_rt0 : wof rt0 = wd0 := wfold_rt0 32 (Nat.le_refl _)
theorem rWide_back (a : Wd) (ha : ∀ n ∈ a.1, 0 ≤ n ∧ n < 18446744073709551616) : Back wd0 a (wbytes a).1 rWide := by
  have h := rRoot_back (wbytes a)
  refine ⟨fun t => ?_, fun k hk => ?_, fun bs e he => ?_⟩
  · simp only [rWide, h.full, wof_wbytes a ha]
  · simp only [rWide, h.cut k hk, wof_rt0]
  · simp only [rWide, h.sticky bs e he, wof_rt0]
theorem rCp_back (c : Cp) (h0 : 0 ≤ c.ep) (h1 : c.ep < 18446744073709551616) : Back cp0 c (cenc c) rCp := by
  have hu := rUint_back (n := c.ep.toNat) (m := maxU) (by omega) (by simp only [maxU]; omega)
  have hr := rRoot_back c.rt
  have hz : rCp = fun bs e => rCp bs e := rfl
  refine ⟨fun t => ?_, fun k hk => ?_, fun bs e he => ?_⟩
  · have e1 := hu.full (c.rt.1 ++ t)
    (try simp only at e1)
    simp only [rCp, cenc, List.append_assoc, e1, hr.full, ne_eq, not_true_eq_false, if_false]
    rw [show ((c.ep.toNat : Nat) : Int) = c.ep by omega]
  · by_cases hk1 : k < (uenc c.ep.toNat).length
    · have e1 := hu.cut k hk1
      (try simp only at e1)
      have e2 : (cenc c).take k = (uenc c.ep.toNat).take k := by rw [cenc, List.take_append_of_le_length (by omega)]
      simp only [rCp, e2, e1]
      rw [hr.sticky _ 5 (by decide)]
      simp
    · have e1 := hu.full (c.rt.1.take (k - (uenc c.ep.toNat).length))
      (try simp only at e1)
      have e2 : (cenc c).take k = uenc c.ep.toNat ++ c.rt.1.take (k - (uenc c.ep.toNat).length) := by rw [cenc, List.take_append, List.take_of_length_le (by omega)]
      have e3 := hr.cut (k - (uenc c.ep.toNat).length) (by rw [cenc, List.length_append] at hk; omega)
      simp only [rCp, e2, e1, e3]
      simp
  · have e1 := hu.sticky bs e he
    (try simp only at e1)
    simp only [rCp, e1, hr.sticky bs e he, ne_eq, he, not_false_eq_true, if_true]
theorem rBytes_back (x : List UInt8) (m : Int) (h0 : (x.length : Int) ≤ m) (h1 : x.length ≤ 140737488355328) (h2 : m < 9223372036854775808) : Back [] x (xenc x) (fun bs e => rBytes bs e m) := by
  have hu := rUint_back (n := x.length) (m := maxU) (by omega) (by simp only [maxU]; omega)
  have hm : ¬ m < 0 := by omega
  have hw : IntKind.u64.wrap m = m := wrap_u64_in (by omega) (by omega)
  refine ⟨fun t => ?_, fun k hk => ?_, fun bs e he => ?_⟩
  · have e1 := hu.full (x ++ t)
    (try simp only at e1)
    simp only [rBytes, xenc, List.append_assoc, e1, ne_eq, not_true_eq_false, if_false, hw]
    rw [if_neg (by omega), if_neg (by rw [List.length_append]; omega)]
    simp
  · by_cases hk1 : k < (uenc x.length).length
    · have e1 := hu.cut k hk1
      (try simp only at e1)
      have e2 : (xenc x).take k = (uenc x.length).take k := by rw [xenc, List.take_append_of_le_length (by omega)]
      simp only [rBytes, e2, e1]
      simp
    · have e1 := hu.full (x.take (k - (uenc x.length).length))
      (try simp only at e1)
      have e2 : (xenc x).take k = uenc x.length ++ x.take (k - (uenc x.length).length) := by rw [xenc, List.take_append, List.take_of_length_le (by omega)]
      have hk2 : k - (uenc x.length).length < x.length := by rw [xenc, List.length_append] at hk; omega
      simp only [rBytes, e2, e1, ne_eq, not_true_eq_false, if_false, hw]
      rw [if_neg (by omega), if_pos (by rw [List.length_take]; omega)]
  · have e1 := hu.sticky bs e he
    (try simp only at e1)
    simp only [rBytes, e1, ne_eq, he, not_false_eq_true, if_true]
end Go.Proofs.Ytachiahepppajaa
