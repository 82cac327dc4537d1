/-
  The abstract walk, part 26: lists of cells, cut and laid. It holds of any program.
-/
import Derived.Test.YtachiahepppajaaBp
namespace Go.FH
set_option linter.unusedVariables false
set_option linter.unusedSimpArgs false
open Go Go.RowKit

theorem cut_full {a : List AV} {n : Nat} (h : a.length = n) : cut a 0 n = a := by
  unfold cut; rw [List.drop_zero, ← h, List.take_length]
theorem cut_s (x : AV) (b : List AV) (o n : Nat) (h : 1 ≤ o) : cut (x :: b) o n = cut b (o - 1) n := by
  obtain ⟨k, rfl⟩ : ∃ k, o = k + 1 := ⟨o - 1, by omega⟩
  rfl
theorem cut_r (a b : List AV) (o n : Nat) (h : a.length ≤ o) : cut (a ++ b) o n = cut b (o - a.length) n := by
  unfold cut; rw [List.drop_append, List.drop_eq_nil_of_le h, List.nil_append]
theorem cut_l (a b : List AV) (o n : Nat) (h : o + n ≤ a.length) : cut (a ++ b) o n = cut a o n := by
  unfold cut; rw [List.drop_append, List.take_append_of_le_length (by rw [List.length_drop]; omega)]
theorem cut_n (x : AV) (b : List AV) (n : Nat) (h : 0 < n) : cut (x :: b) 0 n = x :: cut b 0 (n - 1) := by
  obtain ⟨k, rfl⟩ : ∃ k, n = k + 1 := ⟨n - 1, by omega⟩
  rfl
theorem cut_0 (b : List AV) (o : Nat) : cut b o 0 = [] := by simp [cut]
theorem spl_full {a : List AV} {vs : List AV} (h : vs.length = a.length) : spl a 0 vs = vs := by
  unfold spl; rw [h]; simp
theorem spl_s (x : AV) (b : List AV) (o : Nat) (vs : List AV) (h : 1 ≤ o) : spl (x :: b) o vs = x :: spl b (o - 1) vs := by
  obtain ⟨k, rfl⟩ : ∃ k, o = k + 1 := ⟨o - 1, by omega⟩
  unfold spl
  simp [Nat.add_right_comm]
theorem spl_r (a b : List AV) (o : Nat) (vs : List AV) (h : a.length ≤ o) : spl (a ++ b) o vs = a ++ spl b (o - a.length) vs := by
  unfold spl
  rw [List.take_append, List.drop_append, List.take_of_length_le h, List.drop_eq_nil_of_le (by omega), List.nil_append, show o + vs.length - a.length = o - a.length + vs.length by omega]
  simp
theorem spl_l (a b : List AV) (o : Nat) (vs : List AV) (h : o + vs.length ≤ a.length) : spl (a ++ b) o vs = spl a o vs ++ b := by
  unfold spl
  rw [List.take_append_of_le_length (by omega), List.drop_append_of_le_length h]
  simp
theorem spl_c (x : AV) (b : List AV) (v : AV) (vs : List AV) : spl (x :: b) 0 (v :: vs) = v :: spl b 0 vs := by
  unfold spl
  simp
theorem spl_n (b : List AV) : spl b 0 [] = b := by simp [spl]

theorem int_beq (a b : Int) : (a == b) = decide (a = b) := by rw [Bool.eq_iff_iff]; simp
theorem allCells_nil : allCells [] = true := rfl
theorem allCells_cons (x : AV) (b : List AV) : allCells (x :: b) = (x.cell && allCells b) := rfl
theorem allCells_app (a b : List AV) : allCells (a ++ b) = (allCells a && allCells b) := by simp [allCells]
theorem PuL_app (a b : List AV) : PuL (a ++ b) ↔ PuL a ∧ PuL b := by
  simp only [PuL_iff, List.mem_append]
  exact ⟨fun h => ⟨fun c hc => h c (.inl hc), fun c hc => h c (.inr hc)⟩, fun h c hc => hc.elim (h.1 c) (h.2 c)⟩
theorem renL_app (ρ : Nat → Nat) (a b : List AV) : renL ρ (a ++ b) = renL ρ a ++ renL ρ b := by simp [renL_map]
theorem fzL_app (σ : St) (zs : List Nat) : ∀ a b, fzL σ zs (a ++ b) = fzL σ zs a ++ fzL σ zs b
  | [], b => rfl
  | x :: a, b => by simp only [List.cons_append, fzL, fzL_app σ zs a b]
theorem aeqL_app : ∀ {a b : List AV} (x y : List AV), a.length = b.length → aeqL (a ++ x) (b ++ y) = (match aeqL a b, aeqL x y with | some p, some q => some (p && q) | _, _ => none)
  | [], [], x, y, _ => by simp only [List.nil_append, aeqL]; cases aeqL x y <;> simp
  | u :: a, v :: b, x, y, h => by
    have ih := aeqL_app (a := a) (b := b) x y (by simpa using h)
    simp only [List.cons_append, aeqL, ih]
    cases aeq1 u v <;> cases aeqL a b <;> cases aeqL x y <;> simp [Bool.and_assoc]
  | [], _ :: _, _, _, h | _ :: _, [], _, _, h => by simp at h
theorem fitsK_of : ∀ {ks : List (Nat × Nat)} {cs : List AV}, cs.map kindAV = expandK ks → fitsK ks cs = true
  | [], cs, h => by simp only [expandK, List.map_eq_nil_iff] at h; subst h; rfl
  | (n, k) :: ks, cs, h => by
    simp only [expandK] at h
    have hl : n ≤ cs.length := by have := congrArg List.length h; simp at this; omega
    have h1 : (cs.take n).map kindAV = List.replicate n k := by rw [List.map_take, h]; simp
    have h2 : (cs.drop n).map kindAV = expandK ks := by rw [List.map_drop, h]; simp
    simp only [fitsK, fitsK_of h2, Bool.and_true, Bool.and_eq_true, List.all_eq_true, beq_iff_eq]
    refine ⟨by rw [List.length_take]; omega, fun x hx => ?_⟩
    have : kindAV x ∈ (cs.take n).map kindAV := List.mem_map_of_mem hx
    rw [h1] at this
    exact (List.mem_replicate.1 this).2

/-- Bytes as cells. -/
def byc (bs : List UInt8) : List AV := bs.map fun b => .int .u8 (b.toNat : Int)
@[simp] theorem length_byc (bs : List UInt8) : (byc bs).length = bs.length := by simp [byc]
theorem PuL_byc (bs : List UInt8) : PuL (byc bs) := by
  rw [PuL_iff]; intro x hx
  obtain ⟨b, _, rfl⟩ := List.mem_map.1 hx
  trivial
theorem allCells_byc (bs : List UInt8) : allCells (byc bs) = true := by simp [allCells, byc, AV.cell]
theorem aeqL_byc : ∀ {a b : List UInt8}, a.length = b.length → aeqL (byc a) (byc b) = some (decide (a = b))
  | [], [], _ => rfl
  | x :: a, y :: b, h => by
    have ih := aeqL_byc (a := a) (b := b) (by simpa using h)
    have e : (((x.toNat : Int)) == (y.toNat : Int)) = decide (x = y) := by
      rw [Bool.eq_iff_iff]; simp
      exact ⟨fun h => UInt8.toNat_inj.1 (by omega), fun h => by rw [h]⟩
    simp only [byc, List.map_cons, aeqL, aeq1, if_true] at ih ⊢
    rw [ih, e]
    simp [List.cons.injEq]
  | [], _ :: _, h | _ :: _, [], h => by simp at h
theorem chunk_byc : ∀ (bs : List UInt8) (n : Nat), bs.length = n → chunk 1 n (byc bs) = bts bs
  | [], _, rfl => rfl
  | b :: bs, _, rfl => by
    simp only [List.length_cons, chunk, byc, List.map_cons, bts]
    have := chunk_byc bs _ rfl
    simp only [byc, bts] at this
    simp [this]
theorem cut_byc (bs : List UInt8) {j : Nat} (h : j < bs.length) : cut (byc bs) j 1 = [.int .u8 (bs[j].toNat : Int)] := by
  unfold cut byc
  rw [← List.map_drop, ← List.map_take, List.drop_eq_getElem_cons h]
  rfl
theorem spl_byc (bs : List UInt8) {j : Nat} (h : j < bs.length) (b : UInt8) : spl (byc bs) j [.int .u8 (b.toNat : Int)] = byc (bs.set j b) := by
  unfold spl byc
  rw [← List.map_take, List.length_singleton, ← List.map_drop, List.set_eq_take_append_cons_drop, if_pos h]
  simp
theorem kinds_byc (bs : List UInt8) : (byc bs).map kindAV = List.replicate bs.length 1 := by
  rw [List.eq_replicate_iff]
  refine ⟨by simp, fun b hb => ?_⟩
  obtain ⟨c, hc, rfl⟩ := List.mem_map.1 hb
  obtain ⟨d, _, rfl⟩ := List.mem_map.1 hc
  rfl
theorem spl_bts (bs xs : List UInt8) (o : Nat) (h : o + xs.length ≤ bs.length) : spl (byc bs) o (byc xs) = byc (bs.take o ++ xs ++ bs.drop (o + xs.length)) := by
  unfold spl byc; simp [List.map_take, List.map_drop]
theorem flatten_bts (bs : List UInt8) : (bts bs).flatten = byc bs := by
  induction bs with
  | nil => rfl
  | cons b bs ih => simp only [bts, byc, List.map_cons, List.flatten_cons] at ih ⊢; rw [ih]; rfl

/-- Roots. -/
abbrev Rt := {b : List UInt8 // b.length = 32}
def rtc (r : Rt) : List AV := byc r.1
@[simp] theorem length_rtc (r : Rt) : (rtc r).length = 32 := by rw [rtc, length_byc, r.2]
theorem rtc_full (r : Rt) : cut (rtc r) 0 32 = rtc r := cut_full (length_rtc r)
theorem chunk_rtc (r : Rt) : chunk 1 32 (rtc r) = bts r.1 := chunk_byc _ _ r.2
theorem PuL_rtc (r : Rt) : PuL (rtc r) := PuL_byc _
theorem renL_rtc (ρ : Nat → Nat) (r : Rt) : renL ρ (rtc r) = rtc r := (PuL_rtc r).ren ρ
theorem fzL_rtc (σ : St) (zs : List Nat) (r : Rt) : fzL σ zs (rtc r) = rtc r := (PuL_rtc r).fz σ zs
theorem allCells_rtc (r : Rt) : allCells (rtc r) = true := allCells_byc _
theorem aeqL_rtc (r s : Rt) : aeqL (rtc r) (rtc s) = some (decide (r = s)) := by
  rw [rtc, rtc, aeqL_byc (by rw [r.2, s.2])]
  congr 1
  rw [decide_eq_decide]
  exact Subtype.ext_iff.symm
theorem kinds_rtc (r : Rt) : (rtc r).map kindAV = List.replicate 32 1 := by rw [rtc, kinds_byc, r.2]
theorem fits_rtc (r : Rt) : fitsK [(32, 1)] (rtc r) = true := fitsK_of (by rw [kinds_rtc]; rfl)
theorem cut_rtc (r : Rt) {j : Nat} (h : j < 32) : cut (rtc r) j 1 = [.int .u8 ((r.1[j]'(by rw [r.2]; exact h)).toNat : Int)] := cut_byc _ _
def Rt.set (r : Rt) (j : Nat) (b : UInt8) : Rt := ⟨r.1.set j b, by rw [List.length_set, r.2]⟩
theorem spl_rtc (r : Rt) {j : Nat} (h : j < 32) (b : UInt8) : spl (rtc r) j [.int .u8 (b.toNat : Int)] = rtc (r.set j b) := spl_byc _ (by rw [r.2]; exact h) b
theorem cutd_rtc (r : Rt) {j : Nat} (h : j < 32) : cut (rtc r) j 1 = [.int .u8 ((r.1.getD j 0).toNat : Int)] := by
  rw [cut_rtc r h, List.getD_eq_getElem?_getD, List.getElem?_eq_getElem (by rw [r.2]; exact h)]; rfl
theorem bts_rt_ne (r : Rt) : (bts r.1 = []) = False := by
  rw [eq_iff_iff, iff_false]
  intro h
  have := congrArg List.length h
  rw [length_bts, r.2] at this
  cases this
def rt0 : Rt := ⟨List.replicate 32 0, rfl⟩
instance : Inhabited Rt := ⟨rt0⟩

/-- Wide numbers. -/
abbrev Wd := {l : List Int // l.length = 4}
def wdc (a : Wd) : List AV := a.1.map (.int .u64)
@[simp] theorem length_wdc (a : Wd) : (wdc a).length = 4 := by rw [wdc, List.length_map, a.2]
theorem wdc_full (a : Wd) : cut (wdc a) 0 4 = wdc a := cut_full (length_wdc a)
theorem PuL_wdc (a : Wd) : PuL (wdc a) := by
  rw [PuL_iff]; intro x hx
  obtain ⟨b, _, rfl⟩ := List.mem_map.1 hx
  trivial
theorem renL_wdc (ρ : Nat → Nat) (r : Wd) : renL ρ (wdc r) = wdc r := (PuL_wdc r).ren ρ
theorem fzL_wdc (σ : St) (zs : List Nat) (r : Wd) : fzL σ zs (wdc r) = wdc r := (PuL_wdc r).fz σ zs
theorem allCells_wdc (r : Wd) : allCells (wdc r) = true := by simp [allCells, wdc, AV.cell]
theorem aeqL_ints : ∀ {a b : List Int}, a.length = b.length → aeqL (a.map (.int .u64)) (b.map (.int .u64)) = some (decide (a = b))
  | [], [], _ => rfl
  | x :: a, y :: b, h => by
    have ih := aeqL_ints (a := a) (b := b) (by simpa using h)
    have e : (x == y) = decide (x = y) := by rw [Bool.eq_iff_iff]; simp
    simp only [List.map_cons, aeqL, aeq1, if_true] at ih ⊢
    rw [ih, e]
    simp [List.cons.injEq]
  | [], _ :: _, h | _ :: _, [], h => by simp at h
theorem aeqL_wdc (r s : Wd) : aeqL (wdc r) (wdc s) = some (decide (r = s)) := by
  rw [wdc, wdc, aeqL_ints (by rw [r.2, s.2])]
  congr 1
  rw [decide_eq_decide]
  exact Subtype.ext_iff.symm
theorem kinds_wdc (r : Wd) : (wdc r).map kindAV = List.replicate 4 1 := by
  rw [wdc, List.map_map, List.eq_replicate_iff]
  refine ⟨by rw [List.length_map, r.2], fun b hb => ?_⟩
  obtain ⟨c, hc, rfl⟩ := List.mem_map.1 hb
  rfl
theorem fits_wdc (r : Wd) : fitsK [(4, 1)] (wdc r) = true := fitsK_of (by rw [kinds_wdc]; rfl)
theorem cut_wdc (r : Wd) {j : Nat} (h : j < 4) : cut (wdc r) j 1 = [.int .u64 (r.1[j]'(by rw [r.2]; exact h))] := by
  unfold cut wdc
  rw [← List.map_drop, ← List.map_take, List.drop_eq_getElem_cons (by rw [r.2]; exact h)]
  rfl
def Wd.set (r : Wd) (j : Nat) (x : Int) : Wd := ⟨r.1.set j x, by rw [List.length_set, r.2]⟩
theorem spl_wdc (r : Wd) {j : Nat} (h : j < 4) (x : Int) : spl (wdc r) j [.int .u64 x] = wdc (r.set j x) := by
  have h2 : j < r.1.length := by rw [r.2]; exact h
  unfold spl wdc Wd.set
  simp only
  rw [← List.map_take, List.length_singleton, ← List.map_drop, List.set_eq_take_append_cons_drop, if_pos h2]
  simp
theorem cutd_wdc (r : Wd) {j : Nat} (h : j < 4) : cut (wdc r) j 1 = [.int .u64 (r.1.getD j 0)] := by
  rw [cut_wdc r h, List.getD_eq_getElem?_getD, List.getElem?_eq_getElem (by rw [r.2]; exact h)]; rfl
def wd0 : Wd := ⟨List.replicate 4 0, rfl⟩
instance : Inhabited Wd := ⟨wd0⟩
end Go.FH
