/-
  My texts Ej, Ek, El, Em, joined.
-/
import Derived.Test.YtdkahoohedljhaaMe
import Derived.Test.YtdkahoohedljhaaMc
namespace Go.Proofs.Ytdkahoohedljhaa
open Go Go.FH Go.RowKit
set_option linter.unusedVariables false
set_option linter.unusedSimpArgs false

/-- A reader of records: its reader, its length. -/
abbrev rr (n : Int) : AObj := .var [.ptr 0 0, .int .i64 n]
theorem rUint_le (b : List UInt8) (e m : Int) (hm : 0 ≤ m) : (rUint b e m).1 ≤ m := by
  unfold rUint
  (repeat' split) <;> first | omega | (simp only; omega)

/-- Lists as elements. -/
def lsl (ls : List (List Int)) : List (List AV) := ls.map fun l => [.sl 1 false (nums .i64 l)]
theorem Pu_lsl (ls : List (List Int)) : PuLL (lsl ls) := by
  rw [PuLL_iff]; intro x hx
  obtain ⟨l, _, rfl⟩ := List.mem_map.1 hx
  exact ⟨Pu_nums _ _, trivial⟩
theorem renLL_lsl (ρ : Nat → Nat) (ls : List (List Int)) : renLL ρ (lsl ls) = lsl ls := (Pu_lsl ls).ren ρ
theorem fzLL_lsl (σ : St) (zs : List Nat) (ls : List (List Int)) : fzLL σ zs (lsl ls) = lsl ls := (Pu_lsl ls).fz σ zs
theorem length_lsl (ls : List (List Int)) : (lsl ls).length = ls.length := by simp [lsl]
theorem getD_lsl {ls : List (List Int)} {i : Nat} (h : i < ls.length) : (lsl ls).getD i [] = [.sl 1 false (nums .i64 (ls.getD i []))] := by
  simp [lsl, List.getD_eq_getElem?_getD, h]
attribute [go_sem] renLL_lsl fzLL_lsl length_lsl
/-- Whether lists are valid, from the place i on. -/
def okFrom (ls : List (List Int)) (i : Nat) : Bool := (ls.drop i).all fun l => vErr l 1024 == 0
theorem okFrom_s {ls : List (List Int)} {i : Nat} (h : i < ls.length) : okFrom ls i = ((vErr (ls.getD i []) 1024 == 0) && okFrom ls (i + 1)) := by
  unfold okFrom
  rw [List.drop_eq_getElem_cons h, List.all_cons, List.getD_eq_getElem?_getD, List.getElem?_eq_getElem h]; rfl
def endOf (n : Int) (ls : List (List Int)) (b : List UInt8) (e : Int) : Int × Int := if e ≠ 0 then (0, e) else if okFrom ls 0 then (n - b.length, 0) else (0, 2)
end Go.Proofs.Ytdkahoohedljhaa

namespace Go.Proofs.Ytdkahoohedljhaa
open Go Go.FH Go.RowKit
set_option linter.unusedVariables false
set_option linter.unusedSimpArgs false

theorem rBool_len (b : List UInt8) (e : Int) : (rBool b e).2.1.length ≤ b.length := by
  unfold rBool
  split
  · exact Nat.le_refl _
  · split
    · exact Nat.le_refl _
    · split
      · exact Nat.le_refl _
      · simp
theorem rWide_len (b : List UInt8) (e : Int) : (rWide b e).2.1.length ≤ b.length := rRoot_len b e
theorem rCp_len (b : List UInt8) (e : Int) : (rCp b e).2.1.length ≤ b.length := by
  unfold rCp
  split
  · exact Nat.le_refl _
  · exact Nat.le_trans (rRoot_len _ _) (rUint_len _ _ _)

theorem blkC_fold2 (pul : Pul) (slot : Int) (root parent payload : Rt) (diff pdiff : Wd) (just fin : Cp) (timely : Bool) :
    pulC pul ++ .int .u64 slot :: (rtc root ++ (rtc parent ++ (rtc payload ++ (wdc diff ++ (wdc pdiff ++ (cpC just ++ tabC ⟨fin, .bool timely⟩)))))) = blkC ⟨pul, slot, root, parent, payload, diff, pdiff, just, fin, timely⟩ := rfl
attribute [go_sem] blkC_fold2
/-- What a reader of a block answers. -/
def rBlk (b0 : List UInt8) (e0 : Int) : Blk × List UInt8 × Int :=
  let s := rUint b0 e0 maxU
  let r := rRoot s.2.1 s.2.2
  let p := rRoot r.2.1 r.2.2
  let y := rRoot p.2.1 p.2.2
  let d := rWide y.2.1 y.2.2
  let g := rWide d.2.1 d.2.2
  let j := rCp g.2.1 g.2.2
  let f := rCp j.2.1 j.2.2
  let u := rCp f.2.1 f.2.2
  let v := rCp u.2.1 u.2.2
  let t := rBool v.2.1 v.2.2
  (⟨⟨u.1, v.1⟩, s.1, r.1, p.1, y.1, d.1, g.1, j.1, f.1, t.1⟩, t.2.1, t.2.2)
/-- What is decoded: zero where something is wrong. -/
def dec {α : Type} (z : α) (n : Nat) (x : α × List UInt8 × Int) : α × Int × Int := if x.2.2 ≠ 0 then (z, 0, x.2.2) else (x.1, ((n - x.2.1.length : Nat) : Int), 0)
theorem endOf_nil (n : Int) (b : List UInt8) (e : Int) : endOf n [] b e = if e ≠ 0 then (0, e) else (n - b.length, 0) := by simp [endOf, okFrom]

/-- What a reader of a verdict answers. -/
def rVdt (b0 : List UInt8) (e0 : Int) : Vdt × List UInt8 × Int :=
  let s := rUint b0 e0 maxU
  let k := rUint s.2.1 s.2.2 4
  let r := rRoot k.2.1 k.2.2
  (⟨s.1, k.1, r.1⟩, r.2.1, r.2.2)
def decV (n : Nat) (x : Vdt × List UInt8 × Int) : Vdt × Int × Int := if x.2.2 ≠ 0 then (vdt0, 0, x.2.2) else if x.1.kind = 0 then (vdt0, 0, 2) else (x.1, ((n - x.2.1.length : Nat) : Int), 0)
end Go.Proofs.Ytdkahoohedljhaa

namespace Go.Proofs.Ytdkahoohedljhaa
open Go Go.FH Go.RowKit
set_option linter.unusedVariables false
set_option linter.unusedSimpArgs false

/-- Cells that say less. -/
def WkC : List AV → List AV → Prop
  | [], [] => True
  | c :: cs, d :: ds => Wk c d ∧ (c.cell = true → d.cell = true) ∧ WkC cs ds
  | _, _ => False
theorem WkC.refl : ∀ cs : List AV, WkC cs cs
  | [] => trivial
  | c :: cs => ⟨Wk.refl c, fun h => h, WkC.refl cs⟩
theorem WkC.app : ∀ {a b c d : List AV}, WkC a b → WkC c d → WkC (a ++ c) (b ++ d)
  | [], [], _, _, _, h => h
  | _ :: _, _ :: _, _, _, h1, h2 => ⟨h1.1, h1.2.1, WkC.app h1.2.2 h2⟩
  | [], _ :: _, _, _, h, _ | _ :: _, [], _, _, h, _ => h.elim
theorem WkC.rlc {E : Env} : ∀ {cs ds : List AV} {us : List Value}, WkC cs ds → RlC E cs us → RlC E ds us
  | [], [], _, _, h => h
  | _ :: _, _ :: _, _, hw, ⟨u, us, e, h1, h2, h3⟩ => ⟨u, us, e, hw.2.1 h1, hw.1 _ _ h2, WkC.rlc hw.2.2 h3⟩
  | [], _ :: _, _, h, _ | _ :: _, [], _, h, _ => h.elim
theorem Wk.agg {cs ds : List AV} (h : WkC cs ds) : Wk (.agg cs) (.agg ds) := fun _ _ ⟨vs, e, hr⟩ => ⟨vs, e, h.rlc hr⟩

theorem attC_fold2 (s : Int) (r : Rt) (c : Cp) (v : AV) : .int .u64 s :: (rtc r ++ tabC ⟨c, v⟩) = attC ⟨s, r, c, v⟩ := rfl
attribute [go_sem] attC_fold2
theorem lsl_nil : lsl [] = [] := rfl
theorem lsl_cons (l : List Int) (ls : List (List Int)) : lsl (l :: ls) = [.sl 1 false (nums .i64 l)] :: lsl ls := rfl
theorem renLL_cons (ρ : Nat → Nat) (x : List AV) (xs : List (List AV)) : renLL ρ (x :: xs) = renL ρ x :: renLL ρ xs := rfl
attribute [go_sem] lsl_nil lsl_cons renLL_cons
theorem endOf_one (n : Int) (l : List Int) (b : List UInt8) (e : Int) : endOf n [l] b e = if e ≠ 0 then (0, e) else if vErr l 1024 = 0 then (n - b.length, 0) else (0, 2) := by simp [endOf, okFrom]
theorem endOf_two (n : Int) (l m : List Int) (b : List UInt8) (e : Int) : endOf n [l, m] b e = if e ≠ 0 then (0, e) else if vErr l 1024 = 0 ∧ vErr m 1024 = 0 then (n - b.length, 0) else (0, 2) := by simp [endOf, okFrom]

def attL (x : Int × Rt × Cp × List Int) : Att := ⟨x.1, x.2.1, x.2.2.1, .sl 1 false (nums .i64 x.2.2.2)⟩
def attZ : Int × Rt × Cp × List Int := (0, rt0, cp0, [])
theorem WkC.cons {c d : AV} {cs ds : List AV} (h : Wk c d) (hc : c.cell = true → d.cell = true) (h2 : WkC cs ds) : WkC (c :: cs) (d :: ds) := ⟨h, hc, h2⟩
theorem WkC.same (c : AV) {cs ds : List AV} (h2 : WkC cs ds) : WkC (c :: cs) (c :: ds) := .cons (Wk.refl c) (fun h => h) h2
theorem WkC.one {c d : AV} (h : Wk c d) (hc : c.cell = true → d.cell = true) : WkC [c] [d] := .cons h hc trivial
theorem wk_att (s : Int) (r : Rt) (c : Cp) {v v' : AV} (h : Wk v v') (hc : v.cell = true → v'.cell = true) : Wk (.agg (attC ⟨s, r, c, v⟩)) (.agg (attC ⟨s, r, c, v'⟩)) :=
  Wk.agg (WkC.same _ ((WkC.refl (rtc r)).app ((WkC.refl (cpC c)).app (WkC.one h hc))))
theorem wk_att0 : Wk (.agg (attC att0)) (.agg (attC (attL attZ))) := wk_att 0 rt0 cp0 (Wk.empty 0 1 false) fun h => h
/-- What a reader of an attestation answers. -/
def rAtt (b0 : List UInt8) (e0 : Int) : (Int × Rt × Cp × List Int) × List UInt8 × Int :=
  let s := rUint b0 e0 maxU
  let r := rRoot s.2.1 s.2.2
  let c := rCp r.2.1 r.2.2
  let l := rList c.2.1 c.2.2
  ((s.1, r.1, c.1, l.1), l.2.1, l.2.2)
def decA (n : Nat) (x : (Int × Rt × Cp × List Int) × List UInt8 × Int) : (Int × Rt × Cp × List Int) × Int × Int :=
  if x.2.2 ≠ 0 then (attZ, 0, x.2.2) else if vErr x.1.2.2.2 1024 = 0 then (x.1, ((n - x.2.1.length : Nat) : Int), 0) else (attZ, 0, 2)
theorem Pu_attL (x : Int × Rt × Cp × List Int) : Pu (.agg (attC (attL x))) := (PuL_attC _).2 (Pu_nums _ _)

theorem rLst_cnt : ∀ (n : Nat) (last : Int) (acc : List Int) (bs : List UInt8) (e : Int), (rLst n last acc bs e).1.length ≤ acc.length + n
  | 0, _, _, _, _ => Nat.le_refl _
  | n + 1, last, acc, bs, e => by
    rw [rLst]
    split
    · simp only; omega
    · have := rLst_cnt n (last + 1 + (rUint bs e 1024).1) (acc ++ [last + 1 + (rUint bs e 1024).1]) (rUint bs e 1024).2.1 (rUint bs e 1024).2.2
      simp only [List.length_append, List.length_cons, List.length_nil] at this
      omega
theorem rList_cnt (b : List UInt8) (e : Int) : (rList b e).1.length ≤ 1024 := by
  have h1 := rLst_cnt (rUint b e 1024).1.toNat (-1) [] (rUint b e 1024).2.1 (rUint b e 1024).2.2
  have h2 := rUint_le b e 1024 (by omega)
  simp only [List.length_nil] at h1
  show (rLst _ _ _ _ _).1.length ≤ 1024
  omega

end Go.Proofs.Ytdkahoohedljhaa

namespace Go.Proofs.Ytdkahoohedljhaa
open Go Go.FH Go.RowKit
set_option linter.unusedVariables false
set_option linter.unusedSimpArgs false

abbrev Cv := Int × Int × Rt × List Int
def clmL (x : Cv) : Clm := ⟨x.1, x.2.1, x.2.2.1, .sl 1 false (nums .i64 x.2.2.2)⟩
theorem clmL_map (x : Cv) (ρ : Nat → Nat) : (clmL x).map (ren ρ) = clmL x := by simp only [clmL, Clm.map, ren, renLL_nums]
theorem clmL_fz (x : Cv) (σ : St) (zs : List Nat) : (clmL x).map (fz σ zs) = clmL x := by simp only [clmL, Clm.map, fz, fzLL_nums]
theorem clmL_good (x : Cv) : (clmL x).good = true := rfl
theorem clmL_vals (x : Cv) : (clmL x).vals = .sl 1 false (nums .i64 x.2.2.2) := rfl
theorem clmL_pu (x : Cv) : (clmL x).Pure := Pu_nums _ _
attribute [go_sem] clmL_map clmL_fz clmL_good clmL_vals
def clmZ : Cv := (0, 0, rt0, [])
/-- What a reader of a claim answers. -/
def rClm (b0 : List UInt8) (e0 : Int) : Cv × List UInt8 × Int :=
  let s := rUint b0 e0 maxU
  let t := rUint s.2.1 s.2.2 maxU
  let r := rRoot t.2.1 t.2.2
  let l := rList r.2.1 r.2.2
  ((s.1, t.1, r.1, l.1), l.2.1, l.2.2)
theorem rClm_len (b : List UInt8) (e : Int) : (rClm b e).2.1.length ≤ b.length :=
  Nat.le_trans (rList_len _ _) (Nat.le_trans (rRoot_len _ _) (Nat.le_trans (rUint_len _ _ _) (rUint_len _ _ _)))
theorem rClm_cnt (b : List UInt8) (e : Int) : (rClm b e).1.2.2.2.length ≤ 1024 := rList_cnt _ _

abbrev Sv := Cv × Cv
def slgL (x : Sv) : Slg := ⟨clmL x.1, clmL x.2⟩
def slgZ : Sv := (clmZ, clmZ)
def rSlg (b0 : List UInt8) (e0 : Int) : Sv × List UInt8 × Int :=
  let s := rClm b0 e0
  let t := rClm s.2.1 s.2.2
  ((s.1, t.1), t.2.1, t.2.2)
def decS (n : Nat) (x : Sv × List UInt8 × Int) : Sv × Int × Int :=
  if x.2.2 ≠ 0 then (slgZ, 0, x.2.2) else if vErr x.1.1.2.2.2 1024 = 0 ∧ vErr x.1.2.2.2.2 1024 = 0 then (x.1, ((n - x.2.1.length : Nat) : Int), 0) else (slgZ, 0, 2)
theorem Pu_slgL (x : Sv) : Pu (.agg (slgC (slgL x))) := (PuL_slgC _).2 ⟨clmL_pu _, clmL_pu _⟩
theorem wkc_clm (s t : Int) (r : Rt) {v v' : AV} (h : Wk v v') (hc : v.cell = true → v'.cell = true) : WkC (clmC ⟨s, t, r, v⟩) (clmC ⟨s, t, r, v'⟩) :=
  WkC.same _ (WkC.same _ ((WkC.refl (rtc r)).app (WkC.one h hc)))
theorem wk_slg0 : Wk (.agg (slgC slg0)) (.agg (slgC (slgL slgZ))) :=
  Wk.agg ((wkc_clm 0 0 rt0 (Wk.empty 0 1 false) fun h => h).app (wkc_clm 0 0 rt0 (Wk.empty 0 1 false) fun h => h))

abbrev Tv := Cp × List Int
def tabL (x : Tv) : Tab := ⟨x.1, .sl 1 false (nums .u64 x.2)⟩
def tabZ : Tv := (cp0, [])
theorem Pu_tabL (x : Tv) : Pu (.agg (tabC (tabL x))) := (PuL_tabC _).2 (Pu_nums _ _)
theorem wk_tab (c : Cp) {v v' : AV} (h : Wk v v') (hc : v.cell = true → v'.cell = true) : Wk (.agg (tabC ⟨c, v⟩)) (.agg (tabC ⟨c, v'⟩)) := Wk.agg ((WkC.refl (cpC c)).app (WkC.one h hc))
theorem wk_tab0 : Wk (.agg (tabC tab0)) (.agg (tabC (tabL tabZ))) := wk_tab cp0 (Wk.empty 0 1 false) fun h => h
def rTab (b0 : List UInt8) (e0 : Int) : Tv × List UInt8 × Int :=
  let s := rUint b0 e0 maxU
  let r := rRoot s.2.1 s.2.2
  let n := rUint r.2.1 r.2.2 1024
  let l := rNums n.1.toNat [] n.2.1 n.2.2
  ((⟨s.1, r.1⟩, l.1), l.2.1, l.2.2)

end Go.Proofs.Ytdkahoohedljhaa
