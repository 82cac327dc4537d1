/-
  Operations: the program reads one.
-/
import Derived.Test.YtachiahepppajabGg
namespace Go.Proofs.Ytachiahepppajab
open Go Go.FH Go.RowKit
set_option linter.unusedVariables false
set_option linter.unusedSimpArgs false

theorem tail_walk (bs : List UInt8) (cl : Bool) (e : Int) : ACall Try.prog 33 [.ptr 0 0] [rdr cl bs e] (.sl 1 cl (bts bs)) [rdr cl bs e] := by
  refine ACall.fact 3 f_raw_Reader_Tail (by simp) ?_ (by simp)
  unfold c_raw_Reader_Tail
  try refine go_on ?_
  refine finQ [] [0] _ (by simp) (by first | rfl | exact evd) (by simp) rfl (by simp) (by simp) evd evd
/-- What is left behind bytes that somebody else has read. -/
def tkl (bs : List UInt8) (k : Nat) (e : Int) : List UInt8 := if e = 0 then bs.drop k else bs
theorem take_walk (bs : List UInt8) (cl : Bool) (e : Int) (k : Nat) (hk : k ≤ bs.length) : ACall Try.prog 38 [.ptr 0 0, .int .i64 (k : Int), .int .i64 e] [rdr cl bs 0] (.tup []) [rdr cl (tkl bs k e) e] := by
  refine ACall.fact 3 f_raw_Reader_Take (by simp) ?_ (by simp)
  unfold c_raw_Reader_Take tkl
  try refine go_on ?_
  refine tri_condF ?_
  try refine go_on ?_
  by_cases he : e = 0
  · subst he
    have e3 : List.take (bs.length - k) (List.drop k bs) = List.drop k bs := List.take_of_length_le (by simp)
    rw [if_pos rfl]
    refine tri_condF ?_
    repeat (first | refine go_on ?_ | simp only [go_sem, e3])
    refine finQ [] [0] _ (by simp) (by first | rfl | exact evd) (by simp) rfl (by simp) (by simp) evd evd
  · have he' : (e != 0) = true := by simpa using he
    rw [if_neg he]
    refine tri_condT ?_ (by (try simp only [go_sem, he']); try exact evd)
    try refine go_on ?_
    refine ocall [0] (fail_walk bs cl 0 e) evd (Picks.mk' (by simp) evd) ?_; refine evg ?_
    try refine go_on ?_
    refine finQ [] [0] _ (by simp) (by first | rfl | exact evd) (by simp) rfl (by simp) (by simp) evd evd
theorem take_err (bs : List UInt8) (cl : Bool) (e : Int) (he : e ≠ 0) : ACall Try.prog 38 [.ptr 0 0, .int .i64 0, .int .i64 0] [rdr cl bs e] (.tup []) [rdr cl bs e] := by
  refine ACall.fact 3 f_raw_Reader_Take (by simp) ?_ (by simp)
  unfold c_raw_Reader_Take
  have he' : (e != 0) = true := by simpa using he
  try refine go_on ?_
  refine tri_condT ?_ (by (try simp only [go_sem, he']); try exact evd)
  try refine go_on ?_
  refine finQ [] [0] _ (by simp) (by first | rfl | exact evd) (by simp) rfl (by simp) (by simp) evd evd

/-- What a reader of an operation answers: the operation, what is left, what is wrong. -/
def rOp (b : List UInt8) : OpV × List UInt8 × Int :=
  let k := rUint b 0 8
  let b1 := k.2.1
  if k.2.2 ≠ 0 then (opZ, b1, k.2.2)
  else if k.1 = 0 then (⟨0, blk0, attZ, slgZ, tabZ, vdt0, 0, 0⟩, b1, 2)
  else if k.1 = 2 then (⟨2, (dec blk0 b1.length (rBlk b1 0)).1, attZ, slgZ, tabZ, vdt0, 0, 0⟩, tkl b1 (dec blk0 b1.length (rBlk b1 0)).2.1.toNat (dec blk0 b1.length (rBlk b1 0)).2.2, (dec blk0 b1.length (rBlk b1 0)).2.2)
  else if k.1 = 3 then (⟨3, blk0, (decA b1.length (rAtt b1 0)).1, slgZ, tabZ, vdt0, 0, 0⟩, tkl b1 (decA b1.length (rAtt b1 0)).2.1.toNat (decA b1.length (rAtt b1 0)).2.2, (decA b1.length (rAtt b1 0)).2.2)
  else if k.1 = 4 then (⟨4, blk0, attZ, (decS b1.length (rSlg b1 0)).1, tabZ, vdt0, 0, 0⟩, tkl b1 (decS b1.length (rSlg b1 0)).2.1.toNat (decS b1.length (rSlg b1 0)).2.2, (decS b1.length (rSlg b1 0)).2.2)
  else if k.1 = 5 then (⟨5, blk0, attZ, slgZ, (dec tabZ b1.length (rTab b1 0)).1, vdt0, 0, 0⟩, tkl b1 (dec tabZ b1.length (rTab b1 0)).2.1.toNat (dec tabZ b1.length (rTab b1 0)).2.2, (dec tabZ b1.length (rTab b1 0)).2.2)
  else if k.1 = 6 then (⟨6, blk0, attZ, slgZ, tabZ, (decV b1.length (rVdt b1 0)).1, 0, 0⟩, tkl b1 (decV b1.length (rVdt b1 0)).2.1.toNat (decV b1.length (rVdt b1 0)).2.2, (decV b1.length (rVdt b1 0)).2.2)
  else if k.1 = 8 then (⟨8, blk0, attZ, slgZ, tabZ, vdt0, (rUint b1 0 32768).1, (rUint (rUint b1 0 32768).2.1 (rUint b1 0 32768).2.2 32768).1⟩, (rUint (rUint b1 0 32768).2.1 (rUint b1 0 32768).2.2 32768).2.1, (rUint (rUint b1 0 32768).2.1 (rUint b1 0 32768).2.2 32768).2.2)
  else (⟨k.1, blk0, attZ, slgZ, tabZ, vdt0, 0, 0⟩, b1, 0)
theorem wk_res {x : SOp} {y : OpV} (e : Int) (h : WkC (sOpC x) (sOpC (opL y))) : Wk (.tup [.agg (sOpC x), .int .i64 e]) (.tup [.agg (sOpC (opL y)), .int .i64 e]) := Wk.tup ⟨Wk.agg h, Wk.refl _, trivial⟩
theorem tkl_0 (bs : List UInt8) (e : Int) : tkl bs 0 e = bs := by simp [tkl]
attribute [go_sem] tkl_0
theorem dec_used {α : Type} (z : α) (n : Nat) (x : α × List UInt8 × Int) : ∃ k : Nat, k ≤ n ∧ (dec z n x).2.1 = (k : Int) := by
  unfold dec
  (repeat' split) <;> first | exact ⟨0, by omega, rfl⟩ | exact ⟨n - x.2.1.length, by omega, rfl⟩
theorem decA_used (n : Nat) (x : (Int × Rt × Cp × List Int) × List UInt8 × Int) : ∃ k : Nat, k ≤ n ∧ (decA n x).2.1 = (k : Int) := by
  unfold decA
  (repeat' split) <;> first | exact ⟨0, by omega, rfl⟩ | exact ⟨n - x.2.1.length, by omega, rfl⟩
theorem decS_used (n : Nat) (x : Sv × List UInt8 × Int) : ∃ k : Nat, k ≤ n ∧ (decS n x).2.1 = (k : Int) := by
  unfold decS
  (repeat' split) <;> first | exact ⟨0, by omega, rfl⟩ | exact ⟨n - x.2.1.length, by omega, rfl⟩
theorem decV_used (n : Nat) (x : Vdt × List UInt8 × Int) : ∃ k : Nat, k ≤ n ∧ (decV n x).2.1 = (k : Int) := by
  unfold decV
  (repeat' split) <;> first | exact ⟨0, by omega, rfl⟩ | exact ⟨n - x.2.1.length, by omega, rfl⟩

set_option maxRecDepth 100000 in
set_option maxHeartbeats 8000000 in
theorem rop_walk (b : List UInt8) (hb : b.length ≤ 140737488355328) :
    ACall Try.prog 21 [.ptr 0 0] [rdr false b 0] (.tup [.agg (sOpC (opL (rOp b).1)), .int .i64 (rOp b).2.2]) [rdr false (rOp b).2.1 (rOp b).2.2] := by
  refine ACall.fact 8 f_script_operation (by simp) ?_ (by simp)
  unfold c_script_operation
  have c1 := uint_walk b false 0 8 hb
  have l1 := rUint_len b 0 8
  have n1 := rUint_nonneg b 0 8
  have m1 := rUint_le b 0 8 (by omega)
  have hR : rOp b = rOp b := rfl
  conv at hR => rhs; rw [rOp]
  rcases h1 : rUint b 0 8 with ⟨k, b1, e1⟩
  rw [h1] at c1 l1 n1 m1 hR
  dsimp only at c1 l1 n1 m1 hR
  have hwk : IntKind.i64.wrap k = k := wrap_i64_in (by omega) (by omega)
  try refine go_on ?_
  refine ocall [0] (c1) evd (Picks.mk' (by simp) evd) ?_; refine evg ?_
  repeat (first | refine go_on ?_ | simp only [go_sem, hwk])
  refine ocall [0] (err_walk b1 false e1) evd (Picks.mk' (by simp) evd) ?_; refine evg ?_
  try refine go_on ?_
  by_cases he : e1 = 0
  case neg =>
    have he' : (e1 != 0) = true := by simpa using he
    rw [if_pos he] at hR
    rw [hR]
    dsimp only
    refine tri_condT ?_ (by (try simp only [go_sem, he']); try exact evd)
    try refine go_on ?_
    refine finQw [] [0] _ (by simp) (by first | rfl | exact evd) (by simp) rfl (by simp) (by simp) evd evd (wk_res (x := sOp0) e1 wkc_op0)
  subst he
  rw [if_neg (by simp)] at hR
  refine tri_condF ?_
  try refine go_on ?_
  by_cases k0 : k = 0
  case pos =>
    subst k0
    rw [if_pos rfl] at hR
    rw [hR]
    dsimp only
    refine tri_condT ?_
    try refine go_on ?_
    refine ocall [0] (take_walk b1 false 2 0 (by omega)) evd (Picks.mk' (by simp) evd) ?_; refine evg ?_
    try refine go_on ?_
    refine dcallr [0] (err_walk b1 false 2) evd (Picks.mk' (by simp) evd) ?_; refine evg ?_
    try refine go_on ?_
    refine finQw [] [0] _ (by simp) (by first | rfl | exact evd) (by simp) rfl (by simp) (by simp) evd evd (wk_res (x := ⟨0, blk0, att0, slg0, tab0, vdt0, 0, 0⟩) 2 (wkc_op rfl rfl wkc_att0 wkc_slg0 wkc_tab0 rfl rfl rfl))
  rw [if_neg k0] at hR
  have n0 : (k == 0) = false := by simp [k0]
  refine tri_condF ?_ (by (try simp only [go_sem, n0]); try exact evd)
  try refine go_on ?_
  by_cases k2 : k = 2
  case pos =>
    subst k2
    rw [if_pos rfl] at hR
    refine tri_condT ?_
    have cd := rdec_blk b1 (by omega)
    obtain ⟨u, hu1, hu2⟩ : ∃ u : Nat, u ≤ b1.length ∧ (dec blk0 b1.length (rBlk b1 0)).2.1 = (u : Int) := dec_used _ _ _
    generalize dec blk0 b1.length (rBlk b1 0) = D at *
    obtain ⟨v, u', e⟩ := D
    dsimp only at cd hu2 hR
    subst hu2
    rw [Int.toNat_natCast] at hR
    rw [hR]
    dsimp only
    try refine go_on ?_
    refine ocall [0] (tail_walk b1 false 0) evd (Picks.mk' (by simp) evd) ?_; refine evg ?_
    try refine go_on ?_
    refine pcall cd ?_
    try refine go_on ?_
    refine ocall [0] (take_walk b1 false e u hu1) evd (Picks.mk' (by simp) evd) ?_; refine evg ?_
    try refine go_on ?_
    refine dcallr [0] (err_walk (tkl b1 u e) false e) evd (Picks.mk' (by simp) evd) ?_; refine evg ?_
    try refine go_on ?_
    refine finQw [] [0] _ (by simp) (by first | rfl | exact evd) (by simp) rfl (by simp) (by simp) evd evd (wk_res (x := ⟨2, v, att0, slg0, tab0, vdt0, 0, 0⟩) e (wkc_op rfl rfl wkc_att0 wkc_slg0 wkc_tab0 rfl rfl rfl))
  rw [if_neg k2] at hR
  have n2 : (k == 2) = false := by simp [k2]
  refine tri_condF ?_ (by (try simp only [go_sem, n2]); try exact evd)
  try refine go_on ?_
  by_cases k3 : k = 3
  case pos =>
    subst k3
    rw [if_pos rfl] at hR
    refine tri_condT ?_
    have cd := rdec_att b1 (by omega)
    obtain ⟨u, hu1, hu2⟩ : ∃ u : Nat, u ≤ b1.length ∧ (decA b1.length (rAtt b1 0)).2.1 = (u : Int) := decA_used _ _
    generalize decA b1.length (rAtt b1 0) = D at *
    obtain ⟨v, u', e⟩ := D
    dsimp only at cd hu2 hR
    subst hu2
    rw [Int.toNat_natCast] at hR
    rw [hR]
    dsimp only
    try refine go_on ?_
    refine ocall [0] (tail_walk b1 false 0) evd (Picks.mk' (by simp) evd) ?_; refine evg ?_
    try refine go_on ?_
    refine pcall cd ?_
    try refine go_on ?_
    refine ocall [0] (take_walk b1 false e u hu1) evd (Picks.mk' (by simp) evd) ?_; refine evg ?_
    try refine go_on ?_
    refine dcallr [0] (err_walk (tkl b1 u e) false e) evd (Picks.mk' (by simp) evd) ?_; refine evg ?_
    try refine go_on ?_
    refine finQw [] [0] _ (by simp) (by first | rfl | exact evd) (by simp) rfl (by simp) (by simp) evd evd (wk_res (x := ⟨3, blk0, attL v, slg0, tab0, vdt0, 0, 0⟩) e (wkc_op rfl rfl (WkC.refl _) wkc_slg0 wkc_tab0 rfl rfl rfl))
  rw [if_neg k3] at hR
  have n3 : (k == 3) = false := by simp [k3]
  refine tri_condF ?_ (by (try simp only [go_sem, n3]); try exact evd)
  try refine go_on ?_
  by_cases k4 : k = 4
  case pos =>
    subst k4
    rw [if_pos rfl] at hR
    refine tri_condT ?_
    have cd := rdec_slg b1 (by omega)
    obtain ⟨u, hu1, hu2⟩ : ∃ u : Nat, u ≤ b1.length ∧ (decS b1.length (rSlg b1 0)).2.1 = (u : Int) := decS_used _ _
    generalize decS b1.length (rSlg b1 0) = D at *
    obtain ⟨v, u', e⟩ := D
    dsimp only at cd hu2 hR
    subst hu2
    rw [Int.toNat_natCast] at hR
    rw [hR]
    dsimp only
    try refine go_on ?_
    refine ocall [0] (tail_walk b1 false 0) evd (Picks.mk' (by simp) evd) ?_; refine evg ?_
    try refine go_on ?_
    refine pcall cd ?_
    try refine go_on ?_
    refine ocall [0] (take_walk b1 false e u hu1) evd (Picks.mk' (by simp) evd) ?_; refine evg ?_
    try refine go_on ?_
    refine dcallr [0] (err_walk (tkl b1 u e) false e) evd (Picks.mk' (by simp) evd) ?_; refine evg ?_
    try refine go_on ?_
    refine finQw [] [0] _ (by simp) (by first | rfl | exact evd) (by simp) rfl (by simp) (by simp) evd evd (wk_res (x := ⟨4, blk0, att0, slgL v, tab0, vdt0, 0, 0⟩) e (wkc_op rfl rfl wkc_att0 (WkC.refl _) wkc_tab0 rfl rfl rfl))
  rw [if_neg k4] at hR
  have n4 : (k == 4) = false := by simp [k4]
  refine tri_condF ?_ (by (try simp only [go_sem, n4]); try exact evd)
  try refine go_on ?_
  by_cases k5 : k = 5
  case pos =>
    subst k5
    rw [if_pos rfl] at hR
    refine tri_condT ?_
    have cd := rdec_tab b1 (by omega)
    obtain ⟨u, hu1, hu2⟩ : ∃ u : Nat, u ≤ b1.length ∧ (dec tabZ b1.length (rTab b1 0)).2.1 = (u : Int) := dec_used _ _ _
    generalize dec tabZ b1.length (rTab b1 0) = D at *
    obtain ⟨v, u', e⟩ := D
    dsimp only at cd hu2 hR
    subst hu2
    rw [Int.toNat_natCast] at hR
    rw [hR]
    dsimp only
    try refine go_on ?_
    refine ocall [0] (tail_walk b1 false 0) evd (Picks.mk' (by simp) evd) ?_; refine evg ?_
    try refine go_on ?_
    refine pcall cd ?_
    try refine go_on ?_
    refine ocall [0] (take_walk b1 false e u hu1) evd (Picks.mk' (by simp) evd) ?_; refine evg ?_
    try refine go_on ?_
    refine dcallr [0] (err_walk (tkl b1 u e) false e) evd (Picks.mk' (by simp) evd) ?_; refine evg ?_
    try refine go_on ?_
    refine finQw [] [0] _ (by simp) (by first | rfl | exact evd) (by simp) rfl (by simp) (by simp) evd evd (wk_res (x := ⟨5, blk0, att0, slg0, tabL v, vdt0, 0, 0⟩) e (wkc_op rfl rfl wkc_att0 wkc_slg0 (WkC.refl _) rfl rfl rfl))
  rw [if_neg k5] at hR
  have n5 : (k == 5) = false := by simp [k5]
  refine tri_condF ?_ (by (try simp only [go_sem, n5]); try exact evd)
  try refine go_on ?_
  by_cases k6 : k = 6
  case pos =>
    subst k6
    rw [if_pos rfl] at hR
    refine tri_condT ?_
    have cd := rdec_vdt b1 (by omega)
    obtain ⟨u, hu1, hu2⟩ : ∃ u : Nat, u ≤ b1.length ∧ (decV b1.length (rVdt b1 0)).2.1 = (u : Int) := decV_used _ _
    generalize decV b1.length (rVdt b1 0) = D at *
    obtain ⟨v, u', e⟩ := D
    dsimp only at cd hu2 hR
    subst hu2
    rw [Int.toNat_natCast] at hR
    rw [hR]
    dsimp only
    try refine go_on ?_
    refine ocall [0] (tail_walk b1 false 0) evd (Picks.mk' (by simp) evd) ?_; refine evg ?_
    try refine go_on ?_
    refine pcall cd ?_
    try refine go_on ?_
    refine ocall [0] (take_walk b1 false e u hu1) evd (Picks.mk' (by simp) evd) ?_; refine evg ?_
    try refine go_on ?_
    refine dcallr [0] (err_walk (tkl b1 u e) false e) evd (Picks.mk' (by simp) evd) ?_; refine evg ?_
    try refine go_on ?_
    refine finQw [] [0] _ (by simp) (by first | rfl | exact evd) (by simp) rfl (by simp) (by simp) evd evd (wk_res (x := ⟨6, blk0, att0, slg0, tab0, v, 0, 0⟩) e (wkc_op rfl rfl wkc_att0 wkc_slg0 wkc_tab0 rfl rfl rfl))
  rw [if_neg k6] at hR
  have n6 : (k == 6) = false := by simp [k6]
  refine tri_condF ?_ (by (try simp only [go_sem, n6]); try exact evd)
  try refine go_on ?_
  by_cases k8 : k = 8
  case pos =>
    subst k8
    rw [if_pos rfl] at hR
    refine tri_condT ?_
    have c2 := uint_walk b1 false 0 32768 (by omega)
    have l2 := rUint_len b1 0 32768
    have p2 := rUint_nonneg b1 0 32768
    have m2 := rUint_le b1 0 32768 (by omega)
    rcases h2 : rUint b1 0 32768 with ⟨w, b2, e2⟩
    rw [h2] at c2 l2 p2 m2 hR
    dsimp only at c2 l2 p2 m2 hR
    have c3 := uint_walk b2 false e2 32768 (by omega)
    have p3 := rUint_nonneg b2 e2 32768
    have m3 := rUint_le b2 e2 32768 (by omega)
    rcases h3 : rUint b2 e2 32768 with ⟨p, b3, e3⟩
    rw [h3] at c3 p3 m3 hR
    dsimp only at c3 p3 m3 hR
    rw [hR]
    dsimp only
    have w2 : IntKind.i64.wrap w = w := wrap_i64_in (by omega) (by omega)
    have w3 : IntKind.i64.wrap p = p := wrap_i64_in (by omega) (by omega)
    have ct : ACall Try.prog 38 [.ptr 0 0, .int .i64 0, .int .i64 0] [rdr false b3 e3] (.tup []) [rdr false b3 e3] := by
      by_cases hz : e3 = 0
      · subst hz
        exact take_walk b3 false 0 0 (by omega)
      · exact take_err b3 false e3 hz
    try refine go_on ?_
    refine ocall [0] (c2) evd (Picks.mk' (by simp) evd) ?_; refine evg ?_
    repeat (first | refine go_on ?_ | simp only [go_sem, w2])
    refine ocall [0] (c3) evd (Picks.mk' (by simp) evd) ?_; refine evg ?_
    repeat (first | refine go_on ?_ | simp only [go_sem, w2, w3])
    refine ocall [0] (ct) evd (Picks.mk' (by simp) evd) ?_; refine evg ?_
    try refine go_on ?_
    refine dcallr [0] (err_walk b3 false e3) evd (Picks.mk' (by simp) evd) ?_; refine evg ?_
    try refine go_on ?_
    refine finQw [] [0] _ (by simp) (by first | rfl | exact evd) (by simp) rfl (by simp) (by simp) evd evd (wk_res (x := ⟨8, blk0, att0, slg0, tab0, vdt0, w, p⟩) e3 (wkc_op rfl rfl wkc_att0 wkc_slg0 wkc_tab0 rfl rfl rfl))
  rw [if_neg k8] at hR
  rw [hR]
  dsimp only
  have n8 : (k == 8) = false := by simp [k8]
  refine tri_condF ?_ (by (try simp only [go_sem, n8]); try exact evd)
  try refine go_on ?_
  refine ocall [0] (take_walk b1 false 0 0 (by omega)) evd (Picks.mk' (by simp) evd) ?_; refine evg ?_
  try refine go_on ?_
  refine dcallr [0] (err_walk b1 false 0) evd (Picks.mk' (by simp) evd) ?_; refine evg ?_
  try refine go_on ?_
  refine finQw [] [0] _ (by simp) (by first | rfl | exact evd) (by simp) rfl (by simp) (by simp) evd evd (wk_res (x := ⟨k, blk0, att0, slg0, tab0, vdt0, 0, 0⟩) 0 (wkc_op rfl rfl wkc_att0 wkc_slg0 wkc_tab0 rfl rfl rfl))
end Go.Proofs.Ytachiahepppajab
