/-
  Operations: the reference reads one.
-/
import Derived.Test.YtachiahepppajaaGh
namespace Go.Proofs.Ytachiahepppajaa
open Go Go.FH Go.RowKit
set_option linter.unusedVariables false
set_option linter.unusedSimpArgs false

theorem PuL_op0 : PuL (sOpC sOp0) := (PuL_sOpC _).2 ⟨trivial, ⟨trivial, trivial⟩, trivial⟩
/-- What the reference answers: the operation, the bytes that it takes, what is wrong. -/
def nOp (b : List UInt8) : OpV × Int × Int := if (rOp b).2.2 ≠ 0 then (opZ, 0, (rOp b).2.2) else ((rOp b).1, ((b.length - (rOp b).2.1.length : Nat) : Int), 0)
theorem wk_res3 {x : SOp} {y : OpV} (n e : Int) (h : WkC (sOpC x) (sOpC (opL y))) : Wk (.tup [.agg (sOpC x), .int .i64 n, .int .i64 e]) (.tup [.agg (sOpC (opL y)), .int .i64 n, .int .i64 e]) := Wk.tup ⟨Wk.agg h, Wk.refl _, Wk.refl _, trivial⟩
theorem nOp_bad {b : List UInt8} {x : OpV} {l : List UInt8} {e : Int} (h : rOp b = (x, l, e)) (he : e ≠ 0) : nOp b = (opZ, 0, e) := by simp [nOp, h, he]
theorem nOp_ok {b : List UInt8} {x : OpV} {l : List UInt8} (h : rOp b = (x, l, 0)) : nOp b = (x, ((b.length - l.length : Nat) : Int), 0) := by simp [nOp, h]

set_option maxRecDepth 100000 in
set_option maxHeartbeats 8000000 in
theorem nop_walk (b : List UInt8) (hb : b.length ≤ 140737488355328) :
    PC Try.prog 127 [.sl 1 false (bts b)] (.tup [.agg (sOpC (opL (nOp b).1)), .int .i64 (nOp b).2.1, .int .i64 (nOp b).2.2]) := by
  refine PC.fact 10 f_ref4_next (by simp) ⟨Pu_bts b, trivial⟩ ⟨PuL_opL _, trivial, trivial, trivial⟩ ?_
  unfold c_ref4_next
  have c1 := suint_walk b b false 0 8 (List.suffix_refl _) hb
  have s1 := rUint_suf b 0 8
  have n1 := rUint_nonneg b 0 8
  have m1 := rUint_le b 0 8 (by omega)
  have hR : rOp b = rOp b := rfl
  conv at hR => rhs; rw [rOp]
  rcases h1 : rUint b 0 8 with ⟨k, b1, e1⟩
  rw [h1] at c1 s1 n1 m1 hR
  dsimp only at c1 s1 n1 m1 hR
  have hwk : IntKind.i64.wrap k = k := wrap_i64_in (by omega) (by omega)
  have hlen : b1.length ≤ b.length := s1.length_le
  obtain ⟨a, ha⟩ : ∃ a : Nat, b.length - b1.length = a := ⟨_, rfl⟩
  have hdr : List.drop a b = b1 := by
    obtain ⟨p, rfl⟩ := s1
    rw [← ha, len_behind, List.drop_left]
  have htk : List.take (b.length - a) b1 = b1 := List.take_of_length_le (by omega)
  have ha2 : (a : Int) ≤ (b.length : Int) := by omega
  simp only [sro, Nat.sub_self] at c1
  rw [ha] at c1
  try refine go_on ?_
  refine ocall [1] (c1) evd (Picks.mk' (by simp) evd) ?_; refine evg ?_
  repeat (first | refine go_on ?_ | simp only [go_sem, hwk])
  by_cases he : e1 = 0
  case neg =>
    have he' : (e1 != 0) = true := by simpa using he
    rw [if_pos he] at hR
    rw [nOp_bad hR he]
    refine tri_condT ?_ (by (try simp only [go_sem, he']); try exact evd)
    try refine go_on ?_
    refine ⟨_, (by first | rfl | exact evd), .inr ⟨.tup [.agg (sOpC sOp0), .int .i64 0, .int .i64 e1], evd, ⟨PuL_op0, trivial, trivial, trivial⟩, wk_res3 0 e1 wkc_op0⟩⟩
  subst he
  rw [if_neg (by simp)] at hR
  refine tri_condF ?_
  try refine go_on ?_
  by_cases k0 : k = 0
  case pos =>
    subst k0
    rw [if_pos rfl] at hR
    rw [nOp_bad hR (by decide)]
    refine tri_condT ?_
    try refine go_on ?_
    refine tri_condT ?_
    try refine go_on ?_
    refine ⟨_, (by first | rfl | exact evd), .inr ⟨.tup [.agg (sOpC sOp0), .int .i64 0, .int .i64 2], evd, ⟨PuL_op0, trivial, trivial, trivial⟩, wk_res3 0 2 wkc_op0⟩⟩
  rw [if_neg k0] at hR
  have n0 : (k == 0) = false := by simp [k0]
  refine tri_condF ?_ (by (try simp only [go_sem, n0]); try exact evd)
  try refine go_on ?_
  by_cases k2 : k = 2
  case pos =>
    subst k2
    rw [if_pos rfl] at hR
    refine tri_condT ?_
    have cd := sdec_blk b1 (by omega)
    obtain ⟨u, hu1, hu2⟩ : ∃ u : Nat, u ≤ b1.length ∧ (dec blk0 b1.length (rBlk b1 0)).2.1 = (u : Int) := dec_used _ _ _
    generalize dec blk0 b1.length (rBlk b1 0) = D at *
    obtain ⟨v, u', e⟩ := D
    dsimp only at cd hu2 hR
    subst hu2
    rw [Int.toNat_natCast] at hR
    repeat (first | refine go_on ?_ | simp only [go_sem, hdr, htk])
    refine pcall cd ?_
    try refine go_on ?_
    by_cases he2 : e = 0
    · subst he2
      rw [nOp_ok hR, tkl, if_pos rfl, show b.length - (List.drop u b1).length = a + u by rw [List.length_drop]; omega]
      have hs : IntKind.i64.wrap ((a : Int) + (u : Int)) = ((a + u : Nat) : Int) := by rw [wrap_i64_in (by omega) (by omega)]; omega
      refine tri_condF ?_
      repeat (first | refine go_on ?_ | simp only [go_sem, hs])
      refine ⟨_, (by first | rfl | exact evd), .inr ⟨.tup [.agg (sOpC ⟨2, v, att0, slg0, tab0, vdt0, 0, 0⟩), .int .i64 ((a + u : Nat) : Int), .int .i64 0], evd, ⟨(PuL_sOpC _).2 ⟨trivial, ⟨trivial, trivial⟩, trivial⟩, trivial, trivial, trivial⟩, wk_res3 (x := ⟨2, v, att0, slg0, tab0, vdt0, 0, 0⟩) _ _ (wkc_op rfl rfl wkc_att0 wkc_slg0 wkc_tab0 rfl rfl rfl)⟩⟩
    · have he2' : (e != 0) = true := by simpa using he2
      rw [nOp_bad hR he2]
      refine tri_condT ?_ (by (try simp only [go_sem, he2']); try exact evd)
      try refine go_on ?_
      refine ⟨_, (by first | rfl | exact evd), .inr ⟨.tup [.agg (sOpC sOp0), .int .i64 0, .int .i64 e], evd, ⟨PuL_op0, trivial, trivial, trivial⟩, wk_res3 0 e wkc_op0⟩⟩
  rw [if_neg k2] at hR
  have n2 : (k == 2) = false := by simp [k2]
  refine tri_condF ?_ (by (try simp only [go_sem, n2]); try exact evd)
  try refine go_on ?_
  by_cases k3 : k = 3
  case pos =>
    subst k3
    rw [if_pos rfl] at hR
    refine tri_condT ?_
    have cd := sdec_att b1 (by omega)
    obtain ⟨u, hu1, hu2⟩ : ∃ u : Nat, u ≤ b1.length ∧ (decA b1.length (rAtt b1 0)).2.1 = (u : Int) := decA_used _ _
    generalize decA b1.length (rAtt b1 0) = D at *
    obtain ⟨v, u', e⟩ := D
    dsimp only at cd hu2 hR
    subst hu2
    rw [Int.toNat_natCast] at hR
    repeat (first | refine go_on ?_ | simp only [go_sem, hdr, htk])
    refine pcall cd ?_
    try refine go_on ?_
    by_cases he2 : e = 0
    · subst he2
      rw [nOp_ok hR, tkl, if_pos rfl, show b.length - (List.drop u b1).length = a + u by rw [List.length_drop]; omega]
      have hs : IntKind.i64.wrap ((a : Int) + (u : Int)) = ((a + u : Nat) : Int) := by rw [wrap_i64_in (by omega) (by omega)]; omega
      refine tri_condF ?_
      repeat (first | refine go_on ?_ | simp only [go_sem, hs])
      refine ⟨_, (by first | rfl | exact evd), .inr ⟨.tup [.agg (sOpC ⟨3, blk0, attL v, slg0, tab0, vdt0, 0, 0⟩), .int .i64 ((a + u : Nat) : Int), .int .i64 0], evd, ⟨(PuL_sOpC _).2 ⟨Pu_nums _ _, ⟨trivial, trivial⟩, trivial⟩, trivial, trivial, trivial⟩, wk_res3 (x := ⟨3, blk0, attL v, slg0, tab0, vdt0, 0, 0⟩) _ _ (wkc_op rfl rfl (WkC.refl _) wkc_slg0 wkc_tab0 rfl rfl rfl)⟩⟩
    · have he2' : (e != 0) = true := by simpa using he2
      rw [nOp_bad hR he2]
      refine tri_condT ?_ (by (try simp only [go_sem, he2']); try exact evd)
      try refine go_on ?_
      refine ⟨_, (by first | rfl | exact evd), .inr ⟨.tup [.agg (sOpC sOp0), .int .i64 0, .int .i64 e], evd, ⟨PuL_op0, trivial, trivial, trivial⟩, wk_res3 0 e wkc_op0⟩⟩
  rw [if_neg k3] at hR
  have n3 : (k == 3) = false := by simp [k3]
  refine tri_condF ?_ (by (try simp only [go_sem, n3]); try exact evd)
  try refine go_on ?_
  by_cases k4 : k = 4
  case pos =>
    subst k4
    rw [if_pos rfl] at hR
    refine tri_condT ?_
    have cd := sdec_slg b1 (by omega)
    obtain ⟨u, hu1, hu2⟩ : ∃ u : Nat, u ≤ b1.length ∧ (decS b1.length (rSlg b1 0)).2.1 = (u : Int) := decS_used _ _
    generalize decS b1.length (rSlg b1 0) = D at *
    obtain ⟨v, u', e⟩ := D
    dsimp only at cd hu2 hR
    subst hu2
    rw [Int.toNat_natCast] at hR
    repeat (first | refine go_on ?_ | simp only [go_sem, hdr, htk])
    refine pcall cd ?_
    try refine go_on ?_
    by_cases he2 : e = 0
    · subst he2
      rw [nOp_ok hR, tkl, if_pos rfl, show b.length - (List.drop u b1).length = a + u by rw [List.length_drop]; omega]
      have hs : IntKind.i64.wrap ((a : Int) + (u : Int)) = ((a + u : Nat) : Int) := by rw [wrap_i64_in (by omega) (by omega)]; omega
      refine tri_condF ?_
      repeat (first | refine go_on ?_ | simp only [go_sem, hs])
      refine ⟨_, (by first | rfl | exact evd), .inr ⟨.tup [.agg (sOpC ⟨4, blk0, att0, slgL v, tab0, vdt0, 0, 0⟩), .int .i64 ((a + u : Nat) : Int), .int .i64 0], evd, ⟨(PuL_sOpC _).2 ⟨trivial, ⟨Pu_nums _ _, Pu_nums _ _⟩, trivial⟩, trivial, trivial, trivial⟩, wk_res3 (x := ⟨4, blk0, att0, slgL v, tab0, vdt0, 0, 0⟩) _ _ (wkc_op rfl rfl wkc_att0 (WkC.refl _) wkc_tab0 rfl rfl rfl)⟩⟩
    · have he2' : (e != 0) = true := by simpa using he2
      rw [nOp_bad hR he2]
      refine tri_condT ?_ (by (try simp only [go_sem, he2']); try exact evd)
      try refine go_on ?_
      refine ⟨_, (by first | rfl | exact evd), .inr ⟨.tup [.agg (sOpC sOp0), .int .i64 0, .int .i64 e], evd, ⟨PuL_op0, trivial, trivial, trivial⟩, wk_res3 0 e wkc_op0⟩⟩
  rw [if_neg k4] at hR
  have n4 : (k == 4) = false := by simp [k4]
  refine tri_condF ?_ (by (try simp only [go_sem, n4]); try exact evd)
  try refine go_on ?_
  by_cases k5 : k = 5
  case pos =>
    subst k5
    rw [if_pos rfl] at hR
    refine tri_condT ?_
    have cd := sdec_tab b1 (by omega)
    obtain ⟨u, hu1, hu2⟩ : ∃ u : Nat, u ≤ b1.length ∧ (dec tabZ b1.length (rTab b1 0)).2.1 = (u : Int) := dec_used _ _ _
    generalize dec tabZ b1.length (rTab b1 0) = D at *
    obtain ⟨v, u', e⟩ := D
    dsimp only at cd hu2 hR
    subst hu2
    rw [Int.toNat_natCast] at hR
    repeat (first | refine go_on ?_ | simp only [go_sem, hdr, htk])
    refine pcall cd ?_
    try refine go_on ?_
    by_cases he2 : e = 0
    · subst he2
      rw [nOp_ok hR, tkl, if_pos rfl, show b.length - (List.drop u b1).length = a + u by rw [List.length_drop]; omega]
      have hs : IntKind.i64.wrap ((a : Int) + (u : Int)) = ((a + u : Nat) : Int) := by rw [wrap_i64_in (by omega) (by omega)]; omega
      refine tri_condF ?_
      repeat (first | refine go_on ?_ | simp only [go_sem, hs])
      refine ⟨_, (by first | rfl | exact evd), .inr ⟨.tup [.agg (sOpC ⟨5, blk0, att0, slg0, tabL v, vdt0, 0, 0⟩), .int .i64 ((a + u : Nat) : Int), .int .i64 0], evd, ⟨(PuL_sOpC _).2 ⟨trivial, ⟨trivial, trivial⟩, Pu_nums _ _⟩, trivial, trivial, trivial⟩, wk_res3 (x := ⟨5, blk0, att0, slg0, tabL v, vdt0, 0, 0⟩) _ _ (wkc_op rfl rfl wkc_att0 wkc_slg0 (WkC.refl _) rfl rfl rfl)⟩⟩
    · have he2' : (e != 0) = true := by simpa using he2
      rw [nOp_bad hR he2]
      refine tri_condT ?_ (by (try simp only [go_sem, he2']); try exact evd)
      try refine go_on ?_
      refine ⟨_, (by first | rfl | exact evd), .inr ⟨.tup [.agg (sOpC sOp0), .int .i64 0, .int .i64 e], evd, ⟨PuL_op0, trivial, trivial, trivial⟩, wk_res3 0 e wkc_op0⟩⟩
  rw [if_neg k5] at hR
  have n5 : (k == 5) = false := by simp [k5]
  refine tri_condF ?_ (by (try simp only [go_sem, n5]); try exact evd)
  try refine go_on ?_
  by_cases k6 : k = 6
  case pos =>
    subst k6
    rw [if_pos rfl] at hR
    refine tri_condT ?_
    have cd := sdec_vdt b1 (by omega)
    obtain ⟨u, hu1, hu2⟩ : ∃ u : Nat, u ≤ b1.length ∧ (decV b1.length (rVdt b1 0)).2.1 = (u : Int) := decV_used _ _
    generalize decV b1.length (rVdt b1 0) = D at *
    obtain ⟨v, u', e⟩ := D
    dsimp only at cd hu2 hR
    subst hu2
    rw [Int.toNat_natCast] at hR
    repeat (first | refine go_on ?_ | simp only [go_sem, hdr, htk])
    refine pcall cd ?_
    try refine go_on ?_
    by_cases he2 : e = 0
    · subst he2
      rw [nOp_ok hR, tkl, if_pos rfl, show b.length - (List.drop u b1).length = a + u by rw [List.length_drop]; omega]
      have hs : IntKind.i64.wrap ((a : Int) + (u : Int)) = ((a + u : Nat) : Int) := by rw [wrap_i64_in (by omega) (by omega)]; omega
      refine tri_condF ?_
      repeat (first | refine go_on ?_ | simp only [go_sem, hs])
      refine ⟨_, (by first | rfl | exact evd), .inr ⟨.tup [.agg (sOpC ⟨6, blk0, att0, slg0, tab0, v, 0, 0⟩), .int .i64 ((a + u : Nat) : Int), .int .i64 0], evd, ⟨(PuL_sOpC _).2 ⟨trivial, ⟨trivial, trivial⟩, trivial⟩, trivial, trivial, trivial⟩, wk_res3 (x := ⟨6, blk0, att0, slg0, tab0, v, 0, 0⟩) _ _ (wkc_op rfl rfl wkc_att0 wkc_slg0 wkc_tab0 rfl rfl rfl)⟩⟩
    · have he2' : (e != 0) = true := by simpa using he2
      rw [nOp_bad hR he2]
      refine tri_condT ?_ (by (try simp only [go_sem, he2']); try exact evd)
      try refine go_on ?_
      refine ⟨_, (by first | rfl | exact evd), .inr ⟨.tup [.agg (sOpC sOp0), .int .i64 0, .int .i64 e], evd, ⟨PuL_op0, trivial, trivial, trivial⟩, wk_res3 0 e wkc_op0⟩⟩
  rw [if_neg k6] at hR
  have n6 : (k == 6) = false := by simp [k6]
  refine tri_condF ?_ (by (try simp only [go_sem, n6]); try exact evd)
  try refine go_on ?_
  by_cases k8 : k = 8
  case pos =>
    subst k8
    rw [if_pos rfl] at hR
    refine tri_condT ?_
    have c2 := suint_walk b b1 false 0 32768 s1 hb
    have s2 := (rUint_suf b1 0 32768).trans s1
    have p2 := rUint_nonneg b1 0 32768
    have m2 := rUint_le b1 0 32768 (by omega)
    have q2 := (rUint_suf b1 0 32768).length_le
    rcases h2 : rUint b1 0 32768 with ⟨w, b2, e2⟩
    rw [h2] at c2 s2 p2 m2 q2 hR
    dsimp only at c2 s2 p2 m2 q2 hR
    have c3 := suint_walk b b2 false e2 32768 s2 hb
    have p3 := rUint_nonneg b2 e2 32768
    have m3 := rUint_le b2 e2 32768 (by omega)
    have q3 := (rUint_suf b2 e2 32768).length_le
    rcases h3 : rUint b2 e2 32768 with ⟨p, b3, e3⟩
    rw [h3] at c3 p3 m3 q3 hR
    dsimp only at c3 p3 m3 q3 hR
    have w2 : IntKind.i64.wrap w = w := wrap_i64_in (by omega) (by omega)
    have w3 : IntKind.i64.wrap p = p := wrap_i64_in (by omega) (by omega)
    simp only [sro] at c2 c3
    rw [ha] at c2
    obtain ⟨a2, ha2'⟩ : ∃ a2 : Nat, b.length - b2.length = a2 := ⟨_, rfl⟩
    obtain ⟨a3, ha3⟩ : ∃ a3 : Nat, b.length - b3.length = a3 := ⟨_, rfl⟩
    rw [ha2'] at c2 c3
    rw [ha3] at c3
    have hs1 : IntKind.i64.wrap ((a3 : Int) - (a : Int)) = (a3 : Int) - (a : Int) := wrap_i64_in (by omega) (by omega)
    have hs2 : IntKind.i64.wrap ((a : Int) + ((a3 : Int) - (a : Int))) = (a3 : Int) := by rw [wrap_i64_in (by omega) (by omega)]; omega
    try refine go_on ?_
    refine ocall [1] (c2) evd (Picks.mk' (by simp) evd) ?_; refine evg ?_
    repeat (first | refine go_on ?_ | simp only [go_sem, w2])
    refine ocall [1] (c3) evd (Picks.mk' (by simp) evd) ?_; refine evg ?_
    repeat (first | refine go_on ?_ | simp only [go_sem, w2, w3, hs1])
    by_cases he2 : e3 = 0
    · subst he2
      rw [nOp_ok hR, ha3]
      refine tri_condF ?_
      repeat (first | refine go_on ?_ | simp only [go_sem, hs2])
      refine ⟨_, (by first | rfl | exact evd), .inr ⟨.tup [.agg (sOpC ⟨8, blk0, att0, slg0, tab0, vdt0, w, p⟩), .int .i64 (a3 : Int), .int .i64 0], evd, ⟨(PuL_sOpC _).2 ⟨trivial, ⟨trivial, trivial⟩, trivial⟩, trivial, trivial, trivial⟩, wk_res3 (x := ⟨8, blk0, att0, slg0, tab0, vdt0, w, p⟩) _ _ (wkc_op rfl rfl wkc_att0 wkc_slg0 wkc_tab0 rfl rfl rfl)⟩⟩
    · have he2' : (e3 != 0) = true := by simpa using he2
      rw [nOp_bad hR he2]
      refine tri_condT ?_ (by (try simp only [go_sem, he2']); try exact evd)
      try refine go_on ?_
      refine ⟨_, (by first | rfl | exact evd), .inr ⟨.tup [.agg (sOpC sOp0), .int .i64 0, .int .i64 e3], evd, ⟨PuL_op0, trivial, trivial, trivial⟩, wk_res3 0 e3 wkc_op0⟩⟩
  rw [if_neg k8] at hR
  have n8 : (k == 8) = false := by simp [k8]
  refine tri_condF ?_ (by (try simp only [go_sem, n8]); try exact evd)
  rw [nOp_ok hR, ha]
  have hs : IntKind.i64.wrap ((a : Int) + 0) = (a : Int) := by rw [wrap_i64_in (by omega) (by omega)]; omega
  try refine go_on ?_
  refine tri_condF ?_
  repeat (first | refine go_on ?_ | simp only [go_sem, hs])
  refine ⟨_, (by first | rfl | exact evd), .inr ⟨.tup [.agg (sOpC ⟨k, blk0, att0, slg0, tab0, vdt0, 0, 0⟩), .int .i64 (a : Int), .int .i64 0], evd, ⟨(PuL_sOpC _).2 ⟨trivial, ⟨trivial, trivial⟩, trivial⟩, trivial, trivial, trivial⟩, wk_res3 (x := ⟨k, blk0, att0, slg0, tab0, vdt0, 0, 0⟩) _ _ (wkc_op rfl rfl wkc_att0 wkc_slg0 wkc_tab0 rfl rfl rfl)⟩⟩
end Go.Proofs.Ytachiahepppajaa
