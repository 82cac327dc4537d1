/-
  The reference's Put, and the watch of chapter 31.
-/
import Derived.Test.YtdkahoohedljhaaHb
namespace Go.Proofs.Ytdkahoohedljhaa
open Go Go.FH
set_option linter.unusedVariables false
set_option linter.unusedSimpArgs false

/-- Sevens, then zeros. -/
def sev (i : Nat) : List UInt8 := (List.range 128).map fun j => if j < i then 7 else 0
theorem length_sev (i : Nat) : (sev i).length = 128 := by simp [sev]
/-- The device after the torn write. -/
def aw31 : List UInt8 := zr 64 ++ List.replicate 64 7 ++ zr 64
theorem torn_sev : over (zr 192) 64 (torn true 1 (sev 128)) = aw31 := by decide +kernel
theorem sev_s {i : Nat} (h : i < 128) : (bts (sev i)).set i [.int .u8 7] = bts (sev (i + 1)) := by
  apply List.ext_getElem
  · simp [length_sev]
  · intro j h1 h2
    rw [List.getElem_set]
    simp only [bts, sev, List.getElem_map, List.getElem_range]
    split
    · subst_vars; simp
    · rename_i hne
      by_cases hj : j < i
      · rw [if_pos hj, if_pos (by omega)]
      · rw [if_neg hj, if_neg (by omega)]
theorem awake31_walk : PC Try.prog 38 [] (.bool true) := by
  refine PC.fact 6 f_law31_awake (by simp) trivial trivial ?_
  unfold c_law31_awake
  have c1 := new_ok 3 (by decide) (by decide)
  have hz : (3 : Nat) * 64 = 192 := rfl
  rw [hz] at c1
  have hZ : (zr 192).length = 192 := length_zr _
  generalize hB : zr 192 = B at c1 hZ
  try refine go_on ?_
  refine ocall [] (c1) evd (Picks.mk' (by simp) evd) ?_; refine evg ?_
  try refine go_on ?_
  refine tri_condF ?_
  try refine go_on ?_
  refine ocall [0, 1] (plan_ok B false false 0 0 0 1 (by decide) (by decide)) evd (Picks.mk' (by simp) evd) ?_; refine evg ?_
  try refine go_on ?_
  refine tri_loopF (fun i : Nat => ⟨6, [.bool false, .ptr 1 0, .int .i64 0, .int .i64 0, .hs 1 2 0 128, .int .i64 i], []⟩) (fun i => [.vec 1 (bts B), .var [.hs 1 0 0 B.length, .bool false, .bool true, .int .i64 0, .int .i64 1], .vec 1 (bts (sev i))]) (fun i => 128 - i) (fun i => i ≤ 128) [] 0 (by omega) evd rfl ?_
  intro i hi
  try dsimp only
  try refine go_on ?_
  refine tri_cond evd (fun h => ?_) (fun h => ?_)
  · have h1 : i < 128 := by simp at h; omega
    have hw := wrap_i64_succ h1 (by decide)
    have hs := sev_s h1
    have hg : (bts (sev i)).getD i [] = [.int .u8 0] := by simp [bts, sev, List.getD_eq_getElem?_getD, h1]
    repeat (first | refine go_on ?_ | simp only [go_sem, length_sev, Nat.mul_one, hw, hg, hs])
    exact ⟨i + 1, h1, by omega, rfl, rfl⟩
  · have h1 : i = 128 := by simp at h; omega
    subst h1
    have c2 := write_ok B true 0 1 1 (sev 128) false (by omega) (by intro h; have := congrArg List.length h; rw [length_sev] at this; cases this) (by decide) (by decide) (by rw [length_sev, hZ]; decide)
    simp only [beq_self_eq_true, Bool.and_self, if_true, Nat.one_mul, show max ((0 : Int) - 1) 0 = 0 by decide] at c2
    rw [show over B 64 (torn true 1 (sev 128)) = aw31 by rw [← hB]; exact torn_sev] at c2
    have hA : aw31.length = 192 := by decide +kernel
    have hr : List.take (2 * 64) (List.drop (1 * 64) aw31) = List.replicate 64 7 ++ zr 64 := by decide +kernel
    have g1 : (List.replicate 64 7 ++ zr 64 : List UInt8).length = 128 := by decide +kernel
    have g2 : (bts (List.replicate 64 7 ++ zr 64)).getD 0 [] = [.int .u8 7] := by rfl
    have g3 : (bts (List.replicate 64 7 ++ zr 64)).getD 63 [] = [.int .u8 7] := by rfl
    have g4 : (bts (List.replicate 64 7 ++ zr 64)).getD 64 [] = [.int .u8 0] := by rfl
    have c3 := read_crash aw31 true 0 1 0 1
    have c4 := read_ok aw31 false 0 0 1 2 (by omega) (by omega)
    have c5 := sectors_walk aw31 false false 0 0 (by omega)
    rw [hA, show (192 / 64 : Nat) = 3 from rfl] at c5
    rw [hr] at c4
    generalize aw31 = A at *
    generalize (List.replicate 64 7 ++ zr 64 : List UInt8) = R at *
    refine tri_fz [2] ?_
    have hl := length_sev 128
    have ht : List.take 128 (sev 128) = sev 128 := List.take_of_length_le (by omega)
    simp only [evZ, fzSt]; (try simp only [go_sem, Nat.reduceAdd, Nat.reduceSub, Nat.reduceMul, Nat.reduceLT, Nat.reduceLeDiff, Nat.reduceEqDiff, reduceIte, Int.reduceToNat, Int.reduceLT, Int.reduceLE, Int.reduceEq, Int.reduceNeg, reduceCtorEq, Int.reduceBEq, Int.reduceBNe, hl, ht])
    repeat (first | refine go_on ?_ | simp only [go_sem, hl, ht])
    refine ocall [0, 1] (c2) evd (Picks.mk' (by simp) evd) ?_; refine evg ?_
    try refine go_on ?_
    refine ocall [0, 1] (c3) evd (Picks.mk' (by simp) evd) ?_; refine evg ?_
    try refine go_on ?_
    refine ocall [0, 1] (restart_walk A true true 0 1) evd (Picks.mk' (by simp) evd) ?_; refine evg ?_
    try refine go_on ?_
    refine ocall [0, 1] (c4) evd (Picks.mk' (by simp) evd) ?_; refine evg ?_
    repeat (first | refine go_on ?_ | simp only [go_sem, g1, g2, g3, g4])
    refine ocall [0, 1] (c5) evd (Picks.mk' (by simp) evd) ?_; refine evg ?_
    try refine go_on ?_
    refine ⟨_, (by first | rfl | exact evd), .inl ?_⟩; (try simp only [go_sem, Nat.reduceAdd, Nat.reduceSub, Nat.reduceMul, Nat.reduceLT, Nat.reduceLeDiff, Nat.reduceEqDiff, reduceIte, Int.reduceToNat, Int.reduceLT, Int.reduceLE, Int.reduceEq, Int.reduceNeg, reduceCtorEq, Int.reduceBEq, Int.reduceBNe])
/-- The rest of the sectors is filled. -/
theorem full_step (bs : List UInt8) (i : Nat) (h : (bs ++ zr i).length % 64 ≠ 0) (hi : bs.length + i ≤ need bs.length * 64) : bs.length + (i + 1) ≤ need bs.length * 64 := by
  have hn := need_ge bs.length
  simp only [List.length_append, length_zr] at h
  unfold need at *
  omega
theorem full_end (bs : List UInt8) (i : Nat) (h : (bs ++ zr i).length % 64 = 0) (hi : bs.length + i ≤ need bs.length * 64) : bs ++ zr i = full bs := by
  have hn := need_ge bs.length
  simp only [List.length_append, length_zr] at h
  rw [full]
  congr 2
  unfold need at *
  omega
theorem zr_add (i : Nat) : zr i ++ [0] = zr (i + 1) := by simp [zr, List.replicate_succ']
theorem over_0 (I : List UInt8) (off : Nat) : over I off [] = I := by simp [over]
theorem over_step (I X : List UInt8) (off i : Nat) (hi : i < X.length) (h : off + X.length ≤ I.length) : (over I off (X.take i)).set (off + i) (X.getD i 0) = over I off (X.take (i + 1)) := by
  have h1 : (I.drop (off + i)) = I.getD (off + i) 0 :: I.drop (off + (i + 1)) := by
    rw [List.drop_eq_getElem_cons (by omega), List.getD_eq_getElem?_getD, List.getElem?_eq_getElem (by omega)]
    rfl
  have h2 : X.take (i + 1) = X.take i ++ [X.getD i 0] := by
    rw [List.take_add_one, List.getD_eq_getElem?_getD, List.getElem?_eq_getElem hi]
    rfl
  have l1 : (X.take i).length = i := by rw [List.length_take]; omega
  have l2 : (I.take off).length = off := by rw [List.length_take]; omega
  rw [h2]
  simp only [over, List.length_append, l1, List.length_cons, List.length_nil, Nat.zero_add]
  rw [h1, List.append_assoc, List.append_assoc, List.set_append_right _ _ (by omega), l2, Nat.add_sub_cancel_left, List.set_append_right _ _ (by omega), l1, Nat.sub_self, List.set_cons_zero]
  simp
/-- The loop that lays the bytes over the image. -/
def c_put_loop : ACode := (.loop (.seq (.seq (.reg [⟨(some 36), .mv (.t 11), none⟩,
  ⟨(some 37), .mv (.t 10), none⟩,
  ⟨(some 38), .len false (.t 37), none⟩,
  ⟨(some 39), .bin .lss (.t 36) (.t 38), none⟩])
 (.cond (.t 39)
   .skip
   (.exit 2)))
 (.seq (.block 3 (.reg [⟨(some 42), .mv (.t 9), none⟩,
  ⟨(some 43), .mv (.t 1), none⟩,
  ⟨(some 44), .bin .mul (.t 43) (.c (.int .i64 (64))), none⟩,
  ⟨(some 45), .mv (.t 11), none⟩,
  ⟨(some 46), .bin .add (.t 44) (.t 45), none⟩,
  ⟨(some 47), .mv (.t 10), none⟩,
  ⟨(some 48), .mv (.t 11), none⟩,
  ⟨(some 49), .idxS 1 (.t 47) (.t 48), none⟩,
  ⟨(some 50), .ld false 1 (.t 49), none⟩,
  ⟨(some 51), .idxS 1 (.t 42) (.t 46), none⟩,
  ⟨none, .sto 1 (.t 51) (.t 50), none⟩]))
 (.reg [⟨(some 40), .mv (.t 11), none⟩,
  ⟨(some 41), .bin .add (.t 40) (.c (.int .i64 (1))), none⟩,
  ⟨(some 11), .mv (.t 41), none⟩]))))
theorem put_loop (I X : List UInt8) (x m : Nat) (a b c d : AV) (hI : I.length ≤ 32768 * 64) (hm : m ≤ X.length) (h : x * 64 + m ≤ I.length) (ts : List (Nat × AV)) (Q : Ex → Fr → St → Prop)
    (hQ : ∀ ts, Q (.exit 2) ⟨12, [a, .int .i64 x, b, c, .dead, .dead, .dead, .dead, d, .hs 1 0 0 I.length, .hs 1 1 0 m, .int .i64 m], ts⟩ [.vec 1 (bts (over I (x * 64) (X.take m))), .vec 1 (bts X)]) :
    Tri Try.prog 53 0 c_put_loop Q ⟨12, [a, .int .i64 x, b, c, .dead, .dead, .dead, .dead, d, .hs 1 0 0 I.length, .hs 1 1 0 m, .int .i64 0], ts⟩ [.vec 1 (bts I), .vec 1 (bts X)] := by
  unfold c_put_loop
  refine tri_loopF (fun i : Nat => ⟨12, [a, .int .i64 x, b, c, .dead, .dead, .dead, .dead, d, .hs 1 0 0 I.length, .hs 1 1 0 m, .int .i64 i], []⟩) (fun i => [.vec 1 (bts (over I (x * 64) (X.take i))), .vec 1 (bts X)]) (fun i => m - i) (fun i => i ≤ m) [] 0 (by omega) evd (by rw [List.take_zero, over_0]) ?_
  intro i hi
  try dsimp only
  try refine go_on ?_
  refine tri_cond evd (fun h => ?_) (fun h => ?_)
  · have h1 : i < m := by simp at h; omega
    have hl : (X.take i).length = i := by rw [List.length_take]; omega
    have hO : (over I (x * 64) (X.take i)).length = I.length := length_over _ _ _ (by rw [hl]; omega)
    have e1 : IntKind.i64.wrap ((x : Int) * 64) = ((x * 64 : Nat) : Int) := by rw [wrap_i64_in (by omega) (by omega)]; omega
    have e2 : IntKind.i64.wrap (((x * 64 : Nat) : Int) + i) = ((x * 64 + i : Nat) : Int) := by rw [wrap_i64_in (by omega) (by omega)]; omega
    have hw := wrap_i64_succ h1 (by omega)
    have g1 : (bts X).getD i [] = [.int .u8 ((X.getD i 0).toNat : Int)] := by rw [getD_bts (by omega), List.getD_eq_getElem?_getD, List.getElem?_eq_getElem (by omega)]; rfl
    have g2 : ∀ Y : List UInt8, Y.length = I.length → ∃ y : UInt8, (bts Y).getD (x * 64 + i) [] = [.int .u8 (y.toNat : Int)] := fun Y hY => ⟨_, getD_bts (by omega)⟩
    obtain ⟨y, g3⟩ := g2 _ hO
    have hs := over_step I (X.take m) (x * 64) i (by rw [List.length_take]; omega) (by rw [List.length_take]; omega)
    rw [List.take_take, List.take_take, Nat.min_eq_left (by omega), Nat.min_eq_left (by omega), show (X.take m).getD i 0 = X.getD i 0 by simp [List.getD_eq_getElem?_getD, List.getElem?_take, h1]] at hs
    generalize X.getD i 0 = z at *
    repeat (first | refine go_on ?_ | simp only [go_sem, e1, e2, hO, g1, g3, Nat.mul_one, hw, bts_set, hs])
    exact ⟨i + 1, h1, by omega, rfl, rfl⟩
  · have h1 : i = m := by simp at h; omega
    subst h1
    try refine go_on ?_
    exact hQ _
theorem put_walk (I : List UInt8) (x : Nat) (bs : List UInt8) (k : Int) (cl cl2 : Bool) (hI : I.length ≤ 32768 * 64) (hk : -1 ≤ k) (hk2 : k ≤ 1000000) (h : (x + need bs.length) * 64 ≤ I.length) :
    PC Try.prog 34 [.sl 1 cl (bts I), .int .i64 x, .sl 1 cl2 (bts bs), .int .i64 k] (.sl 1 false (bts (over I (x * 64) (torn (decide (0 ≤ k)) k.toNat bs)))) := by
  refine PC.fact 12 f_ref31_Put (by simp) ⟨Pu_bts I, trivial, Pu_bts bs, trivial, trivial⟩ (Pu_bts _) ?_
  unfold c_ref31_Put
  have hn := need_ge bs.length
  have hn2 : need bs.length * 64 ≤ bs.length + 63 := by unfold need; omega
  try refine go_on ?_
  refine tri_loopG (fun i : Nat => ⟨12, [.sl 1 cl (bts I), .int .i64 x, .sl 1 cl2 (bts bs), .int .i64 k, .dead, .dead, .dead, .dead, .sl 0 true [], .hs 1 0 0 I.length, .hs 1 1 0 (bs.length + i), .dead], []⟩) (fun i => [.vec 1 (bts I), .vec 1 (bts (bs ++ zr i))]) (fun i => need bs.length * 64 - bs.length - i) (fun i => bs.length + i ≤ need bs.length * 64) 0 (by omega) ?_ ?_
  · simp only [show zr 0 = [] from rfl, List.append_nil, Nat.add_zero]
    refine GC.mk' [] [0, 1] (by simp) rfl (by simp) (by simp) evd evd
  intro i hi
  try dsimp only
  have r1 := rem64 (bs.length + i)
  repeat (first | refine go_on ?_ | simp only [go_sem, r1])
  refine tri_cond evd (fun h => ?_) (fun h => ?_)
  · have h1 : (bs ++ zr i).length % 64 ≠ 0 := by
      rw [bne_iff_ne] at h
      rw [List.length_append, length_zr]
      omega
    have h2 := full_step bs i h1 hi
    have hz : bts (bs ++ zr i) ++ [[AV.int .u8 0]] = bts (bs ++ zr (i + 1)) := by
      simp [← zr_add, bts]
    repeat (first | refine go_on ?_ | simp only [go_sem, hz])
    refine ⟨i + 1, h2, by omega, ?_⟩
    have e : bs.length + i + 1 = bs.length + (i + 1) := by omega
    rw [e]
    refine GC.mk' [] [0, 2] (by simp) rfl (by simp) (by simp) evd evd
  · have h1 : (bs ++ zr i).length % 64 = 0 := by
      rw [← Bool.not_eq_true, bne_iff_ne] at h
      rw [List.length_append, length_zr]
      omega
    have h2 := full_end bs i h1 hi
    have hl : bs.length + i = need bs.length * 64 := by
      have := congrArg List.length h2
      rwa [List.length_append, length_zr, length_full] at this
    rw [h2, hl]
    have hf := length_full bs
    by_cases hk0 : 0 ≤ k
    · have e1 : decide (k ≥ 0) = true := decide_eq_true hk0
      have ew : IntKind.i64.wrap (k * 64) = ((k.toNat * 64 : Nat) : Int) := by rw [wrap_i64_in (by omega) (by omega)]; omega
      have hd : decide (0 ≤ k) = true := e1
      by_cases hk1 : k.toNat * 64 < need bs.length * 64
      · have e2 : decide (((k.toNat * 64 : Nat) : Int) < ((need bs.length * 64 : Nat) : Int)) = true := decide_eq_true (by omega)
        have hX : (full bs).take (k.toNat * 64) = torn true k.toNat bs := by
          simp only [torn, if_true]; congr 1; omega
        have hXl : (torn true k.toNat bs).length = k.toNat * 64 := by rw [← hX, List.length_take]; omega
        repeat (first | refine go_on ?_ | simp only [go_sem, e1, ew, e2])
        refine tri_condT ?_
        repeat (first | refine go_on ?_ | simp only [go_sem, ew, hf])
        refine put_loop I (full bs) x (k.toNat * 64) _ _ _ _ hI (by omega) (by omega) _ _ (fun ts => ?_)
        rw [hX]
        try refine go_on ?_
        have hL := length_over I (x * 64) (torn true k.toNat bs) (by omega)
        try refine go_on ?_
        refine ⟨_, (by first | rfl | exact evd), .inl ?_⟩; (try simp only [go_sem, Nat.reduceAdd, Nat.reduceSub, Nat.reduceMul, Nat.reduceLT, Nat.reduceLeDiff, Nat.reduceEqDiff, reduceIte, Int.reduceToNat, Int.reduceLT, Int.reduceLE, Int.reduceEq, Int.reduceNeg, reduceCtorEq, Int.reduceBEq, Int.reduceBNe])
        rw [if_pos (by omega), List.take_of_length_le (by omega)]

      · have e2 : decide (((k.toNat * 64 : Nat) : Int) < ((need bs.length * 64 : Nat) : Int)) = false := decide_eq_false (by omega)
        have hX : (full bs).take (need bs.length * 64) = torn true k.toNat bs := by
          simp only [torn, if_true]; congr 1; omega
        have hXl : (torn true k.toNat bs).length = need bs.length * 64 := by rw [← hX, List.length_take]; omega
        repeat (first | refine go_on ?_ | simp only [go_sem, e1, ew, e2])
        refine tri_condF ?_
        repeat (first | refine go_on ?_ | simp only [go_sem, ew, hf])
        refine put_loop I (full bs) x (need bs.length * 64) _ _ _ _ hI (by omega) (by omega) _ _ (fun ts => ?_)
        rw [hX]
        try refine go_on ?_
        have hL := length_over I (x * 64) (torn true k.toNat bs) (by omega)
        try refine go_on ?_
        refine ⟨_, (by first | rfl | exact evd), .inl ?_⟩; (try simp only [go_sem, Nat.reduceAdd, Nat.reduceSub, Nat.reduceMul, Nat.reduceLT, Nat.reduceLeDiff, Nat.reduceEqDiff, reduceIte, Int.reduceToNat, Int.reduceLT, Int.reduceLE, Int.reduceEq, Int.reduceNeg, reduceCtorEq, Int.reduceBEq, Int.reduceBNe])
        rw [if_pos (by omega), List.take_of_length_le (by omega)]

    · have e1 : decide (k ≥ 0) = false := decide_eq_false hk0
      have hd : decide (0 ≤ k) = false := e1
      have hX : (full bs).take (need bs.length * 64) = torn false k.toNat bs := List.take_of_length_le (by omega)
      have hXl : (torn false k.toNat bs).length = need bs.length * 64 := hf
      repeat (first | refine go_on ?_ | simp only [go_sem, e1])
      refine tri_condF ?_
      repeat (first | refine go_on ?_ | simp only [go_sem, hf])
      refine put_loop I (full bs) x (need bs.length * 64) _ _ _ _ hI (by omega) (by omega) _ _ (fun ts => ?_)
      rw [hX]
      try refine go_on ?_
      have hL := length_over I (x * 64) (torn false k.toNat bs) (by omega)
      try refine go_on ?_
      refine ⟨_, (by first | rfl | exact evd), .inl ?_⟩; (try simp only [go_sem, Nat.reduceAdd, Nat.reduceSub, Nat.reduceMul, Nat.reduceLT, Nat.reduceLeDiff, Nat.reduceEqDiff, reduceIte, Int.reduceToNat, Int.reduceLT, Int.reduceLE, Int.reduceEq, Int.reduceNeg, reduceCtorEq, Int.reduceBEq, Int.reduceBNe])
      rw [if_pos (by omega), List.take_of_length_le (by omega)]

end Go.Proofs.Ytdkahoohedljhaa
