/-
  The law DevicePlays.
-/
import Derived.Test.YtdkahoohedljhaaHf
namespace Go.Proofs.Ytdkahoohedljhaa
open Go Go.FH Go.RowKit
set_option linter.unusedVariables false
set_option linter.unusedSimpArgs false

theorem dp_else (ns : List Int) (S i : Nat) (x : PX) (K A D : Int) (n : Nat) (ts : List (Nat × AV)) (hD : 4 ≤ D) (hS : S ≤ 8) (hx : x.ok S i) (hi : i ≤ 100) (hn : n ≤ 255) (hA : -2 ≤ A) (hA2 : A ≤ 100) (Q : Ex → Fr → St → Prop) (hQ : ∀ (x' : PX) fr σ, x'.ok S (i + 1) → GC 0 fr σ (x'.fr ns S i) x'.st → Q .normal fr σ) :
    Tri Try.prog 236 0 c_dp_switch Q (x.fm ns S i K A n D ts) x.st := by
  have d : ∀ m : Int, m < 4 → (D == m) = false := fun m hm => by rw [← Bool.not_eq_true, beq_iff_eq]; omega
  have d0 := d 0 (by decide)
  have d1 := d 1 (by decide)
  have d2 := d 2 (by decide)
  have d3 := d 3 (by decide)
  have key := fun ts => dp_write ns S i x K A n ts hS hx hi hn hA hA2 Q hQ
  obtain ⟨B, c, p, w, k, wr⟩ := x
  unfold PX.fm PX.st
  unfold PX.st at key
  dsimp only at key ⊢
  clear hQ hx
  rw [show c_dp_switch = .seq (.reg [⟨(some 134), .bin .eql (.t 63) (.c (.int .i64 (0))), none⟩, ⟨(some 133), .mv (.t 134), none⟩]) (.cond (.t 133) (match c_dp_switch.tl 1 with | .cond _ a _ => a | c => c) (.seq (.reg [⟨(some 157), .bin .eql (.t 63) (.c (.int .i64 (1))), none⟩, ⟨(some 156), .mv (.t 157), none⟩]) (.cond (.t 156) (match (c_dp_switch.tl 1).els.tl 1 with | .cond _ a _ => a | c => c)
    (.seq (.seq (.reg [⟨(some 162), .bin .eql (.t 63) (.c (.int .i64 (2))), none⟩, ⟨(some 161), .mv (.t 162), none⟩]) (.cond (.t 161) .skip (.reg [⟨(some 163), .bin .eql (.t 63) (.c (.int .i64 (3))), none⟩, ⟨(some 161), .mv (.t 163), none⟩])))
     (.cond (.t 161) (match ((c_dp_switch.tl 1).els.tl 1).els.tl 1 with | .cond _ a _ => a | c => c) c_dp_write))))) from rfl]
  generalize (match c_dp_switch.tl 1 with | .cond _ a _ => a | c => c) = c1
  generalize (match (c_dp_switch.tl 1).els.tl 1 with | .cond _ a _ => a | c => c) = c2
  generalize (match ((c_dp_switch.tl 1).els.tl 1).els.tl 1 with | .cond _ a _ => a | c => c) = c3
  repeat (first | refine go_on ?_ | simp only [go_sem, d0])
  refine tri_condF ?_
  repeat (first | refine go_on ?_ | simp only [go_sem, d1])
  refine tri_condF ?_
  repeat (first | refine go_on ?_ | simp only [go_sem, d2])
  refine tri_condF ?_
  repeat (first | refine go_on ?_ | simp only [go_sem, d3])
  refine tri_condF ?_
  exact key _
theorem dp_body (ns : List Int) (S i : Nat) (x : PX) (hS : S ≤ 8) (hx : x.ok S i) (hi : i ≤ 100) (hn : i < ns.length) (Q : Ex → Fr → St → Prop) (hQ : ∀ (x' : PX) fr σ, x'.ok S (i + 1) → GC 0 fr σ (x'.fr ns S i) x'.st → Q .normal fr σ) :
    Tri Try.prog 236 0 c_dp_body Q (x.fr ns S i) x.st := by
  have hQ' : ∀ (x' : PX) fr σ, x'.ok S (i + 1) → GC 0 fr σ (x'.fr ns S i) x'.st → Tri Try.prog 236 0 c_dp_tail Q fr σ := fun x' fr σ hok hg => tri_gc hg (dp_tail ns S i x' hS hok.1 Q fun fr σ h => hQ x' fr σ hok h)
  have k0 := fun K A N ts => dp_plan ns S i x K A N ts hS hx
  have k1 := fun K A N ts => dp_restart ns S i x K A N ts hS hx
  have k2 := fun K A N D ts => dp_read ns S i x K A N D ts hS hx
  have k3 := fun K A D n ts => dp_else ns S i x K A D n ts
  clear hQ
  unfold PX.fm PX.st at k0 k1 k2 k3
  unfold PX.fr PX.st
  rw [show c_dp_body = .seq (.reg [⟨(some 50), .mv (.t 0), none⟩,
  ⟨(some 51), .mv (.t 10), none⟩,
  ⟨(some 52), .idxS 1 (.t 50) (.t 51), none⟩,
  ⟨(some 53), .ld false 1 (.t 52), none⟩,
  ⟨(some 54), .bin .and (.t 53) (.c (.int .i64 (16777215))), none⟩,
  ⟨(some 11), .mv (.t 54), none⟩])
 (.seq (.reg [⟨(some 55), .mv (.t 11), none⟩,
  ⟨(some 56), .bin .shr (.t 55) (.c (.int .u64 (3))), none⟩,
  ⟨(some 57), .bin .and (.t 56) (.c (.int .i64 (15))), none⟩,
  ⟨(some 58), .bin .sub (.t 57) (.c (.int .i64 (2))), none⟩,
  ⟨(some 59), .mv (.t 11), none⟩,
  ⟨(some 60), .bin .shr (.t 59) (.c (.int .u64 (7))), none⟩,
  ⟨(some 61), .bin .and (.t 60) (.c (.int .i64 (255))), none⟩,
  ⟨(some 12), .mv (.t 58), none⟩,
  ⟨(some 13), .mv (.t 61), none⟩])
 (.seq (.seq (.reg [⟨(some 62), .mv (.t 11), none⟩,
  ⟨(some 63), .bin .and (.t 62) (.c (.int .i64 (7))), none⟩])
 (.block 2 c_dp_switch)) c_dp_tail)) from rfl]
  generalize c_dp_tail = cT at *
  have hg := getD_nums (k := .i64) hn
  generalize ns[i] = v at *
  generalize hK : iand .i64 v 16777215 = K
  obtain ⟨a, ha, ha2⟩ := iand_le (ishr .i64 K 3) 15 (by decide) (by decide)
  obtain ⟨n, hn, hn2⟩ := iand_le (ishr .i64 K 7) 255 (by decide) (by decide)
  obtain ⟨D, hD, hD2⟩ := iand_le K 7 (by decide) (by decide)
  have hw : IntKind.i64.wrap ((a : Int) - 2) = (a : Int) - 2 := wrap_i64_in (by omega) (by omega)
  have key : D = 0 ∨ D = 1 ∨ (D = 2 ∨ D = 3) ∨ 4 ≤ D := by omega
  repeat (first | refine go_on ?_ | simp only [go_sem, hg, hK, ha, hn, hD, hw, Nat.mul_one])
  generalize c_dp_switch = cS at *
  have hQ2 : ∀ (x' : PX) fr σ, x'.ok S (i + 1) → GC 0 fr σ (x'.fr ns S i) x'.st → inBlockQ 2 (thenQ (Tri Try.prog 236 0 cT Q) Q) .normal fr σ := hQ'
  rcases key with rfl | rfl | h | h
  · exact k0 _ _ _ _ _ hQ2
  · exact k1 _ _ _ _ _ hQ2
  · exact k2 _ _ _ _ _ (by omega) (by omega) (by omega) _ hQ2
  · exact k3 _ _ _ _ _ (by omega) hS hx hi (by omega) (by omega) (by omega) _ hQ2
theorem pc_DevicePlays (l : List Int) (hl : l.length ≤ maxLen) (hw : ∀ n ∈ l, (Lit.int .i64 n).wf = true) (n : Int) (hn : (Lit.int .i64 n).wf = true) :
    PC Try.prog 8 [.sl 1 false (nums .i64 l), .int .i64 n] (.bool true) := by
  refine PC.fact 23 f_law31_DevicePlays (by simp) ⟨Pu_nums _ _, trivial, trivial⟩ trivial ?_
  obtain ⟨r, hr, hr2⟩ := iand_le n 7 (by decide) (by decide)
  have hs : IntKind.i64.wrap (1 + (r : Int)) = ((1 + r : Nat) : Int) := by rw [wrap_i64_in (by omega) (by omega)]; omega
  have c1 := new_ok (1 + r) (by omega) (by omega)
  have hz := length_zr ((1 + r) * 64)
  generalize hS : 1 + r = S at *
  have e3 : IntKind.i64.wrap (S * 64 : Int) = ((S * 64 : Nat) : Int) := by rw [wrap_i64_in (by omega) (by omega)]; omega
  have ht : (zr (S * 64)).take (S * 64) = zr (S * 64) := List.take_of_length_le (by omega)
  have key := fun i x hx hi hn => dp_body l S i x (by omega) hx hi hn
  rw [show c_law31_DevicePlays = .seq (.reg [⟨(some 4), .mv (.c (.bool false)), none⟩])
 (.seq (.reg [⟨(some 23), .mv (.t 1), none⟩,
  ⟨(some 24), .bin .and (.t 23) (.c (.int .i64 (7))), none⟩,
  ⟨(some 25), .bin .add (.c (.int .i64 (1))) (.t 24), none⟩,
  ⟨(some 1), .mv (.t 25), none⟩])
 (.seq (.reg [⟨(some 27), .mv (.t 1), none⟩,
  ⟨(some 28), .call (.c (.fn (.func 29) [])) [(.t 27)], none⟩,
  ⟨(some 26), .mv (.t 28), none⟩,
  ⟨(some 29), .ext 0 (.t 26), none⟩,
  ⟨(some 30), .ext 1 (.t 26), none⟩,
  ⟨(some 5), .mv (.t 29), none⟩,
  ⟨(some 6), .mv (.t 30), none⟩])
 (.seq (c_law31_DevicePlays.tl 3).hd (.seq (.reg [⟨(some 37), .mv (.t 1), none⟩,
  ⟨(some 38), .bin .mul (.t 37) (.c (.int .i64 (64))), none⟩,
  ⟨(some 39), .mk 1 1 [(.int .u8 (0))] (.t 38) (.t 38), none⟩,
  ⟨(some 7), .mv (.t 39), none⟩])
 (.seq (.reg [⟨(some 8), .mv (.c (.bool false)), none⟩])
 (.seq (.reg [⟨(some 9), .new [(.bool false), (.int .i64 (0)), (.int .i64 (0))], none⟩])
 (.seq (.seq (.reg [⟨(some 10), .mv (.c (.int .i64 (0))), none⟩])
 (.block 0 (.loop (.seq (.seq (.reg [⟨(some 40), .mv (.t 10), none⟩,
  ⟨(some 41), .mv (.t 0), none⟩,
  ⟨(some 42), .len false (.t 41), none⟩,
  ⟨(some 43), .bin .lss (.t 40) (.t 42), none⟩,
  ⟨(some 44), .mv (.t 43), none⟩,
  ⟨(some 45), .mv (.t 10), (some (44, true))⟩,
  ⟨(some 46), .bin .lss (.t 45) (.c (.int .i64 (20))), (some (44, true))⟩,
  ⟨(some 47), .pick (.t 44) (.t 46) (.c (.bool false)), none⟩])
 (.cond (.t 47)
   .skip
   (.exit 0)))
 (.seq (.block 1 c_dp_body)
 (.reg [⟨(some 48), .mv (.t 10), none⟩,
  ⟨(some 49), .bin .add (.t 48) (.c (.int .i64 (1))), none⟩,
  ⟨(some 10), .mv (.t 49), none⟩]))))))
 (.seq (.reg [⟨(some 235), .call (.c (.fn (.func 38) [])) [], none⟩,
  ⟨(some 4), .mv (.t 235), none⟩])
 .ret)))))))) from rfl]
  rw [show (c_law31_DevicePlays.tl 3).hd = (.seq (.reg [⟨(some 31), .mv (.t 6), none⟩,
  ⟨(some 32), .bin .neq (.t 31) (.c (.int .i64 (0))), none⟩,
  ⟨(some 33), .mv (.t 32), none⟩,
  ⟨(some 34), .mv (.t 5), (some (33, false))⟩,
  ⟨(some 35), .eqv 2 false (.t 34) (.c .nilp), (some (33, false))⟩,
  ⟨(some 36), .pick (.t 33) (.c (.bool true)) (.t 35), none⟩])
 (.cond (.t 36)
   (.seq (.reg [⟨(some 4), .mv (.c (.bool false)), none⟩])
   .ret)
   .skip)) from rfl]
  generalize c_dp_body = cB at *
  repeat (first | refine go_on ?_ | simp only [go_sem, hr, hs])
  refine ocall [] (c1) evd (Picks.mk' (by simp) evd) ?_; refine evg ?_
  try refine go_on ?_
  refine tri_condF ?_
  repeat (first | refine go_on ?_ | simp only [go_sem, e3])
  refine tri_loopG (fun x : Nat × PX => x.2.fr l S x.1) (fun x => x.2.st) (fun x => 20 - x.1) (fun x => x.1 ≤ 20 ∧ x.1 ≤ l.length ∧ x.2.ok S x.1) (0, ⟨zr (S * 64), false, false, 0, 0, 0⟩) ⟨Nat.zero_le _, Nat.zero_le _, hz, fun _ => rfl, Nat.zero_le _, Nat.zero_le _, by dsimp only; omega, by dsimp only; omega⟩ ?_ ?_
  · dsimp only [PX.fr, PX.st, dvo]
    simp only [hz]
    refine GC.mk' [2] [0, 1, 3] (by simp) rfl (by simp) (by simp) (by (try simp only [go_sem, hz, ht]); try exact evd) (by (try simp only [go_sem, hz, ht]); try exact evd)
  rintro ⟨i, x⟩ ⟨h1, h2, h3⟩
  dsimp only at h1 h2 h3 ⊢
  unfold PX.fr PX.st
  by_cases q1 : i < l.length
  case neg =>
    have e1 : decide ((i : Int) < (l.length : Int)) = false := decide_eq_false (by omega)
    repeat (first | refine go_on ?_ | simp only [go_sem, e1])
    refine tri_condF ?_
    try refine go_on ?_
    refine pcall awake31_walk ?_
    try refine go_on ?_
    refine ⟨_, (by first | rfl | exact evd), .inl ?_⟩; (try simp only [go_sem, Nat.reduceAdd, Nat.reduceSub, Nat.reduceMul, Nat.reduceLT, Nat.reduceLeDiff, Nat.reduceEqDiff, reduceIte, Int.reduceToNat, Int.reduceLT, Int.reduceLE, Int.reduceEq, Int.reduceNeg, reduceCtorEq, Int.reduceBEq, Int.reduceBNe])
  have e1 : decide ((i : Int) < (l.length : Int)) = true := decide_eq_true (by omega)
  by_cases q2 : i < 20
  case neg =>
    have e2 : decide ((i : Int) < 20) = false := decide_eq_false (by omega)
    repeat (first | refine go_on ?_ | simp only [go_sem, e1, e2])
    refine tri_condF ?_
    try refine go_on ?_
    refine pcall awake31_walk ?_
    try refine go_on ?_
    refine ⟨_, (by first | rfl | exact evd), .inl ?_⟩; (try simp only [go_sem, Nat.reduceAdd, Nat.reduceSub, Nat.reduceMul, Nat.reduceLT, Nat.reduceLeDiff, Nat.reduceEqDiff, reduceIte, Int.reduceToNat, Int.reduceLT, Int.reduceLE, Int.reduceEq, Int.reduceNeg, reduceCtorEq, Int.reduceBEq, Int.reduceBNe])
  have e2 : decide ((i : Int) < 20) = true := decide_eq_true (by omega)
  have ew := wrap_i64_succ q1 (by have : maxLen = 9223372036854775807 := rfl; omega)
  repeat (first | refine go_on ?_ | simp only [go_sem, e1, e2])
  refine tri_condT ?_
  try refine go_on ?_
  refine tri_wipe [] (key i x h3 (by omega) q1 _ fun x' fr σ hok hg => tri_gc hg ?_)
  unfold PX.fr PX.st
  repeat (first | refine go_on ?_ | simp only [go_sem, ew])
  refine ⟨(i + 1, x'), ⟨by dsimp only; omega, by dsimp only; omega, hok⟩, by dsimp only; omega, ?_⟩
  dsimp only
  refine GC.mk' [] [0, 1, 2] (by simp) rfl (by simp) (by simp) evd evd
end Go.Proofs.Ytdkahoohedljhaa
