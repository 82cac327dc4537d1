/-
  The abstract walk, part 29: what a call's arguments are, by the shape of their types. It holds of any program.
-/
import Derived.Test.YtachiahepppajaaBs
import Derived.Test.YtachiahepppajaaBo
import Derived.OpenShut
import Derived.ChangeMaps
namespace Go.FH
set_option linter.unusedVariables false
set_option linter.unusedSimpArgs false
open Go Go.RowKit

/-- Shapes of types. -/
inductive Sh where
  | bool
  | int (k : IntKind)
  | arr (n : Nat) (s : Sh)
  | sl (s : Sh)
  | st (ss : List Sh)

mutual
def Sh.size : Sh → Nat
  | .bool => 1
  | .int _ => 1
  | .sl _ => 1
  | .arr n s => n * s.size
  | .st ss => Sh.sizes ss
def Sh.sizes : List Sh → Nat
  | [] => 0
  | s :: ss => s.size + Sh.sizes ss
end

mutual
/-- What cells of a shape are. -/
inductive Opn : Sh → List AV → Prop
  | bool (b : Bool) : Opn .bool [.bool b]
  | int (k : IntKind) (n : Int) (h : (Lit.int k n).wf = true) : Opn (.int k) [.int k n]
  | arr (n : Nat) (s : Sh) (xs : List (List AV)) (hl : xs.length = n) (h : ∀ x ∈ xs, Opn s x) : Opn (.arr n s) xs.flatten
  | sl (s : Sh) (xs : List (List AV)) (hl : xs.length ≤ maxLen) (h : ∀ x ∈ xs, Opn s x) : Opn (.sl s) [.sl s.size false xs]
  | st (ss : List Sh) (cs : List AV) (h : OpnL ss cs) : Opn (.st ss) cs
inductive OpnL : List Sh → List AV → Prop
  | nil : OpnL [] []
  | cons (s : Sh) (ss : List Sh) (a b : List AV) (h : Opn s a) (hs : OpnL ss b) : OpnL (s :: ss) (a ++ b)
end

mutual
def isSh (P : Program) : Sh → TypeId → Bool
  | .bool, t => match P.underlying t with
    | some .bool => true
    | _ => false
  | .int k, t => match P.underlying t with
    | some (.int k') => k == k'
    | _ => false
  | .arr n s, t => match P.underlying t with
    | some (.array m e) => m == n && P.cellsOf e == s.size && P.cellsOf t == n * s.size && isSh P s e
    | _ => false
  | .sl s, t => match P.underlying t with
    | some (.slice e) => P.cellsOf e == s.size && decide (0 < s.size) && isSh P s e
    | _ => false
  | .st ss, t => match P.underlying t with
    | some (.struct fs) => P.cellsOf t == Sh.sizes ss && isShL P ss fs.toList 0
    | _ => false
def isShL (P : Program) : List Sh → List Field → Nat → Bool
  | [], [], _ => true
  | s :: ss, f :: fs, o => f.offset == o && P.cellsOf f.type == s.size && isSh P s f.type && isShL P ss fs (o + s.size)
  | _, _, _ => false
end

section
variable {H : Type} {enc : TypeId × Value → H} {P : Program} {w : World}

theorem arr_of {s : Sh} {k : Nat} : ∀ (n : Nat) (cs : List Value), cs.length = n * k → (∀ i, i < n → ∃ avs, Opn s avs ∧ RlC (topE w) avs ((cs.drop (i * k)).take k)) →
    ∃ xs : List (List AV), xs.length = n ∧ (∀ x ∈ xs, Opn s x) ∧ RlC (topE w) xs.flatten cs
  | 0, cs, hl, _ => ⟨[], rfl, by simp, by have : cs = [] := List.eq_nil_of_length_eq_zero (by omega); subst this; rfl⟩
  | n + 1, cs, hl, h => by
    have hk : (n + 1) * k = k + n * k := by rw [Nat.succ_mul]; omega
    obtain ⟨a, ha, hr⟩ := h 0 (by omega)
    obtain ⟨xs, h1, h2, h3⟩ := arr_of (s := s) (k := k) n (cs.drop k) (by rw [List.length_drop, hl, hk]; omega) (fun i hi => by
      obtain ⟨b, hb, hr⟩ := h (i + 1) (by omega)
      refine ⟨b, hb, ?_⟩
      rw [List.drop_drop, show k + i * k = (i + 1) * k by rw [Nat.succ_mul]; omega]
      exact hr)
    refine ⟨a :: xs, by simp [h1], fun x hx => ?_, ?_⟩
    · rcases List.mem_cons.1 hx with rfl | hx
      · exact ha
      · exact h2 x hx
    · have e : cs = cs.take k ++ cs.drop k := (List.take_append_drop k cs).symm
      rw [e]
      simp only [Nat.zero_mul, List.drop_zero] at hr
      exact RlC.app hr h3

theorem sl_of {s : Sh} {k : Nat} {b off : Nat} : ∀ (n : Nat) (o : Nat), (∀ i, i < n → ∃ avs us, Opn s avs ∧ RlC (topE w) avs us ∧ us.length = k ∧ ∀ j, j < k → w.cell? ⟨b, off + (o + i * k + j), none⟩ = us[j]?) →
    ∃ (xs : List (List AV)) (vs : List Value), xs.length = n ∧ (∀ x ∈ xs, Opn s x) ∧ vs.length = n * k ∧ RlE (topE w) k xs vs ∧ ∀ j, j < n * k → w.cell? ⟨b, off + (o + j), none⟩ = vs[j]?
  | 0, o, _ => ⟨[], [], rfl, by simp, by simp, rfl, fun j hj => by omega⟩
  | n + 1, o, h => by
    obtain ⟨a, us, ha, hr, hl, hc⟩ := h 0 (by omega)
    obtain ⟨xs, vs, h1, h2, h3, h4, h5⟩ := sl_of n (o + k) (fun i hi => by
      obtain ⟨a, us, ha, hr, hl, hc⟩ := h (i + 1) (by omega)
      refine ⟨a, us, ha, hr, hl, fun j hj => ?_⟩
      have := hc j hj
      rwa [show off + (o + (i + 1) * k + j) = off + (o + k + i * k + j) by rw [Nat.succ_mul]; omega] at this)
    refine ⟨a :: xs, us ++ vs, by simp [h1], fun x hx => ?_, ?_, ⟨us, vs, rfl, hl, hr, h4⟩, fun j hj => ?_⟩
    · rcases List.mem_cons.1 hx with rfl | hx
      · exact ha
      · exact h2 x hx
    · rw [List.length_append, hl, h3, Nat.succ_mul]; omega
    · by_cases hjk : j < k
      · have := hc j hjk
        rw [List.getElem?_append_left (by omega)]
        simpa using this
      · have := h5 (j - k) (by rw [Nat.succ_mul] at hj; omega)
        rw [List.getElem?_append_right (by omega), hl, ← this]
        congr 2; omega

mutual
theorem opn_of : ∀ (s : Sh) (t : TypeId) (fuel : Nat) (cs : List Value) (x : DataW H × List MemPlace), isSh P s t = true → DataW.trod enc P w 0 (fun _ => true) true fuel t cs = some x → ∃ avs, Opn s avs ∧ RlC (topE w) avs cs
  | .bool, t, fuel, cs, x, hs, h => by
    unfold isSh at hs
    split at hs <;> try cases hs
    rename_i ht
    cases fuel with
    | zero => simp [DataW.trod] at h
    | succ n =>
      unfold DataW.trod at h
      rw [ht] at h
      split at h <;> simp_all
      exact ⟨_, .bool _, _, [], rfl, rfl, rfl, rfl⟩
  | .int k, t, fuel, cs, x, hs, h => by
    unfold isSh at hs
    split at hs <;> try cases hs
    rename_i k' ht
    obtain ⟨n, rfl, _, hw⟩ := DataW.trod_int ht h
    have : k = k' := by simpa using hs
    subst this
    exact ⟨_, .int _ _ hw, _, [], rfl, rfl, rfl, rfl⟩
  | .arr n s, t, fuel, cs, x, hs, h => by
    unfold isSh at hs
    split at hs <;> try cases hs
    rename_i m e ht
    simp only [Bool.and_eq_true, beq_iff_eq] at hs
    obtain ⟨⟨⟨rfl, hc⟩, hct⟩, hi⟩ := hs
    obtain ⟨xs, fl, rfl, rfl, hl, hx, he⟩ := DataW.trod_array ht h
    rw [hct] at hl
    obtain ⟨xs, h1, h2, h3⟩ := arr_of (s := s) (w := w) m cs hl (fun i hin => by
      have h1 := he i hin
      rw [hc, List.getElem?_eq_getElem (by omega)] at h1
      exact opn_of s e _ _ _ hi h1)
    exact ⟨_, .arr _ _ _ h1 h2, h3⟩
  | .sl s, t, fuel, cs, x, hs, h => by
    unfold isSh at hs
    split at hs <;> try cases hs
    rename_i e ht
    simp only [Bool.and_eq_true, beq_iff_eq, decide_eq_true_eq] at hs
    obtain ⟨⟨hc, hp⟩, hi⟩ := hs
    rcases DataW.trod_slice ht h with ⟨rfl, _⟩ | ⟨a, len, cap, elems, rest, n, _, rfl, rfl, hb, hl, hm, hlen, hel, hsp, hns⟩
    · exact ⟨_, .sl s [] (by simp) (by simp), _, [], rfl, rfl, ⟨none, 0, 0, rfl, rfl, Nat.le_refl _, by simp [maxLen], fun _ => rfl, fun _ => rfl, .inl rfl⟩, rfl⟩
    · by_cases h0 : len = 0
      · subst h0
        exact ⟨_, .sl s [] (by simp) (by simp), _, [], rfl, rfl, ⟨some a, 0, cap, rfl, rfl, hl, hm, (fun h => Bool.noConfusion h), (fun h => by cases h), .inl rfl⟩, rfl⟩
      have each : ∀ i, i < len → ∃ avs us, Opn s avs ∧ RlC (topE w) avs us ∧ us.length = s.size ∧ ∀ j, j < s.size → w.cell? ((a.add (i * s.size)).add j) = us[j]? := by
        intro i hin
        have h1 := hel i hin
        rw [hc, List.getElem?_eq_getElem (by omega), Option.bind_eq_some_iff] at h1
        obtain ⟨us, h2, h3⟩ := h1
        obtain ⟨_, h5, h6⟩ := World.cells?_some h2
        obtain ⟨avs, h7, h8⟩ := opn_of s e _ _ _ hi h3
        exact ⟨avs, us, h7, h8, h5, h6⟩
      obtain ⟨b, off, spot⟩ := a
      obtain ⟨_, us, _, _, hul, hcc⟩ := each 0 (by omega)
      have hc0 := hcc 0 hp
      rw [List.getElem?_eq_getElem (by omega)] at hc0
      have hspot : spot = none := by simpa [Addr.add] using World.cell?_spot hc0
      subst hspot
      obtain ⟨xs, vs, h1, h2, h3, h4, h5⟩ := sl_of (s := s) (w := w) (k := s.size) (b := b) (off := off) len 0 (fun i hin => by
        obtain ⟨avs, us, g1, g2, g3, g4⟩ := each i hin
        refine ⟨avs, us, g1, g2, g3, fun j hj => ?_⟩
        rw [← g4 j hj, WideShapes.add_plain, WideShapes.add_plain]
        congr 2; omega)
      have hne : vs ≠ [] := by
        intro hh; subst hh
        simp only [List.length_nil] at h3
        have := Nat.mul_pos (Nat.pos_of_ne_zero h0) hp
        omega
      have hrange := range_of_cells (w := w) (b := b) (o := off) hne (fun j u hj => by
        have hjl := (List.getElem?_eq_some_iff.1 hj).1
        rw [← hj, ← h5 j (by omega)]
        congr 2; omega)
      rw [h3] at hrange
      have hblk : b < w.heap.size := by
        rw [WideShapes.add_plain, WideShapes.add_plain] at hc0
        exact World.block_lt_of_cell? w _ hc0
      exact ⟨_, .sl s xs (by omega) h2, _, [], rfl, rfl, ⟨_, len, cap, rfl, h1.symm, hl, hm, (fun h => Bool.noConfusion h), (fun h => by cases h), .inr ⟨b, off, vs, rfl, hblk, fun hf => hf, hrange, h4⟩⟩, rfl⟩
  | .st ss, t, fuel, cs, x, hs, h => by
    unfold isSh at hs
    split at hs <;> try cases hs
    rename_i fs ht
    simp only [Bool.and_eq_true, beq_iff_eq] at hs
    obtain ⟨hc, hi⟩ := hs
    obtain ⟨xs, n, rfl, _, hl, hxs, he⟩ := DataW.trod_struct ht h
    obtain ⟨avs, h1, h2⟩ := opnL_of ss fs.toList 0 cs hi (fun f hf => by
      obtain ⟨i, hi⟩ := List.getElem?_of_mem hf
      have h1 := he i f (by simpa using hi)
      have hil := (List.getElem?_eq_some_iff.1 hi).1
      rw [Array.length_toList] at hil
      rw [List.getElem?_eq_getElem (by omega)] at h1
      exact ⟨_, _, h1⟩) (by omega)
    exact ⟨avs, .st _ _ h1, h2⟩
theorem opnL_of : ∀ (ss : List Sh) (fs : List Field) (o : Nat) (cs : List Value), isShL P ss fs o = true →
    (∀ f ∈ fs, ∃ (fuel : Nat) (x : DataW H × List MemPlace), DataW.trod enc P w 0 (fun _ => true) true fuel f.type ((cs.drop f.offset).take (P.cellsOf f.type)) = some x) → cs.length = o + Sh.sizes ss → ∃ avs, OpnL ss avs ∧ RlC (topE w) avs (cs.drop o)
  | [], [], o, cs, _, _, hl => ⟨[], .nil, by rw [List.drop_of_length_le (by simp [Sh.sizes] at hl; omega)]; rfl⟩
  | [], _ :: _, o, cs, hs, _, _ => by simp [isShL] at hs
  | _ :: _, [], o, cs, hs, _, _ => by simp [isShL] at hs
  | s :: ss, f :: fs, o, cs, hs, hf, hl => by
    simp only [isShL, Bool.and_eq_true, beq_iff_eq] at hs
    obtain ⟨⟨⟨rfl, hc⟩, hi⟩, hr⟩ := hs
    simp only [Sh.sizes] at hl
    obtain ⟨fuel, x, hx⟩ := hf f (by simp)
    obtain ⟨a, ha, hra⟩ := opn_of s f.type fuel _ x hi hx
    obtain ⟨b, hb, hrb⟩ := opnL_of ss fs (f.offset + s.size) cs hr (fun g hg => hf g (by simp [hg])) (by omega)
    refine ⟨a ++ b, .cons _ _ _ _ ha hb, ?_⟩
    have e : cs.drop f.offset = (cs.drop f.offset).take s.size ++ cs.drop (f.offset + s.size) := by rw [← List.drop_drop, List.take_append_drop]
    rw [e]
    rw [hc] at hra
    exact RlC.app hra hrb
end

/-- An argument that is an aggregate. -/
theorem open_agg {t : TypeId} {v : Value} {d : DataW H} {p : List MemPlace} {r : Reach} {base : Nat} (s : Sh) (hs : isSh P s t = true) (hv : Value.okWide P w r base t v) (hd : DataW.Trod enc P w 0 (fun _ => true) true t v d p)
    (ha : (match P.underlying t with | some (.struct _) => true | some (.array _ _) => true | _ => false) = true) : ∃ avs, Opn s avs ∧ Rl (topE w) (.agg avs) v := by
  obtain ⟨fuel, hf⟩ := hd
  have hv' : ∃ cs, v = .agg cs := by
    unfold Value.okWide at hv
    split at hv
    · obtain ⟨cs, h, _⟩ := hv; exact ⟨cs, h⟩
    · obtain ⟨cs, h, _⟩ := hv; exact ⟨cs, h⟩
    · rename_i h1 h2
      split at ha
      · rename_i fs hu; exact absurd hu (h1 fs)
      · rename_i n e hu; exact absurd hu (h2 n e)
      · cases ha
  obtain ⟨cs, rfl⟩ := hv'
  obtain ⟨avs, h1, h2⟩ := opn_of s t fuel _ _ hs hf
  exact ⟨avs, h1, cs.toList, rfl, h2⟩
theorem open_sl1 {t e : TypeId} {v : Value} {d : DataW H} {p : List MemPlace} {r : Reach} {base : Nat} (s : Sh) (hs : isSh P (.sl s) t = true) (hv : Value.okWide P w r base t v) (hd : DataW.Trod enc P w 0 (fun _ => true) true t v d p)
    (ht : P.underlying t = some (.slice e)) : ∃ xs, xs.length ≤ maxLen ∧ (∀ x ∈ xs, Opn s x) ∧ Rl (topE w) (.sl s.size false xs) v := by
  obtain ⟨fuel, hf⟩ := hd
  obtain ⟨b, l, c, rfl⟩ := WideShapes.okWide_slice ht hv
  obtain ⟨avs, h1, h2⟩ := opn_of _ t fuel _ _ hs hf
  cases h1 with
  | sl s xs hl h =>
    obtain ⟨u, us, h3, _, h4, h5⟩ := h2
    simp only [Value.cells, List.cons.injEq] at h3
    obtain ⟨rfl, rfl⟩ := h3
    exact ⟨xs, hl, h, h4⟩
theorem open_int1 {t : TypeId} {v : Value} {d : DataW H} {p : List MemPlace} {r : Reach} {base : Nat} (k : IntKind) (ht : P.underlying t = some (.int k)) (hv : Value.okWide P w r base t v) (hd : DataW.Trod enc P w 0 (fun _ => true) true t v d p) :
    ∃ n, (Lit.int k n).wf = true ∧ Rl (topE w) (.int k n) v := by
  obtain ⟨n, rfl, _, _, hw⟩ := ChangeShapes.open_int ht hv hd
  exact ⟨n, hw, rfl⟩
theorem open_bool1 {t : TypeId} {v : Value} {d : DataW H} {p : List MemPlace} {r : Reach} {base : Nat} (ht : P.underlying t = some .bool) (hv : Value.okWide P w r base t v) (hd : DataW.Trod enc P w 0 (fun _ => true) true t v d p) :
    ∃ b, Rl (topE w) (.bool b) v := by
  obtain ⟨b, rfl, _, _⟩ := RowKit.open_bool ht hv hd
  exact ⟨b, rfl⟩
end

/-- Integers out of cells. -/
theorem Opn.ints {k : IntKind} : ∀ {xs : List (List AV)}, (∀ x ∈ xs, Opn (.int k) x) → ∃ ns : List Int, xs = nums k ns ∧ ∀ n ∈ ns, (Lit.int k n).wf = true
  | [], _ => ⟨[], rfl, by simp⟩
  | x :: xs, h => by
    obtain ⟨ns, rfl, h2⟩ := Opn.ints (xs := xs) (fun y hy => h y (by simp [hy]))
    cases h x (by simp) with
    | int k n hw =>
      refine ⟨n :: ns, rfl, fun m hm => ?_⟩
      rcases List.mem_cons.1 hm with rfl | hm
      · exact hw
      · exact h2 m hm
theorem nums_u8 : ∀ {ns : List Int}, (∀ n ∈ ns, (Lit.int .u8 n).wf = true) → ∃ bs : List UInt8, nums .u8 ns = bts bs ∧ bs.length = ns.length
  | [], _ => ⟨[], rfl, rfl⟩
  | n :: ns, h => by
    obtain ⟨bs, h1, h2⟩ := nums_u8 (ns := ns) (fun m hm => h m (by simp [hm]))
    have hb := bounds_u8 (h n (by simp))
    refine ⟨UInt8.ofNat n.toNat :: bs, ?_, by simp [h2]⟩
    have e : ((UInt8.ofNat n.toNat).toNat : Int) = n := by rw [UInt8.toNat_ofNat']; omega
    rw [bts_cons, e, ← h1]; rfl
theorem Opn.rt {cs : List AV} (h : Opn (.arr 32 (.int .u8)) cs) : ∃ r : Rt, cs = rtc r := by
  cases h with
  | arr n s xs hl h =>
    obtain ⟨ns, rfl, hw⟩ := Opn.ints h
    obtain ⟨bs, h1, h2⟩ := nums_u8 hw
    rw [length_nums] at hl
    exact ⟨⟨bs, by omega⟩, by rw [h1, flatten_bts]; rfl⟩
theorem Opn.wd {cs : List AV} (h : Opn (.arr 4 (.int .u64)) cs) : ∃ a : Wd, cs = wdc a ∧ ∀ n ∈ a.1, 0 ≤ n ∧ n < 18446744073709551616 := by
  cases h with
  | arr n s xs hl h =>
    obtain ⟨ns, rfl, hw⟩ := Opn.ints h
    rw [length_nums] at hl
    refine ⟨⟨ns, hl⟩, ?_, fun n hn => ?_⟩
    · show _ = ns.map _
      clear hl hw h
      induction ns with
      | nil => rfl
      | cons n ns ih => simp only [nums, List.map_cons, List.flatten_cons] at ih ⊢; rw [ih]; rfl
    · have := bounds_u64 (hw n hn); omega
theorem Opn.inv_st {ss : List Sh} {cs : List AV} (h : Opn (.st ss) cs) : OpnL ss cs := by
  cases h with
  | st _ _ h => exact h
theorem OpnL.inv_cons {s : Sh} {ss : List Sh} {cs : List AV} (h : OpnL (s :: ss) cs) : ∃ a b, cs = a ++ b ∧ Opn s a ∧ OpnL ss b := by
  cases h with
  | cons _ _ a b h hs => exact ⟨a, b, rfl, h, hs⟩
theorem OpnL.inv_nil {cs : List AV} (h : OpnL [] cs) : cs = [] := by
  cases h; rfl
theorem Opn.inv_int {k : IntKind} {cs : List AV} (h : Opn (.int k) cs) : ∃ n, (Lit.int k n).wf = true ∧ cs = [.int k n] := by
  cases h with
  | int _ n h => exact ⟨n, h, rfl⟩
theorem Opn.inv_bool {cs : List AV} (h : Opn .bool cs) : ∃ b, cs = [.bool b] := by
  cases h with
  | bool b => exact ⟨b, rfl⟩
theorem Opn.inv_nums {k : IntKind} {cs : List AV} (h : Opn (.sl (.int k)) cs) : ∃ ns : List Int, ns.length ≤ maxLen ∧ (∀ n ∈ ns, (Lit.int k n).wf = true) ∧ cs = [.sl 1 false (nums k ns)] := by
  cases h with
  | sl _ xs hl h =>
    obtain ⟨ns, rfl, hw⟩ := Opn.ints h
    exact ⟨ns, by rwa [length_nums] at hl, hw, rfl⟩

section
variable {H : Type} {enc : TypeId × Value → H} {P : Program} {w : World}
/-- An argument that is a list of numbers. -/
theorem open_nums {t e : TypeId} {v : Value} {d : DataW H} {p : List MemPlace} {r : Reach} {base : Nat} (k : IntKind) (hs : isSh P (.sl (.int k)) t = true) (hv : Value.okWide P w r base t v) (hd : DataW.Trod enc P w 0 (fun _ => true) true t v d p)
    (ht : P.underlying t = some (.slice e)) : ∃ ns : List Int, ns.length ≤ maxLen ∧ (∀ n ∈ ns, (Lit.int k n).wf = true) ∧ Rl (topE w) (.sl 1 false (nums k ns)) v := by
  obtain ⟨xs, hl, h, hr⟩ := open_sl1 (.int k) hs hv hd ht
  obtain ⟨ns, rfl, hw⟩ := Opn.ints h
  exact ⟨ns, by rwa [length_nums] at hl, hw, hr⟩
theorem open_bytes {t e : TypeId} {v : Value} {d : DataW H} {p : List MemPlace} {r : Reach} {base : Nat} (hs : isSh P (.sl (.int .u8)) t = true) (hv : Value.okWide P w r base t v) (hd : DataW.Trod enc P w 0 (fun _ => true) true t v d p)
    (ht : P.underlying t = some (.slice e)) : ∃ bs : List UInt8, bs.length ≤ maxLen ∧ Rl (topE w) (.sl 1 false (bts bs)) v := by
  obtain ⟨ns, hl, hw, hr⟩ := open_nums .u8 hs hv hd ht
  obtain ⟨bs, h1, h2⟩ := nums_u8 hw
  exact ⟨bs, by omega, by rwa [← h1]⟩
end
end Go.FH
