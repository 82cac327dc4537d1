/-
  My texts Bo, Bp, Bq, Br, Bs, Bt, Bu, Bv, joined.
-/
import Derived.Test.YtdkahoohedljhaaMb
import Derived.OpenShut
import Derived.ChangeMaps
namespace Go.FH
set_option linter.unusedVariables false
set_option linter.unusedSimpArgs false
open Go Go.RowKit

theorem RlE_bts {E : Env} : ∀ {bs : List UInt8} {vs : List Value}, RlE E 1 (bts bs) vs ↔ vs = bs.map fun b => Value.int .u8 b.toNat
  | [], vs => by simp [bts, RlE]
  | b :: bs, vs => by
    rw [bts_cons]
    simp only [RlE, RlC, Rl, RlE_bts (bs := bs)]
    constructor
    · rintro ⟨us, ws, rfl, h1, ⟨v, vs', rfl, h2, rfl, rfl⟩, rfl⟩
      rfl
    · rintro rfl
      exact ⟨[.int .u8 b.toNat], _, rfl, rfl, ⟨_, [], rfl, rfl, rfl, rfl⟩, rfl⟩

theorem range_of_cells {w : World} {b o : Nat} {vs : List Value} (hn : vs ≠ []) (h : ∀ j u, vs[j]? = some u → w.cell? ⟨b, o + j, none⟩ = some u) : range? w b o vs.length = some vs.toArray := by
  unfold range?
  have h0 : ∃ u, vs[0]? = some u := by
    cases vs with
    | nil => exact absurd rfl hn
    | cons u us => exact ⟨u, rfl⟩
  obtain ⟨u0, hu0⟩ := h0
  have hc0 := h 0 u0 hu0
  unfold World.cell? at hc0
  split at hc0
  · rename_i c t f hb
    simp only at hb
    have key : ∀ j u, vs[j]? = some u → c[o + j]? = some u := by
      intro j u hj
      have := h j u hj
      unfold World.cell? at this
      simp only [hb] at this
      simpa using this
    rw [hb]
    simp only
    have hlen : o + vs.length ≤ c.size := by
      have hlt : vs.length - 1 < vs.length := by
        have : vs.length ≠ 0 := fun hh => hn (List.eq_nil_of_length_eq_zero hh)
        omega
      have := key (vs.length - 1) _ (List.getElem?_eq_getElem hlt)
      have := (Array.getElem?_eq_some_iff.1 this).1
      omega
    rw [if_pos hlen]
    congr 1
    apply Array.ext
    · simp; omega
    · intro i h1 h2
      have hi : i < vs.length := by simpa using h2
      have := key i _ (List.getElem?_eq_getElem hi)
      rw [Array.getElem?_eq_some_iff] at this
      obtain ⟨h3, h4⟩ := this
      simp [h4]
  · cases hc0

/-- The environment at the top. -/
abbrev topE (w : World) : Env := ⟨fun _ => none, fun _ => False, w⟩
theorem top_bytes {w : World} {a : Option Addr} {n cap : Nat} {bs : List UInt8} (h : Sl w (fun _ => True) a n cap (bs.map fun b => Value.int .u8 b.toNat)) : Rl (topE w) (.sl 1 false (bts bs)) (.slice a n cap) := by
  have hl := h.len
  rw [List.length_map] at hl
  refine ⟨a, n, cap, rfl, by rw [length_bts, hl], h.le, h.cmax, (fun h => Bool.noConfusion h), h.nocap, ?_⟩
  by_cases h0 : n = 0
  · exact .inl h0
  · right
    rcases h.addr with h1 | ⟨b, off, h1, _, h2, h3⟩
    · have := h.le; omega
    · refine ⟨b, off, _, h1, h2, fun hf => hf, ?_, RlE_bts.2 rfl⟩
      have := range_of_cells (w := w) (b := b) (o := off) (vs := bs.map fun b => Value.int .u8 b.toNat) (fun hh => h0 (by rw [← hl, ← List.length_map (f := fun b : UInt8 => Value.int .u8 b.toNat), hh]; rfl)) h3
      rw [List.length_map, hl] at this
      rwa [Nat.mul_one]
theorem PC.top {P : Program} {f : FuncId} {args : List AV} {r : AV} (h : PC P f args r) {w : World} {vs : List Value} (hv : RlS (topE w) args vs) :
    Calls P f vs.toArray w fun e w' => (∃ v, e = .returned v ∧ Rl (topE w') r v) ∧ Below w.heap.size w w' := by
  have hF : ∀ w : World, envOf (fun _ => False) (fun _ => none) [] w = topE w := by
    intro w
    unfold envOf topE
    congr 1
    funext b
    apply propext
    constructor
    · rintro (h | ⟨id, o, L, h1, _⟩)
      · exact h
      · simp at h1
    · exact fun h => h.elim
  have hr : Rel (fun _ => False) (fun _ => none) [] w := ⟨fun id o h => by simp at h, fun i j a b La Lb _ h => by simp at h, fun b h => h.elim, fun _ _ => rfl⟩
  refine (h.call.2.2 _ _ w vs hr (by rw [hF]; exact hv)).mono ?_
  rintro e w' ⟨v, loc', rfl, ho, _⟩
  refine ⟨⟨v, rfl, ?_⟩, ho.ev.below fun b _ hb => ?_⟩
  · have hl : loc' = fun _ => none := funext fun id => ho.rel.beyond id (Nat.zero_le _)
    have := ho.val
    rw [hl, hF] at this
    exact this
  · obtain ⟨id, o, L, h1, _⟩ := hb
    simp at h1
theorem PC.law {P : Program} {f : FuncId} {args : List AV} (h : PC P f args (.bool true)) {w : World} {vs : List Value} (hv : RlS (topE w) args vs) :
    Calls P f vs.toArray w fun e w' => e = .returned (.bool true) ∧ Below w.heap.size w w' :=
  (h.top hv).mono fun e w' ⟨⟨v, h1, h2⟩, h3⟩ => ⟨by rw [h1]; exact congrArg Ending.returned h2, h3⟩
end Go.FH

namespace Go.FH
set_option linter.unusedVariables false
set_option linter.unusedSimpArgs false
open Go Go.RowKit

/-- The frame and the objects once the objects zs are no longer written. -/
def fzFr (σ : St) (zs : List Nat) (fr : Fr) : Fr := ⟨fr.nv, fr.vs.map (fz σ zs), []⟩
def fzSt (σ : St) (zs : List Nat) : St := (List.range σ.length).map fun i => if zs.contains i then .gone else fzO σ zs (σ.getD i .gone)
theorem evZ : (∀ σ zs nv vs ts, fzFr σ zs ⟨nv, vs, ts⟩ = ⟨nv, vs.map (fz σ zs), []⟩) := fun _ _ _ _ _ => rfl

section
variable {P : Program} {nt k : Nat} {fr : Fr} {σ : St}
theorem tri_fz {c : ACode} {Q : Ex → Fr → St → Prop} (zs : List Nat) (h : Tri P nt k c Q (fzFr σ zs fr) (fzSt σ zs)) : Tri P nt k c Q fr σ := by
  intro code hc C loc a w hs
  have hk := hs.klen
  have hf : Forget k σ zs (List.range σ.length) (fzSt σ zs) := by
    refine ⟨fun i hi => List.getElem?_range (by omega), List.nodup_range, fun j hj => List.mem_range.1 hj, by simp [fzSt], fun i o ho => ?_⟩
    have hi : i < σ.length := by
      have := (List.getElem?_eq_some_iff.1 ho).1
      simpa [fzSt] using this
    unfold fzSt at ho
    rw [List.getElem?_map, List.getElem?_range hi] at ho
    simp only [Option.map_some, Option.some.injEq] at ho
    split at ho
    · exact .inl ho.symm
    · rename_i hz
      refine .inr ⟨i, List.getElem?_range hi, by simpa using hz, ?_⟩
      rw [rn_range, renO_id, ← ho, List.getElem?_eq_getElem hi, List.getD_eq_getElem?_getD, List.getElem?_eq_getElem hi]
      rfl
  refine tri_forget zs (List.range σ.length) (fzFr σ zs fr) (fzSt σ zs) hf (by simpa using hk) (fun t => ?_) h code hc C loc a w hs
  rw [rn_range, ren_id]
  unfold Fr.get fzFr
  simp only
  split
  · right
    rw [List.getD_eq_getElem?_getD, List.getD_eq_getElem?_getD, List.getElem?_map]
    cases fr.vs[t]? <;> rfl
  · exact .inl rfl

/-- Values that mean the same in every world. -/
def Sc (v : AV) : Prop := ∀ E E' u, Rl E v u → Rl E' v u
/-- A call that only reads its own slices. -/
theorem ACall.borrow {f : FuncId} {args : List AV} {r : AV} (h : PC P f (fzL σ (List.range σ.length) args) r) (hs : Sc r) : ACall P f args σ r σ := by
  refine ⟨h.call.1, Nat.le_refl _, fun X loc w vs hr hv => ?_⟩
  obtain ⟨loc2, g1, g2, g3, g4⟩ := (forget_all σ (List.range σ.length)).rel hr
  have hpu := h.pa
  have hv2 : RlS (envOf X loc2 [] w) (fzL σ (List.range σ.length) args) vs := by
    have key : ∀ {xs : List AV} {us : List Value}, PuL (fzL σ (List.range σ.length) xs) → RlS (envOf X loc σ w) xs us → RlS (envOf X loc2 [] w) (fzL σ (List.range σ.length) xs) us := by
      intro xs
      induction xs with
      | nil => intro us _ hv; exact hv
      | cons a xs ih =>
        intro us hp hv
        obtain ⟨u, us', e, h1, h2⟩ := hv
        exact ⟨u, us', e, g4 a u h1 _ (hp.1.ren _).symm, ih hp.2 h2⟩
    exact key hpu hv
  refine (h.call.2.2 X loc2 w vs g2 hv2).mono ?_
  rintro e w' ⟨v, loc', rfl, ho, _⟩
  have hev : Ev (fun _ => False) w w' := ⟨ho.ev.size, fun b hb _ => ho.ev.blk b hb (fun hd => by obtain ⟨id, o, L, h1, _⟩ := hd; simp at h1), ho.ev.os, ho.ev.tape, ho.ev.output⟩
  obtain ⟨q1, q2⟩ := hr.grow hev
  exact ⟨v, loc, rfl, ⟨fun _ _ h => h, q1, hs _ _ _ ho.val, ⟨hev.size, fun b hb _ => hev.blk b hb (fun h => h), hev.os, hev.tape, hev.output⟩, fun b hb => .inl hb⟩, fun _ _ => rfl⟩
theorem picks_all : Picks σ (List.range σ.length) σ := by
  refine ⟨by simp, List.nodup_range, fun j hj => List.mem_range.1 hj, fun i j hij => ?_⟩
  have hi : i < σ.length := by
    have := (List.getElem?_eq_some_iff.1 hij).1
    simpa using this
  rw [List.getElem?_range hi] at hij
  cases hij
  rw [rn_range, List.getElem?_eq_getElem hi]
  simp [renO_id]
theorem pcallb {f : FuncId} {args args' caps : List AV} {r : AV} {K : AV → St → Prop} (h : PC P f args' r) (ha : fzL σ (List.range σ.length) (args ++ caps) = args') (hs : Sc r) (hk : K r σ) : callStep P (.fn (.func f) caps) args σ K := by
  subst ha
  refine ⟨args ++ caps, σ, r, σ, List.range σ.length, ACall.borrow h hs, ?_, picks_all, ?_⟩
  · rw [rn_range, renL_id]
  · rw [afterCall_same picks_all, rn_range, ren_id]; exact hk
theorem Sc.int (k : IntKind) (n : Int) : Sc (.int k n) := fun _ _ _ h => h
theorem Sc.bool (b : Bool) : Sc (.bool b) := fun _ _ _ h => h
theorem Sc.str (s : List UInt8) : Sc (.str s) := fun _ _ _ h => h
end
end Go.FH

namespace Go.FH
set_option linter.unusedVariables false
set_option linter.unusedSimpArgs false
open Go Go.RowKit

theorem cut_full {a : List AV} {n : Nat} (h : a.length = n) : cut a 0 n = a := by
  unfold cut; rw [List.drop_zero, ← h, List.take_length]
theorem cut_s (x : AV) (b : List AV) (o n : Nat) (h : 1 ≤ o) : cut (x :: b) o n = cut b (o - 1) n := by
  obtain ⟨k, rfl⟩ : ∃ k, o = k + 1 := ⟨o - 1, by omega⟩
  rfl
theorem cut_r (a b : List AV) (o n : Nat) (h : a.length ≤ o) : cut (a ++ b) o n = cut b (o - a.length) n := by
  unfold cut; rw [List.drop_append, List.drop_eq_nil_of_le h, List.nil_append]
theorem cut_l (a b : List AV) (o n : Nat) (h : o + n ≤ a.length) : cut (a ++ b) o n = cut a o n := by
  unfold cut; rw [List.drop_append, List.take_append_of_le_length (by rw [List.length_drop]; omega)]
theorem cut_n (x : AV) (b : List AV) (n : Nat) (h : 0 < n) : cut (x :: b) 0 n = x :: cut b 0 (n - 1) := by
  obtain ⟨k, rfl⟩ : ∃ k, n = k + 1 := ⟨n - 1, by omega⟩
  rfl
theorem cut_0 (b : List AV) (o : Nat) : cut b o 0 = [] := by simp [cut]
theorem spl_full {a : List AV} {vs : List AV} (h : vs.length = a.length) : spl a 0 vs = vs := by
  unfold spl; rw [h]; simp
theorem spl_s (x : AV) (b : List AV) (o : Nat) (vs : List AV) (h : 1 ≤ o) : spl (x :: b) o vs = x :: spl b (o - 1) vs := by
  obtain ⟨k, rfl⟩ : ∃ k, o = k + 1 := ⟨o - 1, by omega⟩
  unfold spl
  simp [Nat.add_right_comm]
theorem spl_r (a b : List AV) (o : Nat) (vs : List AV) (h : a.length ≤ o) : spl (a ++ b) o vs = a ++ spl b (o - a.length) vs := by
  unfold spl
  rw [List.take_append, List.drop_append, List.take_of_length_le h, List.drop_eq_nil_of_le (by omega), List.nil_append, show o + vs.length - a.length = o - a.length + vs.length by omega]
  simp
theorem spl_l (a b : List AV) (o : Nat) (vs : List AV) (h : o + vs.length ≤ a.length) : spl (a ++ b) o vs = spl a o vs ++ b := by
  unfold spl
  rw [List.take_append_of_le_length (by omega), List.drop_append_of_le_length h]
  simp
theorem spl_c (x : AV) (b : List AV) (v : AV) (vs : List AV) : spl (x :: b) 0 (v :: vs) = v :: spl b 0 vs := by
  unfold spl
  simp
theorem spl_n (b : List AV) : spl b 0 [] = b := by simp [spl]

theorem int_beq (a b : Int) : (a == b) = decide (a = b) := by rw [Bool.eq_iff_iff]; simp
theorem allCells_nil : allCells [] = true := rfl
theorem allCells_cons (x : AV) (b : List AV) : allCells (x :: b) = (x.cell && allCells b) := rfl
theorem allCells_app (a b : List AV) : allCells (a ++ b) = (allCells a && allCells b) := by simp [allCells]
theorem PuL_app (a b : List AV) : PuL (a ++ b) ↔ PuL a ∧ PuL b := by
  simp only [PuL_iff, List.mem_append]
  exact ⟨fun h => ⟨fun c hc => h c (.inl hc), fun c hc => h c (.inr hc)⟩, fun h c hc => hc.elim (h.1 c) (h.2 c)⟩
theorem renL_app (ρ : Nat → Nat) (a b : List AV) : renL ρ (a ++ b) = renL ρ a ++ renL ρ b := by simp [renL_map]
theorem fzL_app (σ : St) (zs : List Nat) : ∀ a b, fzL σ zs (a ++ b) = fzL σ zs a ++ fzL σ zs b
  | [], b => rfl
  | x :: a, b => by simp only [List.cons_append, fzL, fzL_app σ zs a b]
theorem aeqL_app : ∀ {a b : List AV} (x y : List AV), a.length = b.length → aeqL (a ++ x) (b ++ y) = (match aeqL a b, aeqL x y with | some p, some q => some (p && q) | _, _ => none)
  | [], [], x, y, _ => by simp only [List.nil_append, aeqL]; cases aeqL x y <;> simp
  | u :: a, v :: b, x, y, h => by
    have ih := aeqL_app (a := a) (b := b) x y (by simpa using h)
    simp only [List.cons_append, aeqL, ih]
    cases aeq1 u v <;> cases aeqL a b <;> cases aeqL x y <;> simp [Bool.and_assoc]
  | [], _ :: _, _, _, h | _ :: _, [], _, _, h => by simp at h
theorem fitsK_of : ∀ {ks : List (Nat × Nat)} {cs : List AV}, cs.map kindAV = expandK ks → fitsK ks cs = true
  | [], cs, h => by simp only [expandK, List.map_eq_nil_iff] at h; subst h; rfl
  | (n, k) :: ks, cs, h => by
    simp only [expandK] at h
    have hl : n ≤ cs.length := by have := congrArg List.length h; simp at this; omega
    have h1 : (cs.take n).map kindAV = List.replicate n k := by rw [List.map_take, h]; simp
    have h2 : (cs.drop n).map kindAV = expandK ks := by rw [List.map_drop, h]; simp
    simp only [fitsK, fitsK_of h2, Bool.and_true, Bool.and_eq_true, List.all_eq_true, beq_iff_eq]
    refine ⟨by rw [List.length_take]; omega, fun x hx => ?_⟩
    have : kindAV x ∈ (cs.take n).map kindAV := List.mem_map_of_mem hx
    rw [h1] at this
    exact (List.mem_replicate.1 this).2

/-- Bytes as cells. -/
def byc (bs : List UInt8) : List AV := bs.map fun b => .int .u8 (b.toNat : Int)
@[simp] theorem length_byc (bs : List UInt8) : (byc bs).length = bs.length := by simp [byc]
theorem PuL_byc (bs : List UInt8) : PuL (byc bs) := by
  rw [PuL_iff]; intro x hx
  obtain ⟨b, _, rfl⟩ := List.mem_map.1 hx
  trivial
theorem allCells_byc (bs : List UInt8) : allCells (byc bs) = true := by simp [allCells, byc, AV.cell]
theorem aeqL_byc : ∀ {a b : List UInt8}, a.length = b.length → aeqL (byc a) (byc b) = some (decide (a = b))
  | [], [], _ => rfl
  | x :: a, y :: b, h => by
    have ih := aeqL_byc (a := a) (b := b) (by simpa using h)
    have e : (((x.toNat : Int)) == (y.toNat : Int)) = decide (x = y) := by
      rw [Bool.eq_iff_iff]; simp
      exact ⟨fun h => UInt8.toNat_inj.1 (by omega), fun h => by rw [h]⟩
    simp only [byc, List.map_cons, aeqL, aeq1, if_true] at ih ⊢
    rw [ih, e]
    simp [List.cons.injEq]
  | [], _ :: _, h | _ :: _, [], h => by simp at h
theorem chunk_byc : ∀ (bs : List UInt8) (n : Nat), bs.length = n → chunk 1 n (byc bs) = bts bs
  | [], _, rfl => rfl
  | b :: bs, _, rfl => by
    simp only [List.length_cons, chunk, byc, List.map_cons, bts]
    have := chunk_byc bs _ rfl
    simp only [byc, bts] at this
    simp [this]
theorem cut_byc (bs : List UInt8) {j : Nat} (h : j < bs.length) : cut (byc bs) j 1 = [.int .u8 (bs[j].toNat : Int)] := by
  unfold cut byc
  rw [← List.map_drop, ← List.map_take, List.drop_eq_getElem_cons h]
  rfl
theorem spl_byc (bs : List UInt8) {j : Nat} (h : j < bs.length) (b : UInt8) : spl (byc bs) j [.int .u8 (b.toNat : Int)] = byc (bs.set j b) := by
  unfold spl byc
  rw [← List.map_take, List.length_singleton, ← List.map_drop, List.set_eq_take_append_cons_drop, if_pos h]
  simp
theorem kinds_byc (bs : List UInt8) : (byc bs).map kindAV = List.replicate bs.length 1 := by
  rw [List.eq_replicate_iff]
  refine ⟨by simp, fun b hb => ?_⟩
  obtain ⟨c, hc, rfl⟩ := List.mem_map.1 hb
  obtain ⟨d, _, rfl⟩ := List.mem_map.1 hc
  rfl
theorem spl_bts (bs xs : List UInt8) (o : Nat) (h : o + xs.length ≤ bs.length) : spl (byc bs) o (byc xs) = byc (bs.take o ++ xs ++ bs.drop (o + xs.length)) := by
  unfold spl byc; simp [List.map_take, List.map_drop]
theorem flatten_bts (bs : List UInt8) : (bts bs).flatten = byc bs := by
  induction bs with
  | nil => rfl
  | cons b bs ih => simp only [bts, byc, List.map_cons, List.flatten_cons] at ih ⊢; rw [ih]; rfl

/-- Roots. -/
abbrev Rt := {b : List UInt8 // b.length = 32}
def rtc (r : Rt) : List AV := byc r.1
@[simp] theorem length_rtc (r : Rt) : (rtc r).length = 32 := by rw [rtc, length_byc, r.2]
theorem rtc_full (r : Rt) : cut (rtc r) 0 32 = rtc r := cut_full (length_rtc r)
theorem chunk_rtc (r : Rt) : chunk 1 32 (rtc r) = bts r.1 := chunk_byc _ _ r.2
theorem PuL_rtc (r : Rt) : PuL (rtc r) := PuL_byc _
theorem renL_rtc (ρ : Nat → Nat) (r : Rt) : renL ρ (rtc r) = rtc r := (PuL_rtc r).ren ρ
theorem fzL_rtc (σ : St) (zs : List Nat) (r : Rt) : fzL σ zs (rtc r) = rtc r := (PuL_rtc r).fz σ zs
theorem allCells_rtc (r : Rt) : allCells (rtc r) = true := allCells_byc _
theorem aeqL_rtc (r s : Rt) : aeqL (rtc r) (rtc s) = some (decide (r = s)) := by
  rw [rtc, rtc, aeqL_byc (by rw [r.2, s.2])]
  congr 1
  rw [decide_eq_decide]
  exact Subtype.ext_iff.symm
theorem kinds_rtc (r : Rt) : (rtc r).map kindAV = List.replicate 32 1 := by rw [rtc, kinds_byc, r.2]
theorem fits_rtc (r : Rt) : fitsK [(32, 1)] (rtc r) = true := fitsK_of (by rw [kinds_rtc]; rfl)
theorem cut_rtc (r : Rt) {j : Nat} (h : j < 32) : cut (rtc r) j 1 = [.int .u8 ((r.1[j]'(by rw [r.2]; exact h)).toNat : Int)] := cut_byc _ _
def Rt.set (r : Rt) (j : Nat) (b : UInt8) : Rt := ⟨r.1.set j b, by rw [List.length_set, r.2]⟩
theorem spl_rtc (r : Rt) {j : Nat} (h : j < 32) (b : UInt8) : spl (rtc r) j [.int .u8 (b.toNat : Int)] = rtc (r.set j b) := spl_byc _ (by rw [r.2]; exact h) b
theorem cutd_rtc (r : Rt) {j : Nat} (h : j < 32) : cut (rtc r) j 1 = [.int .u8 ((r.1.getD j 0).toNat : Int)] := by
  rw [cut_rtc r h, List.getD_eq_getElem?_getD, List.getElem?_eq_getElem (by rw [r.2]; exact h)]; rfl
theorem bts_rt_ne (r : Rt) : (bts r.1 = []) = False := by
  rw [eq_iff_iff, iff_false]
  intro h
  have := congrArg List.length h
  rw [length_bts, r.2] at this
  cases this
def rt0 : Rt := ⟨List.replicate 32 0, rfl⟩
instance : Inhabited Rt := ⟨rt0⟩

/-- Wide numbers. -/
abbrev Wd := {l : List Int // l.length = 4}
def wdc (a : Wd) : List AV := a.1.map (.int .u64)
@[simp] theorem length_wdc (a : Wd) : (wdc a).length = 4 := by rw [wdc, List.length_map, a.2]
theorem wdc_full (a : Wd) : cut (wdc a) 0 4 = wdc a := cut_full (length_wdc a)
theorem PuL_wdc (a : Wd) : PuL (wdc a) := by
  rw [PuL_iff]; intro x hx
  obtain ⟨b, _, rfl⟩ := List.mem_map.1 hx
  trivial
theorem renL_wdc (ρ : Nat → Nat) (r : Wd) : renL ρ (wdc r) = wdc r := (PuL_wdc r).ren ρ
theorem fzL_wdc (σ : St) (zs : List Nat) (r : Wd) : fzL σ zs (wdc r) = wdc r := (PuL_wdc r).fz σ zs
theorem allCells_wdc (r : Wd) : allCells (wdc r) = true := by simp [allCells, wdc, AV.cell]
theorem aeqL_ints : ∀ {a b : List Int}, a.length = b.length → aeqL (a.map (.int .u64)) (b.map (.int .u64)) = some (decide (a = b))
  | [], [], _ => rfl
  | x :: a, y :: b, h => by
    have ih := aeqL_ints (a := a) (b := b) (by simpa using h)
    have e : (x == y) = decide (x = y) := by rw [Bool.eq_iff_iff]; simp
    simp only [List.map_cons, aeqL, aeq1, if_true] at ih ⊢
    rw [ih, e]
    simp [List.cons.injEq]
  | [], _ :: _, h | _ :: _, [], h => by simp at h
theorem aeqL_wdc (r s : Wd) : aeqL (wdc r) (wdc s) = some (decide (r = s)) := by
  rw [wdc, wdc, aeqL_ints (by rw [r.2, s.2])]
  congr 1
  rw [decide_eq_decide]
  exact Subtype.ext_iff.symm
theorem kinds_wdc (r : Wd) : (wdc r).map kindAV = List.replicate 4 1 := by
  rw [wdc, List.map_map, List.eq_replicate_iff]
  refine ⟨by rw [List.length_map, r.2], fun b hb => ?_⟩
  obtain ⟨c, hc, rfl⟩ := List.mem_map.1 hb
  rfl
theorem fits_wdc (r : Wd) : fitsK [(4, 1)] (wdc r) = true := fitsK_of (by rw [kinds_wdc]; rfl)
theorem cut_wdc (r : Wd) {j : Nat} (h : j < 4) : cut (wdc r) j 1 = [.int .u64 (r.1[j]'(by rw [r.2]; exact h))] := by
  unfold cut wdc
  rw [← List.map_drop, ← List.map_take, List.drop_eq_getElem_cons (by rw [r.2]; exact h)]
  rfl
def Wd.set (r : Wd) (j : Nat) (x : Int) : Wd := ⟨r.1.set j x, by rw [List.length_set, r.2]⟩
theorem spl_wdc (r : Wd) {j : Nat} (h : j < 4) (x : Int) : spl (wdc r) j [.int .u64 x] = wdc (r.set j x) := by
  have h2 : j < r.1.length := by rw [r.2]; exact h
  unfold spl wdc Wd.set
  simp only
  rw [← List.map_take, List.length_singleton, ← List.map_drop, List.set_eq_take_append_cons_drop, if_pos h2]
  simp
theorem cutd_wdc (r : Wd) {j : Nat} (h : j < 4) : cut (wdc r) j 1 = [.int .u64 (r.1.getD j 0)] := by
  rw [cut_wdc r h, List.getD_eq_getElem?_getD, List.getElem?_eq_getElem (by rw [r.2]; exact h)]; rfl
def wd0 : Wd := ⟨List.replicate 4 0, rfl⟩
instance : Inhabited Wd := ⟨wd0⟩
end Go.FH

namespace Go.FH
set_option linter.unusedVariables false
set_option linter.unusedSimpArgs false
open Go Go.RowKit

/-- ep, rt -/
structure Cp where
  ep : Int
  rt : Rt
  deriving Inhabited, DecidableEq
def cpC (x : Cp) : List AV := .int .u64 x.ep :: (rtc x.rt)
@[simp] theorem length_cpC (x : Cp) : (cpC x).length = 33 := by simp only [cpC, List.length_cons, List.length_append, List.length_nil, length_rtc]
theorem cpC_fold (ep : Int) (rt : Rt) : .int .u64 ep :: (rtc rt) = cpC ⟨ep, rt⟩ := rfl
theorem cpC_full (x : Cp) : cut (cpC x) 0 33 = cpC x := cut_full (length_cpC x)
theorem cpC_cut_ep (x : Cp) : cut (cpC x) 0 1 = [.int .u64 x.ep] := by unfold cpC; all_goals rfl
theorem cpC_spl_ep (x : Cp) (v : Int) : spl (cpC x) 0 [.int .u64 v] = cpC { x with ep := v } := by unfold cpC; all_goals rfl
theorem cpC_cut_rt (x : Cp) (o n : Nat) (h1 : 1 ≤ o) (h2 : o + n ≤ 33) : cut (cpC x) o n = cut (rtc x.rt) (o - 1) n := by unfold cpC; rw [cut_s _ _ _ _ (by omega)]; all_goals rfl
theorem cpC_spl_rt (x : Cp) (o : Nat) (vs : List AV) (h1 : 1 ≤ o) (h2 : o + vs.length ≤ 33) : spl (cpC x) o vs = .int .u64 x.ep :: (spl (rtc x.rt) (o - 1) vs) := by unfold cpC; rw [spl_s _ _ _ _ (by omega)]; all_goals rfl
theorem allCells_cpC (x : Cp) : allCells (cpC x) = true := by simp [cpC, allCells_cons, allCells_app, allCells_nil, AV.cell, allCells_rtc]
theorem PuL_cpC (x : Cp) : PuL (cpC x) := by simp [cpC, PuL_app, PuL, Pu, PuL_rtc]
theorem renL_cpC (ρ : Nat → Nat) (x : Cp) : renL ρ (cpC x) = cpC x := (PuL_cpC x).ren ρ
theorem fzL_cpC (σ : St) (zs : List Nat) (x : Cp) : fzL σ zs (cpC x) = cpC x := (PuL_cpC x).fz σ zs
theorem kinds_cpC (x : Cp) : (cpC x).map kindAV = expandK [(33, 1)] := by simp only [cpC, List.map_cons, List.map_append, List.map_nil, kindAV, kinds_rtc]; decide +kernel
theorem fits_cpC (x : Cp) : fitsK [(33, 1)] (cpC x) = true := fitsK_of (kinds_cpC x)
theorem aeqL_cpC (x y : Cp) : aeqL (cpC x) (cpC y) = some (decide (x = y)) := by cases x; cases y; simp [cpC, aeqL_app, aeqL, aeq1, length_rtc, length_wdc, aeqL_rtc, Bool.beq_eq_decide_eq, int_beq, Bool.and_assoc, Bool.decide_and]
def cp0 : Cp := ⟨0, rt0⟩
/-- j, f -/
structure Pul where
  j : Cp
  f : Cp
  deriving Inhabited, DecidableEq
def pulC (x : Pul) : List AV := cpC x.j ++ (cpC x.f)
@[simp] theorem length_pulC (x : Pul) : (pulC x).length = 66 := by simp only [pulC, List.length_cons, List.length_append, List.length_nil, length_cpC]
theorem pulC_fold (j : Cp) (f : Cp) : cpC j ++ (cpC f) = pulC ⟨j, f⟩ := rfl
theorem pulC_full (x : Pul) : cut (pulC x) 0 66 = pulC x := cut_full (length_pulC x)
theorem pulC_cut_j (x : Pul) (o n : Nat) (h1 : 0 ≤ o) (h2 : o + n ≤ 33) : cut (pulC x) o n = cut (cpC x.j) (o - 0) n := by unfold pulC; rw [cut_l _ _ _ _ (by rw [length_cpC]; omega)]; all_goals rfl
theorem pulC_spl_j (x : Pul) (o : Nat) (vs : List AV) (h1 : 0 ≤ o) (h2 : o + vs.length ≤ 33) : spl (pulC x) o vs = spl (cpC x.j) (o - 0) vs ++ (cpC x.f) := by unfold pulC; rw [spl_l _ _ _ _ (by rw [length_cpC]; omega)]; all_goals rfl
theorem pulC_cut_f (x : Pul) (o n : Nat) (h1 : 33 ≤ o) (h2 : o + n ≤ 66) : cut (pulC x) o n = cut (cpC x.f) (o - 33) n := by unfold pulC; rw [cut_r _ _ _ _ (by rw [length_cpC]; omega), length_cpC]; all_goals rfl
theorem pulC_spl_f (x : Pul) (o : Nat) (vs : List AV) (h1 : 33 ≤ o) (h2 : o + vs.length ≤ 66) : spl (pulC x) o vs = cpC x.j ++ (spl (cpC x.f) (o - 33) vs) := by unfold pulC; rw [spl_r _ _ _ _ (by rw [length_cpC]; omega), length_cpC]; all_goals rfl
theorem allCells_pulC (x : Pul) : allCells (pulC x) = true := by simp [pulC, allCells_cons, allCells_app, allCells_nil, AV.cell, allCells_cpC]
theorem PuL_pulC (x : Pul) : PuL (pulC x) := by simp [pulC, PuL_app, PuL, Pu, PuL_cpC]
theorem renL_pulC (ρ : Nat → Nat) (x : Pul) : renL ρ (pulC x) = pulC x := (PuL_pulC x).ren ρ
theorem fzL_pulC (σ : St) (zs : List Nat) (x : Pul) : fzL σ zs (pulC x) = pulC x := (PuL_pulC x).fz σ zs
theorem kinds_pulC (x : Pul) : (pulC x).map kindAV = expandK [(66, 1)] := by simp only [pulC, List.map_cons, List.map_append, List.map_nil, kindAV, kinds_cpC]; decide +kernel
theorem fits_pulC (x : Pul) : fitsK [(66, 1)] (pulC x) = true := fitsK_of (kinds_pulC x)
theorem aeqL_pulC (x y : Pul) : aeqL (pulC x) (pulC y) = some (decide (x = y)) := by cases x; cases y; simp [pulC, aeqL_app, aeqL, aeq1, length_rtc, length_wdc, aeqL_cpC, Bool.beq_eq_decide_eq, int_beq, Bool.and_assoc, Bool.decide_and]
def pul0 : Pul := ⟨cp0, cp0⟩
/-- pul, slot, root, parent, payload, diff, pdiff, just, fin, timely -/
structure Blk where
  pul : Pul
  slot : Int
  root : Rt
  parent : Rt
  payload : Rt
  diff : Wd
  pdiff : Wd
  just : Cp
  fin : Cp
  timely : Bool
  deriving Inhabited, DecidableEq
def blkC (x : Blk) : List AV := pulC x.pul ++ (.int .u64 x.slot :: (rtc x.root ++ (rtc x.parent ++ (rtc x.payload ++ (wdc x.diff ++ (wdc x.pdiff ++ (cpC x.just ++ (cpC x.fin ++ [.bool x.timely]))))))))
@[simp] theorem length_blkC (x : Blk) : (blkC x).length = 238 := by simp only [blkC, List.length_cons, List.length_append, List.length_nil, length_cpC, length_pulC, length_rtc, length_wdc]
theorem blkC_fold (pul : Pul) (slot : Int) (root : Rt) (parent : Rt) (payload : Rt) (diff : Wd) (pdiff : Wd) (just : Cp) (fin : Cp) (timely : Bool) : pulC pul ++ (.int .u64 slot :: (rtc root ++ (rtc parent ++ (rtc payload ++ (wdc diff ++ (wdc pdiff ++ (cpC just ++ (cpC fin ++ [.bool timely])))))))) = blkC ⟨pul, slot, root, parent, payload, diff, pdiff, just, fin, timely⟩ := rfl
theorem blkC_full (x : Blk) : cut (blkC x) 0 238 = blkC x := cut_full (length_blkC x)
theorem blkC_cut_pul (x : Blk) (o n : Nat) (h1 : 0 ≤ o) (h2 : o + n ≤ 66) : cut (blkC x) o n = cut (pulC x.pul) (o - 0) n := by unfold blkC; rw [cut_l _ _ _ _ (by rw [length_pulC]; omega)]; all_goals rfl
theorem blkC_spl_pul (x : Blk) (o : Nat) (vs : List AV) (h1 : 0 ≤ o) (h2 : o + vs.length ≤ 66) : spl (blkC x) o vs = spl (pulC x.pul) (o - 0) vs ++ (.int .u64 x.slot :: (rtc x.root ++ (rtc x.parent ++ (rtc x.payload ++ (wdc x.diff ++ (wdc x.pdiff ++ (cpC x.just ++ (cpC x.fin ++ [.bool x.timely])))))))) := by unfold blkC; rw [spl_l _ _ _ _ (by rw [length_pulC]; omega)]; all_goals rfl
theorem blkC_cut_slot (x : Blk) : cut (blkC x) 66 1 = [.int .u64 x.slot] := by unfold blkC; rw [cut_r _ _ _ _ (by rw [length_pulC]; omega), length_pulC]; simp only [Nat.reduceSub]; all_goals rfl
theorem blkC_spl_slot (x : Blk) (v : Int) : spl (blkC x) 66 [.int .u64 v] = blkC { x with slot := v } := by unfold blkC; rw [spl_r _ _ _ _ (by rw [length_pulC]; omega), length_pulC]; simp only [Nat.reduceSub]; all_goals rfl
theorem blkC_cut_root (x : Blk) (o n : Nat) (h1 : 67 ≤ o) (h2 : o + n ≤ 99) : cut (blkC x) o n = cut (rtc x.root) (o - 67) n := by unfold blkC; rw [cut_r _ _ _ _ (by rw [length_pulC]; omega), length_pulC]; rw [cut_s _ _ _ _ (by omega)]; rw [cut_l _ _ _ _ (by rw [length_rtc]; omega)]; rw [show o - 66 - 1 = o - 67 by omega]
theorem blkC_spl_root (x : Blk) (o : Nat) (vs : List AV) (h1 : 67 ≤ o) (h2 : o + vs.length ≤ 99) : spl (blkC x) o vs = pulC x.pul ++ (.int .u64 x.slot :: (spl (rtc x.root) (o - 67) vs ++ (rtc x.parent ++ (rtc x.payload ++ (wdc x.diff ++ (wdc x.pdiff ++ (cpC x.just ++ (cpC x.fin ++ [.bool x.timely])))))))) := by unfold blkC; rw [spl_r _ _ _ _ (by rw [length_pulC]; omega), length_pulC]; rw [spl_s _ _ _ _ (by omega)]; rw [spl_l _ _ _ _ (by rw [length_rtc]; omega)]; rw [show o - 66 - 1 = o - 67 by omega]
theorem blkC_cut_parent (x : Blk) (o n : Nat) (h1 : 99 ≤ o) (h2 : o + n ≤ 131) : cut (blkC x) o n = cut (rtc x.parent) (o - 99) n := by unfold blkC; rw [cut_r _ _ _ _ (by rw [length_pulC]; omega), length_pulC]; rw [cut_s _ _ _ _ (by omega)]; rw [cut_r _ _ _ _ (by rw [length_rtc]; omega), length_rtc]; rw [cut_l _ _ _ _ (by rw [length_rtc]; omega)]; rw [show o - 66 - 1 - 32 = o - 99 by omega]
theorem blkC_spl_parent (x : Blk) (o : Nat) (vs : List AV) (h1 : 99 ≤ o) (h2 : o + vs.length ≤ 131) : spl (blkC x) o vs = pulC x.pul ++ (.int .u64 x.slot :: (rtc x.root ++ (spl (rtc x.parent) (o - 99) vs ++ (rtc x.payload ++ (wdc x.diff ++ (wdc x.pdiff ++ (cpC x.just ++ (cpC x.fin ++ [.bool x.timely])))))))) := by unfold blkC; rw [spl_r _ _ _ _ (by rw [length_pulC]; omega), length_pulC]; rw [spl_s _ _ _ _ (by omega)]; rw [spl_r _ _ _ _ (by rw [length_rtc]; omega), length_rtc]; rw [spl_l _ _ _ _ (by rw [length_rtc]; omega)]; rw [show o - 66 - 1 - 32 = o - 99 by omega]
theorem blkC_cut_payload (x : Blk) (o n : Nat) (h1 : 131 ≤ o) (h2 : o + n ≤ 163) : cut (blkC x) o n = cut (rtc x.payload) (o - 131) n := by unfold blkC; rw [cut_r _ _ _ _ (by rw [length_pulC]; omega), length_pulC]; rw [cut_s _ _ _ _ (by omega)]; rw [cut_r _ _ _ _ (by rw [length_rtc]; omega), length_rtc]; rw [cut_r _ _ _ _ (by rw [length_rtc]; omega), length_rtc]; rw [cut_l _ _ _ _ (by rw [length_rtc]; omega)]; rw [show o - 66 - 1 - 32 - 32 = o - 131 by omega]
theorem blkC_spl_payload (x : Blk) (o : Nat) (vs : List AV) (h1 : 131 ≤ o) (h2 : o + vs.length ≤ 163) : spl (blkC x) o vs = pulC x.pul ++ (.int .u64 x.slot :: (rtc x.root ++ (rtc x.parent ++ (spl (rtc x.payload) (o - 131) vs ++ (wdc x.diff ++ (wdc x.pdiff ++ (cpC x.just ++ (cpC x.fin ++ [.bool x.timely])))))))) := by unfold blkC; rw [spl_r _ _ _ _ (by rw [length_pulC]; omega), length_pulC]; rw [spl_s _ _ _ _ (by omega)]; rw [spl_r _ _ _ _ (by rw [length_rtc]; omega), length_rtc]; rw [spl_r _ _ _ _ (by rw [length_rtc]; omega), length_rtc]; rw [spl_l _ _ _ _ (by rw [length_rtc]; omega)]; rw [show o - 66 - 1 - 32 - 32 = o - 131 by omega]
theorem blkC_cut_diff (x : Blk) (o n : Nat) (h1 : 163 ≤ o) (h2 : o + n ≤ 167) : cut (blkC x) o n = cut (wdc x.diff) (o - 163) n := by unfold blkC; rw [cut_r _ _ _ _ (by rw [length_pulC]; omega), length_pulC]; rw [cut_s _ _ _ _ (by omega)]; rw [cut_r _ _ _ _ (by rw [length_rtc]; omega), length_rtc]; rw [cut_r _ _ _ _ (by rw [length_rtc]; omega), length_rtc]; rw [cut_r _ _ _ _ (by rw [length_rtc]; omega), length_rtc]; rw [cut_l _ _ _ _ (by rw [length_wdc]; omega)]; rw [show o - 66 - 1 - 32 - 32 - 32 = o - 163 by omega]
theorem blkC_spl_diff (x : Blk) (o : Nat) (vs : List AV) (h1 : 163 ≤ o) (h2 : o + vs.length ≤ 167) : spl (blkC x) o vs = pulC x.pul ++ (.int .u64 x.slot :: (rtc x.root ++ (rtc x.parent ++ (rtc x.payload ++ (spl (wdc x.diff) (o - 163) vs ++ (wdc x.pdiff ++ (cpC x.just ++ (cpC x.fin ++ [.bool x.timely])))))))) := by unfold blkC; rw [spl_r _ _ _ _ (by rw [length_pulC]; omega), length_pulC]; rw [spl_s _ _ _ _ (by omega)]; rw [spl_r _ _ _ _ (by rw [length_rtc]; omega), length_rtc]; rw [spl_r _ _ _ _ (by rw [length_rtc]; omega), length_rtc]; rw [spl_r _ _ _ _ (by rw [length_rtc]; omega), length_rtc]; rw [spl_l _ _ _ _ (by rw [length_wdc]; omega)]; rw [show o - 66 - 1 - 32 - 32 - 32 = o - 163 by omega]
theorem blkC_cut_pdiff (x : Blk) (o n : Nat) (h1 : 167 ≤ o) (h2 : o + n ≤ 171) : cut (blkC x) o n = cut (wdc x.pdiff) (o - 167) n := by unfold blkC; rw [cut_r _ _ _ _ (by rw [length_pulC]; omega), length_pulC]; rw [cut_s _ _ _ _ (by omega)]; rw [cut_r _ _ _ _ (by rw [length_rtc]; omega), length_rtc]; rw [cut_r _ _ _ _ (by rw [length_rtc]; omega), length_rtc]; rw [cut_r _ _ _ _ (by rw [length_rtc]; omega), length_rtc]; rw [cut_r _ _ _ _ (by rw [length_wdc]; omega), length_wdc]; rw [cut_l _ _ _ _ (by rw [length_wdc]; omega)]; rw [show o - 66 - 1 - 32 - 32 - 32 - 4 = o - 167 by omega]
theorem blkC_spl_pdiff (x : Blk) (o : Nat) (vs : List AV) (h1 : 167 ≤ o) (h2 : o + vs.length ≤ 171) : spl (blkC x) o vs = pulC x.pul ++ (.int .u64 x.slot :: (rtc x.root ++ (rtc x.parent ++ (rtc x.payload ++ (wdc x.diff ++ (spl (wdc x.pdiff) (o - 167) vs ++ (cpC x.just ++ (cpC x.fin ++ [.bool x.timely])))))))) := by unfold blkC; rw [spl_r _ _ _ _ (by rw [length_pulC]; omega), length_pulC]; rw [spl_s _ _ _ _ (by omega)]; rw [spl_r _ _ _ _ (by rw [length_rtc]; omega), length_rtc]; rw [spl_r _ _ _ _ (by rw [length_rtc]; omega), length_rtc]; rw [spl_r _ _ _ _ (by rw [length_rtc]; omega), length_rtc]; rw [spl_r _ _ _ _ (by rw [length_wdc]; omega), length_wdc]; rw [spl_l _ _ _ _ (by rw [length_wdc]; omega)]; rw [show o - 66 - 1 - 32 - 32 - 32 - 4 = o - 167 by omega]
theorem blkC_cut_just (x : Blk) (o n : Nat) (h1 : 171 ≤ o) (h2 : o + n ≤ 204) : cut (blkC x) o n = cut (cpC x.just) (o - 171) n := by unfold blkC; rw [cut_r _ _ _ _ (by rw [length_pulC]; omega), length_pulC]; rw [cut_s _ _ _ _ (by omega)]; rw [cut_r _ _ _ _ (by rw [length_rtc]; omega), length_rtc]; rw [cut_r _ _ _ _ (by rw [length_rtc]; omega), length_rtc]; rw [cut_r _ _ _ _ (by rw [length_rtc]; omega), length_rtc]; rw [cut_r _ _ _ _ (by rw [length_wdc]; omega), length_wdc]; rw [cut_r _ _ _ _ (by rw [length_wdc]; omega), length_wdc]; rw [cut_l _ _ _ _ (by rw [length_cpC]; omega)]; rw [show o - 66 - 1 - 32 - 32 - 32 - 4 - 4 = o - 171 by omega]
theorem blkC_spl_just (x : Blk) (o : Nat) (vs : List AV) (h1 : 171 ≤ o) (h2 : o + vs.length ≤ 204) : spl (blkC x) o vs = pulC x.pul ++ (.int .u64 x.slot :: (rtc x.root ++ (rtc x.parent ++ (rtc x.payload ++ (wdc x.diff ++ (wdc x.pdiff ++ (spl (cpC x.just) (o - 171) vs ++ (cpC x.fin ++ [.bool x.timely])))))))) := by unfold blkC; rw [spl_r _ _ _ _ (by rw [length_pulC]; omega), length_pulC]; rw [spl_s _ _ _ _ (by omega)]; rw [spl_r _ _ _ _ (by rw [length_rtc]; omega), length_rtc]; rw [spl_r _ _ _ _ (by rw [length_rtc]; omega), length_rtc]; rw [spl_r _ _ _ _ (by rw [length_rtc]; omega), length_rtc]; rw [spl_r _ _ _ _ (by rw [length_wdc]; omega), length_wdc]; rw [spl_r _ _ _ _ (by rw [length_wdc]; omega), length_wdc]; rw [spl_l _ _ _ _ (by rw [length_cpC]; omega)]; rw [show o - 66 - 1 - 32 - 32 - 32 - 4 - 4 = o - 171 by omega]
theorem blkC_cut_fin (x : Blk) (o n : Nat) (h1 : 204 ≤ o) (h2 : o + n ≤ 237) : cut (blkC x) o n = cut (cpC x.fin) (o - 204) n := by unfold blkC; rw [cut_r _ _ _ _ (by rw [length_pulC]; omega), length_pulC]; rw [cut_s _ _ _ _ (by omega)]; rw [cut_r _ _ _ _ (by rw [length_rtc]; omega), length_rtc]; rw [cut_r _ _ _ _ (by rw [length_rtc]; omega), length_rtc]; rw [cut_r _ _ _ _ (by rw [length_rtc]; omega), length_rtc]; rw [cut_r _ _ _ _ (by rw [length_wdc]; omega), length_wdc]; rw [cut_r _ _ _ _ (by rw [length_wdc]; omega), length_wdc]; rw [cut_r _ _ _ _ (by rw [length_cpC]; omega), length_cpC]; rw [cut_l _ _ _ _ (by rw [length_cpC]; omega)]; rw [show o - 66 - 1 - 32 - 32 - 32 - 4 - 4 - 33 = o - 204 by omega]
theorem blkC_spl_fin (x : Blk) (o : Nat) (vs : List AV) (h1 : 204 ≤ o) (h2 : o + vs.length ≤ 237) : spl (blkC x) o vs = pulC x.pul ++ (.int .u64 x.slot :: (rtc x.root ++ (rtc x.parent ++ (rtc x.payload ++ (wdc x.diff ++ (wdc x.pdiff ++ (cpC x.just ++ (spl (cpC x.fin) (o - 204) vs ++ [.bool x.timely])))))))) := by unfold blkC; rw [spl_r _ _ _ _ (by rw [length_pulC]; omega), length_pulC]; rw [spl_s _ _ _ _ (by omega)]; rw [spl_r _ _ _ _ (by rw [length_rtc]; omega), length_rtc]; rw [spl_r _ _ _ _ (by rw [length_rtc]; omega), length_rtc]; rw [spl_r _ _ _ _ (by rw [length_rtc]; omega), length_rtc]; rw [spl_r _ _ _ _ (by rw [length_wdc]; omega), length_wdc]; rw [spl_r _ _ _ _ (by rw [length_wdc]; omega), length_wdc]; rw [spl_r _ _ _ _ (by rw [length_cpC]; omega), length_cpC]; rw [spl_l _ _ _ _ (by rw [length_cpC]; omega)]; rw [show o - 66 - 1 - 32 - 32 - 32 - 4 - 4 - 33 = o - 204 by omega]
theorem blkC_cut_timely (x : Blk) : cut (blkC x) 237 1 = [.bool x.timely] := by unfold blkC; rw [cut_r _ _ _ _ (by rw [length_pulC]; omega), length_pulC]; rw [cut_s _ _ _ _ (by omega)]; rw [cut_r _ _ _ _ (by rw [length_rtc]; omega), length_rtc]; rw [cut_r _ _ _ _ (by rw [length_rtc]; omega), length_rtc]; rw [cut_r _ _ _ _ (by rw [length_rtc]; omega), length_rtc]; rw [cut_r _ _ _ _ (by rw [length_wdc]; omega), length_wdc]; rw [cut_r _ _ _ _ (by rw [length_wdc]; omega), length_wdc]; rw [cut_r _ _ _ _ (by rw [length_cpC]; omega), length_cpC]; rw [cut_r _ _ _ _ (by rw [length_cpC]; omega), length_cpC]; simp only [Nat.reduceSub]; all_goals rfl
theorem blkC_spl_timely (x : Blk) (v : Bool) : spl (blkC x) 237 [.bool v] = blkC { x with timely := v } := by unfold blkC; rw [spl_r _ _ _ _ (by rw [length_pulC]; omega), length_pulC]; rw [spl_s _ _ _ _ (by omega)]; rw [spl_r _ _ _ _ (by rw [length_rtc]; omega), length_rtc]; rw [spl_r _ _ _ _ (by rw [length_rtc]; omega), length_rtc]; rw [spl_r _ _ _ _ (by rw [length_rtc]; omega), length_rtc]; rw [spl_r _ _ _ _ (by rw [length_wdc]; omega), length_wdc]; rw [spl_r _ _ _ _ (by rw [length_wdc]; omega), length_wdc]; rw [spl_r _ _ _ _ (by rw [length_cpC]; omega), length_cpC]; rw [spl_r _ _ _ _ (by rw [length_cpC]; omega), length_cpC]; simp only [Nat.reduceSub]; all_goals rfl
theorem allCells_blkC (x : Blk) : allCells (blkC x) = true := by simp [blkC, allCells_cons, allCells_app, allCells_nil, AV.cell, allCells_cpC, allCells_pulC, allCells_rtc, allCells_wdc]
theorem PuL_blkC (x : Blk) : PuL (blkC x) := by simp [blkC, PuL_app, PuL, Pu, PuL_cpC, PuL_pulC, PuL_rtc, PuL_wdc]
theorem renL_blkC (ρ : Nat → Nat) (x : Blk) : renL ρ (blkC x) = blkC x := (PuL_blkC x).ren ρ
theorem fzL_blkC (σ : St) (zs : List Nat) (x : Blk) : fzL σ zs (blkC x) = blkC x := (PuL_blkC x).fz σ zs
theorem kinds_blkC (x : Blk) : (blkC x).map kindAV = expandK [(237, 1), (1, 0)] := by simp only [blkC, List.map_cons, List.map_append, List.map_nil, kindAV, kinds_cpC, kinds_pulC, kinds_rtc, kinds_wdc]; decide +kernel
theorem fits_blkC (x : Blk) : fitsK [(237, 1), (1, 0)] (blkC x) = true := fitsK_of (kinds_blkC x)
theorem aeqL_blkC (x y : Blk) : aeqL (blkC x) (blkC y) = some (decide (x = y)) := by cases x; cases y; simp [blkC, aeqL_app, aeqL, aeq1, length_rtc, length_wdc, aeqL_cpC, aeqL_pulC, aeqL_rtc, aeqL_wdc, Bool.beq_eq_decide_eq, int_beq, Bool.and_assoc, Bool.decide_and]
def blk0 : Blk := ⟨pul0, 0, rt0, rt0, rt0, wd0, wd0, cp0, cp0, false⟩
/-- slot, root, target, vals -/
structure Att where
  slot : Int
  root : Rt
  target : Cp
  vals : AV
  deriving Inhabited
def attC (x : Att) : List AV := .int .u64 x.slot :: (rtc x.root ++ (cpC x.target ++ [x.vals]))
@[simp] theorem length_attC (x : Att) : (attC x).length = 67 := by simp only [attC, List.length_cons, List.length_append, List.length_nil, length_cpC, length_rtc]
theorem attC_fold (slot : Int) (root : Rt) (target : Cp) (vals : AV) : .int .u64 slot :: (rtc root ++ (cpC target ++ [vals])) = attC ⟨slot, root, target, vals⟩ := rfl
theorem attC_full (x : Att) : cut (attC x) 0 67 = attC x := cut_full (length_attC x)
theorem attC_cut_slot (x : Att) : cut (attC x) 0 1 = [.int .u64 x.slot] := by unfold attC; all_goals rfl
theorem attC_spl_slot (x : Att) (v : Int) : spl (attC x) 0 [.int .u64 v] = attC { x with slot := v } := by unfold attC; all_goals rfl
theorem attC_cut_root (x : Att) (o n : Nat) (h1 : 1 ≤ o) (h2 : o + n ≤ 33) : cut (attC x) o n = cut (rtc x.root) (o - 1) n := by unfold attC; rw [cut_s _ _ _ _ (by omega)]; rw [cut_l _ _ _ _ (by rw [length_rtc]; omega)]; all_goals rfl
theorem attC_spl_root (x : Att) (o : Nat) (vs : List AV) (h1 : 1 ≤ o) (h2 : o + vs.length ≤ 33) : spl (attC x) o vs = .int .u64 x.slot :: (spl (rtc x.root) (o - 1) vs ++ (cpC x.target ++ [x.vals])) := by unfold attC; rw [spl_s _ _ _ _ (by omega)]; rw [spl_l _ _ _ _ (by rw [length_rtc]; omega)]; all_goals rfl
theorem attC_cut_target (x : Att) (o n : Nat) (h1 : 33 ≤ o) (h2 : o + n ≤ 66) : cut (attC x) o n = cut (cpC x.target) (o - 33) n := by unfold attC; rw [cut_s _ _ _ _ (by omega)]; rw [cut_r _ _ _ _ (by rw [length_rtc]; omega), length_rtc]; rw [cut_l _ _ _ _ (by rw [length_cpC]; omega)]; rw [show o - 1 - 32 = o - 33 by omega]
theorem attC_spl_target (x : Att) (o : Nat) (vs : List AV) (h1 : 33 ≤ o) (h2 : o + vs.length ≤ 66) : spl (attC x) o vs = .int .u64 x.slot :: (rtc x.root ++ (spl (cpC x.target) (o - 33) vs ++ [x.vals])) := by unfold attC; rw [spl_s _ _ _ _ (by omega)]; rw [spl_r _ _ _ _ (by rw [length_rtc]; omega), length_rtc]; rw [spl_l _ _ _ _ (by rw [length_cpC]; omega)]; rw [show o - 1 - 32 = o - 33 by omega]
theorem attC_cut_vals (x : Att) : cut (attC x) 66 1 = [x.vals] := by unfold attC; rw [cut_s _ _ _ _ (by omega)]; rw [cut_r _ _ _ _ (by rw [length_rtc]; omega), length_rtc]; rw [cut_r _ _ _ _ (by rw [length_cpC]; omega), length_cpC]; simp only [Nat.reduceSub]; all_goals rfl
theorem attC_spl_vals (x : Att) (v : AV) : spl (attC x) 66 [v] = attC { x with vals := v } := by unfold attC; rw [spl_s _ _ _ _ (by omega)]; rw [spl_r _ _ _ _ (by rw [length_rtc]; omega), length_rtc]; rw [spl_r _ _ _ _ (by rw [length_cpC]; omega), length_cpC]; simp only [Nat.reduceSub]; all_goals rfl
def Att.map (g : AV → AV) (x : Att) : Att := { x with vals := g x.vals }
theorem Att.map_mk (g : AV → AV) (slot : Int) (root : Rt) (target : Cp) (vals : AV) : Att.map g ⟨slot, root, target, vals⟩ = ⟨slot, root, target, g vals⟩ := rfl
def Att.good (x : Att) : Bool := x.vals.cell
theorem Att.good_mk (slot : Int) (root : Rt) (target : Cp) (vals : AV) : Att.good ⟨slot, root, target, vals⟩ = (vals.cell) := rfl
def Att.Pure (x : Att) : Prop := Pu x.vals
theorem allCells_attC (x : Att) : allCells (attC x) = x.good := by simp [attC, Att.good, Bool.and_assoc, allCells_cons, allCells_app, allCells_nil, AV.cell, allCells_cpC, allCells_rtc]
theorem PuL_attC (x : Att) : PuL (attC x) ↔ x.Pure := by simp [attC, Att.Pure, PuL_app, PuL, Pu, PuL_cpC, PuL_rtc]
theorem renL_attC (ρ : Nat → Nat) (x : Att) : renL ρ (attC x) = attC (x.map (ren ρ)) := by simp only [attC, Att.map, renL_app, renL, ren, renL_cpC, renL_rtc]
theorem fzL_attC (σ : St) (zs : List Nat) (x : Att) : fzL σ zs (attC x) = attC (x.map (fz σ zs)) := by simp only [attC, Att.map, fzL_app, fzL, fz, fzL_cpC, fzL_rtc]
def att0 : Att := ⟨0, rt0, cp0, .sl 0 true []⟩
/-- src, tgt, root, vals -/
structure Clm where
  src : Int
  tgt : Int
  root : Rt
  vals : AV
  deriving Inhabited
def clmC (x : Clm) : List AV := .int .u64 x.src :: (.int .u64 x.tgt :: (rtc x.root ++ [x.vals]))
@[simp] theorem length_clmC (x : Clm) : (clmC x).length = 35 := by simp only [clmC, List.length_cons, List.length_append, List.length_nil, length_rtc]
theorem clmC_fold (src : Int) (tgt : Int) (root : Rt) (vals : AV) : .int .u64 src :: (.int .u64 tgt :: (rtc root ++ [vals])) = clmC ⟨src, tgt, root, vals⟩ := rfl
theorem clmC_full (x : Clm) : cut (clmC x) 0 35 = clmC x := cut_full (length_clmC x)
theorem clmC_cut_src (x : Clm) : cut (clmC x) 0 1 = [.int .u64 x.src] := by unfold clmC; all_goals rfl
theorem clmC_spl_src (x : Clm) (v : Int) : spl (clmC x) 0 [.int .u64 v] = clmC { x with src := v } := by unfold clmC; all_goals rfl
theorem clmC_cut_tgt (x : Clm) : cut (clmC x) 1 1 = [.int .u64 x.tgt] := by unfold clmC; rw [cut_s _ _ _ _ (by omega)]; simp only [Nat.reduceSub]; all_goals rfl
theorem clmC_spl_tgt (x : Clm) (v : Int) : spl (clmC x) 1 [.int .u64 v] = clmC { x with tgt := v } := by unfold clmC; rw [spl_s _ _ _ _ (by omega)]; simp only [Nat.reduceSub]; all_goals rfl
theorem clmC_cut_root (x : Clm) (o n : Nat) (h1 : 2 ≤ o) (h2 : o + n ≤ 34) : cut (clmC x) o n = cut (rtc x.root) (o - 2) n := by unfold clmC; rw [cut_s _ _ _ _ (by omega)]; rw [cut_s _ _ _ _ (by omega)]; rw [cut_l _ _ _ _ (by rw [length_rtc]; omega)]; rw [show o - 1 - 1 = o - 2 by omega]
theorem clmC_spl_root (x : Clm) (o : Nat) (vs : List AV) (h1 : 2 ≤ o) (h2 : o + vs.length ≤ 34) : spl (clmC x) o vs = .int .u64 x.src :: (.int .u64 x.tgt :: (spl (rtc x.root) (o - 2) vs ++ [x.vals])) := by unfold clmC; rw [spl_s _ _ _ _ (by omega)]; rw [spl_s _ _ _ _ (by omega)]; rw [spl_l _ _ _ _ (by rw [length_rtc]; omega)]; rw [show o - 1 - 1 = o - 2 by omega]
theorem clmC_cut_vals (x : Clm) : cut (clmC x) 34 1 = [x.vals] := by unfold clmC; rw [cut_s _ _ _ _ (by omega)]; rw [cut_s _ _ _ _ (by omega)]; rw [cut_r _ _ _ _ (by rw [length_rtc]; omega), length_rtc]; simp only [Nat.reduceSub]; all_goals rfl
theorem clmC_spl_vals (x : Clm) (v : AV) : spl (clmC x) 34 [v] = clmC { x with vals := v } := by unfold clmC; rw [spl_s _ _ _ _ (by omega)]; rw [spl_s _ _ _ _ (by omega)]; rw [spl_r _ _ _ _ (by rw [length_rtc]; omega), length_rtc]; simp only [Nat.reduceSub]; all_goals rfl
def Clm.map (g : AV → AV) (x : Clm) : Clm := { x with vals := g x.vals }
theorem Clm.map_mk (g : AV → AV) (src : Int) (tgt : Int) (root : Rt) (vals : AV) : Clm.map g ⟨src, tgt, root, vals⟩ = ⟨src, tgt, root, g vals⟩ := rfl
def Clm.good (x : Clm) : Bool := x.vals.cell
theorem Clm.good_mk (src : Int) (tgt : Int) (root : Rt) (vals : AV) : Clm.good ⟨src, tgt, root, vals⟩ = (vals.cell) := rfl
def Clm.Pure (x : Clm) : Prop := Pu x.vals
theorem allCells_clmC (x : Clm) : allCells (clmC x) = x.good := by simp [clmC, Clm.good, Bool.and_assoc, allCells_cons, allCells_app, allCells_nil, AV.cell, allCells_rtc]
theorem PuL_clmC (x : Clm) : PuL (clmC x) ↔ x.Pure := by simp [clmC, Clm.Pure, PuL_app, PuL, Pu, PuL_rtc]
theorem renL_clmC (ρ : Nat → Nat) (x : Clm) : renL ρ (clmC x) = clmC (x.map (ren ρ)) := by simp only [clmC, Clm.map, renL_app, renL, ren, renL_rtc]
theorem fzL_clmC (σ : St) (zs : List Nat) (x : Clm) : fzL σ zs (clmC x) = clmC (x.map (fz σ zs)) := by simp only [clmC, Clm.map, fzL_app, fzL, fz, fzL_rtc]
def clm0 : Clm := ⟨0, 0, rt0, .sl 0 true []⟩
/-- fst, snd -/
structure Slg where
  fst : Clm
  snd : Clm
  deriving Inhabited
def slgC (x : Slg) : List AV := clmC x.fst ++ (clmC x.snd)
@[simp] theorem length_slgC (x : Slg) : (slgC x).length = 70 := by simp only [slgC, List.length_cons, List.length_append, List.length_nil, length_clmC]
theorem slgC_fold (fst : Clm) (snd : Clm) : clmC fst ++ (clmC snd) = slgC ⟨fst, snd⟩ := rfl
theorem slgC_full (x : Slg) : cut (slgC x) 0 70 = slgC x := cut_full (length_slgC x)
theorem slgC_cut_fst (x : Slg) (o n : Nat) (h1 : 0 ≤ o) (h2 : o + n ≤ 35) : cut (slgC x) o n = cut (clmC x.fst) (o - 0) n := by unfold slgC; rw [cut_l _ _ _ _ (by rw [length_clmC]; omega)]; all_goals rfl
theorem slgC_spl_fst (x : Slg) (o : Nat) (vs : List AV) (h1 : 0 ≤ o) (h2 : o + vs.length ≤ 35) : spl (slgC x) o vs = spl (clmC x.fst) (o - 0) vs ++ (clmC x.snd) := by unfold slgC; rw [spl_l _ _ _ _ (by rw [length_clmC]; omega)]; all_goals rfl
theorem slgC_cut_snd (x : Slg) (o n : Nat) (h1 : 35 ≤ o) (h2 : o + n ≤ 70) : cut (slgC x) o n = cut (clmC x.snd) (o - 35) n := by unfold slgC; rw [cut_r _ _ _ _ (by rw [length_clmC]; omega), length_clmC]; all_goals rfl
theorem slgC_spl_snd (x : Slg) (o : Nat) (vs : List AV) (h1 : 35 ≤ o) (h2 : o + vs.length ≤ 70) : spl (slgC x) o vs = clmC x.fst ++ (spl (clmC x.snd) (o - 35) vs) := by unfold slgC; rw [spl_r _ _ _ _ (by rw [length_clmC]; omega), length_clmC]; all_goals rfl
def Slg.map (g : AV → AV) (x : Slg) : Slg := { x with fst := x.fst.map g, snd := x.snd.map g }
theorem Slg.map_mk (g : AV → AV) (fst : Clm) (snd : Clm) : Slg.map g ⟨fst, snd⟩ = ⟨fst.map g, snd.map g⟩ := rfl
def Slg.good (x : Slg) : Bool := x.fst.good && x.snd.good
theorem Slg.good_mk (fst : Clm) (snd : Clm) : Slg.good ⟨fst, snd⟩ = (fst.good && snd.good) := rfl
def Slg.Pure (x : Slg) : Prop := x.fst.Pure ∧ x.snd.Pure
theorem allCells_slgC (x : Slg) : allCells (slgC x) = x.good := by simp [slgC, Slg.good, Bool.and_assoc, allCells_cons, allCells_app, allCells_nil, AV.cell, allCells_clmC]
theorem PuL_slgC (x : Slg) : PuL (slgC x) ↔ x.Pure := by simp [slgC, Slg.Pure, PuL_app, PuL, Pu, PuL_clmC]
theorem renL_slgC (ρ : Nat → Nat) (x : Slg) : renL ρ (slgC x) = slgC (x.map (ren ρ)) := by simp only [slgC, Slg.map, renL_app, renL, ren, renL_clmC]
theorem fzL_slgC (σ : St) (zs : List Nat) (x : Slg) : fzL σ zs (slgC x) = slgC (x.map (fz σ zs)) := by simp only [slgC, Slg.map, fzL_app, fzL, fz, fzL_clmC]
def slg0 : Slg := ⟨clm0, clm0⟩
/-- cp, bals -/
structure Tab where
  cp : Cp
  bals : AV
  deriving Inhabited
def tabC (x : Tab) : List AV := cpC x.cp ++ [x.bals]
@[simp] theorem length_tabC (x : Tab) : (tabC x).length = 34 := by simp only [tabC, List.length_cons, List.length_append, List.length_nil, length_cpC]
theorem tabC_fold (cp : Cp) (bals : AV) : cpC cp ++ [bals] = tabC ⟨cp, bals⟩ := rfl
theorem tabC_full (x : Tab) : cut (tabC x) 0 34 = tabC x := cut_full (length_tabC x)
theorem tabC_cut_cp (x : Tab) (o n : Nat) (h1 : 0 ≤ o) (h2 : o + n ≤ 33) : cut (tabC x) o n = cut (cpC x.cp) (o - 0) n := by unfold tabC; rw [cut_l _ _ _ _ (by rw [length_cpC]; omega)]; all_goals rfl
theorem tabC_spl_cp (x : Tab) (o : Nat) (vs : List AV) (h1 : 0 ≤ o) (h2 : o + vs.length ≤ 33) : spl (tabC x) o vs = spl (cpC x.cp) (o - 0) vs ++ [x.bals] := by unfold tabC; rw [spl_l _ _ _ _ (by rw [length_cpC]; omega)]; all_goals rfl
theorem tabC_cut_bals (x : Tab) : cut (tabC x) 33 1 = [x.bals] := by unfold tabC; rw [cut_r _ _ _ _ (by rw [length_cpC]; omega), length_cpC]; simp only [Nat.reduceSub]; all_goals rfl
theorem tabC_spl_bals (x : Tab) (v : AV) : spl (tabC x) 33 [v] = tabC { x with bals := v } := by unfold tabC; rw [spl_r _ _ _ _ (by rw [length_cpC]; omega), length_cpC]; simp only [Nat.reduceSub]; all_goals rfl
def Tab.map (g : AV → AV) (x : Tab) : Tab := { x with bals := g x.bals }
theorem Tab.map_mk (g : AV → AV) (cp : Cp) (bals : AV) : Tab.map g ⟨cp, bals⟩ = ⟨cp, g bals⟩ := rfl
def Tab.good (x : Tab) : Bool := x.bals.cell
theorem Tab.good_mk (cp : Cp) (bals : AV) : Tab.good ⟨cp, bals⟩ = (bals.cell) := rfl
def Tab.Pure (x : Tab) : Prop := Pu x.bals
theorem allCells_tabC (x : Tab) : allCells (tabC x) = x.good := by simp [tabC, Tab.good, Bool.and_assoc, allCells_cons, allCells_app, allCells_nil, AV.cell, allCells_cpC]
theorem PuL_tabC (x : Tab) : PuL (tabC x) ↔ x.Pure := by simp [tabC, Tab.Pure, PuL_app, PuL, Pu, PuL_cpC]
theorem renL_tabC (ρ : Nat → Nat) (x : Tab) : renL ρ (tabC x) = tabC (x.map (ren ρ)) := by simp only [tabC, Tab.map, renL_app, renL, ren, renL_cpC]
theorem fzL_tabC (σ : St) (zs : List Nat) (x : Tab) : fzL σ zs (tabC x) = tabC (x.map (fz σ zs)) := by simp only [tabC, Tab.map, fzL_app, fzL, fz, fzL_cpC]
def tab0 : Tab := ⟨cp0, .sl 0 true []⟩
/-- tag, kind, latest -/
structure Vdt where
  tag : Int
  kind : Int
  latest : Rt
  deriving Inhabited, DecidableEq
def vdtC (x : Vdt) : List AV := .int .u64 x.tag :: (.int .i64 x.kind :: (rtc x.latest))
@[simp] theorem length_vdtC (x : Vdt) : (vdtC x).length = 34 := by simp only [vdtC, List.length_cons, List.length_append, List.length_nil, length_rtc]
theorem vdtC_fold (tag : Int) (kind : Int) (latest : Rt) : .int .u64 tag :: (.int .i64 kind :: (rtc latest)) = vdtC ⟨tag, kind, latest⟩ := rfl
theorem vdtC_full (x : Vdt) : cut (vdtC x) 0 34 = vdtC x := cut_full (length_vdtC x)
theorem vdtC_cut_tag (x : Vdt) : cut (vdtC x) 0 1 = [.int .u64 x.tag] := by unfold vdtC; all_goals rfl
theorem vdtC_spl_tag (x : Vdt) (v : Int) : spl (vdtC x) 0 [.int .u64 v] = vdtC { x with tag := v } := by unfold vdtC; all_goals rfl
theorem vdtC_cut_kind (x : Vdt) : cut (vdtC x) 1 1 = [.int .i64 x.kind] := by unfold vdtC; rw [cut_s _ _ _ _ (by omega)]; simp only [Nat.reduceSub]; all_goals rfl
theorem vdtC_spl_kind (x : Vdt) (v : Int) : spl (vdtC x) 1 [.int .i64 v] = vdtC { x with kind := v } := by unfold vdtC; rw [spl_s _ _ _ _ (by omega)]; simp only [Nat.reduceSub]; all_goals rfl
theorem vdtC_cut_latest (x : Vdt) (o n : Nat) (h1 : 2 ≤ o) (h2 : o + n ≤ 34) : cut (vdtC x) o n = cut (rtc x.latest) (o - 2) n := by unfold vdtC; rw [cut_s _ _ _ _ (by omega)]; rw [cut_s _ _ _ _ (by omega)]; rw [show o - 1 - 1 = o - 2 by omega]
theorem vdtC_spl_latest (x : Vdt) (o : Nat) (vs : List AV) (h1 : 2 ≤ o) (h2 : o + vs.length ≤ 34) : spl (vdtC x) o vs = .int .u64 x.tag :: (.int .i64 x.kind :: (spl (rtc x.latest) (o - 2) vs)) := by unfold vdtC; rw [spl_s _ _ _ _ (by omega)]; rw [spl_s _ _ _ _ (by omega)]; rw [show o - 1 - 1 = o - 2 by omega]
theorem allCells_vdtC (x : Vdt) : allCells (vdtC x) = true := by simp [vdtC, allCells_cons, allCells_app, allCells_nil, AV.cell, allCells_rtc]
theorem PuL_vdtC (x : Vdt) : PuL (vdtC x) := by simp [vdtC, PuL_app, PuL, Pu, PuL_rtc]
theorem renL_vdtC (ρ : Nat → Nat) (x : Vdt) : renL ρ (vdtC x) = vdtC x := (PuL_vdtC x).ren ρ
theorem fzL_vdtC (σ : St) (zs : List Nat) (x : Vdt) : fzL σ zs (vdtC x) = vdtC x := (PuL_vdtC x).fz σ zs
theorem kinds_vdtC (x : Vdt) : (vdtC x).map kindAV = expandK [(34, 1)] := by simp only [vdtC, List.map_cons, List.map_append, List.map_nil, kindAV, kinds_rtc]; decide +kernel
theorem fits_vdtC (x : Vdt) : fitsK [(34, 1)] (vdtC x) = true := fitsK_of (kinds_vdtC x)
theorem aeqL_vdtC (x y : Vdt) : aeqL (vdtC x) (vdtC y) = some (decide (x = y)) := by cases x; cases y; simp [vdtC, aeqL_app, aeqL, aeq1, length_rtc, length_wdc, aeqL_rtc, Bool.beq_eq_decide_eq, int_beq, Bool.and_assoc, Bool.decide_and]
def vdt0 : Vdt := ⟨0, 0, rt0⟩
/-- kind, blk, att, slg, tab, vdt, write, keep -/
structure SOp where
  kind : Int
  blk : Blk
  att : Att
  slg : Slg
  tab : Tab
  vdt : Vdt
  write : Int
  keep : Int
  deriving Inhabited
def sOpC (x : SOp) : List AV := .int .i64 x.kind :: (blkC x.blk ++ (attC x.att ++ (slgC x.slg ++ (tabC x.tab ++ (vdtC x.vdt ++ (.int .i64 x.write :: [.int .i64 x.keep]))))))
@[simp] theorem length_sOpC (x : SOp) : (sOpC x).length = 446 := by simp only [sOpC, List.length_cons, List.length_append, List.length_nil, length_attC, length_blkC, length_slgC, length_tabC, length_vdtC]
theorem sOpC_fold (kind : Int) (blk : Blk) (att : Att) (slg : Slg) (tab : Tab) (vdt : Vdt) (write : Int) (keep : Int) : .int .i64 kind :: (blkC blk ++ (attC att ++ (slgC slg ++ (tabC tab ++ (vdtC vdt ++ (.int .i64 write :: [.int .i64 keep])))))) = sOpC ⟨kind, blk, att, slg, tab, vdt, write, keep⟩ := rfl
theorem sOpC_full (x : SOp) : cut (sOpC x) 0 446 = sOpC x := cut_full (length_sOpC x)
theorem sOpC_cut_kind (x : SOp) : cut (sOpC x) 0 1 = [.int .i64 x.kind] := by unfold sOpC; all_goals rfl
theorem sOpC_spl_kind (x : SOp) (v : Int) : spl (sOpC x) 0 [.int .i64 v] = sOpC { x with kind := v } := by unfold sOpC; all_goals rfl
theorem sOpC_cut_blk (x : SOp) (o n : Nat) (h1 : 1 ≤ o) (h2 : o + n ≤ 239) : cut (sOpC x) o n = cut (blkC x.blk) (o - 1) n := by unfold sOpC; rw [cut_s _ _ _ _ (by omega)]; rw [cut_l _ _ _ _ (by rw [length_blkC]; omega)]; all_goals rfl
theorem sOpC_spl_blk (x : SOp) (o : Nat) (vs : List AV) (h1 : 1 ≤ o) (h2 : o + vs.length ≤ 239) : spl (sOpC x) o vs = .int .i64 x.kind :: (spl (blkC x.blk) (o - 1) vs ++ (attC x.att ++ (slgC x.slg ++ (tabC x.tab ++ (vdtC x.vdt ++ (.int .i64 x.write :: [.int .i64 x.keep])))))) := by unfold sOpC; rw [spl_s _ _ _ _ (by omega)]; rw [spl_l _ _ _ _ (by rw [length_blkC]; omega)]; all_goals rfl
theorem sOpC_cut_att (x : SOp) (o n : Nat) (h1 : 239 ≤ o) (h2 : o + n ≤ 306) : cut (sOpC x) o n = cut (attC x.att) (o - 239) n := by unfold sOpC; rw [cut_s _ _ _ _ (by omega)]; rw [cut_r _ _ _ _ (by rw [length_blkC]; omega), length_blkC]; rw [cut_l _ _ _ _ (by rw [length_attC]; omega)]; rw [show o - 1 - 238 = o - 239 by omega]
theorem sOpC_spl_att (x : SOp) (o : Nat) (vs : List AV) (h1 : 239 ≤ o) (h2 : o + vs.length ≤ 306) : spl (sOpC x) o vs = .int .i64 x.kind :: (blkC x.blk ++ (spl (attC x.att) (o - 239) vs ++ (slgC x.slg ++ (tabC x.tab ++ (vdtC x.vdt ++ (.int .i64 x.write :: [.int .i64 x.keep])))))) := by unfold sOpC; rw [spl_s _ _ _ _ (by omega)]; rw [spl_r _ _ _ _ (by rw [length_blkC]; omega), length_blkC]; rw [spl_l _ _ _ _ (by rw [length_attC]; omega)]; rw [show o - 1 - 238 = o - 239 by omega]
theorem sOpC_cut_slg (x : SOp) (o n : Nat) (h1 : 306 ≤ o) (h2 : o + n ≤ 376) : cut (sOpC x) o n = cut (slgC x.slg) (o - 306) n := by unfold sOpC; rw [cut_s _ _ _ _ (by omega)]; rw [cut_r _ _ _ _ (by rw [length_blkC]; omega), length_blkC]; rw [cut_r _ _ _ _ (by rw [length_attC]; omega), length_attC]; rw [cut_l _ _ _ _ (by rw [length_slgC]; omega)]; rw [show o - 1 - 238 - 67 = o - 306 by omega]
theorem sOpC_spl_slg (x : SOp) (o : Nat) (vs : List AV) (h1 : 306 ≤ o) (h2 : o + vs.length ≤ 376) : spl (sOpC x) o vs = .int .i64 x.kind :: (blkC x.blk ++ (attC x.att ++ (spl (slgC x.slg) (o - 306) vs ++ (tabC x.tab ++ (vdtC x.vdt ++ (.int .i64 x.write :: [.int .i64 x.keep])))))) := by unfold sOpC; rw [spl_s _ _ _ _ (by omega)]; rw [spl_r _ _ _ _ (by rw [length_blkC]; omega), length_blkC]; rw [spl_r _ _ _ _ (by rw [length_attC]; omega), length_attC]; rw [spl_l _ _ _ _ (by rw [length_slgC]; omega)]; rw [show o - 1 - 238 - 67 = o - 306 by omega]
theorem sOpC_cut_tab (x : SOp) (o n : Nat) (h1 : 376 ≤ o) (h2 : o + n ≤ 410) : cut (sOpC x) o n = cut (tabC x.tab) (o - 376) n := by unfold sOpC; rw [cut_s _ _ _ _ (by omega)]; rw [cut_r _ _ _ _ (by rw [length_blkC]; omega), length_blkC]; rw [cut_r _ _ _ _ (by rw [length_attC]; omega), length_attC]; rw [cut_r _ _ _ _ (by rw [length_slgC]; omega), length_slgC]; rw [cut_l _ _ _ _ (by rw [length_tabC]; omega)]; rw [show o - 1 - 238 - 67 - 70 = o - 376 by omega]
theorem sOpC_spl_tab (x : SOp) (o : Nat) (vs : List AV) (h1 : 376 ≤ o) (h2 : o + vs.length ≤ 410) : spl (sOpC x) o vs = .int .i64 x.kind :: (blkC x.blk ++ (attC x.att ++ (slgC x.slg ++ (spl (tabC x.tab) (o - 376) vs ++ (vdtC x.vdt ++ (.int .i64 x.write :: [.int .i64 x.keep])))))) := by unfold sOpC; rw [spl_s _ _ _ _ (by omega)]; rw [spl_r _ _ _ _ (by rw [length_blkC]; omega), length_blkC]; rw [spl_r _ _ _ _ (by rw [length_attC]; omega), length_attC]; rw [spl_r _ _ _ _ (by rw [length_slgC]; omega), length_slgC]; rw [spl_l _ _ _ _ (by rw [length_tabC]; omega)]; rw [show o - 1 - 238 - 67 - 70 = o - 376 by omega]
theorem sOpC_cut_vdt (x : SOp) (o n : Nat) (h1 : 410 ≤ o) (h2 : o + n ≤ 444) : cut (sOpC x) o n = cut (vdtC x.vdt) (o - 410) n := by unfold sOpC; rw [cut_s _ _ _ _ (by omega)]; rw [cut_r _ _ _ _ (by rw [length_blkC]; omega), length_blkC]; rw [cut_r _ _ _ _ (by rw [length_attC]; omega), length_attC]; rw [cut_r _ _ _ _ (by rw [length_slgC]; omega), length_slgC]; rw [cut_r _ _ _ _ (by rw [length_tabC]; omega), length_tabC]; rw [cut_l _ _ _ _ (by rw [length_vdtC]; omega)]; rw [show o - 1 - 238 - 67 - 70 - 34 = o - 410 by omega]
theorem sOpC_spl_vdt (x : SOp) (o : Nat) (vs : List AV) (h1 : 410 ≤ o) (h2 : o + vs.length ≤ 444) : spl (sOpC x) o vs = .int .i64 x.kind :: (blkC x.blk ++ (attC x.att ++ (slgC x.slg ++ (tabC x.tab ++ (spl (vdtC x.vdt) (o - 410) vs ++ (.int .i64 x.write :: [.int .i64 x.keep])))))) := by unfold sOpC; rw [spl_s _ _ _ _ (by omega)]; rw [spl_r _ _ _ _ (by rw [length_blkC]; omega), length_blkC]; rw [spl_r _ _ _ _ (by rw [length_attC]; omega), length_attC]; rw [spl_r _ _ _ _ (by rw [length_slgC]; omega), length_slgC]; rw [spl_r _ _ _ _ (by rw [length_tabC]; omega), length_tabC]; rw [spl_l _ _ _ _ (by rw [length_vdtC]; omega)]; rw [show o - 1 - 238 - 67 - 70 - 34 = o - 410 by omega]
theorem sOpC_cut_write (x : SOp) : cut (sOpC x) 444 1 = [.int .i64 x.write] := by unfold sOpC; rw [cut_s _ _ _ _ (by omega)]; rw [cut_r _ _ _ _ (by rw [length_blkC]; omega), length_blkC]; rw [cut_r _ _ _ _ (by rw [length_attC]; omega), length_attC]; rw [cut_r _ _ _ _ (by rw [length_slgC]; omega), length_slgC]; rw [cut_r _ _ _ _ (by rw [length_tabC]; omega), length_tabC]; rw [cut_r _ _ _ _ (by rw [length_vdtC]; omega), length_vdtC]; simp only [Nat.reduceSub]; all_goals rfl
theorem sOpC_spl_write (x : SOp) (v : Int) : spl (sOpC x) 444 [.int .i64 v] = sOpC { x with write := v } := by unfold sOpC; rw [spl_s _ _ _ _ (by omega)]; rw [spl_r _ _ _ _ (by rw [length_blkC]; omega), length_blkC]; rw [spl_r _ _ _ _ (by rw [length_attC]; omega), length_attC]; rw [spl_r _ _ _ _ (by rw [length_slgC]; omega), length_slgC]; rw [spl_r _ _ _ _ (by rw [length_tabC]; omega), length_tabC]; rw [spl_r _ _ _ _ (by rw [length_vdtC]; omega), length_vdtC]; simp only [Nat.reduceSub]; all_goals rfl
theorem sOpC_cut_keep (x : SOp) : cut (sOpC x) 445 1 = [.int .i64 x.keep] := by unfold sOpC; rw [cut_s _ _ _ _ (by omega)]; rw [cut_r _ _ _ _ (by rw [length_blkC]; omega), length_blkC]; rw [cut_r _ _ _ _ (by rw [length_attC]; omega), length_attC]; rw [cut_r _ _ _ _ (by rw [length_slgC]; omega), length_slgC]; rw [cut_r _ _ _ _ (by rw [length_tabC]; omega), length_tabC]; rw [cut_r _ _ _ _ (by rw [length_vdtC]; omega), length_vdtC]; rw [cut_s _ _ _ _ (by omega)]; simp only [Nat.reduceSub]; all_goals rfl
theorem sOpC_spl_keep (x : SOp) (v : Int) : spl (sOpC x) 445 [.int .i64 v] = sOpC { x with keep := v } := by unfold sOpC; rw [spl_s _ _ _ _ (by omega)]; rw [spl_r _ _ _ _ (by rw [length_blkC]; omega), length_blkC]; rw [spl_r _ _ _ _ (by rw [length_attC]; omega), length_attC]; rw [spl_r _ _ _ _ (by rw [length_slgC]; omega), length_slgC]; rw [spl_r _ _ _ _ (by rw [length_tabC]; omega), length_tabC]; rw [spl_r _ _ _ _ (by rw [length_vdtC]; omega), length_vdtC]; rw [spl_s _ _ _ _ (by omega)]; simp only [Nat.reduceSub]; all_goals rfl
def SOp.map (g : AV → AV) (x : SOp) : SOp := { x with att := x.att.map g, slg := x.slg.map g, tab := x.tab.map g }
theorem SOp.map_mk (g : AV → AV) (kind : Int) (blk : Blk) (att : Att) (slg : Slg) (tab : Tab) (vdt : Vdt) (write : Int) (keep : Int) : SOp.map g ⟨kind, blk, att, slg, tab, vdt, write, keep⟩ = ⟨kind, blk, att.map g, slg.map g, tab.map g, vdt, write, keep⟩ := rfl
def SOp.good (x : SOp) : Bool := x.att.good && x.slg.good && x.tab.good
theorem SOp.good_mk (kind : Int) (blk : Blk) (att : Att) (slg : Slg) (tab : Tab) (vdt : Vdt) (write : Int) (keep : Int) : SOp.good ⟨kind, blk, att, slg, tab, vdt, write, keep⟩ = (att.good && slg.good && tab.good) := rfl
def SOp.Pure (x : SOp) : Prop := x.att.Pure ∧ x.slg.Pure ∧ x.tab.Pure
theorem allCells_sOpC (x : SOp) : allCells (sOpC x) = x.good := by simp [sOpC, SOp.good, Bool.and_assoc, allCells_cons, allCells_app, allCells_nil, AV.cell, allCells_attC, allCells_blkC, allCells_slgC, allCells_tabC, allCells_vdtC]
theorem PuL_sOpC (x : SOp) : PuL (sOpC x) ↔ x.Pure := by simp [sOpC, SOp.Pure, PuL_app, PuL, Pu, PuL_attC, PuL_blkC, PuL_slgC, PuL_tabC, PuL_vdtC]
theorem renL_sOpC (ρ : Nat → Nat) (x : SOp) : renL ρ (sOpC x) = sOpC (x.map (ren ρ)) := by simp only [sOpC, SOp.map, renL_app, renL, ren, renL_attC, renL_blkC, renL_slgC, renL_tabC, renL_vdtC]
theorem fzL_sOpC (σ : St) (zs : List Nat) (x : SOp) : fzL σ zs (sOpC x) = sOpC (x.map (fz σ zs)) := by simp only [sOpC, SOp.map, fzL_app, fzL, fz, fzL_attC, fzL_blkC, fzL_slgC, fzL_tabC, fzL_vdtC]
def sOp0 : SOp := ⟨0, blk0, att0, slg0, tab0, vdt0, 0, 0⟩
end Go.FH

namespace Go.FH
open Go Go.RowKit
set_option linter.unusedVariables false

theorem evX0 (P : Program) (nv : Nat) (vs : List AV) (ts : List (Nat × AV)) (σ : St) (K : AV → St → Prop) : type_of% (evO P ⟨nv, vs, ts⟩ σ K) := evO P ⟨nv, vs, ts⟩ σ K
theorem evX1 (P : Program) (nv : Nat) (vs : List AV) (ts : List (Nat × AV)) (σ : St) (K : AV → St → Prop) : type_of% (evM P ⟨nv, vs, ts⟩ σ K) := evM P ⟨nv, vs, ts⟩ σ K
theorem evX2 (P : Program) (nv : Nat) (vs : List AV) (ts : List (Nat × AV)) (σ : St) (K : AV → St → Prop) : type_of% (evA P ⟨nv, vs, ts⟩ σ K) := evA P ⟨nv, vs, ts⟩ σ K
attribute [go_sem] evX0 evX1 evX2 evF evQ evR evL evD opF evH evK minL maxL rdB_sl rdB_hs rdB_va all_isByte map_byOf isByte byOf AOp.allocs length_bts length_nums List.length_set List.length_append List.length_cons List.length_nil List.map_cons List.map_nil List.set_cons_zero List.set_cons_succ List.getElem?_cons_zero List.getElem?_cons_succ List.getElem?_nil List.nil_append List.cons_append List.append_nil if_true if_false true_and and_true true_or or_true Bool.false_eq_true not_false_eq_true not_true_eq_false Int.toNat_natCast Bool.not_true Bool.not_false cond_true cond_false Int.natCast_nonneg forall_const false_implies implies_true Nat.sub_zero Nat.zero_add Nat.add_zero List.drop_zero decide_true decide_false fillE partsE fillL partsOk cut_s cut_r cut_l cut_n cut_0 spl_full spl_s spl_r spl_l spl_c spl_n rtc_full wdc_full length_rtc length_wdc allCells_rtc allCells_wdc renL_rtc renL_wdc aeqL_rtc aeqL_wdc fits_rtc fits_wdc chunk_rtc flatten_bts cpC_full length_cpC cpC_fold cpC_cut_ep cpC_spl_ep cpC_cut_rt cpC_spl_rt allCells_cpC renL_cpC fits_cpC aeqL_cpC pulC_full length_pulC pulC_fold pulC_cut_j pulC_spl_j pulC_cut_f pulC_spl_f allCells_pulC renL_pulC fits_pulC aeqL_pulC blkC_full length_blkC blkC_fold blkC_cut_pul blkC_spl_pul blkC_cut_slot blkC_spl_slot blkC_cut_root blkC_spl_root blkC_cut_parent blkC_spl_parent blkC_cut_payload blkC_spl_payload blkC_cut_diff blkC_spl_diff blkC_cut_pdiff blkC_spl_pdiff blkC_cut_just blkC_spl_just blkC_cut_fin blkC_spl_fin blkC_cut_timely blkC_spl_timely allCells_blkC renL_blkC fits_blkC aeqL_blkC attC_full length_attC attC_fold attC_cut_slot attC_spl_slot attC_cut_root attC_spl_root attC_cut_target attC_spl_target attC_cut_vals attC_spl_vals Att.map_mk Att.good_mk allCells_attC renL_attC clmC_full length_clmC clmC_fold clmC_cut_src clmC_spl_src clmC_cut_tgt clmC_spl_tgt clmC_cut_root clmC_spl_root clmC_cut_vals clmC_spl_vals Clm.map_mk Clm.good_mk allCells_clmC renL_clmC slgC_full length_slgC slgC_fold slgC_cut_fst slgC_spl_fst slgC_cut_snd slgC_spl_snd Slg.map_mk Slg.good_mk allCells_slgC renL_slgC tabC_full length_tabC tabC_fold tabC_cut_cp tabC_spl_cp tabC_cut_bals tabC_spl_bals Tab.map_mk Tab.good_mk allCells_tabC renL_tabC vdtC_full length_vdtC vdtC_fold vdtC_cut_tag vdtC_spl_tag vdtC_cut_kind vdtC_spl_kind vdtC_cut_latest vdtC_spl_latest allCells_vdtC renL_vdtC fits_vdtC aeqL_vdtC sOpC_full length_sOpC sOpC_fold sOpC_cut_kind sOpC_spl_kind sOpC_cut_blk sOpC_spl_blk sOpC_cut_att sOpC_spl_att sOpC_cut_slg sOpC_spl_slg sOpC_cut_tab sOpC_spl_tab sOpC_cut_vdt sOpC_spl_vdt sOpC_cut_write sOpC_spl_write sOpC_cut_keep sOpC_spl_keep SOp.map_mk SOp.good_mk allCells_sOpC renL_sOpC cp0 pul0 blk0 att0 clm0 slg0 tab0 vdt0 sOp0 allCells_nil allCells_cons allCells_app AV.cell List.all_cons List.all_nil Bool.and_true Bool.true_and List.replicate_succ List.replicate_zero beq_self_eq_true ne_eq renL ren rdS srcId List.flatten_cons List.flatten_nil bts_join bts_one bts_take bts_drop List.take_of_length_le Nat.le_refl pushH allocsIn List.isEmpty_nil List.isEmpty_cons List.filter_cons List.filter_nil decide_eq_true_eq bne_self_eq_false Bool.bne_false Bool.bne_true Option.isNone_some Option.isNone_none Bool.and_false Bool.false_and Bool.not_eq_true Bool.not_eq_false eq_self cast_lit Bool.true_eq_false forall_eq
attribute [go_sem] resVal_nil resVal_cons resVal_cell resOne Option.map_some
attribute [go_sem] fzL_rtc fzL_wdc fzL_cpC fzL_pulC fzL_blkC fzL_attC fzL_clmC fzL_slgC fzL_tabC fzL_vdtC fzL_sOpC picksL objsOk slotsOk afterCall putAll rn renO renLL_bts renLL_nums fz fzL fzO fzLL_bts fzLL_nums resAV List.getD_cons_zero List.getD_cons_succ List.getD_nil List.take_zero List.take_succ_cons List.take_nil List.drop_succ_cons List.drop_nil List.getElem?_cons_zero List.getElem?_cons_succ List.getElem?_nil Option.map_none and_self List.mem_cons List.not_mem_nil or_false false_or or_self List.range_zero List.range_succ List.mem_append List.mem_singleton List.contains_eq_mem List.mem_range Nat.sub_self fzLL
/-- A proposition out of sight. -/
structure Hid (q : Prop) : Prop where
  out : q
/-- What the equations show. -/
theorem evd {p : Prop} (h : p := by ((try simp only [go_sem, Nat.reduceAdd, Nat.reduceSub, Nat.reduceMul, Nat.reduceLT, Nat.reduceLeDiff, Nat.reduceEqDiff, reduceIte, Int.reduceToNat, Int.reduceLT, Int.reduceLE, Int.reduceEq, Int.reduceNeg, reduceCtorEq, Int.reduceBEq, Int.reduceBNe]); try rfl)) : p := h
/-- What the equations make of a goal. -/
theorem evg {p q : Prop} (hq : q) (h : Hid q → p := by (intro hq; (try simp only [go_sem, Nat.reduceAdd, Nat.reduceSub, Nat.reduceMul, Nat.reduceLT, Nat.reduceLeDiff, Nat.reduceEqDiff, reduceIte, Int.reduceToNat, Int.reduceLT, Int.reduceLE, Int.reduceEq, Int.reduceNeg, reduceCtorEq, Int.reduceBEq, Int.reduceBNe]); exact hq.out)) : p := h ⟨hq⟩
/-- On, as far as the equations lead. -/
theorem go_on {p q : Prop} (hq : q) (h : Hid q → p := by
    (intro hq
     (first | with_reducible (first | refine tri_seq ?_ | refine tri_block ?_ | refine tri_reg ?_ | refine tri_dreg (by simp only [List.length_cons, List.length_nil]) ?_ | refine tri_skip ?_ | refine tri_exit ?_ | refine tri_ret ?_) | (simp only [go_sem, Nat.reduceAdd, Nat.reduceSub, Nat.reduceMul, Nat.reduceLT, Nat.reduceLeDiff, Nat.reduceEqDiff, reduceIte, Int.reduceToNat, Int.reduceLT, Int.reduceLE, Int.reduceEq, Int.reduceNeg, reduceCtorEq, Int.reduceBEq, Int.reduceBNe]) | with_reducible refine And.intro (okH_of (by decide)) ?_ | (with_reducible refine And.intro ?_ ?_; first | omega | decide | (simp; done) | (simp; omega)))
     repeat (first | with_reducible (first | refine tri_seq ?_ | refine tri_block ?_ | refine tri_reg ?_ | refine tri_dreg (by simp only [List.length_cons, List.length_nil]) ?_ | refine tri_skip ?_ | refine tri_exit ?_ | refine tri_ret ?_) | (simp only [go_sem, Nat.reduceAdd, Nat.reduceSub, Nat.reduceMul, Nat.reduceLT, Nat.reduceLeDiff, Nat.reduceEqDiff, reduceIte, Int.reduceToNat, Int.reduceLT, Int.reduceLE, Int.reduceEq, Int.reduceNeg, reduceCtorEq, Int.reduceBEq, Int.reduceBNe]) | with_reducible refine And.intro (okH_of (by decide)) ?_ | (with_reducible refine And.intro ?_ ?_; first | omega | decide | (simp; done) | (simp; omega)))
     exact hq.out)) : p := h ⟨hq⟩
/-- On, without new code. -/
theorem st_on {p q : Prop} (hq : q) (h : Hid q → p := by
    (intro hq
     repeat (first | (simp only [go_sem, Nat.reduceAdd, Nat.reduceSub, Nat.reduceMul, Nat.reduceLT, Nat.reduceLeDiff, Nat.reduceEqDiff, reduceIte, Int.reduceToNat, Int.reduceLT, Int.reduceLE, Int.reduceEq, Int.reduceNeg, reduceCtorEq, Int.reduceBEq, Int.reduceBNe]) | with_reducible refine And.intro (okH_of (by decide)) ?_ | (with_reducible refine And.intro ?_ ?_; first | omega | decide | (simp; done) | (simp; omega)))
     exact hq.out)) : p := h ⟨hq⟩
section
variable {P : Program} {nt k : Nat} {fr : Fr} {σ : St} {c : Opd} {x y : ACode} {Q : Ex → Fr → St → Prop}
theorem tri_condT (h : Tri P nt k x Q fr σ) (hb : c.ev fr = .bool true := by ((try simp only [go_sem, Nat.reduceAdd, Nat.reduceSub, Nat.reduceMul, Nat.reduceLT, Nat.reduceLeDiff, Nat.reduceEqDiff, reduceIte, Int.reduceToNat, Int.reduceLT, Int.reduceLE, Int.reduceEq, Int.reduceNeg, reduceCtorEq, Int.reduceBEq, Int.reduceBNe]); try rfl)) : Tri P nt k (.cond c x y) Q fr σ := tri_cond hb (fun _ => h) (fun h => by cases h)
theorem tri_condF (h : Tri P nt k y Q fr σ) (hb : c.ev fr = .bool false := by ((try simp only [go_sem, Nat.reduceAdd, Nat.reduceSub, Nat.reduceMul, Nat.reduceLT, Nat.reduceLeDiff, Nat.reduceEqDiff, reduceIte, Int.reduceToNat, Int.reduceLT, Int.reduceLE, Int.reduceEq, Int.reduceNeg, reduceCtorEq, Int.reduceBEq, Int.reduceBNe]); try rfl)) : Tri P nt k (.cond c x y) Q fr σ := tri_cond hb (fun h => by cases h) (fun _ => h)
end
end Go.FH

namespace Go.FH
set_option linter.unusedVariables false
set_option linter.unusedSimpArgs false
open Go Go.RowKit

/-- Shapes of types. -/
inductive Sh where
  | bool
  | int (k : IntKind)
  | arr (n : Nat) (s : Sh)
  | sl (s : Sh)
  | st (ss : List Sh)

mutual
def Sh.size : Sh → Nat
  | .bool => 1
  | .int _ => 1
  | .sl _ => 1
  | .arr n s => n * s.size
  | .st ss => Sh.sizes ss
def Sh.sizes : List Sh → Nat
  | [] => 0
  | s :: ss => s.size + Sh.sizes ss
end

mutual
/-- What cells of a shape are. -/
inductive Opn : Sh → List AV → Prop
  | bool (b : Bool) : Opn .bool [.bool b]
  | int (k : IntKind) (n : Int) (h : (Lit.int k n).wf = true) : Opn (.int k) [.int k n]
  | arr (n : Nat) (s : Sh) (xs : List (List AV)) (hl : xs.length = n) (h : ∀ x ∈ xs, Opn s x) : Opn (.arr n s) xs.flatten
  | sl (s : Sh) (xs : List (List AV)) (hl : xs.length ≤ maxLen) (h : ∀ x ∈ xs, Opn s x) : Opn (.sl s) [.sl s.size false xs]
  | st (ss : List Sh) (cs : List AV) (h : OpnL ss cs) : Opn (.st ss) cs
inductive OpnL : List Sh → List AV → Prop
  | nil : OpnL [] []
  | cons (s : Sh) (ss : List Sh) (a b : List AV) (h : Opn s a) (hs : OpnL ss b) : OpnL (s :: ss) (a ++ b)
end

mutual
def isSh (P : Program) : Sh → TypeId → Bool
  | .bool, t => match P.underlying t with
    | some .bool => true
    | _ => false
  | .int k, t => match P.underlying t with
    | some (.int k') => k == k'
    | _ => false
  | .arr n s, t => match P.underlying t with
    | some (.array m e) => m == n && P.cellsOf e == s.size && P.cellsOf t == n * s.size && isSh P s e
    | _ => false
  | .sl s, t => match P.underlying t with
    | some (.slice e) => P.cellsOf e == s.size && decide (0 < s.size) && isSh P s e
    | _ => false
  | .st ss, t => match P.underlying t with
    | some (.struct fs) => P.cellsOf t == Sh.sizes ss && isShL P ss fs.toList 0
    | _ => false
def isShL (P : Program) : List Sh → List Field → Nat → Bool
  | [], [], _ => true
  | s :: ss, f :: fs, o => f.offset == o && P.cellsOf f.type == s.size && isSh P s f.type && isShL P ss fs (o + s.size)
  | _, _, _ => false
end

section
variable {H : Type} {enc : TypeId × Value → H} {P : Program} {w : World}

theorem arr_of {s : Sh} {k : Nat} : ∀ (n : Nat) (cs : List Value), cs.length = n * k → (∀ i, i < n → ∃ avs, Opn s avs ∧ RlC (topE w) avs ((cs.drop (i * k)).take k)) →
    ∃ xs : List (List AV), xs.length = n ∧ (∀ x ∈ xs, Opn s x) ∧ RlC (topE w) xs.flatten cs
  | 0, cs, hl, _ => ⟨[], rfl, by simp, by have : cs = [] := List.eq_nil_of_length_eq_zero (by omega); subst this; rfl⟩
  | n + 1, cs, hl, h => by
    have hk : (n + 1) * k = k + n * k := by rw [Nat.succ_mul]; omega
    obtain ⟨a, ha, hr⟩ := h 0 (by omega)
    obtain ⟨xs, h1, h2, h3⟩ := arr_of (s := s) (k := k) n (cs.drop k) (by rw [List.length_drop, hl, hk]; omega) (fun i hi => by
      obtain ⟨b, hb, hr⟩ := h (i + 1) (by omega)
      refine ⟨b, hb, ?_⟩
      rw [List.drop_drop, show k + i * k = (i + 1) * k by rw [Nat.succ_mul]; omega]
      exact hr)
    refine ⟨a :: xs, by simp [h1], fun x hx => ?_, ?_⟩
    · rcases List.mem_cons.1 hx with rfl | hx
      · exact ha
      · exact h2 x hx
    · have e : cs = cs.take k ++ cs.drop k := (List.take_append_drop k cs).symm
      rw [e]
      simp only [Nat.zero_mul, List.drop_zero] at hr
      exact RlC.app hr h3

theorem sl_of {s : Sh} {k : Nat} {b off : Nat} : ∀ (n : Nat) (o : Nat), (∀ i, i < n → ∃ avs us, Opn s avs ∧ RlC (topE w) avs us ∧ us.length = k ∧ ∀ j, j < k → w.cell? ⟨b, off + (o + i * k + j), none⟩ = us[j]?) →
    ∃ (xs : List (List AV)) (vs : List Value), xs.length = n ∧ (∀ x ∈ xs, Opn s x) ∧ vs.length = n * k ∧ RlE (topE w) k xs vs ∧ ∀ j, j < n * k → w.cell? ⟨b, off + (o + j), none⟩ = vs[j]?
  | 0, o, _ => ⟨[], [], rfl, by simp, by simp, rfl, fun j hj => by omega⟩
  | n + 1, o, h => by
    obtain ⟨a, us, ha, hr, hl, hc⟩ := h 0 (by omega)
    obtain ⟨xs, vs, h1, h2, h3, h4, h5⟩ := sl_of n (o + k) (fun i hi => by
      obtain ⟨a, us, ha, hr, hl, hc⟩ := h (i + 1) (by omega)
      refine ⟨a, us, ha, hr, hl, fun j hj => ?_⟩
      have := hc j hj
      rwa [show off + (o + (i + 1) * k + j) = off + (o + k + i * k + j) by rw [Nat.succ_mul]; omega] at this)
    refine ⟨a :: xs, us ++ vs, by simp [h1], fun x hx => ?_, ?_, ⟨us, vs, rfl, hl, hr, h4⟩, fun j hj => ?_⟩
    · rcases List.mem_cons.1 hx with rfl | hx
      · exact ha
      · exact h2 x hx
    · rw [List.length_append, hl, h3, Nat.succ_mul]; omega
    · by_cases hjk : j < k
      · have := hc j hjk
        rw [List.getElem?_append_left (by omega)]
        simpa using this
      · have := h5 (j - k) (by rw [Nat.succ_mul] at hj; omega)
        rw [List.getElem?_append_right (by omega), hl, ← this]
        congr 2; omega

mutual
theorem opn_of : ∀ (s : Sh) (t : TypeId) (fuel : Nat) (cs : List Value) (x : DataW H × List MemPlace), isSh P s t = true → DataW.trod enc P w 0 (fun _ => true) true fuel t cs = some x → ∃ avs, Opn s avs ∧ RlC (topE w) avs cs
  | .bool, t, fuel, cs, x, hs, h => by
    unfold isSh at hs
    split at hs <;> try cases hs
    rename_i ht
    cases fuel with
    | zero => simp [DataW.trod] at h
    | succ n =>
      unfold DataW.trod at h
      rw [ht] at h
      split at h <;> simp_all
      exact ⟨_, .bool _, _, [], rfl, rfl, rfl, rfl⟩
  | .int k, t, fuel, cs, x, hs, h => by
    unfold isSh at hs
    split at hs <;> try cases hs
    rename_i k' ht
    obtain ⟨n, rfl, _, hw⟩ := DataW.trod_int ht h
    have : k = k' := by simpa using hs
    subst this
    exact ⟨_, .int _ _ hw, _, [], rfl, rfl, rfl, rfl⟩
  | .arr n s, t, fuel, cs, x, hs, h => by
    unfold isSh at hs
    split at hs <;> try cases hs
    rename_i m e ht
    simp only [Bool.and_eq_true, beq_iff_eq] at hs
    obtain ⟨⟨⟨rfl, hc⟩, hct⟩, hi⟩ := hs
    obtain ⟨xs, fl, rfl, rfl, hl, hx, he⟩ := DataW.trod_array ht h
    rw [hct] at hl
    obtain ⟨xs, h1, h2, h3⟩ := arr_of (s := s) (w := w) m cs hl (fun i hin => by
      have h1 := he i hin
      rw [hc, List.getElem?_eq_getElem (by omega)] at h1
      exact opn_of s e _ _ _ hi h1)
    exact ⟨_, .arr _ _ _ h1 h2, h3⟩
  | .sl s, t, fuel, cs, x, hs, h => by
    unfold isSh at hs
    split at hs <;> try cases hs
    rename_i e ht
    simp only [Bool.and_eq_true, beq_iff_eq, decide_eq_true_eq] at hs
    obtain ⟨⟨hc, hp⟩, hi⟩ := hs
    rcases DataW.trod_slice ht h with ⟨rfl, _⟩ | ⟨a, len, cap, elems, rest, n, _, rfl, rfl, hb, hl, hm, hlen, hel, hsp, hns⟩
    · exact ⟨_, .sl s [] (by simp) (by simp), _, [], rfl, rfl, ⟨none, 0, 0, rfl, rfl, Nat.le_refl _, by simp [maxLen], fun _ => rfl, fun _ => rfl, .inl rfl⟩, rfl⟩
    · by_cases h0 : len = 0
      · subst h0
        exact ⟨_, .sl s [] (by simp) (by simp), _, [], rfl, rfl, ⟨some a, 0, cap, rfl, rfl, hl, hm, (fun h => Bool.noConfusion h), (fun h => by cases h), .inl rfl⟩, rfl⟩
      have each : ∀ i, i < len → ∃ avs us, Opn s avs ∧ RlC (topE w) avs us ∧ us.length = s.size ∧ ∀ j, j < s.size → w.cell? ((a.add (i * s.size)).add j) = us[j]? := by
        intro i hin
        have h1 := hel i hin
        rw [hc, List.getElem?_eq_getElem (by omega), Option.bind_eq_some_iff] at h1
        obtain ⟨us, h2, h3⟩ := h1
        obtain ⟨_, h5, h6⟩ := World.cells?_some h2
        obtain ⟨avs, h7, h8⟩ := opn_of s e _ _ _ hi h3
        exact ⟨avs, us, h7, h8, h5, h6⟩
      obtain ⟨b, off, spot⟩ := a
      obtain ⟨_, us, _, _, hul, hcc⟩ := each 0 (by omega)
      have hc0 := hcc 0 hp
      rw [List.getElem?_eq_getElem (by omega)] at hc0
      have hspot : spot = none := by simpa [Addr.add] using World.cell?_spot hc0
      subst hspot
      obtain ⟨xs, vs, h1, h2, h3, h4, h5⟩ := sl_of (s := s) (w := w) (k := s.size) (b := b) (off := off) len 0 (fun i hin => by
        obtain ⟨avs, us, g1, g2, g3, g4⟩ := each i hin
        refine ⟨avs, us, g1, g2, g3, fun j hj => ?_⟩
        rw [← g4 j hj, WideShapes.add_plain, WideShapes.add_plain]
        congr 2; omega)
      have hne : vs ≠ [] := by
        intro hh; subst hh
        simp only [List.length_nil] at h3
        have := Nat.mul_pos (Nat.pos_of_ne_zero h0) hp
        omega
      have hrange := range_of_cells (w := w) (b := b) (o := off) hne (fun j u hj => by
        have hjl := (List.getElem?_eq_some_iff.1 hj).1
        rw [← hj, ← h5 j (by omega)]
        congr 2; omega)
      rw [h3] at hrange
      have hblk : b < w.heap.size := by
        rw [WideShapes.add_plain, WideShapes.add_plain] at hc0
        exact World.block_lt_of_cell? w _ hc0
      exact ⟨_, .sl s xs (by omega) h2, _, [], rfl, rfl, ⟨_, len, cap, rfl, h1.symm, hl, hm, (fun h => Bool.noConfusion h), (fun h => by cases h), .inr ⟨b, off, vs, rfl, hblk, fun hf => hf, hrange, h4⟩⟩, rfl⟩
  | .st ss, t, fuel, cs, x, hs, h => by
    unfold isSh at hs
    split at hs <;> try cases hs
    rename_i fs ht
    simp only [Bool.and_eq_true, beq_iff_eq] at hs
    obtain ⟨hc, hi⟩ := hs
    obtain ⟨xs, n, rfl, _, hl, hxs, he⟩ := DataW.trod_struct ht h
    obtain ⟨avs, h1, h2⟩ := opnL_of ss fs.toList 0 cs hi (fun f hf => by
      obtain ⟨i, hi⟩ := List.getElem?_of_mem hf
      have h1 := he i f (by simpa using hi)
      have hil := (List.getElem?_eq_some_iff.1 hi).1
      rw [Array.length_toList] at hil
      rw [List.getElem?_eq_getElem (by omega)] at h1
      exact ⟨_, _, h1⟩) (by omega)
    exact ⟨avs, .st _ _ h1, h2⟩
theorem opnL_of : ∀ (ss : List Sh) (fs : List Field) (o : Nat) (cs : List Value), isShL P ss fs o = true →
    (∀ f ∈ fs, ∃ (fuel : Nat) (x : DataW H × List MemPlace), DataW.trod enc P w 0 (fun _ => true) true fuel f.type ((cs.drop f.offset).take (P.cellsOf f.type)) = some x) → cs.length = o + Sh.sizes ss → ∃ avs, OpnL ss avs ∧ RlC (topE w) avs (cs.drop o)
  | [], [], o, cs, _, _, hl => ⟨[], .nil, by rw [List.drop_of_length_le (by simp [Sh.sizes] at hl; omega)]; rfl⟩
  | [], _ :: _, o, cs, hs, _, _ => by simp [isShL] at hs
  | _ :: _, [], o, cs, hs, _, _ => by simp [isShL] at hs
  | s :: ss, f :: fs, o, cs, hs, hf, hl => by
    simp only [isShL, Bool.and_eq_true, beq_iff_eq] at hs
    obtain ⟨⟨⟨rfl, hc⟩, hi⟩, hr⟩ := hs
    simp only [Sh.sizes] at hl
    obtain ⟨fuel, x, hx⟩ := hf f (by simp)
    obtain ⟨a, ha, hra⟩ := opn_of s f.type fuel _ x hi hx
    obtain ⟨b, hb, hrb⟩ := opnL_of ss fs (f.offset + s.size) cs hr (fun g hg => hf g (by simp [hg])) (by omega)
    refine ⟨a ++ b, .cons _ _ _ _ ha hb, ?_⟩
    have e : cs.drop f.offset = (cs.drop f.offset).take s.size ++ cs.drop (f.offset + s.size) := by rw [← List.drop_drop, List.take_append_drop]
    rw [e]
    rw [hc] at hra
    exact RlC.app hra hrb
end

/-- An argument that is an aggregate. -/
theorem open_agg {t : TypeId} {v : Value} {d : DataW H} {p : List MemPlace} {r : Reach} {base : Nat} (s : Sh) (hs : isSh P s t = true) (hv : Value.okWide P w r base t v) (hd : DataW.Trod enc P w 0 (fun _ => true) true t v d p)
    (ha : (match P.underlying t with | some (.struct _) => true | some (.array _ _) => true | _ => false) = true) : ∃ avs, Opn s avs ∧ Rl (topE w) (.agg avs) v := by
  obtain ⟨fuel, hf⟩ := hd
  have hv' : ∃ cs, v = .agg cs := by
    unfold Value.okWide at hv
    split at hv
    · obtain ⟨cs, h, _⟩ := hv; exact ⟨cs, h⟩
    · obtain ⟨cs, h, _⟩ := hv; exact ⟨cs, h⟩
    · rename_i h1 h2
      split at ha
      · rename_i fs hu; exact absurd hu (h1 fs)
      · rename_i n e hu; exact absurd hu (h2 n e)
      · cases ha
  obtain ⟨cs, rfl⟩ := hv'
  obtain ⟨avs, h1, h2⟩ := opn_of s t fuel _ _ hs hf
  exact ⟨avs, h1, cs.toList, rfl, h2⟩
theorem open_sl1 {t e : TypeId} {v : Value} {d : DataW H} {p : List MemPlace} {r : Reach} {base : Nat} (s : Sh) (hs : isSh P (.sl s) t = true) (hv : Value.okWide P w r base t v) (hd : DataW.Trod enc P w 0 (fun _ => true) true t v d p)
    (ht : P.underlying t = some (.slice e)) : ∃ xs, xs.length ≤ maxLen ∧ (∀ x ∈ xs, Opn s x) ∧ Rl (topE w) (.sl s.size false xs) v := by
  obtain ⟨fuel, hf⟩ := hd
  obtain ⟨b, l, c, rfl⟩ := WideShapes.okWide_slice ht hv
  obtain ⟨avs, h1, h2⟩ := opn_of _ t fuel _ _ hs hf
  cases h1 with
  | sl s xs hl h =>
    obtain ⟨u, us, h3, _, h4, h5⟩ := h2
    simp only [Value.cells, List.cons.injEq] at h3
    obtain ⟨rfl, rfl⟩ := h3
    exact ⟨xs, hl, h, h4⟩
theorem open_int1 {t : TypeId} {v : Value} {d : DataW H} {p : List MemPlace} {r : Reach} {base : Nat} (k : IntKind) (ht : P.underlying t = some (.int k)) (hv : Value.okWide P w r base t v) (hd : DataW.Trod enc P w 0 (fun _ => true) true t v d p) :
    ∃ n, (Lit.int k n).wf = true ∧ Rl (topE w) (.int k n) v := by
  obtain ⟨n, rfl, _, _, hw⟩ := ChangeShapes.open_int ht hv hd
  exact ⟨n, hw, rfl⟩
theorem open_bool1 {t : TypeId} {v : Value} {d : DataW H} {p : List MemPlace} {r : Reach} {base : Nat} (ht : P.underlying t = some .bool) (hv : Value.okWide P w r base t v) (hd : DataW.Trod enc P w 0 (fun _ => true) true t v d p) :
    ∃ b, Rl (topE w) (.bool b) v := by
  obtain ⟨b, rfl, _, _⟩ := RowKit.open_bool ht hv hd
  exact ⟨b, rfl⟩
end

/-- Integers out of cells. -/
theorem Opn.ints {k : IntKind} : ∀ {xs : List (List AV)}, (∀ x ∈ xs, Opn (.int k) x) → ∃ ns : List Int, xs = nums k ns ∧ ∀ n ∈ ns, (Lit.int k n).wf = true
  | [], _ => ⟨[], rfl, by simp⟩
  | x :: xs, h => by
    obtain ⟨ns, rfl, h2⟩ := Opn.ints (xs := xs) (fun y hy => h y (by simp [hy]))
    cases h x (by simp) with
    | int k n hw =>
      refine ⟨n :: ns, rfl, fun m hm => ?_⟩
      rcases List.mem_cons.1 hm with rfl | hm
      · exact hw
      · exact h2 m hm
theorem nums_u8 : ∀ {ns : List Int}, (∀ n ∈ ns, (Lit.int .u8 n).wf = true) → ∃ bs : List UInt8, nums .u8 ns = bts bs ∧ bs.length = ns.length
  | [], _ => ⟨[], rfl, rfl⟩
  | n :: ns, h => by
    obtain ⟨bs, h1, h2⟩ := nums_u8 (ns := ns) (fun m hm => h m (by simp [hm]))
    have hb := bounds_u8 (h n (by simp))
    refine ⟨UInt8.ofNat n.toNat :: bs, ?_, by simp [h2]⟩
    have e : ((UInt8.ofNat n.toNat).toNat : Int) = n := by rw [UInt8.toNat_ofNat']; omega
    rw [bts_cons, e, ← h1]; rfl
theorem Opn.rt {cs : List AV} (h : Opn (.arr 32 (.int .u8)) cs) : ∃ r : Rt, cs = rtc r := by
  cases h with
  | arr n s xs hl h =>
    obtain ⟨ns, rfl, hw⟩ := Opn.ints h
    obtain ⟨bs, h1, h2⟩ := nums_u8 hw
    rw [length_nums] at hl
    exact ⟨⟨bs, by omega⟩, by rw [h1, flatten_bts]; rfl⟩
theorem Opn.wd {cs : List AV} (h : Opn (.arr 4 (.int .u64)) cs) : ∃ a : Wd, cs = wdc a ∧ ∀ n ∈ a.1, 0 ≤ n ∧ n < 18446744073709551616 := by
  cases h with
  | arr n s xs hl h =>
    obtain ⟨ns, rfl, hw⟩ := Opn.ints h
    rw [length_nums] at hl
    refine ⟨⟨ns, hl⟩, ?_, fun n hn => ?_⟩
    · show _ = ns.map _
      clear hl hw h
      induction ns with
      | nil => rfl
      | cons n ns ih => simp only [nums, List.map_cons, List.flatten_cons] at ih ⊢; rw [ih]; rfl
    · have := bounds_u64 (hw n hn); omega
theorem Opn.inv_st {ss : List Sh} {cs : List AV} (h : Opn (.st ss) cs) : OpnL ss cs := by
  cases h with
  | st _ _ h => exact h
theorem OpnL.inv_cons {s : Sh} {ss : List Sh} {cs : List AV} (h : OpnL (s :: ss) cs) : ∃ a b, cs = a ++ b ∧ Opn s a ∧ OpnL ss b := by
  cases h with
  | cons _ _ a b h hs => exact ⟨a, b, rfl, h, hs⟩
theorem OpnL.inv_nil {cs : List AV} (h : OpnL [] cs) : cs = [] := by
  cases h; rfl
theorem Opn.inv_int {k : IntKind} {cs : List AV} (h : Opn (.int k) cs) : ∃ n, (Lit.int k n).wf = true ∧ cs = [.int k n] := by
  cases h with
  | int _ n h => exact ⟨n, h, rfl⟩
theorem Opn.inv_bool {cs : List AV} (h : Opn .bool cs) : ∃ b, cs = [.bool b] := by
  cases h with
  | bool b => exact ⟨b, rfl⟩
theorem Opn.inv_nums {k : IntKind} {cs : List AV} (h : Opn (.sl (.int k)) cs) : ∃ ns : List Int, ns.length ≤ maxLen ∧ (∀ n ∈ ns, (Lit.int k n).wf = true) ∧ cs = [.sl 1 false (nums k ns)] := by
  cases h with
  | sl _ xs hl h =>
    obtain ⟨ns, rfl, hw⟩ := Opn.ints h
    exact ⟨ns, by rwa [length_nums] at hl, hw, rfl⟩

section
variable {H : Type} {enc : TypeId × Value → H} {P : Program} {w : World}
/-- An argument that is a list of numbers. -/
theorem open_nums {t e : TypeId} {v : Value} {d : DataW H} {p : List MemPlace} {r : Reach} {base : Nat} (k : IntKind) (hs : isSh P (.sl (.int k)) t = true) (hv : Value.okWide P w r base t v) (hd : DataW.Trod enc P w 0 (fun _ => true) true t v d p)
    (ht : P.underlying t = some (.slice e)) : ∃ ns : List Int, ns.length ≤ maxLen ∧ (∀ n ∈ ns, (Lit.int k n).wf = true) ∧ Rl (topE w) (.sl 1 false (nums k ns)) v := by
  obtain ⟨xs, hl, h, hr⟩ := open_sl1 (.int k) hs hv hd ht
  obtain ⟨ns, rfl, hw⟩ := Opn.ints h
  exact ⟨ns, by rwa [length_nums] at hl, hw, hr⟩
theorem open_bytes {t e : TypeId} {v : Value} {d : DataW H} {p : List MemPlace} {r : Reach} {base : Nat} (hs : isSh P (.sl (.int .u8)) t = true) (hv : Value.okWide P w r base t v) (hd : DataW.Trod enc P w 0 (fun _ => true) true t v d p)
    (ht : P.underlying t = some (.slice e)) : ∃ bs : List UInt8, bs.length ≤ maxLen ∧ Rl (topE w) (.sl 1 false (bts bs)) v := by
  obtain ⟨ns, hl, hw, hr⟩ := open_nums .u8 hs hv hd ht
  obtain ⟨bs, h1, h2⟩ := nums_u8 hw
  exact ⟨bs, by omega, by rwa [← h1]⟩
end
end Go.FH

namespace Go.FH
set_option linter.unusedVariables false
set_option linter.unusedSimpArgs false
open Go Go.RowKit

structure Cp.Ok (x : Cp) : Prop where
  ep : (Lit.int .u64 x.ep).wf = true
abbrev cpS : Sh := .st [.int .u64, .arr 32 (.int .u8)]
theorem Opn.cp {cs : List AV} (h : Opn cpS cs) : ∃ x : Cp, cs = cpC x ∧ x.Ok := by
  have h := h.inv_st
  obtain ⟨a0, b0, rfl, h0, h⟩ := h.inv_cons
  obtain ⟨a1, b1, rfl, h1, h⟩ := h.inv_cons
  have h := h.inv_nil; subst h
  obtain ⟨n0, w0, rfl⟩ := h0.inv_int
  obtain ⟨n1, rfl⟩ := h1.rt
  exact ⟨⟨n0, n1⟩, by simp only [cpC, List.cons_append, List.nil_append, List.append_nil, List.append_assoc], ⟨w0⟩⟩
structure Pul.Ok (x : Pul) : Prop where
  j : x.j.Ok
  f : x.f.Ok
abbrev pulS : Sh := .st [cpS, cpS]
theorem Opn.pul {cs : List AV} (h : Opn pulS cs) : ∃ x : Pul, cs = pulC x ∧ x.Ok := by
  have h := h.inv_st
  obtain ⟨a0, b0, rfl, h0, h⟩ := h.inv_cons
  obtain ⟨a1, b1, rfl, h1, h⟩ := h.inv_cons
  have h := h.inv_nil; subst h
  obtain ⟨n0, rfl, w0⟩ := h0.cp
  obtain ⟨n1, rfl, w1⟩ := h1.cp
  exact ⟨⟨n0, n1⟩, by simp only [pulC, List.cons_append, List.nil_append, List.append_nil, List.append_assoc], ⟨w0, w1⟩⟩
structure Blk.Ok (x : Blk) : Prop where
  pul : x.pul.Ok
  slot : (Lit.int .u64 x.slot).wf = true
  diff : ∀ n ∈ x.diff.1, 0 ≤ n ∧ n < 18446744073709551616
  pdiff : ∀ n ∈ x.pdiff.1, 0 ≤ n ∧ n < 18446744073709551616
  just : x.just.Ok
  fin : x.fin.Ok
abbrev blkS : Sh := .st [pulS, .int .u64, .arr 32 (.int .u8), .arr 32 (.int .u8), .arr 32 (.int .u8), .arr 4 (.int .u64), .arr 4 (.int .u64), cpS, cpS, .bool]
theorem Opn.blk {cs : List AV} (h : Opn blkS cs) : ∃ x : Blk, cs = blkC x ∧ x.Ok := by
  have h := h.inv_st
  obtain ⟨a0, b0, rfl, h0, h⟩ := h.inv_cons
  obtain ⟨a1, b1, rfl, h1, h⟩ := h.inv_cons
  obtain ⟨a2, b2, rfl, h2, h⟩ := h.inv_cons
  obtain ⟨a3, b3, rfl, h3, h⟩ := h.inv_cons
  obtain ⟨a4, b4, rfl, h4, h⟩ := h.inv_cons
  obtain ⟨a5, b5, rfl, h5, h⟩ := h.inv_cons
  obtain ⟨a6, b6, rfl, h6, h⟩ := h.inv_cons
  obtain ⟨a7, b7, rfl, h7, h⟩ := h.inv_cons
  obtain ⟨a8, b8, rfl, h8, h⟩ := h.inv_cons
  obtain ⟨a9, b9, rfl, h9, h⟩ := h.inv_cons
  have h := h.inv_nil; subst h
  obtain ⟨n0, rfl, w0⟩ := h0.pul
  obtain ⟨n1, w1, rfl⟩ := h1.inv_int
  obtain ⟨n2, rfl⟩ := h2.rt
  obtain ⟨n3, rfl⟩ := h3.rt
  obtain ⟨n4, rfl⟩ := h4.rt
  obtain ⟨n5, rfl, w5⟩ := h5.wd
  obtain ⟨n6, rfl, w6⟩ := h6.wd
  obtain ⟨n7, rfl, w7⟩ := h7.cp
  obtain ⟨n8, rfl, w8⟩ := h8.cp
  obtain ⟨n9, rfl⟩ := h9.inv_bool
  exact ⟨⟨n0, n1, n2, n3, n4, n5, n6, n7, n8, n9⟩, by simp only [blkC, List.cons_append, List.nil_append, List.append_nil, List.append_assoc], ⟨w0, w1, w5, w6, w7, w8⟩⟩
structure Att.Ok (x : Att) : Prop where
  slot : (Lit.int .u64 x.slot).wf = true
  target : x.target.Ok
  vals : ∃ ns : List Int, x.vals = .sl 1 false (nums .i64 ns) ∧ ns.length ≤ maxLen ∧ ∀ n ∈ ns, (Lit.int .i64 n).wf = true
abbrev attS : Sh := .st [.int .u64, .arr 32 (.int .u8), cpS, .sl (.int .i64)]
theorem Opn.att {cs : List AV} (h : Opn attS cs) : ∃ x : Att, cs = attC x ∧ x.Ok := by
  have h := h.inv_st
  obtain ⟨a0, b0, rfl, h0, h⟩ := h.inv_cons
  obtain ⟨a1, b1, rfl, h1, h⟩ := h.inv_cons
  obtain ⟨a2, b2, rfl, h2, h⟩ := h.inv_cons
  obtain ⟨a3, b3, rfl, h3, h⟩ := h.inv_cons
  have h := h.inv_nil; subst h
  obtain ⟨n0, w0, rfl⟩ := h0.inv_int
  obtain ⟨n1, rfl⟩ := h1.rt
  obtain ⟨n2, rfl, w2⟩ := h2.cp
  obtain ⟨n3, l3, w3, rfl⟩ := h3.inv_nums
  exact ⟨⟨n0, n1, n2, _⟩, by simp only [attC, List.cons_append, List.nil_append, List.append_nil, List.append_assoc], ⟨w0, w2, ⟨n3, rfl, l3, w3⟩⟩⟩
structure Clm.Ok (x : Clm) : Prop where
  src : (Lit.int .u64 x.src).wf = true
  tgt : (Lit.int .u64 x.tgt).wf = true
  vals : ∃ ns : List Int, x.vals = .sl 1 false (nums .i64 ns) ∧ ns.length ≤ maxLen ∧ ∀ n ∈ ns, (Lit.int .i64 n).wf = true
abbrev clmS : Sh := .st [.int .u64, .int .u64, .arr 32 (.int .u8), .sl (.int .i64)]
theorem Opn.clm {cs : List AV} (h : Opn clmS cs) : ∃ x : Clm, cs = clmC x ∧ x.Ok := by
  have h := h.inv_st
  obtain ⟨a0, b0, rfl, h0, h⟩ := h.inv_cons
  obtain ⟨a1, b1, rfl, h1, h⟩ := h.inv_cons
  obtain ⟨a2, b2, rfl, h2, h⟩ := h.inv_cons
  obtain ⟨a3, b3, rfl, h3, h⟩ := h.inv_cons
  have h := h.inv_nil; subst h
  obtain ⟨n0, w0, rfl⟩ := h0.inv_int
  obtain ⟨n1, w1, rfl⟩ := h1.inv_int
  obtain ⟨n2, rfl⟩ := h2.rt
  obtain ⟨n3, l3, w3, rfl⟩ := h3.inv_nums
  exact ⟨⟨n0, n1, n2, _⟩, by simp only [clmC, List.cons_append, List.nil_append, List.append_nil, List.append_assoc], ⟨w0, w1, ⟨n3, rfl, l3, w3⟩⟩⟩
structure Slg.Ok (x : Slg) : Prop where
  fst : x.fst.Ok
  snd : x.snd.Ok
abbrev slgS : Sh := .st [clmS, clmS]
theorem Opn.slg {cs : List AV} (h : Opn slgS cs) : ∃ x : Slg, cs = slgC x ∧ x.Ok := by
  have h := h.inv_st
  obtain ⟨a0, b0, rfl, h0, h⟩ := h.inv_cons
  obtain ⟨a1, b1, rfl, h1, h⟩ := h.inv_cons
  have h := h.inv_nil; subst h
  obtain ⟨n0, rfl, w0⟩ := h0.clm
  obtain ⟨n1, rfl, w1⟩ := h1.clm
  exact ⟨⟨n0, n1⟩, by simp only [slgC, List.cons_append, List.nil_append, List.append_nil, List.append_assoc], ⟨w0, w1⟩⟩
structure Tab.Ok (x : Tab) : Prop where
  cp : x.cp.Ok
  bals : ∃ ns : List Int, x.bals = .sl 1 false (nums .u64 ns) ∧ ns.length ≤ maxLen ∧ ∀ n ∈ ns, (Lit.int .u64 n).wf = true
abbrev tabS : Sh := .st [cpS, .sl (.int .u64)]
theorem Opn.tab {cs : List AV} (h : Opn tabS cs) : ∃ x : Tab, cs = tabC x ∧ x.Ok := by
  have h := h.inv_st
  obtain ⟨a0, b0, rfl, h0, h⟩ := h.inv_cons
  obtain ⟨a1, b1, rfl, h1, h⟩ := h.inv_cons
  have h := h.inv_nil; subst h
  obtain ⟨n0, rfl, w0⟩ := h0.cp
  obtain ⟨n1, l1, w1, rfl⟩ := h1.inv_nums
  exact ⟨⟨n0, _⟩, by simp only [tabC, List.cons_append, List.nil_append, List.append_nil, List.append_assoc], ⟨w0, ⟨n1, rfl, l1, w1⟩⟩⟩
structure Vdt.Ok (x : Vdt) : Prop where
  tag : (Lit.int .u64 x.tag).wf = true
  kind : (Lit.int .i64 x.kind).wf = true
abbrev vdtS : Sh := .st [.st [.int .u64], .int .i64, .arr 32 (.int .u8)]
theorem Opn.vdt {cs : List AV} (h : Opn vdtS cs) : ∃ x : Vdt, cs = vdtC x ∧ x.Ok := by
  have h := h.inv_st
  obtain ⟨a0, b0, rfl, h0, h⟩ := h.inv_cons
  obtain ⟨a1, b1, rfl, h1, h⟩ := h.inv_cons
  obtain ⟨a2, b2, rfl, h2, h⟩ := h.inv_cons
  have h := h.inv_nil; subst h
  obtain ⟨y0, z0, rfl, g0, q0⟩ := h0.inv_st.inv_cons
  have q0 := q0.inv_nil; subst q0
  obtain ⟨n0, w0, rfl⟩ := g0.inv_int
  obtain ⟨n1, w1, rfl⟩ := h1.inv_int
  obtain ⟨n2, rfl⟩ := h2.rt
  exact ⟨⟨n0, n1, n2⟩, by simp only [vdtC, List.cons_append, List.nil_append, List.append_nil, List.append_assoc], ⟨w0, w1⟩⟩
structure SOp.Ok (x : SOp) : Prop where
  kind : (Lit.int .i64 x.kind).wf = true
  blk : x.blk.Ok
  att : x.att.Ok
  slg : x.slg.Ok
  tab : x.tab.Ok
  vdt : x.vdt.Ok
  write : (Lit.int .i64 x.write).wf = true
  keep : (Lit.int .i64 x.keep).wf = true
abbrev sOpS : Sh := .st [.int .i64, blkS, attS, slgS, tabS, vdtS, .int .i64, .int .i64]
theorem Opn.sOp {cs : List AV} (h : Opn sOpS cs) : ∃ x : SOp, cs = sOpC x ∧ x.Ok := by
  have h := h.inv_st
  obtain ⟨a0, b0, rfl, h0, h⟩ := h.inv_cons
  obtain ⟨a1, b1, rfl, h1, h⟩ := h.inv_cons
  obtain ⟨a2, b2, rfl, h2, h⟩ := h.inv_cons
  obtain ⟨a3, b3, rfl, h3, h⟩ := h.inv_cons
  obtain ⟨a4, b4, rfl, h4, h⟩ := h.inv_cons
  obtain ⟨a5, b5, rfl, h5, h⟩ := h.inv_cons
  obtain ⟨a6, b6, rfl, h6, h⟩ := h.inv_cons
  obtain ⟨a7, b7, rfl, h7, h⟩ := h.inv_cons
  have h := h.inv_nil; subst h
  obtain ⟨n0, w0, rfl⟩ := h0.inv_int
  obtain ⟨n1, rfl, w1⟩ := h1.blk
  obtain ⟨n2, rfl, w2⟩ := h2.att
  obtain ⟨n3, rfl, w3⟩ := h3.slg
  obtain ⟨n4, rfl, w4⟩ := h4.tab
  obtain ⟨n5, rfl, w5⟩ := h5.vdt
  obtain ⟨n6, w6, rfl⟩ := h6.inv_int
  obtain ⟨n7, w7, rfl⟩ := h7.inv_int
  exact ⟨⟨n0, n1, n2, n3, n4, n5, n6, n7⟩, by simp only [sOpC, List.cons_append, List.nil_append, List.append_nil, List.append_assoc], ⟨w0, w1, w2, w3, w4, w5, w6, w7⟩⟩
end Go.FH

namespace Go.FH
set_option linter.unusedVariables false
set_option linter.unusedSimpArgs false
open Go Go.RowKit

theorem renLL_nil (ρ : Nat → Nat) : renLL ρ [] = [] := rfl
theorem wl0 : IntKind.i64.wrap ((0 : Int) + 1) = 1 := by decide
theorem wl1 : IntKind.i64.wrap ((1 : Int) + 1) = 2 := by decide
theorem wl2 : IntKind.i64.wrap ((2 : Int) + 1) = 3 := by decide
theorem wl3 : IntKind.i64.wrap ((3 : Int) + 1) = 4 := by decide
theorem wl4 : IntKind.i64.wrap ((4 : Int) + 1) = 5 := by decide
theorem wl5 : IntKind.i64.wrap ((5 : Int) + 1) = 6 := by decide
theorem wl6 : IntKind.i64.wrap ((6 : Int) + 1) = 7 := by decide
theorem nums_snoc (k : IntKind) (ns : List Int) (x : Int) : nums k ns ++ [[.int k x]] = nums k (ns ++ [x]) := by simp [nums]
attribute [go_sem] nums_snoc renLL_nil wl0 wl1 wl2 wl3 wl4 wl5 wl6
/-- A loop that ends within n rounds. -/
def Unr (P : Program) (nt k : Nat) (x : ACode) (Q : Ex → Fr → St → Prop) : Nat → Fr → St → Prop
  | 0, _, _ => False
  | n + 1, fr, σ => Tri P nt k x (thenQ (Unr P nt k x Q n) Q) fr σ
@[congr] theorem Unr_congr {P : Program} {nt k n : Nat} {c : ACode} {Q : Ex → Fr → St → Prop} {fr fr' : Fr} {σ σ' : St} (h1 : fr = fr') (h2 : σ = σ') : Unr P nt k c Q n fr σ = Unr P nt k c Q n fr' σ' := by rw [h1, h2]
section
variable {P : Program} {nt k : Nat} {fr : Fr} {σ : St}
theorem unr_s {x : ACode} {Q : Ex → Fr → St → Prop} {n : Nat} (h : Tri P nt k x (thenQ (Unr P nt k x Q n) Q) fr σ) : Unr P nt k x Q (n + 1) fr σ := h
theorem tri_unroll {x : ACode} {Q : Ex → Fr → St → Prop} (n : Nat) (h : Unr P nt k x Q n fr σ) : Tri P nt k (.loop x) Q fr σ := by
  refine tri_loop (fun m fr σ => Unr P nt k x Q m fr σ) n h ?_
  intro m fr1 σ1 h1
  cases m with
  | zero => exact h1.elim
  | succ m =>
    refine Tri.mono h1 fun e fr2 σ2 hq => ?_
    cases e with
    | normal => exact ⟨m, Nat.lt_succ_self m, hq⟩
    | exit _ => exact hq
    | ret => exact hq
end
end Go.FH
