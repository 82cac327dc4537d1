/-
  Laws on slices of bytes: clone, copy, conversion to a string, making. They hold of any program (but the contract of slices.Clone).
-/
import Derived.Test.YtkcgbcjiogpliaaProg
import Derived.Test.YtkcgbcjiogpliaaBase
import Derived.Deep.QuietTactic
import Derived.BigQuiet
import Derived.Lib.SliceRun
namespace Go.FH
open Go Go.RowKit
set_option linter.unusedVariables false
set_option linter.unusedSimpArgs false

def u8l (bs : List UInt8) : List Value := bs.map fun b => Value.int .u8 b.toNat
@[simp] theorem length_u8l (bs : List UInt8) : (u8l bs).length = bs.length := by simp [u8l]
theorem u8l_app (a b : List UInt8) : u8l (a ++ b) = u8l a ++ u8l b := by simp [u8l]
theorem u8l_take (a : List UInt8) (n : Nat) : (u8l a).take n = u8l (a.take n) := by simp [u8l, List.map_take]
theorem u8l_drop (a : List UInt8) (n : Nat) : (u8l a).drop n = u8l (a.drop n) := by simp [u8l, List.map_drop]
theorem u8l_get (bs : List UInt8) (j : Nat) (h : j < bs.length) : (u8l bs)[j]? = some (.int .u8 bs[j].toNat) := by simp [u8l, h]
theorem u8l_one (bs : List UInt8) : ∀ u ∈ u8l bs, u.oneCell' = true := by
  intro u hu
  simp only [u8l, List.mem_map] at hu
  obtain ⟨x, _, rfl⟩ := hu
  rfl
theorem u8l_inj {a b : List UInt8} (h : u8l a = u8l b) : a = b := by
  induction a generalizing b with
  | nil => cases b with | nil => rfl | cons y r => simp [u8l] at h
  | cons x l ih =>
    cases b with
    | nil => simp [u8l] at h
    | cons y r =>
      simp only [u8l, List.map_cons, List.cons.injEq, Value.int.injEq, true_and] at h
      obtain ⟨h1, h2⟩ := h
      have : x = y := UInt8.toNat_inj.1 (by exact_mod_cast h1)
      rw [this, ih h2]

/-- copy(dst, src) into a row of cells. -/
theorem run_copy {P : Program} (w : World) (ty dT sT e : TypeId) (hu : P.underlying dT = some (.slice e)) (hsz : (P.info? e).map (·.size) = some 1)
    (g off dLen dCap : Nat) (sp : Option Addr) (sLen sCap : Nat) (c : Array Value) (t : TypeId) (hg : rowOf? w g = some (c, t)) {S : Nat → Prop} {cs : List Value} (hs : Sl w S sp sLen sCap cs) (h1 : ∀ v ∈ cs, v.oneCell' = true) (hfit : off + dLen ≤ c.size) :
    (Builtin.copy_ #[dT, sT] ty #[.slice (some ⟨g, off, none⟩) dLen dCap, .slice sp sLen sCap]).run P w = .ok (.int .i64 ((min sLen dLen : Nat) : Int)) (w.setRow g (putRange c off (cs.take (min sLen dLen)))) := by
  obtain ⟨i, hi, hi1⟩ := Option.map_eq_some_iff.1 hsz
  have hl := hs.len
  have hrow := rowOf?_eq hg
  have hfc : (Builtin.firstCells 1 (min sLen dLen) (.slice sp sLen sCap)).run P w = .ok (cs.take (min sLen dLen)).toArray w := by
    cases sp with
    | none =>
      have := hs.nocap rfl
      have := hs.le
      have h0 : sLen = 0 := by omega
      subst h0
      simp [Builtin.firstCells]
    | some a =>
      have hlen : (cs.take (min sLen dLen)).length = min sLen dLen * 1 := by simp; omega
      refine run_firstCells_some (P := P) w 1 (min sLen dLen) a sLen sCap (cs.take (min sLen dLen)) hlen (fun j u hj => ?_)
      have hjl := (List.getElem?_eq_some_iff.1 hj).1
      rcases hs.addr with h0 | ⟨b, o, he, _, _, hc⟩
      · have := hs.le; simp at hjl; omega
      · simp only [Option.some.injEq] at he
        subst he
        have hadd : (⟨b, o, none⟩ : Addr).add j = ⟨b, o + j, none⟩ := by unfold Addr.add; split <;> simp_all
        rw [hadd]
        rw [List.getElem?_take] at hj
        split at hj
        · exact hc j u hj
        · cases hj
  have hst := run_storeCells_at P g off t (cs.take (min sLen dLen)) 0 c w hrow (by simp; omega) (fun v hv => h1 v (List.mem_of_mem_take hv))
  simp only [Nat.add_zero] at hst
  have hm : Nat.min sLen dLen = min sLen dLen := rfl
  simp only [Builtin.copy_, Sem.run_bind, run_underlying hu, Result.andThen_ok, Builtin.lenOf, Sem.run_pure, sizeOf, typeInfo, hi, hi1, hm, run_program, hfc, List.getElem?_toArray, List.getElem?_cons_zero, List.getElem?_cons_succ]
  rw [hst]
  simp [putRange, goInt]

theorem wl_copy {P : Program} {w : World} {ops : Array Oper} {rest : List Oper} {o : Oper} {a : Act} {Q : Exit → Act → World → Prop} (hgd : o.guard = none) (d s : Operand) (dT sT : TypeId)
    (ho : o.op = .call { callee := .builtin .copy, args := #[d, s], argTypes := #[dT, sT] }) {e : TypeId} (hu : P.underlying dT = some (.slice e)) (hsz : (P.info? e).map (·.size) = some 1)
    {g off dLen dCap : Nat} {sp : Option Addr} {sLen sCap : Nat} (hd : a.eval d = .slice (some ⟨g, off, none⟩) dLen dCap) (hsv : a.eval s = .slice sp sLen sCap)
    {c : Array Value} {t : TypeId} (hg : rowOf? w g = some (c, t)) {S : Nat → Prop} {cs : List Value} (hs : Sl w S sp sLen sCap cs) (h1 : ∀ v ∈ cs, v.oneCell' = true) (hfit : off + dLen ≤ c.size)
    (h : wpList P ops Q rest (a.put o.dst (.int .i64 ((min sLen dLen : Nat) : Int))) (w.setRow g (putRange c off (cs.take (min sLen dLen))))) : wpList P ops Q (o :: rest) a w := by
  refine wpList_plain hgd fun K hK => ?_
  unfold Oper.wp execOp
  simp only [ho, resolve, invoke, builtin, Sem.run_bind, Sem.run_pure, Result.andThen_ok, List.map_toArray, List.map_cons, List.map_nil, hd, hsv, run_copy w _ dT sT e hu hsz g off dLen dCap sp sLen sCap c t hg hs h1 hfit]
  exact hK _ _ h

/-- Fits only where the next operation is a call of the builtin copy. -/
theorem copy_guard {P : Program} {ops : Array Oper} {Q : Exit → Act → World → Prop} {dst : Option Tmp} {args : Array Operand} {tys : Array TypeId} {ty : TypeId} {pos : String} {aft : Array Edge} {g : Option (Nat × Bool)} {rest : List Oper} {a : Act} {w : World}
    (h : wpList P ops Q (⟨dst, .call { callee := .builtin .copy, args := args, argTypes := tys }, ty, pos, aft, g⟩ :: rest) a w) : wpList P ops Q (⟨dst, .call { callee := .builtin .copy, args := args, argTypes := tys }, ty, pos, aft, g⟩ :: rest) a w := h

/-- What a slice of bytes reads as. -/
def readBytes (w : World) : Value → Option (List UInt8)
  | .slice none _ _ => some []
  | .slice (some a) n _ => (List.range n).mapM fun i => match w.cell? (a.add i) with | some (.int .u8 z) => some (UInt8.ofNat z.toNat) | _ => none
  | _ => none
theorem readBytes_sl {w : World} {S : Nat → Prop} {a : Option Addr} {n cap : Nat} {bs : List UInt8} (h : Sl w S a n cap (u8l bs)) : readBytes w (.slice a n cap) = some bs := by
  have hl := h.len
  rw [length_u8l] at hl
  cases a with
  | none =>
    have := h.nocap rfl
    have := h.le
    have : bs = [] := List.eq_nil_of_length_eq_zero (by omega)
    subst this; rfl
  | some a =>
    have key : ∀ i, i < n → (match w.cell? (a.add i) with | some (.int .u8 z) => some (UInt8.ofNat z.toNat) | _ => none) = bs[i]? := by
      intro i hi
      rcases h.addr with h0 | ⟨b, off, he, _, _, hc⟩
      · have := h.le; omega
      · simp only [Option.some.injEq] at he
        subst he
        have hadd : (⟨b, off, none⟩ : Addr).add i = ⟨b, off + i, none⟩ := by unfold Addr.add; split <;> simp_all
        rw [hadd, hc i _ (u8l_get bs i (by omega))]
        simp [show i < bs.length by omega]
    show (List.range n).mapM _ = some bs
    have hm : ∀ (m : Nat), m ≤ n → (List.range m).mapM (fun i => match w.cell? (a.add i) with | some (.int .u8 z) => some (UInt8.ofNat z.toNat) | _ => none) = some (bs.take m) := by
      intro m
      induction m with
      | zero => intro _; simp
      | succ m ih =>
        intro hm
        rw [List.range_succ, List.mapM_append, ih (by omega)]
        have hk := key m (by omega)
        simp only [List.mapM_cons, List.mapM_nil, hk]
        rw [List.getElem?_eq_getElem (by omega), List.take_succ_eq_append_getElem (by omega)]
        rfl
    rw [hm n (Nat.le_refl _), List.take_of_length_le (by omega)]

def slowConv (P : Program) (s t : TypeId) (v : Value) (w : World) : Result Next := (do pure (Next.value (← convert s t v)) : Sem Next).run P w
/-- string(b). -/
@[go_sem] def convRes (P : Program) (s t : TypeId) (w : World) (v : Value) : Result Next :=
  match readBytes w v with
  | some bs => .ok (.value (.string ⟨bs.toArray⟩)) w
  | none => slowConv P s t v w
theorem mapM_cells {w : World} {a : Addr} {n : Nat} {bs : List UInt8} (h : (List.range n).mapM (fun i => match w.cell? (a.add i) with | some (.int .u8 z) => some (UInt8.ofNat z.toNat) | _ => none) = some bs) :
    ∃ ns : List Int, ns.length = n ∧ bs = ns.map (fun z => UInt8.ofNat z.toNat) ∧ ∀ i v, (ns.map (Value.int .u8))[i]? = some v → w.cell? (a.add i) = some v := by
  induction n generalizing bs with
  | zero => simp at h; subst h; exact ⟨[], rfl, rfl, by simp⟩
  | succ n ih =>
    rw [List.range_succ, List.mapM_append] at h
    simp only [List.mapM_cons, List.mapM_nil, bind, Option.bind_eq_some_iff, pure, Option.some.injEq] at h
    obtain ⟨l1, h1, l2, ⟨x, hx, y, rfl, rfl⟩, rfl⟩ := h
    obtain ⟨ns, hn, rfl, hc⟩ := ih h1
    cases hcell : w.cell? (a.add n) with
    | none => rw [hcell] at hx; simp at hx
    | some v =>
      rw [hcell] at hx
      cases v with
      | int k z =>
        cases k <;> simp at hx
        subst hx
        refine ⟨ns ++ [z], by simp [hn], by simp, fun i u hu => ?_⟩
        rw [List.map_append, List.getElem?_append] at hu
        split at hu
        · exact hc i u hu
        · rename_i hlt
          simp only [List.length_map] at hlt hu
          have hi : i = n := by
            have := (List.getElem?_eq_some_iff.1 hu).1
            simp at this; omega
          subst hi
          simp [hn] at hu
          rw [hcell, hu]
      | _ => simp at hx
theorem foldl_push (ns : List Int) (s : ByteArray) : ns.foldl (fun r n => r.push (UInt8.ofNat n.toNat)) s = ⟨s.data ++ (ns.map fun z => UInt8.ofNat z.toNat).toArray⟩ := by
  induction ns generalizing s with
  | nil => simp
  | cons z r ih =>
    rw [List.foldl_cons, ih]
    congr 1
    apply Array.toList_inj.1
    simp [ByteArray.push]
theorem exec_conv (P : Program) {s t e : TypeId} (hs : P.underlying s = some (.slice e)) (he : P.underlying e = some (.int .u8)) (hd : P.underlying t = some .string) (ρ : Operand → Value) (dst : Option Tmp) (x : Operand) (ty : TypeId) (pos : String) (aft : Array Edge) (g : Option (Nat × Bool)) (w : World) :
    (execOp ρ ⟨dst, .convert s t x, ty, pos, aft, g⟩).run P w = convRes P s t w (ρ x) := by
  have e0 : execOp ρ ⟨dst, .convert s t x, ty, pos, aft, g⟩ = (do pure (Next.value (← convert s t (ρ x))) : Sem Next) := rfl
  rw [e0]
  unfold convRes
  split
  · rename_i bs hb
    cases hx : ρ x with
    | slice a n cap =>
      rw [hx] at hb
      cases a with
      | none =>
        simp only [readBytes, Option.some.injEq] at hb
        subst hb
        rw [Sem.run_bind, run_convert_bytes_string w s t e none n cap hs he hd]
        rfl
      | some a =>
        obtain ⟨ns, hn, rfl, hc⟩ := mapM_cells hb
        have hl : (loadCells a n).run P w = .ok (ns.map (Value.int .u8)).toArray w := by
          have := run_loadCells_list (P := P) w a (ns.map (Value.int .u8)) hc
          rwa [List.length_map, hn] at this
        rw [Sem.run_bind, run_convert_bytes_string w s t e (some a) n cap hs he hd, run_bytesToString w a n cap ns hl, foldl_push, show ByteArray.empty.data = #[] from rfl, Array.empty_append]
        rfl
    | _ => rw [hx] at hb; simp [readBytes] at hb
  · rfl
theorem eq_str (a b : List UInt8) : ((⟨a.toArray⟩ : ByteArray).toList == (⟨b.toArray⟩ : ByteArray).toList) = decide (a = b) := by
  rw [ByteArray.toList_eq, ByteArray.toList_eq]
  rw [Bool.eq_iff_iff]
  simp
attribute [go_sem] eq_str
theorem bmk (bs : List UInt8) : (Array.replicate bs.length (0 : UInt8)).toList = List.replicate bs.length 0 := by simp
theorem zeros_u8 (n : Nat) : Array.replicate n (Value.int .u8 0) = u8c (List.replicate n 0) := by
  simp [u8c]
theorem u8c_toList (bs : List UInt8) : (u8c bs).toList = u8l bs := by simp [u8c, u8l]
theorem u8l_toArray (bs : List UInt8) : (u8l bs).toArray = u8c bs := rfl
end Go.FH

namespace Go.Proofs.Ytkcgbcjiogpliaa
open Go.RowKit Go.FH
set_option linter.unusedVariables false
set_option linter.unusedSimpArgs false
theorem elemU8 : Elem Try.prog 48 5 1 := ⟨Try.underlying48, by kernel_rfl⟩
@[go_sem ↓] theorem make_u8 (ρ : Operand → Value) (dst : Option Tmp) (l c : Operand) (ty : TypeId) (pos : String) (aft : Array Edge) (g : Option (Nat × Bool)) (w : World) :
    (execOp ρ ⟨dst, .makeSlice 48 l c, ty, pos, aft, g⟩).run Try.prog w = makeRes Try.prog 48 5 (.int .u8 0) 1 w (ρ l) (ρ c) := exec_make Try.prog Try.underlying48 rfl (.int .u8 0) rfl rfl rfl _ _ _ _ _ _ _ _ _
@[go_sem ↓] theorem conv_u8 (ρ : Operand → Value) (dst : Option Tmp) (x : Operand) (ty : TypeId) (pos : String) (aft : Array Edge) (g : Option (Nat × Bool)) (w : World) :
    (execOp ρ ⟨dst, .convert 48 9 x, ty, pos, aft, g⟩).run Try.prog w = convRes Try.prog 48 9 w (ρ x) := exec_conv Try.prog Try.underlying48 Try.underlying5 Try.underlying9 _ _ _ _ _ _ _ _

set_option maxHeartbeats 400000 in
theorem clone_any (a : Option Addr) (n cap : Nat) (S : Nat → Prop) (bs : List UInt8) (w : World) (h : Sl w S a n cap (u8l bs)) (hn : n ≤ 4000000) :
    Calls Try.prog 44 #[.slice a n cap] w (RetOwn w 5 (u8l bs)) := by
  have hq := fun (w : World) (a : Option Addr) (n c : Nat) => Lib.run_eql_slice_nil (P := Try.prog) w 48 5 a n c 0 0 Try.underlying48
  have H := Lib.hid h
  clear h
  cases a with
  | none =>
    have h0 := H.out.nocap rfl
    have h1 : n = 0 := by have := H.out.le; omega
    have h2 : bs = [] := List.eq_nil_of_length_eq_zero (by have := H.out.len; rw [length_u8l] at this; omega)
    subst h0 h1 h2
    go_enter Try.func44, Try.ntmps44
    go_wp2
    go_ret
    exact ⟨_, rfl, Own.nil _ _ _, Below.refl _ _⟩
  | some ad =>
    have hown0 : Own (w.alloc (.cells #[] 5)) w.heap.size 5 (.slice (some ⟨w.heap.size, 0, none⟩) 0 0) [] :=
      ⟨rfl, .inr ⟨w.heap.size, 0, #[], rfl, Nat.le_refl _, _root_.Go.heap_alloc_new _ _, Nat.le_refl _, by simp [maxLen], rfl, rfl⟩⟩
    have O := Lib.hid hown0
    clear hown0
    go_enter Try.func44, Try.ntmps44
    go_wp2_with (at_builtin; refine wl_append rfl _ _ 48 rfl elemU8 rfl O.out rfl (H.out.below (by exact (Below.refl _ _).alloc (Nat.le_refl _) _) (Nat.le_refl _)) (u8l_one _) ?_ ?_ ?_ ?_; (simp <;> omega); (simp <;> omega); (simp <;> omega); intro v1 w1 hown1 hb1 hg1)
    go_ret
    exact ⟨_, rfl, hown1, ((Below.refl _ _).alloc (Nat.le_refl _) _).trans hb1⟩
end Go.Proofs.Ytkcgbcjiogpliaa
