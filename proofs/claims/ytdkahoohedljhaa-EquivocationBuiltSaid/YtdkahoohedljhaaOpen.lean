/-
  What a call's arguments read as: byte arrays, slices of ints and of bytes, ints. It holds of any program.
-/
import Derived.Test.YtdkahoohedljhaaMa
import Derived.ProofKit
import Derived.OpenShut
import Derived.ChangeOld
namespace Go.FH
open Go Go.RowKit Go.ChangeShapes
set_option linter.unusedVariables false
section
variable {H : Type} {enc : TypeId × Value → H} {P : Program} {w : World} {base : Nat} {spare : Nat → Bool} {held : Bool}

theorem one_get {cs : List Value} {i : Nat} {v : Value} (h : (cs.drop i).take 1 = [v]) : cs[i]? = some v := by
  have : ((cs.drop i).take 1)[0]? = some v := by rw [h]; rfl
  rw [List.getElem?_take] at this
  simpa using this

def byteOf : Value → UInt8
  | Value.int _ z => UInt8.ofNat z.toNat
  | _ => 0
theorem byteOf_int (k : IntKind) (b : UInt8) : byteOf (.int k b.toNat) = b := by
  simp [byteOf]
theorem byte_int (z : Int) (h0 : 0 ≤ z) (h1 : z ≤ 255) : Value.int .u8 z = .int .u8 (UInt8.ofNat z.toNat).toNat := by
  have : (UInt8.ofNat z.toNat).toNat = z.toNat := by
    simp only [UInt8.toNat_ofNat']
    omega
  rw [this]
  congr 1
  omega

theorem open_u8s {t e : TypeId} {n fuel : Nat} {cs : List Value} {x : DataW H × List MemPlace} (ht : P.underlying t = some (.array n e)) (he : P.underlying e = some (.int .u8)) (hc : P.cellsOf e = 1) (hn : P.cellsOf t = n)
    (h : DataW.trod enc P w base spare held fuel t cs = some x) : ∃ r : List UInt8, r.length = n ∧ cs = (u8c r).toList := by
  obtain ⟨xs, m, rfl, rfl, hl, hx, hi⟩ := DataW.trod_array ht h
  rw [hn] at hl
  have each : ∀ i, i < n → ∃ b : UInt8, cs[i]? = some (.int .u8 b.toNat) := by
    intro i hin
    have h1 := hi i hin
    rw [hc, Nat.mul_one, List.getElem?_eq_getElem (by omega)] at h1
    obtain ⟨z, hz, _, hwf⟩ := DataW.trod_int he h1
    have hb := bounds_u8 hwf
    refine ⟨UInt8.ofNat z.toNat, ?_⟩
    rw [one_get hz, byte_int z hb.1 hb.2]
  refine ⟨cs.map byteOf, by simpa using hl, ?_⟩
  apply List.ext_getElem?
  intro i
  by_cases hin : i < n
  · obtain ⟨b, hb⟩ := each i hin
    simp only [u8c, List.map_map, List.getElem?_map, hb, Option.map_some, Function.comp, byteOf_int]
  · rw [List.getElem?_eq_none (by omega), List.getElem?_eq_none (by simp [u8c]; omega)]

theorem open_sl {t e : TypeId} {k : IntKind} {fuel : Nat} {cs : List Value} {x : DataW H × List MemPlace} (ht : P.underlying t = some (.slice e)) (he : P.underlying e = some (.int k)) (hc : P.cellsOf e = 1)
    (h : DataW.trod enc P w 0 (fun _ => true) held fuel t cs = some x) :
    ∃ (a : Option Addr) (n cap : Nat) (xs : List Int), cs = [.slice a n cap] ∧ Sl w (fun _ => True) a n cap (xs.map (Value.int k)) ∧ ∀ z ∈ xs, (Lit.int k z).wf = true := by
  rcases open_ints ht he hc h with ⟨rfl, _⟩ | ⟨a, len, cap, zs, rfl, _, hl, hm, hz, hx, hcell, hwf⟩
  · exact ⟨none, 0, 0, [], rfl, Sl.nil _ _, by simp⟩
  · obtain ⟨b, off, spot⟩ := a
    have hzc : zs.length = cap := by simpa using hz
    have hlen : len ≤ zs.length := by omega
    refine ⟨some ⟨b, off, spot⟩, len, cap, zs.take len, rfl, ⟨by simp; omega, hl, hm, by simp, ?_⟩, fun z hz => hwf z (List.mem_of_mem_take hz)⟩
    by_cases h0 : cap = 0
    · exact .inl h0
    · have hc0 := hcell 0 (by omega)
      have hspot : spot = none := by simpa [Addr.add] using World.cell?_spot hc0
      subst hspot
      refine .inr ⟨b, off, rfl, trivial, World.block_lt_of_cell? w _ hc0, fun j u hj => ?_⟩
      have hjl : j < len := by
        have := (List.getElem?_eq_some_iff.1 hj).1
        simp at this; omega
      have hcj := hcell j (by omega)
      have hadd : (⟨b, off, none⟩ : Addr).add j = ⟨b, off + j, none⟩ := by unfold Addr.add; split <;> simp_all
      rw [hadd] at hcj
      rw [hcj, ← hj]
      simp only [List.getElem?_map, List.getElem?_take, hjl, if_true]
      rw [List.getD_eq_getElem?_getD, List.getElem?_eq_getElem (by omega)]
      rfl
end
end Go.FH
