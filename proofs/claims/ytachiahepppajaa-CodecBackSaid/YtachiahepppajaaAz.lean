/-
  The abstract walk, part 9: make, append, copy and the rest do what their abstract forms say. It holds of any program.
-/
import Derived.Test.YtachiahepppajaaAy
import Derived.Great.BuildSlice
namespace Go.FH
set_option linter.unusedVariables false
set_option linter.unusedSimpArgs false
open Go Go.RowKit

theorem EnvLe.same {E E' : Env} (h1 : E'.loc = E.loc) (h2 : E'.F = E.F) (h3 : E'.w.heap = E.w.heap) : EnvLe E E' :=
  ⟨fun id L h => by rw [h1]; exact h, by rw [h3]; exact Nat.le_refl _, fun b _ hb => ⟨by rw [h2]; exact hb, by rw [h3]⟩⟩

section
variable {X : Nat → Prop} {loc loc' : Nat → Option Loc} {σ σ' : St} {w w' : World} {n : Nat} {P : Program} {ρ : Operand → Value} {ρ' : Opd → AV} {K : AV → List Nat → Bool → St → Prop}
variable (hr : Rel X loc σ w) (hρ : OpdOk (envOf X loc σ w) ρ ρ')
include hr hρ

theorem snd_sliA {o : Oper} {t e : TypeId} {m : Nat} {x : Operand} {lo hi : Option Operand} {a : Opd} {lo' hi' : Option Opd} {ti : TypeInfo} (ho : o.op = .slice t x lo hi none) (ht : P.underlying t = some (.array m e)) (hti : P.info? e = some ti) (hm : m ≤ maxLen)
    (hx : convOpd x = some a) (hlo : convOpt lo = some lo') (hhi : convOpt hi = some hi') (h : opF n σ ρ' K (.sliA ti.size m a lo' hi')) : Snd X loc σ w n ((execOp ρ o).run P w) K := by
  simp only [opF] at h
  have hx' := hρ x a hx
  split at h
  · rename_i id oo hv
    rw [hv] at hx'
    obtain ⟨h0, h1, h2, h⟩ := h
    obtain ⟨L, g1, g2, g3⟩ := hx'
    have k1 := bnd_ok hρ hlo 0 h0
    have k2 := bnd_ok hρ hhi m (by omega)
    generalize hL : bndO ρ' ((0 : Nat) : Int) lo' = l at *
    generalize hH : bndO ρ' (m : Int) hi' = hh at *
    have a1 : (lo.map ρ = none ∧ l.toNat = 0) ∨ ∃ k, lo.map ρ = some (.int k l.toNat) := k1.imp (fun x => x.2) (fun x => x.2)
    have a2 : (hi.map ρ = none ∧ hh.toNat = m) ∨ ∃ k, hi.map ρ = some (.int k hh.toNat) := k2.imp (fun x => x.2) (fun x => x.2)
    obtain ⟨l, rfl⟩ := Int.eq_ofNat_of_zero_le h0
    obtain ⟨q, rfl⟩ := Int.eq_ofNat_of_zero_le (show 0 ≤ hh by omega)
    simp only [Int.toNat_natCast] at a1 a2 h
    have c1 : (l : Int) ≤ (q : Int) := h1
    have c2 : (q : Int) ≤ (m : Int) := h2
    have c3 : l ≤ q := by omega
    have c4 : q ≤ m := by omega
    have run : (execOp ρ o).run P w = .ok (.value (.slice (some (if m = l then ⟨L.blk, L.base + oo, none⟩ else ⟨L.blk, L.base + oo + l * ti.size, none⟩)) (q - l) (m - l))) w := by
      have e0 : (Instr.sliceAt t (ρ x) (lo.map ρ) (hi.map ρ) none).run P w = .ok (.slice (some (if m = l then ⟨L.blk, L.base + oo, none⟩ else ⟨L.blk, L.base + oo + l * ti.size, none⟩)) (q - l) (m - l)) w := by
        rw [g3]
        rcases a1 with ⟨e1, rfl⟩ | ⟨k, e1⟩ <;> rcases a2 with ⟨e2, rfl⟩ | ⟨k', e2⟩ <;>
          simp [Instr.sliceAt, Instr.sureAddr, Instr.sliceBounds, Instr.sliceBound, asIntOf, run_underlying ht, sizeOf, typeInfo, hti, e1, e2, c1, c2, c3, c4, add_at]
      simp only [execOp, ho, Sem.run_bind, Option.map_none]
      rw [e0]
      rfl
    refine Snd.of hr h run ⟨_, _, L, rfl, by omega, by omega, by simp, g1, g2, ?_⟩
    by_cases hc : m = l
    · left; omega
    · right; simp [hc, Nat.add_assoc]
  · exact h.elim

theorem snd_cpy {o : Oper} {t u e : TypeId} {d s : Operand} {a b : Opd} {ti : TypeInfo} (ho : o.op = .call { callee := .builtin .copy, args := #[d, s], argTypes := #[t, u] }) (ht : P.underlying t = some (.slice e)) (hti : P.info? e = some ti) (hpos : 0 < ti.size)
    (hd : convOpd d = some a) (hs : convOpd s = some b) (h : opF n σ ρ' K (.cpy ti.size a b)) : Snd X loc σ w n ((execOp ρ o).run P w) K := by
  simp only [opF] at h
  have hd' := hρ d a hd
  have hs' := hρ s b hs
  split at h
  · exact h.elim
  · rename_i ys hys
    obtain ⟨news, hsrc, hE, hf⟩ := src_of (P := P) hr (tx := t) (.inl ⟨e, ht⟩) hpos hys hs'
    have hlen := hsrc.len w
    have hexec : ∀ {ad : Option Addr} {len cap : Nat} {W : World}, ρ d = .slice ad len cap → ((match ad with | some a => storeCells a (news.take (min ys.length len * ti.size)) | none => pure () : Sem Unit)).run P w = .ok () W → (execOp ρ o).run P w = .ok (.value (.int .i64 (min ys.length len : Nat))) W := by
      intro ad len cap W k1 k2
      rw [exec_builtin ho]
      have h2 := hf (min ys.length len) (Nat.min_le_left _ _)
      have e0 : (Builtin.copy_ #[t, u] o.type #[ρ d, ρ s]).run P w = .ok (.int .i64 (min ys.length len : Nat)) W := by
        rw [k1]
        have hm : Nat.min ys.length len = min ys.length len := rfl
        cases ad with
        | none =>
          simp only [Sem.run_pure, Result.ok.injEq, true_and] at k2
          subst k2
          simp [Builtin.copy_, run_underlying ht, hlen, sizeOf, typeInfo, hti, hm, h2, goInt]
        | some ad =>
          simp only at k2
          simp [Builtin.copy_, run_underlying ht, hlen, sizeOf, typeInfo, hti, hm, h2, k2, goInt]
      simp only [builtin, List.map_toArray, List.map_cons, List.map_nil, Sem.run_bind]
      rw [e0]
      rfl
    have hnl : (news.take (min ys.length (0 : Nat) * ti.size)) = [] := by simp
    split at h
    · rename_i e' id off len hv
      rw [hv] at hd'
      obtain ⟨rfl, h⟩ := h
      obtain ⟨ad, cap, L, g1, g2, g3, g4, g5, g6⟩ := hd'
      split at h
      · rename_i e2 xs hσ
        obtain ⟨rfl, hle, h⟩ := h
        by_cases hz : min ys.length len = 0
        · have e0 : (news.take (min ys.length len * ti.size)) = [] := by rw [hz]; simp
          refine Snd.turned (σ' := σ.set id (.vec ti.size (xs.take off ++ ys.take (min ys.length len) ++ xs.drop (off + min ys.length len)))) ?_ (by simp) h (.inl (hexec g1 (W := w) ?_)) rfl
          · have e1 : xs.take off ++ ys.take (min ys.length len) ++ xs.drop (off + min ys.length len) = xs := by rw [hz]; simp
            rw [e1]
            have e9 : σ.set id (.vec ti.size xs) = σ := by
              apply List.ext_getElem?
              intro j
              by_cases hj : id = j
              · subst hj
                obtain ⟨hlt, hget⟩ := List.getElem?_eq_some_iff.1 hσ
                simp [hlt, hget]
              · rw [List.getElem?_set_ne hj]
            rw [e9]
            exact ⟨hr, fun _ h => h, Ev.refl _ _⟩
          · rw [e0]; cases ad <;> rfl
        · rcases g6 with g6 | ⟨g6, rfl, g7⟩
          · omega
          · rcases hr.vec hσ g5 with ⟨k0, _⟩ | ⟨_, cs, vs, ws, tt, k2, k3, k4, k5⟩
            · rw [g6] at k0; cases k0
            · have hvl := k5.length
              have hnl := hE.length
              have k6 := (hE.take (min ys.length len))
              have k7 := ((k5.take off).app k6).app (k5.drop (off + min ys.length len))
              have q1 : (off + min ys.length len) * ti.size ≤ vs.length := by rw [hvl]; exact Nat.mul_le_mul_right _ (by omega)
              rw [Nat.add_mul] at q1
              have q2 : min ys.length len * ti.size ≤ ys.length * ti.size := Nat.mul_le_mul_right _ (Nat.min_le_left _ _)
              have q3 : (news.take (min ys.length len * ti.size)).length = min ys.length len * ti.size := by simp; omega
              have e1 : vs.drop ((off + min ys.length len) * ti.size) = vs.drop (off * ti.size + (news.take (min ys.length len * ti.size)).length) := by rw [q3, Nat.add_mul]
              rw [e1] at k7
              have k9 := hr.putVec hσ g5 g6 k2 k3 k4 k7 (by simp; omega)
              rw [← splice_mid cs vs ws _ (off * ti.size) (by omega)] at k9
              refine Snd.turned k9 (by simp) h (.inl (hexec g1 ?_)) rfl
              have hst := run_storeCells_at (P := P) L.blk (L.base + off * ti.size) tt (news.take (min ys.length len * ti.size)) 0 _ w k2 (by simp; omega) (fun u hu => hsrc.one u (List.mem_of_mem_take hu))
              simp only [Nat.add_zero] at hst
              simpa [k3] using hst
      · exact h.elim
    · rename_i e' id off len hv
      rw [hv] at hd'
      obtain ⟨rfl, h⟩ := h
      obtain ⟨ad, cap, L, g1, g2, g3, g4, g5, g6, g7⟩ := hd'
      split at h
      · rename_i cs hσ
        obtain ⟨hle, h⟩ := h
        obtain ⟨_, k1, vs, tt, k2, k3⟩ := hr.var hσ g5
        have hvl := k3.length
        have hnl := hE.length
        have q2 : min ys.length len * ti.size ≤ ys.length * ti.size := Nat.mul_le_mul_right _ (Nat.min_le_left _ _)
        have q4 : min ys.length len * ti.size ≤ len * ti.size := Nat.mul_le_mul_right _ (Nat.min_le_right _ _)
        have q3 : (news.take (min ys.length len * ti.size)).length = min ys.length len * ti.size := by simp; omega
        have k6 := RlE.flat (hE.take (min ys.length len))
        have k7 := k3.spl k6 off
        by_cases hz : min ys.length len = 0
        · have e0 : (news.take (min ys.length len * ti.size)) = [] := by rw [hz]; simp
          refine Snd.turned (σ' := σ.set id (.var (spl cs off (ys.take (min ys.length len)).flatten))) ?_ (by simp) h (.inl (hexec g1 (W := w) ?_)) rfl
          · have e1 : spl cs off (ys.take (min ys.length len)).flatten = cs := by rw [hz]; simp [spl]
            rw [e1]
            have e2 : σ.set id (.var cs) = σ := by
              apply List.ext_getElem?
              intro j
              by_cases hj : id = j
              · subst hj
                obtain ⟨hlt, hget⟩ := List.getElem?_eq_some_iff.1 hσ
                simp [hlt, hget]
              · rw [List.getElem?_set_ne hj]
            rw [e2]
            exact ⟨hr, fun _ h => h, Ev.refl _ _⟩
          · rw [e0]; cases ad <;> rfl
        · rcases g7 with g7 | rfl
          · omega
          · refine Snd.turned (hr.putVar hσ g5 _ k7) (by simp) h (.inl (hexec g1 ?_)) rfl
            have hst := run_storeCells_at (P := P) L.blk (L.base + off) tt (news.take (min ys.length len * ti.size)) 0 _ w k2 (by simp; omega) (fun u hu => hsrc.one u (List.mem_of_mem_take hu))
            simp only [Nat.add_zero, k1, Nat.zero_add] at hst
            simpa [k1] using hst
      · exact h.elim
    · exact h.elim

theorem snd_b2s {o : Oper} {s d e : TypeId} {x : Operand} {a : Opd} (ho : o.op = .convert s d x) (hs : P.underlying s = some (.slice e)) (he : P.underlying e = some (.int .u8)) (hd : P.underlying d = some .string) (hx : convOpd x = some a)
    (h : opF n σ ρ' K (.b2s a)) : Snd X loc σ w n ((execOp ρ o).run P w) K := by
  simp only [opF] at h
  split at h
  · rename_i xs hxs0
    obtain ⟨hb, h⟩ := h
    have hx' := hρ x a hx
    have hns : ∀ q, ρ' a ≠ .str q := by rintro q hq; rw [hq] at hxs0; simp [rdB] at hxs0
    have hxs : rdS σ 1 (ρ' a) = some xs := by
      rw [← hxs0]
      cases hq : ρ' a <;> first | rfl | exact absurd hq (hns _)
    obtain ⟨news, hsrc, hE, hf⟩ := src_of (P := P) hr (tx := s) (.inl ⟨e, hs⟩) (Nat.one_pos) hxs hx'
    have hcells : news = (xs.map fun c => Value.int .u8 ((match c with | [.int .u8 m] => m | _ => 0 : Int))) := by
      clear hsrc hf hxs hxs0 h
      induction xs generalizing news with
      | nil => simpa [RlE] using hE
      | cons c cs ih =>
        obtain ⟨us, ws, rfl, h2, h3, h4⟩ := hE
        simp only [List.all_cons, Bool.and_eq_true] at hb
        rw [ih hb.2 _ h4]
        unfold isByte at hb
        split at hb
        · obtain ⟨u, us', rfl, _, hu, hus⟩ := h3
          simp only [Rl] at hu
          simp only [RlC] at hus
          subst hu; subst hus
          simp
        · simp at hb
    have hfull := hf xs.length (Nat.le_refl _)
    have hnl := hE.length
    rw [Nat.mul_one] at hfull hnl
    rw [List.take_of_length_le (by omega)] at hfull
    have hfold : ∀ (ns : List Int) (acc : ByteArray), (ns.foldl (fun r n => r.push (UInt8.ofNat n.toNat)) acc) = ⟨(acc.data.toList ++ ns.map fun n => UInt8.ofNat n.toNat).toArray⟩ := by
      intro ns
      induction ns with
      | nil => intro acc; simp
      | cons n ns ih =>
        intro acc
        rw [List.foldl_cons, ih]
        simp [ByteArray.push]
    have hval : (xs.map byOf) = (xs.map fun c => (match c with | [.int .u8 m] => m | _ => 0 : Int)).map fun n => UInt8.ofNat n.toNat := by
      rw [List.map_map]
      apply List.map_congr_left
      intro c hc
      have := List.all_eq_true.1 hb c hc
      unfold isByte at this
      split at this
      · rfl
      · cases this
    refine Snd.of hr h (v := .string ⟨(xs.map byOf).toArray⟩) ?_ rfl
    have hsl : (∃ ad cap, ρ x = .slice ad xs.length cap ∧ (ad = none → cap = 0) ∧ xs.length ≤ cap) := by
      clear hsrc hf h hE hnl hfull hcells
      generalize ρ' a = A at *
      cases A <;> simp only [rdS, reduceCtorEq] at hxs
      case str q => exact absurd rfl (hns q)
      case sl e' cl ys =>
        split at hxs
        · simp only [Option.some.injEq] at hxs; subst hxs
          obtain ⟨ad, m, cap, g1, g2, g3, g4, g5, g6, _⟩ := hx'
          subst g2
          exact ⟨ad, cap, g1, g6, g3⟩
        · cases hxs
      case hs e' id off len =>
        split at hxs
        · split at hxs
          · split at hxs
            · rename_i hle
              simp only [Option.some.injEq] at hxs
              obtain ⟨ad, cap, L, g1, g2, g3, g4, _⟩ := hx'
              have hl : xs.length = len := by rw [← hxs]; simp; omega
              exact ⟨ad, cap, by rw [hl]; exact g1, g4, by omega⟩
            · cases hxs
          · cases hxs
        · cases hxs
      case va e' id off len =>
        split at hxs
        · split at hxs
          · split at hxs
            · rename_i hle
              simp only [Option.some.injEq] at hxs
              obtain ⟨ad, cap, L, g1, g2, g3, g4, _⟩ := hx'
              have hl : xs.length = len := by rw [← hxs, length_chunk]
              exact ⟨ad, cap, by rw [hl]; exact g1, g4, by omega⟩
            · cases hxs
          · cases hxs
        · cases hxs
    obtain ⟨ad, cap, g1, g2, g3⟩ := hsl
    have hrun : (Conv.bytesToString (ρ x)).run P w = .ok (.string ⟨(xs.map byOf).toArray⟩) w := by
      cases ad with
      | none =>
        have h0 : xs = [] := List.eq_nil_of_length_eq_zero (by have := g2 rfl; omega)
        subst h0
        rw [g1]
        simp [Conv.bytesToString]
        rfl
      | some ad =>
        rw [g1] at hfull ⊢
        have hl : (loadCells ad xs.length).run P w = .ok ((xs.map fun c => (match c with | [.int .u8 m] => m | _ => 0 : Int)).map (Value.int .u8)).toArray w := by
          simp only [Builtin.firstCells, Nat.mul_one] at hfull
          rw [hfull, hcells]
          simp [List.map_map, Function.comp_def]
        rw [run_bytesToString w ad xs.length cap _ hl, hfold, hval]
        rfl
    rw [g1] at hrun
    have hcv : (convert s d (ρ x)).run P w = .ok (.string ⟨(xs.map byOf).toArray⟩) w := by
      rw [g1]
      simp only [convert, Sem.run_bind, run_underlying hs, run_underlying hd, run_underlying he, Result.andThen_ok, hrun]
    simp only [execOp, ho, Sem.run_bind]
    rw [hcv]
    rfl
  · exact h.elim

variable (hn : n < σ.length) (hg : loc n = none)
include hn hg
theorem snd_mk {o : Oper} {t e : TypeId} {l c : Operand} {a b : Opd} {z : List AV} {ti : TypeInfo} (ho : o.op = .makeSlice t l c) (ht : P.underlying t = some (.slice e)) (hz : zeroL P e = some z) (hti : P.info? e = some ti) (hpos : 0 < ti.size)
    (hl : convOpd l = some a) (hc : convOpd c = some b) (h : opF n σ ρ' K (.mk ti.size ti.bytes z a b)) : Snd X loc σ w n ((execOp ρ o).run P w) K := by
  simp only [opF] at h
  split at h
  · rename_i k1 x k2 y hx hy
    obtain ⟨h0, h1, h2, h3, h⟩ := h
    have hx' := hρ l a hl
    have hy' := hρ c b hc
    rw [hx] at hx'
    rw [hy] at hy'
    simp only [Rl] at hx' hy'
    obtain ⟨i, zv, hi, hzv, hzs, hzc⟩ := zeroL_spec hz
    rw [hti] at hi
    cases hi
    have hrun := run_make (P := P) w t e ti zv ht hti hzv k1 k2 x y h0 h1 h2 h3
    have hzl : zv.cells.toList.length = ti.size := by simpa using hzs
    have hcells : (madeCells zv.cells (y.toNat * ti.size)).toList = (List.replicate y.toNat zv.cells.toList).flatten := by
      have := range_cells zv.cells.toList (by omega) y.toNat
      rwa [hzl, Array.toArray_toList] at this
    have hsplit : (List.replicate y.toNat zv.cells.toList).flatten = (List.replicate x.toNat zv.cells.toList).flatten ++ (List.replicate (y.toNat - x.toNat) zv.cells.toList).flatten := by
      rw [← List.flatten_append, List.replicate_append_replicate]
      congr 2; omega
    refine Snd.alloc hr hn hg (.vec ti.size (List.replicate x.toNat z)) ⟨true, w.heap.size, 0, y.toNat * ti.size⟩ rfl rfl (.cells (madeCells zv.cells (y.toNat * ti.size)) e (0, 0)) (v := .slice (some ⟨w.heap.size, 0, none⟩) x.toNat y.toNat) h (fun E hE hw => ?_) ?_ (fun E hE => ?_)
    · refine .inr ⟨rfl, [], (List.replicate x.toNat zv.cells.toList).flatten, (List.replicate (y.toNat - x.toNat) zv.cells.toList).flatten, e, ?_, rfl, ?_, RlE.rep (RlC.ofCells E hzc) hzl _⟩
      · rw [hw, _root_.Go.heap_alloc_new]
        congr 2
        apply Array.toList_inj.1
        rw [hcells, hsplit]
        simp
      · have := congrArg List.length hcells
        rw [hsplit] at this
        simp only [Array.length_toList, size_madeCells] at this
        simpa using this.symm
    · simp only [execOp, ho, hx', hy', Sem.run_bind]
      rw [hrun]
      rfl
    · refine ⟨_, _, _, rfl, by omega, by simp only [maxLen]; omega, by simp, hE, .inr ⟨rfl, by simp, by simp⟩⟩
  · exact h.elim
end
end Go.FH
