/-
  The abstract walk, part 10: slice literals and append do what their abstract forms say. It holds of any program.
-/
import Derived.Test.YtachiahepppajaaAz
namespace Go.FH
set_option linter.unusedVariables false
set_option linter.unusedSimpArgs false
open Go Go.RowKit

section
variable {X : Nat → Prop} {loc loc' : Nat → Option Loc} {σ σ' : St} {w w' : World} {n : Nat} {P : Program} {ρ : Operand → Value} {ρ' : Opd → AV} {K : AV → List Nat → Bool → St → Prop}

/-- Only new blocks, and draws. -/
theorem Rel.grow (hr : Rel X loc σ w) (ev : Ev (fun _ => False) w w') : Rel X loc σ w' ∧ EnvLe (envOf X loc σ w) (envOf X loc σ w') := by
  have hev : Ev (liveB σ loc) w w' := ⟨ev.size, fun b hb _ => ev.blk b hb id, ev.os, ev.tape, ev.output⟩
  exact ⟨hr.change (fun _ _ h => h) hev (fun b hb => .inl hb) hr.beyond (fun j o h1 h2 => .inl ⟨h1, fun L h3 h4 => ev.blk _ (liveB.lt hr ⟨j, o, L, h1, h2, h3, h4, rfl⟩) id⟩) hr.apart,
    envLe_of hr (fun _ _ h => h) hev fun b hb => .inl hb⟩

theorem forb_new (hr : Rel X loc σ w) : ¬ forb X σ loc w.heap.size := by
  rintro (h | h)
  · exact absurd (hr.out _ h).1 (Nat.lt_irrefl _)
  · exact absurd (liveB.lt hr h) (Nat.lt_irrefl _)

theorem snd_bldS (hr : Rel X loc σ w) (hρ : OpdOk (envOf X loc σ w) ρ ρ') {o : Oper} {t e : TypeId} {m : Nat} {ps : Array (Nat × Operand)} {qs : List (Nat × Opd)} {z : List AV} {ti : TypeInfo} (ho : o.op = .buildSlice t m ps) (ht : P.underlying t = some (.slice e)) (hz : zeroL P e = some z) (hti : P.info? e = some ti)
    (hq : convPartsE ps.toList = some qs) (hpos : 0 < ti.size) (hsm : m * ti.size ≤ 2 ^ 24) (hmm : m ≤ maxLen) (h : opF n σ ρ' K (.bldS ti.size m z qs)) : Snd X loc σ w n ((execOp ρ o).run P w) K := by
  simp only [opF] at h
  obtain ⟨hok, h⟩ := h
  obtain ⟨i, zv, hi, hzv, hzs, hzc⟩ := zeroL_spec hz
  rw [hti] at hi
  cases hi
  obtain ⟨hl, hpq⟩ := convPartsE_len hq
  have hzl : zv.cells.toList.length = ti.size := by simpa using hzs
  have hz0 := RlE.rep (RlC.ofCells (envOf X loc σ w) hzc) hzl m
  have hcells : (madeCells zv.cells (m * ti.size)).toList = (List.replicate m zv.cells.toList).flatten := by
    have := range_cells zv.cells.toList (by omega) m
    rwa [hzl, Array.toArray_toList] at this
  obtain ⟨us', g1, g2⟩ := fillE_ok (E := envOf X loc σ w) ((ps.toList).map fun p => (p.1, ρ p.2)) (qs.map fun p => (p.1, ρ' p.2)) (List.replicate m z) _ hz0 (by simpa using hl) (fun j p q hj hq' => by
    obtain ⟨p0, hp0, rfl⟩ := List.getElem?_map .. ▸ hj |> Option.map_eq_some_iff.1
    obtain ⟨q0, hq0, rfl⟩ := List.getElem?_map .. ▸ hq' |> Option.map_eq_some_iff.1
    obtain ⟨k1, k2⟩ := hpq j p0 q0 hp0 hq0
    exact ⟨k1, hρ _ _ k2⟩) (by simpa using hok)
  have hgl := g2.length
  have hev : Ev (fun _ => False) w (w.alloc (.cells us'.toArray e)) := Ev.alloc _ _ _
  obtain ⟨hR, hle⟩ := hr.grow hev
  have hfl : ∀ (xs : List (List AV)) (l : List (Nat × AV)), (fillE xs l).length = xs.length := by
    intro xs l
    induction l generalizing xs with
    | nil => rfl
    | cons p l ih => obtain ⟨i, v⟩ := p; simp [fillE, ih]
  have hlen : (fillE (List.replicate m z) (qs.map fun p => (p.1, ρ' p.2))).length = m := by rw [hfl]; simp
  have hfill : Instr.fill (fun i => some (i * ti.size, ti.size)) ((Array.range (m * ti.size)).map (zv.cells[· % zv.cells.size]!)) (ps.map fun p => (p.1, ρ p.2)).toList = some us'.toArray := by
    have e1 : ((Array.range (m * ti.size)).map (zv.cells[· % zv.cells.size]!)) = ((List.replicate m zv.cells.toList).flatten).toArray := by
      apply Array.toList_inj.1
      rw [← hcells]
      rfl
    rw [e1, ← g1]
    simp
  have hval : (execOp ρ o).run P w = .ok (.value (.slice (some ⟨w.heap.size, 0, none⟩) m m)) (w.alloc (.cells us'.toArray e)) := by
    by_cases hm : m = 0
    · subst hm
      have hps : qs = [] := by
        cases qs with
        | nil => rfl
        | cons q qs => simp [partsE] at hok
      subst hps
      have hp0 : ps = #[] := by
        apply Array.toList_inj.1
        simpa using hl
      subst hp0
      have hu0 : us' = [] := by
        have := g2.length
        simp [fillE] at this
        exact this
      subst hu0
      simp [execOp, ho, Instr.buildSlice, run_underlying ht, sizeOf, typeInfo, hti, Instr.fill, newRow, newObj, Sem.run]
      have h9 : (Array.range 0).map (fun _ => (default : Value)) = #[] := by apply Array.toList_inj.1; simp
      rw [h9]
    · have hmp : ¬ m * ti.size = 0 := by
        intro h0
        rcases Nat.mul_eq_zero.1 h0 with h1 | h1 <;> omega
      have := run_buildSlice (P := P) w t e m (ps.map fun p => (p.1, ρ p.2)) us'.toArray ti zv ht hti hzv (by omega) hmp hfill
      simp only [execOp, ho, Sem.run_bind]
      rw [this]
      rfl
  refine ⟨_, [], false, σ, _, _, loc, h, .inl hval, ⟨fun _ _ h => h, hR, ?_, ⟨hev.size, fun b hb _ => hev.blk b hb id, rfl, rfl, rfl⟩, fun _ h => .inl h⟩, fun _ _ => rfl, rfl⟩
  refine ⟨_, _, _, rfl, hlen.symm, Nat.le_refl _, hmm, fun _ => rfl, by simp, .inr ⟨w.heap.size, 0, us', rfl, by simp, ?_, ?_, RlE.mono hle _ _ _ g2⟩⟩
  · exact forb_new hr
  · have hb : (w.alloc (.cells us'.toArray e)).heap[w.heap.size]? = some (.cells us'.toArray e (0, 0)) := _root_.Go.heap_alloc_new w _
    have hul : us'.length = m * ti.size := by rw [hgl, hlen]
    show range? (w.alloc (.cells us'.toArray e)) w.heap.size 0 (m * ti.size) = _
    rw [range_whole hb 0 (m * ti.size) (by omega)]
    simp [← hul]

/-- A new row behind an append. -/
theorem append_grow (hr : Rel X loc σ w) (hn : n < σ.length) (hg : loc n = none) (σ0 : St) (hσ0 : ∀ (id : Nat) (o : AObj), σ0[id]? = some o → o.live = true → σ[id]? = some o) (h0l : σ0.length = σ.length)
    {e : TypeId} {ti : TypeInfo} {zv : Value} {olds news : List Value} {zs : List (List AV)} (hpos : 0 < ti.size) (hzs : zv.cells.size = ti.size) (hE : RlE (envOf X loc σ w) ti.size zs (olds ++ news)) {q cap : Nat} (hq : q = zs.length) (hcap : q ≤ cap) (hmax : cap ≤ maxLen)
    {r : Result Next} {ft : List Nat} {wr : Bool} (hrun : r = .ok (.value (.slice (some ⟨w.heap.size, 0, none⟩) q cap)) (w.drew.alloc (.cells ((olds ++ news).toArray ++ Builtin.zeroCells zv.cells (cap - q)) e)))
    (h : K (.hs ti.size n 0 q) ft wr (σ0.set n (.vec ti.size zs))) : Snd X loc σ w n r K := by
  have hev : Ev (liveB σ loc) w (w.drew.alloc (.cells ((olds ++ news).toArray ++ Builtin.zeroCells zv.cells (cap - q)) e)) := (Ev.drew _ w).trans (Ev.alloc _ _ _) fun b _ h => h
  have hrows : ((olds ++ news).toArray ++ Builtin.zeroCells zv.cells (cap - q)).size = cap * ti.size := by
    have := hE.length
    rw [Array.size_append, size_zeroCells, hzs, List.size_toArray, this, ← hq, ← Nat.add_mul]
    congr 1; omega
  obtain ⟨g1, g2⟩ := hr.add hn hg (.vec ti.size zs) ⟨true, w.heap.size, 0, cap * ti.size⟩ _ hev σ0 hσ0 h0l (fun id o' L' k1 k2 k3 k4 => by
    have hlt := liveB.lt hr ⟨id, o', L', hσ0 _ _ k1 k2, k2, k3, k4, rfl⟩
    exact ⟨fun _ => Nat.ne_of_lt hlt, Below.heap_alloc w.drew _ L'.blk hlt⟩) (fun _ => .inr (Nat.le_refl _)) fun E hE' hw => by
      refine .inr ⟨rfl, [], olds ++ news, (Builtin.zeroCells zv.cells (cap - q)).toList, e, ?_, rfl, ?_, RlE.mono hE' _ _ _ hE⟩
      · rw [hw]
        have := _root_.Go.heap_alloc_new w.drew (.cells ((olds ++ news).toArray ++ Builtin.zeroCells zv.cells (cap - q)) e)
        have e2 : w.drew.heap.size = w.heap.size := rfl
        rw [e2] at this
        rw [this]
        congr 2
        apply Array.toList_inj.1
        simp
      · rw [← hrows]; simp; omega
  exact ⟨_, ft, wr, _, _, _, _, h, .inl hrun, ⟨locPut_keep hg _, g1, ⟨_, cap, ⟨true, w.heap.size, 0, cap * ti.size⟩, rfl, hcap, hmax, by simp, locPut_same _ _ _, .inr ⟨rfl, by simp, by simp⟩⟩, hev, g2⟩, fun id hid => locPut_ne _ _ _ hid, by simp [h0l]⟩

/-- There is room. -/
theorem append_room {t tx e : TypeId} {i : TypeInfo} (ty : TypeId) (ht : P.underlying t = some (.slice e)) (hi : P.info? e = some i) (base : Option Addr) (sLen sCap : Nat) {x : Value} {m : Nat} {news : List Value} (hs : Src P i.size tx x m news w) (hroom : sLen + m ≤ sCap) {W : World}
    (hst : (match base with | some a => storeCells (a.add (sLen * i.size)) news | none => pure () : Sem Unit).run P w = .ok () W) :
    (Builtin.append_ #[t, tx] ty #[.slice base sLen sCap, x]).run P w = .ok (.slice base (sLen + m) sCap) W := by
  cases base with
  | none =>
    simp only [Sem.run_pure, Result.ok.injEq, true_and] at hst
    subst hst
    rcases hs.kind with ⟨e', hk⟩ | hk <;> simp [Builtin.append_, run_underlying ht, run_underlying hk, sizeOf, typeInfo, hi, hs.len, hroom, hs.cells]
  | some a =>
    simp only at hst
    rcases hs.kind with ⟨e', hk⟩ | hk <;> simp [Builtin.append_, run_underlying ht, run_underlying hk, sizeOf, typeInfo, hi, hs.len, hroom, hs.cells, hst]
theorem snd_app (hr : Rel X loc σ w) (hρ : OpdOk (envOf X loc σ w) ρ ρ') (hn : n < σ.length) (hg : loc n = none) (hgn : ∀ o : AObj, σ[n]? = some o → o.live = false) {o : Oper} {t u e : TypeId} {s x : Operand} {a b : Opd} {z : List AV} {ti : TypeInfo} (ho : o.op = .call { callee := .builtin .append, args := #[s, x], argTypes := #[t, u] })
    (ht : P.underlying t = some (.slice e)) (hu : (∃ e', P.underlying u = some (.slice e')) ∨ P.underlying u = some .string) (hz : zeroL P e = some z) (hti : P.info? e = some ti) (hpos : 0 < ti.size)
    (hs : convOpd s = some a) (hx : convOpd x = some b) (h : opF n σ ρ' K (.app ti.size ti.bytes a b)) : Snd X loc σ w n ((execOp ρ o).run P w) K := by
  simp only [opF] at h
  obtain ⟨i, zv, hi, hzv, hzs, hzc⟩ := zeroL_spec hz
  rw [hti] at hi
  cases hi
  have hx' := hρ x b hx
  have hs' := hρ s a hs
  split at h
  · exact h.elim
  · rename_i ys hys
    obtain ⟨news, hsrc, hE, hf⟩ := src_of (P := P) hr (tx := u) hu hpos hys hx'
    have hexec : ∀ {r : Value} {W : World}, (Builtin.append_ #[t, u] o.type #[ρ s, ρ x]).run P w = .ok r W → (execOp ρ o).run P w = .ok (.value r) W := by
      intro r W k1
      rw [exec_builtin ho]
      simp only [builtin, List.map_toArray, List.map_cons, List.map_nil, Sem.run_bind]
      rw [k1]
      rfl
    have grow : ∀ {ad : Option Addr} {len cap : Nat} {zs : List (List AV)}, ρ s = .slice ad len cap → rdS σ ti.size (ρ' a) = some zs → zs.length = len → cap < len + ys.length → (len + ys.length) * ti.bytes ≤ 140737488355328 → len + ys.length ≤ 9223372036854775807 →
        ∃ olds, RlE (envOf X loc σ w) ti.size zs olds ∧ (execOp ρ o).run P w = .ok (.value (.slice (some ⟨w.heap.size, 0, none⟩) (len + ys.length) (grownCap w (len + ys.length) cap e))) (w.drew.alloc (.cells ((olds ++ news).toArray ++ Builtin.zeroCells zv.cells (grownCap w (len + ys.length) cap e - (len + ys.length))) e)) := by
      intro ad len cap zs k1 k2 k3 k4 k5 k6
      obtain ⟨olds, hso, hEo, _⟩ := src_of (P := P) hr (tx := t) (.inl ⟨e, ht⟩) hpos k2 hs'
      refine ⟨olds, hEo, hexec ?_⟩
      have hold := hso.cellsD
      rw [k3, k1] at hold
      rw [k1]
      exact run_append_grow_src w t u o.type e ti zv ht hti hzv ad len cap olds hold (ρ x) ys.length news hsrc k4 (by omega) (growslice_fits k4 k5)
    have hnl := hE.length
    split at h
    · rename_i e' cl xs hv
      obtain ⟨he, rfl, hne, hb, hm, h⟩ := h
      rw [hv] at hs'
      have hs2 := hs'
      obtain ⟨ad, q, cap, g1, rfl, g3, g4, g5, g6, g7⟩ := hs2
      obtain rfl := g5 rfl
      by_cases hroom : ys = []
      · have hx0 : xs = [] := hne.resolve_right fun h9 => h9 hroom
        subst hx0
        subst hroom
        have hnews : news = [] := by simpa [RlE] using hE
        subst hnews
        simp only [List.length_nil, Nat.add_zero, List.append_nil] at h g1 g6
        have hrun : (Builtin.append_ #[t, u] o.type #[ρ s, ρ x]).run P w = .ok (.slice ad 0 0) w := by
          rw [g1]
          have := append_room (P := P) (w := w) o.type ht hti ad 0 0 hsrc (Nat.le_refl _) (W := w) (by cases ad <;> rfl)
          simpa using this
        obtain ⟨k1, k2⟩ := hr.add hn hg (.vec ti.size []) ⟨false, 0, 0, 0⟩ w (Ev.refl _ _) σ (fun _ _ h _ => h) rfl (fun id o' L' _ _ _ _ => ⟨(fun h => by cases h), rfl⟩) (fun h => by cases h) (fun E _ _ => .inl ⟨rfl, rfl⟩)
        exact ⟨_, _, _, _, _, _, _, h, .inl (hexec hrun), ⟨locPut_keep hg _, k1, ⟨ad, 0, _, rfl, Nat.le_refl _, by simp [maxLen], fun _ => rfl, locPut_same _ _ _, .inl rfl⟩, Ev.refl _ _, k2⟩, fun id hid => locPut_ne _ _ _ hid, by simp⟩
      · have hyl : 0 < ys.length := by
          rcases Nat.eq_zero_or_pos ys.length with h0 | h0
          · exact absurd (List.eq_nil_of_length_eq_zero h0) hroom
          · exact h0
        have hrd : rdS σ ti.size (ρ' a) = some xs := by rw [hv]; simp [rdS, he]
        obtain ⟨olds, hEo, hrun⟩ := grow g1 hrd rfl (by omega) hb hm
        exact append_grow hr hn hg σ (fun _ _ h _ => h) rfl hpos hzs (hEo.app hE) (by simp) (grownCap_ge w _ _ e) (grownCap_le_maxLen w _ _ e (show _ ≤ 9223372036854775807 by omega)) hrun h
    · rename_i e' id off len hv
      obtain ⟨rfl, h⟩ := h
      split at h
      · rename_i e2 xs hσ
        obtain ⟨rfl, hle, hb, hm, h⟩ := h
        rw [hv] at hs'
        have hs2 := hs'
        obtain ⟨ad, cap, L, g1, g2, g3, g4, g5, g6⟩ := hs2
        have hidn : id ≠ n := by
          rintro rfl
          have := hgn _ hσ
          cases this
        have hdr : ((xs.drop off).take len).length = len := by simp; omega
        have hrd : rdS σ ti.size (ρ' a) = some ((xs.drop off).take len) := by rw [hv]; simp [rdS, hσ, hle]
        have h0l : (σ.set id .gone).length = σ.length := by simp
        have hσ0 : ∀ (j : Nat) (o : AObj), (σ.set id .gone)[j]? = some o → o.live = true → σ[j]? = some o := by
          intro j o' k1 k2
          rcases get_set σ id j .gone k1 with ⟨_, rfl, _⟩ | ⟨_, k3⟩
          · cases k2
          · exact k3
        by_cases hroom : len + ys.length ≤ cap
        · rcases g6 with g6 | ⟨g6, rfl, g7⟩
          · have hl0 : len = 0 := by omega
            have hy0 : ys = [] := List.eq_nil_of_length_eq_zero (by omega)
            subst hl0; subst hy0; subst g6
            have hnews : news = [] := by simpa [RlE] using hE
            subst hnews
            simp only [List.length_nil, Nat.add_zero, List.take_zero, List.append_nil] at h
            have hrun : (Builtin.append_ #[t, u] o.type #[ρ s, ρ x]).run P w = .ok (.slice ad 0 0) w := by
              rw [g1]
              have := append_room (P := P) (w := w) o.type ht hti ad 0 0 hsrc (Nat.le_refl _) (W := w) (by cases ad <;> rfl)
              simpa using this
            obtain ⟨k1, k2⟩ := hr.add hn hg (.vec ti.size []) ⟨false, 0, 0, 0⟩ w (Ev.refl _ _) (σ.set id .gone) hσ0 h0l (fun id o' L' _ _ _ _ => ⟨(fun h => by cases h), rfl⟩) (fun h => by cases h) (fun E _ _ => .inl ⟨rfl, rfl⟩)
            exact ⟨_, _, _, _, _, _, _, h, .inl (hexec hrun), ⟨locPut_keep hg _, k1, ⟨ad, 0, _, rfl, Nat.le_refl _, by simp [maxLen], fun _ => rfl, locPut_same _ _ _, .inl rfl⟩, Ev.refl _ _, k2⟩, fun id hid => locPut_ne _ _ _ hid, by simp⟩
          · rcases hr.vec hσ g5 with ⟨k0, _⟩ | ⟨_, cs, vs, ws, tt, k2, k3, k4, k5⟩
            · rw [g6] at k0; cases k0
            · have hvl := k5.length
              have q1 : (off + len) * ti.size ≤ vs.length := by rw [hvl]; exact Nat.mul_le_mul_right _ hle
              have q2 : L.base + (off + (len + ys.length)) * ti.size ≤ L.rows := Nat.le_trans (Nat.add_le_add_left (Nat.mul_le_mul_right _ (by omega)) _) g7
              have q3 : (off + (len + ys.length)) * ti.size = off * ti.size + len * ti.size + ys.length * ti.size := by rw [Nat.add_mul, Nat.add_mul, Nat.add_assoc]
              rw [Nat.add_mul] at q1
              have hst := run_storeCells_at (P := P) L.blk (L.base + off * ti.size + len * ti.size) tt news 0 _ w k2 (by simp only [List.size_toArray, k4]; omega) hsrc.one
              simp only [Nat.add_zero] at hst
              have hrun := append_room (P := P) (w := w) o.type ht hti (some ⟨L.blk, L.base + off * ti.size, none⟩) len cap hsrc hroom (by simp only [add_at]; exact hst)
              rw [← g1] at hrun
              have hlive : liveB σ loc L.blk := ⟨id, _, L, hσ, rfl, g5, g6, rfl⟩
              have hev := Ev.setRow (w := w) hlive (((cs ++ vs ++ ws).toArray.toList.take (L.base + off * ti.size + len * ti.size)) ++ news ++ ((cs ++ vs ++ ws).toArray.toList.drop (L.base + off * ti.size + len * ti.size + news.length))).toArray
              obtain ⟨m1, m2⟩ := hr.add hn hg (.vec ti.size ((xs.drop off).take len ++ ys)) ⟨true, L.blk, L.base + off * ti.size, L.rows⟩ _ hev (σ.set id .gone) hσ0 h0l (fun j o' L' p1 p2 p3 p4 => by
                have hj : j ≠ id := by
                  rintro rfl
                  rcases get_set σ j j .gone p1 with ⟨_, rfl, _⟩ | ⟨p5, _⟩
                  · cases p2
                  · exact p5 rfl
                have hne := hr.apart j id o' _ L' L hj (hσ0 _ _ p1 p2) hσ p2 rfl p3 g5 p4 g6
                exact ⟨fun _ => hne, setRow_other w L.blk L'.blk _ hne⟩) (fun _ => .inl hlive) fun E hE' hw => by
                  have r1 : (vs.take (off * ti.size)).length = off * ti.size := by simp; omega
                  have r2 : ((vs.drop (off * ti.size)).take (len * ti.size)).length = len * ti.size := by simp; omega
                  refine .inr ⟨rfl, cs ++ vs.take (off * ti.size), (vs.drop (off * ti.size)).take (len * ti.size) ++ news, (cs ++ vs ++ ws).drop (L.base + off * ti.size + len * ti.size + news.length), tt, ?_, ?_, ?_, RlE.mono hE' _ _ _ (((k5.drop off).take len).app hE)⟩
                  · rw [hw, setRow_get w k2]
                    congr 2
                    congr 1
                    have : (cs ++ vs ++ ws).take (L.base + off * ti.size + len * ti.size) = cs ++ vs.take (off * ti.size) ++ (vs.drop (off * ti.size)).take (len * ti.size) := by
                      rw [List.append_assoc cs vs ws, ← k3, Nat.add_assoc, List.take_append, List.take_of_length_le (Nat.le_add_right _ _), Nat.add_sub_cancel_left, List.take_append, Nat.sub_eq_zero_of_le (by omega), List.take_zero, List.append_nil, List.append_assoc, ← List.take_add]
                    simp only [List.toList_toArray]
                    rw [this]
                    simp [List.append_assoc]
                  · rw [List.length_append, r1, k3]
                  · rw [← k4]
                    simp only [List.length_append, List.length_drop, r1, r2]
                    rw [List.length_append, List.length_append] at k4
                    omega
              refine ⟨_, _, _, _, _, _, _, h, .inl (hexec hrun), ⟨locPut_keep hg _, m1, ⟨_, cap, _, rfl, hroom, g3, by simp, locPut_same _ _ _, .inr ⟨rfl, by simp, ?_⟩⟩, hev, m2⟩, fun id hid => locPut_ne _ _ _ hid, by simp⟩
              simp only [Nat.zero_add]
              rw [Nat.add_mul] at g7
              omega
        · obtain ⟨olds, hEo, hrun⟩ := grow g1 hrd hdr (by omega) hb hm
          refine append_grow hr hn hg (σ.set id .gone) hσ0 h0l hpos hzs (hEo.app hE) ?_ (grownCap_ge w _ _ e) (grownCap_le_maxLen w _ _ e (show _ ≤ 9223372036854775807 by omega)) hrun h
          rw [List.length_append, hdr]
      · exact h.elim
    · exact h.elim
end
end Go.FH
