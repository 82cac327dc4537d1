/-
  The abstract walk, part 19: a region that draws its order, in the model. It holds of any program.
-/
import Derived.Test.YtachiahepppajaaBi
namespace Go.FH
set_option linter.unusedVariables false
set_option linter.unusedSimpArgs false
open Go Go.RowKit

theorem opF_any {n m : Nat} {σ : St} {ρ : Opd → AV} {K : AV → List Nat → Bool → St → Prop} {op : AOp} (h : op.allocs = false) (hs : opF n σ ρ K op) : opF m σ ρ K op := by
  cases op <;> first | exact hs | cases h

section
variable {P : Program} {C : Cx} {nt k : Nat} {fr : Fr} {σ : St} {loc : Nat → Option Loc} {a : Act} {w : World}

theorem guard_wanted {all : List Oper} {o : Oper} {ao : AOpr} (hc : convOpr P nt all o = some ao) (h : SR C nt k fr σ loc a w) {b : Bool} (hg : guardF ao.gd fr = some b) : Region.wanted o (yielded all.toArray a.tmps) = b := by
  rcases (convOpr_spec hc).2.2.2 with ⟨h1, h2⟩ | ⟨j, want, t, h1, h2, h3⟩
  · rw [h2] at hg
    simp only [guardF, Option.some.injEq] at hg
    simp [Region.wanted, h1, ← hg]
  · rw [h3] at hg
    simp only [guardF] at hg
    have hy : yielded all.toArray a.tmps j = match a.tmps[t]? with | some (.bool b) => some b | _ => none := by
      have : ((all.toArray[j]?).bind (·.dst)) = some t := by simpa using h2
      unfold yielded
      rw [this]
      simp only [Option.bind_some]
      cases a.tmps[t]? with
      | none => rfl
      | some v => cases v <;> rfl
    have hslot := h.frm t
    split at hg
    · rename_i c hb
      rw [hb] at hslot
      simp only [Rl] at hslot
      have ht : a.tmps[t]? = some (.bool c) := by
        rw [Array.getD_eq_getD_getElem?] at hslot
        cases hq : a.tmps[t]? with
        | none => rw [hq] at hslot; simp [undef] at hslot
        | some v => rw [hq] at hslot; simp at hslot; rw [hslot]
      simp only [Option.some.injEq] at hg
      rw [← hg]
      cases c <;> cases want <;> simp [Region.wanted, h1, hy, ht]
    · rename_i hb
      rw [hb] at hslot
      obtain ⟨vs, hv1, hv2⟩ := hslot
      simp only [RlS] at hv2
      subst hv2
      have : yielded all.toArray a.tmps j = none := by
        rw [hy]
        rw [Array.getD_eq_getD_getElem?] at hv1
        cases hq : a.tmps[t]? with
        | none => rfl
        | some v => rw [hq] at hv1; simp at hv1; rw [hv1]
      simp only [Option.some.injEq] at hg
      simp [Region.wanted, h1, this, ← hg]
    · cases hg

/-- One step of a region that draws its order. -/
theorem wp_StepD {Q : Exit → Act → World → Prop} {o : Oper} {ao : AOpr} {all : List Oper} (hc : convOpr P nt all o = some ao) {n : Nat} {v : AV} {ft : List Nat} {wr : Bool} {σ' : St} (K : Act → World → Prop)
    (hn : ao.op.allocs = true → n < σ.length ∧ loc n = none ∧ k ≤ n)
    (hK : ∀ loc' a' w', SR C nt k (fr.putO ao.dst v) σ' loc' a' w' → (∀ id, id < σ.length → (ao.op.allocs = false ∨ id ≠ n) → loc' id = loc id) → K a' w') (h : SR C nt k fr σ loc a w) (hop : StepD P n ao.op (Opd.ev fr) σ v ft wr σ') : o.wp P a w K Q := by
  have hs := convOpr_spec hc
  have hop' := hs.1
  have e2 := hs.2.1
  have hd := hs.2.2.1
  clear hs hc
  rw [e2] at hK
  by_cases hcall : ∃ g xs, ao.op = .call g xs
  · obtain ⟨g, xs, hg⟩ := hcall
    rw [hg] at hop hop'
    simp only [StepD] at hop
    obtain ⟨dst, op0, ty, pos, aft, gd⟩ := o
    simp only at hop' hd hK
    obtain ⟨c, rfl⟩ := convOp_call hop'
    simp only [convOp] at hop'
    obtain ⟨callee, args, ats⟩ := c
    unfold convCall at hop'
    split at hop'
    · rename_i f hcf
      simp only at hcf
      subst hcf
      split at hop'
      · rename_i g' ys h1 h2
        simp only [Option.some.injEq, AOp.call.injEq] at hop'
        obtain ⟨rfl, rfl⟩ := hop'
        unfold callD at hop
        split at hop
        · rename_i f' caps hcaps
          obtain ⟨args', σs, r, σs', k1, k2, k4, rfl, rfl, k5⟩ := hop
          have hv := h.opd f g' h1
          rw [hcaps] at hv
          obtain ⟨cvs, hv1, hv2⟩ := hv
          have hxs := convOpds_eval h.opd h2
          have hall := hxs.app hv2
          rw [k2] at hall
          have hrun := resolve_run (P := P) (w := w) (xs := args) (ats := ats) (ty := ty) hv1 k1.1 dst pos aft gd
          unfold Oper.wp
          rw [hrun, Oper.upon_enter]
          have e3 : (args.map a.eval ++ cvs.toArray) = (List.map a.eval args.toList ++ cvs).toArray := by
            apply Array.toList_inj.1
            simp
          rw [e3]
          rcases k5 with ⟨k3, _⟩ | ⟨js, rfl, k3, _⟩
          · have hfr := ACall.frame k1 h.rel k3 hall
            refine hfr.mono fun e w' ⟨v, loc', he, ho, hk⟩ => ?_
            subst he
            refine hK loc' _ _ (h.step ho (fun id hid => hk id (Nat.lt_of_lt_of_le hid h.klen)) ?_ dst hd) fun id hid _ => hk id hid
            unfold afterCall; simp
          · obtain ⟨q1, q2, q3⟩ := hn (by rw [hg]; rfl)
            have hfr := ACall.frameS (n := n) k1 h.rel k3 q2 (by rw [k4]; simp) hall
            refine hfr.mono fun e w' ⟨v, loc', he, ho, hk⟩ => ?_
            subst he
            refine hK loc' _ _ (h.step ho (fun id hid => hk id (by omega)) ?_ dst hd) fun id hid hcs => hk id ?_
            · unfold afterCall; simp
            · rcases hcs with hcs | hcs
              · rw [hg] at hcs; cases hcs
              · exact hcs
        · exact hop.elim
      · cases hop'
    · exfalso
      revert hop'
      repeat' split
      all_goals simp
    · cases hop'
  · have hop2 : opF n σ (Opd.ev fr) (fun v1 f1 w1 t1 => v1 = v ∧ f1 = ft ∧ w1 = wr ∧ t1 = σ') ao.op := by
      unfold StepD at hop
      split at hop
      · rename_i g xs hg; exact absurd ⟨g, xs, hg⟩ hcall
      · exact hop
    clear hop
    have fin : ∀ {m : Nat}, (ao.op.allocs = false ∨ m = n) → (∀ id, id < k → id = m → False) → (ao.op.allocs = false → σ.length ≤ m) → Snd C.X loc σ w m ((execOp a.eval o).run P w) (fun v1 f1 w1 t1 => v1 = v ∧ f1 = ft ∧ w1 = wr ∧ t1 = σ') → o.wp P a w K Q := by
      intro m hm hkm hlm hsnd
      obtain ⟨av, f1, w1, s1, v', w', loc', ⟨rfl, rfl, rfl, rfl⟩, k2, k3, k4, k5⟩ := hsnd
      have h2 := h.step k3 (fun id hid => k4 id fun e => hkm id hid e) (by omega) o.dst hd
      have h3 : ∀ id, id < σ.length → (ao.op.allocs = false ∨ id ≠ n) → loc' id = loc id := by
        intro id hid hcase
        refine k4 id ?_
        rintro rfl
        cases ha : ao.op.allocs with
        | false => have := hlm ha; omega
        | true =>
          rcases hm with hm | hm
          · rw [ha] at hm; cases hm
          · rcases hcase with hcase | hcase
            · rw [ha] at hcase; cases hcase
            · exact hcase hm
      unfold Oper.wp
      rcases k2 with k2 | ⟨k2, rfl⟩
      · rw [k2]; exact hK _ _ _ h2 h3
      · rw [k2]; exact hK _ _ _ h2 h3
    by_cases hal : ao.op.allocs = true
    · obtain ⟨n1, n2, n3⟩ := hn hal
      refine fin (m := n) (.inr rfl) (fun id hid e => by omega) (fun h' => by rw [hal] at h'; cases h') (op_sound h.rel h.opd hop' (fun _ => ⟨n1, n2, fun o' ho' => ?_⟩) hop2)
      cases hl : o'.live with
      | false => rfl
      | true =>
        obtain ⟨L, h5, _⟩ := h.rel.obj n o' ho' hl
        rw [n2] at h5; cases h5
    · have hal' : ao.op.allocs = false := by simpa using hal
      exact fin (m := σ.length) (.inl hal') (fun id hid e => by have := h.klen; omega) (fun _ => Nat.le_refl _) (op_sound h.rel h.opd hop' (fun h' => absurd h' hal) (opF_any hal' hop2))

theorem convOprs_get {all : List Oper} : ∀ {l : List Oper} {al : List AOpr}, convOprs P nt all l = some al → al.length = l.length ∧ ∀ (i : Nat) (o : Oper) (ao : AOpr), l[i]? = some o → al[i]? = some ao → convOpr P nt all o = some ao
  | [], al, h => by simp only [convOprs, Option.some.injEq] at h; subst h; exact ⟨rfl, fun i o ao h => by simp at h⟩
  | o :: l, al, h => by
    simp only [convOprs] at h
    split at h
    · rename_i a r h1 h2
      simp only [Option.some.injEq] at h
      subst h
      obtain ⟨g1, g2⟩ := convOprs_get h2
      refine ⟨by simp [g1], fun i o' ao hi hj => ?_⟩
      cases i with
      | zero => simp at hi hj; subst hi; subst hj; exact h1
      | succ i => exact g2 i o' ao (by simpa using hi) (by simpa using hj)
    · cases h

theorem any_sound {ops : List Oper} {als : List AOpr} {bf : List Nat} {nb : Nat → Nat} {Q : Fr → St → Prop} {Q' : Exit → Act → World → Prop} (hc : convOprs P nt ops ops = some als)
    (hnb : ∀ (i j : Nat) (oi oj : AOpr), i ≠ j → als[i]? = some oi → als[j]? = some oj → oi.op.allocs = true → oj.op.allocs = true → nb i ≠ nb j) (hkb : ∀ i, k ≤ nb i)
    (hQ : ∀ fr' σ' loc' a' w', fr'.vs.length = fr'.nv → Q fr' σ' → SR C nt k fr' σ' loc' a' w' → Q' .normal a' w') : ∀ (f : Nat) (L : Array Bool) (H : Hist) (fr : Fr) (σ : St) (loc : Nat → Option Loc) (a : Act) (w : World),
      SR C nt k fr σ loc a w → fr.vs.length = fr.nv → L.size = ops.length → (∀ (i : Nat) (o : AOpr), als[i]? = some o → o.op.allocs = true → L.getD i true = false → nb i < σ.length ∧ loc (nb i) = none) → anyF P ops als bf nb Q f L H fr σ → wpAny P .any ops.toArray Q' f L a w
  | 0, L, H, fr, σ, loc, a, w, hs, hfr, hL, hr, h => ⟨h.1, hQ _ _ _ _ _ hfr h.2 hs⟩
  | f + 1, L, H, fr, σ, loc, a, w, hs, hfr, hL, hr, h => by
    refine ⟨fun h0 => hQ _ _ _ _ _ hfr (h.1 h0) hs, fun i hi => ?_⟩
    obtain ⟨o, h1, v, ft, wr, σ', h2, h3, h4⟩ := h.2 i hi
    obtain ⟨hlen, hget⟩ := convOprs_get hc
    have hil : i < ops.length := by rw [← hlen]; exact (List.getElem?_eq_some_iff.1 h1).1
    have hiL : L.getD i true = false := (ready_spec.1 hi).2.1
    have hoi : ops[i]? = some ops[i] := List.getElem?_eq_getElem hil
    have hci := hget i _ o hoi h1
    have hlenσ := (stepF_local h2).len
    unfold wpOp
    have hoi' : ops.toArray[i]? = some ops[i] := by simp
    rw [hoi']
    simp only
    have hres : ∀ (loc' : Nat → Option Loc), (∀ id, id < σ.length → (o.op.allocs = false ∨ id ≠ nb i) → loc' id = loc id) → ∀ (j : Nat) (oj : AOpr), als[j]? = some oj → oj.op.allocs = true → (L.setIfInBounds i true).getD j true = false → nb j < σ'.length ∧ loc' (nb j) = none := by
      intro loc' hl j oj hj ha hLj
      rw [getD_set_true] at hLj
      split at hLj
      · cases hLj
      · rename_i hne
        obtain ⟨m1, m2⟩ := hr j oj hj ha hLj
        refine ⟨by omega, ?_⟩
        rw [hl (nb j) m1 ?_, m2]
        cases hao : o.op.allocs with
        | false => exact .inl rfl
        | true =>
          refine .inr fun e => ?_
          have hij : j ≠ i := by
            rintro rfl
            exact hne ⟨rfl, by omega⟩
          exact hnb j i oj o hij hj h1 ha hao e
    unfold StepF at h2
    split at h2
    · rename_i hg
      rw [if_pos (guard_wanted hci hs hg)]
      refine .inl (wp_StepD hci _ (fun ha => ?_) (fun loc' a' w' k1 k2 => ?_) hs h2)
      · obtain ⟨m1, m2⟩ := hr i o h1 ha hiL
        exact ⟨m1, m2, hkb i⟩
      · exact any_sound hc hnb hkb hQ f _ _ _ _ loc' a' w' k1 (Fr.len_putO fr hfr _ _) (by simpa using hL) (hres loc' k2) h4
    · rename_i hg
      rw [if_neg (by rw [guard_wanted hci hs hg]; simp)]
      obtain ⟨rfl, rfl, rfl, rfl⟩ := h2
      have hd := convOpr_spec hci
      have hsk := hs.skip ops[i].dst hd.2.2.1
      rw [hd.2.1] at h4
      exact any_sound hc hnb hkb hQ f _ _ _ _ loc _ w hsk (Fr.len_putO fr hfr _ _) (by simpa using hL) (hres loc fun _ _ _ => rfl) h4
    · exact h2.elim

def allocsIn (l : List (AOpr × Nat)) : Nat := (l.filter fun p => p.1.op.allocs).length
theorem nbOf_lt {base : Nat} {als : List AOpr} {i : Nat} {o : AOpr} (h : als[i]? = some o) (ha : o.op.allocs = true) : nbOf base als i < base + (als.filter fun o => o.op.allocs).length := by
  unfold nbOf
  have h1 : i < als.length := (List.getElem?_eq_some_iff.1 h).1
  have e : als = als.take i ++ (o :: als.drop (i + 1)) := by
    rw [← (List.getElem?_eq_some_iff.1 h).2, List.getElem_cons_drop h1, List.take_append_drop]
  have : (als.filter fun o => o.op.allocs).length = ((als.take i).filter fun o => o.op.allocs).length + ((o :: als.drop (i + 1)).filter fun o => o.op.allocs).length := by
    conv => lhs; rw [e]
    rw [List.filter_append, List.length_append]
  rw [this, List.filter_cons, if_pos ha]
  simp
theorem nbOf_mono {base : Nat} {als : List AOpr} {i j : Nat} {o : AOpr} (h : als[i]? = some o) (ha : o.op.allocs = true) (hij : i < j) : nbOf base als i < nbOf base als j := by
  have h1 : (als.take j)[i]? = some o := by rw [List.getElem?_take, if_pos hij]; exact h
  have := nbOf_lt (base := base) h1 ha
  unfold nbOf at this ⊢
  rw [List.take_take, Nat.min_eq_left (by omega)] at this
  exact this
theorem nbOf_le {base : Nat} {als : List AOpr} {i : Nat} : base ≤ nbOf base als i := Nat.le_add_right _ _

theorem tri_dreg {l : List (AOpr × Nat)} {Q : Ex → Fr → St → Prop} (hfr : fr.vs.length = fr.nv) (h : aLex P l 0 σ.length [] (fun fr σ => Q .normal fr σ) fr (σ ++ List.replicate (allocsIn l) .gone)) : Tri P nt k (.dreg l) Q fr σ := by
  intro code hc C loc a w hs
  cases code <;> simp only [convC, reduceCtorEq] at hc
  case region id ops draw =>
    split at hc
    · rename_i als h1
      cases draw
      · simp only [Bool.false_eq_true, if_false, Option.some.injEq, reduceCtorEq] at hc
      · simp only [if_true] at hc
        split at hc
        · rename_i hcond
          obtain ⟨hok, hmix⟩ := hcond
          simp only [Option.some.injEq, ACode.dreg.injEq] at hc
          subst hc
          have hd := drawOk_spec hok
          have hal : allocsIn (als.zip (befs ops.toList [])) = (als.filter fun o => o.op.allocs).length := by
            unfold allocsIn
            have : als = (als.zip (befs ops.toList [])).map (·.1) := by
              rw [List.map_fst_zip]
              rw [hd.la, hd.lb]
              exact Nat.le_refl _
            conv => rhs; rw [this]
            rw [List.filter_map, List.length_map]
            rfl
          have hpad := hs.pad (allocsIn (als.zip (befs ops.toList [])))
          let Q2 : Fr → St → Prop := fun fr σ => ∃ fr0, FrEq fr0 fr ∧ Q .normal fr0 σ
          have hlex := lex_any (P := P) (Q2 := Q2) hd (fun fr fr2 σ he ⟨fr0, h2, h3⟩ => ⟨fr0, ⟨h2.lf, he.lg, fun t => (h2.eq t).trans (he.eq t)⟩, h3⟩) (fun fr σ hx hq => ⟨fr, .refl hx, hq⟩) σ.length (als.zip (befs ops.toList [])) 0 (Array.replicate ops.toList.length false) [] fr _
            (fun j => by rw [Nat.zero_add]) (by rw [List.length_zip, hd.la, hd.lb]; simp) (Nat.zero_le _) (by simp) (fun j hj => by have hj2 : j < ops.size := (by simpa using hj); simp [Array.getD_eq_getD_getElem?, Array.getElem?_replicate, hj2]) hfr (by simpa [nbOf] using h)
          refine wp_region_any hmix ?_
          have hlen : (als.zip (befs ops.toList [])).length = ops.size := by rw [List.length_zip, hd.la, hd.lb]; simp
          have hsd : SR C nt k fr (σ ++ List.replicate (allocsIn (als.zip (befs ops.toList []))) .gone) loc a { w with drawn := w.drawn + 1 } := by
            have hev : Ev (fun _ => False) w { w with drawn := w.drawn + 1 } := ⟨Nat.le_refl _, fun _ _ _ => rfl, rfl, rfl, rfl⟩
            obtain ⟨g1, g2⟩ := hpad.rel.grow hev
            exact ⟨g1, fun t => Rl.mono g2 _ _ (hpad.frm t), hpad.size, hpad.dfr, hpad.ev.trans hev (fun _ _ h => h.elim), hpad.old, hpad.pre, hpad.klen⟩
          have hfin := any_sound (C := C) (k := k) (Q := Q2) (Q' := fun ex a' w' => ∃ e fr' σ' loc', ex = Ex.to e ∧ Q e fr' σ' ∧ SR C nt k fr' σ' loc' a' w') (nb := nbOf σ.length als) h1
            (fun i j oi oj hij hi hj ha hb => by
              rcases Nat.lt_or_gt_of_ne hij with h9 | h9
              · exact Nat.ne_of_lt (nbOf_mono hi ha h9)
              · exact Nat.ne_of_gt (nbOf_mono hj hb h9)) (fun i => Nat.le_trans hs.klen nbOf_le)
            (fun fr' σ' loc' a' w' hx ⟨fr0, q1, q2⟩ q3 => ⟨.normal, fr0, σ', loc', rfl, q2, q3.slots fun t => .inr (q1.eq t)⟩)
            _ _ _ _ _ loc a _ hsd hfr (by simp) (fun i o hi ha _ => ⟨by rw [List.length_append, List.length_replicate, hal]; exact nbOf_lt hi ha, hs.rel.beyond _ nbOf_le⟩) hlex
          rw [hlen] at hfin
          simpa using hfin
        · cases hc
    · cases hc
  all_goals (exfalso; revert hc; (repeat' split) <;> intro hc <;> first | (cases hc; done) | (obtain ⟨_, _, hc⟩ := Option.map_eq_some_iff.1 hc; cases hc; done))
end
end Go.FH
