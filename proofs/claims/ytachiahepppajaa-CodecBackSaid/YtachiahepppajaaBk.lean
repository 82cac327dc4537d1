/-
  The abstract walk, part 20: how a walk is set up: facts of bodies, pure values, calls, loops, what is dropped. It holds of any program.
-/
import Derived.Test.YtachiahepppajaaBj
namespace Go.FH
set_option linter.unusedVariables false
set_option linter.unusedSimpArgs false
open Go Go.RowKit

/-- A function's body in the abstract form. -/
def aFun (P : Program) (f : FuncId) : Option (Nat × List ARes × ACode) := match P.funcs[f]? with
  | some fn => if fn.name != "runtime.NumGoroutine" && decide (fn.results.toList.length ≤ 5) then (match fn.body with
    | some c => (match convC P fn.ntmps c, convRess P fn.results.toList with
      | some ac, some rs => some (fn.ntmps, rs, ac)
      | _, _ => none)
    | none => none) else none
  | none => none

mutual
/-- Values that name no object of the walk. -/
def Pu : AV → Prop
  | .agg cs | .tup cs | .fn _ cs => PuL cs
  | .sl _ _ xs | .elt _ xs _ _ => PuLL xs
  | .ptr _ _ | .hs _ _ _ _ | .va _ _ _ _ | .vp _ _ _ _ => False
  | _ => True
def PuL : List AV → Prop
  | [] => True
  | c :: cs => Pu c ∧ PuL cs
def PuLL : List (List AV) → Prop
  | [] => True
  | x :: xs => PuL x ∧ PuLL xs
end
theorem PuL_iff : ∀ {cs : List AV}, PuL cs ↔ ∀ c ∈ cs, Pu c
  | [] => by simp [PuL]
  | c :: cs => by simp [PuL, PuL_iff (cs := cs)]
theorem PuLL_iff : ∀ {xs : List (List AV)}, PuLL xs ↔ ∀ x ∈ xs, PuL x
  | [] => by simp [PuLL]
  | c :: cs => by simp [PuLL, PuLL_iff (xs := cs)]

mutual
theorem Pu.ren (ρ : Nat → Nat) : ∀ {v : AV}, Pu v → ren ρ v = v
  | .dead, _ | .bool _, _ | .int _ _, _ | .str _, _ | .nilp, _ | .nilf, _ => rfl
  | .agg cs, h | .tup cs, h | .fn _ cs, h => by simp only [Pu] at h; simp only [Go.FH.ren, PuL.ren ρ h]
  | .sl _ _ xs, h | .elt _ xs _ _, h => by simp only [Pu] at h; simp only [Go.FH.ren, PuLL.ren ρ h]
  | .ptr _ _, h | .hs _ _ _ _, h | .va _ _ _ _, h | .vp _ _ _ _, h => by simp only [Pu] at h
theorem PuL.ren (ρ : Nat → Nat) : ∀ {cs : List AV}, PuL cs → renL ρ cs = cs
  | [], _ => rfl
  | c :: cs, h => by simp only [PuL] at h; simp only [renL, Pu.ren ρ h.1, PuL.ren ρ h.2]
theorem PuLL.ren (ρ : Nat → Nat) : ∀ {xs : List (List AV)}, PuLL xs → renLL ρ xs = xs
  | [], _ => rfl
  | x :: xs, h => by simp only [PuLL] at h; simp only [renLL, PuL.ren ρ h.1, PuLL.ren ρ h.2]
end
mutual
theorem Pu.fz (σ : St) (zs : List Nat) : ∀ {v : AV}, Pu v → fz σ zs v = v
  | .dead, _ | .bool _, _ | .int _ _, _ | .str _, _ | .nilp, _ | .nilf, _ => rfl
  | .agg cs, h | .tup cs, h | .fn _ cs, h => by simp only [Pu] at h; simp only [Go.FH.fz, PuL.fz σ zs h]
  | .sl _ _ xs, h | .elt _ xs _ _, h => by simp only [Pu] at h; simp only [Go.FH.fz, PuLL.fz σ zs h]
  | .ptr _ _, h | .hs _ _ _ _, h | .va _ _ _ _, h | .vp _ _ _ _, h => by simp only [Pu] at h
theorem PuL.fz (σ : St) (zs : List Nat) : ∀ {cs : List AV}, PuL cs → fzL σ zs cs = cs
  | [], _ => rfl
  | c :: cs, h => by simp only [PuL] at h; simp only [fzL, Pu.fz σ zs h.1, PuL.fz σ zs h.2]
theorem PuLL.fz (σ : St) (zs : List Nat) : ∀ {xs : List (List AV)}, PuLL xs → fzLL σ zs xs = xs
  | [], _ => rfl
  | x :: xs, h => by simp only [PuLL] at h; simp only [fzLL, PuL.fz σ zs h.1, PuLL.fz σ zs h.2]
end

mutual
theorem ren_id : ∀ (v : AV), ren (fun i => i) v = v
  | .dead | .bool _ | .int _ _ | .str _ | .nilp | .nilf | .ptr _ _ | .hs _ _ _ _ | .va _ _ _ _ | .vp _ _ _ _ => rfl
  | .agg cs | .tup cs | .fn _ cs => by simp only [ren, renL_id cs]
  | .sl _ _ xs | .elt _ xs _ _ => by simp only [ren, renLL_id xs]
theorem renL_id : ∀ (cs : List AV), renL (fun i => i) cs = cs
  | [] => rfl
  | c :: cs => by simp only [renL, ren_id c, renL_id cs]
theorem renLL_id : ∀ (xs : List (List AV)), renLL (fun i => i) xs = xs
  | [] => rfl
  | x :: xs => by simp only [renLL, renL_id x, renLL_id xs]
end
theorem renO_id (o : AObj) : renO (fun i => i) o = o := by cases o <;> simp only [renO, renL_id, renLL_id]
theorem rn_nil (n : Nat) : rn [] n = fun i => n + i := by funext i; simp [rn]
theorem rn_range (n : Nat) : rn (List.range n) n = fun i => i := by
  funext i
  unfold rn
  rw [List.getD_eq_getElem?_getD]
  by_cases h : i < n
  · rw [List.getElem?_range h]; rfl
  · rw [List.getElem?_eq_none (by simp; omega)]; simp; omega

section
variable {P : Program} {nt k : Nat} {fr : Fr} {σ : St}

/-- A call that touches no object. -/
structure PC (P : Program) (f : FuncId) (args : List AV) (r : AV) : Prop where
  call : ACall P f args [] r []
  pa : PuL args
  pr : Pu r

/-- How the body of such a call ends: what it made is handed on for reading. -/
def PQ (rs : List ARes) (r : AV) : Ex → Fr → St → Prop
  | .exit _, _, _ => False
  | _, fr, σ => ∃ l, resVal fr σ rs = some l ∧ (fz σ (List.range σ.length) (resAV l) = r ∨ ∃ r0, fz σ (List.range σ.length) (resAV l) = r0 ∧ Pu r0 ∧ Wk r0 r)

theorem forget_all (σ : St) (zs : List Nat) : Forget 0 σ zs [] [] := ⟨fun i hi => by omega, List.nodup_nil, by simp, rfl, fun i o h => by simp at h⟩

theorem aFun_some {f : FuncId} {rs : List ARes} {ac : ACode} (hf : aFun P f = some (nt, rs, ac)) : ∃ fn c, P.funcs[f]? = some fn ∧ fn.body = some c ∧ callable P f = true ∧ convC P fn.ntmps c = some ac ∧ fn.ntmps = nt ∧
    fn.results.toList.length ≤ 5 ∧ convRess P fn.results.toList = some rs := by
  unfold aFun at hf
  split at hf
  · rename_i fn h1
    split at hf
    · rename_i h2
      simp only [Bool.and_eq_true, decide_eq_true_eq] at h2
      split at hf
      · rename_i c h3
        split at hf
        · rename_i ac' rs' h4 h6
          simp only [Option.some.injEq, Prod.mk.injEq] at hf
          obtain ⟨rfl, rfl, rfl⟩ := hf
          refine ⟨fn, c, h1, h3, ?_, h4, rfl, h2.2, h6⟩
          unfold callable; rw [h1]; simp only; rw [h3, h2.1]; rfl
        · cases hf
      · cases hf
    · cases hf
  · cases hf
theorem PC.fact {f : FuncId} {rs : List ARes} {ac : ACode} {args : List AV} {r : AV} (nv : Nat) (hf : aFun P f = some (nt, rs, ac)) (ha : args.length ≤ nt) (hp : PuL args) (hr : Pu r)
    (h : Tri P nt 0 ac (PQ rs r) ⟨nv, args ++ List.replicate (nv - args.length) .dead, []⟩ []) : PC P f args r := by
  refine ⟨?_, hp, hr⟩
  obtain ⟨fn, c, h1, h3, hn, h4, rfl, h5, h6⟩ := aFun_some hf
  refine ACall.of_body nv h1 h3 hn h4 (by simp) h5 h6 ha (Tri.mono h fun e fr' σ' hq => ?_) (Nat.le_refl _)
  cases e with
  | exit _ => exact hq.elim
  | normal | ret =>
    obtain ⟨l, q1, q2⟩ := hq
    rcases q2 with q2 | ⟨r0, q2, q3, q4⟩
    · exact ⟨l, _, [], r, q1, forget_all _ _, Nat.zero_le _, by rw [q2, hr.ren], Wk.refl r⟩
    · exact ⟨l, _, [], r0, q1, forget_all _ _, Nat.zero_le _, by rw [q2, q3.ren], q4⟩

theorem afterCall_nil (σ : St) : afterCall σ [] [] = σ := by simp [afterCall, putAll]

theorem pcall {f : FuncId} {args caps : List AV} {r : AV} {K : AV → St → Prop} (h : PC P f (args ++ caps) r) (hk : K r σ) : callStep P (.fn (.func f) caps) args σ K := by
  refine ⟨args ++ caps, [], r, [], [], h.call, (h.pa.ren _).symm, ⟨rfl, List.nodup_nil, by simp, fun i j hij => by simp at hij⟩, ?_⟩
  rw [h.pr.ren, afterCall_nil]
  exact hk

/-- Slots that are no longer needed. -/
def Fr.wipe (ds : List Nat) (fr : Fr) : Fr := ⟨fr.nv, ds.foldl (fun vs d => vs.set d .dead) fr.vs, []⟩
theorem getD_wipe (t : Nat) : ∀ (ds : List Nat) (vs : List AV), (ds.foldl (fun vs d => vs.set d .dead) vs).getD t .dead = .dead ∨ (ds.foldl (fun vs d => vs.set d .dead) vs).getD t .dead = vs.getD t .dead
  | [], vs => .inr rfl
  | d :: ds, vs => by
    rw [List.foldl_cons]
    rcases getD_wipe t ds (vs.set d .dead) with h | h
    · exact .inl h
    · by_cases hd : d = t
      · subst hd
        refine .inl (h.trans ?_)
        simp only [List.getD_eq_getElem?_getD, List.getElem?_set, if_true]
        split <;> simp
      · refine .inr (h.trans ?_)
        simp only [List.getD_eq_getElem?_getD, List.getElem?_set, hd, if_false]
theorem Fr.get_wipe (ds : List Nat) (fr : Fr) (t : Nat) : (fr.wipe ds).get t = .dead ∨ (fr.wipe ds).get t = fr.get t := by
  unfold Fr.wipe Fr.get
  simp only
  split
  · exact getD_wipe t ds fr.vs
  · exact .inl rfl
theorem tri_wipe {c : ACode} {Q : Ex → Fr → St → Prop} (ds : List Nat) (h : Tri P nt k c Q (fr.wipe ds) σ) : Tri P nt k c Q fr σ :=
  tri_slots _ (Fr.get_wipe ds fr) h

/-- A loop over a family of states. -/
theorem tri_loopF {ι : Type} {x : ACode} {Q : Ex → Fr → St → Prop} (F : ι → Fr) (S : ι → St) (μ : ι → Nat) (ok : ι → Prop) (ds : List Nat) (x0 : ι) (h0 : ok x0) (hfr : fr.wipe ds = F x0) (hσ : σ = S x0)
    (round : ∀ i, ok i → Tri P nt k x (thenQ (fun fr σ => ∃ j, ok j ∧ μ j < μ i ∧ fr.wipe ds = F j ∧ σ = S j) Q) (F i) (S i)) : Tri P nt k (.loop x) Q fr σ := by
  refine tri_wipe ds (tri_loop (fun m fr σ => ∃ i, ok i ∧ μ i = m ∧ (fr = F i ∨ fr.wipe ds = F i) ∧ σ = S i) (μ x0) ⟨x0, h0, rfl, .inl hfr, hσ⟩ ?_)
  rintro m fr1 σ1 ⟨i, h1, rfl, h2, rfl⟩
  have key : Tri P nt k x (thenQ (fun fr σ => ∃ m', m' < μ i ∧ ∃ i, ok i ∧ μ i = m' ∧ (fr = F i ∨ fr.wipe ds = F i) ∧ σ = S i) Q) (F i) (S i) := by
    refine Tri.mono (round i h1) fun e fr2 σ2 hq => ?_
    cases e with
    | normal => obtain ⟨j, q1, q2, q3, q4⟩ := hq; exact ⟨μ j, q2, j, q1, rfl, .inr q3, q4⟩
    | exit _ => exact hq
    | ret => exact hq
  rcases h2 with rfl | h2
  · exact key
  · rw [← h2] at key; exact tri_wipe ds key

/-- What may be forgotten, at once: slots, objects that become readable, numbers. -/
def GC (k : Nat) (fr : Fr) (σ : St) (fr2 : Fr) (σ2 : St) : Prop := ∃ zs js, Forget k σ zs js σ2 ∧ k ≤ js.length ∧ ∀ t, fr2.get t = .dead ∨ fz σ zs (fr.get t) = ren (rn js σ.length) (fr2.get t)
theorem tri_gc {c : ACode} {Q : Ex → Fr → St → Prop} {fr2 : Fr} {σ2 : St} (hg : GC k fr σ fr2 σ2) (h : Tri P nt k c Q fr2 σ2) : Tri P nt k c Q fr σ := by
  obtain ⟨zs, js, h1, h2, h3⟩ := hg
  exact tri_forget zs js fr2 σ2 h1 h2 h3 h
theorem tri_loopG {ι : Type} {x : ACode} {Q : Ex → Fr → St → Prop} (F : ι → Fr) (S : ι → St) (μ : ι → Nat) (ok : ι → Prop) (x0 : ι) (h0 : ok x0) (hgc : GC k fr σ (F x0) (S x0))
    (round : ∀ i, ok i → Tri P nt k x (thenQ (fun fr σ => ∃ j, ok j ∧ μ j < μ i ∧ GC k fr σ (F j) (S j)) Q) (F i) (S i)) : Tri P nt k (.loop x) Q fr σ := by
  refine tri_loop (fun m fr σ => ∃ i, ok i ∧ μ i = m ∧ GC k fr σ (F i) (S i)) (μ x0) ⟨x0, h0, rfl, hgc⟩ ?_
  rintro m fr1 σ1 ⟨i, h1, rfl, h2⟩
  refine tri_gc h2 (Tri.mono (round i h1) fun e fr2 σ2 hq => ?_)
  cases e with
  | normal => obtain ⟨j, q1, q2, q3⟩ := hq; exact ⟨μ j, q2, j, q1, rfl, q3⟩
  | exit _ => exact hq
  | ret => exact hq

def slotsOk (σ : St) (zs : List Nat) (ρ : Nat → Nat) : List AV → List AV → Prop
  | _, [] => True
  | x :: xs, y :: ys => (y = .dead ∨ fz σ zs x = ren ρ y) ∧ slotsOk σ zs ρ xs ys
  | [], y :: ys => y = .dead ∧ slotsOk σ zs ρ [] ys
theorem slotsOk.get {σ : St} {zs : List Nat} {ρ : Nat → Nat} : ∀ {xs ys : List AV}, slotsOk σ zs ρ xs ys → ∀ t, ys.getD t .dead = .dead ∨ fz σ zs (xs.getD t .dead) = ren ρ (ys.getD t .dead)
  | _, [], _, t => .inl (by simp)
  | x :: xs, y :: ys, h, t => by
    cases t with
    | zero => simpa using h.1
    | succ t => simpa using slotsOk.get h.2 t
  | [], y :: ys, h, t => by
    cases t with
    | zero => exact .inl (by simpa using h.1)
    | succ t => simpa using slotsOk.get h.2 t
def objsOk (σ : St) (zs : List Nat) (ρ : Nat → Nat) : List Nat → St → Prop
  | [], [] => True
  | j :: js, o :: os => (o = .gone ∨ (j ∉ zs ∧ (σ[j]?).map (fzO σ zs) = some (renO ρ o))) ∧ objsOk σ zs ρ js os
  | _, _ => False
theorem objsOk.len {σ : St} {zs : List Nat} {ρ : Nat → Nat} : ∀ {js : List Nat} {os : St}, objsOk σ zs ρ js os → os.length = js.length
  | [], [], _ => rfl
  | j :: js, o :: os, h => by simp [objsOk.len h.2]
  | [], _ :: _, h | _ :: _, [], h => h.elim
theorem objsOk.get {σ : St} {zs : List Nat} {ρ : Nat → Nat} : ∀ {js : List Nat} {os : St}, objsOk σ zs ρ js os → ∀ (i : Nat) (o : AObj), os[i]? = some o → o = .gone ∨ ∃ j, js[i]? = some j ∧ j ∉ zs ∧ (σ[j]?).map (fzO σ zs) = some (renO ρ o)
  | [], [], _, i, o, h => by simp at h
  | j :: js, o' :: os, h, i, o, ho => by
    cases i with
    | zero =>
      simp only [List.getElem?_cons_zero, Option.some.injEq] at ho
      subst ho
      rcases h.1 with h1 | h1
      · exact .inl h1
      · exact .inr ⟨j, rfl, h1.1, h1.2⟩
    | succ i => simpa using objsOk.get h.2 i o (by simpa using ho)
  | [], _ :: _, h, _, _, _ | _ :: _, [], h, _, _, _ => h.elim
theorem GC.mk' {nv : Nat} {vs vs2 : List AV} {ts : List (Nat × AV)} {σ2 : St} (zs js : List Nat) (hk : k ≤ js.length) (hfix : js.take k = List.range k) (hnd : js.Nodup) (hlt : ∀ j ∈ js, j < σ.length) (ho : objsOk σ zs (rn js σ.length) js σ2)
    (hs : slotsOk σ zs (rn js σ.length) vs vs2) : GC k ⟨nv, vs, ts⟩ σ ⟨nv, vs2, []⟩ σ2 := by
  refine ⟨zs, js, ⟨fun i hi => ?_, hnd, hlt, ho.len, ho.get⟩, hk, fun t => ?_⟩
  · have : (js.take k)[i]? = some i := by rw [hfix]; simp [hi]
    rwa [List.getElem?_take, if_pos hi] at this
  · unfold Fr.get
    simp only
    split
    · exact hs.get t
    · exact .inl rfl
end
end Go.FH
