/-
  The abstract walk, part 23: calls that touch objects; drawn orders evaluated. It holds of any program.
-/
import Derived.Test.YtachiahepppajaaBm
namespace Go.FH
set_option linter.unusedVariables false
set_option linter.unusedSimpArgs false
open Go Go.RowKit

section
variable {P : Program} {nt k : Nat} {fr : Fr} {σ : St}

theorem ACall.fact {f : FuncId} {rs : List ARes} {ac : ACode} {args : List AV} {r : AV} {σ' : St} (nv : Nat) (hf : aFun P f = some (nt, rs, ac)) (ha : args.length ≤ nt)
    (h : Tri P nt σ.length ac (FinQ rs σ.length σ' r) ⟨nv, args ++ List.replicate (nv - args.length) .dead, []⟩ σ) (hlen : σ.length ≤ σ'.length) : ACall P f args σ r σ' := by
  obtain ⟨fn, c, h1, h3, hn, h4, rfl, h5, h6⟩ := aFun_some hf
  exact ACall.of_body nv h1 h3 hn h4 (by simp) h5 h6 ha h hlen

/-- One after the other; what follows is kept out of sight. -/
theorem tri_seqH {x y : ACode} {Q : Ex → Fr → St → Prop} (h : ∀ N : Fr → St → Prop, (∀ fr σ, Tri P nt k y Q fr σ → N fr σ) → Tri P nt k x (thenQ N Q) fr σ) : Tri P nt k (.seq x y) Q fr σ :=
  tri_seq (h _ fun _ _ h => h)
theorem PC.toA {f : FuncId} {args : List AV} {r : AV} (h : PC P f args r) : ACall P f args [] r [] := h.call

theorem ACall.wk {f : FuncId} {xs args : List AV} {σs σs' : St} {r : AV} (h : ACall P f args σs r σs') (hw : WkL xs args) : ACall P f xs σs r σs' :=
  ⟨h.1, h.2.1, fun X loc w vs hr hv => h.2.2 X loc w vs hr (hw.rls hv)⟩
theorem WkL.refl : ∀ xs : List AV, WkL xs xs
  | [] => trivial
  | x :: xs => ⟨Wk.refl x, WkL.refl xs⟩
theorem pcallw {f : FuncId} {args args' caps : List AV} {r : AV} {K : AV → St → Prop} (h : PC P f args' r) (hw : WkL (args ++ caps) args') (hp : PuL (args ++ caps)) (hk : K r σ) : callStep P (.fn (.func f) caps) args σ K :=
  pcall ⟨h.call.wk hw, hp, h.pr⟩ hk
/-- A call on the objects js. -/
theorem ocall {f : FuncId} {xs caps args : List AV} {σs σs' : St} {r : AV} {K : AV → St → Prop} (js : List Nat) (h : ACall P f args σs r σs') (hx : xs ++ caps = renL (rn js σ.length) args) (hp : Picks σ js σs)
    (hk : K (ren (rn js σ.length) r) (afterCall σ js σs')) : callStep P (.fn (.func f) caps) xs σ K := ⟨args, σs, r, σs', js, h, hx, hp, hk⟩

def picksL (σ : St) (ρ : Nat → Nat) : List Nat → St → Prop
  | [], [] => True
  | j :: js, o :: os => σ[j]? = some (renO ρ o) ∧ picksL σ ρ js os
  | _, _ => False
theorem picksL.len {ρ : Nat → Nat} : ∀ {js : List Nat} {os : St}, picksL σ ρ js os → js.length = os.length
  | [], [], _ => rfl
  | _ :: _, _ :: _, h => by simp [picksL.len h.2]
  | [], _ :: _, h | _ :: _, [], h => h.elim
theorem picksL.get {ρ : Nat → Nat} : ∀ {js : List Nat} {os : St}, picksL σ ρ js os → ∀ i j : Nat, js[i]? = some j → σ[j]? = (os[i]?).map (renO ρ)
  | [], [], _, i, j, h => by simp at h
  | j' :: js, o :: os, h, i, j, hi => by
    cases i with
    | zero => simp only [List.getElem?_cons_zero, Option.some.injEq] at hi; subst hi; simpa using h.1
    | succ i => simpa using picksL.get h.2 i j (by simpa using hi)
  | [], _ :: _, h, _, _, _ | _ :: _, [], h, _, _, _ => h.elim
theorem Picks.mk' {js : List Nat} {σs : St} (hnd : js.Nodup) (h : picksL σ (rn js σ.length) js σs) : Picks σ js σs := by
  refine ⟨h.len, hnd, fun j hj => ?_, h.get⟩
  obtain ⟨i, hi, e⟩ := List.mem_iff_getElem.1 hj
  have h2 := h.get i j (by rw [List.getElem?_eq_getElem hi, e])
  have : i < σs.length := by rw [← h.len]; exact hi
  rw [List.getElem?_eq_getElem this] at h2
  exact (List.getElem?_eq_some_iff.1 h2).1

/-- Calls in regions that draw their order. -/
theorem dpcall {n : Nat} {f : FuncId} {args caps : List AV} {r : AV} {K : AV → List Nat → Bool → St → Prop} (h : PC P f (args ++ caps) r) (hk : K r [] false σ) :
    ∃ v ft wr σ', callD P n (.fn (.func f) caps) args σ v ft wr σ' ∧ K v ft wr σ' := by
  refine ⟨r, [], false, σ, ⟨args ++ caps, [], r, [], h.call, (h.pa.ren _).symm, rfl, (h.pr.ren _).symm, (afterCall_nil σ).symm, .inl ⟨⟨rfl, List.nodup_nil, by simp, fun i j hij => by simp at hij⟩, fun _ => rfl⟩⟩, hk⟩
theorem dpcallw {n : Nat} {f : FuncId} {args args' caps : List AV} {r : AV} {K : AV → List Nat → Bool → St → Prop} (h : PC P f args' r) (hw : WkL (args ++ caps) args') (hp : PuL (args ++ caps)) (hk : K r [] false σ) :
    ∃ v ft wr σ', callD P n (.fn (.func f) caps) args σ v ft wr σ' ∧ K v ft wr σ' := dpcall ⟨h.call.wk hw, hp, h.pr⟩ hk
theorem dcall {n : Nat} {f : FuncId} {xs caps args : List AV} {σs σs' : St} {r : AV} {K : AV → List Nat → Bool → St → Prop} (js : List Nat) (h : ACall P f args σs r σs') (hl : σs'.length = js.length) (hx : xs ++ caps = renL (rn js σ.length) args) (hp : Picks σ js σs)
    (hk : K (ren (rn js σ.length) r) js true (afterCall σ js σs')) : ∃ v ft wr σ', callD P n (.fn (.func f) caps) xs σ v ft wr σ' ∧ K v ft wr σ' :=
  ⟨_, js, true, _, ⟨args, σs, r, σs', h, hx, hl, rfl, rfl, .inl ⟨hp, fun hh => by cases hh⟩⟩, hk⟩
theorem dcallr {n : Nat} {f : FuncId} {xs caps args : List AV} {σs : St} {r : AV} {K : AV → List Nat → Bool → St → Prop} (js : List Nat) (h : ACall P f args σs r σs) (hx : xs ++ caps = renL (rn js σ.length) args) (hp : Picks σ js σs)
    (hk : K (ren (rn js σ.length) r) js false σ) : ∃ v ft wr σ', callD P n (.fn (.func f) caps) xs σ v ft wr σ' ∧ K v ft wr σ' :=
  ⟨_, js, false, σ, ⟨args, σs, r, σs, h, hx, hp.1.symm, rfl, (afterCall_same hp).symm, .inl ⟨hp, fun _ => rfl⟩⟩, hk⟩
theorem dcalls {n : Nat} {f : FuncId} {xs caps args : List AV} {σs σs' : St} {r : AV} {K : AV → List Nat → Bool → St → Prop} (js : List Nat) (h : ACall P f args σs r σs') (hl : σs'.length = js.length + 1) (hx : xs ++ caps = renL (rn (js ++ [n]) σ.length) args) (hp : PickS σ js (js ++ [n]) σs)
    (hk : K (ren (rn (js ++ [n]) σ.length) r) (js ++ [n]) true (afterCall σ (js ++ [n]) σs')) : ∃ v ft wr σ', callD P n (.fn (.func f) caps) xs σ v ft wr σ' ∧ K v ft wr σ' :=
  ⟨_, js ++ [n], true, _, ⟨args, σs, r, σs', h, hx, by simp [hl], rfl, rfl, .inr ⟨js, rfl, hp, rfl⟩⟩, hk⟩
theorem PickS.mk' {js J : List Nat} {σs : St} (hnd : J.Nodup) (hlt : ∀ j ∈ J, j < σ.length) (h : picksL σ (rn J σ.length) js σs) : PickS σ js J σs := ⟨h.len, hnd, hlt, h.get⟩

theorem resVal_nil (fr : Fr) (σ : St) : resVal fr σ [] = some [] := rfl
theorem resVal_cons (fr : Fr) (σ : St) (t : Nat) (r : List ARes) : resVal fr σ (.tmp t :: r) = (resVal fr σ r).map (fr.get t :: ·) := by simp only [resVal, resOne]; cases resVal fr σ r <;> rfl
theorem resVal_cell (fr : Fr) (σ : St) (t : Nat) (ag : Bool) (sz : Nat) (r : List ARes) : resVal fr σ (.cell t ag sz :: r) = match resOne fr σ (.cell t ag sz), resVal fr σ r with
    | some a, some b => some (a :: b)
    | _, _ => none := rfl

/-- How a body ends, all that it made handed on: js the objects that stay. -/
theorem finQw {rs : List ARes} {r : AV} {σ' : St} {l : List AV} (zs js : List Nat) (e : Ex) (he : ∀ i, e ≠ .exit i) (hl : resVal fr σ rs = some l) (hk : k ≤ js.length) (hfix : js.take k = List.range k) (hnd : js.Nodup) (hlt : ∀ j ∈ js, j < σ.length) (ho : objsOk σ zs (rn js σ.length) js σ')
    {r0 : AV} (hr : fz σ zs (resAV l) = ren (rn js σ.length) r0) (hw : Wk r0 r) : FinQ rs k σ' r e fr σ := by
  have : ∃ l zs js r0, resVal fr σ rs = some l ∧ Forget k σ zs js σ' ∧ k ≤ js.length ∧ fz σ zs (resAV l) = ren (rn js σ.length) r0 ∧ Wk r0 r := by
    refine ⟨l, zs, js, r0, hl, ⟨fun i hi => ?_, hnd, hlt, ho.len, ho.get⟩, hk, hr, hw⟩
    have : (js.take k)[i]? = some i := by rw [hfix]; simp [hi]
    rwa [List.getElem?_take, if_pos hi] at this
  cases e with
  | exit i => exact absurd rfl (he i)
  | normal | ret => exact this
theorem finQ {rs : List ARes} {r : AV} {σ' : St} {l : List AV} (zs js : List Nat) (e : Ex) (he : ∀ i, e ≠ .exit i) (hl : resVal fr σ rs = some l) (hk : k ≤ js.length) (hfix : js.take k = List.range k) (hnd : js.Nodup) (hlt : ∀ j ∈ js, j < σ.length) (ho : objsOk σ zs (rn js σ.length) js σ')
    (hr : fz σ zs (resAV l) = ren (rn js σ.length) r) : FinQ rs k σ' r e fr σ := finQw zs js e he hl hk hfix hnd hlt ho hr (Wk.refl r)
end

theorem evK : (∀ m ft wr, okH m [] ft wr = True) ∧ (∀ m H wr, okH m H [] wr = True) ∧ (∀ m i f H ft, okH m ((i, f, false) :: H) ft false = okH m H ft false) := by
  refine ⟨fun m ft wr => ?_, fun m H wr => ?_, fun m i f H ft => ?_⟩
  · simp [okH]
  · simp [okH, compat]
  · simp [okH, compat]
def compatB (f1 : List Nat) (w1 : Bool) (f2 : List Nat) (w2 : Bool) : Bool := (!w1 && !w2) || f1.all fun i => !f2.contains i
def okHB (m : Nat) (H : Hist) (ft : List Nat) (wr : Bool) : Bool := H.all fun h => m.testBit h.1 || compatB h.2.1 h.2.2 ft wr
theorem okH_of {m : Nat} {H : Hist} {ft : List Nat} {wr : Bool} (h : okHB m H ft wr = true) : okH m H ft wr := by
  intro x hx
  have := List.all_eq_true.1 h x hx
  rw [Bool.or_eq_true] at this
  refine this.imp id fun h2 => ?_
  unfold compatB at h2
  rw [Bool.or_eq_true] at h2
  refine h2.imp (fun h3 => by simpa using h3) fun h3 i hi => ?_
  have := List.all_eq_true.1 h3 i hi
  simpa using this
end Go.FH
