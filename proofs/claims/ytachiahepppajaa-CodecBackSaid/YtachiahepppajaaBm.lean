/-
  The abstract walk, part 22: the equations that a walk goes by. It holds of any program.
-/
import Derived.Test.YtachiahepppajaaBl
namespace Go.FH
set_option linter.unusedVariables false
set_option linter.unusedSimpArgs false
open Go Go.RowKit

theorem set_new (σ : St) (o : AObj) : (σ ++ [AObj.gone]).set σ.length o = σ ++ [o] := by
  rw [List.set_append_right _ _ (Nat.le_refl _)]; simp
theorem set_new2 (σ : St) (id : Nat) (o : AObj) : ((σ ++ [AObj.gone]).set id .gone).set σ.length o = σ.set id .gone ++ [o] := by
  by_cases h : id < σ.length
  · rw [List.set_append_left _ _ h, List.set_append_right _ _ (by simp)]; simp
  · rw [List.set_append_right _ _ (by omega), List.set_eq_of_length_le (by omega : σ.length ≤ id)]
    have : ([AObj.gone].set (id - σ.length) .gone) = [.gone] := by
      cases id - σ.length <;> rfl
    rw [this, set_new]
theorem get_new (σ : St) {id : Nat} (h : id < σ.length) : (σ ++ [AObj.gone])[id]? = σ[id]? := List.getElem?_append_left h

/-- Frames. -/
theorem evF :
    (∀ nv vs ts t, Fr.get ⟨nv, vs, ts⟩ t = if t < nv then vs.getD t .dead else look ts t) ∧
    (∀ nv vs ts t v, Fr.put ⟨nv, vs, ts⟩ t v = if t < nv then ⟨nv, vs.set t v, ts⟩ else ⟨nv, vs, (t, v) :: ts⟩) ∧
    (∀ f t v, Fr.putO f (some t) v = f.put t v) ∧ (∀ f v, Fr.putO f none v = f) ∧
    (∀ t k v r, look ((k, v) :: r) t = if t = k then v else look r t) ∧ (∀ t, look [] t = .dead) ∧
    (∀ ds nv vs ts, Fr.wipe ds ⟨nv, vs, ts⟩ = ⟨nv, ds.foldl (fun vs d => vs.set d .dead) vs, []⟩) ∧
    (∀ fr n, Opd.ev fr (.t n) = fr.get n) ∧ (∀ fr v, Opd.ev fr (.c v) = v) ∧
    (∀ (x : AV) xs v, (x :: xs).set 0 v = v :: xs) ∧ (∀ (x : AV) xs n v, (x :: xs).set (n + 1) v = x :: xs.set n v) ∧
    (∀ (x : AV) xs d, (x :: xs).getD 0 d = x) ∧ (∀ (x : AV) xs n d, (x :: xs).getD (n + 1) d = xs.getD n d) ∧
    (∀ (x : AV) xs d, (x :: xs).headD d = x) ∧ (∀ (xs : List AV), xs.drop 0 = xs) ∧ (∀ (x : AV) xs n, (x :: xs).drop (n + 1) = xs.drop n) ∧ (∀ (xs : List AV), xs.take 0 = []) ∧ (∀ (x : AV) xs n, (x :: xs).take (n + 1) = x :: xs.take n) ∧
    (∀ (x : AV), List.replicate 0 x = []) ∧ (∀ (x : AV) n, List.replicate (n + 1) x = x :: List.replicate n x) ∧
    (∀ (xs : List AV), [] ++ xs = xs) ∧ (∀ (x : AV) xs ys, (x :: xs) ++ ys = x :: (xs ++ ys)) ∧ (∀ (xs : List AV), xs ++ [] = xs) ∧
    (∀ (ds : List AV) (x : Nat) xs f, List.foldl f ds (x :: xs) = List.foldl f (f ds x) xs) ∧ (∀ (ds : List AV) (f : List AV → Nat → List AV), List.foldl f ds [] = ds) :=
  ⟨fun _ _ _ _ => rfl, fun _ _ _ _ _ => by simp only [Fr.put], fun _ _ _ => rfl, fun _ _ => rfl, fun _ _ _ _ => rfl, fun _ => rfl, fun _ _ _ _ => rfl, fun _ _ => rfl, fun _ _ => rfl, fun _ _ _ => rfl, fun _ _ _ _ => rfl, fun _ _ _ => rfl, fun _ _ _ _ => rfl, fun _ _ _ => rfl, fun _ => rfl, fun _ _ _ => rfl, fun _ => rfl, fun _ _ _ => rfl, fun _ => rfl, fun _ _ => rfl, fun _ => rfl, fun _ _ _ => rfl, fun _ => List.append_nil _, fun _ _ _ _ => rfl, fun _ _ => rfl⟩

/-- Regions. -/
theorem evR (P : Program) :
    (∀ Q fr σ, aRun P [] Q fr σ = Q fr σ) ∧
    (∀ d op r Q nv vs ts, aRun P (⟨d, op, none⟩ :: r) Q ⟨nv, vs, ts⟩ [] = aDo P op ⟨nv, vs, ts⟩ [] fun av σ' => aRun P r Q (Fr.putO ⟨nv, vs, ts⟩ d av) σ') ∧
    (∀ d op r Q nv vs ts o os, aRun P (⟨d, op, none⟩ :: r) Q ⟨nv, vs, ts⟩ (o :: os) = aDo P op ⟨nv, vs, ts⟩ (o :: os) fun av σ' => aRun P r Q (Fr.putO ⟨nv, vs, ts⟩ d av) σ') ∧
    (∀ d op g r Q nv vs ts, aRun P (⟨d, op, some g⟩ :: r) Q ⟨nv, vs, ts⟩ [] = aGd (some g) ⟨nv, vs, ts⟩ (fun fr => aDo P op fr [] fun av σ' => aRun P r Q (fr.putO d av) σ') (fun fr => aRun P r Q (fr.putO d (.tup [])) [])) ∧
    (∀ d op g r Q nv vs ts o os, aRun P (⟨d, op, some g⟩ :: r) Q ⟨nv, vs, ts⟩ (o :: os) = aGd (some g) ⟨nv, vs, ts⟩ (fun fr => aDo P op fr (o :: os) fun av σ' => aRun P r Q (fr.putO d av) σ') (fun fr => aRun P r Q (fr.putO d (.tup [])) (o :: os))) :=
  ⟨fun _ _ _ => rfl, fun _ _ _ _ _ _ _ => rfl, fun _ _ _ _ _ _ _ _ _ => rfl, fun _ _ _ _ _ _ _ _ => rfl, fun _ _ _ _ _ _ _ _ _ _ => rfl⟩
/-- A guard whose value is known. -/
def gdV (v : AV) (want : Bool) (t : Nat) (fr : Fr) (yes no : Fr → Prop) : Prop := match v with
  | .bool b => (b = want → yes (fr.put t (.bool want))) ∧ (b = !want → no (fr.put t (.bool !want)))
  | .tup [] => no fr
  | _ => False
theorem gdV_split {b want : Bool} {t : Nat} {fr : Fr} {yes no : Fr → Prop} (h1 : b = want → yes (fr.put t (.bool want))) (h2 : b = !want → no (fr.put t (.bool !want))) : gdV (.bool b) want t fr yes no := ⟨h1, h2⟩
theorem evQ :
    (∀ t want fr yes no, aGd (some (t, want)) fr yes no = gdV (fr.get t) want t fr yes no) ∧
    (∀ t fr yes no, gdV (.bool true) true t fr yes no = yes (fr.put t (.bool true))) ∧ (∀ t fr yes no, gdV (.bool false) true t fr yes no = no (fr.put t (.bool false))) ∧
    (∀ t fr yes no, gdV (.bool true) false t fr yes no = no (fr.put t (.bool true))) ∧ (∀ t fr yes no, gdV (.bool false) false t fr yes no = yes (fr.put t (.bool false))) ∧
    (∀ want t fr yes no, gdV (.tup []) want t fr yes no = no fr) ∧
    (∀ next Q fr σ, thenQ next Q .normal fr σ = next fr σ) ∧ (∀ next Q i fr σ, thenQ next Q (.exit i) fr σ = Q (.exit i) fr σ) ∧ (∀ next Q fr σ, thenQ next Q .ret fr σ = Q .ret fr σ) ∧
    (∀ id Q fr σ, inBlockQ id Q .normal fr σ = Q .normal fr σ) ∧ (∀ id Q fr σ, inBlockQ id Q .ret fr σ = Q .ret fr σ) ∧ (∀ id Q i fr σ, inBlockQ id Q (.exit i) fr σ = if i = id then Q .normal fr σ else Q (.exit i) fr σ) :=
  ⟨fun _ _ _ _ _ => rfl, fun _ _ _ _ => by simp [gdV], fun _ _ _ _ => by simp [gdV], fun _ _ _ _ => by simp [gdV], fun _ _ _ _ => by simp [gdV], fun _ _ _ _ _ => rfl, fun _ _ _ _ => rfl, fun _ _ _ _ _ => rfl, fun _ _ _ _ => rfl, fun _ _ _ _ => rfl, fun _ _ _ _ => rfl, fun _ _ _ _ _ => rfl⟩

/-! ### What is left alone -/
@[congr] theorem aRun_congr {P : Program} {r : List AOpr} {Q : Fr → St → Prop} {fr fr' : Fr} {σ σ' : St} (h1 : fr = fr') (h2 : σ = σ') : aRun P r Q fr σ = aRun P r Q fr' σ' := by rw [h1, h2]
@[congr] theorem aLex_congr {P : Program} {r : List (AOpr × Nat)} {Q : Fr → St → Prop} {i i' n n' : Nat} {H H' : Hist} {fr fr' : Fr} {σ σ' : St} (h0 : i = i') (h1 : n = n') (h2 : H = H') (h3 : fr = fr') (h4 : σ = σ') : aLex P r i n H Q fr σ = aLex P r i' n' H' Q fr' σ' := by rw [h0, h1, h2, h3, h4]
@[congr] theorem aDo_congr {P : Program} {op : AOp} {K : AV → St → Prop} {fr fr' : Fr} {σ σ' : St} (h1 : fr = fr') (h2 : σ = σ') : aDo P op fr σ K = aDo P op fr' σ' K := by rw [h1, h2]
@[congr] theorem aDoD_congr {P : Program} {n n' : Nat} {op : AOp} {K : AV → List Nat → Bool → St → Prop} {fr fr' : Fr} {σ σ' : St} (h0 : n = n') (h1 : fr = fr') (h2 : σ = σ') : aDoD P n op fr σ K = aDoD P n' op fr' σ' K := by rw [h0, h1, h2]
@[congr] theorem opF_same {n n' : Nat} {ρ : Opd → AV} {op : AOp} {K : AV → List Nat → Bool → St → Prop} {σ : St} (h0 : n = n') : opF n σ ρ K op = opF n' σ ρ K op := by rw [h0]
@[congr] theorem gdV_congr {v v' : AV} {want : Bool} {t : Nat} {fr : Fr} {yes no : Fr → Prop} (h : v = v') : gdV v want t fr yes no = gdV v' want t fr yes no := by rw [h]
@[congr] theorem aGd_congr {g : Option (Nat × Bool)} {fr fr' : Fr} {yes no : Fr → Prop} (h : fr = fr') : aGd g fr yes no = aGd g fr' yes no := by rw [h]
@[congr] theorem thenQ_congr {next : Fr → St → Prop} {Q : Ex → Fr → St → Prop} {e : Ex} {fr fr' : Fr} {σ σ' : St} (h1 : fr = fr') (h2 : σ = σ') : thenQ next Q e fr σ = thenQ next Q e fr' σ' := by rw [h1, h2]
@[congr] theorem inBlockQ_congr {id : Nat} {Q : Ex → Fr → St → Prop} {e : Ex} {fr fr' : Fr} {σ σ' : St} (h1 : fr = fr') (h2 : σ = σ') : inBlockQ id Q e fr σ = inBlockQ id Q e fr' σ' := by rw [h1, h2]
@[congr] theorem Tri_congr {P : Program} {nt k : Nat} {c : ACode} {Q : Ex → Fr → St → Prop} {fr fr' : Fr} {σ σ' : St} (h1 : fr = fr') (h2 : σ = σ') : Tri P nt k c Q fr σ = Tri P nt k c Q fr' σ' := by rw [h1, h2]
@[congr] theorem callStep_congr {P : Program} {g g' : AV} {xs xs' : List AV} {K : AV → St → Prop} {σ σ' : St} (h0 : g = g') (h1 : xs = xs') (h2 : σ = σ') : callStep P g xs σ K = callStep P g' xs' σ' K := by rw [h0, h1, h2]
@[congr] theorem isnStep_congr {neg : Bool} {x x' : AV} {K : AV → St → Prop} {σ σ' : St} (h1 : x = x') (h2 : σ = σ') : isnStep neg x σ K = isnStep neg x' σ' K := by rw [h1, h2]
@[congr] theorem PQ_congr {rs : List ARes} {r : AV} {e : Ex} {fr fr' : Fr} {σ σ' : St} (h1 : fr = fr') (h2 : σ = σ') : PQ rs r e fr σ = PQ rs r e fr' σ' := by rw [h1, h2]
@[congr] theorem FinQ_congr {rs : List ARes} {k : Nat} {τ : St} {r : AV} {e : Ex} {fr fr' : Fr} {σ σ' : St} (h1 : fr = fr') (h2 : σ = σ') : FinQ rs k τ r e fr σ = FinQ rs k τ r e fr' σ' := by rw [h1, h2]

/-- Drawn orders. -/
theorem evL (P : Program) :
    (∀ i n H Q fr σ, aLex P [] i n H Q fr σ = Q fr σ) ∧
    (∀ d op m r i n H Q nv vs ts, aLex P ((⟨d, op, none⟩, m) :: r) i n H Q ⟨nv, vs, ts⟩ [] = aDoD P n op ⟨nv, vs, ts⟩ [] fun av ft wr σ' => okH m H ft wr ∧ aLex P r (i + 1) (if op.allocs then n + 1 else n) (pushH i ft wr H) Q (Fr.putO ⟨nv, vs, ts⟩ d av) σ') ∧
    (∀ d op m r i n H Q nv vs ts o os, aLex P ((⟨d, op, none⟩, m) :: r) i n H Q ⟨nv, vs, ts⟩ (o :: os) = aDoD P n op ⟨nv, vs, ts⟩ (o :: os) fun av ft wr σ' => okH m H ft wr ∧ aLex P r (i + 1) (if op.allocs then n + 1 else n) (pushH i ft wr H) Q (Fr.putO ⟨nv, vs, ts⟩ d av) σ') ∧
    (∀ d op g m r i n H Q nv vs ts, aLex P ((⟨d, op, some g⟩, m) :: r) i n H Q ⟨nv, vs, ts⟩ [] = aGd (some g) ⟨nv, vs, ts⟩ (fun fr => aDoD P n op fr [] fun av ft wr σ' => okH m H ft wr ∧ aLex P r (i + 1) (if op.allocs then n + 1 else n) (pushH i ft wr H) Q (fr.putO d av) σ')
      (fun fr => aLex P r (i + 1) (if op.allocs then n + 1 else n) H Q (fr.putO d (.tup [])) [])) ∧
    (∀ d op g m r i n H Q nv vs ts o os, aLex P ((⟨d, op, some g⟩, m) :: r) i n H Q ⟨nv, vs, ts⟩ (o :: os) = aGd (some g) ⟨nv, vs, ts⟩ (fun fr => aDoD P n op fr (o :: os) fun av ft wr σ' => okH m H ft wr ∧ aLex P r (i + 1) (if op.allocs then n + 1 else n) (pushH i ft wr H) Q (fr.putO d av) σ')
      (fun fr => aLex P r (i + 1) (if op.allocs then n + 1 else n) H Q (fr.putO d (.tup [])) (o :: os))) :=
  ⟨fun _ _ _ _ _ _ => rfl, fun _ _ _ _ _ _ _ _ _ _ _ => rfl, fun _ _ _ _ _ _ _ _ _ _ _ _ _ => rfl, fun _ _ _ _ _ _ _ _ _ _ _ _ => rfl, fun _ _ _ _ _ _ _ _ _ _ _ _ _ _ => rfl⟩
theorem evD (P : Program) :
    (∀ x n nv vs ts σ K, aDoD P n (.mv x) ⟨nv, vs, ts⟩ σ K = opF n σ (Opd.ev ⟨nv, vs, ts⟩) K (.mv x)) ∧
    (∀ c a b n nv vs ts σ K, aDoD P n (.pick c a b) ⟨nv, vs, ts⟩ σ K = opF n σ (Opd.ev ⟨nv, vs, ts⟩) K (.pick c a b)) ∧
    (∀ op x y n nv vs ts σ K, aDoD P n (.bin op x y) ⟨nv, vs, ts⟩ σ K = opF n σ (Opd.ev ⟨nv, vs, ts⟩) K (.bin op x y)) ∧
    (∀ kd neg x y n nv vs ts σ K, aDoD P n (.eqv kd neg x y) ⟨nv, vs, ts⟩ σ K = opF n σ (Opd.ev ⟨nv, vs, ts⟩) K (.eqv kd neg x y)) ∧
    (∀ ks neg x y n nv vs ts σ K, aDoD P n (.eqa ks neg x y) ⟨nv, vs, ts⟩ σ K = opF n σ (Opd.ev ⟨nv, vs, ts⟩) K (.eqa ks neg x y)) ∧
    (∀ op x n nv vs ts σ K, aDoD P n (.un op x) ⟨nv, vs, ts⟩ σ K = opF n σ (Opd.ev ⟨nv, vs, ts⟩) K (.un op x)) ∧
    (∀ k x n nv vs ts σ K, aDoD P n (.cvt k x) ⟨nv, vs, ts⟩ σ K = opF n σ (Opd.ev ⟨nv, vs, ts⟩) K (.cvt k x)) ∧
    (∀ x n nv vs ts σ K, aDoD P n (.b2s x) ⟨nv, vs, ts⟩ σ K = opF n σ (Opd.ev ⟨nv, vs, ts⟩) K (.b2s x)) ∧
    (∀ x n nv vs ts σ K, aDoD P n (.nilc x) ⟨nv, vs, ts⟩ σ K = opF n σ (Opd.ev ⟨nv, vs, ts⟩) K (.nilc x)) ∧
    (∀ ag off sz x n nv vs ts σ K, aDoD P n (.fld ag off sz x) ⟨nv, vs, ts⟩ σ K = opF n σ (Opd.ev ⟨nv, vs, ts⟩) K (.fld ag off sz x)) ∧
    (∀ off x n nv vs ts σ K, aDoD P n (.fldA off x) ⟨nv, vs, ts⟩ σ K = opF n σ (Opd.ev ⟨nv, vs, ts⟩) K (.fldA off x)) ∧
    (∀ ag m e x i n nv vs ts σ K, aDoD P n (.idx ag m e x i) ⟨nv, vs, ts⟩ σ K = opF n σ (Opd.ev ⟨nv, vs, ts⟩) K (.idx ag m e x i)) ∧
    (∀ m e x i n nv vs ts σ K, aDoD P n (.idxA m e x i) ⟨nv, vs, ts⟩ σ K = opF n σ (Opd.ev ⟨nv, vs, ts⟩) K (.idxA m e x i)) ∧
    (∀ e x i n nv vs ts σ K, aDoD P n (.idxS e x i) ⟨nv, vs, ts⟩ σ K = opF n σ (Opd.ev ⟨nv, vs, ts⟩) K (.idxS e x i)) ∧
    (∀ i x n nv vs ts σ K, aDoD P n (.ext i x) ⟨nv, vs, ts⟩ σ K = opF n σ (Opd.ev ⟨nv, vs, ts⟩) K (.ext i x)) ∧
    (∀ st x n nv vs ts σ K, aDoD P n (.len st x) ⟨nv, vs, ts⟩ σ K = opF n σ (Opd.ev ⟨nv, vs, ts⟩) K (.len st x)) ∧
    (∀ x n nv vs ts σ K, aDoD P n (.cap x) ⟨nv, vs, ts⟩ σ K = opF n σ (Opd.ev ⟨nv, vs, ts⟩) K (.cap x)) ∧
    (∀ f caps n nv vs ts σ K, aDoD P n (.mkf f caps) ⟨nv, vs, ts⟩ σ K = opF n σ (Opd.ev ⟨nv, vs, ts⟩) K (.mkf f caps)) ∧
    (∀ z ps n nv vs ts σ K, aDoD P n (.bld z ps) ⟨nv, vs, ts⟩ σ K = opF n σ (Opd.ev ⟨nv, vs, ts⟩) K (.bld z ps)) ∧
    (∀ e m z ps n nv vs ts σ K, aDoD P n (.bldS e m z ps) ⟨nv, vs, ts⟩ σ K = opF n σ (Opd.ev ⟨nv, vs, ts⟩) K (.bldS e m z ps)) ∧
    (∀ ag sz x n nv vs ts σ K, aDoD P n (.ld ag sz x) ⟨nv, vs, ts⟩ σ K = opF n σ (Opd.ev ⟨nv, vs, ts⟩) K (.ld ag sz x)) ∧
    (∀ sz x y n nv vs ts σ K, aDoD P n (.sto sz x y) ⟨nv, vs, ts⟩ σ K = opF n σ (Opd.ev ⟨nv, vs, ts⟩) K (.sto sz x y)) ∧
    (∀ z n nv vs ts σ K, aDoD P n (.new z) ⟨nv, vs, ts⟩ σ K = opF n σ (Opd.ev ⟨nv, vs, ts⟩) K (.new z)) ∧
    (∀ sz x n nv vs ts σ K, aDoD P n (.box sz x) ⟨nv, vs, ts⟩ σ K = opF n σ (Opd.ev ⟨nv, vs, ts⟩) K (.box sz x)) ∧
    (∀ e bytes z l c n nv vs ts σ K, aDoD P n (.mk e bytes z l c) ⟨nv, vs, ts⟩ σ K = opF n σ (Opd.ev ⟨nv, vs, ts⟩) K (.mk e bytes z l c)) ∧
    (∀ e bytes s x n nv vs ts σ K, aDoD P n (.app e bytes s x) ⟨nv, vs, ts⟩ σ K = opF n σ (Opd.ev ⟨nv, vs, ts⟩) K (.app e bytes s x)) ∧
    (∀ e d s n nv vs ts σ K, aDoD P n (.cpy e d s) ⟨nv, vs, ts⟩ σ K = opF n σ (Opd.ev ⟨nv, vs, ts⟩) K (.cpy e d s)) ∧
    (∀ e x lo hi mx n nv vs ts σ K, aDoD P n (.sli e x lo hi mx) ⟨nv, vs, ts⟩ σ K = opF n σ (Opd.ev ⟨nv, vs, ts⟩) K (.sli e x lo hi mx)) ∧
    (∀ e m x lo hi n nv vs ts σ K, aDoD P n (.sliA e m x lo hi) ⟨nv, vs, ts⟩ σ K = opF n σ (Opd.ev ⟨nv, vs, ts⟩) K (.sliA e m x lo hi)) ∧
    (∀ xs n nv vs ts σ K, aDoD P n (.mn xs) ⟨nv, vs, ts⟩ σ K = opF n σ (Opd.ev ⟨nv, vs, ts⟩) K (.mn xs)) ∧
    (∀ xs n nv vs ts σ K, aDoD P n (.mx xs) ⟨nv, vs, ts⟩ σ K = opF n σ (Opd.ev ⟨nv, vs, ts⟩) K (.mx xs)) ∧
    (∀ g xs n nv vs ts σ K, aDoD P n (.call g xs) ⟨nv, vs, ts⟩ σ K = ∃ v ft wr σ', callD P n (Opd.ev ⟨nv, vs, ts⟩ g) (xs.map (Opd.ev ⟨nv, vs, ts⟩)) σ v ft wr σ' ∧ K v ft wr σ') :=
  ⟨fun _ _ _ _ _ _ _ => rfl, fun _ _ _ _ _ _ _ _ _ => rfl, fun _ _ _ _ _ _ _ _ _ => rfl, fun _ _ _ _ _ _ _ _ _ _ => rfl, fun _ _ _ _ _ _ _ _ _ _ => rfl, fun _ _ _ _ _ _ _ _ => rfl, fun _ _ _ _ _ _ _ _ => rfl, fun _ _ _ _ _ _ _ => rfl, fun _ _ _ _ _ _ _ => rfl, fun _ _ _ _ _ _ _ _ _ _ => rfl, fun _ _ _ _ _ _ _ _ => rfl, fun _ _ _ _ _ _ _ _ _ _ _ => rfl, fun _ _ _ _ _ _ _ _ _ _ => rfl, fun _ _ _ _ _ _ _ _ _ => rfl, fun _ _ _ _ _ _ _ _ => rfl, fun _ _ _ _ _ _ _ _ => rfl, fun _ _ _ _ _ _ _ => rfl, fun _ _ _ _ _ _ _ _ => rfl, fun _ _ _ _ _ _ _ _ => rfl, fun _ _ _ _ _ _ _ _ _ _ => rfl, fun _ _ _ _ _ _ _ _ _ => rfl, fun _ _ _ _ _ _ _ _ _ => rfl, fun _ _ _ _ _ _ _ => rfl, fun _ _ _ _ _ _ _ _ => rfl, fun _ _ _ _ _ _ _ _ _ _ _ => rfl, fun _ _ _ _ _ _ _ _ _ _ => rfl, fun _ _ _ _ _ _ _ _ _ => rfl, fun _ _ _ _ _ _ _ _ _ _ _ => rfl, fun _ _ _ _ _ _ _ _ _ _ _ => rfl, fun _ _ _ _ _ _ _ => rfl, fun _ _ _ _ _ _ _ => rfl, fun _ _ _ _ _ _ _ _ => rfl⟩

section
variable (P : Program) (fr : Fr) (σ : St) (K : AV → St → Prop)
/-- Operations that look at no object. -/
theorem evO :
    (∀ x, aDo P (.mv x) fr σ K = K (x.ev fr) σ) ∧
    (∀ c a b, aDo P (.pick c a b) fr σ K = match c.ev fr with
      | .bool t => K (selAV t (a.ev fr) (b.ev fr)) σ
      | _ => False) ∧
    (∀ op x y, aDo P (.bin op x y) fr σ K = match x.ev fr, y.ev fr with
      | .int k a, .int k' b => binK op k a k' b fun v => K v σ
      | _, _ => False) ∧
    (∀ kd neg x y, aDo P (.eqv kd neg x y) fr σ K = match aeqN kd (x.ev fr) (y.ev fr) with
      | some b => K (.bool (b != neg)) σ
      | none => False) ∧
    (∀ ks neg x y, aDo P (.eqa ks neg x y) fr σ K = match x.ev fr, y.ev fr with
      | .agg a, .agg b => fitsK ks a = true ∧ fitsK ks b = true ∧ match aeqL a b with
        | some r => K (.bool (r != neg)) σ
        | none => False
      | _, _ => False) ∧
    (∀ op x, aDo P (.un op x) fr σ K = match unV op (x.ev fr) with
      | some v => K v σ
      | none => False) ∧
    (∀ k x, aDo P (.cvt k x) fr σ K = match x.ev fr with
      | .int _ m => K (.int k (k.wrap m)) σ
      | _ => False) ∧
    (∀ x, aDo P (.b2s x) fr σ K = match rdB σ (x.ev fr) with
      | some xs => xs.all isByte = true ∧ K (.str (xs.map byOf)) σ
      | none => False) ∧
    (∀ x, aDo P (.nilc x) fr σ K = match x.ev fr with
      | .ptr id o => K (.ptr id o) σ
      | .vp e id i o => K (.vp e id i o) σ
      | .elt e xs i o => K (.elt e xs i o) σ
      | .fn (.func f) cs => K (.fn (.func f) cs) σ
      | _ => False) ∧
    (∀ ag off sz x, aDo P (.fld ag off sz x) fr σ K = match x.ev fr with
      | .agg cs => off + sz ≤ cs.length ∧ K (pack ag (cut cs off sz)) σ
      | _ => False) ∧
    (∀ off x, aDo P (.fldA off x) fr σ K = match x.ev fr with
      | .ptr id o => K (.ptr id (o + off)) σ
      | .vp e id i o => K (.vp e id i (o + off)) σ
      | .elt e xs i o => K (.elt e xs i (o + off)) σ
      | _ => False) ∧
    (∀ ag m e x i, aDo P (.idx ag m e x i) fr σ K = match x.ev fr, i.ev fr with
      | .agg cs, .int _ j => 0 ≤ j ∧ j < m ∧ cs.length = m * e ∧ K (pack ag (cut cs (j.toNat * e) e)) σ
      | _, _ => False) ∧
    (∀ m e x i, aDo P (.idxA m e x i) fr σ K = match x.ev fr, i.ev fr with
      | .ptr id o, .int _ j => 0 ≤ j ∧ j < m ∧ K (.ptr id (o + j.toNat * e)) σ
      | .vp e' id q o, .int _ j => 0 ≤ j ∧ j < m ∧ K (.vp e' id q (o + j.toNat * e)) σ
      | .elt e' xs q o, .int _ j => 0 ≤ j ∧ j < m ∧ K (.elt e' xs q (o + j.toNat * e)) σ
      | _, _ => False) ∧
    (∀ e x i, aDo P (.idxS e x i) fr σ K = match x.ev fr, i.ev fr with
      | .sl e' cl xs, .int _ j => e' = e ∧ 0 ≤ j ∧ j < xs.length ∧ K (.elt e xs j.toNat 0) σ
      | .hs e' id off len, .int _ j => e' = e ∧ 0 ≤ j ∧ j < len ∧ K (.vp e id (off + j.toNat) 0) σ
      | .va e' id off len, .int _ j => e' = e ∧ 0 ≤ j ∧ j < len ∧ K (.ptr id (off + j.toNat * e)) σ
      | _, _ => False) ∧
    (∀ i x, aDo P (.ext i x) fr σ K = match x.ev fr with
      | .tup vs => i < vs.length ∧ K (vs.getD i .dead) σ
      | _ => False) ∧
    (∀ st x, aDo P (.len st x) fr σ K = match lenV st (x.ev fr) with
      | some m => K (.int .i64 m) σ
      | none => False) ∧
    (∀ x, aDo P (.cap x) fr σ K = match x.ev fr with
      | .sl _ true xs => K (.int .i64 xs.length) σ
      | _ => False) ∧
    (∀ f caps, aDo P (.mkf f caps) fr σ K = K (.fn f (caps.map (Opd.ev fr))) σ) ∧
    (∀ neg x, aDo P (.isn neg x) fr σ K = isnStep neg (x.ev fr) σ K) ∧
    (∀ g xs, aDo P (.call g xs) fr σ K = callStep P (g.ev fr) (xs.map (Opd.ev fr)) σ K) ∧
    (∀ z ps, aDo P (.bld z ps) fr σ K = (partsOk z.length (ps.map fun p => (p.1, p.2.1, p.2.2.ev fr)) = true ∧ K (.agg (fillL z (ps.map fun p => (p.1, p.2.1, p.2.2.ev fr)))) σ)) ∧
    (∀ e m z ps, aDo P (.bldS e m z ps) fr σ K = (partsE e m (ps.map fun p => (p.1, p.2.ev fr)) = true ∧ K (.sl e true (fillE (List.replicate m z) (ps.map fun p => (p.1, p.2.ev fr)))) σ)) :=
  ⟨fun _ => rfl, fun _ _ _ => rfl, fun _ _ _ => rfl, fun _ _ _ _ => rfl, fun _ _ _ _ => rfl, fun _ _ => rfl, fun _ _ => rfl, fun _ => rfl, fun _ => rfl, fun _ _ _ _ => rfl, fun _ _ => rfl, fun _ _ _ _ _ => rfl, fun _ _ _ _ => rfl, fun _ _ _ => rfl, fun _ _ => rfl, fun _ _ => rfl, fun _ => rfl, fun _ _ => rfl, fun _ _ => rfl, fun _ _ => rfl, fun _ _ => rfl, fun _ _ _ _ => rfl⟩
/-- Operations that look at objects. -/
theorem evM :
    (∀ ag sz x, aDo P (.ld ag sz x) fr σ K = match x.ev fr with
      | .ptr id o => (match σ[id]? with
        | some (.var cs) => o + sz ≤ cs.length ∧ K (pack ag (cut cs o sz)) σ
        | _ => False)
      | .vp e id i o => (match σ[id]? with
        | some (.vec e' xs) => e' = e ∧ o + sz ≤ e ∧ i < xs.length ∧ K (pack ag (cut (xs.getD i []) o sz)) σ
        | _ => False)
      | .elt e xs i o => o + sz ≤ e ∧ i < xs.length ∧ K (pack ag (cut (xs.getD i []) o sz)) σ
      | _ => False) ∧
    (∀ sz x y, aDo P (.sto sz x y) fr σ K = ((y.ev fr).cellsOf.length = sz ∧ allCells (y.ev fr).cellsOf = true ∧ match x.ev fr with
      | .ptr id o => (match σ[id]? with
        | some (.var cs) => o + sz ≤ cs.length ∧ K (.tup []) (σ.set id (.var (spl cs o (y.ev fr).cellsOf)))
        | _ => False)
      | .vp e id i o => (match σ[id]? with
        | some (.vec e' xs) => e' = e ∧ o + sz ≤ e ∧ i < xs.length ∧ K (.tup []) (σ.set id (.vec e (xs.set i (spl (xs.getD i []) o (y.ev fr).cellsOf))))
        | _ => False)
      | _ => False)) ∧
    (∀ z, aDo P (.new z) fr σ K = K (.ptr σ.length 0) (σ ++ [.var z])) ∧
    (∀ sz x, aDo P (.box sz x) fr σ K = ((x.ev fr).cellsOf.length = sz ∧ allCells (x.ev fr).cellsOf = true ∧ K (.ptr σ.length 0) (σ ++ [.var (x.ev fr).cellsOf]))) ∧
    (∀ e bytes z l c, aDo P (.mk e bytes z l c) fr σ K = match l.ev fr, c.ev fr with
      | .int _ a, .int _ b => 0 ≤ a ∧ a ≤ b ∧ (bytes : Int) * b ≤ 281474976710656 ∧ b ≤ 9223372036854775807 ∧ K (.hs e σ.length 0 a.toNat) (σ ++ [.vec e (List.replicate a.toNat z)])
      | _, _ => False) := by
  refine ⟨fun _ _ _ => rfl, fun _ _ _ => rfl, fun z => ?_, fun sz x => ?_, fun e bytes z l c => ?_⟩
  · simp only [aDo, AOp.allocs, if_true, opF, set_new]
  · simp only [aDo, AOp.allocs, if_true, opF, set_new]
  · simp only [aDo, AOp.allocs, if_true, opF, set_new]
    generalize Opd.ev fr l = x
    generalize Opd.ev fr c = y
    cases x <;> cases y <;> rfl
theorem rdS_new (e : Nat) (v : AV) : rdS (σ ++ [AObj.gone]) e v = rdS σ e v := by
  have key : ∀ id : Nat, ((σ ++ [AObj.gone])[id]? = σ[id]?) ∨ ((σ ++ [AObj.gone])[id]? = some .gone ∧ σ[id]? = none) ∨ ((σ ++ [AObj.gone])[id]? = none ∧ σ[id]? = none) := by
    intro id
    by_cases h : id < σ.length
    · exact .inl (get_new σ h)
    · have h2 : σ[id]? = none := List.getElem?_eq_none (by omega)
      rw [List.getElem?_append_right (by omega), h2]
      by_cases h3 : id - σ.length = 0
      · rw [h3]; exact .inr (.inl ⟨rfl, rfl⟩)
      · exact .inl (List.getElem?_eq_none (by simp; omega))
  unfold rdS
  cases v <;> first | rfl | skip
  all_goals (rename_i id _ _; simp only; rcases key id with h | ⟨h1, h2⟩ | ⟨h1, h2⟩ <;> (try rw [h]) <;> (try rw [h1, h2]) <;> (repeat' split) <;> first | rfl | (simp_all; done) | skip)
theorem evA :
    (∀ e bytes s x, aDo P (.app e bytes s x) fr σ K = match rdS σ e (x.ev fr) with
      | none => False
      | some ys => match s.ev fr with
        | .sl e' cl xs => (e' = e ∨ xs = []) ∧ cl = true ∧ (xs = [] ∨ ys ≠ []) ∧ (xs.length + ys.length) * bytes ≤ 140737488355328 ∧ xs.length + ys.length ≤ 9223372036854775807 ∧
            K (.hs e σ.length 0 (xs.length + ys.length)) (σ ++ [.vec e (xs ++ ys)])
        | .hs e' id off len => e' = e ∧ match σ[id]? with
          | some (.vec e2 xs) => e2 = e ∧ off + len ≤ xs.length ∧ (len + ys.length) * bytes ≤ 140737488355328 ∧ len + ys.length ≤ 9223372036854775807 ∧
              K (.hs e σ.length 0 (len + ys.length)) (σ.set id .gone ++ [.vec e ((xs.drop off).take len ++ ys)])
          | _ => False
        | _ => False) ∧
    (∀ e d s, aDo P (.cpy e d s) fr σ K = match rdS σ e (s.ev fr) with
      | none => False
      | some ys => match d.ev fr with
        | .hs e' id off len => e' = e ∧ match σ[id]? with
          | some (.vec e2 xs) => e2 = e ∧ off + len ≤ xs.length ∧ K (.int .i64 (min ys.length len : Nat)) (σ.set id (.vec e (xs.take off ++ ys.take (min ys.length len) ++ xs.drop (off + min ys.length len))))
          | _ => False
        | .va e' id off len => e' = e ∧ match σ[id]? with
          | some (.var cs) => off + len * e ≤ cs.length ∧ K (.int .i64 (min ys.length len : Nat)) (σ.set id (.var (spl cs off (ys.take (min ys.length len)).flatten)))
          | _ => False
        | _ => False) ∧
    (∀ e x lo hi mx, aDo P (.sli e x lo hi mx) fr σ K = match x.ev fr with
      | .sl e' cl xs => (e' = e ∨ xs = []) ∧ 0 ≤ bndO (Opd.ev fr) 0 lo ∧ bndO (Opd.ev fr) 0 lo ≤ bndO (Opd.ev fr) xs.length hi ∧ bndO (Opd.ev fr) xs.length hi ≤ bndO (Opd.ev fr) xs.length mx ∧ bndO (Opd.ev fr) xs.length mx ≤ xs.length ∧ (mx = none ∨ hi ≠ none) ∧
          K (.sl e (match mx with | none => cl && hi.isNone | some _ => decide (bndO (Opd.ev fr) xs.length mx = bndO (Opd.ev fr) xs.length hi)) ((xs.drop (bndO (Opd.ev fr) 0 lo).toNat).take ((bndO (Opd.ev fr) xs.length hi).toNat - (bndO (Opd.ev fr) 0 lo).toNat))) σ
      | .hs e' id off len => e' = e ∧ mx = none ∧ 0 ≤ bndO (Opd.ev fr) 0 lo ∧ bndO (Opd.ev fr) 0 lo ≤ bndO (Opd.ev fr) len hi ∧ bndO (Opd.ev fr) len hi ≤ len ∧ K (.hs e id (off + (bndO (Opd.ev fr) 0 lo).toNat) ((bndO (Opd.ev fr) len hi).toNat - (bndO (Opd.ev fr) 0 lo).toNat)) σ
      | .va e' id off len => e' = e ∧ mx = none ∧ 0 ≤ bndO (Opd.ev fr) 0 lo ∧ bndO (Opd.ev fr) 0 lo ≤ bndO (Opd.ev fr) len hi ∧ bndO (Opd.ev fr) len hi ≤ len ∧ K (.va e id (off + (bndO (Opd.ev fr) 0 lo).toNat * e) ((bndO (Opd.ev fr) len hi).toNat - (bndO (Opd.ev fr) 0 lo).toNat)) σ
      | _ => False) ∧
    (∀ e m x lo hi, aDo P (.sliA e m x lo hi) fr σ K = match x.ev fr with
      | .ptr id o => 0 ≤ bndO (Opd.ev fr) 0 lo ∧ bndO (Opd.ev fr) 0 lo ≤ bndO (Opd.ev fr) m hi ∧ bndO (Opd.ev fr) m hi ≤ m ∧ K (.va e id (o + (bndO (Opd.ev fr) 0 lo).toNat * e) ((bndO (Opd.ev fr) m hi).toNat - (bndO (Opd.ev fr) 0 lo).toNat)) σ
      | _ => False) ∧
    (∀ xs, aDo P (.mn xs) fr σ K = match xs.map (Opd.ev fr) with
      | v :: r => (match minL v r with
        | some u => K u σ
        | none => False)
      | [] => False) ∧
    (∀ xs, aDo P (.mx xs) fr σ K = match xs.map (Opd.ev fr) with
      | v :: r => (match maxL v r with
        | some u => K u σ
        | none => False)
      | [] => False) := by
  refine ⟨fun e bytes s x => ?_, fun _ _ _ => rfl, fun _ _ _ _ _ => rfl, fun _ _ _ _ _ => rfl, fun _ => rfl, fun _ => rfl⟩
  simp only [aDo, AOp.allocs, if_true, opF, rdS_new]
  cases rdS σ e (x.ev fr) with
  | none => rfl
  | some ys =>
    simp only
    cases s.ev fr
    case sl e' cl xs => simp only [set_new]
    case hs e' id off len =>
      simp only
      by_cases h : id < σ.length
      · simp only [get_new σ h, set_new2]
        congr 1
      · have h2 : σ[id]? = none := List.getElem?_eq_none (by omega)
        rw [h2, List.getElem?_append_right (by omega)]
        by_cases h3 : id - σ.length = 0
        · rw [h3]; rfl
        · rw [List.getElem?_eq_none (by simp; omega)]
    all_goals rfl
/-- Helpers. -/
theorem evH :
    (∀ k a k' b K, binK .add k a k' b K = (k = k' ∧ K (.int k (k.wrap (a + b))))) ∧ (∀ k a k' b K, binK .sub k a k' b K = (k = k' ∧ K (.int k (k.wrap (a - b))))) ∧
    (∀ k a k' b K, binK .mul k a k' b K = (k = k' ∧ K (.int k (k.wrap (a * b))))) ∧ (∀ k a k' b K, binK .quo k a k' b K = (k = k' ∧ b ≠ 0 ∧ K (.int k (k.wrap (a.tdiv b))))) ∧
    (∀ k a k' b K, binK .rem k a k' b K = (k = k' ∧ b ≠ 0 ∧ K (.int k (a.tmod b)))) ∧
    (∀ k a k' b K, binK .shl k a k' b K = (0 ≤ b ∧ K (.int k (ishl k a b.toNat)))) ∧ (∀ k a k' b K, binK .shr k a k' b K = (0 ≤ b ∧ K (.int k (ishr k a b.toNat)))) ∧
    (∀ k a k' b K, binK .and k a k' b K = (k = k' ∧ K (.int k (iand k a b)))) ∧
    (∀ k a k' b K, binK .or k a k' b K = (k = k' ∧ K (.int k (ior k a b)))) ∧
    (∀ k a k' b K, binK .xor k a k' b K = (k = k' ∧ K (.int k (ixor k a b)))) ∧
    (∀ k a k' b K, binK .andNot k a k' b K = (k = k' ∧ K (.int k (iandn k a b)))) ∧
    (∀ k a k' b K, binK .eql k a k' b K = (k = k' ∧ K (.bool (a == b)))) ∧ (∀ k a k' b K, binK .neq k a k' b K = (k = k' ∧ K (.bool (a != b)))) ∧
    (∀ k a k' b K, binK .lss k a k' b K = (k = k' ∧ K (.bool (decide (a < b))))) ∧ (∀ k a k' b K, binK .leq k a k' b K = (k = k' ∧ K (.bool (decide (a ≤ b))))) ∧
    (∀ k a k' b K, binK .gtr k a k' b K = (k = k' ∧ K (.bool (decide (b < a))))) ∧ (∀ k a k' b K, binK .geq k a k' b K = (k = k' ∧ K (.bool (decide (b ≤ a))))) ∧
    (∀ e cl xs, lenV false (.sl e cl xs) = some xs.length) ∧ (∀ e id off len, lenV false (.hs e id off len) = some len) ∧ (∀ e id off len, lenV false (.va e id off len) = some len) ∧ (∀ s, lenV true (.str s) = some s.length) ∧
    (∀ b x y, selAV b (.bool x) (.bool y) = .bool (cond b x y)) ∧ (∀ cs, pack true cs = .agg cs) ∧ (∀ cs, pack false cs = cs.headD .dead) ∧
    (∀ a b, aeqN 0 (.bool a) (.bool b) = some (a == b)) ∧ (∀ a b, aeqN 1 (.str a) (.str b) = some (a == b)) ∧ (aeqN 2 .nilp .nilp = some true) ∧ (∀ a b, aeqN 2 (.ptr a b) .nilp = some false) ∧ (∀ a b, aeqN 2 .nilp (.ptr a b) = some false) ∧
    (∀ a b c d, aeqN 2 (.vp a b c d) .nilp = some false) ∧ (∀ a b c d, aeqN 2 (.elt a b c d) .nilp = some false) ∧ (aeqN 3 .nilf .nilf = some true) ∧ (∀ f c, aeqN 3 (.fn f c) .nilf = some false) ∧
    (∀ b, unV .not (.bool b) = some (.bool !b)) ∧ (∀ k n, unV .neg (.int k n) = some (.int k (k.wrap (0 - n)))) ∧
    (∀ neg e cl xs σ K, isnStep neg (.sl e cl xs) σ K = ∀ b : Bool, (b = true → xs = []) → K (.bool (b != neg)) σ) ∧ (∀ neg e id off len σ K, isnStep neg (.hs e id off len) σ K = ∀ b : Bool, (b = true → len = 0) → K (.bool (b != neg)) σ) ∧
    (∀ ρ d, bndO ρ d none = d) ∧ (∀ ρ d x, bndO ρ d (some x) = bndI (ρ x)) ∧ (∀ k n, bndI (.int k n) = n) ∧ (∀ cs, AV.cellsOf (.agg cs) = cs) ∧ (∀ k n, AV.cellsOf (.int k n) = [.int k n]) ∧ (∀ b, AV.cellsOf (.bool b) = [.bool b]) ∧ (∀ e cl xs, AV.cellsOf (.sl e cl xs) = [.sl e cl xs]) ∧
    (∀ e id off len, AV.cellsOf (.hs e id off len) = [.hs e id off len]) ∧ (∀ id off, AV.cellsOf (.ptr id off) = [.ptr id off]) ∧ (AV.cellsOf .nilp = [.nilp]) ∧ (∀ s, AV.cellsOf (.str s) = [.str s]) := by
  refine ⟨?_, ?_, ?_, ?_, ?_, ?_, ?_, ?_, ?_, ?_, ?_, ?_, ?_, ?_, ?_, ?_, ?_, ?_, ?_, ?_, ?_, ?_, ?_, ?_, ?_, ?_, ?_, ?_, ?_, ?_, ?_, ?_, ?_, ?_, ?_, ?_, ?_, ?_, ?_, ?_, ?_, ?_, ?_, ?_, ?_, ?_, ?_, ?_⟩ <;> intros <;> rfl
end
end Go.FH
