/-
  The abstract walk, part 5: operations on memory do what their abstract forms say. It holds of any program.
-/
import Derived.Test.YtachiahepppajaaAs
import Derived.Deep.AppendSrc
import Derived.Laws.Append
import Derived.Laws.MakeOwn
namespace Go.FH
set_option linter.unusedVariables false
set_option linter.unusedSimpArgs false
open Go Go.RowKit

theorem ObjR.mono {E E' : Env} (h : EnvLe E E') {L : Loc} {o : AObj} (hb : o.live = true → L.has = true → E'.w.heap[L.blk]? = E.w.heap[L.blk]?) (ho : ObjR E L o) : ObjR E' L o := by
  cases o with
  | gone => trivial
  | var cs =>
    obtain ⟨h1, h2, vs, t, h3, h4⟩ := ho
    exact ⟨h1, h2, vs, t, (hb rfl h1).trans h3, RlC.mono h _ _ h4⟩
  | vec e xs =>
    rcases ho with h1 | ⟨h1, cs, vs, ws, t, h3, h4, h5, h6⟩
    · exact .inl h1
    · exact .inr ⟨h1, cs, vs, ws, t, (hb rfl h1).trans h3, h4, h5, RlE.mono h _ _ _ h6⟩

section
variable {X : Nat → Prop} {loc loc' : Nat → Option Loc} {σ σ' : St} {w w' : World} {n : Nat} {P : Program} {ρ : Operand → Value} {ρ' : Opd → AV} {K : AV → List Nat → Bool → St → Prop}

theorem Rel.change (hr : Rel X loc σ w) (locs : ∀ id L, loc id = some L → loc' id = some L) (ev : Ev (liveB σ loc) w w') (old : ∀ b, liveB σ' loc' b → liveB σ loc b ∨ w.heap.size ≤ b)
    (beyond : ∀ id, σ'.length ≤ id → loc' id = none)
    (obj : ∀ (id : Nat) (o : AObj), σ'[id]? = some o → o.live = true → (σ[id]? = some o ∧ ∀ L, loc id = some L → L.has = true → w'.heap[L.blk]? = w.heap[L.blk]?) ∨ ∃ L, loc' id = some L ∧ ObjR (envOf X loc' σ' w') L o)
    (apart : ∀ (i j : Nat) (a b : AObj) (La Lb : Loc), i ≠ j → σ'[i]? = some a → σ'[j]? = some b → a.live = true → b.live = true → loc' i = some La → loc' j = some Lb → La.has = true → Lb.has = true → La.blk ≠ Lb.blk) :
    Rel X loc' σ' w' := by
  have hle := envLe_of (X := X) hr locs ev old
  refine ⟨fun id o h1 h2 => ?_, apart, fun b hb => ?_, beyond⟩
  · rcases obj id o h1 h2 with ⟨h3, h4⟩ | h3
    · obtain ⟨L, h5, h6⟩ := hr.obj id o h3 h2
      exact ⟨L, locs _ _ h5, ObjR.mono hle (fun _ h7 => h4 L h5 h7) h6⟩
    · exact h3
  · obtain ⟨h1, h2⟩ := hr.out b hb
    exact ⟨Nat.lt_of_lt_of_le h1 ev.size, fun h3 => (old b h3).elim h2 fun h4 => absurd h1 (Nat.not_lt.2 h4)⟩

theorem get_set (σ : St) (id j : Nat) (o : AObj) {o' : AObj} (h : (σ.set id o)[j]? = some o') : (id = j ∧ o = o' ∧ id < σ.length) ∨ (j ≠ id ∧ σ[j]? = some o') := by
  by_cases hj : j = id
  · subst hj
    by_cases hl : j < σ.length
    · simp [hl] at h
      exact .inl ⟨rfl, h, hl⟩
    · simp [hl] at h
  · right
    rw [List.getElem?_set_ne (Ne.symm hj)] at h
    exact ⟨hj, h⟩

/-- An object turns, in its place. -/
theorem Rel.turn (hr : Rel X loc σ w) {id : Nat} {o o' : AObj} {L : Loc} (h1 : σ[id]? = some o) (h2 : o.live = true) (h2' : o'.live = true) (hL : loc id = some L) (hh : L.has = true) (c : Array Value)
    (ho : ∀ E : Env, EnvLe (envOf X loc σ w) E → E.w = w.setRow L.blk c → ObjR E L o') :
    Rel X loc (σ.set id o') (w.setRow L.blk c) ∧ (∀ b, liveB (σ.set id o') loc b → liveB σ loc b) ∧ Ev (liveB σ loc) w (w.setRow L.blk c) := by
  have hlive : liveB σ loc L.blk := ⟨id, o, L, h1, h2, hL, hh, rfl⟩
  have hold : ∀ b, liveB (σ.set id o') loc b → liveB σ loc b := by
    rintro b ⟨j, oj, Lj, g1, g2, g3, g4, rfl⟩
    rcases get_set σ id j o' g1 with ⟨rfl, _, _⟩ | ⟨_, g5⟩
    · rw [hL] at g3; cases g3; exact hlive
    · exact ⟨j, oj, Lj, g5, g2, g3, g4, rfl⟩
  have hev := Ev.setRow (w := w) hlive c
  have hle := envLe_of (X := X) hr (fun _ _ h => h) hev fun b hb => .inl (hold b hb)
  refine ⟨hr.change (fun _ _ h => h) hev (fun b hb => .inl (hold b hb)) (fun j hj => hr.beyond j (by simpa using hj)) ?_ ?_, hold, hev⟩
  · intro j oj g1 g2
    rcases get_set σ id j o' g1 with ⟨rfl, rfl, _⟩ | ⟨g4, g5⟩
    · exact .inr ⟨L, hL, ho _ hle rfl⟩
    · refine .inl ⟨g5, fun Lj g6 g7 => setRow_other w L.blk Lj.blk c ?_⟩
      exact hr.apart j id oj o Lj L g4 g5 h1 g2 h2 g6 hL g7 hh
  · intro i j a b La Lb hij g1 g2 g3 g4 g5 g6 g7 g8
    have : ∀ (i : Nat) (a : AObj), (σ.set id o')[i]? = some a → a.live = true → ∃ a', σ[i]? = some a' ∧ a'.live = true := by
      intro i a g1 g3
      rcases get_set σ id i o' g1 with ⟨rfl, _, _⟩ | ⟨_, g5⟩
      · exact ⟨o, h1, h2⟩
      · exact ⟨a, g5, g3⟩
    obtain ⟨a', k1, k2⟩ := this i a g1 g3
    obtain ⟨b', k3, k4⟩ := this j b g2 g4
    exact hr.apart i j a' b' La Lb hij k1 k3 k2 k4 g5 g6 g7 g8

def locPut (loc : Nat → Option Loc) (n : Nat) (L : Loc) : Nat → Option Loc := fun id => if id = n then some L else loc id
theorem locPut_same (loc : Nat → Option Loc) (n : Nat) (L : Loc) : locPut loc n L n = some L := by simp [locPut]
theorem locPut_ne (loc : Nat → Option Loc) (n : Nat) (L : Loc) {id : Nat} (h : id ≠ n) : locPut loc n L id = loc id := by simp [locPut, h]
theorem locPut_keep {loc : Nat → Option Loc} {n : Nat} (hn : loc n = none) (L : Loc) (id : Nat) (L' : Loc) (h : loc id = some L') : locPut loc n L id = some L' := by
  rw [locPut_ne]
  · exact h
  · rintro rfl; rw [hn] at h; cases h

/-- A new object, in a new block (or, has = false, in none); the objects D are gone. -/
theorem Rel.add (hr : Rel X loc σ w) (hn : n < σ.length) (hg : loc n = none) (o : AObj) (L : Loc) (w' : World) (ev : Ev (liveB σ loc) w w') (σ0 : St) (hσ0 : ∀ (id : Nat) (o : AObj), σ0[id]? = some o → o.live = true → σ[id]? = some o) (h0l : σ0.length = σ.length)
    (hk : ∀ (id : Nat) (o : AObj) (L' : Loc), σ0[id]? = some o → o.live = true → loc id = some L' → L'.has = true → (L.has = true → L'.blk ≠ L.blk) ∧ w'.heap[L'.blk]? = w.heap[L'.blk]?)
    (hb : L.has = true → liveB σ loc L.blk ∨ w.heap.size ≤ L.blk)
    (ho : ∀ E : Env, EnvLe (envOf X loc σ w) E → E.w = w' → ObjR E L o) :
    Rel X (locPut loc n L) (σ0.set n o) w' ∧ (∀ b, liveB (σ0.set n o) (locPut loc n L) b → liveB σ loc b ∨ w.heap.size ≤ b) := by
  have hold : ∀ b, liveB (σ0.set n o) (locPut loc n L) b → liveB σ loc b ∨ w.heap.size ≤ b := by
    rintro b ⟨j, oj, Lj, g1, g2, g3, g4, rfl⟩
    rcases get_set σ0 n j o g1 with ⟨rfl, rfl, _⟩ | ⟨g5, g6⟩
    · rw [locPut_same] at g3; cases g3; exact hb g4
    · rw [locPut_ne _ _ _ g5] at g3
      exact .inl ⟨j, oj, Lj, hσ0 _ _ g6 g2, g2, g3, g4, rfl⟩
  have hle := envLe_of (X := X) hr (locPut_keep hg L) ev hold
  refine ⟨hr.change (locPut_keep hg L) ev hold (fun j hj => ?_) ?_ ?_, hold⟩
  · simp only [List.length_set, h0l] at hj
    rw [locPut_ne _ _ _ (by omega)]
    exact hr.beyond j hj
  · intro j oj g1 g2
    rcases get_set σ0 n j o g1 with ⟨rfl, rfl, _⟩ | ⟨g5, g6⟩
    · exact .inr ⟨L, locPut_same _ _ _, ho _ hle rfl⟩
    · exact .inl ⟨hσ0 _ _ g6 g2, fun L' g7 g8 => (hk j oj L' g6 g2 g7 g8).2⟩
  · intro i j a b La Lb hij g1 g2 g3 g4 g5 g6 g7 g8
    rcases get_set σ0 n i o g1 with ⟨rfl, rfl, _⟩ | ⟨k1, k2⟩ <;> rcases get_set σ0 n j o g2 with ⟨rfl, rfl, _⟩ | ⟨k3, k4⟩
    · exact absurd rfl hij
    · rw [locPut_same] at g5; cases g5
      rw [locPut_ne _ _ _ k3] at g6
      exact fun e => (hk j b Lb k4 g4 g6 g8).1 g7 e.symm
    · rw [locPut_same] at g6; cases g6
      rw [locPut_ne _ _ _ k1] at g5
      exact (hk i a La k2 g3 g5 g7).1 g8
    · rw [locPut_ne _ _ _ k1] at g5
      rw [locPut_ne _ _ _ k3] at g6
      exact hr.apart i j a b La Lb hij (hσ0 _ _ k2 g3) (hσ0 _ _ k4 g4) g3 g4 g5 g6 g7 g8

/-- A new object in a new block. -/
theorem Rel.alloc (hr : Rel X loc σ w) (hn : n < σ.length) (hg : loc n = none) (o : AObj) (L : Loc) (hL : L.has = true) (hLb : L.blk = w.heap.size) (ob : Obj)
    (ho : ∀ E : Env, EnvLe (envOf X loc σ w) E → E.w = w.alloc ob → ObjR E L o) :
    Rel X (locPut loc n L) (σ.set n o) (w.alloc ob) ∧ (∀ b, liveB (σ.set n o) (locPut loc n L) b → liveB σ loc b ∨ w.heap.size ≤ b) := by
  refine hr.add hn hg o L _ (Ev.alloc _ _ _) σ (fun _ _ h _ => h) rfl (fun id o' L' g1 g2 g3 g4 => ?_) (fun _ => .inr (Nat.le_of_eq hLb.symm)) ho
  have hlt := liveB.lt hr ⟨id, o', L', g1, g2, g3, g4, rfl⟩
  exact ⟨fun _ => by omega, Below.heap_alloc w ob L'.blk hlt⟩

theorem Snd.alloc (hr : Rel X loc σ w) (hn : n < σ.length) (hg : loc n = none) (o : AObj) (L : Loc) (hL : L.has = true) (hLb : L.blk = w.heap.size) (ob : Obj) {r : Result Next} {v : Value} {av : AV} {ft : List Nat} {wr : Bool}
    (h3 : K av ft wr (σ.set n o)) (ho : ∀ E : Env, EnvLe (envOf X loc σ w) E → E.w = w.alloc ob → ObjR E L o)
    (h1 : r = .ok (.value v) (w.alloc ob)) (h2 : ∀ E : Env, E.loc n = some L → Rl E av v) : Snd X loc σ w n r K := by
  obtain ⟨g1, g2⟩ := hr.alloc hn hg o L hL hLb ob ho
  exact ⟨av, ft, wr, _, v, _, _, h3, .inl h1, ⟨locPut_keep hg L, g1, h2 _ (locPut_same _ _ _), Ev.alloc _ _ _, g2⟩, fun id hid => locPut_ne _ _ _ hid, by simp⟩

theorem Rel.var (hr : Rel X loc σ w) {id : Nat} {cs : List AV} {L : Loc} (h : σ[id]? = some (.var cs)) (hL : loc id = some L) :
    L.has = true ∧ L.base = 0 ∧ ∃ (vs : List Value) (t : TypeId), w.heap[L.blk]? = some (.cells vs.toArray t (0, 0)) ∧ RlC (envOf X loc σ w) cs vs := by
  obtain ⟨L', h1, h2⟩ := hr.obj id _ h rfl
  rw [hL] at h1; cases h1
  exact h2
theorem Rel.vec (hr : Rel X loc σ w) {id e : Nat} {xs : List (List AV)} {L : Loc} (h : σ[id]? = some (.vec e xs)) (hL : loc id = some L) :
    (L.has = false ∧ xs = []) ∨ (L.has = true ∧ ∃ (cs vs ws : List Value) (t : TypeId), w.heap[L.blk]? = some (.cells (cs ++ vs ++ ws).toArray t (0, 0)) ∧ cs.length = L.base ∧ (cs ++ vs ++ ws).length = L.rows ∧ RlE (envOf X loc σ w) e xs vs) := by
  obtain ⟨L', h1, h2⟩ := hr.obj id _ h rfl
  rw [hL] at h1; cases h1
  exact h2

theorem range_whole {w : World} {b : Nat} {vs : List Value} {t : TypeId} {f : Nat × Nat} (h : w.heap[b]? = some (.cells vs.toArray t f)) (o m : Nat) (hm : o + m ≤ vs.length) : range? w b o m = some ((vs.drop o).take m).toArray := by
  have h1 : w.heap[b]? = some (.cells (vs.take o ++ (vs.drop o).take m ++ vs.drop (o + m)).toArray t f) := by
    rw [h]
    congr 2
    congr 1
    rw [List.append_assoc, ← List.drop_drop, List.take_append_drop, List.take_append_drop]
  have h2 := range_of_list h1
  simpa [Nat.min_eq_left (show o ≤ vs.length by omega), Nat.min_eq_left (show m ≤ vs.length - o by omega)] using h2

theorem length_chunk (e : Nat) : ∀ (n : Nat) (cs : List AV), (chunk e n cs).length = n
  | 0, _ => rfl
  | n + 1, cs => by simp [chunk, length_chunk e n]
theorem RlE.chunk {E : Env} {e : Nat} : ∀ (n : Nat) {cs : List AV} {vs : List Value}, RlC E cs vs → n * e ≤ cs.length → RlE E e (chunk e n cs) (vs.take (n * e))
  | 0, _, _, _, _ => by simp [Go.FH.chunk, RlE]
  | n + 1, cs, vs, h, hl => by
    have e1 : (n + 1) * e = e + n * e := by rw [Nat.add_mul]; omega
    have hv := h.length
    refine ⟨vs.take e, (vs.drop e).take (n * e), ?_, by simp; omega, h.take e, RlE.chunk n (h.drop e) (by simp; omega)⟩
    rw [e1, List.take_add]
theorem RlE_bytes (E : Env) : ∀ s : List UInt8, RlE E 1 (s.map fun b => [AV.int .u8 b.toNat]) (s.map fun b => Value.int .u8 b.toNat)
  | [] => rfl
  | b :: s => ⟨[_], _, rfl, rfl, ⟨_, [], rfl, rfl, rfl, rfl⟩, RlE_bytes E s⟩
/-- What is appended, or copied from. -/
theorem src_of (hr : Rel X loc σ w) {tx : TypeId} (hk : (∃ e', P.underlying tx = some (.slice e')) ∨ P.underlying tx = some .string) {e : Nat} (he : 0 < e) {av : AV} {v : Value} {ys : List (List AV)} (h : rdS σ e av = some ys) (hv : Rl (envOf X loc σ w) av v) :
    ∃ news, Src P e tx v ys.length news w ∧ RlE (envOf X loc σ w) e ys news ∧ ∀ m, m ≤ ys.length → (Builtin.firstCells e m v).run P w = .ok (news.take (m * e)).toArray w := by
  have mk : ∀ (ad : Addr) (c : Nat) (news : List Value), news.length = ys.length * e → (∀ j u, news[j]? = some u → w.cell? (ad.add j) = some u) → (∀ u ∈ news, u.oneCell' = true) → Src P e tx (.slice (some ad) ys.length c) ys.length news w ∧
      ∀ m, m ≤ ys.length → (Builtin.firstCells e m (.slice (some ad) ys.length c)).run P w = .ok (news.take (m * e)).toArray w :=
    fun ad c news h1 h2 h3 => ⟨⟨hk, fun _ => rfl, run_firstCells_some w e _ ad _ c news h1 h2, run_firstCells_some w.drew e _ ad _ c news h1 (by simpa using h2), h1, h3⟩,
      fun m hm => run_firstCells_some w e m ad _ c (news.take (m * e)) (by have : m * e ≤ ys.length * e := Nat.mul_le_mul_right _ hm; simp; omega) fun j u hj => h2 j u (by rw [List.getElem?_take] at hj; split at hj; exact hj; cases hj)⟩
  have nil : ys = [] → ∀ (a : Option Addr) (c : Nat), Src P e tx (.slice a 0 c) ys.length [] w ∧ ∀ m, m ≤ ys.length → (Builtin.firstCells e m (.slice a 0 c)).run P w = .ok (([] : List Value).take (m * e)).toArray w := by
    rintro rfl a c
    refine ⟨⟨hk, fun _ => rfl, ?_, ?_, by simp, fun _ h => by cases h⟩, fun m hm => ?_⟩
    · cases a <;> simp [Builtin.firstCells, loadCells, loadCellsFrom]
    · cases a <;> simp [Builtin.firstCells, loadCells, loadCellsFrom]
    · have : m = 0 := by simpa using hm
      subst this
      cases a <;> simp [Builtin.firstCells, loadCells, loadCellsFrom]
  cases av <;> simp only [rdS, reduceCtorEq] at h
  case str s =>
    split at h
    · rename_i h1
      subst h1
      simp only [Option.some.injEq] at h
      subst h
      simp only [Rl] at hv
      subst hv
      refine ⟨byteCells ⟨s.toArray⟩, ⟨hk, fun _ => by simp [Builtin.lenOf, ByteArray.size], ?_, ?_, ?_, ?_⟩, ?_, ?_⟩
      · have := firstCells_string (P := P) ⟨s.toArray⟩ w
        simpa [ByteArray.size] using this
      · have := firstCells_string (P := P) ⟨s.toArray⟩ w.drew
        simpa [ByteArray.size] using this
      · simp [byteCells]
      · intro u hu
        obtain ⟨_, _, rfl⟩ := List.mem_map.1 hu
        rfl
      · have : byteCells ⟨s.toArray⟩ = s.map fun b => Value.int .u8 b.toNat := by simp [byteCells]
        rw [this]
        exact RlE_bytes _ s
      · intro m hm
        have : byteCells ⟨s.toArray⟩ = s.map fun b => Value.int .u8 b.toNat := by simp [byteCells]
        rw [this, Nat.mul_one, ← List.map_take]
        have h2 : ((⟨s.toArray⟩ : ByteArray).extract 0 m).data.toList = s.take m := by
          simp [ByteArray.data_extract, List.extract_eq_take_drop]
        have h3 : (((⟨s.toArray⟩ : ByteArray).extract 0 m).data.map fun b => Value.int .u8 (b.toNat : Int)) = ((s.take m).map fun b => Value.int .u8 (b.toNat : Int)).toArray := by
          apply Array.toList_inj.1
          rw [Array.toList_map, h2]
        simp only [Builtin.firstCells, Sem.run_pure, h3]
    · cases h
  case sl e' cl xs =>
    split at h
    · rename_i h1
      simp only [Option.some.injEq] at h
      subst h
      obtain ⟨a, m, cap, rfl, rfl, h2, h3, h4, h5, h6⟩ := hv
      by_cases hx : xs = []
      · subst hx; exact ⟨[], (nil rfl a cap).1, rfl, (nil rfl a cap).2⟩
      · have he' : e' = e := h1.resolve_right hx
        subst he'
        rcases h6 with h6 | ⟨b, off, vs, rfl, _, _, h7, h8⟩
        · exact absurd (List.eq_nil_of_length_eq_zero h6) hx
        · obtain ⟨g1, g2⟩ := range_get h7
          have g4 := mk ⟨b, off, none⟩ cap _ g1 (fun j u hj => by rw [add_at]; exact g2 j u hj) h8.one
          exact ⟨vs, g4.1, h8, g4.2⟩
    · cases h
  case hs e' id off len =>
    split at h
    · rename_i he'
      subst he'
      split at h
      · rename_i e2 xs hσ
        split at h
        · rename_i hle
          obtain ⟨he2, hle⟩ := hle
          obtain rfl : e' = e2 := he2.symm
          simp only [Option.some.injEq] at h
          subst h
          obtain ⟨a, cap, L, rfl, h2, h3, h4, h5, h6⟩ := hv
          have hlen : ((xs.drop off).take len).length = len := by simp; omega
          by_cases h0 : len = 0
          · subst h0
            have g4 := nil (by simp) a cap
            exact ⟨[], by simpa using g4.1, by simp [RlE], by simpa using g4.2⟩
          · rcases h6 with h6 | ⟨h6, rfl, h7⟩
            · omega
            · rcases hr.vec hσ h5 with ⟨h8, _⟩ | ⟨_, cs, vs, ws, t, h9, h10, h11, h12⟩
              · rw [h6] at h8; cases h8
              · have hvl := h12.length
                have hq : off * e' + len * e' ≤ vs.length := by rw [hvl, ← Nat.add_mul]; exact Nat.mul_le_mul_right _ hle
                have g0 := range_sub (range_of_list h9) (off * e') (len * e') hq
                rw [h10] at g0
                obtain ⟨g1, g2⟩ := range_get g0
                have g3 := (h12.drop off).take len
                have g4 := mk ⟨L.blk, L.base + off * e', none⟩ cap _ (by rw [g1, hlen]) (fun j u hj => by rw [add_at]; exact g2 j u hj) g3.one
                rw [hlen] at g4 ⊢
                exact ⟨_, g4.1, g3, g4.2⟩
        · cases h
      · cases h
    · cases h
  case va e' id off len =>
    split at h
    · rename_i he'
      subst he'
      split at h
      · rename_i cs hσ
        split at h
        · rename_i hle
          simp only [Option.some.injEq] at h
          subst h
          obtain ⟨a, cap, L, rfl, h2, h3, h4, h5, h6, h7⟩ := hv
          obtain ⟨_, h8, vs, t, h9, h10⟩ := hr.var hσ h5
          have hvl := h10.length
          by_cases h0 : len = 0
          · subst h0
            exact ⟨[], (nil rfl a cap).1, rfl, (nil rfl a cap).2⟩
          · rcases h7 with h7 | rfl
            · omega
            · have g0 := range_whole h9 off (len * e') (by omega)
              obtain ⟨g1, g2⟩ := range_get g0
              have g3 := RlE.chunk (e := e') len (h10.drop off) (by simp; omega)
              have g4 := mk ⟨L.blk, L.base + off, none⟩ cap _ (by rw [g1, length_chunk]) (fun j u hj => by rw [add_at, h8, Nat.zero_add]; exact g2 j u hj) g3.one
              rw [length_chunk] at g4 ⊢
              exact ⟨_, g4.1, g3, g4.2⟩
        · cases h
      · cases h
    · cases h
end
end Go.FH
