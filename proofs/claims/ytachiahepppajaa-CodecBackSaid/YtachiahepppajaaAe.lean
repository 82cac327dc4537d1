/-
  The abstract walk: equality of structs and arrays, cell by cell. It holds of any program.
-/
import Derived.Test.YtachiahepppajaaBase
import Derived.Laws.StructEq
namespace Go.FH
set_option linter.unusedVariables false
set_option linter.unusedSimpArgs false
open Go Go.RowKit

/-- The kinds of a type's cells (0 bool, 1 integer, 2 string), where equality is equality of all cells. -/
def leafF (f : TypeId → Option (List Nat)) (P : Program) : List Field → Nat → Option (List Nat)
  | [], _ => some []
  | g :: gs, off => match f g.type, leafF f P gs (off + P.cellsOf g.type) with
    | some a, some b => if g.name ≠ "_" ∧ g.offset = off ∧ P.cellsOf g.type = a.length then some (a ++ b) else none
    | _, _ => none
def leafs (P : Program) : Nat → TypeId → Option (List Nat)
  | 0, _ => none
  | d + 1, t => match P.underlying t with
    | some .bool => some [0]
    | some (.int _) => some [1]
    | some .string => some [2]
    | some (.array n e) => match leafs P d e with
      | some l => if P.cellsOf e = l.length then some (List.replicate n l).flatten else none
      | none => none
    | some (.struct fs) => if P.stoodInHeld t then none else leafF (leafs P d) P fs.toList 0
    | _ => none
def vkind : Value → Nat
  | .bool _ => 0
  | .int _ _ => 1
  | .string _ => 2
  | _ => 3
def veq1 : Value → Value → Option Bool
  | .int k a, .int k' b => if k = k' then some (a == b) else none
  | .bool a, .bool b => some (a == b)
  | .string a, .string b => some (a.toList == b.toList)
  | _, _ => none
def veqL : List Value → List Value → Option Bool
  | [], [] => some true
  | x :: xs, y :: ys => match veq1 x y, veqL xs ys with
    | some a, some b => some (a && b)
    | _, _ => none
  | _, _ => none
theorem veqL_app : ∀ {a c b d : List Value} {r : Bool}, a.length = c.length → veqL (a ++ b) (c ++ d) = some r → ∃ x y, veqL a c = some x ∧ veqL b d = some y ∧ r = (x && y)
  | [], [], b, d, r, _, h => ⟨true, r, rfl, by simpa using h, by simp⟩
  | [], _ :: _, _, _, _, hl, _ => by simp at hl
  | _ :: _, [], _, _, _, hl, _ => by simp at hl
  | x :: a, y :: c, b, d, r, hl, h => by
    simp only [List.cons_append, veqL] at h
    split at h
    · rename_i p q h1 h2
      simp only [Option.some.injEq] at h
      obtain ⟨u, v, g1, g2, g3⟩ := veqL_app (by simpa using hl) h2
      exact ⟨p && u, v, by simp [veqL, h1, g1], g2, by rw [← h, g3, Bool.and_assoc]⟩
    · cases h
def aggT (P : Program) (t : TypeId) : Bool := match P.underlying t with | some (.struct _) | some (.array _ _) => true | _ => false
def pk (P : Program) (t : TypeId) (us : List Value) : Value := if aggT P t then .agg us.toArray else us.headD (.tuple #[])
theorem run_part_pk {P : Program} (w : World) {e : TypeId} {ks : List Nat} {d : Nat} (h : leafs P d e = some ks) (hc : P.cellsOf e = ks.length) (xs : Array Value) (off : Nat) (hl : off + ks.length ≤ xs.size) :
    (part e xs off).run P w = .ok (pk P e ((xs.toList.drop off).take ks.length)) w := by
  cases d with
  | zero => simp [leafs] at h
  | succ d =>
    unfold leafs at h
    cases hu : P.underlying e with
    | none => simp [hu] at h
    | some td =>
      have hinfo : ∃ i, P.info? e = some i := by
        unfold Program.underlying at hu
        cases hi : P.info? e with
        | none => simp [hi] at hu
        | some i => exact ⟨i, rfl⟩
      obtain ⟨i, hi⟩ := hinfo
      have hsz : P.cellsOf e = i.size := by simp [Program.cellsOf, hi]
      have one : ks.length = 1 → (∀ fs, td ≠ .struct fs) → (∀ n e, td ≠ .array n e) → (part e xs off).run P w = .ok (pk P e ((xs.toList.drop off).take ks.length)) w := by
        intro h1 h2 h3
        have hag : (isAgg e).run P w = .ok false w := by
          unfold isAgg
          rw [Sem.run_bind, run_underlying hu w]
          cases td <;> simp_all
        have hat : aggT P e = false := by
          unfold aggT
          rw [hu]
          cases td <;> simp_all
        have hlt : off < xs.size := by omega
        have : (xs.toList.drop off).take ks.length = [xs[off]] := by
          rw [h1, List.drop_eq_getElem_cons (by simpa using hlt), List.take_succ_cons]
          simp
        simp [part, Sem.run_bind, hag, hlt, pk, hat, this]
      have agg : (∃ fs, td = .struct fs) ∨ (∃ n e, td = .array n e) → (part e xs off).run P w = .ok (pk P e ((xs.toList.drop off).take ks.length)) w := by
        intro hk
        have hag : (isAgg e).run P w = .ok true w := by
          unfold isAgg
          rw [Sem.run_bind, run_underlying hu w]
          rcases hk with ⟨fs, rfl⟩ | ⟨n, e', rfl⟩ <;> simp
        have hat : aggT P e = true := by
          unfold aggT
          rw [hu]
          rcases hk with ⟨fs, rfl⟩ | ⟨n, e', rfl⟩ <;> rfl
        have h9 : (xs.extract off (off + i.size)) = ((xs.toList.drop off).take ks.length).toArray := by
          apply Array.toList_inj.1
          rw [← hsz, hc]
          simp [List.extract_eq_take_drop]
        simp [part, Sem.run_bind, hag, sizeOf, typeInfo, hi, pk, hat, h9]
      simp only [hu] at h
      cases td <;> simp only [reduceCtorEq, Option.some.injEq] at h
      case bool => subst h; exact one rfl (by simp) (by simp)
      case int => subst h; exact one rfl (by simp) (by simp)
      case string => subst h; exact one rfl (by simp) (by simp)
      case array n e' => exact agg (.inr ⟨n, e', rfl⟩)
      case struct fs => exact agg (.inl ⟨fs, rfl⟩)

theorem run_leaf_eq {P : Program} : ∀ (d : Nat) {t : TypeId} {ks : List Nat}, leafs P d t = some ks → ∀ {us vs : List Value} {r : Bool}, us.map vkind = ks → vs.map vkind = ks → veqL us vs = some r →
    ∀ (m : Nat) (w : World), (Op.equalIn (d + m) t (pk P t us) (pk P t vs)).run P w = .ok r w
  | 0, _, _, h, _, _, _, _, _, _, _, _ => by simp [leafs] at h
  | d + 1, t, ks, h, us, vs, r, hu, hv, he, m, w => by
    have ih := @run_leaf_eq P d
    have e0 : d + 1 + m = (d + m) + 1 := by omega
    rw [e0]
    unfold leafs at h
    cases hut : P.underlying t with
    | none => simp [hut] at h
    | some td =>
      simp only [hut] at h
      cases td <;> simp only [reduceCtorEq, Option.some.injEq] at h
      case bool =>
        subst h
        match us, vs with
        | [.bool a], [.bool b] => simp [veqL, veq1] at he; subst he; simpa [pk, aggT, hut] using run_equalIn_bool' w (d + m) t a b hut
        | [], _ => simp at hu
        | _ :: _ :: _, _ => simp at hu
        | [x], [] => simp at hv
        | [x], _ :: _ :: _ => simp at hv
        | [x], [y] => cases x <;> simp [vkind] at hu <;> cases y <;> simp [vkind] at hv <;> simp [veqL, veq1] at he <;> (subst he; simpa [pk, aggT, hut] using run_equalIn_bool' w (d + m) t _ _ hut)
      case int k0 =>
        subst h
        match us, vs with
        | [], _ => simp at hu
        | _ :: _ :: _, _ => simp at hu
        | [x], [] => simp at hv
        | [x], _ :: _ :: _ => simp at hv
        | [x], [y] =>
          cases x <;> simp [vkind] at hu
          cases y <;> simp [vkind] at hv
          simp [veqL, veq1] at he
          split at he
          · rename_i p hp hq
            split at hp
            · rename_i hk
              subst hk
              simp only [Option.some.injEq] at hp hq he
              subst hp
              subst hq
              subst he
              simpa [pk, aggT, hut] using run_equalIn_int w (d + m) t _ k0 _ _ hut
            · cases hp
          · cases he
      case string =>
        subst h
        match us, vs with
        | [], _ => simp at hu
        | _ :: _ :: _, _ => simp at hu
        | [x], [] => simp at hv
        | [x], _ :: _ :: _ => simp at hv
        | [x], [y] =>
          cases x <;> simp [vkind] at hu
          cases y <;> simp [vkind] at hv
          simp [veqL, veq1] at he
          subst he
          simpa [pk, aggT, hut] using run_equalIn_string w (d + m) t _ _ hut
      case array n e =>
        split at h
        · rename_i l hl
          split at h
          · rename_i hc
            simp only [Option.some.injEq] at h
            subst h
            have hat : aggT P t = true := by simp [aggT, hut]
            simp only [pk, hat, if_true]
            have hinfo : ∃ i, P.info? e = some i := by
              cases hi : P.info? e with
              | some i => exact ⟨i, rfl⟩
              | none =>
                exfalso
                have : P.underlying e = none := by simp [Program.underlying, hi]
                cases d with
                | zero => simp [leafs] at hl
                | succ d => unfold leafs at hl; simp [this] at hl
            obtain ⟨i, hi⟩ := hinfo
            rw [run_equalIn_array w (d + m) us.toArray vs.toArray hut hi, List.range_eq_range']
            have hlu : us.length = n * l.length := by have := congrArg List.length hu; simpa using this
            have hlv : vs.length = n * l.length := by have := congrArg List.length hv; simpa using this
            have key : ∀ (q s : Nat) (r : Bool), s + q = n → veqL (us.drop (s * l.length)) (vs.drop (s * l.length)) = some r → (us.drop (s * l.length)).map vkind = (List.replicate q l).flatten → (vs.drop (s * l.length)).map vkind = (List.replicate q l).flatten →
                (Op.eqItems (d + m) e (P.cellsOf e) us.toArray vs.toArray (List.range' s q)).run P w = .ok r w := by
              intro q
              induction q with
              | zero =>
                intro s r hs h1 h2 h3
                have z1 : us.drop (s * l.length) = [] := by simpa using h2
                have z2 : vs.drop (s * l.length) = [] := by simpa using h3
                rw [z1, z2] at h1
                simp only [veqL, Option.some.injEq] at h1
                subst h1
                simp [Op.eqItems]
              | succ q ihq =>
                intro s r hs h1 h2 h3
                have hle : s * l.length + l.length ≤ n * l.length := by
                  have : (s + 1) * l.length ≤ n * l.length := Nat.mul_le_mul_right _ (by omega)
                  rw [Nat.add_mul] at this; omega
                rw [List.range'_succ, Op.eqItems, hc, Sem.run_bind, run_part_pk w hl hc us.toArray (s * l.length) (by simp [hlu]; exact hle), Result.andThen_ok, Sem.run_bind,
                  run_part_pk w hl hc vs.toArray (s * l.length) (by simp [hlv]; exact hle), Result.andThen_ok, Sem.run_bind]
                have ea : us.drop (s * l.length) = (us.drop (s * l.length)).take l.length ++ us.drop ((s + 1) * l.length) := by
                  rw [Nat.add_mul, Nat.one_mul, ← List.drop_drop, List.take_append_drop]
                have eb : vs.drop (s * l.length) = (vs.drop (s * l.length)).take l.length ++ vs.drop ((s + 1) * l.length) := by
                  rw [Nat.add_mul, Nat.one_mul, ← List.drop_drop, List.take_append_drop]
                have la : ((us.drop (s * l.length)).take l.length).length = l.length := by simp [hlu]; omega
                have lb : ((vs.drop (s * l.length)).take l.length).length = l.length := by simp [hlv]; omega
                rw [ea, eb] at h1
                rw [ea, List.map_append, List.replicate_succ, List.flatten_cons] at h2
                rw [eb, List.map_append, List.replicate_succ, List.flatten_cons] at h3
                obtain ⟨k1, k2⟩ := List.append_inj h2 (by rw [List.length_map, la])
                obtain ⟨k3, k4⟩ := List.append_inj h3 (by rw [List.length_map, lb])
                obtain ⟨x, y, g1, g2, rfl⟩ := veqL_app (by rw [la, lb]) h1
                have := ih hl k1 k3 g1 m w
                simp only [this, Result.andThen_ok]
                cases x
                · simp
                · have := ihq (s + 1) y (by omega) g2 k2 k4
                  rw [hc] at this
                  simpa using this
            exact key n 0 r (by omega) (by simpa using he) (by simpa using hu) (by simpa using hv)
          · cases h
        · cases h
      case struct fs =>
        split at h
        · cases h
        · rename_i hst
          have hat : aggT P t = true := by simp [aggT, hut]
          have hfo : P.fieldsOf t = fs := by simp [Program.fieldsOf, hut]
          simp only [pk, hat, if_true]
          rw [run_equalIn_struct w (d + m) t us.toArray vs.toArray (by rw [hfo]; exact hut) (by simpa using hst), hfo]
          have key : ∀ (gs : List Field) (off : Nat) (ks : List Nat) (r : Bool), leafF (leafs P d) P gs off = some ks → veqL (us.drop off) (vs.drop off) = some r → (us.drop off).map vkind = ks → (vs.drop off).map vkind = ks → off + ks.length = us.length → off + ks.length = vs.length →
              (Op.eqFields (d + m) us.toArray vs.toArray gs).run P w = .ok r w := by
            intro gs
            induction gs with
            | nil =>
              intro off ks r h0 h1 h2 h3 _ _
              simp only [leafF, Option.some.injEq] at h0
              subst h0
              have z1 : us.drop off = [] := by simpa using h2
              have z2 : vs.drop off = [] := by simpa using h3
              rw [z1, z2] at h1
              simp only [veqL, Option.some.injEq] at h1
              subst h1
              simp [Op.eqFields]
            | cons g gs ihg =>
              intro off ks r h0 h1 h2 h3 h4 h5
              simp only [leafF] at h0
              split at h0
              · rename_i a b ha hb
                split at h0
                · rename_i hcond
                  obtain ⟨hn, rfl, hc⟩ := hcond
                  simp only [Option.some.injEq] at h0
                  subst h0
                  rw [List.length_append] at h4 h5
                  rw [Op.eqFields, if_pos hn, Sem.run_bind, run_part_pk w ha hc us.toArray g.offset (by simp; omega), Result.andThen_ok, Sem.run_bind, run_part_pk w ha hc vs.toArray g.offset (by simp; omega), Result.andThen_ok, Sem.run_bind]
                  have ea : us.drop g.offset = (us.drop g.offset).take a.length ++ us.drop (g.offset + a.length) := by rw [← List.drop_drop, List.take_append_drop]
                  have eb : vs.drop g.offset = (vs.drop g.offset).take a.length ++ vs.drop (g.offset + a.length) := by rw [← List.drop_drop, List.take_append_drop]
                  have la : ((us.drop g.offset).take a.length).length = a.length := by simp; omega
                  have lb : ((vs.drop g.offset).take a.length).length = a.length := by simp; omega
                  rw [ea, eb] at h1
                  rw [ea, List.map_append] at h2
                  rw [eb, List.map_append] at h3
                  obtain ⟨k1, k2⟩ := List.append_inj h2 (by rw [List.length_map, la])
                  obtain ⟨k3, k4⟩ := List.append_inj h3 (by rw [List.length_map, lb])
                  obtain ⟨x, y, g1, g2, rfl⟩ := veqL_app (by rw [la, lb]) h1
                  have := ih ha k1 k3 g1 m w
                  simp only [this, Result.andThen_ok]
                  cases x
                  · simp
                  · have := ihg (g.offset + a.length) b y (by rw [← hc]; exact hb) g2 k2 k4 (by omega) (by omega)
                    simpa using this
                · cases h0
              · cases h0
          exact key fs.toList 0 ks r h (by simpa using he) (by simpa using hu) (by simpa using hv) (by
            have := congrArg List.length hu
            simp at this
            omega) (by
            have := congrArg List.length hv
            simp at this
            omega)
end Go.FH
