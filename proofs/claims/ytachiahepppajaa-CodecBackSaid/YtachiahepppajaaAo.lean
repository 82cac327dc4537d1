/-
  The abstract walk, part 3: its operations, how the model's operations become them, and what they ask. It holds of any program.
-/
import Derived.Test.YtachiahepppajaaAw
import Derived.Test.YtachiahepppajaaAe
namespace Go.FH
set_option linter.unusedVariables false
set_option linter.unusedSimpArgs false
open Go Go.RowKit

inductive Opd where
  | t (n : Nat)
  | c (v : AV)
  deriving Inhabited
def Opd.ev (fr : Fr) : Opd → AV
  | .t n => fr.get n
  | .c v => v

inductive AOp where
  | mv (x : Opd)
  | pick (c a b : Opd)
  | bin (op : BinOp) (x y : Opd)
  | eqv (kd : Nat) (neg : Bool) (x y : Opd)
  | eqa (ks : List (Nat × Nat)) (neg : Bool) (x y : Opd)
  | un (op : UnOp) (x : Opd)
  | cvt (k : IntKind) (x : Opd)
  | b2s (x : Opd)
  | nilc (x : Opd)
  | fld (ag : Bool) (off sz : Nat) (x : Opd)
  | fldA (off : Nat) (x : Opd)
  | idx (ag : Bool) (n e : Nat) (x i : Opd)
  | idxA (n e : Nat) (x i : Opd)
  | idxS (e : Nat) (x i : Opd)
  | ld (ag : Bool) (sz : Nat) (x : Opd)
  | sto (sz : Nat) (x y : Opd)
  | new (z : List AV)
  | box (sz : Nat) (x : Opd)
  | bld (z : List AV) (ps : List (Nat × Nat × Opd))
  | bldS (e n : Nat) (z : List AV) (ps : List (Nat × Opd))
  | mk (e bytes : Nat) (z : List AV) (l c : Opd)
  | sli (e : Nat) (x : Opd) (lo hi mx : Option Opd)
  | sliA (e n : Nat) (x : Opd) (lo hi : Option Opd)
  | ext (i : Nat) (x : Opd)
  | len (st : Bool) (x : Opd)
  | cap (x : Opd)
  | app (e bytes : Nat) (s x : Opd)
  | cpy (e : Nat) (d s : Opd)
  | mn (xs : List Opd)
  | mx (xs : List Opd)
  | mkf (f : Fn) (caps : List Opd)
  | call (f : Opd) (xs : List Opd)
  | isn (neg : Bool) (x : Opd)
  deriving Inhabited

structure AOpr where
  dst : Option Nat
  op : AOp
  gd : Option (Nat × Bool)
  deriving Inhabited

/-! ### What the operations yield -/
def selAV (b : Bool) (x y : AV) : AV := match x, y with
  | .bool x, .bool y => .bool (cond b x y)
  | x, y => cond b x y
def iand (k : IntKind) (a b : Int) : Int := k.wrap (BitVec.ofInt k.bits a &&& BitVec.ofInt k.bits b).toNat
def ior (k : IntKind) (a b : Int) : Int := k.wrap (BitVec.ofInt k.bits a ||| BitVec.ofInt k.bits b).toNat
def ixor (k : IntKind) (a b : Int) : Int := k.wrap (BitVec.ofInt k.bits a ^^^ BitVec.ofInt k.bits b).toNat
def iandn (k : IntKind) (a b : Int) : Int := k.wrap (BitVec.ofInt k.bits a &&& ~~~ BitVec.ofInt k.bits b).toNat
def ishl (k : IntKind) (a : Int) (n : Nat) : Int := k.wrap (a * 2 ^ (min n k.bits))
def ishr (k : IntKind) (a : Int) (n : Nat) : Int := a.fdiv (2 ^ (min n k.bits))
def icom (k : IntKind) (n : Int) : Int := k.wrap (BitVec.ofInt k.bits (if k.signed then -1 else k.max) ^^^ BitVec.ofInt k.bits n).toNat
def binK (op : BinOp) (k : IntKind) (a : Int) (k' : IntKind) (b : Int) (K : AV → Prop) : Prop := match op with
  | .shl => 0 ≤ b ∧ K (.int k (ishl k a b.toNat))
  | .shr => 0 ≤ b ∧ K (.int k (ishr k a b.toNat))
  | .add => k = k' ∧ K (.int k (k.wrap (a + b)))
  | .sub => k = k' ∧ K (.int k (k.wrap (a - b)))
  | .mul => k = k' ∧ K (.int k (k.wrap (a * b)))
  | .quo => k = k' ∧ b ≠ 0 ∧ K (.int k (k.wrap (a.tdiv b)))
  | .rem => k = k' ∧ b ≠ 0 ∧ K (.int k (a.tmod b))
  | .and => k = k' ∧ K (.int k (iand k a b))
  | .or => k = k' ∧ K (.int k (ior k a b))
  | .xor => k = k' ∧ K (.int k (ixor k a b))
  | .andNot => k = k' ∧ K (.int k (iandn k a b))
  | .eql => k = k' ∧ K (.bool (a == b))
  | .neq => k = k' ∧ K (.bool (a != b))
  | .lss => k = k' ∧ K (.bool (decide (a < b)))
  | .leq => k = k' ∧ K (.bool (decide (a ≤ b)))
  | .gtr => k = k' ∧ K (.bool (decide (b < a)))
  | .geq => k = k' ∧ K (.bool (decide (b ≤ a)))
/-- Equality of two cells; none: it can't be told. -/
def aeq1 : AV → AV → Option Bool
  | .int k a, .int k' b => if k = k' then some (a == b) else none
  | .bool a, .bool b => some (a == b)
  | .str a, .str b => some (a == b)
  | _, _ => none
def aeqL : List AV → List AV → Option Bool
  | [], [] => some true
  | x :: xs, y :: ys => match aeq1 x y, aeqL xs ys with
    | some a, some b => some (a && b)
    | _, _ => none
  | _, _ => none
/-- Equality of bools (0), strings (1), pointers with nil (2), functions with nil (3). -/
def aeqN : Nat → AV → AV → Option Bool
  | 0, .bool a, .bool b => some (a == b)
  | 1, .str a, .str b => some (a == b)
  | 2, .nilp, .nilp => some true
  | 2, .nilp, .ptr _ _ | 2, .ptr _ _, .nilp | 2, .nilp, .vp _ _ _ _ | 2, .vp _ _ _ _, .nilp | 2, .nilp, .elt _ _ _ _ | 2, .elt _ _ _ _, .nilp => some false
  | 3, .nilf, .nilf => some true
  | 3, .nilf, .fn _ _ | 3, .fn _ _, .nilf => some false
  | _, _, _ => none
def unV : UnOp → AV → Option AV
  | .neg, .int k n => some (.int k (k.wrap (0 - n)))
  | .xor, .int k n => some (.int k (icom k n))
  | .not, .bool b => some (.bool !b)
  | _, _ => none
def byOf : List AV → UInt8
  | [.int .u8 n] => UInt8.ofNat n.toNat
  | _ => 0
def isByte : List AV → Bool
  | [.int .u8 _] => true
  | _ => false
def cut (cs : List AV) (off n : Nat) : List AV := (cs.drop off).take n
def spl (cs : List AV) (off : Nat) (vs : List AV) : List AV := cs.take off ++ vs ++ cs.drop (off + vs.length)
def pack (ag : Bool) (cs : List AV) : AV := if ag then .agg cs else cs.headD .dead
def AV.cellsOf : AV → List AV
  | .agg cs => cs
  | v => [v]
def allCells (cs : List AV) : Bool := cs.all AV.cell
/-- Cells cut into elements of e cells. -/
def chunk (e : Nat) : Nat → List AV → List (List AV)
  | 0, _ => []
  | n + 1, cs => cs.take e :: chunk e n (cs.drop e)
/-- The elements that a slice shows. -/
def rdS (σ : St) (e : Nat) : AV → Option (List (List AV))
  | .sl e' _ xs => if e' = e ∨ xs = [] then some xs else none
  | .hs e' id off len => if e' = e then match σ[id]? with
    | some (.vec e2 xs) => if e2 = e ∧ off + len ≤ xs.length then some ((xs.drop off).take len) else none
    | _ => none else none
  | .va e' id off len => if e' = e then match σ[id]? with
    | some (.var cs) => if off + len * e ≤ cs.length then some (chunk e len (cs.drop off)) else none
    | _ => none else none
  | .str s => if e = 1 then some (s.map fun b => [.int .u8 b.toNat]) else none
  | _ => none
/-- The elements of a slice of bytes, no string. -/
def rdB (σ : St) : AV → Option (List (List AV))
  | .str _ => none
  | v => rdS σ 1 v
/-- The object that a slice reads. -/
def srcId : AV → List Nat
  | .hs _ id _ _ | .va _ id _ _ => [id]
  | _ => []
def lenV : Bool → AV → Option Nat
  | false, .sl _ _ xs => some xs.length
  | false, .hs _ _ _ len | false, .va _ _ _ len => some len
  | true, .str s => some s.length
  | _, _ => none
def minL : AV → List AV → Option AV
  | x, [] => some x
  | .int k a, .int k' b :: r => minL (.int k (if b < a then b else a)) r
  | _, _ => none
def maxL : AV → List AV → Option AV
  | x, [] => some x
  | .int k a, .int k' b :: r => maxL (.int k (if b > a then b else a)) r
  | _, _ => none
/-- Parts laid into zero cells. -/
def fillL (cs : List AV) : List (Nat × Nat × AV) → List AV
  | [] => cs
  | (off, _, v) :: r => fillL (spl cs off v.cellsOf) r
def partsOk (n : Nat) : List (Nat × Nat × AV) → Bool
  | [] => true
  | (off, sz, v) :: r => v.cellsOf.length == sz && decide (off + sz ≤ n) && allCells v.cellsOf && partsOk n r
def bndI (x : AV) : Int := match x with | .int _ n => n | _ => -1
def bndO (ρ : Opd → AV) (d : Int) : Option Opd → Int
  | none => d
  | some x => bndI (ρ x)
def kindAV : AV → Nat
  | .bool _ => 0
  | .int _ _ => 1
  | .str _ => 2
  | _ => 3
def fitsK : List (Nat × Nat) → List AV → Bool
  | [], cs => cs.isEmpty
  | (n, k) :: r, cs => (cs.take n).length == n && (cs.take n).all (kindAV · == k) && fitsK r (cs.drop n)
def expandK : List (Nat × Nat) → List Nat
  | [] => []
  | (n, k) :: r => List.replicate n k ++ expandK r
def squeezeK : List Nat → List (Nat × Nat)
  | [] => []
  | k :: r => match squeezeK r with
    | (n, k') :: q => if k = k' then (n + 1, k) :: q else (1, k) :: (n, k') :: q
    | [] => [(1, k)]
def fillE (xs : List (List AV)) : List (Nat × AV) → List (List AV)
  | [] => xs
  | (i, v) :: r => fillE (xs.set i v.cellsOf) r
def partsE (e n : Nat) : List (Nat × AV) → Bool
  | [] => true
  | (i, v) :: r => v.cellsOf.length == e && decide (i < n) && allCells v.cellsOf && partsE e n r

/-- What an operation asks, and what it hands on: its value, the objects that it looks at or turns, whether it turns them, the objects behind it. n: the number of a new object. -/
def opF (n : Nat) (σ : St) (ρ : Opd → AV) (K : AV → List Nat → Bool → St → Prop) : AOp → Prop
  | .mv x => K (ρ x) [] false σ
  | .pick c a b => match ρ c with
    | .bool t => K (selAV t (ρ a) (ρ b)) [] false σ
    | _ => False
  | .bin op x y => match ρ x, ρ y with
    | .int k a, .int k' b => binK op k a k' b fun v => K v [] false σ
    | _, _ => False
  | .eqv kd neg x y => match aeqN kd (ρ x) (ρ y) with
    | some b => K (.bool (b != neg)) [] false σ
    | none => False
  | .eqa ks neg x y => match ρ x, ρ y with
    | .agg a, .agg b => fitsK ks a = true ∧ fitsK ks b = true ∧ match aeqL a b with
      | some r => K (.bool (r != neg)) [] false σ
      | none => False
    | _, _ => False
  | .un op x => match unV op (ρ x) with
    | some v => K v [] false σ
    | none => False
  | .cvt k x => match ρ x with
    | .int _ m => K (.int k (k.wrap m)) [] false σ
    | _ => False
  | .b2s x => match rdB σ (ρ x) with
    | some xs => xs.all isByte = true ∧ K (.str (xs.map byOf)) (srcId (ρ x)) false σ
    | none => False
  | .nilc x => match ρ x with
    | .ptr id o => K (.ptr id o) [] false σ
    | .vp e id i o => K (.vp e id i o) [] false σ
    | .elt e xs i o => K (.elt e xs i o) [] false σ
    | .fn (.func f) cs => K (.fn (.func f) cs) [] false σ
    | _ => False
  | .fld ag off sz x => match ρ x with
    | .agg cs => off + sz ≤ cs.length ∧ K (pack ag (cut cs off sz)) [] false σ
    | _ => False
  | .fldA off x => match ρ x with
    | .ptr id o => K (.ptr id (o + off)) [] false σ
    | .vp e id i o => K (.vp e id i (o + off)) [] false σ
    | .elt e xs i o => K (.elt e xs i (o + off)) [] false σ
    | _ => False
  | .idx ag m e x i => match ρ x, ρ i with
    | .agg cs, .int _ j => 0 ≤ j ∧ j < m ∧ cs.length = m * e ∧ K (pack ag (cut cs (j.toNat * e) e)) [] false σ
    | _, _ => False
  | .idxA m e x i => match ρ x, ρ i with
    | .ptr id o, .int _ j => 0 ≤ j ∧ j < m ∧ K (.ptr id (o + j.toNat * e)) [] false σ
    | .vp e' id q o, .int _ j => 0 ≤ j ∧ j < m ∧ K (.vp e' id q (o + j.toNat * e)) [] false σ
    | .elt e' xs q o, .int _ j => 0 ≤ j ∧ j < m ∧ K (.elt e' xs q (o + j.toNat * e)) [] false σ
    | _, _ => False
  | .idxS e x i => match ρ x, ρ i with
    | .sl e' cl xs, .int _ j => e' = e ∧ 0 ≤ j ∧ j < xs.length ∧ K (.elt e xs j.toNat 0) [] false σ
    | .hs e' id off len, .int _ j => e' = e ∧ 0 ≤ j ∧ j < len ∧ K (.vp e id (off + j.toNat) 0) [] false σ
    | .va e' id off len, .int _ j => e' = e ∧ 0 ≤ j ∧ j < len ∧ K (.ptr id (off + j.toNat * e)) [] false σ
    | _, _ => False
  | .ld ag sz x => match ρ x with
    | .ptr id o => match σ[id]? with
      | some (.var cs) => o + sz ≤ cs.length ∧ K (pack ag (cut cs o sz)) [id] false σ
      | _ => False
    | .vp e id i o => match σ[id]? with
      | some (.vec e' xs) => e' = e ∧ o + sz ≤ e ∧ i < xs.length ∧ K (pack ag (cut (xs.getD i []) o sz)) [id] false σ
      | _ => False
    | .elt e xs i o => o + sz ≤ e ∧ i < xs.length ∧ K (pack ag (cut (xs.getD i []) o sz)) [] false σ
    | _ => False
  | .sto sz x y => (ρ y).cellsOf.length = sz ∧ allCells (ρ y).cellsOf = true ∧ match ρ x with
    | .ptr id o => match σ[id]? with
      | some (.var cs) => o + sz ≤ cs.length ∧ K (.tup []) [id] true (σ.set id (.var (spl cs o (ρ y).cellsOf)))
      | _ => False
    | .vp e id i o => match σ[id]? with
      | some (.vec e' xs) => e' = e ∧ o + sz ≤ e ∧ i < xs.length ∧ K (.tup []) [id] true (σ.set id (.vec e (xs.set i (spl (xs.getD i []) o (ρ y).cellsOf))))
      | _ => False
    | _ => False
  | .new z => K (.ptr n 0) [n] true (σ.set n (.var z))
  | .box sz x => (ρ x).cellsOf.length = sz ∧ allCells (ρ x).cellsOf = true ∧ K (.ptr n 0) [n] true (σ.set n (.var (ρ x).cellsOf))
  | .bld z ps => partsOk z.length (ps.map fun p => (p.1, p.2.1, ρ p.2.2)) = true ∧ K (.agg (fillL z (ps.map fun p => (p.1, p.2.1, ρ p.2.2)))) [] false σ
  | .bldS e m z ps => partsE e m (ps.map fun p => (p.1, ρ p.2)) = true ∧ K (.sl e true (fillE (List.replicate m z) (ps.map fun p => (p.1, ρ p.2)))) [] false σ
  | .mk e bytes z l c => match ρ l, ρ c with
    | .int _ a, .int _ b => 0 ≤ a ∧ a ≤ b ∧ (bytes : Int) * b ≤ 281474976710656 ∧ b ≤ 9223372036854775807 ∧ K (.hs e n 0 a.toNat) [n] true (σ.set n (.vec e (List.replicate a.toNat z)))
    | _, _ => False
  | .sli e x lo hi mx => match ρ x with
    | .sl e' cl xs => (e' = e ∨ xs = []) ∧ 0 ≤ bndO ρ 0 lo ∧ bndO ρ 0 lo ≤ bndO ρ xs.length hi ∧ bndO ρ xs.length hi ≤ bndO ρ xs.length mx ∧ bndO ρ xs.length mx ≤ xs.length ∧ (mx = none ∨ hi ≠ none) ∧
        K (.sl e (match mx with | none => cl && hi.isNone | some _ => decide (bndO ρ xs.length mx = bndO ρ xs.length hi)) ((xs.drop (bndO ρ 0 lo).toNat).take ((bndO ρ xs.length hi).toNat - (bndO ρ 0 lo).toNat))) [] false σ
    | .hs e' id off len => e' = e ∧ mx = none ∧ 0 ≤ bndO ρ 0 lo ∧ bndO ρ 0 lo ≤ bndO ρ len hi ∧ bndO ρ len hi ≤ len ∧ K (.hs e id (off + (bndO ρ 0 lo).toNat) ((bndO ρ len hi).toNat - (bndO ρ 0 lo).toNat)) [] false σ
    | .va e' id off len => e' = e ∧ mx = none ∧ 0 ≤ bndO ρ 0 lo ∧ bndO ρ 0 lo ≤ bndO ρ len hi ∧ bndO ρ len hi ≤ len ∧ K (.va e id (off + (bndO ρ 0 lo).toNat * e) ((bndO ρ len hi).toNat - (bndO ρ 0 lo).toNat)) [] false σ
    | _ => False
  | .sliA e m x lo hi => match ρ x with
    | .ptr id o => 0 ≤ bndO ρ 0 lo ∧ bndO ρ 0 lo ≤ bndO ρ m hi ∧ bndO ρ m hi ≤ m ∧ K (.va e id (o + (bndO ρ 0 lo).toNat * e) ((bndO ρ m hi).toNat - (bndO ρ 0 lo).toNat)) [] false σ
    | _ => False
  | .ext i x => match ρ x with
    | .tup vs => i < vs.length ∧ K (vs.getD i .dead) [] false σ
    | _ => False
  | .len st x => match lenV st (ρ x) with
    | some m => K (.int .i64 m) [] false σ
    | none => False
  | .cap x => match ρ x with
    | .sl _ true xs => K (.int .i64 xs.length) [] false σ
    | _ => False
  | .app e bytes s x => match rdS σ e (ρ x) with
    | none => False
    | some ys => match ρ s with
      | .sl e' cl xs => (e' = e ∨ xs = []) ∧ cl = true ∧ (xs = [] ∨ ys ≠ []) ∧ (xs.length + ys.length) * bytes ≤ 140737488355328 ∧ xs.length + ys.length ≤ 9223372036854775807 ∧
          K (.hs e n 0 (xs.length + ys.length)) (n :: srcId (ρ x)) true (σ.set n (.vec e (xs ++ ys)))
      | .hs e' id off len => e' = e ∧ match σ[id]? with
        | some (.vec e2 xs) => e2 = e ∧ off + len ≤ xs.length ∧ (len + ys.length) * bytes ≤ 140737488355328 ∧ len + ys.length ≤ 9223372036854775807 ∧
            K (.hs e n 0 (len + ys.length)) (n :: id :: srcId (ρ x)) true ((σ.set id .gone).set n (.vec e ((xs.drop off).take len ++ ys)))
        | _ => False
      | _ => False
  | .cpy e d s => match rdS σ e (ρ s) with
    | none => False
    | some ys => match ρ d with
      | .hs e' id off len => e' = e ∧ match σ[id]? with
        | some (.vec e2 xs) => e2 = e ∧ off + len ≤ xs.length ∧ K (.int .i64 (min ys.length len : Nat)) (id :: srcId (ρ s)) true (σ.set id (.vec e (xs.take off ++ ys.take (min ys.length len) ++ xs.drop (off + min ys.length len))))
        | _ => False
      | .va e' id off len => e' = e ∧ match σ[id]? with
        | some (.var cs) => off + len * e ≤ cs.length ∧ K (.int .i64 (min ys.length len : Nat)) (id :: srcId (ρ s)) true (σ.set id (.var (spl cs off (ys.take (min ys.length len)).flatten)))
        | _ => False
      | _ => False
  | .mn xs => match xs.map ρ with
    | v :: r => match minL v r with
      | some u => K u [] false σ
      | none => False
    | [] => False
  | .mx xs => match xs.map ρ with
    | v :: r => match maxL v r with
      | some u => K u [] false σ
      | none => False
    | [] => False
  | .mkf f caps => K (.fn f (caps.map ρ)) [] false σ
  | .call _ _ | .isn _ _ => False

/-! ### The model's operations as these -/
def ofCell : Value → Option AV
  | .bool b => some (.bool b)
  | .int k n => some (.int k n)
  | .string s => some (.str s.data.toList)
  | .pointer none => some .nilp
  | .slice none 0 0 => some (.sl 0 true [])
  | .nilFunc => some .nilf
  | _ => none
def ofCells : List Value → Option (List AV)
  | [] => some []
  | v :: vs => match ofCell v, ofCells vs with
    | some a, some b => some (a :: b)
    | _, _ => none
def ofVal : Value → Option AV
  | .agg cs => (ofCells cs.toList).map .agg
  | v => ofCell v
def convOpd : Operand → Option Opd
  | .tmp t => some (.t t)
  | .const v => (ofVal v).map .c
  | .func f => some (.c (.fn (.func f) []))
  | .global _ => none
def convOpds : List Operand → Option (List Opd)
  | [] => some []
  | x :: xs => match convOpd x, convOpds xs with
    | some a, some b => some (a :: b)
    | _, _ => none
def convOpt : Option Operand → Option (Option Opd)
  | none => some none
  | some x => (convOpd x).map some
/-- Is the type's variable an aggregate, and its cells. -/
def sizeInfo (P : Program) (t : TypeId) : Option (Bool × Nat) := match P.underlying t, P.info? t with
  | some (.struct _), some i => some (true, i.size)
  | some (.array _ _), some i => some (true, i.size)
  | some _, some i => if i.size = 1 then some (false, 1) else none
  | _, _ => none
def zeroL (P : Program) (t : TypeId) : Option (List AV) := match P.info? t with
  | some i => match i.zero with
    | some z => if z.cells.size = i.size then ofCells z.cells.toList else none
    | none => none
  | none => none
def convPartsS (P : Program) (fs : Array Field) : List (Nat × Operand) → Option (List (Nat × Nat × Opd))
  | [] => some []
  | (i, x) :: r => match fs[i]?, convOpd x, convPartsS P fs r with
    | some f, some y, some q => match P.info? f.type with
      | some ti => some ((f.offset, ti.size, y) :: q)
      | none => none
    | _, _, _ => none
def convPartsA (sz : Nat) : List (Nat × Operand) → Option (List (Nat × Nat × Opd))
  | [] => some []
  | (i, x) :: r => match convOpd x, convPartsA sz r with
    | some y, some q => some ((i * sz, sz, y) :: q)
    | _, _ => none
def convPartsE : List (Nat × Operand) → Option (List (Nat × Opd))
  | [] => some []
  | (i, x) :: r => match convOpd x, convPartsE r with
    | some y, some q => some ((i, y) :: q)
    | _, _ => none
def convCall (P : Program) (c : Call) : Option AOp := match c.callee with
  | .value f => match convOpd f, convOpds c.args.toList with
    | some g, some xs => some (.call g xs)
    | _, _ => none
  | .builtin b => match b, c.args.toList, c.argTypes.toList with
    | .len, [x], [t] => match P.underlying t with
      | some (.slice _) => (convOpd x).map (.len false)
      | some .string => (convOpd x).map (.len true)
      | _ => none
    | .cap, [x], [t] => match P.underlying t with
      | some (.slice _) => (convOpd x).map .cap
      | _ => none
    | .append, [s, x], [t, u] => match P.underlying t with
      | some (.slice e) => match P.info? e, zeroL P e, convOpd s, convOpd x with
        | some i, some _, some a, some b => (match P.underlying u with
          | some (.slice _) | some .string => if 0 < i.size ∧ 0 < i.bytes then some (.app i.size i.bytes a b) else none
          | _ => none)
        | _, _, _, _ => none
      | _ => none
    | .copy, [d, s], [t, u] => match P.underlying t with
      | some (.slice e) => match P.info? e, convOpd d, convOpd s with
        | some i, some a, some b => if 0 < i.size then some (.cpy i.size a b) else none
        | _, _, _ => none
      | _ => none
    | .min, xs, _ => (convOpds xs).map .mn
    | .max, xs, _ => (convOpds xs).map .mx
    | _, _, _ => none
  | .invoke _ _ => none
def convOp (P : Program) : Op → Option AOp
  | .move x | .assign x => (convOpd x).map .mv
  | .pick c a b => match convOpd c, convOpd a, convOpd b with
    | some c, some a, some b => some (.pick c a b)
    | _, _, _ => none
  | .binOp op t x y _ => match convOpd x, convOpd y with
    | some a, some b => (match P.underlying t with
      | some (.int _) => some (.bin op a b)
      | some .bool => (match op with | .eql => some (.eqv 0 false a b) | .neq => some (.eqv 0 true a b) | _ => none)
      | some .string => (match op with | .eql => some (.eqv 1 false a b) | .neq => some (.eqv 1 true a b) | _ => none)
      | some (.pointer _) => (match op with | .eql => some (.eqv 2 false a b) | .neq => some (.eqv 2 true a b) | _ => none)
      | some (.func _ _ _) => (match op with | .eql => some (.eqv 3 false a b) | .neq => some (.eqv 3 true a b) | _ => none)
      | some (.struct _) | some (.array _ _) => (match leafs P 40 t with
        | some l => if expandK (squeezeK l) = l ∧ P.eqGuardType P.depth t = false then (match op with | .eql => some (.eqa (squeezeK l) false a b) | .neq => some (.eqa (squeezeK l) true a b) | _ => none) else none
        | none => none)
      | some (.slice _) => (match y with | .const (.slice none 0 0) => (match op with | .eql => some (.isn false a) | .neq => some (.isn true a) | _ => none) | _ => none)
      | _ => none)
    | _, _ => none
  | .unOp op _ x => (convOpd x).map (.un op)
  | .convert s d x => match P.underlying s, P.underlying d, convOpd x with
    | some (.int _), some (.int k), some a => some (.cvt k a)
    | some (.slice e), some .string, some a => (match P.underlying e with | some (.int .u8) => some (.b2s a) | _ => none)
    | _, _, _ => none
  | .nilCheck x => (convOpd x).map .nilc
  | .field t x i => match P.underlying t, convOpd x with
    | some (.struct fs), some a => (match fs[i]? with
      | some f => (sizeInfo P f.type).map fun p => .fld p.1 f.offset p.2 a
      | none => none)
    | _, _ => none
  | .fieldAddr t x i => match P.underlying t, convOpd x with
    | some (.struct fs), some a => (match fs[i]? with
      | some f => (match P.info? f.type with
        | some ti => if ti.size = 0 then none else some (.fldA f.offset a)
        | none => none)
      | none => none)
    | _, _ => none
  | .index t x i => match P.underlying t, convOpd x, convOpd i with
    | some (.array n e), some a, some b => (sizeInfo P e).map fun p => .idx p.1 n p.2 a b
    | _, _, _ => none
  | .indexAddr t x i => match P.underlying t, convOpd x, convOpd i with
    | some (.array n e), some a, some b => (P.info? e).map fun ti => .idxA n ti.size a b
    | some (.slice e), some a, some b => (match P.info? e with | some ti => if 0 < ti.size then some (.idxS ti.size a b) else none | none => none)
    | _, _, _ => none
  | .load t x => match sizeInfo P t, convOpd x with
    | some p, some a => some (.ld p.1 p.2 a)
    | _, _ => none
  | .store t x y => match P.info? t, convOpd x, convOpd y with
    | some i, some a, some b => some (.sto i.size a b)
    | _, _, _ => none
  | .alloc t => match zeroL P t, P.info? t with
    | some z, some i => some (.new z)
    | _, _ => none
  | .box t x => match P.info? t, convOpd x with
    | some i, some a => some (.box i.size a)
    | _, _ => none
  | .build t ps => match P.underlying t, zeroL P t with
    | some (.struct fs), some z => (convPartsS P fs ps.toList).bind fun q => if fs.toList.all fun f => (P.info? f.type).isSome then some (.bld z q) else none
    | some (.array n e), some z => (P.info? e).bind fun ti => (convPartsA ti.size ps.toList).map (.bld z)
    | _, _ => none
  | .buildSlice t n ps => match P.underlying t with
    | some (.slice e) => (match zeroL P e, P.info? e, convPartsE ps.toList with
      | some z, some i, some q => if 0 < i.size ∧ n * i.size ≤ 2 ^ 24 then some (.bldS i.size n z q) else none
      | _, _, _ => none)
    | _ => none
  | .makeSlice t l c => match P.underlying t with
    | some (.slice e) => (match zeroL P e, P.info? e, convOpd l, convOpd c with
      | some z, some i, some a, some b => if 0 < i.size then some (.mk i.size i.bytes z a b) else none
      | _, _, _, _ => none)
    | _ => none
  | .slice t x lo hi mx => match P.underlying t, convOpd x, convOpt lo, convOpt hi, convOpt mx with
    | some (.slice e), some a, some l, some h, some m => (match P.info? e with | some i => if 0 < i.size then some (.sli i.size a l h m) else none | none => none)
    | some (.array n e), some a, some l, some h, some none => (match P.info? e with | some i => if 0 < i.size ∧ n ≤ maxLen then some (.sliA i.size n a l h) else none | none => none)
    | _, _, _, _, _ => none
  | .extract x i => (convOpd x).map (.ext i)
  | .makeFunc f first caps => if first.isEmpty then (convOpds caps.toList).map (.mkf f) else none
  | .call c => convCall P c
  | _ => none
end Go.FH
