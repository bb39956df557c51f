/- A part of the proof; the statement is proved in the last part. -/
import Derived.Calls
import Derived.Orders
import Derived.Below
import Derived.Handy
import Derived.RowKit
import Derived.Laws.Cells
import Derived.Laws.CopyRow
import Derived.Laws.Entries
import Derived.Laws.StructEq
import Derived.Lib.Strings
import Derived.IntWalk
import Derived.Deep.AppendSrc
import Derived.LoopN
set_option linter.unusedSimpArgs false
set_option linter.unusedVariables false
section
namespace Go.Proofs.Ytadjimfkfmojkaa.Am
inductive Tr (α : Type) where
  | leaf
  | node (v : Option α) (l r : Tr α)
namespace Tr
variable {α : Type}
def bitsF : Nat → Nat → List Bool
  | 0, _ => []
  | _ + 1, 0 => []
  | f + 1, n + 1 => ((n + 1) % 2 == 1) :: bitsF f ((n + 1) / 2)
def bits (n : Nat) : List Bool := bitsF n n
def getP : Tr α → List Bool → Option α
  | leaf, _ => none
  | node v _ _, [] => v
  | node _ l r, b :: p => if b then l.getP p else r.getP p
def setP : List Bool → Option α → Tr α → Tr α
  | [], x, leaf => node x leaf leaf
  | [], x, node _ l r => node x l r
  | b :: p, x, leaf => if b then node none (setP p x leaf) leaf else node none leaf (setP p x leaf)
  | b :: p, x, node v l r => if b then node v (setP p x l) r else node v l (setP p x r)
theorem getP_leaf (p : List Bool) : (leaf : Tr α).getP p = none := by cases p <;> rfl
theorem getP_setP (p q : List Bool) (x : Option α) (t : Tr α) : (setP p x t).getP q = if p = q then x else t.getP q := by
  induction p generalizing q t with
  | nil => cases t <;> cases q <;> simp [setP, getP]
  | cons b p ih =>
    cases t <;> cases q <;> cases b <;> simp [setP, getP]
    all_goals (rename_i c q; cases c <;> simp [ih, getP_leaf])
def val : List Bool → Nat
  | [] => 0
  | b :: p => (if b then 1 else 0) + 2 * val p
theorem val_bitsF (f n : Nat) (h : n ≤ f) : val (bitsF f n) = n := by
  induction f generalizing n with
  | zero => simp [bitsF, val]; omega
  | succ f ih =>
    cases n with
    | zero => rfl
    | succ n =>
      simp only [bitsF, val]
      rw [ih ((n + 1) / 2) (by omega)]
      by_cases h1 : (n + 1) % 2 = 1 <;> simp [h1] <;> omega
theorem bits_inj {a b : Nat} (h : bits a = bits b) : a = b := by
  have := congrArg val h
  rwa [bits, bits, val_bitsF _ _ (Nat.le_refl _), val_bitsF _ _ (Nat.le_refl _)] at this
def get (t : Tr α) (n : Nat) : Option α := t.getP (bits n)
def set (t : Tr α) (n : Nat) (x : Option α) : Tr α := setP (bits n) x t
theorem get_set (t : Tr α) (n m : Nat) (x : Option α) : (t.set n x).get m = if n = m then x else t.get m := by
  unfold get set
  rw [getP_setP]
  by_cases h : n = m
  · subst h; simp
  · rw [if_neg h, if_neg (fun e => h (bits_inj e))]
theorem get_leaf (m : Nat) : (leaf : Tr α).get m = none := getP_leaf _
end Tr
end Go.Proofs.Ytadjimfkfmojkaa.Am

end
section
namespace Go.Proofs.Ytadjimfkfmojkaa.Am

/-- Abstract values. 'ptr b i off': cell 'off' of row i of block b of the abstract heap; 'sl b i n': rows i to i+n-1 of block b; 'emp': a slice of no element and no room, nil or not; 'lst rows', 'pptr rows i off': a slice, a pointer into memory that nobody writes. -/
inductive AV where
  | int (k : IntKind) (n : Int)
  | bool (b : Bool)
  | str (s : List UInt8)
  | nilp
  | ptr (b i off : Nat)
  | pptr (rows : List (List AV)) (i off : Nat)
  | nils
  | emp
  | sl (b i n : Nat)
  | lst (rows : List (List AV))
  | agg (cells : List AV)
  | tup (vs : List AV)
  | fn (f : FuncId) (captured : List AV)
  | nilf
  | junk
  deriving Inhabited

/-- the cells of a value; a value of which nothing is known has none -/
def AV.cells? : AV → Option (List AV)
  | .agg cs => some cs
  | .junk => none
  | v => some [v]
/-- a value that one cell can hold -/
def AV.one : AV → Bool
  | .agg _ | .tup _ | .junk => false
  | _ => true

def allSome {α : Type} : List (Option α) → Option (List α)
  | [] => some []
  | none :: _ => none
  | some x :: l => match allSome l with
    | some l => some (x :: l)
    | none => none

def av1 : Value → Option AV
  | .int k n => some (.int k n)
  | .bool b => some (.bool b)
  | .string s => some (.str s.data.toList)
  | .pointer none => some .nilp
  | .slice none 0 0 => some .nils
  | .nilFunc => some .nilf
  | _ => none
def avOf : Value → Option AV
  | .agg cs => (allSome (cs.toList.map av1)).map .agg
  | v => av1 v

structure Blk where
  size : Nat
  rows : List (List AV)
  deriving Inhabited
/-- next: the next free number; log: the numbers of blocks that were written or given up -/
structure Heap where
  next : Nat
  tr : Tr Blk
  log : List Nat
def Heap.get (H : Heap) (b : Nat) : Option Blk := H.tr.get b
/-- a new block of number b -/
def Heap.new (H : Heap) (b : Nat) (x : Blk) : Heap := { H with tr := H.tr.set b (some x) }
/-- block b is written (or given up) -/
def Heap.put (H : Heap) (b : Nat) (x : Option Blk) : Heap := { H with tr := H.tr.set b x, log := b :: H.log }

inductive ANext where
  | val (v : AV) (H : Heap)
  | call (f : FuncId) (args : List AV)

section
variable (P : Program)

def sizeA (t : TypeId) : Option Nat := (P.info? t).map (·.size)
def bytesA (t : TypeId) : Option Nat := (P.info? t).map (·.bytes)
def zeroA (t : TypeId) : Option AV := (P.info? t).bind fun i => i.zero.bind avOf
def isAggA (t : TypeId) : Option Bool := (P.underlying t).map fun | .struct _ | .array _ _ => true | _ => false

def rowLoad (t : TypeId) (row : List AV) (off : Nat) : Option AV :=
  match isAggA P t, sizeA P t with
  | some true, some n => if off + n ≤ row.length then some (.agg ((row.drop off).take n)) else none
  | some false, some _ => row[off]?
  | _, _ => none
def rowStore (row : List AV) (off : Nat) (cs : List AV) : List AV := row.take off ++ cs ++ row.drop (off + cs.length)

def loadA (H : Heap) (t : TypeId) : AV → Option AV
  | .ptr b i off => (H.get b).bind fun x => (x.rows[i]?).bind fun r => rowLoad P t r off
  | .pptr rows i off => (rows[i]?).bind fun r => rowLoad P t r off
  | _ => none
def storeA (H : Heap) (t : TypeId) (a v : AV) : Option Heap :=
  match a, v.cells?, sizeA P t with
  | .ptr b i off, some cs, some n =>
    match H.get b with
    | some x => match x.rows[i]? with
      | some r => if cs.length = n ∧ cs.all AV.one ∧ off + n ≤ r.length then some (H.put b (some { x with rows := x.rows.set i (rowStore r off cs) })) else none
      | none => none
    | none => none
  | _, _, _ => none

def fillA (place : Nat → Option (Nat × Nat)) (cells : List AV) : List (Nat × AV) → Option (List AV)
  | [] => some cells
  | (i, v) :: rest =>
    match place i, v.cells? with
    | some (off, size), some cs => if cs.length = size ∧ off + size ≤ cells.length ∧ cs.all AV.one then fillA place (rowStore cells off cs) rest else none
    | _, _ => none
def fillRows (size : Nat) (rows : List (List AV)) : List (Nat × AV) → Option (List (List AV))
  | [] => some rows
  | (i, v) :: rest =>
    match v.cells? with
    | some cs => if cs.length = size ∧ i < rows.length ∧ cs.all AV.one then fillRows size (rows.set i cs) rest else none
    | none => none
def placesA (fs : Array Field) (i : Nat) : Option (Nat × Nat) := (fs[i]?).bind fun f => (sizeA P f.type).map fun n => (f.offset, n)

def buildA (t : TypeId) (parts : List (Nat × AV)) : Option AV :=
  match P.underlying t, zeroA P t with
  | some (.struct fs), some (.agg z) => if (fs.toList.all fun f => (sizeA P f.type).isSome) = true then (fillA (placesA P fs) z parts).map .agg else none
  | some (.array _ e), some (.agg z) => (sizeA P e).bind fun n => (fillA (fun i => some (i * n, n)) z parts).map .agg
  | _, _ => none

def lenA : AV → Option Nat
  | .nils => some 0
  | .emp => some 0
  | .lst rows => some rows.length
  | .sl _ _ n => some n
  | _ => none

def byteLess : List UInt8 → List UInt8 → Bool
  | _, [] => false
  | [], _ :: _ => true
  | a :: x, b :: y => a < b || (a == b && byteLess x y)

/-- == of one cell, of type t -/
def eqA (t : TypeId) (x y : AV) : Option Bool :=
  match P.underlying t, x, y with
  | some (.int _), .int k a, .int k' b => if k = k' then some (a == b) else none
  | some .bool, .bool a, .bool b => some (a == b)
  | some .string, .str a, .str b => some (a == b)
  | some (.pointer _), .nilp, .nilp => some true
  | some (.pointer _), .nilp, .ptr .. | some (.pointer _), .ptr .., .nilp | some (.pointer _), .nilp, .pptr .. | some (.pointer _), .pptr .., .nilp => some false
  | some (.slice _), .nils, .nils => some true
  | some (.slice _), .nils, .sl .. | some (.slice _), .sl .., .nils => some false
  | _, _, _ => none
def eqAs : List TypeId → List AV → List AV → Option Bool
  | [], [], [] => some true
  | t :: ts, a :: l, b :: m => match eqA P t a b with
    | some true => eqAs ts l m
    | r => r
  | _, _, _ => none

/-- F: the field types of the flat struct types -/
def binA (F : TypeId → Option (List TypeId)) (op : BinOp) (t : TypeId) (x y : AV) : Option AV :=
  match op, x, y with
  | .shl, .int k a, .int _ b => if 0 ≤ b then some (.int k (k.wrap (a * 2 ^ min b.toNat k.bits))) else none
  | .shr, .int k a, .int _ b => if 0 ≤ b then some (.int k (a.fdiv (2 ^ min b.toNat k.bits))) else none
  | op, .int k a, .int k' b =>
    if k ≠ k' then none else
    match op with
    | .add => some (.int k (k.wrap (a + b)))
    | .sub => some (.int k (k.wrap (a - b)))
    | .mul => some (.int k (k.wrap (a * b)))
    | .quo => if b = 0 then none else some (.int k (k.wrap (a.tdiv b)))
    | .rem => if b = 0 then none else some (.int k (a.tmod b))
    | .and => some (.int k (k.wrap (BitVec.ofInt k.bits a &&& BitVec.ofInt k.bits b).toNat))
    | .or => some (.int k (k.wrap (BitVec.ofInt k.bits a ||| BitVec.ofInt k.bits b).toNat))
    | .xor => some (.int k (k.wrap (BitVec.ofInt k.bits a ^^^ BitVec.ofInt k.bits b).toNat))
    | .eql => some (.bool (a == b))
    | .neq => some (.bool (a != b))
    | .lss => some (.bool (decide (a < b)))
    | .leq => some (.bool (decide (a ≤ b)))
    | .gtr => some (.bool (decide (a > b)))
    | .geq => some (.bool (decide (a ≥ b)))
    | _ => none
  | op, .str a, .str b =>
    match op with
    | .eql => some (.bool (a == b))
    | .neq => some (.bool !(a == b))
    | .lss => some (.bool (byteLess a b))
    | .add => if a.length + b.length ≤ 2 ^ 62 then some (.str (a ++ b)) else none
    | _ => none
  | .eql, .agg a, .agg b => (F t).bind fun ts => (eqAs P ts a b).map .bool
  | .neq, .agg a, .agg b => (F t).bind fun ts => (eqAs P ts a b).map fun r => .bool !r
  | .eql, .bool a, .bool b => (eqA P t (.bool a) (.bool b)).map .bool
  | .neq, .bool a, .bool b => (eqA P t (.bool a) (.bool b)).map fun r => .bool !r
  | .eql, .nilp, y => (eqA P t .nilp y).map .bool
  | .neq, .nilp, y => (eqA P t .nilp y).map fun r => .bool !r
  | .eql, x, .nilp => (eqA P t x .nilp).map .bool
  | .neq, x, .nilp => (eqA P t x .nilp).map fun r => .bool !r
  | .eql, .nils, y => (eqA P t .nils y).map .bool
  | .neq, .nils, y => (eqA P t .nils y).map fun r => .bool !r
  | .eql, x, .nils => (eqA P t x .nils).map .bool
  | .neq, x, .nils => (eqA P t x .nils).map fun r => .bool !r
  | _, _, _ => none

def unA (op : UnOp) (x : AV) : Option AV :=
  match op, x with
  | .neg, .int k n => some (.int k (k.wrap (0 - n)))
  | .not, .bool b => some (.bool !b)
  | _, _ => none

def convA (src dst : TypeId) (x : AV) : Option AV :=
  match P.underlying src, P.underlying dst, x with
  | some (.int _), some (.int k), .int _ n => some (.int k (k.wrap n))
  | some .string, some .string, .str s => some (.str s)
  | _, _, _ => none

/-- the rows of a slice value, each of n cells -/
def rowsOf (H : Heap) (n : Nat) : AV → Option (List (List AV))
  | .nils => some []
  | .emp => some []
  | .lst rows => match rows with
    | [] => some []
    | r :: l => if r.length = n then some (r :: l) else none
  | .sl b i k => match H.get b with
    | some x => if x.size = n ∧ i + k ≤ x.rows.length then some ((x.rows.drop i).take k) else none
    | none => none
  | _ => none
/-- the size of the rows of the block that a slice lies in -/
def szOf (H : Heap) : AV → Option Nat
  | .sl b _ _ => (H.get b).map (·.size)
  | _ => none
/-- sz: szOf of x -/
def indexAddrA (sz : Option Nat) (t : TypeId) (x ix : AV) : Option AV :=
  match ix with
  | .int _ i =>
    if i < 0 then none else
    match P.underlying t, x with
    | some (.slice e), .sl b j n => if i.toNat < n ∧ sz.isSome ∧ sizeA P e = sz then some (.ptr b (j + i.toNat) 0) else none
    | some (.slice e), .lst rows => match rows[i.toNat]? with
      | some r => if sizeA P e = some r.length then some (.pptr rows i.toNat 0) else none
      | none => none
    | some (.array len e), .ptr b j off => if i.toNat < len then (sizeA P e).map fun n => .ptr b j (off + i.toNat * n) else none
    | some (.array len e), .pptr rows j off => if i.toNat < len then (sizeA P e).map fun n => .pptr rows j (off + i.toNat * n) else none
    | _, _ => none
  | _ => none
def indexA (t : TypeId) (x ix : AV) : Option AV :=
  match P.underlying t, x, ix with
  | some .string, .str s, .int _ i => if i < 0 then none else (s[i.toNat]?).map fun b => .int .u8 b.toNat
  | some (.array len e), .agg cs, .int _ i => if 0 ≤ i ∧ i.toNat < len then (sizeA P e).bind fun n => rowLoad P e cs (i.toNat * n) else none
  | _, _, _ => none
def fieldAddrA (s : TypeId) (x : AV) (f : Nat) : Option AV :=
  match P.underlying s with
  | some (.struct fs) => (fs[f]?).bind fun f => (sizeA P f.type).bind fun n => if n = 0 then none else
      match x with
      | .ptr b i off => some (.ptr b i (off + f.offset))
      | .pptr rows i off => some (.pptr rows i (off + f.offset))
      | _ => none
  | _ => none
def fieldA (s : TypeId) (x : AV) (f : Nat) : Option AV :=
  match P.underlying s, x with
  | some (.struct fs), .agg cs => (fs[f]?).bind fun f => rowLoad P f.type cs f.offset
  | _, _ => none

def natOf : AV → Option Nat
  | .int _ i => if 0 ≤ i then some i.toNat else none
  | _ => none
def boundA (x : Option AV) (d : Nat) : Option Nat :=
  match x with
  | none => some d
  | some v => natOf v
/-- x[lo:hi]; with a third index only where it is the length -/
def sliceA (sz : Option Nat) (t : TypeId) (x : AV) (lo hi mx : Option AV) : Option AV :=
  match P.underlying t, lenA x with
  | some (.slice e), some n =>
    match boundA lo 0, boundA hi n, boundA mx n with
    | some l, some h, some m => if (l ≤ h ∧ h ≤ m ∧ m ≤ n) ∧ (sizeA P e).isSome = true then
        (match x with
          | .nils => some .nils
          | .sl b i _ => if sz.isSome ∧ sizeA P e = sz then some (.sl b (i + l) (h - l)) else none
          | .lst rows => match rows with
            | [] => some (.lst [])
            | r :: rs => if sizeA P e = some r.length then some (.lst (((r :: rs).drop l).take (h - l))) else none
          | _ => none) else none
    | _, _, _ => none
  | some .string, _ =>
    match x, mx with
    | .str s, none => match boundA lo 0, boundA hi s.length with
      | some l, some h => if l ≤ h ∧ h ≤ s.length then some (.str ((s.drop l).take (h - l))) else none
      | _, _ => none
    | _, _ => none
  | _, _ => none

/-- append: the old block is given up, the new block's number is b -/
def appendA (H : Heap) (b : Nat) (t : TypeId) (s x : AV) : Option (AV × Heap) :=
  match P.underlying t with
  | some (.slice e) =>
    match sizeA P e, bytesA P e, (zeroA P e).bind AV.cells? with
    | some n, some by_, some z => match rowsOf H n s, rowsOf H n x with
      | some l, some m => if 2 * (l.length + m.length) * by_ ≤ 2 ^ 48 ∧ 2 * (l.length + m.length) ≤ 2 ^ 62 ∧ 0 < n ∧ z.length = n ∧ (m.all fun r => r.all AV.one) = true then
        match s with
        | .nils => if m.length = 0 then some (.nils, H) else some (.sl b 0 m.length, H.new b ⟨n, m⟩)
        | .emp => if m.length = 0 then some (.emp, H) else some (.sl b 0 m.length, H.new b ⟨n, m⟩)
        | .sl b' _ _ => some (.sl b 0 (l.length + m.length), (H.put b' none).new b ⟨n, l ++ m⟩)
        | _ => none
        else none
      | _, _ => none
    | _, _, _ => none
  | _ => none

/-- clear: the rows of a slice become zero -/
def clearA (H : Heap) (t : TypeId) (x : AV) : Option Heap :=
  match P.underlying t with
  | some (.slice e) =>
    match sizeA P e, (zeroA P e).bind AV.cells? with
    | some n, some z => match x with
      | .nils => some H
      | .sl c i k => match H.get c with
        | some y => if (y.size = n ∧ z.length = n) ∧ (0 < n ∧ i + k ≤ y.rows.length) ∧ z.all AV.one = true then some (H.put c (some { y with rows := y.rows.take i ++ List.replicate k z ++ y.rows.drop (i + k) })) else none
        | none => none
      | _ => none
    | _, _ => none
  | _ => none

def builtinA (H : Heap) (b : Nat) (op : Builtin) (types : Array TypeId) (args : List AV) : Option (AV × Heap) :=
  match op, args with
  | .len, [.str s] => match (types[0]?).bind P.underlying with
    | some .string => some (.int .i64 s.length, H)
    | _ => none
  | .len, [x] => match (types[0]?).bind P.underlying with
    | some (.slice _) => (lenA x).map fun (n : Nat) => (.int .i64 (n : Int), H)
    | some (.array n _) => some (.int .i64 n, H)
    | _ => none
  | .append, [s, x] => match types.toList with
    | [t, tx] => match P.underlying tx with
      | some (.slice _) => appendA P H b t s x
      | _ => none
    | _ => none
  | .min, [.int k a, .int k' c] => if k = k' then some (.int k (if c < a then c else a), H) else none
  | .max, [.int k a, .int k' c] => if k = k' then some (.int k (if c > a then c else a), H) else none
  | .clear, [x] => match types.toList with
    | [t] => (clearA P H t x).map fun H' => (.tup [], H')
    | _ => none
  | _, _ => none

/-- What an operation does; b: the number of the block that it may make. -/
def aop (F : TypeId → Option (List TypeId)) (o : Op) (ρ : Operand → AV) (b : Nat) (H : Heap) : Option ANext :=
  let v (r : Option AV) : Option ANext := r.map fun x => .val x H
  match o with
  | .move x | .assign x => some (.val (ρ x) H)
  | .pick c x y => match ρ c with
    | .bool t => some (.val (if t then ρ x else ρ y) H)
    | _ => none
  | .alloc t => match (zeroA P t).bind AV.cells? with
    | some cs => some (.val (.ptr b 0 0) (H.new b ⟨cs.length, [cs]⟩))
    | none => none
  | .box _ x => match (ρ x).cells? with
    | some cs => if cs.all AV.one then some (.val (.ptr b 0 0) (H.new b ⟨cs.length, [cs]⟩)) else none
    | none => none
  | .build t parts => v (buildA P t (parts.toList.map fun p => (p.1, ρ p.2)))
  | .buildSlice t len parts => match P.underlying t with
    | some (.slice e) => match sizeA P e, (zeroA P e).bind AV.cells? with
      | some n, some z => if z.length = n ∧ 0 < n ∧ len * n ≤ 2 ^ 24 then
          (fillRows n (List.replicate len z) (parts.toList.map fun p => (p.1, ρ p.2))).map fun rows => .val (.sl b 0 len) (H.new b ⟨n, rows⟩)
        else none
      | _, _ => none
    | _ => none
  | .load t a => v (loadA P H t (ρ a))
  | .store t a x => (storeA P H t (ρ a) (ρ x)).map fun H => .val (.tup []) H
  | .nilCheck x => match ρ x with
    | .ptr b i off => some (.val (.ptr b i off) H)
    | .pptr rows i off => some (.val (.pptr rows i off) H)
    | .fn f cs => some (.val (.fn f cs) H)
    | _ => none
  | .binOp op t x y _ => v (binA P F op t (ρ x) (ρ y))
  | .unOp op _ x => v (unA op (ρ x))
  | .convert s d x => v (convA P s d (ρ x))
  | .makeFunc (.func f) first cap => if first.size = 0 then some (.val (.fn f (cap.toList.map ρ)) H) else none
  | .makeSlice t l c => match P.underlying t with
    | some (.slice e) => match sizeA P e, bytesA P e, (zeroA P e).bind AV.cells?, natOf (ρ l), natOf (ρ c) with
      | some n, some by_, some z, some l, some c => if z.length = n ∧ 0 < n ∧ l ≤ c ∧ c ≤ 2 ^ 62 ∧ c * by_ ≤ 2 ^ 48 then
          some (.val (.sl b 0 l) (H.new b ⟨n, List.replicate l z⟩)) else none
      | _, _, _, _, _ => none
    | _ => none
  | .slice t x lo hi mx => if hi.isNone && mx.isSome then none else v (sliceA P (szOf H (ρ x)) t (ρ x) (lo.map ρ) (hi.map ρ) (mx.map ρ))
  | .fieldAddr s x f => v (fieldAddrA P s (ρ x) f)
  | .field s x f => v (fieldA P s (ρ x) f)
  | .indexAddr t x ix => v (indexAddrA P (szOf H (ρ x)) t (ρ x) (ρ ix))
  | .index t x ix => v (indexA P t (ρ x) (ρ ix))
  | .extract x i => match ρ x with
    | .tup vs => v (vs[i]?)
    | _ => none
  | .call c => match c.callee with
    | .builtin bi => (builtinA P H b bi c.argTypes (c.args.toList.map ρ)).map fun r => .val r.1 r.2
    | .value f => match ρ f with
      | .fn g cs => some (.call g (c.args.toList.map ρ ++ cs))
      | _ => none
    | _ => none
  | _ => none
end
end Go.Proofs.Ytadjimfkfmojkaa.Am

end
section
namespace Go.Proofs.Ytadjimfkfmojkaa.Am
inductive Ex where
  | normal
  | exit (id : Nat)
  | ret
def undefA : AV := .tup []
def aev (τ : List AV) : Operand → AV
  | .tmp t => τ.getD t undefA
  | .const v => (avOf v).getD .junk
  | .global _ => .junk
  | .func f => .fn f []
def putA (τ : List AV) (dst : Option Tmp) (v : AV) : List AV :=
  match dst with
  | some d => τ.set d v
  | none => τ
/-- is the operation carried out? none: not known -/
def wantedA (ops : Array Oper) (o : Oper) (τ : List AV) : Option Bool :=
  match o.guard with
  | none => some true
  | some (j, want) => match (ops[j]?).bind (·.dst) with
    | some d => match τ[d]? with
      | some (.bool b) => some (b == want)
      | some (.tup []) => some false
      | _ => none
    | none => none
section
variable (P : Program) (F : TypeId → Option (List TypeId)) (call : FuncId → List AV → Heap → Option (AV × Heap))
def stepA (ops : Array Oper) (base i : Nat) (τ : List AV) (H : Heap) : Option (List AV × Heap) :=
  match ops[i]? with
  | none => none
  | some o => match wantedA ops o τ with
    | some true => match aop P F o.op (aev τ) (base + i) H with
      | some (.val v H') => some (putA τ o.dst v, H')
      | some (.call f args) => match call f args H with
        | some (v, H') => some (putA τ o.dst v, H')
        | none => none
      | none => none
    | some false => some (putA τ o.dst undefA, H)
    | none => none
def opsA (ops : Array Oper) (base : Nat) : List Nat → List AV → Heap → Option (List AV × Heap)
  | [], τ, H => some (τ, H)
  | i :: l, τ, H => match stepA P F call ops base i τ H with
    | some (τ, H) => opsA ops base l τ H
    | none => none

def blocksOf : AV → List Nat
  | .ptr b _ _ | .sl b _ _ => [b]
  | _ => []
def slOf : AV → List Nat
  | .sl b _ _ => [b]
  | _ => []
/-- blocks that an operation reads, and that it writes or gives up -/
def readsA (o : Op) (ρ : Operand → AV) : List Nat :=
  match o with
  | .load _ a => blocksOf (ρ a)
  | .store _ a _ => blocksOf (ρ a)
  | .indexAddr _ x _ => slOf (ρ x)
  | .slice _ x _ _ _ => slOf (ρ x)
  | .call c => match c.callee with
    | .builtin .append => c.args.toList.flatMap fun x => blocksOf (ρ x)
    | .builtin .clear => c.args.toList.flatMap fun x => blocksOf (ρ x)
    | _ => []
  | _ => []
def writesA (o : Op) (ρ : Operand → AV) : List Nat :=
  match o with
  | .store _ a _ => blocksOf (ρ a)
  | .call c => match c.callee with
    | .builtin .append => (c.args.toList.take 1).flatMap fun x => blocksOf (ρ x)
    | .builtin .clear => c.args.toList.flatMap fun x => blocksOf (ρ x)
    | _ => []
  | _ => []
/-- what an operation of a region has touched; it made the blocks 'made', and from lo to hi - 1 -/
structure Rec where
  op : Nat
  reads : List Nat
  writes : List Nat
  made : List Nat
  isCall : Bool
  lo : Nat
  hi : Nat
def apart (l m : List Nat) : Bool := l.all fun x => !m.contains x
/-- do two operations meet, if x is done first in the order of the text and no edge orders them? -/
def meets (x y : Rec) : Bool :=
  !(apart x.writes y.reads && apart x.writes y.writes && apart x.reads y.writes && apart x.made y.reads && apart x.made y.writes) ||
  (x.isCall && (y.isCall || !y.writes.isEmpty || y.reads.any fun b => decide (x.lo ≤ b) && decide (b < x.hi))) || (y.isCall && !x.writes.isEmpty)
/-- for each operation the set of those that edges put ahead of it -/
def masks : List Oper → List Nat → List Nat
  | [], acc => acc
  | o :: l, acc => masks l (acc ++ [o.after.toList.foldl (fun s e => if Region.binds .any e then s ||| 2 ^ e.on ||| acc.getD e.on 0 else s) 0])
/-- the heap that a call sees: without the blocks that operations made which no edge puts ahead of it -/
def hideA (base mask : Nat) : Nat → Heap → Heap
  | 0, H => H
  | j + 1, H => hideA base mask j (if mask.testBit j then H else { H with tr := H.tr.set (base + j) none })
/-- a heap behind a call, with the blocks that the call did not see -/
def showA (base mask : Nat) (H : Heap) : Nat → Heap → Heap
  | 0, K => K
  | j + 1, K => showA base mask H j (if mask.testBit j then K else { K with tr := K.tr.set (base + j) (H.tr.get (base + j)) })
def drawStep (ops : Array Oper) (base i mask : Nat) (τ : List AV) (H : Heap) : Option (List AV × Heap × Option Rec) :=
  match ops[i]? with
  | none => none
  | some o => match wantedA ops o τ with
    | some true => match aop P F o.op (aev τ) (base + i) H with
      | some (.val v H') => some (putA τ o.dst v, { H' with log := H.log }, some ⟨i, readsA o.op (aev τ), writesA o.op (aev τ), [base + i], false, 0, 0⟩)
      | some (.call f args) => match call f args { hideA base mask i H with log := [] } with
        | some (v, H') => some (putA τ o.dst v, { showA base mask H i H' with log := H.log }, some ⟨i, [], H'.log.filter (fun c => ((hideA base mask i H).get c).isSome), [], true, H.next, H'.next⟩)
        | none => none
      | none => none
    | some false => some (putA τ o.dst undefA, H, none)
    | none => none
def drawA (ops : Array Oper) (base : Nat) (before : List Nat) : List Nat → List AV → Heap → List Rec → Option (List AV × Heap × List Rec)
  | [], τ, H, rs => some (τ, H, rs)
  | i :: l, τ, H, rs => match drawStep P F call ops base i (before.getD i 0) τ H with
    | some (τ, H, none) => drawA ops base before l τ H rs
    | some (τ, H, some r) => if rs.all fun x => (before.getD i 0).testBit x.op || !meets x r then drawA ops base before l τ H (r :: rs) else none
    | none => none
def regionA (ops : Array Oper) (draw : Bool) (τ : List AV) (H : Heap) : Option (List AV × Heap) :=
  let H' := { H with next := H.next + ops.size }
  if draw then match drawA P F call ops H.next (masks ops.toList []) (List.range ops.size) τ H' [] with
    | some (τ, K, rs) => some (τ, { K with log := rs.flatMap (·.writes) ++ K.log })
    | none => none
  else opsA P F call ops H.next (List.range ops.size) τ H'
def resultA (τ : List AV) (H : Heap) : ResultVar → Option AV
  | .tmp t => some (τ.getD t undefA)
  | .cell a t => loadA P H t (τ.getD a undefA)
def resultsA (τ : List AV) (H : Heap) (rs : List ResultVar) : Option AV :=
  match allSome (rs.map (resultA P τ H)) with
  | some [v] => some v
  | some vs => some (.tup vs)
  | none => none
def callBy (ex : Code → List AV → Heap → Option (Ex × List AV × Heap)) (g : FuncId) (args : List AV) (H : Heap) : Option (AV × Heap) :=
  match P.funcs[g]? with
  | some fn => match fn.body with
    | some c => match ex c (args ++ List.replicate (fn.ntmps - args.length) undefA) { H with log := [] } with
      | some (.exit _, _, _) => none
      | some (_, τ, H') => match resultsA P τ H' fn.results.toList with
        | some v => some (v, { H' with log := H'.log.filter (· < H.next) ++ H.log })
        | none => none
      | none => none
    | none => none
  | none => none
end
def exec (P : Program) (F : TypeId → Option (List TypeId)) : Nat → Code → List AV → Heap → Option (Ex × List AV × Heap)
  | 0, _, _, _ => none
  | f + 1, c, τ, H =>
    match c with
    | .skip | .label _ => some (.normal, τ, H)
    | .region _ ops draw => match regionA P F (callBy P (exec P F f)) ops draw τ H with
      | some (τ, H) => some (.normal, τ, H)
      | none => none
    | .seq a b => match exec P F f a τ H with
      | some (.normal, τ, H) => exec P F f b τ H
      | r => r
    | .cond c a b => match aev τ c with
      | .bool true => exec P F f a τ H
      | .bool false => exec P F f b τ H
      | _ => none
    | .block id b => match exec P F f b τ H with
      | some (.exit id', τ, H) => if id' = id then some (.normal, τ, H) else some (.exit id', τ, H)
      | r => r
    | .loop b => match exec P F f b τ H with
      | some (.normal, τ, H) => exec P F f (.loop b) τ H
      | r => r
    | .exit id => some (.exit id, τ, H)
    | .ret => some (.ret, τ, H)
    | _ => none
def Heap.empty : Heap := ⟨0, .leaf, []⟩
/-- a closed call -/
def closed (P : Program) (F : TypeId → Option (List TypeId)) (fuel : Nat) (f : FuncId) : Option AV := (callBy P (exec P F fuel) f [] Heap.empty).map (·.1)
end Go.Proofs.Ytadjimfkfmojkaa.Am

end
section
namespace Go.Proofs.Ytadjimfkfmojkaa.Am

/-- where a block of the abstract heap lies -/
structure Place where
  block : Nat
  base : Nat
  size : Nat
/-- where the blocks of the abstract heap lie; fr: blocks of the world that belong to somebody else, who may write them later -/
structure Sig where
  map : Nat → Option Place
  fr : Nat → Prop
instance : CoeFun Sig (fun _ => Nat → Option Place) := ⟨Sig.map⟩

/-- rows of cells that lie in block b from cell o on, in a block that is not one of T -/
structure Lies (w : World) (T : Nat → Prop) (rows : List (List AV)) (b o sz : Nat) : Prop where
  out : ¬ T b
  even : ∀ (i : Nat) (r : List AV), rows[i]? = some r → r.length = sz
  cell : ∀ i j, i < rows.length → j < sz → ∃ u, w.cell? ⟨b, o + i * sz + j, none⟩ = some u
  pos : 0 < sz
  ne : 0 < rows.length

inductive Rep (w : World) (σ : Sig) (T : Nat → Prop) : AV → Value → Prop where
  | int (k : IntKind) (n : Int) : Rep w σ T (.int k n) (.int k n)
  | bool (b : Bool) : Rep w σ T (.bool b) (.bool b)
  | str (s : ByteArray) : Rep w σ T (.str s.data.toList) (.string s)
  | nilp : Rep w σ T .nilp (.pointer none)
  | ptr (b i off : Nat) (pl : Place) (h : σ b = some pl) : Rep w σ T (.ptr b i off) (.pointer (some ⟨pl.block, pl.base + i * pl.size + off, none⟩))
  | pptr (rows : List (List AV)) (i off b o sz : Nat) (hl : Lies w T rows b o sz)
      (h : ∀ (i : Nat) (r : List AV) (j : Nat) (a : AV) (u : Value), rows[i]? = some r → r[j]? = some a → w.cell? ⟨b, o + i * sz + j, none⟩ = some u → Rep w σ T a u) :
      Rep w σ T (.pptr rows i off) (.pointer (some ⟨b, o + i * sz + off, none⟩))
  | nils : Rep w σ T .nils (.slice none 0 0)
  | emp (a : Option Addr) : Rep w σ T .emp (.slice a 0 0)
  | sl (b i n : Nat) (pl : Place) (a : Addr) (cap : Nat) (h : σ b = some pl) (hn : n ≤ cap) (hm : cap ≤ maxLen)
      (ha : 0 < cap → a = ⟨pl.block, pl.base + i * pl.size, none⟩ ∧ ∃ cs e, w.heap[pl.block]? = some (.cells cs e (0, 0)) ∧ pl.base + (i + cap) * pl.size ≤ cs.size) :
      Rep w σ T (.sl b i n) (.slice (some a) n cap)
  | lst0 (a : Option Addr) (cap : Nat) (hm : cap ≤ maxLen) : Rep w σ T (.lst []) (.slice a 0 cap)
  | lst (rows : List (List AV)) (b o sz cap : Nat) (hl : Lies w T rows b o sz) (hn : rows.length ≤ cap) (hm : cap ≤ maxLen)
      (h : ∀ (i : Nat) (r : List AV) (j : Nat) (a : AV) (u : Value), rows[i]? = some r → r[j]? = some a → w.cell? ⟨b, o + i * sz + j, none⟩ = some u → Rep w σ T a u) :
      Rep w σ T (.lst rows) (.slice (some ⟨b, o, none⟩) rows.length cap)
  | agg (cs : List AV) (vs : List Value) (hl : cs.length = vs.length) (h : ∀ (i : Nat) (a : AV) (v : Value), cs[i]? = some a → vs[i]? = some v → Rep w σ T a v) : Rep w σ T (.agg cs) (.agg vs.toArray)
  | tup (cs : List AV) (vs : List Value) (hl : cs.length = vs.length) (h : ∀ (i : Nat) (a : AV) (v : Value), cs[i]? = some a → vs[i]? = some v → Rep w σ T a v) : Rep w σ T (.tup cs) (.tuple vs.toArray)
  | fn (f : FuncId) (cs : List AV) (vs : List Value) (hl : cs.length = vs.length) (h : ∀ (i : Nat) (a : AV) (v : Value), cs[i]? = some a → vs[i]? = some v → Rep w σ T a v) : Rep w σ T (.fn f cs) (.func (.func f) #[] vs.toArray)
  | nilf : Rep w σ T .nilf .nilFunc
  | junk (v : Value) : Rep w σ T .junk v

/-- values one by one -/
def Reps (w : World) (σ : Sig) (T : Nat → Prop) (cs : List AV) (vs : List Value) : Prop :=
  cs.length = vs.length ∧ ∀ (i : Nat) (a : AV) (v : Value), cs[i]? = some a → vs[i]? = some v → Rep w σ T a v

/-- the blocks of the world that the abstract heap's living blocks lie in -/
def Tok (σ : Sig) (H : Heap) (c : Nat) : Prop := ∃ b x pl, H.get b = some x ∧ σ b = some pl ∧ pl.block = c
/-- the blocks that somebody may write -/
def Own (σ : Sig) (H : Heap) (c : Nat) : Prop := σ.fr c ∨ Tok σ H c

/-- a living block and what it lies on -/
structure Held (w : World) (σ : Sig) (T : Nat → Prop) (x : Blk) (pl : Place) (cs : Array Value) (e : TypeId) : Prop where
  size : pl.size = x.size
  block : w.heap[pl.block]? = some (.cells cs e (0, 0))
  even : ∀ (i : Nat) (r : List AV), x.rows[i]? = some r → r.length = x.size
  room : pl.base + x.rows.length * x.size ≤ cs.size
  rep : ∀ (i : Nat) (r : List AV) (j : Nat) (a : AV) (u : Value), x.rows[i]? = some r → r[j]? = some a → cs[pl.base + i * x.size + j]? = some u → Rep w σ T a u

structure WRel (w : World) (σ : Sig) (H : Heap) : Prop where
  named : ∀ b pl, σ b = some pl → b < H.next
  lt : ∀ b pl, σ b = some pl → pl.block < w.heap.size
  live : ∀ b x, H.get b = some x → ∃ pl cs e, σ b = some pl ∧ Held w σ (Own σ H) x pl cs e
  apart : ∀ c, σ.fr c → c < w.heap.size ∧ ¬ Tok σ H c
  inj : ∀ b b' x x' pl pl', H.get b = some x → H.get b' = some x' → σ b = some pl → σ b' = some pl' → pl.block = pl'.block → b = b'

/-- what a piece of the program leaves alone -/
structure Ext (w : World) (σ : Sig) (T : Nat → Prop) (w' : World) (σ' : Sig) (T' : Nat → Prop) : Prop where
  os : w'.os = w.os
  tape : w'.tape = w.tape
  output : w'.output = w.output
  size : w.heap.size ≤ w'.heap.size
  keep : ∀ c, c < w.heap.size → ¬ T c → w'.heap[c]? = w.heap[c]?
  shape : ∀ (c : Nat) (cs : Array Value) (e : TypeId), w.heap[c]? = some (.cells cs e (0, 0)) → ∃ cs' : Array Value, w'.heap[c]? = some (.cells cs' e (0, 0)) ∧ cs'.size = cs.size
  sig : ∀ b pl, σ b = some pl → σ' b = some pl
  eqfr : σ'.fr = σ.fr
  frame : ∀ c, σ.fr c → w'.heap[c]? = w.heap[c]?
  own : ∀ c, T' c → T c ∨ w.heap.size ≤ c

theorem Ext.refl (w : World) (σ : Sig) (T : Nat → Prop) : Ext w σ T w σ T :=
  ⟨rfl, rfl, rfl, Nat.le_refl _, fun _ _ _ => rfl, fun _ cs _ h => ⟨cs, h, rfl⟩, fun _ _ h => h, rfl, fun _ _ => rfl, fun _ h => .inl h⟩
theorem Ext.trans {w w' w'' : World} {σ σ' σ'' : Sig} {T T' T'' : Nat → Prop} (h : Ext w σ T w' σ' T') (k : Ext w' σ' T' w'' σ'' T'') : Ext w σ T w'' σ'' T'' where
  os := k.os.trans h.os
  tape := k.tape.trans h.tape
  output := k.output.trans h.output
  size := Nat.le_trans h.size k.size
  keep := fun c hc hT => by
    have hc' : c < w'.heap.size := Nat.lt_of_lt_of_le hc h.size
    have : ¬ T' c := fun ht => by
      rcases h.own c ht with h1 | h1
      · exact hT h1
      · omega
    exact (k.keep c hc' this).trans (h.keep c hc hT)
  shape := fun c cs e hcs => by
    obtain ⟨cs', h1, h2⟩ := h.shape c cs e hcs
    obtain ⟨cs'', h3, h4⟩ := k.shape c cs' e h1
    exact ⟨cs'', h3, h4.trans h2⟩
  sig := fun b pl hb => k.sig b pl (h.sig b pl hb)
  eqfr := k.eqfr.trans h.eqfr
  frame := fun c hc => (k.frame c (by rw [h.eqfr]; exact hc)).trans (h.frame c hc)
  own := fun c hc => by
    rcases k.own c hc with h1 | h1
    · exact h.own c h1
    · exact .inr (Nat.le_trans h.size h1)

theorem lt_of_cell' {w : World} {b o : Nat} {u : Value} (h : w.cell? ⟨b, o, none⟩ = some u) : b < w.heap.size := by
  rcases Nat.lt_or_ge b w.heap.size with hlt | hge
  · exact hlt
  · simp [World.cell?, Array.getElem?_eq_none hge] at h
theorem Lies.lt {w : World} {T : Nat → Prop} {rows : List (List AV)} {b o sz : Nat} (h : Lies w T rows b o sz) : b < w.heap.size := by
  obtain ⟨u, hu⟩ := h.cell 0 0 h.ne h.pos
  exact lt_of_cell' hu
theorem Lies.cell_eq {w w' : World} {σ σ' : Sig} {T T' : Nat → Prop} {rows : List (List AV)} {b o sz : Nat} (h : Lies w T rows b o sz) (e : Ext w σ T w' σ' T') (k : Nat) :
    w'.cell? ⟨b, k, none⟩ = w.cell? ⟨b, k, none⟩ :=
  World.cell?_of_block (w := w) (w' := w') (a := ⟨b, k, none⟩) (e.keep b h.lt h.out)
theorem Lies.mono {w w' : World} {σ σ' : Sig} {T T' : Nat → Prop} {rows : List (List AV)} {b o sz : Nat} (h : Lies w T rows b o sz) (e : Ext w σ T w' σ' T') : Lies w' T' rows b o sz where
  out := fun ht => by
    rcases e.own b ht with h1 | h1
    · exact h.out h1
    · have := h.lt; omega
  even := h.even
  cell := fun i j hi hj => by rw [h.cell_eq e]; exact h.cell i j hi hj
  pos := h.pos
  ne := h.ne

theorem Rep.mono {w w' : World} {σ σ' : Sig} {T T' : Nat → Prop} (e : Ext w σ T w' σ' T') {a : AV} {v : Value} (h : Rep w σ T a v) : Rep w' σ' T' a v := by
  induction h with
  | int k n => exact .int k n
  | bool b => exact .bool b
  | str s => exact .str s
  | nilp => exact .nilp
  | ptr b i off pl h => exact .ptr b i off pl (e.sig b pl h)
  | pptr rows i off b o sz hl h ih => exact .pptr rows i off b o sz (hl.mono e) fun i r j a u h1 h2 h3 => ih i r j a u h1 h2 (by rwa [hl.cell_eq e] at h3)
  | nils => exact .nils
  | emp a => exact .emp a
  | sl b i n pl a cap h hn hm ha =>
    refine .sl b i n pl a cap (e.sig b pl h) hn hm fun hc => ?_
    obtain ⟨h1, cs, ty, h2, h3⟩ := ha hc
    obtain ⟨cs', h4, h5⟩ := e.shape _ _ _ h2
    exact ⟨h1, cs', ty, h4, by omega⟩
  | lst0 a cap hm => exact .lst0 a cap hm
  | lst rows b o sz cap hl hn hm h ih => exact .lst rows b o sz cap (hl.mono e) hn hm fun i r j a u h1 h2 h3 => ih i r j a u h1 h2 (by rwa [hl.cell_eq e] at h3)
  | agg cs vs hl h ih => exact .agg cs vs hl ih
  | tup cs vs hl h ih => exact .tup cs vs hl ih
  | fn f cs vs hl h ih => exact .fn f cs vs hl ih
  | nilf => exact .nilf
  | junk v => exact .junk v
theorem Reps.mono {w w' : World} {σ σ' : Sig} {T T' : Nat → Prop} (e : Ext w σ T w' σ' T') {cs : List AV} {vs : List Value} (h : Reps w σ T cs vs) : Reps w' σ' T' cs vs :=
  ⟨h.1, fun i a v h1 h2 => (h.2 i a v h1 h2).mono e⟩
end Go.Proofs.Ytadjimfkfmojkaa.Am

end
section
namespace Go.Proofs.Ytadjimfkfmojkaa.Am

theorem Heap.get_new (H : Heap) (b c : Nat) (x : Blk) : (H.new b x).get c = if b = c then some x else H.get c := Tr.get_set _ _ _ _
theorem Heap.get_put (H : Heap) (b c : Nat) (x : Option Blk) : (H.put b x).get c = if b = c then x else H.get c := Tr.get_set _ _ _ _

theorem Held.mono {w w' : World} {σ σ' : Sig} {T T' : Nat → Prop} {x : Blk} {pl : Place} {cs : Array Value} {e : TypeId} (h : Held w σ T x pl cs e) (ex : Ext w σ T w' σ' T')
    (hb : w'.heap[pl.block]? = w.heap[pl.block]?) : Held w' σ' T' x pl cs e :=
  ⟨h.size, hb.trans h.block, h.even, h.room, fun i r j a u h1 h2 h3 => (h.rep i r j a u h1 h2 h3).mono ex⟩

/-- only counts of the world have changed -/
theorem Ext.same {w w' : World} (σ : Sig) (T : Nat → Prop) (hh : w'.heap = w.heap) (ho : w'.os = w.os) (ht : w'.tape = w.tape) (hp : w'.output = w.output) : Ext w σ T w' σ T :=
  ⟨ho, ht, hp, by rw [hh]; exact Nat.le_refl _, fun _ _ _ => by rw [hh], fun _ cs _ h => ⟨cs, by rw [hh]; exact h, rfl⟩, fun _ _ h => h, rfl, fun _ _ => by rw [hh], fun _ h => .inl h⟩
theorem WRel.same {w w' : World} {σ : Sig} {H : Heap} (h : WRel w σ H) (hh : w'.heap = w.heap) (ho : w'.os = w.os) (ht : w'.tape = w.tape) (hp : w'.output = w.output) : WRel w' σ H :=
  ⟨h.named, fun b pl hb => by rw [hh]; exact h.lt b pl hb, fun b x hb => by
    obtain ⟨pl, cs, e, h1, h2⟩ := h.live b x hb
    exact ⟨pl, cs, e, h1, h2.mono (Ext.same σ _ hh ho ht hp) (by rw [hh])⟩, fun c hc => by rw [hh]; exact h.apart c hc, h.inj⟩
/-- another heap of the same blocks -/
theorem WRel.congr {w : World} {σ : Sig} {H K : Heap} (h : WRel w σ H) (hg : ∀ b, K.get b = H.get b) (hn : H.next ≤ K.next) : WRel w σ K := by
  have ht : Tok σ K = Tok σ H := by funext c; simp [Tok, hg]
  have ho : Own σ K = Own σ H := by funext c; simp [Own, ht]
  refine ⟨fun b pl hb => Nat.lt_of_lt_of_le (h.named b pl hb) hn, h.lt, fun b x hb => ?_, by rw [ht]; exact h.apart, fun b b' x x' pl pl' h1 h2 => h.inj b b' x x' pl pl' (by rwa [hg] at h1) (by rwa [hg] at h2)⟩
  rw [ho]
  exact h.live b x (by rwa [hg] at hb)
theorem Own.congr {σ : Sig} {H K : Heap} (hg : ∀ b, K.get b = H.get b) : Own σ K = Own σ H := by funext c; simp [Own, Tok, hg]
/-- fewer blocks -/
theorem Own.sub {σ : Sig} {H K : Heap} (hg : ∀ b x, K.get b = some x → H.get b = some x) {c : Nat} (h : Own σ K c) : Own σ H c := by
  rcases h with h | ⟨b, x, pl, h1, h2, h3⟩
  · exact .inl h
  · exact .inr ⟨b, x, pl, hg b x h1, h2, h3⟩
theorem Ext.sub {w : World} {σ : Sig} {H K : Heap} (hg : ∀ b x, K.get b = some x → H.get b = some x) : Ext w σ (Own σ H) w σ (Own σ K) :=
  ⟨rfl, rfl, rfl, Nat.le_refl _, fun _ _ _ => rfl, fun _ cs _ h => ⟨cs, h, rfl⟩, fun _ _ h => h, rfl, fun _ _ => rfl, fun _ h => .inl (Own.sub hg h)⟩
theorem WRel.sub {w : World} {σ : Sig} {H K : Heap} (h : WRel w σ H) (hg : ∀ b x, K.get b = some x → H.get b = some x) (hn : H.next ≤ K.next) : WRel w σ K :=
  ⟨fun b pl hb => Nat.lt_of_lt_of_le (h.named b pl hb) hn, h.lt, fun b x hb => by
    obtain ⟨pl, cs, e, h1, h2⟩ := h.live b x (hg b x hb)
    exact ⟨pl, cs, e, h1, h2.mono (Ext.sub hg) rfl⟩, fun c hc => ⟨(h.apart c hc).1, fun ⟨b, x, pl, h1, h2, h3⟩ => (h.apart c hc).2 ⟨b, x, pl, hg b x h1, h2, h3⟩⟩, fun b b' x x' pl pl' h1 h2 => h.inj b b' x x' pl pl' (hg _ _ h1) (hg _ _ h2)⟩

def Sig.set (σ : Sig) (b : Nat) (pl : Place) : Sig := { σ with map := fun c => if b = c then some pl else σ c }
theorem Sig.set_eq (σ : Sig) (b : Nat) (pl : Place) : σ.set b pl b = some pl := by simp [Sig.set]
theorem Sig.set_ne (σ : Sig) {b c : Nat} (pl : Place) (h : b ≠ c) : σ.set b pl c = σ c := by simp [Sig.set, h]
theorem Sig.set_old {σ : Sig} {b c : Nat} {pl q : Place} (hb : σ b = none) (h : σ c = some q) : σ.set b pl c = some q := by
  rw [Sig.set_ne _ _ (by rintro rfl; rw [hb] at h; cases h)]; exact h

def World.push (w : World) (o : Obj) : World := { w with heap := w.heap.push o }

/-- a new block -/
theorem WRel.new {w : World} {σ : Sig} {H : Heap} (h : WRel w σ H) {b : Nat} (hb : σ b = none) (hlt : b < H.next) {x : Blk} {cs : Array Value} {e : TypeId}
    (even : ∀ (i : Nat) (r : List AV), x.rows[i]? = some r → r.length = x.size) (room : x.rows.length * x.size ≤ cs.size)
    (rep : ∀ (i : Nat) (r : List AV) (j : Nat) (a : AV) (u : Value), x.rows[i]? = some r → r[j]? = some a → cs[i * x.size + j]? = some u → Rep w σ (Own σ H) a u) :
    WRel (World.push w (.cells cs e (0, 0))) (σ.set b ⟨w.heap.size, 0, x.size⟩) (H.new b x) ∧
    Ext w σ (Own σ H) (World.push w (.cells cs e (0, 0))) (σ.set b ⟨w.heap.size, 0, x.size⟩) (Own (σ.set b ⟨w.heap.size, 0, x.size⟩) (H.new b x)) := by
  have hnone : H.get b = none := by
    cases hg : H.get b with
    | none => rfl
    | some y => obtain ⟨pl, _, _, h1, _⟩ := h.live b y hg; rw [hb] at h1; cases h1
  have hold : ∀ c, c < w.heap.size → (World.push w (.cells cs e (0, 0))).heap[c]? = w.heap[c]? := fun c hc => by
    show (w.heap.push _)[c]? = _
    rw [Array.getElem?_push, if_neg (Nat.ne_of_lt hc)]
  have ext : Ext w σ (Own σ H) (World.push w (.cells cs e (0, 0))) (σ.set b ⟨w.heap.size, 0, x.size⟩) (Own (σ.set b ⟨w.heap.size, 0, x.size⟩) (H.new b x)) := by
    refine ⟨rfl, rfl, rfl, by simp [World.push], fun c hc _ => hold c hc, fun c cs' e' hc => ⟨cs', ?_, rfl⟩, fun c q hq => Sig.set_old hb hq, rfl, fun c hc => hold c (h.apart c hc).1, ?_⟩
    · rcases Nat.lt_or_ge c w.heap.size with hlt | hge
      · rw [hold c hlt]; exact hc
      · rw [Array.getElem?_eq_none hge] at hc; cases hc
    · rintro c (hfr | ⟨b', y, pl, h1, h2, h3⟩)
      · exact .inl (.inl hfr)
      rw [Heap.get_new] at h1
      by_cases hbb : b = b'
      · subst hbb
        rw [Sig.set_eq] at h2
        cases h2
        exact .inr (by simp only [] at h3; omega)
      · rw [if_neg hbb] at h1
        rw [Sig.set_ne _ _ hbb] at h2
        exact .inl (.inr ⟨b', y, pl, h1, h2, h3⟩)
  have hap : ∀ c, (σ.set b ⟨w.heap.size, 0, x.size⟩).fr c → c < (World.push w (.cells cs e (0, 0))).heap.size ∧ ¬ Tok (σ.set b ⟨w.heap.size, 0, x.size⟩) (H.new b x) c := fun c hc => by
    have hlt' := (h.apart c hc).1
    refine ⟨by simp [World.push]; omega, ?_⟩
    rintro ⟨b', y, pl, h1, h2, h3⟩
    rw [Heap.get_new] at h1
    by_cases hbb : b = b'
    · subst hbb
      rw [Sig.set_eq] at h2
      cases h2
      simp only [] at h3; omega
    · rw [if_neg hbb] at h1
      rw [Sig.set_ne _ _ hbb] at h2
      exact (h.apart c hc).2 ⟨b', y, pl, h1, h2, h3⟩
  refine ⟨⟨?_, ?_, ?_, hap, ?_⟩, ext⟩
  · intro c pl hc
    by_cases hbc : b = c
    · subst hbc; exact hlt
    · rw [Sig.set_ne _ _ hbc] at hc; exact h.named c pl hc
  · intro c pl hc
    by_cases hbc : b = c
    · subst hbc; rw [Sig.set_eq] at hc; cases hc; simp [World.push]
    · rw [Sig.set_ne _ _ hbc] at hc; have := h.lt c pl hc; simp [World.push]; omega
  · intro c y hy
    rw [Heap.get_new] at hy
    by_cases hbc : b = c
    · subst hbc
      rw [if_pos rfl] at hy
      cases hy
      refine ⟨_, cs, e, Sig.set_eq _ _ _, ⟨rfl, by show (w.heap.push _)[w.heap.size]? = _; simp, even, by simpa using room, fun i r j a u h1 h2 h3 => (rep i r j a u h1 h2 (by simpa using h3)).mono ext⟩⟩
    · rw [if_neg hbc] at hy
      obtain ⟨pl, cs', e', h1, h2⟩ := h.live c y hy
      exact ⟨pl, cs', e', by rw [Sig.set_ne _ _ hbc]; exact h1, h2.mono ext (hold _ (h.lt c pl h1))⟩
  · intro c c' y y' pl pl' h1 h2 h3 h4 h5
    rw [Heap.get_new] at h1 h2
    by_cases hbc : b = c
    · by_cases hbc' : b = c'
      · exact hbc.symm.trans hbc'
      · subst hbc
        rw [Sig.set_eq] at h3; cases h3
        rw [Sig.set_ne _ _ hbc'] at h4
        have := h.lt c' pl' h4
        simp only [] at h5; omega
    · by_cases hbc' : b = c'
      · subst hbc'
        rw [Sig.set_eq] at h4; cases h4
        rw [Sig.set_ne _ _ hbc] at h3
        have := h.lt c pl h3
        simp only [] at h5; omega
      · rw [if_neg hbc] at h1
        rw [if_neg hbc'] at h2
        rw [Sig.set_ne _ _ hbc] at h3
        rw [Sig.set_ne _ _ hbc'] at h4
        exact h.inj c c' y y' pl pl' h1 h2 h3 h4 h5

/-- one block of cells has been written -/
structure Wrote (w w' : World) (c : Nat) (cs cs' : Array Value) (e : TypeId) : Prop where
  os : w'.os = w.os
  tape : w'.tape = w.tape
  output : w'.output = w.output
  size : w'.heap.size = w.heap.size
  old : w.heap[c]? = some (.cells cs e (0, 0))
  new : w'.heap[c]? = some (.cells cs' e (0, 0))
  len : cs'.size = cs.size
  rest : ∀ d, d ≠ c → w'.heap[d]? = w.heap[d]?
theorem Wrote.refl {w : World} {c : Nat} {cs : Array Value} {e : TypeId} (h : w.heap[c]? = some (.cells cs e (0, 0))) : Wrote w w c cs cs e :=
  ⟨rfl, rfl, rfl, rfl, h, h, rfl, fun _ _ => rfl⟩
theorem Wrote.ext {w w' : World} {c : Nat} {cs cs' : Array Value} {e : TypeId} (h : Wrote w w' c cs cs' e) {σ σ' : Sig} {T T' : Nat → Prop} (hc : T c) (hσ : ∀ b pl, σ b = some pl → σ' b = some pl)
    (hfr : σ'.fr = σ.fr) (hn : ¬ σ.fr c) (hT : ∀ d, T' d → T d) : Ext w σ T w' σ' T' := by
  refine ⟨h.os, h.tape, h.output, by rw [h.size]; exact Nat.le_refl _, fun d _ hd => h.rest d (by rintro rfl; exact hd hc), fun d ds e' hd => ?_, hσ, hfr, fun d hd => h.rest d (by rintro rfl; exact hn hd), fun d hd => .inl (hT d hd)⟩
  by_cases hdc : d = c
  · subst hdc
    rw [h.old] at hd
    cases hd
    exact ⟨cs', h.new, h.len⟩
  · exact ⟨ds, by rw [h.rest d hdc]; exact hd, rfl⟩

/-- a living block has been written -/
theorem WRel.put {w w' : World} {σ : Sig} {H : Heap} (h : WRel w σ H) {b : Nat} {x x' : Blk} {pl : Place} {cs cs' : Array Value} {e : TypeId} (hg : H.get b = some x) (hs : σ b = some pl)
    (hw : Wrote w w' pl.block cs cs' e) (hx : x'.size = pl.size)
    (even : ∀ (i : Nat) (r : List AV), x'.rows[i]? = some r → r.length = x'.size) (room : pl.base + x'.rows.length * x'.size ≤ cs.size)
    (rep : ∀ (i : Nat) (r : List AV) (j : Nat) (a : AV) (u : Value), x'.rows[i]? = some r → r[j]? = some a → cs'[pl.base + i * x'.size + j]? = some u → Rep w σ (Own σ H) a u) :
    WRel w' σ (H.put b (some x')) ∧ Ext w σ (Own σ H) w' σ (Own σ (H.put b (some x'))) := by
  have htok : Tok σ (H.put b (some x')) = Tok σ H := by
    funext c
    apply propext
    constructor
    · rintro ⟨b', y, q, h1, h2, h3⟩
      rw [Heap.get_put] at h1
      by_cases hbb : b = b'
      · subst hbb; exact ⟨b, x, q, hg, h2, h3⟩
      · rw [if_neg hbb] at h1; exact ⟨b', y, q, h1, h2, h3⟩
    · rintro ⟨b', y, q, h1, h2, h3⟩
      by_cases hbb : b = b'
      · subst hbb; exact ⟨b, x', q, by rw [Heap.get_put, if_pos rfl], h2, h3⟩
      · exact ⟨b', y, q, by rw [Heap.get_put, if_neg hbb]; exact h1, h2, h3⟩
  have hown : Own σ (H.put b (some x')) = Own σ H := by funext c; simp [Own, htok]
  have ext : Ext w σ (Own σ H) w' σ (Own σ (H.put b (some x'))) := by
    rw [hown]
    exact hw.ext (.inr ⟨b, x, pl, hg, hs, rfl⟩) (fun _ _ h => h) rfl (fun hf => (h.apart _ hf).2 ⟨b, x, pl, hg, hs, rfl⟩) (fun _ h => h)
  refine ⟨⟨h.named, fun c q hc => by rw [hw.size]; exact h.lt c q hc, ?_, fun c hc => by rw [hw.size, htok]; exact h.apart c hc, ?_⟩, ext⟩
  · intro c y hy
    rw [Heap.get_put] at hy
    by_cases hbc : b = c
    · subst hbc
      rw [if_pos rfl] at hy
      cases hy
      exact ⟨pl, cs', e, hs, ⟨hx.symm, hw.new, even, by rw [hw.len]; exact room, fun i r j a u h1 h2 h3 => (rep i r j a u h1 h2 h3).mono ext⟩⟩
    · rw [if_neg hbc] at hy
      obtain ⟨q, ds, e', h1, h2⟩ := h.live c y hy
      exact ⟨q, ds, e', h1, h2.mono ext (hw.rest _ fun he => hbc (h.inj b c x y pl q hg hy hs h1 he.symm))⟩
  · intro c c' y y' q q' h1 h2
    have aux : ∀ c y, (H.put b (some x')).get c = some y → ∃ z, H.get c = some z := fun c y hy => by
      rw [Heap.get_put] at hy
      by_cases hbc : b = c
      · subst hbc; exact ⟨x, hg⟩
      · rw [if_neg hbc] at hy; exact ⟨y, hy⟩
    obtain ⟨z, hz⟩ := aux c y h1
    obtain ⟨z', hz'⟩ := aux c' y' h2
    exact h.inj c c' z z' q q' hz hz'

/-- block b is given up, and a new block of number b' takes its place, from its row k on -/
theorem WRel.over {w w' : World} {σ : Sig} {H : Heap} (h : WRel w σ H) {b b' : Nat} {x x' : Blk} {pl : Place} {cs cs' : Array Value} {e : TypeId} {k : Nat} (hg : H.get b = some x) (hs : σ b = some pl)
    (hb : σ b' = none) (hlt : b' < H.next) (hw : Wrote w w' pl.block cs cs' e) (hx : x'.size = pl.size)
    (even : ∀ (i : Nat) (r : List AV), x'.rows[i]? = some r → r.length = x'.size) (room : pl.base + k * pl.size + x'.rows.length * x'.size ≤ cs.size)
    (rep : ∀ (i : Nat) (r : List AV) (j : Nat) (a : AV) (u : Value), x'.rows[i]? = some r → r[j]? = some a → cs'[pl.base + k * pl.size + i * x'.size + j]? = some u → Rep w σ (Own σ H) a u) :
    WRel w' (σ.set b' ⟨pl.block, pl.base + k * pl.size, pl.size⟩) ((H.put b none).new b' x') ∧
    Ext w σ (Own σ H) w' (σ.set b' ⟨pl.block, pl.base + k * pl.size, pl.size⟩) (Own (σ.set b' ⟨pl.block, pl.base + k * pl.size, pl.size⟩) ((H.put b none).new b' x')) := by
  have hne : b' ≠ b := by rintro rfl; rw [hb] at hs; cases hs
  have get' : ∀ c y, ((H.put b none).new b' x').get c = some y → (c = b' ∧ y = x') ∨ (c ≠ b' ∧ c ≠ b ∧ H.get c = some y) := fun c y hy => by
    rw [Heap.get_new] at hy
    by_cases h1 : b' = c
    · rw [if_pos h1] at hy; cases hy; exact .inl ⟨h1.symm, rfl⟩
    · rw [if_neg h1, Heap.get_put] at hy
      by_cases h2 : b = c
      · rw [if_pos h2] at hy; cases hy
      · rw [if_neg h2] at hy; exact .inr ⟨fun e => h1 e.symm, fun e => h2 e.symm, hy⟩
  have htok : ∀ d, Tok (σ.set b' ⟨pl.block, pl.base + k * pl.size, pl.size⟩) ((H.put b none).new b' x') d → Tok σ H d := by
    rintro d ⟨c, y, q, h1, h2, h3⟩
    rcases get' c y h1 with ⟨rfl, rfl⟩ | ⟨h4, _, h5⟩
    · rw [Sig.set_eq] at h2; cases h2; exact ⟨b, x, pl, hg, hs, h3⟩
    · rw [Sig.set_ne _ _ (fun e => h4 e.symm)] at h2; exact ⟨c, y, q, h5, h2, h3⟩
  have ext : Ext w σ (Own σ H) w' (σ.set b' ⟨pl.block, pl.base + k * pl.size, pl.size⟩) (Own (σ.set b' ⟨pl.block, pl.base + k * pl.size, pl.size⟩) ((H.put b none).new b' x')) := by
    refine hw.ext (.inr ⟨b, x, pl, hg, hs, rfl⟩) (fun c q hq => Sig.set_old hb hq) rfl (fun hf => (h.apart _ hf).2 ⟨b, x, pl, hg, hs, rfl⟩) ?_
    rintro d (hfr | hd)
    · exact .inl hfr
    · exact .inr (htok d hd)
  refine ⟨⟨?_, ?_, ?_, fun c hc => ⟨by rw [hw.size]; exact (h.apart c hc).1, fun ht => (h.apart c hc).2 (htok c ht)⟩, ?_⟩, ext⟩
  · intro c q hc
    by_cases hbc : b' = c
    · subst hbc; exact hlt
    · rw [Sig.set_ne _ _ hbc] at hc; exact h.named c q hc
  · intro c q hc
    rw [hw.size]
    by_cases hbc : b' = c
    · subst hbc; rw [Sig.set_eq] at hc; cases hc; exact h.lt b pl hs
    · rw [Sig.set_ne _ _ hbc] at hc; exact h.lt c q hc
  · intro c y hy
    rcases get' c y hy with ⟨rfl, rfl⟩ | ⟨h4, h6, h5⟩
    · exact ⟨_, cs', e, Sig.set_eq _ _ _, ⟨hx.symm, hw.new, even, by rw [hw.len]; exact room, fun i r j a u h1 h2 h3 => (rep i r j a u h1 h2 h3).mono ext⟩⟩
    · obtain ⟨q, ds, e', h1, h2⟩ := h.live c y h5
      exact ⟨q, ds, e', by rw [Sig.set_ne _ _ (fun e => h4 e.symm)]; exact h1, h2.mono ext (hw.rest _ fun he => h6 (h.inj c b y x q pl h5 hg h1 hs he))⟩
  · intro c c' y y' q q' h1 h2 h3 h4 h5
    rcases get' c y h1 with ⟨rfl, rfl⟩ | ⟨a1, a2, a3⟩
    · rcases get' c' y' h2 with ⟨rfl, rfl⟩ | ⟨b1, b2, b3⟩
      · rfl
      · rw [Sig.set_eq] at h3; cases h3
        rw [Sig.set_ne _ _ (fun e => b1 e.symm)] at h4
        exact absurd (h.inj b c' x y' pl q' hg b3 hs h4 h5) (fun e => b2 e.symm)
    · rcases get' c' y' h2 with ⟨rfl, rfl⟩ | ⟨b1, b2, b3⟩
      · rw [Sig.set_eq] at h4; cases h4
        rw [Sig.set_ne _ _ (fun e => a1 e.symm)] at h3
        exact absurd (h.inj c b y x q pl a3 hg h3 hs h5) a2
      · rw [Sig.set_ne _ _ (fun e => a1 e.symm)] at h3
        rw [Sig.set_ne _ _ (fun e => b1 e.symm)] at h4
        exact h.inj c c' y y' q q' a3 b3 h3 h4 h5
end Go.Proofs.Ytadjimfkfmojkaa.Am

end
section
namespace Go.Proofs.Ytadjimfkfmojkaa.Am
section
variable {P : Program} {w : World} {σ : Sig} {T : Nat → Prop}

theorem run_info {t : TypeId} {i : TypeInfo} (h : P.info? t = some i) (w : World) : (typeInfo t).run P w = .ok i w := by
  simp [typeInfo, h]
theorem run_size {t : TypeId} {n : Nat} (h : sizeA P t = some n) (w : World) : (sizeOf t).run P w = .ok n w := by
  unfold sizeA at h
  cases hi : P.info? t with
  | none => rw [hi] at h; cases h
  | some i => rw [hi] at h; cases h; simp [sizeOf, run_info hi]
theorem run_isAgg {t : TypeId} {r : Bool} (h : isAggA P t = some r) (w : World) : (isAgg t).run P w = .ok r w := by
  unfold isAggA at h
  cases hi : P.underlying t with
  | none => rw [hi] at h; cases h
  | some d =>
    rw [hi] at h
    simp only [Option.map_some, Option.some.injEq] at h
    subst h
    simp only [isAgg, Sem.run_bind, run_underlying hi, Result.andThen_ok]
    cases d <;> rfl
theorem Rep.cells {a : AV} {v : Value} {cs : List AV} (h : Rep w σ T a v) (hc : a.cells? = some cs) : Reps w σ T cs v.cells.toList := by
  have one : ∀ {a v}, Rep w σ T a v → (v.cells = #[v]) → Reps w σ T [a] v.cells.toList := fun {a v} h e => by
    rw [e]
    refine ⟨rfl, fun i a' v' h1 h2 => ?_⟩
    match i with
    | 0 => cases h1; cases h2; exact h
    | i + 1 => simp at h1
  cases h <;> simp only [AV.cells?, Option.some.injEq, reduceCtorEq] at hc <;> subst hc
  case agg vs hl h => exact ⟨by simpa [Value.cells] using hl, by simpa [Value.cells] using h⟩
  all_goals exact one (by constructor <;> assumption) rfl
theorem Rep.one {a : AV} {v : Value} (h : Rep w σ T a v) (ho : a.one = true) : v.oneCell' = true := by
  cases h <;> first | rfl | (simp [AV.one] at ho)
theorem Reps.one {cs : List AV} {vs : List Value} (h : Reps w σ T cs vs) (ho : cs.all AV.one = true) : ∀ v ∈ vs, v.oneCell' = true := by
  intro v hv
  obtain ⟨i, hi, rfl⟩ := List.getElem_of_mem hv
  have hi' : i < cs.length := by rw [h.1]; exact hi
  exact (h.2 i cs[i] vs[i] (List.getElem?_eq_getElem hi') (List.getElem?_eq_getElem hi)).one (by rw [List.all_eq_true] at ho; exact ho _ (List.getElem_mem hi'))

/-- a row of cells that can be read -/
def RowAt (w : World) (σ : Sig) (T : Nat → Prop) (row : List AV) (b start : Nat) : Prop :=
  ∀ (j : Nat) (a : AV), row[j]? = some a → ∃ u, w.cell? ⟨b, start + j, none⟩ = some u ∧ Rep w σ T a u
theorem addr_add (b o n : Nat) : (⟨b, o, none⟩ : Addr).add n = ⟨b, o + n, none⟩ := by unfold Addr.add; split <;> simp_all

theorem rowCells {row : List AV} {b start : Nat} (h : RowAt w σ T row b start) (n off : Nat) (hn : off + n ≤ row.length) :
    ∃ vs : List Value, vs.length = n ∧ (loadCells ⟨b, start + off, none⟩ n).run P w = .ok vs.toArray w ∧ Reps w σ T ((row.drop off).take n) vs := by
  have key : ∀ j, ∃ u, j < n → ∃ a, row[off + j]? = some a ∧ w.cell? ⟨b, start + off + j, none⟩ = some u ∧ Rep w σ T a u := fun j => by
    by_cases hj : j < n
    · obtain ⟨u, h1, h2⟩ := h (off + j) row[off + j] (List.getElem?_eq_getElem (by omega))
      exact ⟨u, fun _ => ⟨_, List.getElem?_eq_getElem (by omega), by rw [Nat.add_assoc]; exact h1, h2⟩⟩
    · exact ⟨undef, fun h => absurd h hj⟩
  let f := fun j => Classical.choose (key j)
  have hf : ∀ j, j < n → ∃ a, row[off + j]? = some a ∧ w.cell? ⟨b, start + off + j, none⟩ = some (f j) ∧ Rep w σ T a (f j) := fun j => Classical.choose_spec (key j)
  refine ⟨(List.range n).map f, by simp, run_loadCells w _ n f (fun j hj => by rw [addr_add]; obtain ⟨a, _, h2, _⟩ := hf j hj; exact h2), by simp; omega, ?_⟩
  intro i a v h1 h2
  rw [List.getElem?_map] at h2
  have hi : i < n := by
    rcases Nat.lt_or_ge i n with h3 | h3
    · exact h3
    · rw [List.getElem?_eq_none (by simpa using h3)] at h2; cases h2
  rw [List.getElem?_range hi] at h2
  cases h2
  obtain ⟨a', h3, _, h5⟩ := hf i hi
  rw [List.getElem?_take_of_lt hi, List.getElem?_drop, h3] at h1
  cases h1
  exact h5
theorem rowLoad_sound {t : TypeId} {row : List AV} {b start off : Nat} {v : AV} (h : RowAt w σ T row b start) (hl : rowLoad P t row off = some v) :
    ∃ v', (loadVar t ⟨b, start + off, none⟩).run P w = .ok v' w ∧ Rep w σ T v v' := by
  unfold rowLoad at hl
  split at hl
  · rename_i n h1 h2
    split at hl
    · rename_i hn
      cases hl
      obtain ⟨vs, _, h4, h5⟩ := rowCells (P := P) h n off hn
      exact ⟨.agg vs.toArray, by simp only [loadVar, Sem.run_bind, run_isAgg h1, Result.andThen_ok, Sem.run_ite, if_true, run_size h2, h4, Sem.run_pure], .agg _ _ h5.1 h5.2⟩
    · cases hl
  · rename_i n h1 h2
    obtain ⟨u, h3, h4⟩ := h off v hl
    exact ⟨u, by simp [loadVar, run_isAgg h1, h3], h4⟩
  · cases hl
theorem rowPart_sound {t : TypeId} {row : List AV} {vs : List Value} {off : Nat} {v : AV} (h : Reps w σ T row vs) (hl : rowLoad P t row off = some v) :
    ∃ v', (part t vs.toArray off).run P w = .ok v' w ∧ Rep w σ T v v' := by
  unfold rowLoad at hl
  split at hl
  · rename_i n h1 h2
    split at hl
    · rename_i hn
      cases hl
      refine ⟨.agg (vs.toArray.extract off (off + n)), by simp only [part, Sem.run_bind, run_isAgg h1, Result.andThen_ok, Sem.run_ite, if_true, run_size h2, Sem.run_pure], ?_⟩
      have e : vs.toArray.extract off (off + n) = ((vs.drop off).take n).toArray := by simp
      rw [e]
      refine .agg _ _ (by simp [h.1]) fun i a v h3 h4 => ?_
      have hi : i < n := by
        rcases Nat.lt_or_ge i n with h5 | h5
        · exact h5
        · rw [List.getElem?_eq_none (by simp; omega)] at h3; cases h3
      rw [List.getElem?_take_of_lt hi, List.getElem?_drop] at h3 h4
      exact h.2 _ a v h3 h4
    · cases hl
  · rename_i n h1 h2
    have ho : off < row.length := by
      rcases Nat.lt_or_ge off row.length with h5 | h5
      · exact h5
      · rw [List.getElem?_eq_none h5] at hl; cases hl
    have ho' : off < vs.length := by rw [← h.1]; exact ho
    exact ⟨vs[off], by simp [part, run_isAgg h1, ho'], h.2 off v _ hl (List.getElem?_eq_getElem ho')⟩
  · cases hl

theorem Held.row {x : Blk} {pl : Place} {cs : Array Value} {e : TypeId} (h : Held w σ T x pl cs e) {i : Nat} {r : List AV} (hr : x.rows[i]? = some r) :
    RowAt w σ T r pl.block (pl.base + i * pl.size) := by
  intro j a ha
  have hi : i < x.rows.length := by
    rcases Nat.lt_or_ge i x.rows.length with h5 | h5
    · exact h5
    · rw [List.getElem?_eq_none h5] at hr; cases hr
  have hj : j < x.size := by
    rw [← h.even i r hr]
    rcases Nat.lt_or_ge j r.length with h5 | h5
    · exact h5
    · rw [List.getElem?_eq_none h5] at ha; cases ha
  have hb : pl.base + i * x.size + j < cs.size := by
    have := h.room
    have : (i + 1) * x.size ≤ x.rows.length * x.size := Nat.mul_le_mul_right _ hi
    rw [Nat.add_mul] at this
    omega
  refine ⟨cs[pl.base + i * x.size + j], ?_, h.rep i r j a _ hr ha (Array.getElem?_eq_getElem hb)⟩
  rw [h.size]
  simp [World.cell?, h.block, hb]
theorem Lies.row {rows : List (List AV)} {b o sz : Nat} (hl : Lies w T rows b o sz)
    (h : ∀ (i : Nat) (r : List AV) (j : Nat) (a : AV) (u : Value), rows[i]? = some r → r[j]? = some a → w.cell? ⟨b, o + i * sz + j, none⟩ = some u → Rep w σ T a u)
    {i : Nat} {r : List AV} (hr : rows[i]? = some r) : RowAt w σ T r b (o + i * sz) := by
  intro j a ha
  have hi : i < rows.length := by
    rcases Nat.lt_or_ge i rows.length with h5 | h5
    · exact h5
    · rw [List.getElem?_eq_none h5] at hr; cases hr
  have hj : j < sz := by
    rw [← hl.even i r hr]
    rcases Nat.lt_or_ge j r.length with h5 | h5
    · exact h5
    · rw [List.getElem?_eq_none h5] at ha; cases ha
  obtain ⟨u, hu⟩ := hl.cell i j hi hj
  exact ⟨u, hu, h i r j a u hr ha hu⟩

theorem load_sound {H : Heap} (hW : WRel w σ H) {t : TypeId} {a v : AV} {a' : Value} (ha : Rep w σ (Own σ H) a a') (hl : loadA P H t a = some v) :
    ∃ v', (Instr.loadAt t a').run P w = .ok v' w ∧ Rep w σ (Own σ H) v v' := by
  unfold loadA at hl
  split at hl
  · rename_i b i off
    cases ha
    rename_i pl hs
    cases hx : H.get b with
    | none => rw [hx] at hl; cases hl
    | some x =>
      rw [hx] at hl
      simp only [Option.bind_some] at hl
      cases hr : x.rows[i]? with
      | none => rw [hr] at hl; cases hl
      | some r =>
        rw [hr] at hl
        simp only [Option.bind_some] at hl
        obtain ⟨pl', cs, e, h1, h2⟩ := hW.live b x hx
        rw [hs] at h1
        cases h1
        obtain ⟨v', h3, h4⟩ := rowLoad_sound (P := P) (h2.row hr) hl
        exact ⟨v', by simpa [Instr.loadAt, Instr.sureAddr] using h3, h4⟩
  · rename_i rows i off
    cases ha
    rename_i b o sz hl' h
    cases hr : rows[i]? with
    | none => rw [hr] at hl; cases hl
    | some r =>
      rw [hr] at hl
      simp only [Option.bind_some] at hl
      obtain ⟨v', h3, h4⟩ := rowLoad_sound (P := P) (hl'.row h hr) hl
      exact ⟨v', by simpa [Instr.loadAt, Instr.sureAddr] using h3, h4⟩
  · cases hl
end
end Go.Proofs.Ytadjimfkfmojkaa.Am

end
section
namespace Go.Proofs.Ytadjimfkfmojkaa.Am
section
variable {P : Program} {w : World} {σ : Sig} {T : Nat → Prop}

theorem av1_rep {v : Value} {a : AV} (h : av1 v = some a) : Rep w σ T a v := by
  unfold av1 at h
  split at h <;> first | (cases h; constructor) | cases h
theorem allSome_spec {α : Type} : ∀ (l : List (Option α)) (m : List α), allSome l = some m → l.length = m.length ∧ ∀ (i : Nat) (x : α), m[i]? = some x → l[i]? = some (some x)
  | [], m, h => by cases h; exact ⟨rfl, fun i x h => by simp at h⟩
  | none :: _, m, h => by cases h
  | some x :: l, m, h => by
    unfold allSome at h
    split at h
    · rename_i l' hl
      cases h
      obtain ⟨h1, h2⟩ := allSome_spec l l' hl
      refine ⟨by simp [h1], fun i y hy => ?_⟩
      match i with
      | 0 => simpa using hy
      | i + 1 => simp only [List.getElem?_cons_succ] at hy ⊢; exact h2 i y hy
    · cases h
theorem avOf_rep {v : Value} {a : AV} (h : avOf v = some a) : Rep w σ T a v := by
  unfold avOf at h
  split at h
  · rename_i cs
    cases hm : allSome (cs.toList.map av1) with
    | none => rw [hm] at h; cases h
    | some l =>
      rw [hm] at h
      cases h
      obtain ⟨h1, h2⟩ := allSome_spec _ _ hm
      have : Rep w σ T (.agg l) (.agg cs.toList.toArray) := .agg l cs.toList (by simpa using h1.symm) fun i a v h3 h4 => by
        have := h2 i a h3
        rw [List.getElem?_map, h4] at this
        simp only [Option.map_some, Option.some.injEq] at this
        exact av1_rep this
      simpa using this
  · exact av1_rep h

theorem zero_sound {t : TypeId} {z : AV} (h : zeroA P t = some z) : ∃ z', (zeroValue t).run P w = .ok z' w ∧ Rep w σ T z z' := by
  unfold zeroA at h
  cases hi : P.info? t with
  | none => rw [hi] at h; cases h
  | some i =>
    rw [hi] at h
    simp only [Option.bind_some] at h
    cases hz : i.zero with
    | none => rw [hz] at h; cases h
    | some z' =>
      rw [hz] at h
      exact ⟨z', by simp [zeroValue, run_info hi, hz], avOf_rep h⟩

theorem fieldAddr_sound {s : TypeId} {x v : AV} {x' : Value} {f : Nat} (hx : Rep w σ T x x') (h : fieldAddrA P s x f = some v) :
    ∃ v', (Instr.fieldAt s x' f).run P w = .ok v' w ∧ Rep w σ T v v' := by
  unfold fieldAddrA at h
  split at h
  · rename_i fs hu
    cases hf : fs[f]? with
    | none => rw [hf] at h; cases h
    | some fd =>
      rw [hf] at h
      simp only [Option.bind_some] at h
      cases hn : sizeA P fd.type with
      | none => rw [hn] at h; cases h
      | some n =>
        rw [hn] at h
        simp only [Option.bind_some] at h
        by_cases h0 : n = 0
        · rw [if_pos h0] at h; cases h
        · rw [if_neg h0] at h
          cases hx <;> simp only [Option.some.injEq, reduceCtorEq] at h <;> subst h
          · rename_i b i off pl hs
            refine ⟨_, by simp only [Instr.fieldAt, Sem.run_bind, run_underlying hu, Result.andThen_ok, hf, Instr.sureAddr, Sem.run_pure, fieldPlace, run_size hn, Sem.run_ite, if_neg h0, addr_add]; rfl, ?_⟩
            have := Rep.ptr (w := w) (T := T) b i (off + fd.offset) pl hs
            rwa [← Nat.add_assoc] at this
          · rename_i rows i off b o sz hl h
            refine ⟨_, by simp only [Instr.fieldAt, Sem.run_bind, run_underlying hu, Result.andThen_ok, hf, Instr.sureAddr, Sem.run_pure, fieldPlace, run_size hn, Sem.run_ite, if_neg h0, addr_add]; rfl, ?_⟩
            have := Rep.pptr rows i (off + fd.offset) b o sz hl h
            rwa [← Nat.add_assoc] at this
  · cases h
theorem field_sound {s : TypeId} {x v : AV} {x' : Value} {f : Nat} (hx : Rep w σ T x x') (h : fieldA P s x f = some v) :
    ∃ v', (Instr.field s x' f).run P w = .ok v' w ∧ Rep w σ T v v' := by
  unfold fieldA at h
  split at h
  · rename_i fs cs hu
    cases hx
    rename_i vs hl hr
    cases hf : fs[f]? with
    | none => rw [hf] at h; cases h
    | some fd =>
      rw [hf] at h
      simp only [Option.bind_some] at h
      obtain ⟨v', h1, h2⟩ := rowPart_sound (P := P) (w := w) (σ := σ) (T := T) ⟨hl, hr⟩ h
      exact ⟨v', by simp [Instr.field, run_underlying hu, hf, asAgg, h1], h2⟩
  · cases h

theorem Rep.sl_inv {b i n : Nat} {v : Value} (h : Rep w σ T (.sl b i n) v) : ∃ pl a cap, v = .slice (some a) n cap ∧ σ b = some pl ∧ n ≤ cap ∧ cap ≤ maxLen ∧
    (0 < cap → a = ⟨pl.block, pl.base + i * pl.size, none⟩ ∧ ∃ cs e, w.heap[pl.block]? = some (.cells cs e (0, 0)) ∧ pl.base + (i + cap) * pl.size ≤ cs.size) := by
  cases h with
  | sl _ _ _ pl a cap h hn hm ha => exact ⟨pl, a, cap, rfl, h, hn, hm, ha⟩
theorem Rep.lst_inv {rows : List (List AV)} {v : Value} (h : Rep w σ T (.lst rows) v) : ∃ A cap, v = .slice A rows.length cap ∧ rows.length ≤ cap ∧ cap ≤ maxLen ∧
    (rows ≠ [] → ∃ b o sz, A = some ⟨b, o, none⟩ ∧ Lies w T rows b o sz ∧
      ∀ (i : Nat) (r : List AV) (j : Nat) (a : AV) (u : Value), rows[i]? = some r → r[j]? = some a → w.cell? ⟨b, o + i * sz + j, none⟩ = some u → Rep w σ T a u) := by
  cases h with
  | lst0 a cap hm => exact ⟨a, cap, rfl, Nat.zero_le _, hm, fun h => absurd rfl h⟩
  | lst _ b o sz cap hl hn hm h => exact ⟨_, cap, rfl, hn, hm, fun _ => ⟨b, o, sz, rfl, hl, h⟩⟩
theorem lt_of_some {α : Type} {l : List α} {i : Nat} {x : α} (h : l[i]? = some x) : i < l.length := by
  rcases Nat.lt_or_ge i l.length with h5 | h5
  · exact h5
  · rw [List.getElem?_eq_none h5] at h; cases h

theorem indexAddr_sound {H : Heap} (hW : WRel w σ H) {t : TypeId} {x ix v : AV} {x' ix' : Value} (hx : Rep w σ (Own σ H) x x') (hi : Rep w σ (Own σ H) ix ix') (h : indexAddrA P (szOf H x) t x ix = some v) :
    ∃ v', (Instr.indexAt t x' ix').run P w = .ok v' w ∧ Rep w σ (Own σ H) v v' := by
  unfold indexAddrA at h
  split at h
  · rename_i k i
    cases hi
    by_cases h0 : i < 0
    · rw [if_pos h0] at h; cases h
    · rw [if_neg h0] at h
      split at h
      · rename_i e b j n hu
        split at h
        · rename_i hlt
          obtain ⟨hlt, hso, hsz⟩ := hlt
          cases h
          cases hy : H.get b with
          | none => simp [szOf, hy] at hso
          | some y =>
          simp only [szOf, hy, Option.map_some] at hsz
          obtain ⟨pl, a, cap, rfl, hs, hn, hm, ha⟩ := hx.sl_inv
          obtain ⟨rfl, cs, ty, hc, hr⟩ := ha (by omega)
          have hii : 0 ≤ i ∧ i < (n : Int) := by omega
          obtain ⟨pl', cs', e', h1, h2⟩ := hW.live b y hy
          rw [hs] at h1
          cases h1
          refine ⟨_, by simp only [Instr.indexAt, asIntOf, Sem.run_bind, Sem.run_pure, Result.andThen_ok, run_underlying hu, Sem.run_ite, if_pos hii, run_size hsz, addr_add]; rfl, ?_⟩
          have := Rep.ptr (w := w) (T := Own σ H) b (j + i.toNat) 0 pl hs
          rw [← h2.size]
          simpa [Nat.add_mul, Nat.add_assoc] using this
        · cases h
      · rename_i e rows hu
        split at h
        · rename_i r hr
          split at h
          · rename_i hsz
            cases h
            have hlt := lt_of_some hr
            have hii : 0 ≤ i ∧ i < (rows.length : Int) := by omega
            obtain ⟨A, cap, rfl, hn, hm, ha⟩ := hx.lst_inv
            obtain ⟨b, o, sz, rfl, hl, h⟩ := ha (by rintro rfl; simp at hr)
            have hrs := hl.even _ _ hr
            subst hrs
            refine ⟨_, by simp only [Instr.indexAt, asIntOf, Sem.run_bind, Sem.run_pure, Result.andThen_ok, run_underlying hu, Sem.run_ite, if_pos hii, run_size hsz, addr_add]; rfl, ?_⟩
            exact Rep.pptr rows i.toNat 0 b o _ hl h
          · cases h
        · cases h
      · rename_i len e b j off hu
        split at h
        · rename_i hlt
          cases hn : sizeA P e with
          | none => rw [hn] at h; cases h
          | some n =>
            rw [hn] at h
            cases h
            cases hx
            rename_i pl hs
            have hii : 0 ≤ i ∧ i < (len : Int) := by omega
            refine ⟨_, by simp only [Instr.indexAt, asIntOf, Sem.run_bind, Sem.run_pure, Result.andThen_ok, run_underlying hu, Instr.sureAddr, Sem.run_ite, if_pos hii, run_size hn, addr_add]; rfl, ?_⟩
            have := Rep.ptr (w := w) (T := Own σ H) b j (off + i.toNat * n) pl hs
            rwa [← Nat.add_assoc] at this
        · cases h
      · rename_i len e rows j off hu
        split at h
        · rename_i hlt
          cases hn : sizeA P e with
          | none => rw [hn] at h; cases h
          | some n =>
            rw [hn] at h
            cases h
            cases hx
            rename_i b o sz hl h
            have hii : 0 ≤ i ∧ i < (len : Int) := by omega
            refine ⟨_, by simp only [Instr.indexAt, asIntOf, Sem.run_bind, Sem.run_pure, Result.andThen_ok, run_underlying hu, Instr.sureAddr, Sem.run_ite, if_pos hii, run_size hn, addr_add]; rfl, ?_⟩
            have := Rep.pptr rows j (off + i.toNat * n) b o sz hl h
            rwa [← Nat.add_assoc] at this
        · cases h
      · cases h
  · cases h
theorem index_sound {t : TypeId} {x ix v : AV} {x' ix' : Value} (hx : Rep w σ T x x') (hi : Rep w σ T ix ix') (h : indexA P t x ix = some v) :
    ∃ v', (Instr.index t x' ix').run P w = .ok v' w ∧ Rep w σ T v v' := by
  unfold indexA at h
  split at h
  · rename_i s k i hu
    cases hi
    by_cases h0 : i < 0
    · rw [if_pos h0] at h; cases h
    · rw [if_neg h0] at h
      cases hx
      rename_i ba
      cases hb : ba.data.toList[i.toNat]? with
      | none => rw [hb] at h; cases h
      | some c =>
        rw [hb] at h
        cases h
        have hlt := lt_of_some hb
        have h1 : ba[i.toNat]? = some c := by
          have hlt' : i.toNat < ba.size := by rw [Array.length_toList] at hlt; exact hlt
          rw [getElem?_pos ba i.toNat hlt']
          rw [List.getElem?_eq_getElem hlt] at hb
          rw [← hb]
          rfl
        have hii : 0 ≤ i := by omega
        have e : (if 0 ≤ i then ba[i.toNat]? else none) = some c := by rw [if_pos hii]; exact h1
        exact ⟨.int .u8 c.toNat, by simp only [Instr.index, asIntOf, Sem.run_bind, Sem.run_pure, Result.andThen_ok, run_underlying hu, e], .int _ _⟩
  · rename_i len e cs k i hu
    split at h
    · rename_i hlt
      cases hn : sizeA P e with
      | none => rw [hn] at h; cases h
      | some n =>
        rw [hn] at h
        simp only [Option.bind_some] at h
        cases hi
        cases hx
        rename_i vs hl hr
        obtain ⟨v', h1, h2⟩ := rowPart_sound (P := P) (w := w) (σ := σ) (T := T) ⟨hl, hr⟩ h
        have hii : 0 ≤ i ∧ i < (len : Int) := by omega
        refine ⟨v', ?_, h2⟩
        simp only [Instr.index, asIntOf, Sem.run_bind, Sem.run_pure, Result.andThen_ok, run_underlying hu]
        rw [if_pos hii]
        simp only [Sem.run_bind, run_size hn, Result.andThen_ok, h1]
    · cases h
  · cases h
theorem natOf_sound {x : AV} {x' : Value} {n : Nat} (hx : Rep w σ T x x') (h : natOf x = some n) : ∃ k i, x' = .int k i ∧ 0 ≤ i ∧ i.toNat = n := by
  unfold natOf at h
  split at h
  · rename_i k i
    split at h
    · rename_i h0; cases h; cases hx; exact ⟨k, i, rfl, h0, rfl⟩
    · cases h
  · cases h
end
end Go.Proofs.Ytadjimfkfmojkaa.Am

end
section
namespace Go.Proofs.Ytadjimfkfmojkaa.Am
/-- a struct type whose fields are cells, one by one, that == may compare -/
structure FlatT (P : Program) (t : TypeId) (ts : List TypeId) : Prop where
  under : P.underlying t = some (.struct (P.fieldsOf t))
  stood : P.stoodInHeld t = false
  guard : P.eqGuardType P.depth t = false
  types : (P.fieldsOf t).toList.map (·.type) = ts
  fields : ∀ (i : Nat) (f : Field), (P.fieldsOf t).toList[i]? = some f → f.name ≠ "_" ∧ f.offset = i ∧ isAggA P f.type = some false
section
variable {P : Program} {w : World} {σ : Sig} {T : Nat → Prop}

theorem bytes_beq (a b : ByteArray) : (a.toList == b.toList) = (a.data.toList == b.data.toList) := by rw [ByteArray.toList_eq, ByteArray.toList_eq]
theorem eqA_sound {t : TypeId} {x y : AV} {x' y' : Value} {r : Bool} {d : Nat} (hx : Rep w σ T x x') (hy : Rep w σ T y y') (h : eqA P t x y = some r) :
    (Op.equalIn (d + 1) t x' y').run P w = .ok r w := by
  unfold eqA at h
  split at h
  case h_1 hu =>
    split at h
    · rename_i hk; subst hk; cases h; cases hx; cases hy; exact run_equalIn_int w d t _ _ _ _ hu
    · cases h
  case h_2 hu => cases h; cases hx; cases hy; exact run_equalIn_bool' w d t _ _ hu
  case h_3 hu => cases h; cases hx; cases hy; rw [run_equalIn_string w d t _ _ hu, bytes_beq]
  case h_4 hu => cases h; cases hx; cases hy; simp [Op.equalIn, run_underlying hu]
  case h_5 hu => cases h; cases hx; cases hy; simp [Op.equalIn, run_underlying hu]
  case h_6 hu => cases h; cases hx; cases hy; simp [Op.equalIn, run_underlying hu]
  case h_7 hu => cases h; cases hx; cases hy; simp [Op.equalIn, run_underlying hu]
  case h_8 hu => cases h; cases hx; cases hy; simp [Op.equalIn, run_underlying hu]
  case h_9 hu => cases h; cases hx; cases hy; simp [Op.equalIn, run_underlying hu]
  case h_10 hu => cases h; cases hx; cases hy; simp [Op.equalIn, run_underlying hu]
  case h_11 hu => cases h; cases hx; cases hy; simp [Op.equalIn, run_underlying hu]
  case h_12 => cases h

theorem part_one {t : TypeId} {cs : List AV} {vs : List Value} {i : Nat} {a : AV} (ht : isAggA P t = some false) (h : Reps w σ T cs vs) (ha : cs[i]? = some a) :
    ∃ v, (part t vs.toArray i).run P w = .ok v w ∧ Rep w σ T a v := by
  have hi := lt_of_some ha
  have hi' : i < vs.length := by rw [← h.1]; exact hi
  exact ⟨vs[i], by simp [part, run_isAgg ht, hi'], h.2 i a _ ha (List.getElem?_eq_getElem hi')⟩
theorem eqAs_sound {d : Nat} {cs ds : List AV} {xs ys : List Value} (hc : Reps w σ T cs xs) (hd : Reps w σ T ds ys) : ∀ (fs : List Field) (k : Nat) (r : Bool),
    (∀ (i : Nat) (f : Field), fs[i]? = some f → f.name ≠ "_" ∧ f.offset = k + i ∧ isAggA P f.type = some false) → eqAs P (fs.map (·.type)) (cs.drop k) (ds.drop k) = some r →
    (Op.eqFields (d + 1) xs.toArray ys.toArray fs).run P w = .ok r w
  | [], k, r, _, h => by
    unfold eqAs at h
    split at h
    · cases h; rfl
    · simp_all
    · cases h
  | f :: fs, k, r, hf, h => by
    unfold eqAs at h
    split at h
    · rename_i e _ _; cases e
    · rename_i t ts a l b m e1 e2 e3
      cases e1
      obtain ⟨h1, h2, h3⟩ := hf 0 f rfl
      have ha : cs[k]? = some a := by have := congrArg (·[0]?) e2; simpa [List.getElem?_drop] using this
      have hb : ds[k]? = some b := by have := congrArg (·[0]?) e3; simpa [List.getElem?_drop] using this
      have hl : l = cs.drop (k + 1) := by have := congrArg List.tail e2; simpa [List.tail_drop] using this.symm
      have hm : m = ds.drop (k + 1) := by have := congrArg List.tail e3; simpa [List.tail_drop] using this.symm
      simp only [Nat.add_zero] at h2
      obtain ⟨u, hu1, hu2⟩ := part_one (P := P) h3 hc ha
      obtain ⟨v, hv1, hv2⟩ := part_one (P := P) h3 hd hb
      rw [← h2] at hu1 hv1
      simp only [Op.eqFields, if_pos h1, Sem.run_bind, hu1, hv1, Result.andThen_ok]
      split at h
      · rename_i he
        rw [eqA_sound hu2 hv2 he]
        simp only [Result.andThen_ok, Bool.not_true, Bool.false_eq_true, if_false]
        exact eqAs_sound hc hd fs (k + 1) r (fun i g hg => by have := hf (i + 1) g (by simpa using hg); refine ⟨this.1, by rw [this.2.1]; omega, this.2.2⟩) (by rw [← hl, ← hm]; exact h)
      · rename_i he
        rw [eqA_sound hu2 hv2 h]
        cases r with
        | true => exact absurd h he
        | false => rfl
    · cases h
theorem eqGuard_other {op : BinOp} {t : TypeId} {x y : Operand} {a b : Value} (h : ∀ xs, a ≠ .agg xs) (h' : a ≠ .nilIface) : (eqGuard op t x y a b).run P w = .ok () w := by
  cases a <;> cases op <;> simp_all [eqGuard]
theorem byteLess_eq : ∀ (a b : List UInt8), byteLess a b = Op.bytesLess a b
  | _, [] => by cases ‹List UInt8› <;> rfl
  | [], _ :: _ => rfl
  | a :: x, b :: y => by simp [byteLess, Op.bytesLess, byteLess_eq x y]
theorem Rep.ne_agg {a : AV} {v : Value} (h : Rep w σ T a v) (hc : ∀ cs, a ≠ .agg cs) (hj : a ≠ .junk) : (∀ xs, v ≠ .agg xs) ∧ v ≠ .nilIface := by
  cases h <;> first | (exact absurd rfl (hc _)) | (exact absurd rfl hj) | (constructor <;> simp)

theorem un_sound {op : UnOp} {x v : AV} {x' : Value} (hx : Rep w σ T x x') (h : unA op x = some v) : ∃ v', (Op.unary op x').run P w = .ok v' w ∧ Rep w σ T v v' := by
  unfold unA at h
  split at h
  · cases h; cases hx; exact ⟨_, rfl, .int _ _⟩
  · cases h; cases hx; exact ⟨_, rfl, .bool _⟩
  · cases h
theorem conv_sound {s d : TypeId} {x v : AV} {x' : Value} (hx : Rep w σ T x x') (h : convA P s d x = some v) : ∃ v', (convert s d x').run P w = .ok v' w ∧ Rep w σ T v v' := by
  unfold convA at h
  split at h
  · rename_i hu hv; cases h; cases hx; exact ⟨_, by simp [convert, run_underlying hu, run_underlying hv, Conv.intToInt], .int _ _⟩
  · rename_i hu hv; cases h; cases hx; exact ⟨_, by simp [convert, run_underlying hu, run_underlying hv], .str _⟩
  · cases h
end
end Go.Proofs.Ytadjimfkfmojkaa.Am

end
section
namespace Go.Proofs.Ytadjimfkfmojkaa.Am
section
variable {P : Program} {w : World} {σ : Sig} {T : Nat → Prop}

theorem binInt_sound {op : BinOp} {t : TypeId} {k k' : IntKind} {a b : Int} {v : AV} (F : TypeId → Option (List TypeId)) (h : binA P F op t (.int k a) (.int k' b) = some v) :
    ∃ v', (binOp op t (.int k a) (.int k' b)).run P w = .ok v' w ∧ Rep w σ T v v' := by
  by_cases hk : k = k'
  · subst hk
    cases op <;> simp only [binA, ne_eq, not_true_eq_false, if_false, reduceCtorEq, Option.some.injEq] at h
    case shl =>
      split at h
      · rename_i hb; cases h
        exact ⟨_, by simp only [binOp, Op.shift]; rw [if_neg (by omega)]; rfl, .int _ _⟩
      · cases h
    case shr =>
      split at h
      · rename_i hb; cases h
        exact ⟨_, by simp only [binOp, Op.shift]; rw [if_neg (by omega)]; rfl, .int _ _⟩
      · cases h
    case quo =>
      split at h
      · cases h
      · rename_i hb; cases h
        exact ⟨_, by simp only [binOp, Op.intDiv, ne_eq, not_true_eq_false, if_false]; rw [if_neg hb]; rfl, .int _ _⟩
    case rem =>
      split at h
      · cases h
      · rename_i hb; cases h
        exact ⟨_, by simp only [binOp, Op.intDiv, ne_eq, not_true_eq_false, if_false]; rw [if_neg hb]; rfl, .int _ _⟩
    all_goals (subst h; refine ⟨_, by simp only [binOp, ne_eq, not_true_eq_false, if_false]; rfl, ?_⟩; constructor)
  · cases op <;> simp only [binA, ne_eq, hk, not_false_eq_true, if_true, reduceCtorEq] at h
    case shl =>
      split at h
      · rename_i hb; cases h
        exact ⟨_, by simp only [binOp, Op.shift]; rw [if_neg (by omega)]; rfl, .int _ _⟩
      · cases h
    case shr =>
      split at h
      · rename_i hb; cases h
        exact ⟨_, by simp only [binOp, Op.shift]; rw [if_neg (by omega)]; rfl, .int _ _⟩
      · cases h
theorem str_rep {l : List UInt8} {s : ByteArray} (h : s.data.toList = l) : Rep w σ T (.str l) (.string s) := by subst h; exact .str s
theorem binStr_sound {op : BinOp} {t : TypeId} {a b : ByteArray} {v : AV} (F : TypeId → Option (List TypeId)) (h : binA P F op t (.str a.data.toList) (.str b.data.toList) = some v) :
    ∃ v', (binOp op t (.string a) (.string b)).run P w = .ok v' w ∧ Rep w σ T v v' := by
  cases op <;> simp only [binA, reduceCtorEq, Option.some.injEq] at h
  case add =>
    split at h
    · rename_i hl
      cases h
      have hn : ¬ ((a.size + b.size : Nat) : Int) > IntKind.i64.max := by
        have h1 : a.data.toList.length = a.size := Array.length_toList
        have h2 : b.data.toList.length = b.size := Array.length_toList
        rw [h1, h2] at hl
        have : (IntKind.i64.max : Int) = 9223372036854775807 := by decide
        rw [this]; omega
      exact ⟨_, by simp only [binOp, Op.stringOp]; rw [if_neg hn]; rfl, str_rep (by simp)⟩
    · cases h
  case eql => subst h; exact ⟨_, rfl, by rw [bytes_beq]; exact .bool _⟩
  case neq => subst h; exact ⟨_, rfl, by rw [bytes_beq]; exact .bool _⟩
  case lss => subst h; exact ⟨_, rfl, by rw [byteLess_eq, ByteArray.toList_eq, ByteArray.toList_eq]; exact .bool _⟩
theorem eql_run {t : TypeId} {x' y' : Value} {r : Bool} (h : (Op.equalIn 10000 t x' y').run P w = .ok r w)
    (hx : ∀ k n, x' ≠ .int k n) (hs : ∀ s, x' ≠ .string s) (hf : ∀ k n, x' ≠ .float k n) (hc : ∀ k a b, x' ≠ .complex k a b) :
    (binOp .eql t x' y').run P w = .ok (.bool r) w ∧ (binOp .neq t x' y').run P w = .ok (.bool !r) w := by
  constructor
  · cases x' <;> simp_all [binOp, Op.equal, Op.maxDepth]
  · cases x' <;> simp_all [binOp, Op.equal, Op.maxDepth]
theorem eqA_plain {t : TypeId} {x y : AV} {x' : Value} {r : Bool} (h : eqA P t x y = some r) (hx : Rep w σ T x x') (h1 : ∀ k n, x ≠ .int k n) (h2 : ∀ s, x ≠ .str s) :
    (∀ k n, x' ≠ .int k n) ∧ (∀ s, x' ≠ .string s) ∧ (∀ k n, x' ≠ .float k n) ∧ (∀ k a b, x' ≠ .complex k a b) ∧ (∀ cs, x ≠ .agg cs) ∧ x ≠ .junk := by
  have hj : x ≠ .junk ∧ ∀ cs, x ≠ .agg cs := by
    constructor
    · rintro rfl; unfold eqA at h; split at h <;> simp_all
    · rintro cs rfl; unfold eqA at h; split at h <;> simp_all
  cases hx <;> simp_all
theorem eqA_fit {t : TypeId} {x y : AV} {r : Bool} (h : eqA P t x y = some r) (hy : y = .nilp ∨ y = .nils) : (∀ k n, x ≠ .int k n) ∧ (∀ s, x ≠ .str s) := by
  rcases hy with rfl | rfl
  · constructor
    · rintro k n rfl; unfold eqA at h; split at h <;> simp_all
    · rintro s rfl; unfold eqA at h; split at h <;> simp_all
  · constructor
    · rintro k n rfl; unfold eqA at h; split at h <;> simp_all
    · rintro s rfl; unfold eqA at h; split at h <;> simp_all
theorem bin_sound {F : TypeId → Option (List TypeId)} (hF : ∀ t ts, F t = some ts → FlatT P t ts) {op : BinOp} {t : TypeId} {ox oy : Operand} {x y v : AV} {x' y' : Value} (hx : Rep w σ T x x') (hy : Rep w σ T y y')
    (h : binA P F op t x y = some v) : ∃ v', (do eqGuard op t ox oy x' y'; binOp op t x' y' : Sem Value).run P w = .ok v' w ∧ Rep w σ T v v' := by
  have other : (∀ cs, x ≠ .agg cs) → x ≠ .junk → (∃ v', (binOp op t x' y').run P w = .ok v' w ∧ Rep w σ T v v') → ∃ v', (do eqGuard op t ox oy x' y'; binOp op t x' y' : Sem Value).run P w = .ok v' w ∧ Rep w σ T v v' := by
    intro h1 h2 ⟨v', h3, h4⟩
    obtain ⟨h5, h6⟩ := hx.ne_agg h1 h2
    exact ⟨v', by simp only [Sem.run_bind, eqGuard_other h5 h6, Result.andThen_ok, h3], h4⟩
  have eqs : ∀ r, eqA P t x y = some r → (∀ k n, x' ≠ .int k n) → (∀ s, x' ≠ .string s) → (∀ k n, x' ≠ .float k n) → (∀ k a b, x' ≠ .complex k a b) →
      (binOp .eql t x' y').run P w = .ok (.bool r) w ∧ (binOp .neq t x' y').run P w = .ok (.bool !r) w := fun r hr => eql_run (eqA_sound hx hy hr)
  have h0 := h
  unfold binA at h
  split at h
  case h_1 => cases hx; cases hy; exact other (by simp) (by simp) (binInt_sound F h0)
  case h_2 => cases hx; cases hy; exact other (by simp) (by simp) (binInt_sound F h0)
  case h_3 => cases hx; cases hy; exact other (by simp) (by simp) (binInt_sound F h0)
  case h_4 => cases hx; cases hy; exact other (by simp) (by simp) (binStr_sound F h0)
  case h_5 a b =>
    cases hf : F t with
    | none => rw [hf] at h; cases h
    | some ts =>
      rw [hf] at h
      simp only [Option.bind_some] at h
      cases he : eqAs P ts a b with
      | none => rw [he] at h; cases h
      | some r =>
        rw [he] at h
        cases h
        cases hx with
        | agg _ xs hl1 hr1 =>
        cases hy with
        | agg _ ys hl2 hr2 =>
        have fl := hF t ts hf
        have := eqAs_sound (P := P) (w := w) (σ := σ) (T := T) (d := 9998) ⟨hl1, hr1⟩ ⟨hl2, hr2⟩ (P.fieldsOf t).toList 0 r (fun i f hi => by have := fl.fields i f hi; simpa using this) (by rw [fl.types]; simpa using he)
        refine ⟨.bool r, ?_, .bool r⟩
        simp only [Sem.run_bind, run_eqGuard_agg w _ t ox oy _ _ fl.guard, Result.andThen_ok, run_eql_struct]
        rw [run_equalIn_agg w 9999 t _ _ fl.under fl.stood, this]
        rfl
  case h_6 a b =>
    cases hf : F t with
    | none => rw [hf] at h; cases h
    | some ts =>
      rw [hf] at h
      simp only [Option.bind_some] at h
      cases he : eqAs P ts a b with
      | none => rw [he] at h; cases h
      | some r =>
        rw [he] at h
        cases h
        cases hx with
        | agg _ xs hl1 hr1 =>
        cases hy with
        | agg _ ys hl2 hr2 =>
        have fl := hF t ts hf
        have := eqAs_sound (P := P) (w := w) (σ := σ) (T := T) (d := 9998) ⟨hl1, hr1⟩ ⟨hl2, hr2⟩ (P.fieldsOf t).toList 0 r (fun i f hi => by have := fl.fields i f hi; simpa using this) (by rw [fl.types]; simpa using he)
        refine ⟨.bool !r, ?_, .bool !r⟩
        simp only [Sem.run_bind, run_eqGuard_agg w _ t ox oy _ _ fl.guard, Result.andThen_ok, run_neq_struct]
        rw [run_equalIn_agg w 9999 t _ _ fl.under fl.stood, this]
        rfl
  case h_17 => cases h
  all_goals
    cases he : eqA P t _ _ with
    | none => rw [he] at h; cases h
    | some r =>
      rw [he] at h
      cases h
      first
        | (obtain ⟨p1, p2, p3, p4, p5, p6⟩ := eqA_plain he hx (eqA_fit he (.inl rfl)).1 (eqA_fit he (.inl rfl)).2; obtain ⟨e1, e2⟩ := eqs r he p1 p2 p3 p4; first | exact other p5 p6 ⟨_, e1, .bool _⟩ | exact other p5 p6 ⟨_, e2, .bool _⟩)
        | (obtain ⟨p1, p2, p3, p4, p5, p6⟩ := eqA_plain he hx (eqA_fit he (.inr rfl)).1 (eqA_fit he (.inr rfl)).2; obtain ⟨e1, e2⟩ := eqs r he p1 p2 p3 p4; first | exact other p5 p6 ⟨_, e1, .bool _⟩ | exact other p5 p6 ⟨_, e2, .bool _⟩)
        | (obtain ⟨p1, p2, p3, p4, p5, p6⟩ := eqA_plain he hx (by simp) (by simp); obtain ⟨e1, e2⟩ := eqs r he p1 p2 p3 p4; first | exact other p5 p6 ⟨_, e1, .bool _⟩ | exact other p5 p6 ⟨_, e2, .bool _⟩)

theorem sb_sound {a : AV} {v : Value} {n y : Nat} {code : BoundsCode} (hr : Rep w σ T a v) (h : natOf a = some n) (hn : n ≤ y) : (Instr.sliceBound v y code).run P w = .ok n w := by
  obtain ⟨k, i, rfl, h0, rfl⟩ := natOf_sound hr h
  have : 0 ≤ i ∧ i ≤ (y : Int) := by omega
  simp only [Instr.sliceBound, asIntOf, Sem.run_bind, Sem.run_pure, Result.andThen_ok, Sem.run_ite]
  rw [if_pos this]
/-- an operand that may be missing -/
def RepO (w : World) (σ : Sig) (T : Nat → Prop) (x : Option AV) (x' : Option Value) : Prop :=
  match x, x' with
  | none, none => True
  | some a, some v => Rep w σ T a v
  | _, _ => False
theorem bounds_sound {lo hi mx : Option AV} {lo' hi' mx' : Option Value} {n c l h m : Nat} {isS : Bool} (hlo : RepO w σ T lo lo') (hhi : RepO w σ T hi hi') (hmx : RepO w σ T mx mx') (hmh : hi = none → mx = none)
    (h1 : boundA lo 0 = some l) (h2 : boundA hi n = some h) (h3 : boundA mx n = some m) (hc : n ≤ c) (b1 : l ≤ h) (b2 : h ≤ m) (b3 : m ≤ n) :
    ∃ m', (Instr.sliceBounds isS n c lo' hi' mx').run P w = .ok (l, h, m') w ∧ h ≤ m' ∧ m' ≤ c := by
  match mx, mx', hmx with
  | none, none, _ =>
    cases h3
    refine ⟨c, ?_, by omega, Nat.le_refl _⟩
    match hi, hi', hhi with
    | none, none, _ =>
      cases h2
      match lo, lo', hlo with
      | none, none, _ => cases h1; simp [Instr.sliceBounds]
      | some a, some v, hr => simp [Instr.sliceBounds, sb_sound (P := P) hr h1 b1]
    | some a, some v, hr =>
      have e := sb_sound (P := P) (code := if isS = true then .sliceAcap else .sliceAlen) hr h2 (show h ≤ c by omega)
      match lo, lo', hlo with
      | none, none, _ => cases h1; simp [Instr.sliceBounds, e]
      | some a, some v, hr => simp [Instr.sliceBounds, e, sb_sound (P := P) hr h1 b1]
  | some a, some v, hr =>
    have e0 := sb_sound (P := P) (code := if isS = true then .slice3Acap else .slice3Alen) hr h3 (show m ≤ c by omega)
    refine ⟨m, ?_, b2, by omega⟩
    match hi, hi', hhi with
    | none, none, _ => exact absurd (hmh rfl) (by simp)
    | some a, some v, hr =>
      have e := sb_sound (P := P) (code := .slice3B) hr h2 b2
      match lo, lo', hlo with
      | none, none, _ => cases h1; simp [Instr.sliceBounds, e0, e]
      | some a, some v, hr => simp [Instr.sliceBounds, e0, e, sb_sound (P := P) hr h1 b1]
theorem run_sliceAt {t e : TypeId} {A : Option Addr} {n cap l h m sz : Nat} {lo hi mx : Option Value} (hu : P.underlying t = some (.slice e)) (hsz : sizeA P e = some sz)
    (h4 : (Instr.sliceBounds true n cap lo hi mx).run P w = .ok (l, h, m) w) :
    (Instr.sliceAt t (.slice A n cap) lo hi mx).run P w = .ok (.slice (if m = l then A else A.map (·.add (l * sz))) (h - l) (m - l)) w := by
  simp only [Instr.sliceAt, Instr.slice, Sem.run_bind, run_underlying hu, Result.andThen_ok, h4, run_size hsz, Sem.run_pure]
theorem slice_sound {H : Heap} (hW : WRel w σ H) {t : TypeId} {x v : AV} {lo hi mx : Option AV} {x' : Value} {lo' hi' mx' : Option Value} (hx : Rep w σ (Own σ H) x x')
    (hlo : RepO w σ (Own σ H) lo lo') (hhi : RepO w σ (Own σ H) hi hi') (hmx : RepO w σ (Own σ H) mx mx') (hmh : hi = none → mx = none)
    (h : sliceA P (szOf H x) t x lo hi mx = some v) : ∃ v', (Instr.sliceAt t x' lo' hi' mx').run P w = .ok v' w ∧ Rep w σ (Own σ H) v v' := by
  unfold sliceA at h
  split at h
  · rename_i e n hu hlen
    split at h
    · rename_i l hh m h1 h2 h3
      split at h
      · rename_i hb
        obtain ⟨⟨b1, b2, b3⟩, hsome⟩ := hb
        have hes : ∃ sz, sizeA P e = some sz := Option.isSome_iff_exists.1 hsome
        split at h
        · cases h
          cases hx
          cases hlen
          obtain ⟨m', h4, h5, h6⟩ := bounds_sound (P := P) (isS := true) hlo hhi hmx hmh h1 h2 h3 (Nat.le_refl 0) b1 b2 b3
          obtain rfl : m' = 0 := by omega
          obtain rfl : hh = 0 := by omega
          obtain rfl : l = 0 := by omega
          obtain ⟨sz, hsz⟩ : ∃ sz, sizeA P e = some sz := hes
          exact ⟨_, run_sliceAt hu hsz h4, by simpa using Rep.nils⟩
        · rename_i b i k
          cases hlen
          obtain ⟨pl, a, cap, rfl, hs, hn, hm, ha⟩ := hx.sl_inv
          obtain ⟨m', h4, h5, h6⟩ := bounds_sound (P := P) (isS := true) hlo hhi hmx hmh h1 h2 h3 hn b1 b2 b3
          cases hy : H.get b with
          | none => simp [szOf, hy] at h
          | some y =>
            simp only [szOf, hy, Option.map_some, Option.isSome_some, true_and] at h
            split at h
            · rename_i hsz
              cases h
              obtain ⟨pl', cs', e', g1, g2⟩ := hW.live b y hy
              rw [hs] at g1
              cases g1
              by_cases hml : m' = l
              · refine ⟨.slice (some a) (hh - l) (m' - l), by rw [run_sliceAt hu hsz h4, if_pos hml], ?_⟩
                exact .sl b (i + l) (hh - l) pl a (m' - l) hs (by omega) (by omega) (by omega)
              · obtain ⟨rfl, cs, ty, hc, hr⟩ := ha (by omega)
                refine ⟨.slice (some ⟨pl.block, pl.base + i * pl.size + l * y.size, none⟩) (hh - l) (m' - l), by rw [run_sliceAt hu hsz h4, if_neg hml, Option.map_some, addr_add], ?_⟩
                refine .sl b (i + l) (hh - l) pl _ (m' - l) hs (by omega) (by omega) fun _ => ⟨?_, cs, ty, hc, ?_⟩
                · rw [← g2.size, Nat.add_mul, Nat.add_assoc]
                · have : (i + l + (m' - l)) * pl.size ≤ (i + cap) * pl.size := Nat.mul_le_mul_right _ (by omega)
                  omega
            · cases h
        · rename_i rows
          cases hlen
          obtain ⟨A, cap, rfl, hn, hm, ha⟩ := hx.lst_inv
          obtain ⟨m', h4, h5, h6⟩ := bounds_sound (P := P) (isS := true) hlo hhi hmx hmh h1 h2 h3 hn b1 b2 b3
          split at h
          · cases h
            obtain ⟨sz, hsz⟩ : ∃ sz, sizeA P e = some sz := hes
            obtain rfl : hh = 0 := by simp at b3; omega
            obtain rfl : l = 0 := by omega
            exact ⟨_, run_sliceAt hu hsz h4, .lst0 _ _ (by omega)⟩
          · rename_i r rs
            split at h
            · rename_i hsz
              cases h
              obtain ⟨b, o, sz, rfl, hl, hrep⟩ := ha (by simp)
              obtain rfl : r.length = sz := hl.even 0 r rfl
              by_cases hml : m' = l
              · have : hh - l = 0 := by omega
                rw [this, List.take_zero]
                exact ⟨.slice (some ⟨b, o, none⟩) (hh - l) (m' - l), by rw [run_sliceAt hu hsz h4, if_pos hml], by rw [this]; exact .lst0 _ _ (by omega)⟩
              · refine ⟨.slice (some ⟨b, o + l * r.length, none⟩) (hh - l) (m' - l), by rw [run_sliceAt hu hsz h4, if_neg hml, Option.map_some, addr_add], ?_⟩
                by_cases hz : hh - l = 0
                · rw [hz, List.take_zero]; exact .lst0 _ _ (by omega)
                · have hlen : (((r :: rs).drop l).take (hh - l)).length = hh - l := by simp at b3 ⊢; omega
                  have get : ∀ (i : Nat) (q : List AV), (((r :: rs).drop l).take (hh - l))[i]? = some q → i < hh - l ∧ (r :: rs)[l + i]? = some q := fun i q hq => by
                    have hi := lt_of_some hq
                    rw [hlen] at hi
                    rw [List.getElem?_take_of_lt hi, List.getElem?_drop] at hq
                    exact ⟨hi, hq⟩
                  have := Rep.lst (w := w) (σ := σ) (T := Own σ H) (((r :: rs).drop l).take (hh - l)) b (o + l * r.length) r.length (m' - l)
                    ⟨hl.out, fun i q hq => hl.even _ q (get i q hq).2, fun i j hi hj => by
                      rw [hlen] at hi
                      have := hl.cell (l + i) j (by simp at b3 ⊢; omega) hj
                      rwa [Nat.add_mul, ← Nat.add_assoc] at this, hl.pos, by omega⟩ (by omega) (by omega)
                    (fun i q j a u hq hj hu => hrep (l + i) q j a u (get i q hq).2 hj (by rw [Nat.add_mul, ← Nat.add_assoc]; exact hu))
                  rwa [hlen] at this
            · cases h
        · cases h
      · cases h
    · cases h
  · rename_i hu
    split at h
    · split at h
      · rename_i l hh h1 h2
        split at h
        · rename_i hb
          obtain ⟨b1, b2⟩ := hb
          cases h
          cases hx with
          | str ba =>
          have hln : ba.data.toList.length = ba.size := Array.length_toList
          have hmx2 : mx' = none := by
            match mx', hmx with
            | none, _ => rfl
          subst hmx2
          obtain ⟨m', h4, h5, h6⟩ := bounds_sound (P := P) (isS := false) (n := ba.size) (c := ba.size) (m := ba.size) (mx := none) (mx' := none) hlo hhi trivial (fun _ => rfl) h1 (by rw [← hln]; exact h2) rfl (Nat.le_refl _) b1 (by omega) (Nat.le_refl _)
          refine ⟨.string (ba.extract l hh), by simp only [Instr.sliceAt, Instr.slice, Sem.run_bind, run_underlying hu, Result.andThen_ok, h4, Sem.run_pure, Option.isSome_none, Bool.false_eq_true, if_false], str_rep ?_⟩
          rw [Lib.extract_data]
        · cases h
      · cases h
    · cases h
  · cases h
end
end Go.Proofs.Ytadjimfkfmojkaa.Am

end
section
namespace Go.Proofs.Ytadjimfkfmojkaa.Am
section
variable {P : Program} {w : World} {σ : Sig} {T : Nat → Prop}

theorem foldl_set : ∀ (vs : List Value) (k off : Nat) (cs : Array Value), off + k + vs.length ≤ cs.size →
    ((vs.zipIdx k).foldl (fun (cs : Array Value) (p : Value × Nat) => cs.setIfInBounds (off + p.2) p.1) cs).toList = cs.toList.take (off + k) ++ vs ++ cs.toList.drop (off + k + vs.length)
  | [], k, off, cs, _ => by simp
  | v :: vs, k, off, cs, h => by
    simp only [List.length_cons] at h
    rw [List.zipIdx_cons, List.foldl_cons, foldl_set vs (k + 1) off _ (by simp; omega)]
    have e := list_seg_step cs.toList (off + k) v vs (by simp; omega)
    simpa [Array.toList_setIfInBounds, Nat.add_assoc] using e
theorem Reps.splice {cells cs : List AV} {vs us : List Value} {off : Nat} (h : Reps w σ T cells vs) (k : Reps w σ T cs us) (hl : off + cs.length ≤ cells.length) :
    Reps w σ T (rowStore cells off cs) (vs.take off ++ us ++ vs.drop (off + us.length)) := by
  refine ⟨by simp [rowStore, h.1, k.1], fun i a v h1 h2 => ?_⟩
  unfold rowStore at h1
  have e1 := h.1
  have e2 := k.1
  rcases Nat.lt_or_ge i off with hi | hi
  · rw [List.append_assoc, List.getElem?_append_left (by simp; omega), List.getElem?_take_of_lt hi] at h1 h2
    exact h.2 i a v h1 h2
  · rcases Nat.lt_or_ge i (off + cs.length) with hj | hj
    · rw [List.getElem?_append_left (by simp; omega), List.getElem?_append_right (by simp; omega)] at h1 h2
      simp only [List.length_take] at h1 h2
      rw [Nat.min_eq_left (by omega)] at h1 h2
      exact k.2 _ a v h1 h2
    · rw [List.getElem?_append_right (by simp; omega)] at h1 h2
      simp only [List.length_append, List.length_take, List.getElem?_drop] at h1 h2
      rw [Nat.min_eq_left (by omega)] at h1 h2
      rw [← e2] at h2
      exact h.2 _ a v h1 h2
theorem fill_sound {place : Nat → Option (Nat × Nat)} {ρ : Operand → AV} {ρ' : Operand → Value} (hρ : ∀ x, Rep w σ T (ρ x) (ρ' x)) : ∀ (ps : List (Nat × Operand)) (cells r : List AV) (cells' : Array Value),
    Reps w σ T cells cells'.toList → fillA place cells (ps.map fun p => (p.1, ρ p.2)) = some r → ∃ r', Instr.fill place cells' (ps.map fun p => (p.1, ρ' p.2)) = some r' ∧ Reps w σ T r r'.toList
  | [], cells, r, cells', hc, h => by cases h; exact ⟨cells', rfl, hc⟩
  | (i, x) :: ps, cells, r, cells', hc, h => by
    simp only [List.map_cons, fillA] at h
    split at h
    · rename_i off size cs hp hcs
      split at h
      · rename_i hl
        obtain ⟨hl1, hl2, _⟩ := hl
        have hx := (hρ x).cells hcs
        have e1 : (ρ' x).cells.size = size := by rw [← Array.length_toList, ← hx.1, hl1]
        have e2 : cells'.size = cells.length := by rw [← Array.length_toList, ← hc.1]
        have hfold : ((ρ' x).cells.zipIdx.foldl (fun (cs : Array Value) (p : Value × Nat) => cs.setIfInBounds (off + p.2) p.1) cells').toList = cells'.toList.take off ++ (ρ' x).cells.toList ++ cells'.toList.drop (off + (ρ' x).cells.toList.length) := by
          have := foldl_set (ρ' x).cells.toList 0 off cells' (by simp; omega)
          rw [← Array.foldl_toList, Array.toList_zipIdx]
          simpa using this
        obtain ⟨r', h1, h2⟩ := fill_sound hρ ps (rowStore cells off cs) r _ (by rw [hfold]; exact hc.splice hx (by omega)) h
        refine ⟨r', ?_, h2⟩
        have hcond : (decide ((ρ' x).cells.size ≠ size) || decide (off + (ρ' x).cells.size > cells'.size)) = false := by simp [e1, e2]; omega
        simp only [List.map_cons, Instr.fill, hp, hcond, Bool.false_eq_true, if_false]
        exact h1
      · cases h
    · cases h
theorem run_mapMList {α β : Type} (f : α → Sem β) (g : α → β) : ∀ (l : List α), (∀ x ∈ l, (f x).run P w = .ok (g x) w) → (l.mapM f).run P w = .ok (l.map g) w
  | [], _ => by simp
  | x :: l, h => by
    rw [List.mapM_cons]
    simp only [Sem.run_bind, h x (by simp), Result.andThen_ok, run_mapMList f g l (fun y hy => h y (by simp [hy])), Sem.run_pure, List.map_cons]
theorem run_mapMArray {α β : Type} (f : α → Sem β) (g : α → β) (l : Array α) (h : ∀ x ∈ l.toList, (f x).run P w = .ok (g x) w) : (l.mapM f).run P w = .ok (l.toList.map g).toArray w := by
  rw [Array.mapM_eq_mapM_toList]
  simp only [Sem.run_map, run_mapMList f g l.toList h, Result.andThen_ok]

/-- closed facts of a program -/
structure Fit (P : Program) (F : TypeId → Option (List TypeId)) : Prop where
  flat : ∀ t ts, F t = some ts → FlatT P t ts
  names : ∀ (g : Nat) (fn : Func), P.funcs[g]? = some fn → fn.name ≠ "runtime.NumGoroutine"
  order : P.follows .mixedOrders = true

theorem build_sound {t : TypeId} {ps : Array (Nat × Operand)} {v : AV} {ρ : Operand → AV} {ρ' : Operand → Value} (hρ : ∀ x, Rep w σ T (ρ x) (ρ' x)) (h : buildA P t (ps.toList.map fun p => (p.1, ρ p.2)) = some v) :
    ∃ v', (Instr.build t (ps.map fun (i, x) => (i, ρ' x))).run P w = .ok v' w ∧ Rep w σ T v v' := by
  have hps : (ps.map fun (i, x) => (i, ρ' x)).toList = ps.toList.map fun p => (p.1, ρ' p.2) := by simp
  unfold buildA at h
  split at h
  · rename_i fs z hu hz
    split at h
    · rename_i hall
      have hf : ∀ f ∈ fs.toList, ∃ n, sizeA P f.type = some n := fun f hfm => by
        rw [List.all_eq_true] at hall
        exact Option.isSome_iff_exists.1 (hall f hfm)
      obtain ⟨z', hz1, hz2⟩ := zero_sound (P := P) (w := w) (σ := σ) (T := T) hz
      cases hr : fillA (placesA P fs) z (ps.toList.map fun p => (p.1, ρ p.2)) with
      | none => rw [hr] at h; cases h
      | some r =>
        rw [hr] at h
        cases h
        have hcells := hz2.cells (cs := z) rfl
        have hm := run_mapMArray (P := P) (w := w) (fun f : Field => (do pure (f.offset, ← sizeOf f.type) : Sem (Nat × Nat))) (fun f => (f.offset, (sizeA P f.type).getD 0)) fs (fun f hfm => by
          obtain ⟨n, hn⟩ := hf f hfm
          simp [run_size hn, hn])
        have hpl : (fun i => ((fs.toList.map fun f : Field => (f.offset, (sizeA P f.type).getD 0)).toArray)[i]?) = placesA P fs := by
          funext i
          unfold placesA
          rw [List.getElem?_toArray, List.getElem?_map, Array.getElem?_toList]
          cases hfi : fs[i]? with
          | none => rfl
          | some f =>
            obtain ⟨n, hn⟩ := hf f (by rw [Array.mem_toList_iff]; exact Array.mem_of_getElem? hfi)
            simp [hn]
        rw [← hpl] at hr
        obtain ⟨r', h1, h2⟩ := fill_sound hρ ps.toList z r z'.cells hcells hr
        refine ⟨.agg r', ?_, by have := Rep.agg (w := w) (σ := σ) (T := T) r r'.toList h2.1 h2.2; simpa using this⟩
        simp only [Instr.build, Sem.run_bind, hz1, Result.andThen_ok, run_underlying hu, hm, hps, h1, Sem.run_pure]
    · cases h
  · rename_i n e z hu hz
    obtain ⟨z', hz1, hz2⟩ := zero_sound (P := P) (w := w) (σ := σ) (T := T) hz
    cases hn : sizeA P e with
    | none => rw [hn] at h; cases h
    | some sz =>
      rw [hn] at h
      simp only [Option.bind_some] at h
      cases hr : fillA (fun i => some (i * sz, sz)) z (ps.toList.map fun p => (p.1, ρ p.2)) with
      | none => rw [hr] at h; cases h
      | some r =>
        rw [hr] at h
        cases h
        have hcells := hz2.cells (cs := z) rfl
        obtain ⟨r', h1, h2⟩ := fill_sound hρ ps.toList z r z'.cells hcells hr
        refine ⟨.agg r', ?_, by have := Rep.agg (w := w) (σ := σ) (T := T) r r'.toList h2.1 h2.2; simpa using this⟩
        simp only [Instr.build, Sem.run_bind, hz1, Result.andThen_ok, run_underlying hu, run_size hn, hps, h1, Sem.run_pure]
  · cases h
end
end Go.Proofs.Ytadjimfkfmojkaa.Am

end
section
namespace Go.Proofs.Ytadjimfkfmojkaa.Am
/-- an operation has been carried out as the abstract one says; b: the number of the block that it may have made -/
def Done (P : Program) (s : Sem Value) (w : World) (σ : Sig) (H : Heap) (b : Nat) (v : AV) (H' : Heap) : Prop :=
  ∃ v' w' σ', s.run P w = .ok v' w' ∧ Rep w' σ' (Own σ' H') v v' ∧ WRel w' σ' H' ∧ Ext w σ (Own σ H) w' σ' (Own σ' H') ∧ ∀ c pl, σ' c = some pl → σ c = some pl ∨ c = b
section
variable {P : Program} {w : World} {σ : Sig} {T : Nat → Prop} {H : Heap} {b : Nat}

/-- rows of n cells that lie one behind the other in a list -/
structure Flat (w : World) (σ : Sig) (T : Nat → Prop) (rows : List (List AV)) (n : Nat) (l : List Value) : Prop where
  len : l.length = rows.length * n
  even : ∀ (i : Nat) (r : List AV), rows[i]? = some r → r.length = n
  rep : ∀ (i : Nat) (r : List AV) (j : Nat) (a : AV) (u : Value), rows[i]? = some r → r[j]? = some a → l[i * n + j]? = some u → Rep w σ T a u
theorem lt_mul {i j m n : Nat} (hi : i < m) (hj : j < n) : i * n + j < m * n := by
  have : (i + 1) * n ≤ m * n := Nat.mul_le_mul_right _ hi
  rw [Nat.add_mul] at this
  omega
theorem Flat.nil (n : Nat) : Flat w σ T [] n [] := ⟨by simp, by simp, by simp⟩
theorem Flat.append {rows rows' : List (List AV)} {n : Nat} {l l' : List Value} (h : Flat w σ T rows n l) (k : Flat w σ T rows' n l') : Flat w σ T (rows ++ rows') n (l ++ l') := by
  refine ⟨by simp [h.len, k.len, Nat.add_mul], fun i r hr => ?_, fun i r j a u hr ha hu => ?_⟩
  · rcases Nat.lt_or_ge i rows.length with hi | hi
    · rw [List.getElem?_append_left hi] at hr; exact h.even i r hr
    · rw [List.getElem?_append_right hi] at hr; exact k.even _ r hr
  · rcases Nat.lt_or_ge i rows.length with hi | hi
    · rw [List.getElem?_append_left hi] at hr
      have hj : j < n := by rw [← h.even i r hr]; exact lt_of_some ha
      rw [List.getElem?_append_left (by rw [h.len]; exact lt_mul hi hj)] at hu
      exact h.rep i r j a u hr ha hu
    · rw [List.getElem?_append_right hi] at hr
      have hge : l.length ≤ i * n + j := by rw [h.len]; exact Nat.le_trans (Nat.mul_le_mul_right _ hi) (Nat.le_add_right _ _)
      rw [List.getElem?_append_right hge] at hu
      refine k.rep (i - rows.length) r j a u hr ha ?_
      rw [← hu, h.len]
      congr 1
      rw [Nat.sub_mul]
      have : rows.length * n ≤ i * n := Nat.mul_le_mul_right _ hi
      omega
theorem Flat.set {rows : List (List AV)} {n : Nat} {l : List Value} (h : Flat w σ T rows n l) {i : Nat} {cs : List AV} {us : List Value} (hi : i < rows.length) (hc : cs.length = n) (k : Reps w σ T cs us) :
    Flat w σ T (rows.set i cs) n (l.take (i * n) ++ us ++ l.drop (i * n + us.length)) := by
  have hu : us.length = n := by rw [← k.1, hc]
  have hin : i * n + n ≤ l.length := by
    rw [h.len]
    have : (i + 1) * n ≤ rows.length * n := Nat.mul_le_mul_right _ hi
    rw [Nat.add_mul] at this
    omega
  refine ⟨by simp only [List.length_append, List.length_take, List.length_drop, List.length_set]; rw [Nat.min_eq_left (by omega), hu, h.len]; rw [h.len] at hin; omega, fun q r hr => ?_, fun q r j a u hr ha hv => ?_⟩
  · rw [List.getElem?_set] at hr
    split at hr
    · cases hr; exact hc
    · exact h.even q r hr
  · have hj : j < r.length := lt_of_some ha
    rw [List.getElem?_set] at hr
    split at hr
    · rename_i e
      subst e
      cases hr
      rw [List.getElem?_append_left (by simp; omega), List.getElem?_append_right (by simp; omega)] at hv
      simp only [List.length_take] at hv
      rw [Nat.min_eq_left (by omega), Nat.add_sub_cancel_left] at hv
      exact k.2 j a u ha hv
    · rename_i hne
      have hrn := h.even q r hr
      have hq : q < rows.length := lt_of_some hr
      refine h.rep q r j a u hr ha ?_
      rw [← hv]
      rcases Nat.lt_or_gt_of_ne hne with hlt | hlt
      · have : (i + 1) * n ≤ q * n := Nat.mul_le_mul_right _ hlt
        rw [Nat.add_mul] at this
        rw [List.getElem?_append_right (by simp; omega)]
        simp only [List.length_append, List.length_take, List.getElem?_drop]
        rw [Nat.min_eq_left (by omega)]
        congr 1
        omega
      · have : (q + 1) * n ≤ i * n := Nat.mul_le_mul_right _ hlt
        rw [Nat.add_mul] at this
        rw [List.append_assoc, List.getElem?_append_left (by simp; omega), List.getElem?_take_of_lt (by omega)]
theorem Flat.zeros {z : List AV} {zs : Array Value} {n : Nat} (hz : Reps w σ T z zs.toList) (hn : z.length = n) (h0 : 0 < n) (len k : Nat) (hk : len ≤ k) :
    ∃ l : List Value, (Array.range (k * n)).map (zs[· % zs.size]!) = l.toArray ∧ l.length = k * n ∧ Flat w σ T (List.replicate len z) n (l.take (len * n)) ∧ (∀ u ∈ l, ∃ a, Rep w σ T a u ∧ a ∈ z) := by
  have hzs : zs.size = n := by rw [← Array.length_toList, ← hz.1, hn]
  refine ⟨(List.range (k * n)).map (zs[· % zs.size]!), ?_, by simp, ⟨?_, ?_, ?_⟩, ?_⟩
  · apply Array.ext'
    simp
  · simp only [List.length_take, List.length_map, List.length_range, List.length_replicate]
    exact Nat.min_eq_left (Nat.mul_le_mul_right _ hk)
  · intro i r hr
    rw [List.getElem?_replicate] at hr
    split at hr
    · cases hr; exact hn
    · cases hr
  · intro i r j a u hr ha hu
    rw [List.getElem?_replicate] at hr
    split at hr
    · rename_i hi
      cases hr
      have hj : j < n := by rw [← hn]; exact lt_of_some ha
      have hlt := lt_mul hi hj
      have hlt' : i * n + j < k * n := Nat.lt_of_lt_of_le hlt (Nat.mul_le_mul_right _ hk)
      rw [List.getElem?_take_of_lt hlt, List.getElem?_map, List.getElem?_range hlt'] at hu
      simp only [Option.map_some, Option.some.injEq] at hu
      subst hu
      have e : (i * n + j) % zs.size = j := by rw [hzs, Nat.mul_comm, Nat.mul_add_mod, Nat.mod_eq_of_lt hj]
      rw [e]
      refine hz.2 j a _ ha ?_
      rw [getElem!_pos zs j (by omega), Array.getElem?_toList, Array.getElem?_eq_getElem (by omega)]
    · cases hr
  · intro u hu
    rw [List.mem_map] at hu
    obtain ⟨q, _, rfl⟩ := hu
    have hq : q % zs.size < zs.size := Nat.mod_lt _ (by omega)
    rw [getElem!_pos zs _ hq]
    have hq' : q % zs.size < z.length := by omega
    exact ⟨z[q % zs.size], hz.2 (q % zs.size) _ _ (List.getElem?_eq_getElem hq') (by rw [Array.getElem?_toList, Array.getElem?_eq_getElem hq]), List.getElem_mem hq'⟩

theorem new_done (hW : WRel w σ H) (hb : σ b = none) (hlt : b < H.next) {x : Blk} {cs : Array Value} {e : TypeId} {s : Sem Value} {v : AV} {v' : Value} {l : List Value} (hl : l = cs.toList.take (x.rows.length * x.size))
    (hf : Flat w σ (Own σ H) x.rows x.size l) (hs : s.run P w = .ok v' (World.push w (.cells cs e (0, 0))))
    (hv : Rep (World.push w (.cells cs e (0, 0))) (σ.set b ⟨w.heap.size, 0, x.size⟩) (Own (σ.set b ⟨w.heap.size, 0, x.size⟩) (H.new b x)) v v') : Done P s w σ H b v (H.new b x) := by
  have hlen := hf.len
  rw [hl] at hlen
  simp only [List.length_take, Array.length_toList] at hlen
  obtain ⟨h1, h2⟩ := hW.new hb hlt (x := x) (cs := cs) (e := e) hf.even (by omega) (fun i r j a u hr ha hu => hf.rep i r j a u hr ha (by
    have hj : j < x.size := by rw [← hf.even i r hr]; exact lt_of_some ha
    rw [hl, List.getElem?_take_of_lt (lt_mul (lt_of_some hr) hj), Array.getElem?_toList]
    exact hu))
  refine ⟨v', _, _, hs, hv, h1, h2, fun c pl hc => ?_⟩
  by_cases hbc : b = c
  · exact .inr hbc.symm
  · rw [Sig.set_ne _ _ hbc] at hc; exact .inl hc
theorem Flat.one {cs : List AV} {vs : List Value} (h : Reps w σ T cs vs) : Flat w σ T [cs] cs.length vs := by
  refine ⟨by simp [h.1], fun i r hr => ?_, fun i r j a u hr ha hu => ?_⟩
  · match i with
    | 0 => cases hr; rfl
    | i + 1 => simp at hr
  · match i with
    | 0 => cases hr; exact h.2 j a u ha (by simpa using hu)
    | i + 1 => simp at hr
theorem box_done (hW : WRel w σ H) (hb : σ b = none) (hlt : b < H.next) {t : TypeId} {x : AV} {x' : Value} {cs : List AV} (hx : Rep w σ (Own σ H) x x') (hc : x.cells? = some cs) :
    Done P (Instr.box t x') w σ H b (.ptr b 0 0) (H.new b ⟨cs.length, [cs]⟩) := by
  have hr := hx.cells hc
  refine new_done hW hb hlt (cs := x'.cells) (e := t) (v' := .pointer (some ⟨w.heap.size, 0, none⟩)) (l := x'.cells.toList) ?_ (Flat.one hr) rfl ?_
  · have := hr.1
    simp only [List.length_singleton, Nat.one_mul]
    rw [List.take_of_length_le (by omega)]
  · have := Rep.ptr (w := World.push w (.cells x'.cells t (0, 0))) (T := Own (σ.set b ⟨w.heap.size, 0, cs.length⟩) (H.new b ⟨cs.length, [cs]⟩)) b 0 0 _ (Sig.set_eq σ b ⟨w.heap.size, 0, cs.length⟩)
    simpa using this
theorem alloc_done (hW : WRel w σ H) (hb : σ b = none) (hlt : b < H.next) {t : TypeId} {cs : List AV} (hc : (zeroA P t).bind AV.cells? = some cs) :
    Done P (Instr.alloc t true (.tuple #[])) w σ H b (.ptr b 0 0) (H.new b ⟨cs.length, [cs]⟩) := by
  cases hz : zeroA P t with
  | none => rw [hz] at hc; cases hc
  | some z =>
    rw [hz] at hc
    obtain ⟨z', h1, h2⟩ := zero_sound (P := P) (w := w) (σ := σ) (T := Own σ H) hz
    obtain ⟨v', w', σ', h3, h4⟩ := box_done (P := P) (t := t) hW hb hlt h2 hc
    refine ⟨v', w', σ', ?_, h4⟩
    rw [← h3]
    simp only [Instr.alloc, Sem.run_bind, h1, Result.andThen_ok]
    rfl
theorem get_splice {α : Type} (l us : List α) (K p : Nat) (h : K + us.length ≤ l.length) :
    (l.take K ++ us ++ l.drop (K + us.length))[p]? = if p < K then l[p]? else if p < K + us.length then us[p - K]? else l[p]? := by
  rcases Nat.lt_or_ge p K with h1 | h1
  · rw [if_pos h1, List.append_assoc, List.getElem?_append_left (by simp; omega), List.getElem?_take_of_lt h1]
  · rw [if_neg (by omega)]
    rcases Nat.lt_or_ge p (K + us.length) with h2 | h2
    · rw [if_pos h2, List.getElem?_append_left (by simp; omega), List.getElem?_append_right (by simp; omega)]
      simp only [List.length_take]
      rw [Nat.min_eq_left (by omega)]
    · rw [if_neg (by omega), List.getElem?_append_right (by simp; omega)]
      simp only [List.length_append, List.length_take, List.getElem?_drop]
      rw [Nat.min_eq_left (by omega)]
      congr 1
      omega
theorem store_done (hW : WRel w σ H) {t : TypeId} {a x : AV} {a' x' : Value} {H' : Heap} (ha : Rep w σ (Own σ H) a a') (hx : Rep w σ (Own σ H) x x') (h : storeA P H t a x = some H') :
    ∃ w', (Instr.storeAt t a' x').run P w = .ok () w' ∧ WRel w' σ H' ∧ Ext w σ (Own σ H) w' σ (Own σ H') := by
  unfold storeA at h
  split at h
  · rename_i c i off cs n hcs hn
    split at h
    · rename_i y hy
      split at h
      · rename_i r hr
        split at h
        · rename_i hl
          obtain ⟨hl1, hl2, hl3⟩ := hl
          cases h
          cases ha with
          | ptr _ _ _ pl hs =>
          obtain ⟨pl', ds, e, g1, g2⟩ := hW.live c y hy
          rw [hs] at g1
          cases g1
          have hreps := hx.cells hcs
          have hone := hreps.one hl2
          have hi := lt_of_some hr
          have hrl := g2.even i r hr
          have hroom := g2.room
          have hm : (i + 1) * y.size ≤ y.rows.length * y.size := Nat.mul_le_mul_right _ hi
          rw [Nat.add_mul] at hm
          have hst := run_storeCells_at (P := P) pl.block (pl.base + i * pl.size + off) e x'.cells.toList 0 ds w g2.block (by rw [← hreps.1, g2.size]; omega) hone
          simp only [Nat.add_zero] at hst
          have hw : Wrote w (w.setRow pl.block (ds.toList.take (pl.base + i * pl.size + off) ++ x'.cells.toList ++ ds.toList.drop (pl.base + i * pl.size + off + x'.cells.toList.length)).toArray) pl.block ds _ e :=
            ⟨rfl, rfl, rfl, by simp, g2.block, setRow_heap w _ _ _ _ _ g2.block, by
              have := hreps.1
              have hsz := g2.size
              simp only [List.size_toArray, List.length_append, List.length_take, List.length_drop, Array.length_toList]
              rw [hsz, Nat.min_eq_left (by omega)]
              rw [← Array.length_toList (xs := x'.cells)]
              omega, fun d hd => setRow_other w _ d _ hd⟩
          have hput := hW.put hy hs hw (x' := { y with rows := y.rows.set i (rowStore r off cs) }) g2.size.symm ?_ ?_ ?_
          · refine ⟨_, ?_, hput⟩
            have : x'.cells.size = n := by rw [← Array.length_toList, ← hreps.1, hl1]
            simp only [Instr.storeAt, Instr.sureAddr, storeVar, Sem.run_bind, Sem.run_pure, Result.andThen_ok, run_size hn, Sem.run_ite, this, ne_eq, not_true_eq_false, if_false, hst]
          · intro q s hq
            rw [List.getElem?_set] at hq
            split at hq
            · cases hq; simp [rowStore]; omega
            · exact g2.even q s hq
          · simpa using hroom
          · intro q s j a u hq hj hu
            have hsz := g2.size
            have hul : x'.cells.toList.length = cs.length := hreps.1.symm
            have hdl : ds.toList.length = ds.size := Array.length_toList
            rw [List.getElem?_toArray, get_splice ds.toList x'.cells.toList (pl.base + i * pl.size + off) _ (by rw [hul, hsz]; omega), hul, hsz] at hu
            simp only [] at hu
            rw [List.getElem?_set] at hq
            split at hq
            · rename_i hqi
              subst hqi
              cases hq
              have hjr := lt_of_some hj
              have hjl : j < r.length := by simp [rowStore] at hjr; omega
              unfold rowStore at hj
              rw [get_splice _ _ _ _ (by omega)] at hj
              by_cases h1 : j < off
              · rw [if_pos h1] at hj
                rw [if_pos (by omega), Array.getElem?_toList] at hu
                exact g2.rep i r j a u hr hj hu
              · rw [if_neg h1] at hj
                by_cases h2 : j < off + cs.length
                · rw [if_pos h2] at hj
                  rw [if_neg (by omega), if_pos (by omega)] at hu
                  refine hreps.2 (j - off) a u hj ?_
                  rw [← hu]
                  congr 1
                  omega
                · rw [if_neg h2] at hj
                  rw [if_neg (by omega), if_neg (by omega), Array.getElem?_toList] at hu
                  exact g2.rep i r j a u hr hj hu
            · rename_i hqi
              have hjs : j < y.size := by rw [← g2.even q s hq]; exact lt_of_some hj
              refine g2.rep q s j a u hq hj ?_
              rcases Nat.lt_or_gt_of_ne hqi with hlt | hlt
              · have : (i + 1) * y.size ≤ q * y.size := Nat.mul_le_mul_right _ hlt
                rw [Nat.add_mul] at this
                rw [if_neg (by omega), if_neg (by omega), Array.getElem?_toList] at hu
                exact hu
              · have : (q + 1) * y.size ≤ i * y.size := Nat.mul_le_mul_right _ hlt
                rw [Nat.add_mul] at this
                rw [if_pos (by omega), Array.getElem?_toList] at hu
                exact hu
        · cases h
      · cases h
    · cases h
  · cases h
end
end Go.Proofs.Ytadjimfkfmojkaa.Am

end
section
namespace Go.Proofs.Ytadjimfkfmojkaa.Am
section
variable {P : Program} {w : World} {σ : Sig} {T : Nat → Prop} {H : Heap} {b : Nat}

theorem fillRows_sound {n : Nat} {ρ : Operand → AV} {ρ' : Operand → Value} (hρ : ∀ x, Rep w σ T (ρ x) (ρ' x)) : ∀ (ps : List (Nat × Operand)) (rows r : List (List AV)) (cells' : Array Value),
    Flat w σ T rows n cells'.toList → fillRows n rows (ps.map fun p => (p.1, ρ p.2)) = some r →
    ∃ r' : Array Value, Instr.fill (fun i => some (i * n, n)) cells' (ps.map fun p => (p.1, ρ' p.2)) = some r' ∧ Flat w σ T r n r'.toList ∧ r.length = rows.length
  | [], rows, r, cells', hc, h => by cases h; exact ⟨cells', rfl, hc, rfl⟩
  | (i, x) :: ps, rows, r, cells', hc, h => by
    simp only [List.map_cons, fillRows] at h
    split at h
    · rename_i cs hcs
      split at h
      · rename_i hl
        obtain ⟨hl1, hl2, _⟩ := hl
        have hx := (hρ x).cells hcs
        have e1 : (ρ' x).cells.size = n := by rw [← Array.length_toList, ← hx.1, hl1]
        have e2 : cells'.size = rows.length * n := by rw [← Array.length_toList, hc.len]
        have hin : i * n + n ≤ rows.length * n := by
          have : (i + 1) * n ≤ rows.length * n := Nat.mul_le_mul_right _ hl2
          rw [Nat.add_mul] at this
          omega
        have hfold : ((ρ' x).cells.zipIdx.foldl (fun (cs : Array Value) (p : Value × Nat) => cs.setIfInBounds (i * n + p.2) p.1) cells').toList = cells'.toList.take (i * n) ++ (ρ' x).cells.toList ++ cells'.toList.drop (i * n + (ρ' x).cells.toList.length) := by
          have := foldl_set (ρ' x).cells.toList 0 (i * n) cells' (by simp; omega)
          rw [← Array.foldl_toList, Array.toList_zipIdx]
          simpa using this
        obtain ⟨r', h1, h2, h3⟩ := fillRows_sound hρ ps (rows.set i cs) r _ (by rw [hfold]; exact hc.set hl2 hl1 hx) h
        refine ⟨r', ?_, h2, by simpa using h3⟩
        have hcond : (decide ((ρ' x).cells.size ≠ n) || decide (i * n + (ρ' x).cells.size > cells'.size)) = false := by simp [e1, e2]; omega
        simp only [List.map_cons, Instr.fill, hcond, Bool.false_eq_true, if_false]
        exact h1
      · cases h
    · cases h

theorem sl_new {x : Blk} {cs : Array Value} {e : TypeId} {k cap : Nat} (hk : k ≤ cap) (hcap : cap ≤ maxLen) (hs : cap * x.size ≤ cs.size) :
    Rep (World.push w (.cells cs e (0, 0))) (σ.set b ⟨w.heap.size, 0, x.size⟩) (Own (σ.set b ⟨w.heap.size, 0, x.size⟩) (H.new b x)) (.sl b 0 k) (.slice (some ⟨w.heap.size, 0, none⟩) k cap) := by
  refine Rep.sl b 0 k ⟨w.heap.size, 0, x.size⟩ _ cap (Sig.set_eq _ _ _) hk hcap fun _ => ⟨by simp, cs, e, ?_, by simpa using hs⟩
  show (w.heap.push _)[w.heap.size]? = _
  simp
theorem buildSlice_done (hW : WRel w σ H) (hb : σ b = none) (hlt : b < H.next) {t e : TypeId} {len n : Nat} {ps : Array (Nat × Operand)} {ρ : Operand → AV} {ρ' : Operand → Value} (hρ : ∀ x, Rep w σ (Own σ H) (ρ x) (ρ' x))
    {z : List AV} {rows : List (List AV)} (hu : P.underlying t = some (.slice e)) (hn : sizeA P e = some n) (hz : (zeroA P e).bind AV.cells? = some z) (hzn : z.length = n) (h0 : 0 < n) (hl : len * n ≤ 2 ^ 24)
    (h : fillRows n (List.replicate len z) (ps.toList.map fun p => (p.1, ρ p.2)) = some rows) :
    Done P (Instr.buildSlice t len (ps.map fun (i, x) => (i, ρ' x))) w σ H b (.sl b 0 len) (H.new b ⟨n, rows⟩) := by
  have hps : (ps.map fun (i, x) => (i, ρ' x)).toList = ps.toList.map fun p => (p.1, ρ' p.2) := by simp
  cases hza : zeroA P e with
  | none => rw [hza] at hz; cases hz
  | some za =>
    rw [hza] at hz
    simp only [Option.bind_some] at hz
    obtain ⟨z', hz1, hz2⟩ := zero_sound (P := P) (w := w) (σ := σ) (T := Own σ H) hza
    have hzr := hz2.cells hz
    have hlen : len ≤ 2 ^ 24 := Nat.le_trans (Nat.le_mul_of_pos_right len h0) hl
    obtain ⟨l, e1, e2, e3, _⟩ := Flat.zeros hzr hzn h0 len len (Nat.le_refl _)
    have hfl : Flat w σ (Own σ H) (List.replicate len z) n (l.toArray).toList := by
      rw [List.take_of_length_le (by omega)] at e3
      exact e3
    obtain ⟨r', f1, f2, f3⟩ := fillRows_sound hρ ps.toList _ rows l.toArray hfl h
    have hr' : r'.size = len * n := by rw [← Array.length_toList, f2.len, f3]; simp
    have hrl : rows.length = len := by simpa using f3
    refine new_done hW hb hlt (cs := r') (e := e) (v' := .slice (some ⟨w.heap.size, 0, none⟩) len len) (l := r'.toList) ?_ f2 ?_ ?_
    · simp only []
      rw [List.take_of_length_le (by rw [Array.length_toList, hr', hrl]; exact Nat.le_refl _)]
    · have hgt : ¬ len * n > 2 ^ 24 := by omega
      simp only [Instr.buildSlice, Sem.run_bind, run_underlying hu, Result.andThen_ok, run_size hn]
      rw [if_neg hgt]
      by_cases hz0 : len * n = 0
      · have hl0 : len = 0 := by
          rcases Nat.mul_eq_zero.1 hz0 with h1 | h1
          · exact h1
          · omega
        subst hl0
        rw [if_pos hz0]
        have : l = [] := by cases l with
          | nil => rfl
          | cons a l => simp at e2
        subst this
        simp only [Sem.run_bind, Sem.run_pure, Result.andThen_ok, hz0, hps]
        have he : (Array.range 0).map (fun x => (#[] : Array Value)[x % (#[] : Array Value).size]!) = ([] : List Value).toArray := by simp
        rw [he, f1]
        rfl
      · rw [if_neg hz0]
        simp only [Sem.run_bind, hz1, Sem.run_pure, Result.andThen_ok, hps]
        rw [e1, f1]
        rfl
    · exact sl_new (x := ⟨n, rows⟩) (Nat.le_refl _) (by unfold maxLen; omega) (by rw [hr']; exact Nat.le_refl _)
theorem makeSlice_done (hW : WRel w σ H) (hb : σ b = none) (hlt : b < H.next) {t e : TypeId} {n by_ l c : Nat} {x y : AV} {x' y' : Value} (hx : Rep w σ (Own σ H) x x') (hy : Rep w σ (Own σ H) y y')
    {z : List AV} (hu : P.underlying t = some (.slice e)) (hn : sizeA P e = some n) (hby : bytesA P e = some by_) (hz : (zeroA P e).bind AV.cells? = some z) (hl : natOf x = some l) (hc : natOf y = some c)
    (hzn : z.length = n) (h0 : 0 < n) (hlc : l ≤ c) (hcm : c ≤ 2 ^ 62) (hcb : c * by_ ≤ 2 ^ 48) :
    Done P (Instr.makeSlice t x' y') w σ H b (.sl b 0 l) (H.new b ⟨n, List.replicate l z⟩) := by
  obtain ⟨kl, li, rfl, hl0, rfl⟩ := natOf_sound hx hl
  obtain ⟨kc, ci, rfl, hc0, rfl⟩ := natOf_sound hy hc
  cases hza : zeroA P e with
  | none => rw [hza] at hz; cases hz
  | some za =>
    rw [hza] at hz
    simp only [Option.bind_some] at hz
    cases hi : P.info? e with
    | none => simp [bytesA, hi] at hby
    | some i =>
    have hib : i.bytes = by_ := by simpa [bytesA, hi] using hby
    obtain ⟨z', hz1, hz2⟩ := zero_sound (P := P) (w := w) (σ := σ) (T := Own σ H) hza
    have hzr := hz2.cells hz
    obtain ⟨l, e1, e2, e3, _⟩ := Flat.zeros hzr hzn h0 li.toNat ci.toNat hlc
    have wl : IntKind.i64.wrap li = li := IntWalk.i64_in _ (by omega)
    have wc : IntKind.i64.wrap ci = ci := IntWalk.i64_in _ (by omega)
    have hbig : ((decide (ci < 0) || decide ((i.bytes : Int) * ci > 2 ^ 48)) || decide (li < 0) || decide (li > ci)) = false := by
      rw [hib]
      have : ((by_ : Int) * ci) = ((ci.toNat * by_ : Nat) : Int) := by rw [Int.natCast_mul, Int.toNat_of_nonneg hc0, Int.mul_comm]
      have h2 : ((ci.toNat * by_ : Nat) : Int) ≤ 2 ^ 48 := by exact_mod_cast hcb
      simp only [Bool.or_eq_false_iff, decide_eq_false_iff_not]
      refine ⟨⟨⟨by omega, by rw [this]; omega⟩, by omega⟩, by omega⟩
    refine new_done hW hb hlt (x := ⟨n, List.replicate li.toNat z⟩) (cs := l.toArray) (e := e) (v' := .slice (some ⟨w.heap.size, 0, none⟩) li.toNat ci.toNat) (l := l.take (li.toNat * n)) ?_ e3 ?_ ?_
    · simp
    · simp only [Instr.makeSlice, asInt, asIntOf, Sem.run_bind, run_underlying hu, Sem.run_pure, Result.andThen_ok, run_info hi, wl, wc, hbig, Bool.false_eq_true, if_false, run_askRoom, run_size hn]
      by_cases hz0 : ci.toNat * n = 0
      · rw [if_pos hz0]
        have hnil : l = [] := by cases l with
          | nil => rfl
          | cons a l => simp at e2; omega
        subst hnil
        simp only [Sem.run_bind, Sem.run_pure, Result.andThen_ok, hz0]
        have he : (Array.range 0).map (fun x => (#[] : Array Value)[x % (#[] : Array Value).size]!) = ([] : List Value).toArray := by simp
        rw [he]
        rfl
      · rw [if_neg hz0]
        simp only [Sem.run_bind, hz1, Sem.run_pure, Result.andThen_ok]
        rw [e1]
        rfl
    · exact sl_new (x := ⟨n, List.replicate li.toNat z⟩) hlc (by unfold maxLen; omega) (by simp [e2])

theorem cells_flat {m : List (List AV)} {n c o : Nat} (he : ∀ (i : Nat) (r : List AV), m[i]? = some r → r.length = n) (hc : ∀ (i : Nat) (r : List AV), m[i]? = some r → RowAt w σ T r c (o + i * n)) :
    ∃ l : List Value, (∀ w2 : World, w2.heap = w.heap → (loadCells ⟨c, o, none⟩ (m.length * n)).run P w2 = .ok l.toArray w2) ∧ Flat w σ T m n l := by
  have key : ∀ p, ∃ u, p < m.length * n → w.cell? ⟨c, o + p, none⟩ = some u := fun p => by
    by_cases hp : p < m.length * n
    · have hn : 0 < n := by
        rcases Nat.eq_zero_or_pos n with h0 | h0
        · subst h0; simp at hp
        · exact h0
      have hi : p / n < m.length := by rw [Nat.div_lt_iff_lt_mul hn]; exact hp
      have hr : m[p / n]? = some m[p / n] := List.getElem?_eq_getElem hi
      have hj : p % n < m[p / n].length := by rw [he _ _ hr]; exact Nat.mod_lt _ hn
      obtain ⟨u, h1, _⟩ := hc _ _ hr (p % n) _ (List.getElem?_eq_getElem hj)
      refine ⟨u, fun _ => ?_⟩
      rw [Nat.add_assoc, Nat.mul_comm, Nat.div_add_mod] at h1
      exact h1
    · exact ⟨undef, fun h => absurd h hp⟩
  let f := fun p => Classical.choose (key p)
  have hf : ∀ p, p < m.length * n → w.cell? ⟨c, o + p, none⟩ = some (f p) := fun p => Classical.choose_spec (key p)
  refine ⟨(List.range (m.length * n)).map f, fun w2 hw2 => run_loadCells w2 _ _ f (fun j hj => by rw [addr_add]; rw [← hf j hj]; unfold World.cell?; rw [hw2]), ⟨by simp, he, ?_⟩⟩
  intro i r j a u hr ha hu
  have hj : j < n := by rw [← he i r hr]; exact lt_of_some ha
  have hp := lt_mul (lt_of_some hr) hj
  rw [List.getElem?_map, List.getElem?_range hp] at hu
  cases hu
  obtain ⟨u, h1, h2⟩ := hc i r hr j a ha
  rw [Nat.add_assoc, hf _ hp] at h1
  cases h1
  exact h2
theorem rows_flat (hW : WRel w σ H) {n : Nat} {x : AV} {x' : Value} {m : List (List AV)} (hx : Rep w σ (Own σ H) x x') (h : rowsOf H n x = some m) :
    ∃ (A : Option Addr) (cap : Nat) (l : List Value), x' = .slice A m.length cap ∧ (∀ w2 : World, w2.heap = w.heap → (Builtin.firstCells n m.length x').run P w2 = .ok l.toArray w2) ∧ Flat w σ (Own σ H) m n l := by
  unfold rowsOf at h
  split at h
  · cases h; cases hx; exact ⟨none, 0, [], rfl, fun _ _ => rfl, Flat.nil n⟩
  · cases h
    cases hx with
    | emp A => exact ⟨A, 0, [], rfl, fun w2 _ => by cases A <;> simp [Builtin.firstCells, loadCells, loadCellsFrom], Flat.nil n⟩
  · rename_i rows
    split at h
    · cases h
      obtain ⟨A, cap, rfl, _, _, _⟩ := hx.lst_inv
      refine ⟨A, cap, [], rfl, ?_, Flat.nil n⟩
      intro w2 _
      cases A <;> simp [Builtin.firstCells, loadCells, loadCellsFrom]
    · rename_i r rs
      split at h
      · rename_i hr
        cases h
        obtain ⟨A, cap, rfl, hn, hm, ha⟩ := hx.lst_inv
        obtain ⟨b, o, sz, rfl, hl, hrep⟩ := ha (by simp)
        obtain rfl : r.length = sz := hl.even 0 r rfl
        subst hr
        obtain ⟨l, h1, h2⟩ := cells_flat (P := P) (o := o) (c := b) hl.even (fun i q hq => hl.row hrep hq)
        exact ⟨_, cap, l, rfl, fun w2 hw2 => by simp only [Builtin.firstCells]; exact h1 w2 hw2, h2⟩
      · cases h
  · rename_i b' i k
    split at h
    · rename_i y hy
      split at h
      · rename_i hcond
        obtain ⟨hsz, hik⟩ := hcond
        cases h
        obtain ⟨pl, a, cap, rfl, hs, hn, hm, ha⟩ := hx.sl_inv
        obtain ⟨pl', cs', e', g1, g2⟩ := hW.live b' y hy
        rw [hs] at g1
        cases g1
        have hlen : ((y.rows.drop i).take k).length = k := by simp; omega
        rw [hlen]
        have get : ∀ (q : Nat) (r : List AV), ((y.rows.drop i).take k)[q]? = some r → y.rows[i + q]? = some r := fun q r hq => by
          have hi := lt_of_some hq
          rw [hlen] at hi
          rwa [List.getElem?_take_of_lt hi, List.getElem?_drop] at hq
        rcases Nat.eq_zero_or_pos k with hk | hk
        · subst hk
          exact ⟨_, cap, [], rfl, fun w2 _ => by simp [Builtin.firstCells, loadCells, loadCellsFrom], by simpa using Flat.nil n⟩
        · obtain ⟨rfl, cs, ty, hc, hr⟩ := ha (by omega)
          obtain ⟨l, h1, h2⟩ := cells_flat (P := P) (w := w) (σ := σ) (T := Own σ H) (m := (y.rows.drop i).take k) (n := n) (c := pl.block) (o := pl.base + i * pl.size) (fun q r hq => by rw [← hsz]; exact g2.even _ r (get q r hq)) (fun q r hq => by
            have := g2.row (get q r hq)
            rw [Nat.add_mul, ← Nat.add_assoc] at this
            rwa [g2.size, hsz] at this ⊢)
          rw [hlen] at h1
          exact ⟨_, cap, l, rfl, fun w2 hw2 => by simp only [Builtin.firstCells]; exact h1 w2 hw2, h2⟩
      · cases h
    · cases h
  · cases h

theorem Flat.ones {rows : List (List AV)} {n : Nat} {l : List Value} (h : Flat w σ T rows n l) (ho : (rows.all fun r => r.all AV.one) = true) : ∀ u ∈ l, u.oneCell' = true := by
  intro u hu
  obtain ⟨p, hp, rfl⟩ := List.getElem_of_mem hu
  have hlen := h.len
  have hn : 0 < n := by
    rcases Nat.eq_zero_or_pos n with h0 | h0
    · subst h0; rw [Nat.mul_zero] at hlen; omega
    · exact h0
  have hi : p / n < rows.length := by rw [Nat.div_lt_iff_lt_mul hn]; omega
  have hr : rows[p / n]? = some rows[p / n] := List.getElem?_eq_getElem hi
  have hj : p % n < rows[p / n].length := by rw [h.even _ _ hr]; exact Nat.mod_lt _ hn
  have hrep := h.rep (p / n) _ (p % n) _ l[p] hr (List.getElem?_eq_getElem hj) (by rw [Nat.mul_comm, Nat.div_add_mod]; exact List.getElem?_eq_getElem hp)
  refine hrep.one ?_
  rw [List.all_eq_true] at ho
  have := ho _ (List.getElem_mem hi)
  rw [List.all_eq_true] at this
  exact this _ (List.getElem_mem hj)
theorem run_append_fit {t tx ty e e' : TypeId} {n sLen sCap k capx : Nat} {A B : Option Addr} {news : List Value} (ht : P.underlying t = some (.slice e)) (htx : P.underlying tx = some (.slice e')) (hn : sizeA P e = some n)
    (hroom : sLen + k ≤ sCap) (hc : (Builtin.firstCells n k (.slice B k capx)).run P w = .ok news.toArray w) {w' : World} (hst : (match A with | some a => storeCells (a.add (sLen * n)) news | none => Pure.pure ()).run P w = .ok () w') :
    (Builtin.append_ #[t, tx] ty #[.slice A sLen sCap, .slice B k capx]).run P w = .ok (.slice A (sLen + k) sCap) w' := by
  cases A with
  | none =>
    simp only [Sem.run_pure] at hst
    cases hst
    simp [Builtin.append_, run_underlying ht, run_underlying htx, run_size hn, Builtin.lenOf, hroom, hc]
  | some a =>
    simp only [] at hst
    simp [Builtin.append_, run_underlying ht, run_underlying htx, run_size hn, Builtin.lenOf, hroom, hc, hst]
theorem append_done (hW : WRel w σ H) (hb : σ b = none) (hlt : b < H.next) {t tx ty e' : TypeId} {s x v : AV} {s' x' : Value} {H' : Heap} (hx : Rep w σ (Own σ H) x x') (hs : Rep w σ (Own σ H) s s')
    (htx : P.underlying tx = some (.slice e')) (h : appendA P H b t s x = some (v, H')) : Done P (Builtin.append_ #[t, tx] ty #[s', x']) w σ H b v H' := by
  unfold appendA at h
  split at h
  · rename_i e hu
    split at h
    · rename_i n by_ z hn hby hz
      split at h
      · rename_i l m hl hm
        split at h
        · rename_i hc
          obtain ⟨c1, c2, h0, hzn, hone⟩ := hc
          cases hi : P.info? e with
          | none => simp [bytesA, hi] at hby
          | some i =>
          have hib : i.bytes = by_ := by simpa [bytesA, hi] using hby
          have hin : i.size = n := by simpa [sizeA, hi] using hn
          cases hza : zeroA P e with
          | none => rw [hza] at hz; cases hz
          | some za =>
          rw [hza] at hz
          simp only [Option.bind_some] at hz
          obtain ⟨z', hz1, hz2⟩ := zero_sound (P := P) (w := w) (σ := σ) (T := Own σ H) hza
          have hiz : i.zero = some z' := by
            simp only [zeroValue, Sem.run_bind, run_info hi, Result.andThen_ok] at hz1
            split at hz1
            · rename_i q hq; cases hz1; exact hq
            · cases hz1
          have hzr := hz2.cells hz
          obtain ⟨A, cap, olds, rfl, ho1, ho2⟩ := rows_flat (P := P) hW hs hl
          obtain ⟨B, capx, news, rfl, hn1, hn2⟩ := rows_flat (P := P) hW hx hm
          have grow : ∀ {K : Heap}, (hWK : WRel w σ K) → (hext : Ext w σ (Own σ H) w σ (Own σ K)) → b < K.next → cap < l.length + m.length →
              Done P (Builtin.append_ #[t, tx] ty #[.slice A l.length cap, .slice B m.length capx]) w σ H b (.sl b 0 (l.length + m.length)) (K.new b ⟨n, l ++ m⟩) := by
            intro K hWK hext hltK hcap
            have hrun := run_append_grow_src (P := P) w t tx ty e i z' hu hi hiz A l.length cap olds (by rw [hin]; exact ho1 _ rfl) (.slice B m.length capx) m.length news
              ⟨.inl ⟨e', htx⟩, fun _ => rfl, by rw [hin]; exact hn1 w rfl, by rw [hin]; exact hn1 _ rfl, by rw [hin]; exact hn2.len, hn2.ones hone⟩ hcap (by omega)
              (by rw [hib]; have := Nat.mul_le_mul_right by_ (nextslicecap_le hcap); omega)
            generalize hgc : grownCap w (l.length + m.length) cap e = gc at hrun
            have hgc1 : l.length + m.length ≤ gc ∧ gc ≤ maxLen := by
              rw [← hgc]
              have hcut : grownCap w (l.length + m.length) cap e = (l.length + m.length) + w.tape w.drawn (.appendCap (l.length + m.length) cap e) % (2 ^ 63 - (l.length + m.length)) := rfl
              rw [hcut]
              unfold maxLen
              have : w.tape w.drawn (.appendCap (l.length + m.length) cap e) % (2 ^ 63 - (l.length + m.length)) < 2 ^ 63 - (l.length + m.length) := Nat.mod_lt _ (by omega)
              omega
            have hE : Ext w σ (Own σ H) w.drew σ (Own σ K) := hext.trans (Ext.same σ _ rfl rfl rfl rfl)
            have hzs : z'.cells.size = n := by rw [← Array.length_toList, ← hzr.1, hzn]
            have hfl : Flat w σ (Own σ H) (l ++ m) n (olds ++ news) := ho2.append hn2
            generalize hcs : ((olds ++ news).toArray ++ Builtin.zeroCells z'.cells (gc - (l.length + m.length)) : Array Value) = cs at hrun
            have hcl : cs.size = gc * n := by
              rw [← hcs]
              have h1 := hfl.len
              simp only [List.length_append] at h1
              simp only [Array.size_append, List.size_toArray, List.length_append, h1, Builtin.zeroCells, Array.size_map, Array.size_range, hzs]
              rw [← Nat.add_mul]
              congr 1
              omega
            have hcget : ∀ p u, p < (l ++ m).length * n → cs[p]? = some u → (olds ++ news)[p]? = some u := fun p u hp hu => by
              rw [← hcs, Array.getElem?_append_left (by simp only [List.size_toArray]; rw [hfl.len]; exact hp)] at hu
              simpa using hu
            obtain ⟨g1, g2⟩ := (hWK.same (w' := w.drew) rfl rfl rfl rfl).new hb hltK (x := ⟨n, l ++ m⟩) (cs := cs) (e := e) hfl.even (by rw [hcl]; simp only [List.length_append]; exact Nat.mul_le_mul_right _ hgc1.1) (fun i r j a u hr ha hu => by
              have hj : j < n := by rw [← hfl.even i r hr]; exact lt_of_some ha
              exact (hfl.rep i r j a u hr ha (hcget _ u (lt_mul (lt_of_some hr) hj) hu)).mono hE)
            refine ⟨_, _, _, hrun, ?_, g1, hE.trans g2, fun c pl hc => ?_⟩
            · exact sl_new (w := w.drew) (x := ⟨n, l ++ m⟩) hgc1.1 hgc1.2 (by rw [hcl]; exact Nat.le_refl _)
            · by_cases hbc : b = c
              · exact .inr hbc.symm
              · rw [Sig.set_ne _ _ hbc] at hc; exact .inl hc
          split at h
          · -- onto nil
            cases hl
            simp only [List.length_nil] at hs
            cases hs
            split at h
            · rename_i hm0
              cases h
              refine ⟨.slice none 0 0, w, σ, ?_, .nils, hW, Ext.refl _ _ _, fun c pl hc => .inl hc⟩
              have := run_append_fit (P := P) (ty := ty) (A := none) (sLen := 0) (sCap := 0) (k := m.length) hu htx hn (by omega) (hn1 w rfl) (w' := w) rfl
              rw [hm0] at this
              simpa [hm0] using this
            · rename_i hm0
              cases h
              have := grow hW (Ext.refl _ _ _) hlt (by simp; omega)
              simpa using this
          · -- onto an empty one
            cases hl
            simp only [List.length_nil] at hs
            cases hs
            split at h
            · rename_i hm0
              cases h
              refine ⟨.slice A 0 0, w, σ, ?_, .emp A, hW, Ext.refl _ _ _, fun c pl hc => .inl hc⟩
              have hm' : m = [] := by cases m with
                | nil => rfl
                | cons x m => simp at hm0
              have hnews : news = [] := by have := hn2.len; rw [hm'] at this; simpa using this
              have := run_append_fit (P := P) (ty := ty) (A := A) (sLen := 0) (sCap := 0) (k := m.length) hu htx hn (by omega) (hn1 w rfl) (w' := w) (by rw [hnews]; cases A <;> rfl)
              rw [hm0] at this
              simpa [hm0] using this
            · rename_i hm0
              cases h
              have := grow hW (Ext.refl _ _ _) hlt (by simp; omega)
              simpa using this
          · rename_i b' i k
            cases h
            obtain ⟨pl, a, cap', heq, hsig, hk, hcm, ha⟩ := hs.sl_inv
            simp only [Value.slice.injEq] at heq
            obtain ⟨rfl, hkl, rfl⟩ := heq
            simp only [rowsOf] at hl
            split at hl
            · rename_i y hy
              split at hl
              · rename_i hcond
                obtain ⟨hyn, hik⟩ := hcond
                cases hl
                have hlen : ((y.rows.drop i).take k).length = k := by simp; omega
                obtain ⟨pl', ds, e0, q1, q2⟩ := hW.live b' y hy
                rw [hsig] at q1
                cases q1
                have hps : pl.size = n := q2.size.trans hyn
                have hget : ∀ (q : Nat) (r : List AV), ((y.rows.drop i).take k)[q]? = some r → q < k ∧ y.rows[i + q]? = some r := fun q r hq => by
                  have hi := lt_of_some hq
                  rw [hlen] at hi
                  rw [List.getElem?_take_of_lt hi, List.getElem?_drop] at hq
                  exact ⟨hi, hq⟩
                have hfl : Flat w σ (Own σ H) ((y.rows.drop i).take k ++ m) n (olds ++ news) := ho2.append hn2
                by_cases hroom : ((y.rows.drop i).take k).length + m.length ≤ cap
                · -- there is room
                  by_cases hc0 : cap = 0
                  · subst hc0
                    have hm0 : m.length = 0 := by omega
                    have hk0 : k = 0 := by omega
                    have hlk : ((y.rows.drop i).take k) = [] := by rw [hk0]; simp
                    have hm' : m = [] := by cases m with
                      | nil => rfl
                      | cons x m => simp at hm0
                    have hnews : news = [] := by have := hn2.len; rw [hm'] at this; simpa using this
                    have hrun := run_append_fit (P := P) (ty := ty) (A := some a) hu htx hn hroom (hn1 w rfl) (w' := w) (by rw [hnews]; rfl)
                    obtain ⟨o1, o2⟩ := hW.over (k := 0) hy hsig hb hlt (Wrote.refl q2.block) (x' := ⟨n, (y.rows.drop i).take k ++ m⟩) hps.symm hfl.even (by rw [hlk, hm']; have := q2.room; simp; omega) (by rw [hlk, hm']; intro i r j a u hr; simp at hr)
                    refine ⟨_, _, _, hrun, ?_, o1, o2, fun c pl hc => ?_⟩
                    · exact Rep.sl b 0 _ _ a 0 (Sig.set_eq _ _ _) hroom (by omega) (by omega)
                    · by_cases hbc : b = c
                      · exact .inr hbc.symm
                      · rw [Sig.set_ne _ _ hbc] at hc; exact .inl hc
                  · obtain ⟨rfl, cs, ty', hcb, hcr⟩ := ha (by omega)
                    rw [q2.block] at hcb
                    cases hcb
                    have hnl : news.length = m.length * n := hn2.len
                    have hcap : (k + m.length) * n ≤ cap * n := Nat.mul_le_mul_right _ (by omega)
                    have hbound : pl.base + i * pl.size + k * n + news.length ≤ ds.size := by
                      rw [hnl, hps]
                      rw [hps, Nat.add_mul] at hcr
                      rw [Nat.add_mul] at hcap
                      omega
                    have hst := run_storeCells_at (P := P) pl.block (pl.base + i * pl.size + k * n) e0 news 0 ds w q2.block (by simpa using hbound) (hn2.ones hone)
                    simp only [Nat.add_zero] at hst
                    have hw : Wrote w (w.setRow pl.block (ds.toList.take (pl.base + i * pl.size + k * n) ++ news ++ ds.toList.drop (pl.base + i * pl.size + k * n + news.length)).toArray) pl.block ds _ e0 :=
                      ⟨rfl, rfl, rfl, by simp, q2.block, setRow_heap w _ _ _ _ _ q2.block, by
                        simp only [List.size_toArray, List.length_append, List.length_take, List.length_drop, Array.length_toList]
                        rw [Nat.min_eq_left (by omega)]
                        omega, fun d hd => setRow_other w _ d _ hd⟩
                    have hrun := run_append_fit (P := P) (ty := ty) (A := some ⟨pl.block, pl.base + i * pl.size, none⟩) hu htx hn hroom (hn1 w rfl) (by simp only [addr_add]; rw [hlen]; exact hst)
                    have hdl : ds.toList.length = ds.size := Array.length_toList
                    obtain ⟨o1, o2⟩ := hW.over (k := i) hy hsig hb hlt hw (x' := ⟨n, (y.rows.drop i).take k ++ m⟩) hps.symm hfl.even (by
                      simp only [List.length_append, hlen]
                      rw [Nat.add_mul]
                      omega) (fun q r j a u hr hj hu => by
                      simp only [] at hr hu
                      have hjn : j < n := by rw [← hfl.even q r hr]; exact lt_of_some hj
                      rw [List.getElem?_toArray, get_splice ds.toList news _ _ (by omega)] at hu
                      rcases Nat.lt_or_ge q k with hq | hq
                      · rw [List.getElem?_append_left (by omega)] at hr
                        have := lt_mul hq hjn
                        rw [if_pos (by omega), Array.getElem?_toList] at hu
                        refine q2.rep (i + q) r j a u (hget q r hr).2 hj ?_
                        rw [hyn, ← hu, hps]
                        congr 1
                        rw [Nat.add_mul]
                        omega
                      · rw [List.getElem?_append_right (by omega), hlen] at hr
                        have hqm : q - k < m.length := lt_of_some hr
                        have h1 := lt_mul hqm hjn
                        have h2 : (q - k) * n + k * n = q * n := by rw [← Nat.add_mul, Nat.sub_add_cancel hq]
                        rw [if_neg (by omega), if_pos (by omega)] at hu
                        refine hn2.rep (q - k) r j a u hr hj ?_
                        rw [← hu]
                        congr 1
                        omega)
                    refine ⟨_, _, _, hrun, ?_, o1, o2, fun c pl hc => ?_⟩
                    · refine Rep.sl b 0 _ _ _ cap (Sig.set_eq _ _ _) hroom hcm fun _ => ⟨by simp, _, e0, hw.new, ?_⟩
                      rw [hw.len]
                      simp only [Nat.zero_add]
                      rw [Nat.add_mul] at hcr
                      omega
                    · by_cases hbc : b = c
                      · exact .inr hbc.symm
                      · rw [Sig.set_ne _ _ hbc] at hc; exact .inl hc
                · -- a new block
                  have hsub : ∀ c x, (H.put b' none).get c = some x → H.get c = some x := fun c x hx => by
                    rw [Heap.get_put] at hx
                    split at hx
                    · cases hx
                    · exact hx
                  exact grow (hW.sub hsub (Nat.le_refl _)) (Ext.sub hsub) hlt (by omega)
              · cases hl
            · cases hl
          · cases h
        · cases h
      · cases h
    · cases h
  · cases h
theorem Flat.sub {rows : List (List AV)} {n : Nat} {l : List Value} (h : Flat w σ T rows n l) : ∀ (i : Nat) (r : List AV) (j : Nat) (a : AV) (u : Value), rows[i]? = some r → r[j]? = some a → l[i * n + j]? = some u → Rep w σ T a u := h.rep
/-- rows of a block are written anew -/
theorem splice_done (hW : WRel w σ H) {c : Nat} {y : Blk} {pl : Place} (hy : H.get c = some y) (hs : σ c = some pl) {i : Nat} {rows : List (List AV)} {us : List Value} (hf : Flat w σ (Own σ H) rows y.size us) (hin : i + rows.length ≤ y.rows.length) (hone : ∀ u ∈ us, u.oneCell' = true) :
    ∃ w', (storeCells ⟨pl.block, pl.base + i * pl.size, none⟩ us).run P w = .ok () w' ∧ WRel w' σ (H.put c (some { y with rows := y.rows.take i ++ rows ++ y.rows.drop (i + rows.length) })) ∧ Ext w σ (Own σ H) w' σ (Own σ (H.put c (some { y with rows := y.rows.take i ++ rows ++ y.rows.drop (i + rows.length) }))) := by
  obtain ⟨pl', ds, e, g1, g2⟩ := hW.live c y hy
  rw [hs] at g1
  cases g1
  have hsz := g2.size
  have hroom := g2.room
  have hm : (i + rows.length) * y.size ≤ y.rows.length * y.size := Nat.mul_le_mul_right _ hin
  have hul : us.length = rows.length * y.size := hf.len
  rw [Nat.add_mul] at hm
  have hdl : ds.toList.length = ds.size := Array.length_toList
  have hst := run_storeCells_at (P := P) pl.block (pl.base + i * pl.size) e us 0 ds w g2.block (by rw [hul, hsz]; omega) hone
  simp only [Nat.add_zero] at hst
  have hw : Wrote w (w.setRow pl.block (ds.toList.take (pl.base + i * pl.size) ++ us ++ ds.toList.drop (pl.base + i * pl.size + us.length)).toArray) pl.block ds _ e :=
    ⟨rfl, rfl, rfl, by simp, g2.block, setRow_heap w _ _ _ _ _ g2.block, by
      simp only [List.size_toArray, List.length_append, List.length_take, List.length_drop, Array.length_toList]
      rw [hsz, Nat.min_eq_left (by omega)]
      omega, fun d hd => setRow_other w _ d _ hd⟩
  have hlen : (y.rows.take i ++ rows ++ y.rows.drop (i + rows.length)).length = y.rows.length := by
    simp only [List.length_append, List.length_take, List.length_drop]; omega
  refine ⟨_, hst, hW.put hy hs hw (x' := { y with rows := y.rows.take i ++ rows ++ y.rows.drop (i + rows.length) }) hsz.symm ?_ ?_ ?_⟩
  · intro q s hq
    simp only [] at hq
    rw [get_splice _ _ _ _ hin] at hq
    split at hq
    · exact g2.even q s hq
    · split at hq
      · exact hf.even _ s hq
      · exact g2.even q s hq
  · simp only [hlen]; exact hroom
  · intro q s j a u hq hj hu
    simp only [] at hq hu
    rw [get_splice _ _ _ _ hin] at hq
    rw [List.getElem?_toArray, get_splice ds.toList us (pl.base + i * pl.size) _ (by rw [hul, hsz]; omega), hul, hsz] at hu
    by_cases h1 : q < i
    · rw [if_pos h1] at hq
      have hjs : j < y.size := by rw [← g2.even q s hq]; exact lt_of_some hj
      have : (q + 1) * y.size ≤ i * y.size := Nat.mul_le_mul_right _ h1
      rw [Nat.add_mul] at this
      rw [if_pos (by omega), Array.getElem?_toList] at hu
      exact g2.rep q s j a u hq hj hu
    · rw [if_neg h1] at hq
      have h1' : i * y.size ≤ q * y.size := Nat.mul_le_mul_right _ (by omega)
      by_cases h2 : q < i + rows.length
      · rw [if_pos h2] at hq
        have hjs : j < y.size := by rw [← hf.even _ s hq]; exact lt_of_some hj
        have : (q + 1) * y.size ≤ (i + rows.length) * y.size := Nat.mul_le_mul_right _ h2
        rw [Nat.add_mul, Nat.add_mul] at this
        rw [if_neg (by omega), if_pos (by omega)] at hu
        refine hf.rep (q - i) s j a u hq hj ?_
        rw [← hu]
        congr 1
        rw [Nat.sub_mul]
        omega
      · rw [if_neg h2] at hq
        have : (i + rows.length) * y.size ≤ q * y.size := Nat.mul_le_mul_right _ (by omega)
        rw [Nat.add_mul] at this
        rw [if_neg (by omega), if_neg (by omega), Array.getElem?_toList] at hu
        exact g2.rep q s j a u hq hj hu
theorem clear_done {b : Nat} (hW : WRel w σ H) {t ty : TypeId} {x : AV} {x' : Value} {H' : Heap} (hx : Rep w σ (Own σ H) x x') (h : clearA P H t x = some H') :
    Done P (Builtin.clear_ #[t] ty #[x']) w σ H b (.tup []) H' := by
  unfold clearA at h
  split at h
  · rename_i e hu
    split at h
    · rename_i n z hn hz
      split at h
      · cases h
        cases hx
        exact ⟨.tuple #[], w, σ, by simp [Builtin.clear_, run_underlying hu], .tup [] [] rfl (by simp), hW, Ext.refl _ _ _, fun c pl hc => .inl hc⟩
      · rename_i c i k
        split at h
        · rename_i y hy
          split at h
          · rename_i hcond
            obtain ⟨⟨q1, q2⟩, ⟨q3, q4⟩, q5⟩ := hcond
            cases h
            obtain ⟨pl, ad, cap, rfl, hsg, hnc, hmx, ha⟩ := hx.sl_inv
            rcases Nat.eq_zero_or_pos k with rfl | hk
            · have e0 : y.rows.take i ++ List.replicate 0 z ++ y.rows.drop (i + 0) = y.rows := by simp
              obtain ⟨pl', ds, e', g1, g2⟩ := hW.live c y hy
              rw [hsg] at g1
              cases g1
              have hput := hW.put hy hsg (Wrote.refl g2.block) (x' := { y with rows := y.rows.take i ++ List.replicate 0 z ++ y.rows.drop (i + 0) }) g2.size.symm (by simp only [e0]; exact g2.even) (by simp only [e0]; exact g2.room) (by simp only [e0]; exact g2.rep)
              exact ⟨.tuple #[], w, σ, by simp [Builtin.clear_, run_underlying hu], .tup [] [] rfl (by simp), hput.1, hput.2, fun c pl hc => .inl hc⟩
            · obtain ⟨rfl, cs, te, hcs, hroom⟩ := ha (by omega)
              cases hz0 : zeroA P e with
              | none => rw [hz0] at hz; cases hz
              | some z0 =>
                rw [hz0] at hz
                obtain ⟨z', h1, h2⟩ := zero_sound (P := P) (w := w) (σ := σ) (T := Own σ H) hz0
                have hr := h2.cells hz
                obtain ⟨l, hl1, hl2, hl3, hl4⟩ := Flat.zeros (zs := z'.cells) hr q2 q3 k k (Nat.le_refl _)
                rw [List.take_of_length_le (by omega)] at hl3
                have hlz : (Builtin.zeroCells z'.cells k).toList = l := by
                  have hzs : z'.cells.size = n := by rw [← Array.length_toList, ← hr.1, q2]
                  have : Builtin.zeroCells z'.cells k = l.toArray := by
                    rw [← hl1, ← hzs]
                    rfl
                  rw [this]
                subst q1
                have hfl : Flat w σ (Own σ H) (List.replicate k z) y.size l := hl3
                have hones : ∀ u ∈ l, u.oneCell' = true := fun u hu' => by
                  obtain ⟨a, ha1, ha2⟩ := hl4 u hu'
                  exact ha1.one (List.all_eq_true.1 q5 a ha2)
                obtain ⟨w', g1, g2, g3⟩ := splice_done (P := P) hW hy hsg hfl (by simpa using q4) hones
                simp only [List.length_replicate] at g2 g3
                refine ⟨.tuple #[], w', σ, ?_, .tup [] [] rfl (by simp), g2, g3, fun c pl hc => .inl hc⟩
                have hk0 : k ≠ 0 := by omega
                obtain ⟨k', rfl⟩ : ∃ k', k = k' + 1 := ⟨k - 1, by omega⟩
                simp [Builtin.clear_, run_underlying hu, h1, hlz, g1]
          · cases h
        · cases h
      · cases h
    · cases h
  · cases h
end
end Go.Proofs.Ytadjimfkfmojkaa.Am

end
section
namespace Go.Proofs.Ytadjimfkfmojkaa.Am
set_option linter.unusedVariables false
section
variable {P : Program} {F : TypeId → Option (List TypeId)} {w : World} {σ : Sig} {H : Heap} {b : Nat}

/-- the same of a whole operation -/
def OpDone (P : Program) (s : Sem Next) (w : World) (σ : Sig) (H : Heap) (b : Nat) (v : AV) (H' : Heap) : Prop :=
  ∃ v' w' σ', (s.run P w = .ok (.value v') w' ∨ (s.run P w = .ok .skip w' ∧ v' = undef)) ∧ Rep w' σ' (Own σ' H') v v' ∧ WRel w' σ' H' ∧ Ext w σ (Own σ H) w' σ' (Own σ' H') ∧ ∀ c pl, σ' c = some pl → σ c = some pl ∨ c = b
theorem OpDone.of_done {s : Sem Value} {v : AV} {H' : Heap} (h : Done P s w σ H b v H') : OpDone P (do pure (.value (← s))) w σ H b v H' := by
  obtain ⟨v', w', σ', h1, h2⟩ := h
  exact ⟨v', w', σ', .inl (by simp [h1]), h2⟩
theorem OpDone.of_val {s : Sem Value} {v : AV} (hW : WRel w σ H) (h : ∃ v', s.run P w = .ok v' w ∧ Rep w σ (Own σ H) v v') : OpDone P (do pure (.value (← s))) w σ H b v H := by
  obtain ⟨v', h1, h2⟩ := h
  exact ⟨v', w, σ, .inl (by simp [h1]), h2, hW, Ext.refl _ _ _, fun c pl hc => .inl hc⟩
theorem OpDone.pure {s : Sem Next} {v : AV} {v' : Value} (hW : WRel w σ H) (h : s.run P w = .ok (.value v') w) (hr : Rep w σ (Own σ H) v v') : OpDone P s w σ H b v H :=
  ⟨v', w, σ, .inl h, hr, hW, Ext.refl _ _ _, fun c pl hc => .inl hc⟩
theorem vOpt {r : Option AV} {v : AV} {H H' : Heap} (h : (r.map fun x => ANext.val x H) = some (.val v H')) : r = some v ∧ H' = H := by
  cases r with
  | none => cases h
  | some x => simp only [Option.map_some, Option.some.injEq, ANext.val.injEq] at h; exact ⟨by rw [h.1], h.2.symm⟩
theorem repO {ρ : Operand → AV} {ρ' : Operand → Value} (hρ : ∀ x, Rep w σ (Own σ H) (ρ x) (ρ' x)) (x : Option Operand) : RepO w σ (Own σ H) (x.map ρ) (x.map ρ') := by
  cases x with
  | none => trivial
  | some a => exact hρ a
theorem map_one {α β : Type} {f : α → β} {l : List α} {x : β} (h : l.map f = [x]) : ∃ a, l = [a] ∧ f a = x := by
  match l, h with
  | [a], h => exact ⟨a, rfl, by simpa using h⟩
  | [], h => simp at h
  | _ :: _ :: _, h => simp at h
theorem map_two {α β : Type} {f : α → β} {l : List α} {x y : β} (h : l.map f = [x, y]) : ∃ a b, l = [a, b] ∧ f a = x ∧ f b = y := by
  match l, h with
  | [a, b], h => exact ⟨a, b, rfl, by simpa using h⟩
  | [], h => simp at h
  | [_], h => simp at h
  | _ :: _ :: _ :: _, h => simp at h
theorem builtin_sound (hW : WRel w σ H) (hb : σ b = none) (hlt : b < H.next) {ρ : Operand → AV} {ρ' : Operand → Value} (hρ : ∀ x, Rep w σ (Own σ H) (ρ x) (ρ' x)) {op : Builtin} {args : List Operand} {types : List TypeId} {ty : TypeId} {cn : Array Bool} {v : AV} {H' : Heap}
    (h : builtinA P H b op types.toArray (args.map ρ) = some (v, H')) : OpDone P (builtin op types.toArray ty cn (args.toArray.map ρ')) w σ H b v H' := by
  unfold builtinA at h
  split at h
  · rename_i s heq
    obtain ⟨a0, rfl, h0⟩ := map_one heq
    split at h
    · rename_i hty
      cases h
      have hr := hρ a0
      rw [h0] at hr
      generalize he : ρ' a0 = x' at hr
      cases hr with
      | str ba =>
      have hlen : ba.data.toList.length = ba.size := Array.length_toList
      cases htt : types[0]? with
      | none => simp [htt] at hty
      | some t =>
      have hu : P.underlying t = some .string := by simpa [htt] using hty
      refine OpDone.pure hW (v' := .int .i64 ba.size) ?_ (by rw [hlen]; exact .int _ _)
      simp [builtin, Builtin.len_, htt, he, run_underlying hu, goInt]
    · cases h
  · rename_i x hne heq
    obtain ⟨a0, rfl, h0⟩ := map_one heq
    have hr := hρ a0
    rw [h0] at hr
    cases htt : types[0]? with
    | none => simp [htt] at h
    | some t =>
      simp only [List.getElem?_toArray, htt, Option.bind_some] at h
      split at h
      · rename_i e hu
        cases hl : lenA x with
        | none => rw [hl] at h; cases h
        | some n =>
          rw [hl] at h
          cases h
          have hv : ∃ A c, ρ' a0 = .slice A n c := by
            unfold lenA at hl
            split at hl
            · cases hl; generalize ρ' a0 = y at hr; cases hr; exact ⟨_, _, rfl⟩
            · cases hl; generalize ρ' a0 = y at hr; cases hr; exact ⟨_, _, rfl⟩
            · cases hl; obtain ⟨A, c, h1, _⟩ := hr.lst_inv; exact ⟨A, c, h1⟩
            · cases hl; obtain ⟨_, a, c, h1, _⟩ := hr.sl_inv; exact ⟨_, c, h1⟩
            · cases hl
          obtain ⟨A, c, hv⟩ := hv
          refine OpDone.pure hW (v' := .int .i64 n) ?_ (.int _ _)
          simp [builtin, Builtin.len_, htt, hv, run_underlying hu, goInt]
      · rename_i n e hu
        cases h
        refine OpDone.pure hW (v' := .int .i64 n) ?_ (.int _ _)
        simp [builtin, Builtin.len_, htt, run_underlying hu, goInt]
      · cases h
  · rename_i s x heq
    obtain ⟨a0, a1, rfl, h0, h1⟩ := map_two heq
    split at h
    · rename_i t tx htt
      split at h
      · rename_i e' hu
        simp only [] at htt
        subst htt
        have hs := hρ a0
        have hx := hρ a1
        rw [h0] at hs
        rw [h1] at hx
        have := OpDone.of_done (append_done (ty := ty) hW hb hlt hx hs hu h)
        simpa [builtin] using this
      · cases h
    · cases h
  · rename_i k a k' c heq
    obtain ⟨a0, a1, rfl, h0, h1⟩ := map_two heq
    split at h
    · rename_i hk
      subst hk
      cases h
      have hs := hρ a0
      have hx := hρ a1
      rw [h0] at hs
      rw [h1] at hx
      generalize e0 : ρ' a0 = y0 at hs
      generalize e1 : ρ' a1 = y1 at hx
      cases hs
      cases hx
      exact OpDone.pure hW (v' := .int k (if c < a then c else a)) (by simp [builtin, Builtin.min_, Builtin.min2, e0, e1]) (.int _ _)
    · cases h
  · rename_i k a k' c heq
    obtain ⟨a0, a1, rfl, h0, h1⟩ := map_two heq
    split at h
    · rename_i hk
      subst hk
      cases h
      have hs := hρ a0
      have hx := hρ a1
      rw [h0] at hs
      rw [h1] at hx
      generalize e0 : ρ' a0 = y0 at hs
      generalize e1 : ρ' a1 = y1 at hx
      cases hs
      cases hx
      exact OpDone.pure hW (v' := .int k (if c > a then c else a)) (by simp [builtin, Builtin.max_, Builtin.max2, e0, e1]) (.int _ _)
    · cases h
  · rename_i x heq
    obtain ⟨a0, rfl, h0⟩ := map_one heq
    split at h
    · rename_i t htt
      simp only [] at htt
      subst htt
      cases hc : clearA P H t x with
      | none => rw [hc] at h; cases h
      | some K =>
        rw [hc] at h
        cases h
        have hx := hρ a0
        rw [h0] at hx
        have := OpDone.of_done (clear_done (ty := ty) (b := b) hW hx hc)
        simpa [builtin] using this
    · cases h
  · cases h
theorem aop_sound (fit : Fit P F) (hW : WRel w σ H) (hb : σ b = none) (hlt : b < H.next) {o : Oper} {ρ : Operand → AV} {ρ' : Operand → Value} (hρ : ∀ x, Rep w σ (Own σ H) (ρ x) (ρ' x)) {v : AV} {H' : Heap}
    (h : aop P F o.op ρ b H = some (.val v H')) : OpDone P (execOp ρ' o) w σ H b v H' := by
  obtain ⟨dst, op, ty, pos, after, guard⟩ := o
  simp only [] at h
  cases op with
  | move x => simp only [aop, Option.some.injEq, ANext.val.injEq] at h; obtain ⟨rfl, rfl⟩ := h; exact OpDone.pure hW rfl (hρ x)
  | assign x => simp only [aop, Option.some.injEq, ANext.val.injEq] at h; obtain ⟨rfl, rfl⟩ := h; exact OpDone.pure hW rfl (hρ x)
  | pick c x y =>
    simp only [aop] at h
    split at h
    · rename_i t hc
      simp only [Option.some.injEq, ANext.val.injEq] at h
      obtain ⟨rfl, rfl⟩ := h
      have := hρ c
      rw [hc] at this
      generalize hc' : ρ' c = c' at this
      cases this
      refine OpDone.pure hW (v' := if t then ρ' x else ρ' y) (by simp [execOp, hc', asBool]) ?_
      cases t
      · exact hρ y
      · exact hρ x
    · cases h
  | alloc t =>
    simp only [aop] at h
    split at h
    · rename_i cs hcs
      simp only [Option.some.injEq, ANext.val.injEq] at h
      obtain ⟨rfl, rfl⟩ := h
      exact OpDone.of_done (alloc_done hW hb hlt hcs)
    · cases h
  | box t x =>
    simp only [aop] at h
    split at h
    · rename_i cs hcs
      split at h
      · simp only [Option.some.injEq, ANext.val.injEq] at h
        obtain ⟨rfl, rfl⟩ := h
        exact OpDone.of_done (box_done hW hb hlt (hρ x) hcs)
      · cases h
    · cases h
  | build t parts => simp only [aop] at h; obtain ⟨h1, rfl⟩ := vOpt h; exact OpDone.of_val hW (build_sound hρ h1)
  | buildSlice t len parts =>
    simp only [aop] at h
    split at h
    · rename_i e hu
      split at h
      · rename_i n z hn hz
        split at h
        · rename_i hc
          obtain ⟨c1, c2, c3⟩ := hc
          cases hf : fillRows n (List.replicate len z) (parts.toList.map fun p => (p.1, ρ p.2)) with
          | none => rw [hf] at h; cases h
          | some rows =>
            rw [hf] at h
            simp only [Option.map_some, Option.some.injEq, ANext.val.injEq] at h
            obtain ⟨rfl, rfl⟩ := h
            exact OpDone.of_done (buildSlice_done hW hb hlt hρ hu hn hz c1 c2 c3 hf)
        · cases h
      · cases h
    · cases h
  | load t a => simp only [aop] at h; obtain ⟨h1, rfl⟩ := vOpt h; exact OpDone.of_val hW (load_sound hW (hρ a) h1)
  | store t a x =>
    simp only [aop] at h
    cases hs : storeA P H t (ρ a) (ρ x) with
    | none => rw [hs] at h; cases h
    | some K =>
      rw [hs] at h
      simp only [Option.map_some, Option.some.injEq, ANext.val.injEq] at h
      obtain ⟨rfl, rfl⟩ := h
      obtain ⟨w', h1, h2, h3⟩ := store_done hW (hρ a) (hρ x) hs
      exact ⟨undef, w', σ, .inr ⟨by simp [execOp, h1], rfl⟩, .tup [] [] rfl (by simp), h2, h3, fun c pl hc => .inl hc⟩
  | nilCheck x =>
    simp only [aop] at h
    have hx := hρ x
    split at h <;> (try (cases h; done)) <;> (rename_i heq; simp only [Option.some.injEq, ANext.val.injEq] at h; obtain ⟨rfl, rfl⟩ := h; rw [heq] at hx; generalize he : ρ' x = x' at hx; have hx2 := hx; cases hx2; exact OpDone.pure hW (by simp only [execOp, he]; rfl) hx)
  | binOp op t x y yt => simp only [aop] at h; obtain ⟨h1, rfl⟩ := vOpt h; exact OpDone.of_val hW (bin_sound fit.flat (hρ x) (hρ y) h1)
  | unOp op t x => simp only [aop] at h; obtain ⟨h1, rfl⟩ := vOpt h; exact OpDone.of_val hW (un_sound (hρ x) h1)
  | convert s d x => simp only [aop] at h; obtain ⟨h1, rfl⟩ := vOpt h; exact OpDone.of_val hW (conv_sound (hρ x) h1)
  | makeFunc fn first cap =>
    cases fn with
    | func f =>
      simp only [aop] at h
      split at h
      · rename_i hf
        simp only [Option.some.injEq, ANext.val.injEq] at h
        obtain ⟨rfl, rfl⟩ := h
        have e : first = #[] := Array.eq_empty_of_size_eq_zero hf
        subst e
        refine OpDone.pure hW (v' := .func (.func f) #[] (cap.toList.map ρ').toArray) (by simp [execOp, Instr.makeFunc]; apply Array.ext'; simp) (.fn f _ _ (by simp) fun i a v h1 h2 => ?_)
        rw [List.getElem?_map] at h1 h2
        cases hc : cap.toList[i]? with
        | none => rw [hc] at h1; cases h1
        | some q => rw [hc] at h1 h2; cases h1; cases h2; exact hρ q
      · cases h
    | _ => simp [aop] at h
  | makeSlice t l c =>
    simp only [aop] at h
    split at h
    · rename_i e hu
      split at h
      · rename_i n by_ z l' c' hn hby hz hl hc
        split at h
        · rename_i hcond
          obtain ⟨c1, c2, c3, c4, c5⟩ := hcond
          simp only [Option.some.injEq, ANext.val.injEq] at h
          obtain ⟨rfl, rfl⟩ := h
          exact OpDone.of_done (makeSlice_done hW hb hlt (hρ l) (hρ c) hu hn hby hz hl hc c1 c2 c3 c4 c5)
        · cases h
      · cases h
    · cases h
  | slice t x lo hi mx =>
    simp only [aop] at h
    split at h
    · cases h
    · rename_i hcond
      obtain ⟨h1, rfl⟩ := vOpt h
      refine OpDone.of_val hW (slice_sound hW (hρ x) (repO hρ lo) (repO hρ hi) (repO hρ mx) (fun hh => ?_) h1)
      cases hi with
      | none => cases mx with
        | none => rfl
        | some m => simp at hcond
      | some q => simp at hh
  | fieldAddr s x f => simp only [aop] at h; obtain ⟨h1, rfl⟩ := vOpt h; exact OpDone.of_val hW (fieldAddr_sound (hρ x) h1)
  | field s x f => simp only [aop] at h; obtain ⟨h1, rfl⟩ := vOpt h; exact OpDone.of_val hW (field_sound (hρ x) h1)
  | indexAddr t x ix => simp only [aop] at h; obtain ⟨h1, rfl⟩ := vOpt h; exact OpDone.of_val hW (indexAddr_sound hW (hρ x) (hρ ix) h1)
  | index t x ix => simp only [aop] at h; obtain ⟨h1, rfl⟩ := vOpt h; exact OpDone.of_val hW (index_sound (hρ x) (hρ ix) h1)
  | extract x i =>
    simp only [aop] at h
    split at h
    · rename_i vs hx
      obtain ⟨h1, rfl⟩ := vOpt h
      have := hρ x
      rw [hx] at this
      generalize he : ρ' x = x' at this
      cases this with
      | tup _ us hl hr =>
      have hi := lt_of_some h1
      have hi' : i < us.length := by omega
      exact OpDone.pure hW (v' := us[i]) (by simp [execOp, he, Instr.extract, hi']) (hr i v _ h1 (List.getElem?_eq_getElem hi'))
    · cases h
  | call c =>
    simp only [aop] at h
    obtain ⟨callee, args, types⟩ := c
    obtain ⟨args⟩ := args
    obtain ⟨types⟩ := types
    simp only [] at h
    split at h
    · rename_i bi
      cases hbi : builtinA P H b bi types.toArray (args.map ρ) with
      | none => rw [hbi] at h; cases h
      | some r =>
        obtain ⟨v0, K⟩ := r
        rw [hbi] at h
        simp only [Option.map_some, Option.some.injEq, ANext.val.injEq] at h
        obtain ⟨rfl, rfl⟩ := h
        have key : ∀ cn, OpDone P (builtin bi ⟨types⟩ ty cn ((⟨args⟩ : Array Operand).map ρ')) w σ H b v0 K := fun cn => builtin_sound hW hb hlt hρ hbi
        exact key _
    · rename_i f
      split at h <;> simp at h
    · cases h
  | _ => simp [aop] at h
theorem aop_call (fit : Fit P F) {o : Oper} {ρ : Operand → AV} {ρ' : Operand → Value} (hρ : ∀ x, Rep w σ (Own σ H) (ρ x) (ρ' x)) {g : FuncId} {args : List AV} {fn : Func} {c : Code}
    (h : aop P F o.op ρ b H = some (.call g args)) (hg : P.funcs[g]? = some fn) (hc : fn.body = some c) :
    ∃ vs : List Value, (execOp ρ' o).run P w = .ok (.enter g vs.toArray) w ∧ Reps w σ (Own σ H) args vs := by
  obtain ⟨dst, op, ty, pos, after, guard⟩ := o
  simp only [] at h
  cases op with
  | call c =>
    simp only [aop] at h
    obtain ⟨callee, qs, types⟩ := c
    obtain ⟨qs⟩ := qs
    simp only [] at h
    split at h
    · rename_i bi
      cases hbi : builtinA P H b bi types (qs.map ρ) with
      | none => rw [hbi] at h; cases h
      | some r => rw [hbi] at h; cases h
    · rename_i f
      split at h
      · rename_i g' cs hf
        simp only [Option.some.injEq, ANext.call.injEq] at h
        obtain ⟨rfl, rfl⟩ := h
        have := hρ f
        rw [hf] at this
        generalize he : ρ' f = f' at this
        cases this with
        | fn _ _ us hl hr =>
        have hnm : ¬ fn.name = "runtime.NumGoroutine" := fit.names _ _ hg
        refine ⟨qs.map ρ' ++ us, ?_, by simp [hl], fun i a v h1 h2 => ?_⟩
        · simp [execOp, resolve, he, Deferred.ofValue, invoke, callFunc, hg, hnm, hc]
        · rcases Nat.lt_or_ge i qs.length with hi | hi
          · rw [List.getElem?_append_left (by simpa using hi), List.getElem?_map] at h1 h2
            rw [List.getElem?_eq_getElem hi] at h1 h2
            cases h1
            cases h2
            exact hρ _
          · rw [List.getElem?_append_right (by simpa using hi)] at h1 h2
            simp only [List.length_map] at h1 h2
            exact hr _ a v h1 h2
      · cases h
    · cases h
  | makeFunc fn first cap => cases fn <;> simp only [aop] at h <;> (try split at h) <;> simp at h
  | _ =>
    exfalso
    simp only [aop] at h
    repeat' (first | (cases h; done) | (simp at h; done) | split at h)
end
end Go.Proofs.Ytadjimfkfmojkaa.Am

end
section
namespace Go.Proofs.Ytadjimfkfmojkaa.Am
set_option linter.unusedVariables false

def TmpsOk (w : World) (σ : Sig) (T : Nat → Prop) (τ : List AV) (a : Act) : Prop := Reps w σ T τ a.tmps.toList ∧ a.defers = []
theorem TmpsOk.mono {w w' : World} {σ σ' : Sig} {T T' : Nat → Prop} (e : Ext w σ T w' σ' T') {τ : List AV} {a : Act} (h : TmpsOk w σ T τ a) : TmpsOk w' σ' T' τ a := ⟨h.1.mono e, h.2⟩
section
variable {P : Program} {F : TypeId → Option (List TypeId)} {w : World} {σ : Sig} {T : Nat → Prop}
theorem undef_rep : Rep w σ T undefA undef := .tup [] [] rfl (by simp)
theorem TmpsOk.eval {τ : List AV} {a : Act} (h : TmpsOk w σ T τ a) (x : Operand) : Rep w σ T (aev τ x) (a.eval x) := by
  cases x with
  | tmp t =>
    simp only [aev, Act.eval]
    have hl := h.1.1
    simp only [Array.length_toList] at hl
    rcases Nat.lt_or_ge t τ.length with ht | ht
    · have e1 : τ.getD t undefA = τ[t] := by simp [List.getD, ht]
      have ht' : t < a.tmps.size := hl ▸ ht
      have e2 : a.tmps.getD t undef = a.tmps[t] := by simp [Array.getD, ht']
      rw [e1, e2]
      exact h.1.2 t _ _ (List.getElem?_eq_getElem ht) (by rw [Array.getElem?_toList, Array.getElem?_eq_getElem ht'])
    · have e1 : τ.getD t undefA = undefA := by simp [List.getD, List.getElem?_eq_none ht]
      have ht' : ¬ t < a.tmps.size := Nat.not_lt.2 (hl ▸ ht)
      have e2 : a.tmps.getD t undef = undef := by simp [Array.getD, ht']
      rw [e1, e2]
      exact undef_rep
  | const v =>
    simp only [aev, Act.eval]
    cases hv : avOf v with
    | none => exact .junk _
    | some a => exact avOf_rep hv
  | global g => exact .junk _
  | func f => exact .fn f [] [] rfl (by simp)
theorem TmpsOk.put {τ : List AV} {a : Act} (h : TmpsOk w σ T τ a) (dst : Option Tmp) {v : AV} {v' : Value} (hv : Rep w σ T v v') : TmpsOk w σ T (putA τ dst v) (a.put dst v') := by
  cases dst with
  | none => exact h
  | some d =>
    refine ⟨⟨by simpa [putA, Act.put] using h.1.1, fun i x u h1 h2 => ?_⟩, h.2⟩
    simp only [putA, Act.put, Array.toList_setIfInBounds, List.getElem?_set] at h1 h2
    by_cases hd : d = i
    · subst hd
      simp only [if_true] at h1 h2
      split at h1
      · split at h2
        · cases h1; cases h2; exact hv
        · cases h2
      · cases h1
    · rw [if_neg hd] at h1 h2
      exact h.1.2 i x u h1 h2
theorem wanted_sound {ops : Array Oper} {o : Oper} {τ : List AV} {a : Act} {t : Bool} (h : TmpsOk w σ T τ a) (hw : wantedA ops o τ = some t) : Region.wanted o (yielded ops a.tmps) = t := by
  unfold wantedA at hw
  unfold Region.wanted
  split at hw
  · rename_i hg; cases hw; rw [hg]
  · rename_i j want hg
    rw [hg]
    simp only []
    unfold yielded
    split at hw
    · rename_i d hd
      rw [hd]
      simp only [Option.bind_some]
      have get : ∀ x, τ[d]? = some x → ∃ u, a.tmps[d]? = some u ∧ Rep w σ T x u := fun x hx => by
        have hl := h.1.1
        simp only [Array.length_toList] at hl
        have hlt := lt_of_some hx
        exact ⟨a.tmps[d], Array.getElem?_eq_getElem (by omega), h.1.2 d x _ hx (by rw [Array.getElem?_toList, Array.getElem?_eq_getElem (by omega)])⟩
      split at hw
      · rename_i b hb
        obtain ⟨u, h1, h2⟩ := get _ hb
        rw [h1]
        cases h2
        cases hw
        rfl
      · rename_i hb
        obtain ⟨u, h1, h2⟩ := get _ hb
        rw [h1]
        cases hw
        cases h2 with
        | tup _ vs hl hr =>
        have : vs = [] := by cases vs with
          | nil => rfl
          | cons x l => simp at hl
        subst this
        rfl
      · cases hw
    · cases hw
end

/-- a call does what the evaluator says -/
def CallOk (P : Program) (f : FuncId) (args : List AV) (H : Heap) (v : AV) (H' : Heap) : Prop :=
  ∀ (w : World) (σ : Sig) (vs : List Value), WRel w σ H → Reps w σ (Own σ H) args vs → Calls P f vs.toArray w fun e w' =>
    ∃ v' σ', e = .returned v' ∧ Rep w' σ' (Own σ' H') v v' ∧ WRel w' σ' H' ∧ Ext w σ (Own σ H) w' σ' (Own σ' H') ∧ ∀ c pl, σ' c = some pl → σ c = some pl ∨ H.next ≤ c
structure Sound (P : Program) (call : FuncId → List AV → Heap → Option (AV × Heap)) : Prop where
  ok : ∀ f args H v H', call f args H = some (v, H') → CallOk P f args H v H'
  next : ∀ f args H v H', call f args H = some (v, H') → H.next ≤ H'.next
  body : ∀ f args H v H', call f args H = some (v, H') → ∃ fn c, P.funcs[f]? = some fn ∧ fn.body = some c
/-- what holds behind a piece of code -/
def After (w : World) (σ : Sig) (H : Heap) (τ' : List AV) (H' : Heap) (a' : Act) (w' : World) : Prop :=
  ∃ σ', TmpsOk w' σ' (Own σ' H') τ' a' ∧ WRel w' σ' H' ∧ Ext w σ (Own σ H) w' σ' (Own σ' H') ∧ ∀ c pl, σ' c = some pl → σ c = some pl ∨ H.next ≤ c
section
variable {P : Program} {F : TypeId → Option (List TypeId)} {call : FuncId → List AV → Heap → Option (AV × Heap)} {ops : Array Oper} {base : Nat} {Q : Exit → Act → World → Prop}

theorem aop_next {o : Op} {ρ : Operand → AV} {b : Nat} {H H' : Heap} {v : AV} (h : aop P F o ρ b H = some (.val v H')) : H'.next = H.next := by
  cases o with
  | store t a x =>
    simp only [aop] at h
    cases hs : storeA P H t (ρ a) (ρ x) with
    | none => rw [hs] at h; cases h
    | some K =>
      rw [hs] at h
      cases h
      unfold storeA at hs
      repeat' (first | (cases hs; rfl) | (cases hs; done) | split at hs)
  | call c =>
    simp only [aop] at h
    split at h
    · rename_i bi _
      cases hbi : builtinA P H b bi c.argTypes (c.args.toList.map ρ) with
      | none => rw [hbi] at h; cases h
      | some r =>
        obtain ⟨v0, K⟩ := r
        rw [hbi] at h
        cases h
        unfold builtinA at hbi
        split at hbi
        · repeat' (first | (cases hbi; rfl) | (cases hbi; done) | split at hbi)
        · split at hbi
          · rw [Option.map_eq_some_iff] at hbi
            obtain ⟨n, _, hn⟩ := hbi
            cases hn
            rfl
          · cases hbi; rfl
          · cases hbi
        · split at hbi
          · split at hbi
            · unfold appendA at hbi
              repeat' (first | (cases hbi; rfl) | (cases hbi; done) | split at hbi)
            · cases hbi
          · cases hbi
        · repeat' (first | (cases hbi; rfl) | (cases hbi; done) | split at hbi)
        · repeat' (first | (cases hbi; rfl) | (cases hbi; done) | split at hbi)
        · split at hbi
          · rw [Option.map_eq_some_iff] at hbi
            obtain ⟨K1, hk, hn⟩ := hbi
            cases hn
            unfold clearA at hk
            repeat' (first | (cases hk; rfl) | (cases hk; done) | split at hk)
          · cases hbi
        · cases hbi
    · split at h <;> cases h
    · cases h
  | makeFunc fn first cap => cases fn <;> simp only [aop] at h <;> (try split at h) <;> cases h <;> rfl
  | buildSlice t len parts =>
    simp only [aop] at h
    split at h
    · split at h
      · split at h
        · rename_i n z _ _ _
          cases hf : fillRows n (List.replicate len z) (parts.toList.map fun p => (p.1, ρ p.2)) with
          | none => rw [hf] at h; cases h
          | some rows => rw [hf] at h; cases h; rfl
        · cases h
      · cases h
    · cases h
  | _ =>
    simp only [aop] at h
    first
      | (obtain ⟨_, rfl⟩ := vOpt h; rfl)
      | (repeat' (first | (cases h; rfl) | (cases h; done) | (obtain ⟨_, rfl⟩ := vOpt h; rfl) | split at h))
theorem stepA_next (hc : Sound P call) {i : Nat} {τ τ' : List AV} {H H' : Heap} (h : stepA P F call ops base i τ H = some (τ', H')) : H.next ≤ H'.next := by
  unfold stepA at h
  split at h
  · cases h
  · split at h
    · split at h
      · rename_i hop; cases h; rw [aop_next hop]; exact Nat.le_refl _
      · split at h
        · rename_i hcall; cases h; exact hc.next _ _ _ _ _ hcall
        · cases h
      · cases h
    · cases h; exact Nat.le_refl _
    · cases h
theorem stepA_sound (fit : Fit P F) (hc : Sound P call) {i : Nat} {τ τ' : List AV} {H H' : Heap} {w : World} {σ : Sig} {a : Act} (h : stepA P F call ops base i τ H = some (τ', H')) (hW : WRel w σ H) (hτ : TmpsOk w σ (Own σ H) τ a)
    (hb : σ (base + i) = none) (hlt : base + i < H.next) {K : Act → World → Prop}
    (hK : ∀ a' w' σ', TmpsOk w' σ' (Own σ' H') τ' a' → WRel w' σ' H' → Ext w σ (Own σ H) w' σ' (Own σ' H') → (∀ c pl, σ' c = some pl → σ c = some pl ∨ c = base + i ∨ H.next ≤ c) → K a' w') : wpOp P ops Q i K a w := by
  unfold stepA at h
  split at h
  · cases h
  · rename_i o ho
    unfold wpOp
    rw [ho]
    simp only []
    split at h
    · rename_i hwant
      rw [if_pos (wanted_sound hτ hwant)]
      left
      unfold Oper.wp
      split at h
      · rename_i v K' hop
        cases h
        obtain ⟨v', w', σ', h1, h2, h3, h4, h5⟩ := aop_sound fit hW hb hlt (o := o) hτ.eval hop
        have hk := hK (a.put o.dst v') w' σ' ((hτ.mono h4).put o.dst h2) h3 h4 (fun c pl hcp => by
          rcases h5 c pl hcp with h6 | h6
          · exact .inl h6
          · exact .inr (.inl h6))
        rcases h1 with h1 | ⟨h1, rfl⟩
        · rw [h1]; exact hk
        · rw [h1]; exact hk
      · rename_i f args hop
        split at h
        · rename_i v K' hcall
          cases h
          obtain ⟨fn, c, hf, hbd⟩ := hc.body _ _ _ _ _ hcall
          obtain ⟨vs, h1, h2⟩ := aop_call fit (o := o) (b := base + i) hτ.eval hop hf hbd
          rw [h1]
          refine (hc.ok _ _ _ _ _ hcall w σ vs hW h2).mono ?_
          rintro e w' ⟨v', σ', rfl, g1, g2, g3, g4⟩
          exact hK (a.put o.dst v') w' σ' ((hτ.mono g3).put o.dst g1) g2 g3 (fun c pl hcp => by
            rcases g4 c pl hcp with h6 | h6
            · exact .inl h6
            · exact .inr (.inr h6))
        · cases h
      · cases h
    · rename_i hwant
      rw [if_neg (by rw [wanted_sound hτ hwant]; simp)]
      cases h
      exact hK _ w σ (hτ.put o.dst undef_rep) hW (Ext.refl _ _ _) (fun c pl hcp => .inl hcp)
    · cases h
theorem opsA_next (hc : Sound P call) : ∀ (l : List Nat) (τ : List AV) (H : Heap) (τ' : List AV) (H' : Heap), opsA P F call ops base l τ H = some (τ', H') → H.next ≤ H'.next
  | [], τ, H, τ', H', h => by cases h; exact Nat.le_refl _
  | i :: l, τ, H, τ', H', h => by
    unfold opsA at h
    split at h
    · rename_i τ1 H1 hs
      exact Nat.le_trans (stepA_next hc hs) (opsA_next hc l _ _ _ _ h)
    · cases h
theorem opsA_sound (fit : Fit P F) (hc : Sound P call) : ∀ (l : List Nat) (τ : List AV) (H : Heap) (τ' : List AV) (H' : Heap), opsA P F call ops base l τ H = some (τ', H') → l.Nodup → ∀ (w : World) (σ : Sig) (a : Act),
    WRel w σ H → TmpsOk w σ (Own σ H) τ a → (∀ i ∈ l, σ (base + i) = none ∧ base + i < H.next) → (∀ a' w' σ', TmpsOk w' σ' (Own σ' H') τ' a' → WRel w' σ' H' → Ext w σ (Own σ H) w' σ' (Own σ' H') →
      (∀ c pl, σ' c = some pl → σ c = some pl ∨ (∃ i ∈ l, c = base + i) ∨ H.next ≤ c) → Q .normal a' w') → wpOps P ops Q l a w
  | [], τ, H, τ', H', h, _, w, σ, a, hW, hτ, _, hQ => by
    cases h
    exact hQ a w σ hτ hW (Ext.refl _ _ _) (fun c pl hcp => .inl hcp)
  | i :: l, τ, H, τ', H', h, hnd, w, σ, a, hW, hτ, hfr, hQ => by
    unfold opsA at h
    split at h
    · rename_i τ1 H1 hs
      rw [wpOps_cons]
      refine stepA_sound fit hc hs hW hτ (hfr i (by simp)).1 (hfr i (by simp)).2 fun a1 w1 σ1 t1 r1 e1 n1 => ?_
      have hnd' := List.nodup_cons.1 hnd
      refine opsA_sound fit hc l τ1 H1 τ' H' h hnd'.2 w1 σ1 a1 r1 t1 (fun j hj => ?_) (fun a' w' σ' t2 r2 e2 n2 => hQ a' w' σ' t2 r2 (e1.trans e2) (fun c pl hcp => ?_))
      · have hji : j ≠ i := by rintro rfl; exact hnd'.1 hj
        have hj0 := hfr j (by simp [hj])
        refine ⟨?_, Nat.lt_of_lt_of_le hj0.2 (stepA_next hc hs)⟩
        cases hs1 : σ1 (base + j) with
        | none => rfl
        | some pl =>
          rcases n1 _ pl hs1 with h1 | h1 | h1
          · rw [hj0.1] at h1; cases h1
          · omega
          · omega
      · rcases n2 c pl hcp with h1 | ⟨q, hq, rfl⟩ | h1
        · rcases n1 c pl h1 with h2 | h2 | h2
          · exact .inl h2
          · exact .inr (.inl ⟨i, by simp, h2⟩)
          · exact .inr (.inr h2)
        · exact .inr (.inl ⟨q, by simp [hq], rfl⟩)
        · exact .inr (.inr (Nat.le_trans (stepA_next hc hs) h1))
    · cases h

def exOf : Ex → Exit
  | .normal => .normal
  | .exit id => .exit id
  | .ret => .ret
/-- a piece of code does what the evaluator says -/
def CodeOk (P : Program) (c : Code) (τ : List AV) (H : Heap) (e : Ex) (τ' : List AV) (H' : Heap) : Prop :=
  H.next ≤ H'.next ∧ ∀ (w : World) (σ : Sig) (a : Act), WRel w σ H → TmpsOk w σ (Own σ H) τ a → ∀ Q : Exit → Act → World → Prop, (∀ a' w', After w σ H τ' H' a' w' → Q (exOf e) a' w') → c.wp P Q a w
theorem After.refl {w : World} {σ : Sig} {H : Heap} {τ : List AV} {a : Act} (hW : WRel w σ H) (hτ : TmpsOk w σ (Own σ H) τ a) : After w σ H τ H a w := ⟨σ, hτ, hW, Ext.refl _ _ _, fun c pl h => .inl h⟩
theorem region_sound (fit : Fit P F) (hc : Sound P call) {τ : List AV} {H : Heap} {τ' : List AV} {H' : Heap} {id : Nat} (h : regionA P F call ops false τ H = some (τ', H')) : CodeOk P (.region id ops false) τ H .normal τ' H' := by
  simp only [regionA, Bool.false_eq_true, if_false] at h
  refine ⟨Nat.le_trans (Nat.le_add_right _ _) (opsA_next hc _ _ _ _ _ h), fun w σ a hW hτ Q hQ => ?_⟩
  have hW1 : WRel w σ { H with next := H.next + ops.size } := hW.congr (fun _ => rfl) (Nat.le_add_right _ _)
  have ho : Own σ { H with next := H.next + ops.size } = Own σ H := Own.congr fun _ => rfl
  refine wp_region (opsA_sound fit hc _ τ _ τ' H' h List.nodup_range w σ a hW1 (by rw [ho]; exact hτ) (fun i hi => ?_) (fun a' w' σ' t r e n => hQ a' w' ⟨σ', t, r, by rw [ho] at e; exact e, fun c pl hcp => ?_⟩))
  · rw [List.mem_range] at hi
    refine ⟨?_, Nat.add_lt_add_left hi _⟩
    cases hs : σ (H.next + i) with
    | none => rfl
    | some pl => have := hW.named _ pl hs; omega
  · rcases n c pl hcp with h1 | ⟨i, _, rfl⟩ | h1
    · exact .inl h1
    · exact .inr (Nat.le_add_right _ _)
    · exact .inr (Nat.le_trans (Nat.le_add_right _ _) h1)
theorem After.trans {w w1 w2 : World} {σ σ1 : Sig} {H H1 H2 : Heap} {τ2 : List AV} {a2 : Act} (e : Ext w σ (Own σ H) w1 σ1 (Own σ1 H1)) (n : ∀ c pl, σ1 c = some pl → σ c = some pl ∨ H.next ≤ c) (hn : H.next ≤ H1.next) (h : After w1 σ1 H1 τ2 H2 a2 w2) : After w σ H τ2 H2 a2 w2 := by
  obtain ⟨σ2, t, r, e2, n2⟩ := h
  refine ⟨σ2, t, r, e.trans e2, fun c pl hc => ?_⟩
  rcases n2 c pl hc with h1 | h1
  · exact n c pl h1
  · exact .inr (Nat.le_trans hn h1)
/-- a result variable, in the model -/
def resultRun (tmps : Array Value) : ResultVar → Sem Value
  | .tmp t => Pure.pure (tmps.getD t undef)
  | .cell a t => do loadVar t (← asAddr (tmps.getD a undef))
theorem results_eq (fn : Func) (tmps : Array Value) : results fn tmps = (do let vs ← fn.results.mapM (resultRun tmps); Pure.pure (if h : vs.size = 1 then vs[0] else .tuple vs)) := by
  unfold results
  congr 2
theorem result_sound {w : World} {σ : Sig} {H : Heap} (hW : WRel w σ H) {τ : List AV} {a : Act} (hτ : TmpsOk w σ (Own σ H) τ a) (r : ResultVar) {v : AV} (h : resultA P τ H r = some v) :
    ∃ v', (resultRun a.tmps r).run P w = .ok v' w ∧ Rep w σ (Own σ H) v v' := by
  cases r with
  | tmp t => cases h; exact ⟨_, rfl, hτ.eval (.tmp t)⟩
  | cell x t =>
    simp only [resultA] at h
    have hx := hτ.eval (.tmp x)
    simp only [aev, Act.eval] at hx
    obtain ⟨v', h1, h2⟩ := load_sound hW hx h
    refine ⟨v', ?_, h2⟩
    unfold loadA at h
    split at h
    · rename_i heq
      rw [heq] at hx
      simp only [resultRun]
      generalize a.tmps.getD x undef = u at hx h1
      cases hx
      simpa [Instr.loadAt, Instr.sureAddr, asAddr] using h1
    · rename_i heq
      rw [heq] at hx
      simp only [resultRun]
      generalize a.tmps.getD x undef = u at hx h1
      cases hx
      simpa [Instr.loadAt, Instr.sureAddr, asAddr] using h1
    · cases h
theorem resultList {w : World} {σ : Sig} {H : Heap} (hW : WRel w σ H) {τ : List AV} {a : Act} (hτ : TmpsOk w σ (Own σ H) τ a) : ∀ (rs : List ResultVar) (vs : List AV), allSome (rs.map (resultA P τ H)) = some vs →
    ∃ us : List Value, (rs.mapM (resultRun a.tmps)).run P w = .ok us w ∧ Reps w σ (Own σ H) vs us
  | [], vs, h => by cases h; exact ⟨[], rfl, rfl, by simp⟩
  | r :: rs, vs, h => by
    simp only [List.map_cons] at h
    cases hr : resultA P τ H r with
    | none => rw [hr] at h; cases h
    | some v =>
      rw [hr] at h
      simp only [allSome] at h
      split at h
      · rename_i l hl
        cases h
        obtain ⟨v', h1, h2⟩ := result_sound hW hτ r hr
        obtain ⟨us, h3, h4⟩ := resultList hW hτ rs l hl
        refine ⟨v' :: us, ?_, by simp [h4.1], fun i x u g1 g2 => ?_⟩
        · rw [List.mapM_cons]
          simp only [Sem.run_bind, h1, Result.andThen_ok, h3, Sem.run_pure]
        · match i with
          | 0 => cases g1; cases g2; exact h2
          | i + 1 => exact h4.2 i x u (by simpa using g1) (by simpa using g2)
      · cases h
theorem results_sound {w : World} {σ : Sig} {H : Heap} (hW : WRel w σ H) {τ : List AV} {a : Act} (hτ : TmpsOk w σ (Own σ H) τ a) {fn : Func} {v : AV} (h : resultsA P τ H fn.results.toList = some v) :
    ∃ v', (results fn a.tmps).run P w = .ok v' w ∧ Rep w σ (Own σ H) v v' := by
  unfold resultsA at h
  rw [results_eq, Array.mapM_eq_mapM_toList]
  split at h
  · rename_i v0 hv
    cases h
    obtain ⟨us, h1, h2⟩ := resultList hW hτ _ _ hv
    have hl := h2.1
    match us, hl with
    | [u], _ =>
      exact ⟨u, by simp [h1], h2.2 0 _ u rfl rfl⟩
  · rename_i vs hne hv
    cases h
    obtain ⟨us, h1, h2⟩ := resultList hW hτ _ _ hv
    have hl : us.length ≠ 1 := by
      rw [← h2.1]
      intro h
      match vs, h with
      | [x], _ => exact hne x rfl
    exact ⟨.tuple us.toArray, by simp [h1, hl], .tup _ _ h2.1 h2.2⟩
  · cases h
theorem callBy_sound {ex : Code → List AV → Heap → Option (Ex × List AV × Heap)} {Good : Code → Prop} (hgood : ∀ (g : Nat) (fn : Func) (c : Code), P.funcs[g]? = some fn → fn.body = some c → Good c)
    (h : ∀ c τ H e τ' H', Good c → ex c τ H = some (e, τ', H') → CodeOk P c τ H e τ' H') : Sound P (callBy P ex) := by
  have key : ∀ f args H v H', callBy P ex f args H = some (v, H') → ∃ fn c e τ' K, P.funcs[f]? = some fn ∧ fn.body = some c ∧ ex c (args ++ List.replicate (fn.ntmps - args.length) undefA) { H with log := [] } = some (e, τ', K) ∧
      (e = .normal ∨ e = .ret) ∧ resultsA P τ' K fn.results.toList = some v ∧ H'.next = K.next ∧ ∀ b, H'.get b = K.get b := by
    intro f args H v H' hc
    unfold callBy at hc
    split at hc
    · rename_i fn hf
      split at hc
      · rename_i c hb
        split at hc
        · cases hc
        · rename_i e τ' K hne hex
          split at hc
          · rename_i v0 hr
            cases hc
            refine ⟨fn, c, e, τ', K, hf, hb, hex, ?_, hr, rfl, fun _ => rfl⟩
            cases e with
            | normal => exact .inl rfl
            | ret => exact .inr rfl
            | exit id => exact absurd rfl (hne id)
          · cases hc
        · cases hc
      · cases hc
    · cases hc
  refine ⟨fun f args H v H' hc => ?_, fun f args H v H' hc => ?_, fun f args H v H' hc => ?_⟩
  · obtain ⟨fn, c, e, τ', K, hf, hb, hex, he, hr, hn, hg⟩ := key f args H v H' hc
    obtain ⟨n1, k1⟩ := h _ _ _ _ _ _ (hgood _ _ _ hf hb) hex
    intro w σ vs hW hvs
    have ho : Own σ { H with log := [] } = Own σ H := Own.congr fun _ => rfl
    refine calls_of_wp hf hb (k1 w σ _ (hW.congr (fun _ => rfl) (Nat.le_refl _)) ⟨?_, rfl⟩ _ fun a' w' haf => ?_)
    · rw [ho]
      refine ⟨by simp [hvs.1], fun i x u h1 h2 => ?_⟩
      simp only [Array.toList_append, Array.toList_replicate] at h2
      rcases Nat.lt_or_ge i args.length with hi | hi
      · rw [List.getElem?_append_left hi] at h1
        rw [List.getElem?_append_left (by rw [← hvs.1]; exact hi)] at h2
        exact hvs.2 i x u h1 h2
      · rw [List.getElem?_append_right hi, List.getElem?_replicate] at h1
        rw [List.getElem?_append_right (by rw [← hvs.1]; exact hi), List.getElem?_replicate] at h2
        split at h1
        · split at h2
          · cases h1; cases h2; exact undef_rep
          · cases h2
        · cases h1
    · obtain ⟨σ', t1, r1, e1, m1⟩ := haf
      obtain ⟨v', g1, g2⟩ := results_sound (P := P) r1 t1 hr
      have hoK : Own σ' H' = Own σ' K := Own.congr hg
      have hpost : a'.defers = [] ∧ ∃ v, (results fn a'.tmps).run P w' = .ok v w' ∧ ∃ v' σ', Ending.returned v = .returned v' ∧ Rep w' σ' (Own σ' H') _ v' ∧ WRel w' σ' H' ∧ Ext w σ (Own σ H) w' σ' (Own σ' H') ∧ ∀ c pl, σ' c = some pl → σ c = some pl ∨ H.next ≤ c :=
        ⟨t1.2, v', g1, v', σ', rfl, by rw [hoK]; exact g2, r1.congr hg (by rw [hn]; exact Nat.le_refl _), by rw [hoK]; rw [ho] at e1; exact e1, m1⟩
      rcases he with rfl | rfl
      · exact hpost
      · exact hpost
  · obtain ⟨fn, c, e, τ', K, hf, hb, hex, he, hr, hn, hg⟩ := key f args H v H' hc
    rw [hn]
    exact (h _ _ _ _ _ _ (hgood _ _ _ hf hb) hex).1
  · obtain ⟨fn, c, e, τ', K, hf, hb, _⟩ := key f args H v H' hc
    exact ⟨fn, c, hf, hb⟩
end
end Go.Proofs.Ytadjimfkfmojkaa.Am

end
section
namespace Go.Proofs.Ytadjimfkfmojkaa.Am
set_option linter.unusedVariables false
/-- blocks from next on are not there -/
def Bd (H : Heap) : Prop := ∀ b, H.next ≤ b → H.get b = none
structure Chg (H H' : Heap) : Prop where
  next : H.next ≤ H'.next
  dom : ∀ b, b < H.next → H.get b = none → H'.get b = none
  keep : ∀ b, b < H.next → b ∉ H'.log → H'.get b = H.get b
  log : ∀ b, b ∈ H.log → b ∈ H'.log
  bd : Bd H → Bd H'
theorem Chg.refl (H : Heap) : Chg H H := ⟨Nat.le_refl _, fun _ _ h => h, fun _ _ _ => rfl, fun _ h => h, fun h => h⟩
theorem Chg.trans {H H' H'' : Heap} (h : Chg H H') (k : Chg H' H'') : Chg H H'' :=
  ⟨Nat.le_trans h.next k.next, fun b hb h0 => k.dom b (Nat.lt_of_lt_of_le hb h.next) (h.dom b hb h0),
   fun b hb hl => (k.keep b (Nat.lt_of_lt_of_le hb h.next) hl).trans (h.keep b hb (fun h1 => hl (k.log b h1))), fun b hb => k.log b (h.log b hb), fun hb => k.bd (h.bd hb)⟩
section
variable {P : Program} {F : TypeId → Option (List TypeId)}

/-- what one operation does to the heap -/
structure OpChg (o : Op) (ρ : Operand → AV) (b : Nat) (H H' : Heap) : Prop where
  next : H'.next = H.next
  keep : ∀ c, c ≠ b → c ∉ writesA o ρ → H'.get c = H.get c
  keepL : ∀ c, c ≠ b → c ∉ H'.log → H'.get c = H.get c
  dom : ∀ c, c ≠ b → H.get c = none → H'.get c = none
  log : ∀ c, c ∈ H.log → c ∈ H'.log
theorem OpChg.same (o : Op) (ρ : Operand → AV) (b : Nat) (H : Heap) : OpChg o ρ b H H := ⟨rfl, fun _ _ _ => rfl, fun _ _ _ => rfl, fun _ _ h => h, fun _ h => h⟩
theorem OpChg.new (o : Op) (ρ : Operand → AV) (b : Nat) (H : Heap) (x : Blk) : OpChg o ρ b H (H.new b x) :=
  ⟨rfl, fun c hc _ => by rw [Heap.get_new, if_neg (fun e => hc e.symm)], fun c hc _ => by rw [Heap.get_new, if_neg (fun e => hc e.symm)], fun c hc h => by rw [Heap.get_new, if_neg (fun e => hc e.symm)]; exact h, fun _ h => h⟩
theorem aop_chg {o : Op} {ρ : Operand → AV} {b : Nat} {H H' : Heap} {v : AV} (h : aop P F o ρ b H = some (.val v H')) : OpChg o ρ b H H' := by
  cases o with
  | store t a x =>
    simp only [aop] at h
    cases hs : storeA P H t (ρ a) (ρ x) with
    | none => rw [hs] at h; cases h
    | some K =>
      rw [hs] at h
      cases h
      unfold storeA at hs
      split at hs
      · rename_i c i off cs n ha hcs hn
        split at hs
        · rename_i y hy
          split at hs
          · rename_i r hr
            split at hs
            · cases hs
              have hw : writesA (.store t a x) ρ = [c] := by simp [writesA, ha, blocksOf]
              refine ⟨rfl, fun d hd hn => ?_, fun d hd hl => ?_, fun d hd h0 => ?_, fun d hl => List.mem_cons_of_mem _ hl⟩
              · rw [Heap.get_put, if_neg (by rintro rfl; exact hn (by rw [hw]; simp))]
              · rw [Heap.get_put, if_neg (by rintro rfl; exact hl (by simp [Heap.put]))]
              · rw [Heap.get_put]
                split
                · rename_i e; subst e; rw [hy] at h0; cases h0
                · exact h0
            · cases hs
          · cases hs
        · cases hs
      · cases hs
  | call c =>
    simp only [aop] at h
    split at h
    · rename_i bi hcal
      cases hbi : builtinA P H b bi c.argTypes (c.args.toList.map ρ) with
      | none => rw [hbi] at h; cases h
      | some r =>
        obtain ⟨v0, K⟩ := r
        rw [hbi] at h
        cases h
        unfold builtinA at hbi
        split at hbi
        · split at hbi
          · cases hbi; exact .same _ _ _ _
          · cases hbi
        · split at hbi
          · rw [Option.map_eq_some_iff] at hbi
            obtain ⟨n, _, hn⟩ := hbi
            cases hn
            exact .same _ _ _ _
          · cases hbi; exact .same _ _ _ _
          · cases hbi
        · rename_i s x heq
          split at hbi
          · split at hbi
            · obtain ⟨a0, a1, hargs, h0, h1⟩ := map_two heq
              unfold appendA at hbi
              split at hbi
              · split at hbi
                · split at hbi
                  · rename_i l m hl hm
                    split at hbi
                    · split at hbi
                      · split at hbi
                        · cases hbi; exact .same _ _ _ _
                        · cases hbi; exact .new _ _ _ _ _
                      · split at hbi
                        · cases hbi; exact .same _ _ _ _
                        · cases hbi; exact .new _ _ _ _ _
                      · rename_i b' i k
                        cases hbi
                        have hw : writesA (.call c) ρ = [b'] := by simp [writesA, hcal, hargs, h0, blocksOf]
                        refine ⟨rfl, fun d hd hn => ?_, fun d hd hl => ?_, fun d hd h0 => ?_, fun d hl => List.mem_cons_of_mem _ hl⟩
                        · rw [Heap.get_new, if_neg (fun e => hd e.symm), Heap.get_put, if_neg (by rintro rfl; exact hn (by rw [hw]; simp))]
                        · rw [Heap.get_new, if_neg (fun e => hd e.symm), Heap.get_put, if_neg (by rintro rfl; exact hl (by simp [Heap.put, Heap.new]))]
                        · rw [Heap.get_new, if_neg (fun e => hd e.symm), Heap.get_put]
                          split
                          · rfl
                          · exact h0
                      · cases hbi
                    · cases hbi
                  · cases hbi
                · cases hbi
              · cases hbi
            · cases hbi
          · cases hbi
        · split at hbi
          · cases hbi; exact .same _ _ _ _
          · cases hbi
        · split at hbi
          · cases hbi; exact .same _ _ _ _
          · cases hbi
        · rename_i x heq
          split at hbi
          · rename_i t htt
            cases hcl : clearA P H t x with
            | none => rw [hcl] at hbi; cases hbi
            | some K1 =>
              rw [hcl] at hbi
              cases hbi
              obtain ⟨a0, hargs, h0⟩ := map_one heq
              unfold clearA at hcl
              split at hcl
              · split at hcl
                · split at hcl
                  · cases hcl; exact .same _ _ _ _
                  · rename_i d i k
                    split at hcl
                    · rename_i y hy
                      split at hcl
                      · cases hcl
                        have hw : writesA (.call c) ρ = [d] := by simp [writesA, hcal, hargs, h0, blocksOf]
                        refine ⟨rfl, fun d' hd hn => ?_, fun d' hd hl => ?_, fun d' hd h0 => ?_, fun d' hl => List.mem_cons_of_mem _ hl⟩
                        · rw [Heap.get_put, if_neg (by rintro rfl; exact hn (by rw [hw]; simp))]
                        · rw [Heap.get_put, if_neg (by rintro rfl; exact hl (by simp [Heap.put]))]
                        · rw [Heap.get_put]
                          split
                          · rename_i e; subst e; rw [hy] at h0; cases h0
                          · exact h0
                      · cases hcl
                    · cases hcl
                  · cases hcl
                · cases hcl
              · cases hcl
          · cases hbi
        · cases hbi
    · split at h <;> cases h
    · cases h
  | makeFunc fn first cap => cases fn <;> simp only [aop] at h <;> (try split at h) <;> cases h <;> exact .same _ _ _ _
  | buildSlice t len parts =>
    simp only [aop] at h
    split at h
    · split at h
      · split at h
        · rename_i n z _ _ _
          cases hf : fillRows n (List.replicate len z) (parts.toList.map fun p => (p.1, ρ p.2)) with
          | none => rw [hf] at h; cases h
          | some rows => rw [hf] at h; cases h; exact .new _ _ _ _ _
        · cases h
      · cases h
    · cases h
  | _ =>
    simp only [aop] at h
    first
      | (obtain ⟨_, rfl⟩ := vOpt h; exact .same _ _ _ _)
      | (repeat' (first | (cases h; exact .same _ _ _ _) | (cases h; exact .new _ _ _ _ _) | (cases h; done) | (obtain ⟨_, rfl⟩ := vOpt h; exact .same _ _ _ _) | split at h))

theorem hide_next (base mask : Nat) : ∀ (k : Nat) (H : Heap), (hideA base mask k H).next = H.next ∧ (hideA base mask k H).log = H.log
  | 0, H => ⟨rfl, rfl⟩
  | k + 1, H => by
    unfold hideA
    split
    · exact hide_next base mask k H
    · exact hide_next base mask k _
theorem hide_get (base mask : Nat) : ∀ (k : Nat) (H : Heap) (c : Nat), (hideA base mask k H).get c = if (∃ j, j < k ∧ mask.testBit j = false ∧ c = base + j) then none else H.get c
  | 0, H, c => by simp [hideA]
  | k + 1, H, c => by
    unfold hideA
    rw [hide_get base mask k]
    by_cases h1 : ∃ j, j < k ∧ mask.testBit j = false ∧ c = base + j
    · obtain ⟨j, hj⟩ := h1
      rw [if_pos ⟨j, hj⟩, if_pos ⟨j, by omega, hj.2⟩]
    · rw [if_neg h1]
      by_cases hm : mask.testBit k = true
      · rw [if_pos hm, if_neg]
        rintro ⟨j, hj, hb, hc⟩
        by_cases hjk : j = k
        · subst hjk; rw [hm] at hb; cases hb
        · exact h1 ⟨j, by omega, hb, hc⟩
      · rw [if_neg hm]
        show (H.tr.set (base + k) none).get c = _
        rw [Tr.get_set]
        by_cases hc : base + k = c
        · rw [if_pos hc, if_pos ⟨k, by omega, by simpa using hm, hc.symm⟩]
        · rw [if_neg hc, if_neg]
          · rfl
          rintro ⟨j, hj, hb, hc'⟩
          by_cases hjk : j = k
          · subst hjk; exact hc hc'.symm
          · exact h1 ⟨j, by omega, hb, hc'⟩
theorem show_next (base mask : Nat) (H : Heap) : ∀ (k : Nat) (K : Heap), (showA base mask H k K).next = K.next ∧ (showA base mask H k K).log = K.log
  | 0, K => ⟨rfl, rfl⟩
  | k + 1, K => by
    unfold showA
    split
    · exact show_next base mask H k K
    · exact show_next base mask H k _
theorem show_get (base mask : Nat) (H : Heap) : ∀ (k : Nat) (K : Heap) (c : Nat), (showA base mask H k K).get c = if (∃ j, j < k ∧ mask.testBit j = false ∧ c = base + j) then H.get c else K.get c
  | 0, K, c => by simp [showA]
  | k + 1, K, c => by
    unfold showA
    rw [show_get base mask H k]
    by_cases h1 : ∃ j, j < k ∧ mask.testBit j = false ∧ c = base + j
    · obtain ⟨j, hj⟩ := h1
      rw [if_pos ⟨j, hj⟩, if_pos ⟨j, by omega, hj.2⟩]
    · rw [if_neg h1]
      by_cases hm : mask.testBit k = true
      · rw [if_pos hm, if_neg]
        rintro ⟨j, hj, hb, hc⟩
        by_cases hjk : j = k
        · subst hjk; rw [hm] at hb; cases hb
        · exact h1 ⟨j, by omega, hb, hc⟩
      · rw [if_neg hm]
        show (K.tr.set (base + k) (H.tr.get (base + k))).get c = _
        rw [Tr.get_set]
        by_cases hc : base + k = c
        · rw [if_pos hc, if_pos ⟨k, by omega, by simpa using hm, hc.symm⟩, ← hc]; rfl
        · rw [if_neg hc, if_neg]
          · rfl
          rintro ⟨j, hj, hb, hc'⟩
          by_cases hjk : j = k
          · subst hjk; exact hc hc'.symm
          · exact h1 ⟨j, by omega, hb, hc'⟩

/-- the same, of blocks older than B; W: what was written -/
structure Old (B : Nat) (W : Nat → Prop) (H H' : Heap) : Prop where
  next : H.next ≤ H'.next
  dom : ∀ b, b < B → H.get b = none → H'.get b = none
  keep : ∀ b, b < B → ¬ W b → H'.get b = H.get b
  bd : Bd H → Bd H'
theorem Old.refl (B : Nat) (W : Nat → Prop) (H : Heap) : Old B W H H := ⟨Nat.le_refl _, fun _ _ h => h, fun _ _ _ => rfl, fun h => h⟩
theorem Old.trans {B : Nat} {W W' : Nat → Prop} {H H' H'' : Heap} (h : Old B W H H') (k : Old B W' H' H'') (hW : ∀ b, W b → W' b) : Old B W' H H'' :=
  ⟨Nat.le_trans h.next k.next, fun b hb h0 => k.dom b hb (h.dom b hb h0), fun b hb hn => (k.keep b hb hn).trans (h.keep b hb (fun hw => hn (hW b hw))), fun hb => k.bd (h.bd hb)⟩
variable {call : FuncId → List AV → Heap → Option (AV × Heap)} {ops : Array Oper} {base : Nat}
theorem aop_bd {o : Op} {ρ : Operand → AV} {b : Nat} {H H' : Heap} {v : AV} (h : aop P F o ρ b H = some (.val v H')) (hb : b < H.next) (h0 : Bd H) : Bd H' := by
  have hc := aop_chg h
  intro c hcn
  rw [hc.next] at hcn
  exact hc.dom c (by omega) (h0 c hcn)
theorem stepA_old (hc : ∀ f args H v H', Bd H → call f args H = some (v, H') → Chg H H') {B i : Nat} {τ τ' : List AV} {H H' : Heap} (hbd : Bd H) (hB : B ≤ base) (hlt : base + i < H.next) (h : stepA P F call ops base i τ H = some (τ', H')) : Old B (· ∈ H'.log) H H' ∧ ∀ c, c ∈ H.log → c ∈ H'.log := by
  unfold stepA at h
  split at h
  · cases h
  · split at h
    · split at h
      · rename_i hop
        cases h
        have hcg := aop_chg hop
        exact ⟨⟨by rw [hcg.next]; exact Nat.le_refl _, fun c hcb h0 => hcg.dom c (by omega) h0, fun c hcb hn => hcg.keepL c (by omega) hn, aop_bd hop hlt⟩, hcg.log⟩
      · split at h
        · rename_i hcall
          cases h
          have hcg := hc _ _ _ _ _ hbd hcall
          exact ⟨⟨hcg.next, fun c hcb h0 => hcg.dom c (by omega) h0, fun c hcb hn => hcg.keep c (by omega) hn, hcg.bd⟩, hcg.log⟩
        · cases h
      · cases h
    · cases h; exact ⟨.refl _ _ _, fun _ h => h⟩
    · cases h
theorem opsA_old (hc : ∀ f args H v H', Bd H → call f args H = some (v, H') → Chg H H') {B : Nat} (hB : B ≤ base) : ∀ (l : List Nat) (τ τ' : List AV) (H H' : Heap), Bd H → (∀ i ∈ l, base + i < H.next) → opsA P F call ops base l τ H = some (τ', H') →
    Old B (· ∈ H'.log) H H' ∧ ∀ c, c ∈ H.log → c ∈ H'.log
  | [], τ, τ', H, H', _, _, h => by cases h; exact ⟨.refl _ _ _, fun _ h => h⟩
  | i :: l, τ, τ', H, H', hbd, hl, h => by
    unfold opsA at h
    split at h
    · rename_i τ1 H1 hs
      obtain ⟨h1, l1⟩ := stepA_old hc hbd hB (hl i (by simp)) hs
      obtain ⟨h2, l2⟩ := opsA_old hc hB l _ _ _ _ (h1.bd hbd) (fun j hj => Nat.lt_of_lt_of_le (hl j (by simp [hj])) h1.next) h
      exact ⟨h1.trans h2 l2, fun c hcl => l2 c (l1 c hcl)⟩
    · cases h

def touched (r : Option Rec) (c : Nat) : Prop := ∃ x, r = some x ∧ (c ∈ x.writes ∨ c ∈ x.made ∨ (x.isCall = true ∧ x.lo ≤ c ∧ c < x.hi))
structure DStep (base i : Nat) (H H' : Heap) (r : Option Rec) : Prop where
  next : H.next ≤ H'.next
  log : H'.log = H.log
  keep : Bd H → ∀ c, ¬ touched r c → H'.get c = H.get c
  dom : ∀ c, c < H.next → c ≠ base + i → H.get c = none → H'.get c = none
  bd : Bd H → Bd H'
  made : ∀ x, r = some x → (∀ c ∈ x.made, c = base + i) ∧ (x.isCall = true → x.lo = H.next)
theorem drawStep_chg (hc : ∀ f args H v H', Bd H → call f args H = some (v, H') → Chg H H') {i mask : Nat} {τ τ' : List AV} {H H' : Heap} {r : Option Rec} (hbd : Bd H) (hlt : base + i < H.next) (h : drawStep P F call ops base i mask τ H = some (τ', H', r)) : DStep base i H H' r := by
  unfold drawStep at h
  split at h
  · cases h
  · rename_i o ho
    split at h
    · split at h
      · rename_i v K hop
        cases h
        have hcg := aop_chg hop
        refine ⟨by show H.next ≤ K.next; rw [hcg.next]; exact Nat.le_refl _, rfl, fun _ c hn => ?_, fun c _ hcb h0 => hcg.dom c hcb h0, fun h0 c hcn => aop_bd hop hlt h0 c hcn, fun x hx => ?_⟩
        · refine hcg.keep c (fun e => hn ⟨_, rfl, .inr (.inl (by simp [e]))⟩) (fun hw => hn ⟨_, rfl, .inl hw⟩)
        · cases hx; exact ⟨by simp, by simp⟩
      · rename_i f args hop
        split at h
        · rename_i v K hcall
          cases h
          have hn1 : (hideA base mask i H).next = H.next := (hide_next base mask i H).1
          have hbd1 : Bd ({ hideA base mask i H with log := [] } : Heap) := fun d hd => by
            show (hideA base mask i H).get d = none
            rw [hide_get]
            split
            · rfl
            · exact hbd d (by simp only [hn1] at hd; exact hd)
          have hcg := hc _ _ _ _ _ hbd1 hcall
          have hn2 := hcg.next
          simp only [hn1] at hn2
          refine ⟨by show H.next ≤ (showA base mask H i K).next; rw [(show_next base mask H i K).1]; exact hn2, rfl, fun h0 c hn => ?_, fun c hcn hcb h0 => ?_, fun h0 c hcn => ?_, fun x hx => ?_⟩
          · show (showA base mask H i K).get c = H.get c
            rw [show_get]
            split
            · rfl
            · rename_i hh
              have hg : ({ hideA base mask i H with log := [] } : Heap).get c = H.get c := by
                show (hideA base mask i H).get c = _
                rw [hide_get, if_neg hh]
              rcases Nat.lt_or_ge c H.next with hcn | hcn
              · by_cases hl : c ∈ K.log
                · cases hgc : (hideA base mask i H).get c with
                  | none =>
                    have h1 : ({ hideA base mask i H with log := [] } : Heap).get c = none := hgc
                    rw [hcg.dom c (by simp only [hn1]; exact hcn) h1, ← hg, h1]
                  | some y => exact absurd ⟨_, rfl, .inl (List.mem_filter.2 ⟨hl, by simp [hgc]⟩)⟩ hn
                · rw [hcg.keep c (by simp only [hn1]; exact hcn) hl]; exact hg
              · rcases Nat.lt_or_ge c K.next with hck | hck
                · exact absurd ⟨_, rfl, .inr (.inr ⟨rfl, hcn, hck⟩)⟩ hn
                · have hbd : Bd ({ hideA base mask i H with log := [] } : Heap) := fun d hd => by
                    show (hideA base mask i H).get d = none
                    rw [hide_get]
                    split
                    · rfl
                    · exact h0 d (by simp only [hn1] at hd; exact hd)
                  rw [hcg.bd hbd c hck, h0 c hcn]
          · show (showA base mask H i K).get c = none
            rw [show_get]
            split
            · exact h0
            · rename_i hh
              refine hcg.dom c (by simp only [hn1]; exact hcn) ?_
              show (hideA base mask i H).get c = none
              rw [hide_get, if_neg hh]
              exact h0
          · show (showA base mask H i K).get c = none
            have hcn' : K.next ≤ c := by
              have : (showA base mask H i K).next ≤ c := hcn
              rwa [(show_next base mask H i K).1] at this
            rw [show_get]
            split
            · exact h0 c (by omega)
            · have hbd : Bd ({ hideA base mask i H with log := [] } : Heap) := fun d hd => by
                show (hideA base mask i H).get d = none
                rw [hide_get]
                split
                · rfl
                · exact h0 d (by simp only [hn1] at hd; exact hd)
              exact hcg.bd hbd c hcn'
          · cases hx; exact ⟨by simp, fun _ => rfl⟩
        · cases h
      · cases h
    · cases h
      exact ⟨Nat.le_refl _, rfl, fun _ _ _ => rfl, fun _ _ _ h => h, fun h => h, fun x hx => by cases hx⟩
    · cases h
theorem drawA_old (hc : ∀ f args H v H', Bd H → call f args H = some (v, H') → Chg H H') {B : Nat} (hB : B ≤ base) {before : List Nat} : ∀ (l : List Nat) (τ τ' : List AV) (H K : Heap) (rs rs' : List Rec), Bd H → (∀ i ∈ l, base + i < H.next) → B ≤ H.next →
    drawA P F call ops base before l τ H rs = some (τ', K, rs') → H.next ≤ K.next ∧ K.log = H.log ∧ Bd K ∧ (∀ b, b < B → H.get b = none → K.get b = none) ∧ (∀ b, b < B → b ∉ rs'.flatMap (·.writes) → K.get b = H.get b) ∧ (∀ x ∈ rs, x ∈ rs')
  | [], τ, τ', H, K, rs, rs', hbd, _, _, h => by cases h; exact ⟨Nat.le_refl _, rfl, hbd, fun _ _ h => h, fun _ _ _ => rfl, fun _ h => h⟩
  | i :: l, τ, τ', H, K, rs, rs', hbd, hl, hBn, h => by
    unfold drawA at h
    split at h
    · rename_i τ1 H1 hs
      have d := drawStep_chg hc hbd (hl i (by simp)) hs
      obtain ⟨a1, a2, a3, a4, a5, a6⟩ := drawA_old hc hB l _ _ _ _ _ _ (d.bd hbd) (fun j hj => Nat.lt_of_lt_of_le (hl j (by simp [hj])) d.next) (Nat.le_trans hBn d.next) h
      refine ⟨Nat.le_trans d.next a1, a2.trans d.log, a3, fun b hb h0 => a4 b hb (d.dom b (by omega) (by omega) h0), fun b hb hn => (a5 b hb hn).trans (d.keep hbd b ?_), a6⟩
      rintro ⟨x, hx, _⟩
      cases hx
    · rename_i τ1 H1 r hs
      split at h
      · have d := drawStep_chg hc hbd (hl i (by simp)) hs
        obtain ⟨a1, a2, a3, a4, a5, a6⟩ := drawA_old hc hB l _ _ _ _ _ _ (d.bd hbd) (fun j hj => Nat.lt_of_lt_of_le (hl j (by simp [hj])) d.next) (Nat.le_trans hBn d.next) h
        refine ⟨Nat.le_trans d.next a1, a2.trans d.log, a3, fun b hb h0 => a4 b hb (d.dom b (by omega) (by omega) h0), fun b hb hn => (a5 b hb hn).trans (d.keep hbd b ?_), fun x hx => a6 x (by simp [hx])⟩
        rintro ⟨x, hx, h1 | h1 | ⟨h1, h2, _⟩⟩
        · cases hx
          exact hn (List.mem_flatMap.2 ⟨r, a6 r (by simp), h1⟩)
        · have := (d.made x hx).1 b h1; omega
        · have := (d.made x hx).2 h1; omega
      · cases h
    · cases h
theorem region_chg (hc : ∀ f args H v H', Bd H → call f args H = some (v, H') → Chg H H') {draw : Bool} {τ τ' : List AV} {H H' : Heap} (hbd : Bd H) (h : regionA P F call ops draw τ H = some (τ', H')) : Chg H H' := by
  have hbd0 : Bd { H with next := H.next + ops.size } := fun b hb => hbd b (Nat.le_trans (Nat.le_add_right _ _) hb)
  cases draw with
  | false =>
    simp only [regionA, Bool.false_eq_true, if_false] at h
    obtain ⟨o, l⟩ := opsA_old hc (Nat.le_refl H.next) _ _ _ _ _ hbd0 (fun i hi => by rw [List.mem_range] at hi; exact Nat.add_lt_add_left hi _) h
    exact ⟨Nat.le_trans (Nat.le_add_right _ _) o.next, o.dom, o.keep, l, fun _ => o.bd hbd0⟩
  | true =>
    simp only [regionA, if_true] at h
    split at h
    · rename_i τ1 K rs hd
      cases h
      obtain ⟨a1, a2, a3, a4, a5, _⟩ := drawA_old hc (Nat.le_refl H.next) _ _ _ _ _ _ _ hbd0 (fun i hi => by rw [List.mem_range] at hi; exact Nat.add_lt_add_left hi _) (Nat.le_add_right _ _) hd
      refine ⟨Nat.le_trans (Nat.le_add_right _ _) a1, a4, fun b hb hn => a5 b hb (fun hw => hn ?_), fun b hb => ?_, fun _ => a3⟩
      · simp only [List.mem_append]; exact .inl hw
      · simp only [List.mem_append]; right; rw [a2]; exact hb
    · cases h

theorem callBy_chg {ex : Code → List AV → Heap → Option (Ex × List AV × Heap)} (h : ∀ c τ H e τ' H', Bd H → ex c τ H = some (e, τ', H') → Chg H H') {f : FuncId} {args : List AV} {H : Heap} {v : AV} {H' : Heap} (hbd : Bd H)
    (hc : callBy P ex f args H = some (v, H')) : Chg H H' := by
  unfold callBy at hc
  split at hc
  · split at hc
    · split at hc
      · cases hc
      · rename_i e τ' K hne hex
        split at hc
        · cases hc
          have hk := h _ _ { H with log := [] } _ _ _ hbd hex
          refine ⟨hk.next, hk.dom, fun b hb hn => hk.keep b hb (fun hl => hn ?_), fun b hb => ?_, fun _ => hk.bd hbd⟩
          · simp only [List.mem_append, List.mem_filter, decide_eq_true_eq]; exact .inl ⟨hl, hb⟩
          · simp only [List.mem_append]; exact .inr hb
        · cases hc
      · cases hc
    · cases hc
  · cases hc
theorem exec_chg (f : Nat) : ∀ (c : Code) (τ : List AV) (H : Heap) (e : Ex) (τ' : List AV) (H' : Heap), Bd H → exec P F f c τ H = some (e, τ', H') → Chg H H' := by
  induction f with
  | zero => intro c τ H e τ' H' _ h; cases h
  | succ f ih =>
    intro c τ H e τ' H' hbd h
    cases c with
    | skip => cases h; exact .refl _
    | label l => cases h; exact .refl _
    | exit id => cases h; exact .refl _
    | ret => cases h; exact .refl _
    | region id ops draw =>
      simp only [exec] at h
      split at h
      · rename_i hr; cases h; exact region_chg (fun f args H v H' hb hcall => callBy_chg ih hb hcall) hbd hr
      · cases h
    | seq x y =>
      simp only [exec] at h
      split at h
      · rename_i h1
        have k1 := ih _ _ _ _ _ _ hbd h1
        exact k1.trans (ih _ _ _ _ _ _ (k1.bd hbd) h)
      · exact ih _ _ _ _ _ _ hbd h
    | cond x c1 c2 =>
      simp only [exec] at h
      split at h
      · exact ih _ _ _ _ _ _ hbd h
      · exact ih _ _ _ _ _ _ hbd h
      · cases h
    | block id c1 =>
      simp only [exec] at h
      split at h
      · rename_i h1
        split at h
        · cases h; exact ih _ _ _ _ _ _ hbd h1
        · cases h; exact ih _ _ _ _ _ _ hbd h1
      · exact ih _ _ _ _ _ _ hbd h
    | loop c1 =>
      simp only [exec] at h
      split at h
      · rename_i h1
        have k1 := ih _ _ _ _ _ _ hbd h1
        exact k1.trans (ih _ _ _ _ _ _ (k1.bd hbd) h)
      · exact ih _ _ _ _ _ _ hbd h
    | _ => simp [exec] at h
end
end Go.Proofs.Ytadjimfkfmojkaa.Am

end
section
namespace Go.Proofs.Ytadjimfkfmojkaa.Am
set_option linter.unusedVariables false
def usesA : Op → List Operand
  | .move x | .assign x | .box _ x | .load _ x | .nilCheck x | .unOp _ _ x | .convert _ _ x | .fieldAddr _ x _ | .field _ x _ | .extract x _ => [x]
  | .pick c a b => [c, a, b]
  | .build _ ps | .buildSlice _ _ ps => ps.toList.map (·.2)
  | .store _ a v | .binOp _ _ a v _ | .makeSlice _ a v | .indexAddr _ a v | .index _ a v => [a, v]
  | .makeFunc _ _ c => c.toList
  | .slice _ x l h m => x :: (l.toList ++ h.toList ++ m.toList)
  | .call c => (match c.callee with | .value f => [f] | _ => []) ++ c.args.toList
  | _ => []
section
variable {P : Program} {F : TypeId → Option (List TypeId)}
theorem map_rho {ρ ρ2 : Operand → AV} {l : List Operand} (h : ∀ x ∈ l, ρ x = ρ2 x) : l.map ρ = l.map ρ2 := List.map_congr_left h
theorem parts_rho {ρ ρ2 : Operand → AV} {ps : List (Nat × Operand)} (h : ∀ x ∈ ps.map (·.2), ρ x = ρ2 x) : (ps.map fun p => (p.1, ρ p.2)) = ps.map fun p => (p.1, ρ2 p.2) :=
  List.map_congr_left fun p hp => by rw [h p.2 (List.mem_map.2 ⟨p, hp, rfl⟩)]
theorem flat_rho {ρ ρ2 : Operand → AV} : ∀ {l : List Operand}, (∀ x ∈ l, ρ x = ρ2 x) → (l.flatMap fun x => blocksOf (ρ x)) = l.flatMap fun x => blocksOf (ρ2 x)
  | [], _ => rfl
  | a :: l, h => by simp only [List.flatMap_cons]; rw [h a (by simp), flat_rho fun x hx => h x (by simp [hx])]
theorem aop_rho {o : Op} {ρ ρ2 : Operand → AV} (h : ∀ x ∈ usesA o, ρ x = ρ2 x) (b : Nat) (H : Heap) : aop P F o ρ b H = aop P F o ρ2 b H ∧ readsA o ρ = readsA o ρ2 ∧ writesA o ρ = writesA o ρ2 := by
  cases o with
  | build t ps => refine ⟨?_, rfl, rfl⟩; simp only [aop]; rw [parts_rho h]
  | buildSlice t n ps => refine ⟨?_, rfl, rfl⟩; simp only [aop]; rw [parts_rho h]
  | makeFunc fn first c =>
    refine ⟨?_, rfl, rfl⟩
    cases fn <;> simp only [aop]
    rw [map_rho (l := c.toList) h]
  | slice t x l hi m =>
    have hx := h x (by simp [usesA])
    have hl : l.map ρ = l.map ρ2 := by cases l with
      | none => rfl
      | some y => simp [h y (by simp [usesA])]
    have hh : hi.map ρ = hi.map ρ2 := by cases hi with
      | none => rfl
      | some y => simp [h y (by simp [usesA])]
    have hm : m.map ρ = m.map ρ2 := by cases m with
      | none => rfl
      | some y => simp [h y (by simp [usesA])]
    exact ⟨by simp only [aop]; rw [hx, hl, hh, hm], by simp only [readsA]; rw [hx], rfl⟩
  | call c =>
    have ha : c.args.toList.map ρ = c.args.toList.map ρ2 := map_rho fun x hx => h x (by simp only [usesA, List.mem_append]; exact .inr hx)
    have hm : ∀ x ∈ c.args.toList, ρ x = ρ2 x := fun x hx => h x (by simp only [usesA, List.mem_append]; exact .inr hx)
    have hr : readsA (.call c) ρ = readsA (.call c) ρ2 := by
      simp only [readsA]
      split
      · exact flat_rho hm
      · exact flat_rho hm
      · rfl
    have hk : writesA (.call c) ρ = writesA (.call c) ρ2 := by
      simp only [writesA]
      split
      · exact flat_rho fun x hx => hm x (List.mem_of_mem_take hx)
      · exact flat_rho hm
      · rfl
    refine ⟨?_, hr, hk⟩
    simp only [aop]
    split
    · rw [ha]
    · rename_i f hf
      rw [h f (by simp only [usesA, hf]; simp), ha]
    · rfl
  | store t a v => refine ⟨by simp only [aop]; rw [h a (by simp [usesA]), h v (by simp [usesA])], by simp only [readsA]; rw [h a (by simp [usesA])], by simp only [writesA]; rw [h a (by simp [usesA])]⟩
  | load t a => refine ⟨by simp only [aop]; rw [h a (by simp [usesA])], by simp only [readsA]; rw [h a (by simp [usesA])], rfl⟩
  | indexAddr t a v => refine ⟨by simp only [aop]; rw [h a (by simp [usesA]), h v (by simp [usesA])], by simp only [readsA]; rw [h a (by simp [usesA])], rfl⟩
  | pick c x y => refine ⟨by simp only [aop]; rw [h c (by simp [usesA]), h x (by simp [usesA]), h y (by simp [usesA])], rfl, rfl⟩
  | binOp op t x y u => refine ⟨by simp only [aop]; rw [h x (by simp [usesA]), h y (by simp [usesA])], rfl, rfl⟩
  | makeSlice t x y => refine ⟨by simp only [aop]; rw [h x (by simp [usesA]), h y (by simp [usesA])], rfl, rfl⟩
  | index t x y => refine ⟨by simp only [aop]; rw [h x (by simp [usesA]), h y (by simp [usesA])], rfl, rfl⟩
  | move x => refine ⟨by simp only [aop]; rw [h x (by simp [usesA])], rfl, rfl⟩
  | assign x => refine ⟨by simp only [aop]; rw [h x (by simp [usesA])], rfl, rfl⟩
  | box t x => refine ⟨by simp only [aop]; rw [h x (by simp [usesA])], rfl, rfl⟩
  | nilCheck x => refine ⟨by simp only [aop]; rw [h x (by simp [usesA])], rfl, rfl⟩
  | unOp op t x => refine ⟨by simp only [aop]; rw [h x (by simp [usesA])], rfl, rfl⟩
  | convert s d x => refine ⟨by simp only [aop]; rw [h x (by simp [usesA])], rfl, rfl⟩
  | fieldAddr s x f => refine ⟨by simp only [aop]; rw [h x (by simp [usesA])], rfl, rfl⟩
  | field s x f => refine ⟨by simp only [aop]; rw [h x (by simp [usesA])], rfl, rfl⟩
  | extract x i => refine ⟨by simp only [aop]; rw [h x (by simp [usesA])], rfl, rfl⟩
  | _ => exact ⟨rfl, rfl, rfl⟩

/-- the same operation over another heap -/
def Local (P : Program) (F : TypeId → Option (List TypeId)) (o : Op) (ρ : Operand → AV) (b : Nat) (v : AV) (H' K : Heap) : Prop :=
  ∃ K', aop P F o ρ b K = some (.val v K') ∧ K'.next = K.next ∧ ∀ c, K'.get c = if c ∈ writesA o ρ ∨ c = b then H'.get c else K.get c
theorem Local.same {o : Op} {ρ : Operand → AV} {b : Nat} {v : AV} {H K : Heap} (hb : K.get b = H.get b) (hw : writesA o ρ = []) (h : aop P F o ρ b K = some (.val v K)) : Local P F o ρ b v H K := by
  refine ⟨K, h, rfl, fun c => ?_⟩
  rw [hw]
  split
  · rename_i hc
    rcases hc with hc | hc
    · simp at hc
    · rw [hc]; exact hb
  · rfl
theorem Local.new {o : Op} {ρ : Operand → AV} {b : Nat} {v : AV} {H K : Heap} {x : Blk} (hw : writesA o ρ = []) (h : aop P F o ρ b K = some (.val v (K.new b x))) : Local P F o ρ b v (H.new b x) K := by
  refine ⟨_, h, rfl, fun c => ?_⟩
  rw [hw, Heap.get_new, Heap.get_new]
  by_cases hc : b = c
  · rw [if_pos hc, if_pos hc, if_pos (.inr hc.symm)]
  · rw [if_neg hc, if_neg]
    rintro (h1 | h1)
    · simp at h1
    · exact hc h1.symm
theorem rowsOf_local {H K : Heap} {n : Nat} {x : AV} (hr : ∀ c ∈ blocksOf x, K.get c = H.get c) : rowsOf K n x = rowsOf H n x := by
  cases x <;> simp only [rowsOf]
  rw [hr _ (by simp [blocksOf])]
theorem sz_local {H K : Heap} {x : AV} (hr : ∀ c ∈ slOf x, K.get c = H.get c) : szOf K x = szOf H x := by
  cases x <;> simp only [szOf]
  rw [hr _ (by simp [slOf])]
theorem aop_local {o : Op} {ρ : Operand → AV} {b : Nat} {v : AV} {H H' : Heap} (h : aop P F o ρ b H = some (.val v H')) (K : Heap) (hr : ∀ c ∈ readsA o ρ, K.get c = H.get c) (hb : K.get b = H.get b) : Local P F o ρ b v H' K := by
  cases o with
  | load t a =>
    simp only [aop] at h
    obtain ⟨h1, rfl⟩ := vOpt h
    refine .same hb rfl ?_
    have : loadA P K t (ρ a) = loadA P H' t (ρ a) := by
      simp only [readsA] at hr
      generalize ρ a = x at hr
      cases x <;> simp only [loadA]
      rw [hr _ (by simp [blocksOf])]
    simp only [aop, this, h1, Option.map_some]
  | indexAddr t x ix =>
    simp only [aop] at h
    obtain ⟨h1, rfl⟩ := vOpt h
    refine .same hb rfl ?_
    have : indexAddrA P (szOf K (ρ x)) t (ρ x) (ρ ix) = some v := by
      rw [sz_local hr]
      exact h1
    simp only [aop, this, Option.map_some]
  | slice t x lo hi mx =>
    simp only [aop] at h
    split at h
    · cases h
    · rename_i hcnd
      obtain ⟨h1, rfl⟩ := vOpt h
      refine .same hb rfl ?_
      have : sliceA P (szOf K (ρ x)) t (ρ x) (lo.map ρ) (hi.map ρ) (mx.map ρ) = some v := by
        rw [sz_local hr]
        exact h1
      simp only [aop, this, Option.map_some]
      rw [if_neg hcnd]
  | store t a x =>
    simp only [aop] at h
    cases hst : storeA P H t (ρ a) (ρ x) with
    | none => rw [hst] at h; cases h
    | some H1 =>
      rw [hst] at h
      cases h
      simp only [readsA] at hr
      have hst2 := hst
      unfold storeA at hst
      split at hst
      · rename_i c i off cs n ha hcs hn
        rw [ha] at hr
        have hkc := hr c (by simp [blocksOf])
        split at hst
        · rename_i y hy
          split at hst
          · rename_i r hrw
            split at hst
            · rename_i hcond
              cases hst
              refine ⟨K.put c (some { y with rows := y.rows.set i (rowStore r off cs) }), ?_, rfl, fun d => ?_⟩
              · simp only [aop, storeA, ha, hcs, hn, hkc, hy, hrw]
                rw [if_pos hcond]
                rfl
              · have hw : writesA (.store t a x) ρ = [c] := by simp [writesA, ha, blocksOf]
                rw [hw, Heap.get_put, Heap.get_put]
                by_cases hd : c = d
                · rw [if_pos hd, if_pos hd, if_pos (.inl (by simp [hd]))]
                · rw [if_neg hd, if_neg hd]
                  split
                  · rename_i hc
                    rcases hc with hc | hc
                    · simp at hc; exact absurd hc.symm hd
                    · rw [hc]; exact hb
                  · rfl
            · cases hst
          · cases hst
        · cases hst
      · cases hst
  | call c =>
    simp only [aop] at h
    split at h
    · rename_i bi hcal
      cases hbi : builtinA P H b bi c.argTypes (c.args.toList.map ρ) with
      | none => rw [hbi] at h; cases h
      | some r =>
        obtain ⟨v0, H1⟩ := r
        rw [hbi] at h
        cases h
        have fin : ∀ {K' : Heap} {u : AV}, builtinA P K b bi c.argTypes (c.args.toList.map ρ) = some (u, K') → aop P F (.call c) ρ b K = some (.val u K') := fun hk => by
          simp only [aop, hcal, hk, Option.map_some]
        have wnil : bi ≠ .append ∧ bi ≠ .clear → writesA (.call c) ρ = [] := fun hne => by
          simp only [writesA, hcal]
          cases bi <;> first | rfl | exact absurd rfl hne.1 | exact absurd rfl hne.2
        have hbi0 := hbi
        unfold builtinA at hbi
        split at hbi
        · rename_i s heq
          split at hbi
          · rename_i hty
            cases hbi
            exact .same hb (wnil (by simp)) (fin (by rw [heq]; simp only [builtinA, hty]))
          · cases hbi
        · rename_i x hne heq
          have e : H1 = H := by
            split at hbi
            · rw [Option.map_eq_some_iff] at hbi
              obtain ⟨n, _, hn⟩ := hbi
              cases hn
              rfl
            · cases hbi; rfl
            · cases hbi
          subst e
          refine .same hb (wnil (by simp)) (fin ?_)
          rw [heq]
          unfold builtinA
          split
          · rename_i s e1 e2; cases e2; exact absurd rfl (hne s)
          · rename_i x' hne' e1 e2
            cases e2
            split at hbi
            · rw [Option.map_eq_some_iff] at hbi
              obtain ⟨n, hl, hn⟩ := hbi
              cases hn
              simp only [hl, Option.map_some]
            · cases hbi; rfl
            · cases hbi
          · rename_i e1 e2; cases e2
          · rename_i e1 e2; cases e2
          · rename_i e1 e2; cases e2
          · rename_i e1 e2; cases e1
          · rename_i e1 e2 e3 e4 e5 e6; simp_all
        · rename_i s x heq
          obtain ⟨a0, a1, hargs, h0, h1⟩ := map_two heq
          split at hbi
          · rename_i t tx htt
            split at hbi
            · rename_i e' hu'
              have hrs : ∀ c' ∈ blocksOf s, K.get c' = H.get c' := fun c' hc' => hr c' (by simp [readsA, hcal, hargs, h0, hc'])
              have hrx : ∀ c' ∈ blocksOf x, K.get c' = H.get c' := fun c' hc' => hr c' (by simp [readsA, hcal, hargs, h1, hc'])
              have red : ∀ {K' : Heap} {u : AV}, appendA P K b t s x = some (u, K') → builtinA P K b .append c.argTypes (c.args.toList.map ρ) = some (u, K') := fun hk => by
                rw [heq]
                simp only [builtinA, htt, hu', hk]
              unfold appendA at hbi
              split at hbi
              · rename_i e hu
                split at hbi
                · rename_i n by_ z hn hby hz
                  split at hbi
                  · rename_i l m hl hm
                    have hl' : rowsOf K n s = some l := by rw [rowsOf_local hrs]; exact hl
                    have hm' : rowsOf K n x = some m := by rw [rowsOf_local hrx]; exact hm
                    split at hbi
                    · rename_i hcond
                      split at hbi
                      · split at hbi
                        · rename_i hm0
                          cases hbi
                          refine .same hb (by simp [writesA, hcal, hargs, h0, blocksOf]) (fin (red ?_))
                          simp only [appendA, hu, hn, hby, hz, hl', hm']
                          rw [if_pos hcond, if_pos hm0]
                        · rename_i hm0
                          cases hbi
                          refine .new (by simp [writesA, hcal, hargs, h0, blocksOf]) (fin (red ?_))
                          simp only [appendA, hu, hn, hby, hz, hl', hm']
                          rw [if_pos hcond, if_neg hm0]
                      · split at hbi
                        · rename_i hm0
                          cases hbi
                          refine .same hb (by simp [writesA, hcal, hargs, h0, blocksOf]) (fin (red ?_))
                          simp only [appendA, hu, hn, hby, hz, hl', hm']
                          rw [if_pos hcond, if_pos hm0]
                        · rename_i hm0
                          cases hbi
                          refine .new (by simp [writesA, hcal, hargs, h0, blocksOf]) (fin (red ?_))
                          simp only [appendA, hu, hn, hby, hz, hl', hm']
                          rw [if_pos hcond, if_neg hm0]
                      · rename_i b' i k
                        cases hbi
                        have hw : writesA (.call c) ρ = [b'] := by simp [writesA, hcal, hargs, h0, blocksOf]
                        refine ⟨(K.put b' none).new b ⟨n, l ++ m⟩, fin (red ?_), rfl, fun d => ?_⟩
                        · simp only [appendA, hu, hn, hby, hz, hl', hm']
                          rw [if_pos hcond]
                        · rw [hw, Heap.get_new, Heap.get_new, Heap.get_put, Heap.get_put]
                          by_cases hd : b = d
                          · rw [if_pos hd, if_pos hd, if_pos (.inr hd.symm)]
                          · rw [if_neg hd, if_neg hd]
                            by_cases hd' : b' = d
                            · rw [if_pos hd', if_pos hd', if_pos (.inl (by simp [hd']))]
                            · rw [if_neg hd', if_neg hd', if_neg]
                              rintro (h1 | h1)
                              · simp at h1; exact hd' h1.symm
                              · exact hd h1.symm
                      · cases hbi
                    · cases hbi
                  · cases hbi
                · cases hbi
              · cases hbi
            · cases hbi
          · cases hbi
        · rename_i k a k' c' heq
          split at hbi
          · rename_i hk; cases hbi; exact .same hb (wnil (by simp)) (fin (by rw [heq]; simp only [builtinA]; rw [if_pos hk]))
          · cases hbi
        · rename_i k a k' c' heq
          split at hbi
          · rename_i hk; cases hbi; exact .same hb (wnil (by simp)) (fin (by rw [heq]; simp only [builtinA]; rw [if_pos hk]))
          · cases hbi
        · rename_i x heq
          split at hbi
          · rename_i t htt
            cases hcl : clearA P H t x with
            | none => rw [hcl] at hbi; cases hbi
            | some K1 =>
              rw [hcl] at hbi
              cases hbi
              obtain ⟨a0, hargs, h0⟩ := map_one heq
              have red : ∀ {K' : Heap}, clearA P K t x = some K' → builtinA P K b .clear c.argTypes (c.args.toList.map ρ) = some (.tup [], K') := fun hk => by
                rw [heq]
                simp only [builtinA, htt, hk, Option.map_some]
              unfold clearA at hcl
              split at hcl
              · rename_i e hu
                split at hcl
                · rename_i n z hn hz
                  split at hcl
                  · cases hcl
                    exact .same hb (by simp [writesA, hcal, hargs, h0, blocksOf]) (fin (red (by simp only [clearA, hu, hn, hz])))
                  · rename_i d i k
                    split at hcl
                    · rename_i y hy
                      split at hcl
                      · rename_i hcond
                        cases hcl
                        have hkd : K.get d = some y := by rw [hr d (by simp [readsA, hcal, hargs, h0, blocksOf])]; exact hy
                        have hw : writesA (.call c) ρ = [d] := by simp [writesA, hcal, hargs, h0, blocksOf]
                        refine ⟨K.put d (some { y with rows := y.rows.take i ++ List.replicate k z ++ y.rows.drop (i + k) }), fin (red ?_), rfl, fun q => ?_⟩
                        · simp only [clearA, hu, hn, hz, hkd]
                          rw [if_pos hcond]
                        · rw [hw, Heap.get_put, Heap.get_put]
                          by_cases hd : d = q
                          · rw [if_pos hd, if_pos hd, if_pos (.inl (by simp [hd]))]
                          · rw [if_neg hd, if_neg hd]
                            split
                            · rename_i hc
                              rcases hc with hc | hc
                              · simp at hc; exact absurd hc.symm hd
                              · rw [hc]; exact hb
                            · rfl
                      · cases hcl
                    · cases hcl
                  · cases hcl
                · cases hcl
              · cases hcl
          · cases hbi
        · cases hbi
    · split at h <;> cases h
    · cases h
  | alloc t =>
    simp only [aop] at h
    split at h
    · rename_i cs hcs; cases h; exact .new rfl (by simp only [aop, hcs])
    · cases h
  | box t x =>
    simp only [aop] at h
    split at h
    · rename_i cs hcs
      split at h
      · rename_i ho; cases h; exact .new rfl (by simp only [aop, hcs]; rw [if_pos ho])
      · cases h
    · cases h
  | buildSlice t len parts =>
    simp only [aop] at h
    split at h
    · rename_i e hu
      split at h
      · rename_i n z hn hz
        split at h
        · rename_i hc
          cases hf : fillRows n (List.replicate len z) (parts.toList.map fun p => (p.1, ρ p.2)) with
          | none => rw [hf] at h; cases h
          | some rows => rw [hf] at h; cases h; exact .new rfl (by simp only [aop, hu, hn, hz]; rw [if_pos hc, hf]; rfl)
        · cases h
      · cases h
    · cases h
  | makeSlice t l c =>
    simp only [aop] at h
    split at h
    · rename_i e hu
      split at h
      · rename_i n by_ z l' c' hn hby hz hl hc
        split at h
        · rename_i hcond; cases h; exact .new rfl (by simp only [aop, hu, hn, hby, hz, hl, hc]; rw [if_pos hcond])
        · cases h
      · cases h
    · cases h
  | makeFunc fn first cap =>
    cases fn <;> simp only [aop] at h <;> (try (cases h; done))
    split at h
    · rename_i hf; cases h; exact .same hb rfl (by simp only [aop]; rw [if_pos hf])
    · cases h
  | pick c x y =>
    simp only [aop] at h
    split at h
    · rename_i t hc; cases h; exact .same hb rfl (by simp only [aop, hc])
    · cases h
  | nilCheck x =>
    simp only [aop] at h
    split at h <;> (try (cases h; done)) <;> (rename_i heq; cases h; exact .same hb rfl (by simp only [aop, heq]))
  | extract x i =>
    simp only [aop] at h
    split at h
    · rename_i vs hx
      obtain ⟨h1, rfl⟩ := vOpt h
      exact .same hb rfl (by simp only [aop, hx, h1]; rfl)
    · cases h
  | move x => simp only [aop] at h; cases h; exact .same hb rfl (by simp only [aop])
  | assign x => simp only [aop] at h; cases h; exact .same hb rfl (by simp only [aop])
  | build t ps => simp only [aop] at h; obtain ⟨h1, rfl⟩ := vOpt h; exact .same hb rfl (by simp only [aop, h1]; rfl)
  | binOp op t x y u => simp only [aop] at h; obtain ⟨h1, rfl⟩ := vOpt h; exact .same hb rfl (by simp only [aop, h1]; rfl)
  | unOp op t x => simp only [aop] at h; obtain ⟨h1, rfl⟩ := vOpt h; exact .same hb rfl (by simp only [aop, h1]; rfl)
  | convert s d x => simp only [aop] at h; obtain ⟨h1, rfl⟩ := vOpt h; exact .same hb rfl (by simp only [aop, h1]; rfl)
  | fieldAddr s x f => simp only [aop] at h; obtain ⟨h1, rfl⟩ := vOpt h; exact .same hb rfl (by simp only [aop, h1]; rfl)
  | field s x f => simp only [aop] at h; obtain ⟨h1, rfl⟩ := vOpt h; exact .same hb rfl (by simp only [aop, h1]; rfl)
  | index t x y => simp only [aop] at h; obtain ⟨h1, rfl⟩ := vOpt h; exact .same hb rfl (by simp only [aop, h1]; rfl)
  | _ => simp [aop] at h
theorem aop_local_call {o : Op} {ρ : Operand → AV} {b : Nat} {g : FuncId} {args : List AV} {H : Heap} (h : aop P F o ρ b H = some (.call g args)) (K : Heap) : aop P F o ρ b K = some (.call g args) := by
  cases o with
  | call c =>
    simp only [aop] at h ⊢
    split at h
    · rename_i bi _
      cases hbi : builtinA P H b bi c.argTypes (c.args.toList.map ρ) with
      | none => rw [hbi] at h; cases h
      | some r => rw [hbi] at h; cases h
    · rename_i f hf
      exact h
    · cases h
  | makeFunc fn first cap => cases fn <;> simp only [aop] at h <;> (try split at h) <;> simp at h
  | _ =>
    exfalso
    simp only [aop] at h
    repeat' (first | (cases h; done) | (simp at h; done) | split at h)
end
end Go.Proofs.Ytadjimfkfmojkaa.Am

end
section
namespace Go.Proofs.Ytadjimfkfmojkaa.Am
set_option linter.unusedVariables false

theorem fold_bit (f : Edge → Nat) (p : Edge → Bool) (k : Nat) : ∀ (l : List Edge) (s : Nat), (l.foldl (fun s e => if p e then s ||| f e else s) s).testBit k = true → s.testBit k = true ∨ ∃ e ∈ l, p e = true ∧ (f e).testBit k = true
  | [], s, h => .inl h
  | e :: l, s, h => by
    rw [List.foldl_cons] at h
    rcases fold_bit f p k l _ h with h1 | ⟨e', h1, h2⟩
    · split at h1
      · rename_i hp
        rw [Nat.testBit_or, Bool.or_eq_true] at h1
        rcases h1 with h1 | h1
        · exact .inl h1
        · exact .inr ⟨e, by simp, hp, h1⟩
      · exact .inl h1
    · exact .inr ⟨e', by simp [h1], h2⟩
def maskOf (acc : List Nat) (o : Oper) : Nat := o.after.toList.foldl (fun s e => if Region.binds .any e then s ||| 2 ^ e.on ||| acc.getD e.on 0 else s) 0
theorem maskOf_bit {acc : List Nat} {o : Oper} {k : Nat} (h : (maskOf acc o).testBit k = true) : ∃ e ∈ o.after.toList, Region.binds .any e = true ∧ (k = e.on ∨ (acc.getD e.on 0).testBit k = true) := by
  have hf : maskOf acc o = o.after.toList.foldl (fun s e => if Region.binds .any e then s ||| (2 ^ e.on ||| acc.getD e.on 0) else s) 0 := by
    unfold maskOf
    congr 1
    funext s e
    split
    · rw [Nat.or_assoc]
    · rfl
  rw [hf] at h
  rcases fold_bit (fun e => 2 ^ e.on ||| acc.getD e.on 0) (Region.binds .any) k _ _ h with h1 | ⟨e, h1, h2, h3⟩
  · simp at h1
  · refine ⟨e, h1, h2, ?_⟩
    rw [Nat.testBit_or, Bool.or_eq_true] at h3
    rcases h3 with h3 | h3
    · rw [Nat.testBit_two_pow] at h3
      exact .inl (by have h4 := h3; simp at h4; exact h4.symm)
    · exact .inr h3
theorem masks_spec : ∀ (l : List Oper) (acc : List Nat), acc.length + l.length = (masks l acc).length ∧ (∀ i, i < acc.length → (masks l acc).getD i 0 = acc.getD i 0) ∧
    ∀ (i : Nat) (o : Oper), l[i]? = some o → ∃ acc', (masks l acc).getD (acc.length + i) 0 = maskOf acc' o ∧ (∀ j, acc'.getD j 0 = (masks l acc).getD j 0 ∨ acc'.getD j 0 = 0) ∧ (∀ j, acc.length + i ≤ j → acc'.getD j 0 = 0)
  | [], acc => by simp [masks]
  | o :: l, acc => by
    obtain ⟨h1, h2, h3⟩ := masks_spec l (acc ++ [maskOf acc o])
    have hm : masks (o :: l) acc = masks l (acc ++ [maskOf acc o]) := rfl
    rw [hm]
    simp only [List.length_append, List.length_singleton] at h1 h2 h3
    have keep : ∀ i, i < acc.length → (masks l (acc ++ [maskOf acc o])).getD i 0 = acc.getD i 0 := fun i hi => by
      rw [h2 i (by omega)]
      simp [List.getD, List.getElem?_append_left hi]
    refine ⟨by simp; omega, keep, fun i q hq => ?_⟩
    match i with
    | 0 =>
      simp only [List.getElem?_cons_zero, Option.some.injEq] at hq
      subst hq
      refine ⟨acc, ?_, fun j => ?_, fun j hj => ?_⟩
      · rw [Nat.add_zero, h2 acc.length (by omega)]
        simp [List.getD]
      · rcases Nat.lt_or_ge j acc.length with hj | hj
        · exact .inl (keep j hj).symm
        · exact .inr (by simp [List.getD, List.getElem?_eq_none hj])
      · simp [List.getD, List.getElem?_eq_none (show acc.length ≤ j by omega)]
    | i + 1 =>
      simp only [List.getElem?_cons_succ] at hq
      obtain ⟨acc', g1, g2, g3⟩ := h3 i q hq
      exact ⟨acc', by rw [← g1]; congr 1; omega, g2, fun j hj => g3 j (by omega)⟩
/-- what is ahead comes along an edge -/
theorem ahead_bit {ops : Array Oper} {i : Nat} {o : Oper} (ho : ops[i]? = some o) {k : Nat} (h : ((masks ops.toList []).getD i 0).testBit k = true) :
    ∃ e ∈ o.after.toList, Region.binds .any e = true ∧ (k = e.on ∨ (e.on < i ∧ ((masks ops.toList []).getD e.on 0).testBit k = true)) := by
  obtain ⟨_, _, h3⟩ := masks_spec ops.toList []
  obtain ⟨acc', g1, g2, g3⟩ := h3 i o (by rw [Array.getElem?_toList]; exact ho)
  simp only [List.length_nil, Nat.zero_add] at g1 g3
  rw [g1] at h
  obtain ⟨e, e1, e2, e3⟩ := maskOf_bit h
  refine ⟨e, e1, e2, ?_⟩
  rcases e3 with e3 | e3
  · exact .inl e3
  · right
    rcases Nat.lt_or_ge e.on i with hlt | hge
    · refine ⟨hlt, ?_⟩
      rcases g2 e.on with h4 | h4
      · rw [h4] at e3; exact e3
      · rw [h4] at e3; simp at e3
    · rw [g3 e.on hge] at e3; simp at e3
/-- a set of operations that is closed under edges -/
def Closed (ops : Array Oper) (L : Nat → Bool) : Prop := ∀ (i : Nat) (o : Oper), ops[i]? = some o → L i = true → ∀ e ∈ o.after.toList, Region.binds .any e = true → L e.on = true
theorem Closed.ahead {ops : Array Oper} {L : Nat → Bool} (hL : Closed ops L) : ∀ (i : Nat) (o : Oper), ops[i]? = some o → (∀ e ∈ o.after.toList, Region.binds .any e = true → L e.on = true) → ∀ k, ((masks ops.toList []).getD i 0).testBit k = true → L k = true := by
  intro i
  induction i using Nat.strongRecOn with
  | _ i ih =>
    intro o ho he k hk
    obtain ⟨e, e1, e2, e3⟩ := ahead_bit ho hk
    have hLe := he e e1 e2
    rcases e3 with rfl | ⟨hlt, h4⟩
    · exact hLe
    · have hlt' : e.on < ops.size := by
        have : i < ops.size := (Array.getElem?_eq_some_iff.1 ho).1
        omega
      have ho' : ops[e.on]? = some ops[e.on] := Array.getElem?_eq_getElem hlt'
      exact ih e.on hlt _ ho' (fun e' h5 h6 => hL e.on _ ho' hLe e' h5 h6) k h4

def lastW (p : Nat → Bool) : Nat → Option Nat
  | 0 => none
  | k + 1 => if p k then some k else lastW p k
theorem lastW_congr {p q : Nat → Bool} : ∀ {k : Nat}, (∀ i, i < k → p i = q i) → lastW p k = lastW q k
  | 0, _ => rfl
  | k + 1, h => by
    unfold lastW
    rw [h k (by omega), lastW_congr fun i hi => h i (by omega)]
theorem lastW_none {p : Nat → Bool} {k m : Nat} (hkm : k ≤ m) (h : ∀ i, k ≤ i → i < m → p i = false) : lastW p m = lastW p k := by
  induction m with
  | zero => rw [show k = 0 by omega]
  | succ m ih =>
    rcases Nat.eq_or_lt_of_le hkm with rfl | hlt
    · rfl
    · rw [lastW, h m (by omega) (by omega), if_neg (by simp)]
      exact ih (by omega) fun i h1 h2 => h i h1 (by omega)
/-- the order in which a set was done does not matter to operation i -/
theorem lastW_agree {p L : Nat → Bool} {n i : Nat} (hi : i < n) (hLi : L i = false) (h : ∀ j, j < n → j ≠ i → p j = true → (j < i → L j = true) ∧ (i < j → L j = false)) :
    lastW (fun j => L j && p j) n = lastW p i := by
  rw [lastW_none (k := i) (by omega)]
  · refine lastW_congr fun j hj => ?_
    cases hp : p j with
    | false => simp
    | true => simp [(h j (by omega) (by omega) hp).1 hj]
  · intro j h1 h2
    rcases Nat.eq_or_lt_of_le h1 with rfl | hlt
    · simp [hLi]
    · cases hp : p j with
      | false => simp
      | true => simp [(h j h2 (by omega) hp).2 hlt]
theorem lastW_add {p L : Nat → Bool} {n i : Nat} (hi : i < n) (hLi : L i = false) (hpi : p i = true) (h : ∀ j, j < n → j ≠ i → p j = true → (i < j → L j = false)) :
    lastW (fun j => (if j = i then true else L j) && p j) n = some i := by
  rw [lastW_none (k := i + 1) (by omega)]
  · simp [lastW, hpi]
  · intro j h1 h2
    cases hp : p j with
    | false => simp
    | true => simp [h j h2 (by omega) hp (by omega), show ¬ j = i by omega]
theorem lastW_skip {p L : Nat → Bool} {n i : Nat} (hpi : p i = false) : lastW (fun j => (if j = i then true else L j) && p j) n = lastW (fun j => L j && p j) n := by
  refine lastW_congr fun j _ => ?_
  by_cases hj : j = i
  · subst hj; simp [hpi]
  · simp [hj]
end Go.Proofs.Ytadjimfkfmojkaa.Am

end
