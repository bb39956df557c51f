/- AM, part 2: abstract values, the abstract heap, what each operation does to them. -/
import Derived.Test.YtdaejmkoenhbkaaTr
namespace Go.Proofs.Ytdaejmkoenhbkaa.Am

/-- Abstract values. 'ptr b i off': cell 'off' of row i of block b of the abstract heap; 'sl b i n': rows i to i+n-1 of block b; 'emp': a slice of no element and no room, nil or not; 'lst rows', 'pptr rows i off': a slice, a pointer into memory that nobody writes. -/
inductive AV where
  | int (k : IntKind) (n : Int)
  | bool (b : Bool)
  | str (s : List UInt8)
  | nilp
  | ptr (b i off : Nat)
  | pptr (rows : List (List AV)) (i off : Nat)
  | nils
  | emp
  | sl (b i n : Nat)
  | lst (rows : List (List AV))
  | agg (cells : List AV)
  | tup (vs : List AV)
  | fn (f : FuncId) (captured : List AV)
  | nilf
  | junk
  deriving Inhabited

/-- the cells of a value; a value of which nothing is known has none -/
def AV.cells? : AV → Option (List AV)
  | .agg cs => some cs
  | .junk => none
  | v => some [v]
/-- a value that one cell can hold -/
def AV.one : AV → Bool
  | .agg _ | .tup _ | .junk => false
  | _ => true

def allSome {α : Type} : List (Option α) → Option (List α)
  | [] => some []
  | none :: _ => none
  | some x :: l => match allSome l with
    | some l => some (x :: l)
    | none => none

def av1 : Value → Option AV
  | .int k n => some (.int k n)
  | .bool b => some (.bool b)
  | .string s => some (.str s.data.toList)
  | .pointer none => some .nilp
  | .slice none 0 0 => some .nils
  | .nilFunc => some .nilf
  | _ => none
def avOf : Value → Option AV
  | .agg cs => (allSome (cs.toList.map av1)).map .agg
  | v => av1 v

structure Blk where
  size : Nat
  rows : List (List AV)
  deriving Inhabited
/-- next: the next free number; log: the numbers of blocks that were written or given up -/
structure Heap where
  next : Nat
  tr : Tr Blk
  log : List Nat
def Heap.get (H : Heap) (b : Nat) : Option Blk := H.tr.get b
/-- a new block of number b -/
def Heap.new (H : Heap) (b : Nat) (x : Blk) : Heap := { H with tr := H.tr.set b (some x) }
/-- block b is written (or given up) -/
def Heap.put (H : Heap) (b : Nat) (x : Option Blk) : Heap := { H with tr := H.tr.set b x, log := b :: H.log }

inductive ANext where
  | val (v : AV) (H : Heap)
  | call (f : FuncId) (args : List AV)

section
variable (P : Program)

def sizeA (t : TypeId) : Option Nat := (P.info? t).map (·.size)
def bytesA (t : TypeId) : Option Nat := (P.info? t).map (·.bytes)
def zeroA (t : TypeId) : Option AV := (P.info? t).bind fun i => i.zero.bind avOf
def isAggA (t : TypeId) : Option Bool := (P.underlying t).map fun | .struct _ | .array _ _ => true | _ => false

def rowLoad (t : TypeId) (row : List AV) (off : Nat) : Option AV :=
  match isAggA P t, sizeA P t with
  | some true, some n => if off + n ≤ row.length then some (.agg ((row.drop off).take n)) else none
  | some false, some _ => row[off]?
  | _, _ => none
def rowStore (row : List AV) (off : Nat) (cs : List AV) : List AV := row.take off ++ cs ++ row.drop (off + cs.length)

def loadA (H : Heap) (t : TypeId) : AV → Option AV
  | .ptr b i off => (H.get b).bind fun x => (x.rows[i]?).bind fun r => rowLoad P t r off
  | .pptr rows i off => (rows[i]?).bind fun r => rowLoad P t r off
  | _ => none
def storeA (H : Heap) (t : TypeId) (a v : AV) : Option Heap :=
  match a, v.cells?, sizeA P t with
  | .ptr b i off, some cs, some n =>
    match H.get b with
    | some x => match x.rows[i]? with
      | some r => if cs.length = n ∧ cs.all AV.one ∧ off + n ≤ r.length then some (H.put b (some { x with rows := x.rows.set i (rowStore r off cs) })) else none
      | none => none
    | none => none
  | _, _, _ => none

def fillA (place : Nat → Option (Nat × Nat)) (cells : List AV) : List (Nat × AV) → Option (List AV)
  | [] => some cells
  | (i, v) :: rest =>
    match place i, v.cells? with
    | some (off, size), some cs => if cs.length = size ∧ off + size ≤ cells.length ∧ cs.all AV.one then fillA place (rowStore cells off cs) rest else none
    | _, _ => none
def fillRows (size : Nat) (rows : List (List AV)) : List (Nat × AV) → Option (List (List AV))
  | [] => some rows
  | (i, v) :: rest =>
    match v.cells? with
    | some cs => if cs.length = size ∧ i < rows.length ∧ cs.all AV.one then fillRows size (rows.set i cs) rest else none
    | none => none
def placesA (fs : Array Field) (i : Nat) : Option (Nat × Nat) := (fs[i]?).bind fun f => (sizeA P f.type).map fun n => (f.offset, n)

def buildA (t : TypeId) (parts : List (Nat × AV)) : Option AV :=
  match P.underlying t, zeroA P t with
  | some (.struct fs), some (.agg z) => if (fs.toList.all fun f => (sizeA P f.type).isSome) = true then (fillA (placesA P fs) z parts).map .agg else none
  | some (.array _ e), some (.agg z) => (sizeA P e).bind fun n => (fillA (fun i => some (i * n, n)) z parts).map .agg
  | _, _ => none

def lenA : AV → Option Nat
  | .nils => some 0
  | .emp => some 0
  | .lst rows => some rows.length
  | .sl _ _ n => some n
  | _ => none

def byteLess : List UInt8 → List UInt8 → Bool
  | _, [] => false
  | [], _ :: _ => true
  | a :: x, b :: y => a < b || (a == b && byteLess x y)

/-- == of one cell, of type t -/
def eqA (t : TypeId) (x y : AV) : Option Bool :=
  match P.underlying t, x, y with
  | some (.int _), .int k a, .int k' b => if k = k' then some (a == b) else none
  | some .bool, .bool a, .bool b => some (a == b)
  | some .string, .str a, .str b => some (a == b)
  | some (.pointer _), .nilp, .nilp => some true
  | some (.pointer _), .nilp, .ptr .. | some (.pointer _), .ptr .., .nilp | some (.pointer _), .nilp, .pptr .. | some (.pointer _), .pptr .., .nilp => some false
  | some (.slice _), .nils, .nils => some true
  | some (.slice _), .nils, .sl .. | some (.slice _), .sl .., .nils => some false
  | _, _, _ => none
def eqAs : List TypeId → List AV → List AV → Option Bool
  | [], [], [] => some true
  | t :: ts, a :: l, b :: m => match eqA P t a b with
    | some true => eqAs ts l m
    | r => r
  | _, _, _ => none

/-- F: the field types of the flat struct types -/
def binA (F : TypeId → Option (List TypeId)) (op : BinOp) (t : TypeId) (x y : AV) : Option AV :=
  match op, x, y with
  | .shl, .int k a, .int _ b => if 0 ≤ b then some (.int k (k.wrap (a * 2 ^ min b.toNat k.bits))) else none
  | .shr, .int k a, .int _ b => if 0 ≤ b then some (.int k (a.fdiv (2 ^ min b.toNat k.bits))) else none
  | op, .int k a, .int k' b =>
    if k ≠ k' then none else
    match op with
    | .add => some (.int k (k.wrap (a + b)))
    | .sub => some (.int k (k.wrap (a - b)))
    | .mul => some (.int k (k.wrap (a * b)))
    | .quo => if b = 0 then none else some (.int k (k.wrap (a.tdiv b)))
    | .rem => if b = 0 then none else some (.int k (a.tmod b))
    | .and => some (.int k (k.wrap (BitVec.ofInt k.bits a &&& BitVec.ofInt k.bits b).toNat))
    | .or => some (.int k (k.wrap (BitVec.ofInt k.bits a ||| BitVec.ofInt k.bits b).toNat))
    | .xor => some (.int k (k.wrap (BitVec.ofInt k.bits a ^^^ BitVec.ofInt k.bits b).toNat))
    | .eql => some (.bool (a == b))
    | .neq => some (.bool (a != b))
    | .lss => some (.bool (decide (a < b)))
    | .leq => some (.bool (decide (a ≤ b)))
    | .gtr => some (.bool (decide (a > b)))
    | .geq => some (.bool (decide (a ≥ b)))
    | _ => none
  | op, .str a, .str b =>
    match op with
    | .eql => some (.bool (a == b))
    | .neq => some (.bool !(a == b))
    | .lss => some (.bool (byteLess a b))
    | .add => if a.length + b.length ≤ 2 ^ 62 then some (.str (a ++ b)) else none
    | _ => none
  | .eql, .agg a, .agg b => (F t).bind fun ts => (eqAs P ts a b).map .bool
  | .neq, .agg a, .agg b => (F t).bind fun ts => (eqAs P ts a b).map fun r => .bool !r
  | .eql, .bool a, .bool b => (eqA P t (.bool a) (.bool b)).map .bool
  | .neq, .bool a, .bool b => (eqA P t (.bool a) (.bool b)).map fun r => .bool !r
  | .eql, .nilp, y => (eqA P t .nilp y).map .bool
  | .neq, .nilp, y => (eqA P t .nilp y).map fun r => .bool !r
  | .eql, x, .nilp => (eqA P t x .nilp).map .bool
  | .neq, x, .nilp => (eqA P t x .nilp).map fun r => .bool !r
  | .eql, .nils, y => (eqA P t .nils y).map .bool
  | .neq, .nils, y => (eqA P t .nils y).map fun r => .bool !r
  | .eql, x, .nils => (eqA P t x .nils).map .bool
  | .neq, x, .nils => (eqA P t x .nils).map fun r => .bool !r
  | _, _, _ => none

def unA (op : UnOp) (x : AV) : Option AV :=
  match op, x with
  | .neg, .int k n => some (.int k (k.wrap (0 - n)))
  | .not, .bool b => some (.bool !b)
  | _, _ => none

def convA (src dst : TypeId) (x : AV) : Option AV :=
  match P.underlying src, P.underlying dst, x with
  | some (.int _), some (.int k), .int _ n => some (.int k (k.wrap n))
  | some .string, some .string, .str s => some (.str s)
  | _, _, _ => none

/-- the rows of a slice value, each of n cells -/
def rowsOf (H : Heap) (n : Nat) : AV → Option (List (List AV))
  | .nils => some []
  | .emp => some []
  | .lst rows => match rows with
    | [] => some []
    | r :: l => if r.length = n then some (r :: l) else none
  | .sl b i k => match H.get b with
    | some x => if x.size = n ∧ i + k ≤ x.rows.length then some ((x.rows.drop i).take k) else none
    | none => none
  | _ => none
/-- the size of the rows of the block that a slice lies in -/
def szOf (H : Heap) : AV → Option Nat
  | .sl b _ _ => (H.get b).map (·.size)
  | _ => none
/-- sz: szOf of x -/
def indexAddrA (sz : Option Nat) (t : TypeId) (x ix : AV) : Option AV :=
  match ix with
  | .int _ i =>
    if i < 0 then none else
    match P.underlying t, x with
    | some (.slice e), .sl b j n => if i.toNat < n ∧ sz.isSome ∧ sizeA P e = sz then some (.ptr b (j + i.toNat) 0) else none
    | some (.slice e), .lst rows => match rows[i.toNat]? with
      | some r => if sizeA P e = some r.length then some (.pptr rows i.toNat 0) else none
      | none => none
    | some (.array len e), .ptr b j off => if i.toNat < len then (sizeA P e).map fun n => .ptr b j (off + i.toNat * n) else none
    | some (.array len e), .pptr rows j off => if i.toNat < len then (sizeA P e).map fun n => .pptr rows j (off + i.toNat * n) else none
    | _, _ => none
  | _ => none
def indexA (t : TypeId) (x ix : AV) : Option AV :=
  match P.underlying t, x, ix with
  | some .string, .str s, .int _ i => if i < 0 then none else (s[i.toNat]?).map fun b => .int .u8 b.toNat
  | some (.array len e), .agg cs, .int _ i => if 0 ≤ i ∧ i.toNat < len then (sizeA P e).bind fun n => rowLoad P e cs (i.toNat * n) else none
  | _, _, _ => none
def fieldAddrA (s : TypeId) (x : AV) (f : Nat) : Option AV :=
  match P.underlying s with
  | some (.struct fs) => (fs[f]?).bind fun f => (sizeA P f.type).bind fun n => if n = 0 then none else
      match x with
      | .ptr b i off => some (.ptr b i (off + f.offset))
      | .pptr rows i off => some (.pptr rows i (off + f.offset))
      | _ => none
  | _ => none
def fieldA (s : TypeId) (x : AV) (f : Nat) : Option AV :=
  match P.underlying s, x with
  | some (.struct fs), .agg cs => (fs[f]?).bind fun f => rowLoad P f.type cs f.offset
  | _, _ => none

def natOf : AV → Option Nat
  | .int _ i => if 0 ≤ i then some i.toNat else none
  | _ => none
def boundA (x : Option AV) (d : Nat) : Option Nat :=
  match x with
  | none => some d
  | some v => natOf v
/-- x[lo:hi]; with a third index only where it is the length -/
def sliceA (sz : Option Nat) (t : TypeId) (x : AV) (lo hi mx : Option AV) : Option AV :=
  match P.underlying t, lenA x with
  | some (.slice e), some n =>
    match boundA lo 0, boundA hi n, boundA mx n with
    | some l, some h, some m => if (l ≤ h ∧ h ≤ m ∧ m ≤ n) ∧ (sizeA P e).isSome = true then
        (match x with
          | .nils => some .nils
          | .sl b i _ => if sz.isSome ∧ sizeA P e = sz then some (.sl b (i + l) (h - l)) else none
          | .lst rows => match rows with
            | [] => some (.lst [])
            | r :: rs => if sizeA P e = some r.length then some (.lst (((r :: rs).drop l).take (h - l))) else none
          | _ => none) else none
    | _, _, _ => none
  | some .string, _ =>
    match x, mx with
    | .str s, none => match boundA lo 0, boundA hi s.length with
      | some l, some h => if l ≤ h ∧ h ≤ s.length then some (.str ((s.drop l).take (h - l))) else none
      | _, _ => none
    | _, _ => none
  | _, _ => none

/-- append: the old block is given up, the new block's number is b -/
def appendA (H : Heap) (b : Nat) (t : TypeId) (s x : AV) : Option (AV × Heap) :=
  match P.underlying t with
  | some (.slice e) =>
    match sizeA P e, bytesA P e, (zeroA P e).bind AV.cells? with
    | some n, some by_, some z => match rowsOf H n s, rowsOf H n x with
      | some l, some m => if 2 * (l.length + m.length) * by_ ≤ 2 ^ 48 ∧ 2 * (l.length + m.length) ≤ 2 ^ 62 ∧ 0 < n ∧ z.length = n ∧ (m.all fun r => r.all AV.one) = true then
        match s with
        | .nils => if m.length = 0 then some (.nils, H) else some (.sl b 0 m.length, H.new b ⟨n, m⟩)
        | .emp => if m.length = 0 then some (.emp, H) else some (.sl b 0 m.length, H.new b ⟨n, m⟩)
        | .sl b' _ _ => some (.sl b 0 (l.length + m.length), (H.put b' none).new b ⟨n, l ++ m⟩)
        | _ => none
        else none
      | _, _ => none
    | _, _, _ => none
  | _ => none

/-- clear: the rows of a slice become zero -/
def clearA (H : Heap) (t : TypeId) (x : AV) : Option Heap :=
  match P.underlying t with
  | some (.slice e) =>
    match sizeA P e, (zeroA P e).bind AV.cells? with
    | some n, some z => match x with
      | .nils => some H
      | .sl c i k => match H.get c with
        | some y => if (y.size = n ∧ z.length = n) ∧ (0 < n ∧ i + k ≤ y.rows.length) ∧ z.all AV.one = true then some (H.put c (some { y with rows := y.rows.take i ++ List.replicate k z ++ y.rows.drop (i + k) })) else none
        | none => none
      | _ => none
    | _, _ => none
  | _ => none

def builtinA (H : Heap) (b : Nat) (op : Builtin) (types : Array TypeId) (args : List AV) : Option (AV × Heap) :=
  match op, args with
  | .len, [.str s] => match (types[0]?).bind P.underlying with
    | some .string => some (.int .i64 s.length, H)
    | _ => none
  | .len, [x] => match (types[0]?).bind P.underlying with
    | some (.slice _) => (lenA x).map fun (n : Nat) => (.int .i64 (n : Int), H)
    | some (.array n _) => some (.int .i64 n, H)
    | _ => none
  | .append, [s, x] => match types.toList with
    | [t, tx] => match P.underlying tx with
      | some (.slice _) => appendA P H b t s x
      | _ => none
    | _ => none
  | .min, [.int k a, .int k' c] => if k = k' then some (.int k (if c < a then c else a), H) else none
  | .max, [.int k a, .int k' c] => if k = k' then some (.int k (if c > a then c else a), H) else none
  | .clear, [x] => match types.toList with
    | [t] => (clearA P H t x).map fun H' => (.tup [], H')
    | _ => none
  | _, _ => none

/-- What an operation does; b: the number of the block that it may make. -/
def aop (F : TypeId → Option (List TypeId)) (o : Op) (ρ : Operand → AV) (b : Nat) (H : Heap) : Option ANext :=
  let v (r : Option AV) : Option ANext := r.map fun x => .val x H
  match o with
  | .move x | .assign x => some (.val (ρ x) H)
  | .pick c x y => match ρ c with
    | .bool t => some (.val (if t then ρ x else ρ y) H)
    | _ => none
  | .alloc t => match (zeroA P t).bind AV.cells? with
    | some cs => some (.val (.ptr b 0 0) (H.new b ⟨cs.length, [cs]⟩))
    | none => none
  | .box _ x => match (ρ x).cells? with
    | some cs => if cs.all AV.one then some (.val (.ptr b 0 0) (H.new b ⟨cs.length, [cs]⟩)) else none
    | none => none
  | .build t parts => v (buildA P t (parts.toList.map fun p => (p.1, ρ p.2)))
  | .buildSlice t len parts => match P.underlying t with
    | some (.slice e) => match sizeA P e, (zeroA P e).bind AV.cells? with
      | some n, some z => if z.length = n ∧ 0 < n ∧ len * n ≤ 2 ^ 24 then
          (fillRows n (List.replicate len z) (parts.toList.map fun p => (p.1, ρ p.2))).map fun rows => .val (.sl b 0 len) (H.new b ⟨n, rows⟩)
        else none
      | _, _ => none
    | _ => none
  | .load t a => v (loadA P H t (ρ a))
  | .store t a x => (storeA P H t (ρ a) (ρ x)).map fun H => .val (.tup []) H
  | .nilCheck x => match ρ x with
    | .ptr b i off => some (.val (.ptr b i off) H)
    | .pptr rows i off => some (.val (.pptr rows i off) H)
    | .fn f cs => some (.val (.fn f cs) H)
    | _ => none
  | .binOp op t x y _ => v (binA P F op t (ρ x) (ρ y))
  | .unOp op _ x => v (unA op (ρ x))
  | .convert s d x => v (convA P s d (ρ x))
  | .makeFunc (.func f) first cap => if first.size = 0 then some (.val (.fn f (cap.toList.map ρ)) H) else none
  | .makeSlice t l c => match P.underlying t with
    | some (.slice e) => match sizeA P e, bytesA P e, (zeroA P e).bind AV.cells?, natOf (ρ l), natOf (ρ c) with
      | some n, some by_, some z, some l, some c => if z.length = n ∧ 0 < n ∧ l ≤ c ∧ c ≤ 2 ^ 62 ∧ c * by_ ≤ 2 ^ 48 then
          some (.val (.sl b 0 l) (H.new b ⟨n, List.replicate l z⟩)) else none
      | _, _, _, _, _ => none
    | _ => none
  | .slice t x lo hi mx => if hi.isNone && mx.isSome then none else v (sliceA P (szOf H (ρ x)) t (ρ x) (lo.map ρ) (hi.map ρ) (mx.map ρ))
  | .fieldAddr s x f => v (fieldAddrA P s (ρ x) f)
  | .field s x f => v (fieldA P s (ρ x) f)
  | .indexAddr t x ix => v (indexAddrA P (szOf H (ρ x)) t (ρ x) (ρ ix))
  | .index t x ix => v (indexA P t (ρ x) (ρ ix))
  | .extract x i => match ρ x with
    | .tup vs => v (vs[i]?)
    | _ => none
  | .call c => match c.callee with
    | .builtin bi => (builtinA P H b bi c.argTypes (c.args.toList.map ρ)).map fun r => .val r.1 r.2
    | .value f => match ρ f with
      | .fn g cs => some (.call g (c.args.toList.map ρ ++ cs))
      | _ => none
    | _ => none
  | _ => none
end
end Go.Proofs.Ytdaejmkoenhbkaa.Am
