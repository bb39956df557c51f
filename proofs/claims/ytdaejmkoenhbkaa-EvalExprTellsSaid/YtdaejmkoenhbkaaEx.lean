/- AM, part 3: the evaluator. -/
import Derived.Test.YtdaejmkoenhbkaaAv
namespace Go.Proofs.Ytdaejmkoenhbkaa.Am
inductive Ex where
  | normal
  | exit (id : Nat)
  | ret
def undefA : AV := .tup []
def aev (τ : List AV) : Operand → AV
  | .tmp t => τ.getD t undefA
  | .const v => (avOf v).getD .junk
  | .global _ => .junk
  | .func f => .fn f []
def putA (τ : List AV) (dst : Option Tmp) (v : AV) : List AV :=
  match dst with
  | some d => τ.set d v
  | none => τ
/-- is the operation carried out? none: not known -/
def wantedA (ops : Array Oper) (o : Oper) (τ : List AV) : Option Bool :=
  match o.guard with
  | none => some true
  | some (j, want) => match (ops[j]?).bind (·.dst) with
    | some d => match τ[d]? with
      | some (.bool b) => some (b == want)
      | some (.tup []) => some false
      | _ => none
    | none => none
section
variable (P : Program) (F : TypeId → Option (List TypeId)) (call : FuncId → List AV → Heap → Option (AV × Heap))
def stepA (ops : Array Oper) (base i : Nat) (τ : List AV) (H : Heap) : Option (List AV × Heap) :=
  match ops[i]? with
  | none => none
  | some o => match wantedA ops o τ with
    | some true => match aop P F o.op (aev τ) (base + i) H with
      | some (.val v H') => some (putA τ o.dst v, H')
      | some (.call f args) => match call f args H with
        | some (v, H') => some (putA τ o.dst v, H')
        | none => none
      | none => none
    | some false => some (putA τ o.dst undefA, H)
    | none => none
def opsA (ops : Array Oper) (base : Nat) : List Nat → List AV → Heap → Option (List AV × Heap)
  | [], τ, H => some (τ, H)
  | i :: l, τ, H => match stepA P F call ops base i τ H with
    | some (τ, H) => opsA ops base l τ H
    | none => none

/-! ### A region whose order is drawn: in the order of the text, and two operations that no edge orders must not meet -/
def blocksOf : AV → List Nat
  | .ptr b _ _ | .sl b _ _ => [b]
  | _ => []
def slOf : AV → List Nat
  | .sl b _ _ => [b]
  | _ => []
/-- blocks that an operation reads, and that it writes or gives up -/
def readsA (o : Op) (ρ : Operand → AV) : List Nat :=
  match o with
  | .load _ a => blocksOf (ρ a)
  | .store _ a _ => blocksOf (ρ a)
  | .indexAddr _ x _ => slOf (ρ x)
  | .slice _ x _ _ _ => slOf (ρ x)
  | .call c => match c.callee with
    | .builtin .append => c.args.toList.flatMap fun x => blocksOf (ρ x)
    | .builtin .clear => c.args.toList.flatMap fun x => blocksOf (ρ x)
    | _ => []
  | _ => []
def writesA (o : Op) (ρ : Operand → AV) : List Nat :=
  match o with
  | .store _ a _ => blocksOf (ρ a)
  | .call c => match c.callee with
    | .builtin .append => (c.args.toList.take 1).flatMap fun x => blocksOf (ρ x)
    | .builtin .clear => c.args.toList.flatMap fun x => blocksOf (ρ x)
    | _ => []
  | _ => []
/-- what an operation of a region has touched; it made the blocks 'made', and from lo to hi - 1 -/
structure Rec where
  op : Nat
  reads : List Nat
  writes : List Nat
  made : List Nat
  isCall : Bool
  lo : Nat
  hi : Nat
def apart (l m : List Nat) : Bool := l.all fun x => !m.contains x
/-- do two operations meet, if x is done first in the order of the text and no edge orders them? -/
def meets (x y : Rec) : Bool :=
  !(apart x.writes y.reads && apart x.writes y.writes && apart x.reads y.writes && apart x.made y.reads && apart x.made y.writes) ||
  (x.isCall && (y.isCall || !y.writes.isEmpty || y.reads.any fun b => decide (x.lo ≤ b) && decide (b < x.hi))) || (y.isCall && !x.writes.isEmpty)
/-- for each operation the set of those that edges put ahead of it -/
def masks : List Oper → List Nat → List Nat
  | [], acc => acc
  | o :: l, acc => masks l (acc ++ [o.after.toList.foldl (fun s e => if Region.binds .any e then s ||| 2 ^ e.on ||| acc.getD e.on 0 else s) 0])
/-- the heap that a call sees: without the blocks that operations made which no edge puts ahead of it -/
def hideA (base mask : Nat) : Nat → Heap → Heap
  | 0, H => H
  | j + 1, H => hideA base mask j (if mask.testBit j then H else { H with tr := H.tr.set (base + j) none })
/-- a heap behind a call, with the blocks that the call did not see -/
def showA (base mask : Nat) (H : Heap) : Nat → Heap → Heap
  | 0, K => K
  | j + 1, K => showA base mask H j (if mask.testBit j then K else { K with tr := K.tr.set (base + j) (H.tr.get (base + j)) })
def drawStep (ops : Array Oper) (base i mask : Nat) (τ : List AV) (H : Heap) : Option (List AV × Heap × Option Rec) :=
  match ops[i]? with
  | none => none
  | some o => match wantedA ops o τ with
    | some true => match aop P F o.op (aev τ) (base + i) H with
      | some (.val v H') => some (putA τ o.dst v, { H' with log := H.log }, some ⟨i, readsA o.op (aev τ), writesA o.op (aev τ), [base + i], false, 0, 0⟩)
      | some (.call f args) => match call f args { hideA base mask i H with log := [] } with
        | some (v, H') => some (putA τ o.dst v, { showA base mask H i H' with log := H.log }, some ⟨i, [], H'.log.filter (fun c => ((hideA base mask i H).get c).isSome), [], true, H.next, H'.next⟩)
        | none => none
      | none => none
    | some false => some (putA τ o.dst undefA, H, none)
    | none => none
def drawA (ops : Array Oper) (base : Nat) (before : List Nat) : List Nat → List AV → Heap → List Rec → Option (List AV × Heap × List Rec)
  | [], τ, H, rs => some (τ, H, rs)
  | i :: l, τ, H, rs => match drawStep P F call ops base i (before.getD i 0) τ H with
    | some (τ, H, none) => drawA ops base before l τ H rs
    | some (τ, H, some r) => if rs.all fun x => (before.getD i 0).testBit x.op || !meets x r then drawA ops base before l τ H (r :: rs) else none
    | none => none
def regionA (ops : Array Oper) (draw : Bool) (τ : List AV) (H : Heap) : Option (List AV × Heap) :=
  let H' := { H with next := H.next + ops.size }
  if draw then match drawA P F call ops H.next (masks ops.toList []) (List.range ops.size) τ H' [] with
    | some (τ, K, rs) => some (τ, { K with log := rs.flatMap (·.writes) ++ K.log })
    | none => none
  else opsA P F call ops H.next (List.range ops.size) τ H'
def resultA (τ : List AV) (H : Heap) : ResultVar → Option AV
  | .tmp t => some (τ.getD t undefA)
  | .cell a t => loadA P H t (τ.getD a undefA)
def resultsA (τ : List AV) (H : Heap) (rs : List ResultVar) : Option AV :=
  match allSome (rs.map (resultA P τ H)) with
  | some [v] => some v
  | some vs => some (.tup vs)
  | none => none
def callBy (ex : Code → List AV → Heap → Option (Ex × List AV × Heap)) (g : FuncId) (args : List AV) (H : Heap) : Option (AV × Heap) :=
  match P.funcs[g]? with
  | some fn => match fn.body with
    | some c => match ex c (args ++ List.replicate (fn.ntmps - args.length) undefA) { H with log := [] } with
      | some (.exit _, _, _) => none
      | some (_, τ, H') => match resultsA P τ H' fn.results.toList with
        | some v => some (v, { H' with log := H'.log.filter (· < H.next) ++ H.log })
        | none => none
      | none => none
    | none => none
  | none => none
end
def exec (P : Program) (F : TypeId → Option (List TypeId)) : Nat → Code → List AV → Heap → Option (Ex × List AV × Heap)
  | 0, _, _, _ => none
  | f + 1, c, τ, H =>
    match c with
    | .skip | .label _ => some (.normal, τ, H)
    | .region _ ops draw => match regionA P F (callBy P (exec P F f)) ops draw τ H with
      | some (τ, H) => some (.normal, τ, H)
      | none => none
    | .seq a b => match exec P F f a τ H with
      | some (.normal, τ, H) => exec P F f b τ H
      | r => r
    | .cond c a b => match aev τ c with
      | .bool true => exec P F f a τ H
      | .bool false => exec P F f b τ H
      | _ => none
    | .block id b => match exec P F f b τ H with
      | some (.exit id', τ, H) => if id' = id then some (.normal, τ, H) else some (.exit id', τ, H)
      | r => r
    | .loop b => match exec P F f b τ H with
      | some (.normal, τ, H) => exec P F f (.loop b) τ H
      | r => r
    | .exit id => some (.exit id, τ, H)
    | .ret => some (.ret, τ, H)
    | _ => none
def Heap.empty : Heap := ⟨0, .leaf, []⟩
/-- a closed call -/
def closed (P : Program) (F : TypeId → Option (List TypeId)) (fuel : Nat) (f : FuncId) : Option AV := (callBy P (exec P F fuel) f [] Heap.empty).map (·.1)
end Go.Proofs.Ytdaejmkoenhbkaa.Am
