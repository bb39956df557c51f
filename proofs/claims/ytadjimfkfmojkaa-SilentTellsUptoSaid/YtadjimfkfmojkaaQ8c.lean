/- A part of the proof; the statement is proved in the last part. -/
import Derived.Test.YtadjimfkfmojkaaQ8b
import Derived.Test.YtadjimfkfmojkaaProg
import Derived.KernelRfl
import Derived.IntWalk
import Derived.Test.YtadjimfkfmojkaaRows
import Derived.WalkKit
import Derived.ProofKit
import Derived.OpenShut
import Derived.Handy
import Derived.Outline
import Derived.Lib.Hide
import Derived.Deep.Slices
import Derived.Deep.Fields
import Derived.ChangeSame
import Derived.Carry
import Derived.Deep.Draws
import Derived.Laws.AppendOwn
import Derived.Laws.OwnMore
import Derived.Laws.MakeOwn
import Derived.OwnWalk
import Derived.WalkSpells
import Derived.Deep.DeepMust
import Derived.Shelf.Small.Bits
import Derived.Shelf.Small.Wraps
import Derived.Shelf.Strconv.Itoa0
import Derived.Shelf.Sort.Plain
import Derived.Shelf.Slices.Turned
import Derived.Ground.Names2Prog
import Derived.Shelf.Slices.Clone
import Derived.Shelf.Slices.CompactI
import Derived.Shelf.Slices.SearchI
import Derived.Shelf.Slices.Cells
import Derived.Shelf.Slices.In.SortNone
import Derived.Ground.SlgnProg
import Derived.Shelf.SlicesE.Clone
import Derived.Sort.OwnSortedInts
set_option linter.unusedSimpArgs false
set_option linter.unusedVariables false
section
namespace Go.Proofs.Ytadjimfkfmojkaa.Am
open Go.RowKit
set_option linter.unusedVariables false
namespace W
structure pick (c x y : AV) (K : AV → Prop) : Prop where
  h : W0.pick c x y K
structure un (op : UnOp) (x : AV) (K : AV → Prop) : Prop where
  h : W0.un op x K
structure bin (P : Program) (F : TypeId → Option (List TypeId)) (op : BinOp) (t : TypeId) (x y : AV) (K : AV → Prop) : Prop where
  h : W0.bin P F op t x y K
structure conv (k : IntKind) (x : AV) (K : AV → Prop) : Prop where
  h : W0.conv k x K
structure convS (x : AV) (K : AV → Prop) : Prop where
  h : W0.convS x K
structure faddr (off : Nat) (x : AV) (K : AV → Prop) : Prop where
  h : W0.faddr off x K
structure fld (ag : Bool) (n off : Nat) (x : AV) (K : AV → Prop) : Prop where
  h : W0.fld ag n off x K
structure load (ag : Bool) (n : Nat) (a : AV) (L : SH) (K : AV → Prop) : Prop where
  h : W0.loadR ag n a L K
structure store (n : Nat) (a v : AV) (L : SH) (K : SH → Prop) : Prop where
  h : W0.storeR n a v L K
structure idx (n : Nat) (x ix : AV) (L : SH) (K : AV → Prop) : Prop where
  h : W0.idxR n x ix L K
structure idxP (len n : Nat) (x ix : AV) (K : AV → Prop) : Prop where
  h : W0.idxP len n x ix K
structure ixS (x ix : AV) (K : AV → Prop) : Prop where
  h : W0.ixS x ix K
structure ixA (ag : Bool) (len n : Nat) (x ix : AV) (K : AV → Prop) : Prop where
  h : W0.ixA ag len n x ix K
structure ext (i : Nat) (x : AV) (K : AV → Prop) : Prop where
  h : W0.ext i x K
structure nilchk (x : AV) (K : AV → Prop) : Prop where
  h : W0.nilchk x K
structure build (z : List AV) (parts : List (Nat × Nat × AV)) (K : AV → Prop) : Prop where
  h : W0.build z parts K
structure alloc (cs : List AV) (L : SH) (K : AV → SH → Prop) : Prop where
  h : W0.alloc cs L K
structure box (x : AV) (L : SH) (K : AV → SH → Prop) : Prop where
  h : W0.box x L K
structure bslice (n : Nat) (z : List AV) (len : Nat) (parts : List (Nat × AV)) (L : SH) (K : AV → SH → Prop) : Prop where
  h : W0.bslice n z len parts L K
structure mslice (n by_ : Nat) (z : List AV) (l c : AV) (L : SH) (K : AV → SH → Prop) : Prop where
  h : W0.mslice n by_ z l c L K
structure append (n by_ : Nat) (s x : AV) (L : SH) (K : AV → SH → Prop) : Prop where
  h : W0.appendR n by_ s x L K
structure clear (n : Nat) (z : List AV) (x : AV) (L : SH) (K : SH → Prop) : Prop where
  h : W0.clearR n z x L K
structure len (x : AV) (K : AV → Prop) : Prop where
  h : W0.len x K
structure lenS (x : AV) (K : AV → Prop) : Prop where
  h : W0.lenS x K
structure mnx (mx : Bool) (x y : AV) (K : AV → Prop) : Prop where
  h : W0.mnx mx x y K
structure slice (n : Nat) (x : AV) (lo hi mx : Option AV) (L : SH) (K : AV → Prop) : Prop where
  h : W0.sliceR n x lo hi mx L K
structure sliceS (x : AV) (lo hi : Option AV) (K : AV → Prop) : Prop where
  h : W0.sliceS x lo hi K
structure call (P : Program) (fv : AV) (args : List AV) (L : SH) (K : AV → SH → Prop) : Prop where
  h : match fv with
    | .fn g cs => CallA P g (args ++ cs) L K
    | _ => False
section
variable (P : Program) (F : TypeId → Option (List TypeId))
/-- What an operation demands; none: it is a call. -/
def op (o : Op) (ρ : Operand → AV) (L : SH) (K : AV → SH → Prop) : Prop :=
  let k := fun v => K v L
  match o with
  | .move x | .assign x => K (ρ x) L
  | .pick c x y => pick (ρ c) (ρ x) (ρ y) k
  | .alloc t => match W0.zof P t with
    | some cs => alloc cs L K
    | none => False
  | .box _ x => box (ρ x) L K
  | .build t parts => match P.underlying t, zeroA P t with
    | some (.struct fs), some (.agg z) => if (fs.toList.all fun f => (sizeA P f.type).isSome) = true then
        (match allSome (parts.toList.map fun p => (placesA P fs p.1).map fun q => (q.1, q.2, ρ p.2)) with
          | some ps => build z ps k
          | none => False)
      else False
    | some (.array _ e), some (.agg z) => (match sizeA P e with
      | some n => build z (parts.toList.map fun p => (p.1 * n, n, ρ p.2)) k
      | none => False)
    | _, _ => False
  | .buildSlice t len parts => match P.underlying t with
    | some (.slice e) => match sizeA P e, W0.zof P e with
      | some n, some z => if z.length = n ∧ 0 < n then bslice n z len (parts.toList.map fun p => (p.1, ρ p.2)) L K else False
      | _, _ => False
    | _ => False
  | .load t a => match isAggA P t, sizeA P t with
    | some ag, some n => load ag n (ρ a) L k
    | _, _ => False
  | .store t a x => match sizeA P t with
    | some n => store n (ρ a) (ρ x) L (K (.tup []))
    | none => False
  | .nilCheck x => nilchk (ρ x) k
  | .binOp op t x y _ => bin P F op t (ρ x) (ρ y) k
  | .unOp op _ x => un op (ρ x) k
  | .convert s d x => match P.underlying s, P.underlying d with
    | some (.int _), some (.int kd) => conv kd (ρ x) k
    | some .string, some .string => convS (ρ x) k
    | _, _ => False
  | .makeFunc (.func f) first cap => if first.size = 0 then K (.fn f (cap.toList.map ρ)) L else False
  | .makeSlice t l c => match P.underlying t with
    | some (.slice e) => match sizeA P e, bytesA P e, W0.zof P e with
      | some n, some by_, some z => if z.length = n ∧ 0 < n then mslice n by_ z (ρ l) (ρ c) L K else False
      | _, _, _ => False
    | _ => False
  | .slice t x lo hi mx => if (hi.isNone && mx.isSome) = true then False else match P.underlying t with
    | some (.slice e) => (match sizeA P e with
      | some n => slice n (ρ x) (lo.map ρ) (hi.map ρ) (mx.map ρ) L k
      | none => False)
    | some .string => if mx.isNone = true then sliceS (ρ x) (lo.map ρ) (hi.map ρ) k else False
    | _ => False
  | .fieldAddr s x f => match P.underlying s with
    | some (.struct fs) => match fs[f]? with
      | some f => (match sizeA P f.type with
        | some n => if n = 0 then False else faddr f.offset (ρ x) k
        | none => False)
      | none => False
    | _ => False
  | .field s x f => match P.underlying s with
    | some (.struct fs) => match fs[f]? with
      | some f => (match isAggA P f.type, sizeA P f.type with
        | some ag, some n => fld ag n f.offset (ρ x) k
        | _, _ => False)
      | none => False
    | _ => False
  | .indexAddr t x ix => match P.underlying t with
    | some (.slice e) => (match sizeA P e with
      | some n => idx n (ρ x) (ρ ix) L k
      | none => False)
    | some (.array len e) => (match sizeA P e with
      | some n => idxP len n (ρ x) (ρ ix) k
      | none => False)
    | _ => False
  | .index t x ix => match P.underlying t with
    | some .string => ixS (ρ x) (ρ ix) k
    | some (.array len e) => (match isAggA P e, sizeA P e with
      | some ag, some n => ixA ag len n (ρ x) (ρ ix) k
      | _, _ => False)
    | _ => False
  | .extract x i => ext i (ρ x) k
  | .call c => match c.callee with
    | .builtin .len => (match c.args.toList, (c.argTypes[0]?).bind P.underlying with
      | [x], some (.slice _) => len (ρ x) k
      | [x], some .string => lenS (ρ x) k
      | [x], some (.array n _) => (match ρ x with | .str _ => False | _ => K (.int .i64 n) L)
      | _, _ => False)
    | .builtin .append => (match c.args.toList, c.argTypes.toList with
      | [s, x], [t, tx] => (match P.underlying t, P.underlying tx with
        | some (.slice e), some (.slice _) => (match sizeA P e, bytesA P e, W0.zof P e with
          | some n, some by_, some z => if z.length = n ∧ 0 < n then append n by_ (ρ s) (ρ x) L K else False
          | _, _, _ => False)
        | _, _ => False)
      | _, _ => False)
    | .builtin .min => (match c.args.toList with
      | [x, y] => mnx false (ρ x) (ρ y) k
      | _ => False)
    | .builtin .max => (match c.args.toList with
      | [x, y] => mnx true (ρ x) (ρ y) k
      | _ => False)
    | .builtin .clear => (match c.args.toList, c.argTypes.toList with
      | [x], [t] => (match P.underlying t with
        | some (.slice e) => (match sizeA P e, W0.zof P e with
          | some n, some z => if (z.length = n ∧ 0 < n) ∧ z.all AV.one = true then clear n z (ρ x) L (K (.tup [])) else False
          | _, _ => False)
        | _ => False)
      | _, _ => False)
    | .value f => call P (ρ f) (c.args.toList.map ρ) L K
    | _ => False
  | _ => False
end
theorem op_raw {P : Program} {F : TypeId → Option (List TypeId)} {o : Op} {ρ : Operand → AV} {L : SH} {K : AV → SH → Prop} (h : op P F o ρ L K) : W0.op P F o ρ L K := by
  cases o with
  | makeFunc fn first cap =>
    cases fn with
    | func f =>
      simp only [op] at h
      simp only [W0.op]
      split at h
      · rename_i hc; rw [if_pos hc]; exact h
      · exact h.elim
    | _ => exact h
  | move x => exact h
  | assign x => exact h
  | pick c x y => exact h.h
  | box t x => exact h.h
  | nilCheck x => exact h.h
  | binOp op t x y c => exact h.h
  | unOp op t x => exact h.h
  | extract x i => exact h.h
  | alloc t | build t ps | buildSlice t l ps | load t a | store t a x | convert s d x | makeSlice t l c | slice t x lo hi mx | fieldAddr s x f | field s x f | indexAddr t x ix | index t x ix | call c =>
    simp only [op] at h
    simp only [W0.op]
    repeat' split at h
    all_goals first
      | exact h.elim
      | (have h := h.h; split at h <;> first | exact h.elim | (simp only [*]; exact h))
      | (simp only [*, if_true, and_self]; first | exact h.h | exact h)
      | (simp_all; done)
      | (simp_all; first | exact h.h | exact h)
  | _ => exact h.elim
/-- an operation behind a guard -/
structure grd (x : AV) (want : Bool) (A : (AV → SH → Prop) → Prop) (L : SH) (K : AV → SH → Prop) : Prop where
  h : (x = .bool want ∧ A K) ∨ ((x = .bool (!want) ∨ x = undefA) ∧ K undefA L)
section
variable (P : Program) (F : TypeId → Option (List TypeId)) (ops : Array Oper)
/-- the operations of a region, in the order of the text -/
def sq : List Nat → List AV → SH → (List AV → SH → Prop) → Prop
  | [], τ, L, K => K τ L
  | i :: l, τ, L, K => match ops[i]? with
    | none => False
    | some o => match o.guard with
      | none => op P F o.op (aev τ) L fun v L => sq l (putA τ o.dst v) L K
      | some (j, want) => match (ops[j]?).bind (·.dst) with
        | some d => grd (τ.getD d .junk) want (op P F o.op (aev τ) L) L fun v L => sq l (putA τ o.dst v) L K
        | none => False
/-- what an operation of a drawn region has touched -/
structure WR where
  op : Nat
  reads : List Nat
  writes : List Nat
  made : List Nat
  isCall : Bool
  old : List Nat
def free (x y : WR) : Prop := (∀ c ∈ x.writes, c ∉ y.reads ∧ c ∉ y.writes) ∧ (∀ c ∈ x.reads, c ∉ y.writes) ∧ (∀ c ∈ x.made, c ∉ y.reads ∧ c ∉ y.writes) ∧
  (x.isCall = true → y.isCall = false ∧ y.writes = [] ∧ ∀ c ∈ y.reads, c ∈ x.old) ∧ (y.isCall = true → x.writes = [])
def isMem : Op → Bool
  | .load .. | .store .. | .indexAddr .. | .slice .. | .alloc .. | .box .. | .buildSlice .. | .makeSlice .. => true
  | .call c => match c.callee with
    | .builtin .append => true
    | .builtin .clear => true
    | _ => false
  | _ => false
/-- nothing that is not ordered meets -/
structure calm (us : List WR) (y : WR) (A : Prop) : Prop where
  h : (∀ x ∈ us, free x y) ∧ A
/-- a call in a drawn region: it is handed a part of the heap -/
structure dcall (us : List WR) (i : Nat) (fv : AV) (args : List AV) (L : SH) (K : AV → SH → List Nat → Prop) : Prop where
  h : match fv with
    | .fn g cs => ∃ Kc R : SH, L.Perm (Kc ++ R) ∧ (∀ x ∈ us, free x ⟨i, [], Kc.names, [], true, []⟩) ∧ CallA P g (args ++ cs) Kc fun v K' => K v (K' ++ R) Kc.names
    | _ => False
/-- what an operation touched -/
structure Fp where
  reads : List Nat
  writes : List Nat
  made : List Nat
  old : List Nat
def isCallV : Op → Bool
  | .call c => match c.callee with
    | .value _ => true
    | _ => false
  | _ => false
/-- what was touched, under a name -/
structure note (r0 : Fp) (K : Fp → Prop) : Prop where
  h : ∀ r, r = r0 → K r
/-- an operation of a drawn region; us: those ahead of it in the text that no edge puts ahead of it -/
def dop (us : List WR) (i : Nat) (o : Op) (ρ : Operand → AV) (L : SH) (K : AV → SH → Fp → Prop) : Prop :=
  match o with
  | .call c => match c.callee with
    | .value f => dcall P us i (ρ f) (c.args.toList.map ρ) L fun v L' ks => note ⟨[], ks, [], L.names⟩ fun r => K v L' r
    | .builtin .append => (match c.args.toList with
      | [s, x] => calm us ⟨i, blocksOf (ρ s) ++ blocksOf (ρ x), blocksOf (ρ s), [], false, []⟩ (op P F o ρ L fun v L' => note ⟨blocksOf (ρ s) ++ blocksOf (ρ x), blocksOf (ρ s), blocksOf v, []⟩ fun r => K v L' r)
      | _ => False)
    | .builtin .clear => (match c.args.toList with
      | [x] => calm us ⟨i, blocksOf (ρ x), blocksOf (ρ x), [], false, []⟩ (op P F o ρ L fun v L' => note ⟨blocksOf (ρ x), blocksOf (ρ x), [], []⟩ fun r => K v L' r)
      | _ => False)
    | _ => op P F o ρ L fun v L' => K v L' ⟨[], [], [], []⟩
  | o => if isMem o then calm us ⟨i, readsA o ρ, writesA o ρ, [], false, []⟩ (op P F o ρ L fun v L' => note ⟨readsA o ρ, writesA o ρ, if W0.makes o then blocksOf v else [], []⟩ fun r => K v L' r)
    else op P F o ρ L fun v L' => K v L' ⟨[], [], [], []⟩
def push (i : Nat) (o : Op) (r : Fp) (rs : List WR) : List WR := if isCallV o || isMem o then ⟨i, r.reads, r.writes, r.made, isCallV o, r.old⟩ :: rs else rs
structure dgrd (x : AV) (want : Bool) (A : (AV → SH → Fp → Prop) → Prop) (L : SH) (K : AV → SH → Fp → Prop) : Prop where
  h : (x = .bool want ∧ A K) ∨ ((x = .bool (!want) ∨ x = undefA) ∧ K undefA L ⟨[], [], [], L.names⟩)
def dr (before : List Nat) : List Nat → List AV → SH → List WR → (List AV → SH → Prop) → Prop
  | [], τ, L, _, K => K τ L
  | i :: l, τ, L, rs, K => match ops[i]? with
    | none => False
    | some o => match o.guard with
      | none => dop P F (rs.filter fun x => !(before.getD i 0).testBit x.op) i o.op (aev τ) L fun v L r => dr before l (putA τ o.dst v) L (push i o.op r rs) K
      | some (j, want) => match (ops[j]?).bind (·.dst) with
        | some d => dgrd (τ.getD d .junk) want (dop P F (rs.filter fun x => !(before.getD i 0).testBit x.op) i o.op (aev τ) L) L fun v L r => dr before l (putA τ o.dst v) L (push i o.op r rs) K
        | none => False
end
end W
section
variable {P : Program} {F : TypeId → Option (List TypeId)} {ops : Array Oper} {base : Nat}
open Classical in
/-- one call more -/
noncomputable def ora (g : FuncId) (as_ : List AV) (Hi : Heap) (v : AV) (Ho : Heap) (call : FuncId → List AV → Heap → Option (AV × Heap)) : FuncId → List AV → Heap → Option (AV × Heap) :=
  fun f args H => if f = g ∧ args = as_ ∧ H = Hi then some (v, Ho) else call f args H
def Chgs (call : FuncId → List AV → Heap → Option (AV × Heap)) : Prop := ∀ f args H v H', Bd H → call f args H = some (v, H') → Chg H H'
theorem ora_sound {g : FuncId} {as_ : List AV} {Hi Ho : Heap} {v : AV} {call : FuncId → List AV → Heap → Option (AV × Heap)} (hs : Sound P call) (hc : CallOk P g as_ Hi v Ho) (hn : Hi.next ≤ Ho.next) (hb : ∃ fn c, P.funcs[g]? = some fn ∧ fn.body = some c) : Sound P (ora g as_ Hi v Ho call) := by
  refine ⟨fun f args H u H' h => ?_, fun f args H u H' h => ?_, fun f args H u H' h => ?_⟩ <;>
  · unfold ora at h
    split at h
    · rename_i hk; obtain ⟨rfl, rfl, rfl⟩ := hk; cases h; assumption
    · first | exact hs.ok _ _ _ _ _ h | exact hs.next _ _ _ _ _ h | exact hs.body _ _ _ _ _ h
theorem ora_chg {g : FuncId} {as_ : List AV} {Hi Ho : Heap} {v : AV} {call : FuncId → List AV → Heap → Option (AV × Heap)} (hs : Chgs call) (hc : Bd Hi → Chg Hi Ho) : Chgs (ora g as_ Hi v Ho call) := fun f args H u H' hb h => by
  unfold ora at h
  split at h
  · rename_i hk; obtain ⟨rfl, rfl, rfl⟩ := hk; cases h; exact hc hb
  · exact hs _ _ _ _ _ hb h
theorem ora_hit {g : FuncId} {as_ : List AV} {Hi Ho : Heap} {v : AV} {call : FuncId → List AV → Heap → Option (AV × Heap)} : ora g as_ Hi v Ho call g as_ Hi = some (v, Ho) := by unfold ora; rw [if_pos ⟨rfl, rfl, rfl⟩]
theorem ora_later {g : FuncId} {as_ : List AV} {Hi Ho : Heap} {v : AV} {call : FuncId → List AV → Heap → Option (AV × Heap)} {f : FuncId} {args : List AV} {H : Heap} (h : Hi.next < H.next) : ora g as_ Hi v Ho call f args H = call f args H := by
  unfold ora
  rw [if_neg]
  rintro ⟨_, _, rfl⟩
  omega
theorem stepA_agree {call1 call2 : FuncId → List AV → Heap → Option (AV × Heap)} {i : Nat} {τ : List AV} {H : Heap} (h : ∀ f args, call1 f args H = call2 f args H) : stepA P F call1 ops base i τ H = stepA P F call2 ops base i τ H := by
  unfold stepA
  split
  · rfl
  · split
    · split
      · rfl
      · rw [h]
      · rfl
    · rfl
    · rfl
theorem opsA_agree {call1 call2 : FuncId → List AV → Heap → Option (AV × Heap)} {n : Nat} (hag : ∀ f args H, n < H.next → call1 f args H = call2 f args H) (hs : Sound P call1) : ∀ (l : List Nat) (τ : List AV) (H : Heap) (r : List AV × Heap), n < H.next → opsA P F call1 ops base l τ H = some r → opsA P F call2 ops base l τ H = some r
  | [], τ, H, r, _, h => h
  | i :: l, τ, H, r, hn, h => by
    unfold opsA at h ⊢
    rw [← stepA_agree (call1 := call1) (fun f args => hag f args H hn)]
    split at h
    · rename_i τ1 H1 hst
      exact opsA_agree hag hs l τ1 H1 r (Nat.lt_of_lt_of_le hn (stepA_next hs hst)) h
    · cases h
theorem CallOk.bump {f : FuncId} {args : List AV} {H H1 : Heap} {v : AV} (h : CallOk P f args H v H1) (l : List Nat) : CallOk P f args H v { H1 with next := H1.next + 1, log := l } := by
  intro w σ vs hW hvs
  refine (h w σ vs hW hvs).mono ?_
  rintro e w' ⟨v', σ', rfl, k1, k2, k3, k4⟩
  have ho : Own σ' ({ H1 with next := H1.next + 1, log := l } : Heap) = Own σ' H1 := Own.congr fun _ => rfl
  exact ⟨v', σ', rfl, by rw [ho]; exact k1, k2.congr (fun _ => rfl) (Nat.le_succ _), by rw [ho]; exact k3, k4⟩
theorem Fr.chg {L L' : SH} {H H' : Heap} (h : Fr H.next L H L' H') (l : List Nat) (hl : ∀ b, b ∈ H.log → b ∈ l) (hL : ∀ b, b ∈ L.names → b ∈ l) (n : Nat) (hn : H'.next ≤ n) : Chg H { H' with next := n, log := l } where
  next := Nat.le_trans h.next hn
  dom := fun b hb h0 => h.dom b hb h0
  keep := fun b hb hnl => by
    show H'.get b = H.get b
    cases hg : H.get b with
    | none => exact h.dom b hb hg
    | some x => exact (h.keep b x hg (fun hm => hnl (hL b hm))).1
  log := hl
  bd := fun _ b hb => h.bd b (Nat.le_trans hn hb)
theorem Bd.bump {H : Heap} (h : Bd H) (l : List Nat) (n : Nat) (hn : H.next ≤ n) : Bd { H with next := n, log := l } := fun b hb => h b (Nat.le_trans hn hb)
theorem OpFr.fr {b : Nat} {L L' : SH} {H H' : Heap} (h : OpFr b L H L' H') (hb : base ≤ b) : Fr base L H L' H' :=
  ⟨Nat.le_of_eq h.next.symm, h.bd, h.sub, h.keep, fun c hc => h.dom c (by omega), fun c hc hlt => by
    rcases h.fresh c hc with rfl | h1
    · omega
    · exact h1⟩
theorem wanted_yes {o : Oper} {τ : List AV} {j d : Nat} {want : Bool} (hg : o.guard = some (j, want)) (hd : (ops[j]?).bind (·.dst) = some d) (h : τ.getD d .junk = .bool want) : wantedA ops o τ = some true := by
  have : τ[d]? = some (.bool want) := by
    cases hx : τ[d]? with
    | none => rw [List.getD, hx] at h; cases h
    | some x => rw [List.getD, hx] at h; exact congrArg some h
  simp [wantedA, hg, hd, this]
theorem wanted_no {o : Oper} {τ : List AV} {j d : Nat} {want : Bool} (hg : o.guard = some (j, want)) (hd : (ops[j]?).bind (·.dst) = some d) (h : τ.getD d .junk = .bool (!want) ∨ τ.getD d .junk = undefA) : wantedA ops o τ = some false := by
  rcases h with h | h
  · have : τ[d]? = some (.bool (!want)) := by
      cases hx : τ[d]? with
      | none => rw [List.getD, hx] at h; cases h
      | some x => rw [List.getD, hx] at h; exact congrArg some h
    simp [wantedA, hg, hd, this]
  · have : τ[d]? = some (.tup []) := by
      cases hx : τ[d]? with
      | none => rw [List.getD, hx] at h; cases h
      | some x => rw [List.getD, hx] at h; exact congrArg some h
    simp [wantedA, hg, hd, this]
theorem wanted_none {o : Oper} {τ : List AV} (hg : o.guard = none) : wantedA ops o τ = some true := by simp [wantedA, hg]
theorem sq_sound : ∀ (l : List Nat) (τ : List AV) (L : SH) (K : List AV → SH → Prop), W.sq P F ops l τ L K → l.Nodup → ∀ H, Bd H → Sub L H → (∀ i ∈ l, base + i < H.next ∧ H.get (base + i) = none) → base ≤ H.next →
    ∃ call τ' H' L', Sound P call ∧ Chgs call ∧ opsA P F call ops base l τ H = some (τ', H') ∧ Fr base L H L' H' ∧ K τ' L'
  | [], τ, L, K, h, _, H, hb, hs, _, _ => ⟨noCall, τ, H, L, noCall_sound P, fun _ _ _ _ _ _ h => (by cases h), rfl, .refl hb hs, h⟩
  | i :: l, τ, L, K, h, hnd, H, hb, hs, hfr, hbase => by
    have hnd' := List.nodup_cons.1 hnd
    have h0 := hfr i (by simp)
    unfold W.sq at h
    split at h
    · exact h.elim
    · rename_i o ho
      -- the operation is carried out
      have go : ∀ (Kc : AV → SH → Prop), wantedA ops o τ = some true → W.op P F o.op (aev τ) L Kc → (∀ v L1, Kc v L1 → W.sq P F ops l (putA τ o.dst v) L1 K) →
          ∃ call τ' H' L', Sound P call ∧ Chgs call ∧ opsA P F call ops base (i :: l) τ H = some (τ', H') ∧ Fr base L H L' H' ∧ K τ' L' := by
        intro Kc hw hop hk
        rcases op_goes (b := base + i) hb hs h0.1 h0.2 (W.op_raw hop) with ⟨v, H1, L1, g1, g2, _, g3⟩ | ⟨g, args, g1, g2⟩
        · obtain ⟨call, τ', H', L', k1, k2, k3, k4, k5⟩ := sq_sound l (putA τ o.dst v) L1 K (hk v L1 g3) hnd'.2 H1 g2.bd g2.sub (fun j hj => by
            have hj0 := hfr j (by simp [hj])
            refine ⟨by rw [g2.next]; exact hj0.1, g2.dom _ (fun e => ?_) hj0.2⟩
            have : j = i := by omega
            exact hnd'.1 (this ▸ hj)) (by rw [g2.next]; exact hbase)
          refine ⟨call, τ', H', L', k1, k2, ?_, (g2.fr (Nat.le_add_right _ _)).trans k4 (Nat.le_refl _), k5⟩
          unfold opsA stepA
          simp only [ho, hw, g1]
          exact k3
        · obtain ⟨bd, g3⟩ := g2
          obtain ⟨v, H1, L1, c1, c2, c3⟩ := g3 H hb hs
          have hH1 : Sub L1 ({ H1 with next := H1.next + 1, log := L.names ++ H.log } : Heap) := c2.sub.congr fun _ => rfl
          obtain ⟨call, τ', H', L', k1, k2, k3, k4, k5⟩ := sq_sound l (putA τ o.dst v) L1 K (hk v L1 c3) hnd'.2 { H1 with next := H1.next + 1, log := L.names ++ H.log } (c2.bd.bump _ _ (Nat.le_succ _)) hH1 (fun j hj => by
            have hj0 := hfr j (by simp [hj])
            have := c2.next
            exact ⟨by show base + j < H1.next + 1; omega, c2.dom _ hj0.1 hj0.2⟩) (by have := c2.next; show base ≤ H1.next + 1; omega)
          refine ⟨ora g args H v _ call, τ', H', L', ora_sound k1 (c1.bump _) (by have := c2.next; show H.next ≤ H1.next + 1; omega) bd, ora_chg k2 fun _ => c2.chg _ (fun b hb => List.mem_append_right _ hb) (fun b hb => List.mem_append_left _ hb) _ (Nat.le_succ _), ?_, ?_, k5⟩
          · unfold opsA stepA
            simp only [ho, hw, g1, ora_hit]
            refine opsA_agree (n := H.next) (fun f args K hK => ?_) k1 l _ _ _ (by have := c2.next; show H.next < H1.next + 1; omega) k3
            exact (ora_later hK).symm
          · refine Fr.trans (H' := { H1 with next := H1.next + 1, log := L.names ++ H.log }) ⟨by have := c2.next; show H.next ≤ H1.next + 1; omega, c2.bd.bump _ _ (Nat.le_succ _), hH1, c2.keep, fun b hb' => c2.dom b (by omega), fun b h1 h2 => c2.fresh b h1 (by omega)⟩ k4 (Nat.le_refl _)
      split at h
      · rename_i hg
        exact go _ (wanted_none hg) h fun v L1 h => h
      · rename_i j want hg
        split at h
        · rename_i d hd
          rcases h.h with ⟨h1, h2⟩ | ⟨h1, h2⟩
          · exact go _ (wanted_yes hg hd h1) h2 fun v L1 h => h
          · obtain ⟨call, τ', H', L', k1, k2, k3, k4, k5⟩ := sq_sound l (putA τ o.dst undefA) L K h2 hnd'.2 H hb hs (fun j hj => hfr j (by simp [hj])) hbase
            refine ⟨call, τ', H', L', k1, k2, ?_, k4, k5⟩
            unfold opsA stepA
            simp only [ho, wanted_no hg hd h1]
            exact k3
        · exact h.elim
/-- a region whose order is that of the text -/
theorem ARun.region {id : Nat} {τ : List AV} {L : SH} {Q : Ex → List AV → SH → Prop} (fit : Fit P F) (h : W.sq P F ops (List.range ops.size) τ L fun τ' L' => Q .normal τ' L') : ARun P (.region id ops false) τ L Q := fun H hb hs => by
  obtain ⟨call, τ', H', L', k1, k2, k3, k4, k5⟩ := sq_sound (base := H.next) (List.range ops.size) τ L _ h List.nodup_range { H with next := H.next + ops.size } (hb.bump _ _ (Nat.le_add_right _ _)) (hs.congr fun _ => rfl)
    (fun i hi => ⟨Nat.add_lt_add_left (List.mem_range.1 hi) _, hb _ (Nat.le_add_right _ _)⟩) (Nat.le_add_right _ _)
  have hr : regionA P F call ops false τ H = some (τ', H') := by simp only [regionA, Bool.false_eq_true, if_false]; exact k3
  exact ⟨.normal, τ', H', L', region_sound fit k1 hr, ⟨Nat.le_trans (Nat.le_add_right _ _) k4.next, k4.bd, k4.sub, k4.keep, k4.dom, k4.fresh⟩, k5⟩
end
end Go.Proofs.Ytadjimfkfmojkaa.Am

end
section
namespace Go.Proofs.Ytadjimfkfmojkaa.Am
open Go.RowKit
set_option linter.unusedVariables false
section
variable {P : Program} {F : TypeId → Option (List TypeId)} {ops : Array Oper} {base : Nat} {ρ : Operand → AV} {L : SH}
theorem call_inv {o : Op} {b : Nat} {g : FuncId} {args : List AV} {H : Heap} (h : aop P F o ρ b H = some (.call g args)) : ∃ c f, o = .call c ∧ c.callee = .value f := by
  cases o with
  | call c =>
    simp only [aop] at h
    split at h
    · rename_i bi _
      cases hbi : builtinA P H b bi c.argTypes (c.args.toList.map ρ) with
      | none => rw [hbi] at h; cases h
      | some r => rw [hbi] at h; cases h
    · rename_i f hf; exact ⟨c, f, rfl, hf⟩
    · cases h
  | makeFunc fn first cap => cases fn <;> simp only [aop] at h <;> (try split at h) <;> simp at h
  | _ =>
    exfalso
    simp only [aop] at h
    repeat' (first | (cases h; done) | (simp at h; done) | split at h)
theorem nonmem_reads {o : Op} (h : W.isMem o = false) : readsA o ρ = [] ∧ writesA o ρ = [] := by
  cases o with
  | call c =>
    simp only [W.isMem] at h
    simp only [readsA, writesA]
    split at h
    · cases h
    · cases h
    · rename_i hn hn2
      constructor <;> · split
                        · rename_i he; exact absurd he hn
                        · rename_i he; exact absurd he hn2
                        · rfl
  | _ => first | (cases h; done) | exact ⟨rfl, rfl⟩
theorem rowsR_reads {n : Nat} {s : AV} {rows : List (List AV)} (h : W0.rowsR L n s rows) : ∀ c ∈ blocksOf s, c ∈ L.names := by
  intro c hc
  unfold W0.rowsR at h
  split at h
  · simp [blocksOf] at hc
  · simp [blocksOf] at hc
  · simp [blocksOf] at hc
  · obtain ⟨x, h1, _⟩ := h
    simp only [blocksOf, List.mem_singleton] at hc
    subst hc
    exact List.mem_map_of_mem (f := Prod.fst) h1
  · exact h.elim
theorem op_reads {o : Op} {K : AV → SH → Prop} (h : W0.op P F o ρ L K) : ∀ c ∈ readsA o ρ, c ∈ L.names := by
  intro c hc
  cases o with
  | load t a =>
    simp only [W0.op] at h
    split at h
    · simp only [readsA] at hc
      unfold W0.loadR at h
      split at h
      · rename_i ha
        obtain ⟨x, r, v, g1, _⟩ := h
        rw [ha] at hc
        simp only [blocksOf, List.mem_singleton] at hc
        subst hc
        exact List.mem_map_of_mem (f := Prod.fst) g1
      · rename_i ha; rw [ha] at hc; simp [blocksOf] at hc
      · exact h.elim
    · exact h.elim
  | store t a x =>
    simp only [W0.op] at h
    split at h
    · simp only [readsA] at hc
      unfold W0.storeR at h
      split at h
      · rename_i ha
        obtain ⟨x, r, cs, L', _, _, _, _, _, g1, _⟩ := h
        rw [ha] at hc
        simp only [blocksOf, List.mem_singleton] at hc
        subst hc
        exact List.mem_map_of_mem (f := Prod.fst) g1.mem
      · exact h.elim
    · exact h.elim
  | indexAddr t x ix =>
    simp only [W0.op] at h
    simp only [readsA] at hc
    split at h
    · split at h
      · unfold W0.idxR at h
        split at h
        · rename_i hx
          obtain ⟨k, i, y, _, _, _, g1, _⟩ := h
          rw [hx] at hc
          simp only [slOf, List.mem_singleton] at hc
          subst hc
          exact List.mem_map_of_mem (f := Prod.fst) g1
        · rename_i hx; rw [hx] at hc; simp [slOf] at hc
        · exact h.elim
      · exact h.elim
    · split at h
      · obtain ⟨k, i, _, _, _, g⟩ := h
        split at g
        · rename_i hx; rw [hx] at hc; simp [slOf] at hc
        · rename_i hx; rw [hx] at hc; simp [slOf] at hc
        · exact g.elim
      · exact h.elim
    · exact h.elim
  | slice t x lo hi mx =>
    simp only [W0.op] at h
    simp only [readsA] at hc
    split at h
    · exact h.elim
    · split at h
      · split at h
        · obtain ⟨len, l, hh, m, _, _, _, _, _, _, _, g⟩ := h
          split at g
          · rename_i hx; rw [hx] at hc; simp [slOf] at hc
          · rename_i hx
            obtain ⟨⟨y, g1, _⟩, _⟩ := g
            rw [hx] at hc
            simp only [slOf, List.mem_singleton] at hc
            subst hc
            exact List.mem_map_of_mem (f := Prod.fst) g1
          · rename_i hx; rw [hx] at hc; simp [slOf] at hc
          · exact g.elim
        · exact h.elim
      · split at h
        · obtain ⟨s, l, hh, hx, _⟩ := h
          rw [hx] at hc; simp [slOf] at hc
        · exact h.elim
      · exact h.elim
  | call k =>
    simp only [readsA] at hc
    split at hc
    · rename_i hcal
      simp only [W0.op, hcal] at h
      split at h
      · rename_i s x t tx ha ht
        split at h
        · split at h
          · split at h
            · obtain ⟨l, m, g1, g2, _⟩ := h
              simp only [ha, List.flatMap_cons, List.flatMap_nil, List.append_nil, List.mem_append] at hc
              rcases hc with hc | hc
              · exact rowsR_reads g1 c hc
              · exact rowsR_reads g2 c hc
            · exact h.elim
          · exact h.elim
        · exact h.elim
      · exact h.elim
    · rename_i hcal
      simp only [W0.op, hcal] at h
      split at h
      · rename_i x t ha ht
        split at h
        · split at h
          · split at h
            · simp only [ha, List.flatMap_cons, List.flatMap_nil, List.append_nil] at hc
              unfold W0.clearR at h
              split at h
              · rename_i hx; rw [hx] at hc; simp [blocksOf] at hc
              · rename_i hx
                obtain ⟨y, L', _, _, g1, _⟩ := h
                rw [hx] at hc
                simp only [blocksOf, List.mem_singleton] at hc
                subst hc
                exact List.mem_map_of_mem (f := Prod.fst) g1.mem
              · exact h.elim
            · exact h.elim
          · exact h.elim
        · exact h.elim
      · exact h.elim
    · simp at hc
  | _ => simp [readsA] at hc
/-- operations that make and change no memory -/
theorem op_calm {o : Op} {K K2 : AV → SH → Prop} (hK : ∀ v, K v L → K2 v L) (hm : W.isMem o = false) (hv : ∀ c f, o = .call c → c.callee ≠ .value f) (h : W0.op P F o ρ L K) : W0.op P F o ρ L K2 := by
  cases o with
  | call c =>
    simp only [W0.op] at h ⊢
    split at h
    · split at h
      · obtain ⟨n, g1, g2⟩ := h; exact ⟨n, g1, hK _ g2⟩
      · obtain ⟨n, g1, g2⟩ := h; exact ⟨n, g1, hK _ g2⟩
      · split at h
        · exact h
        · exact hK _ h
      · exact h
    · rename_i hc; simp [W.isMem, hc] at hm
    · split at h
      · obtain ⟨k, a, c, g1, g2, g3⟩ := h; exact ⟨k, a, c, g1, g2, hK _ g3⟩
      · exact h
    · split at h
      · obtain ⟨k, a, c, g1, g2, g3⟩ := h; exact ⟨k, a, c, g1, g2, hK _ g3⟩
      · exact h
    · rename_i hc; simp [W.isMem, hc] at hm
    · rename_i f hc; exact absurd hc (hv c f rfl)
    · exact h
  | move x => exact hK _ h
  | assign x => exact hK _ h
  | pick c x y => obtain ⟨t, g1, g2⟩ := h; exact ⟨t, g1, hK _ g2⟩
  | build t parts =>
    simp only [W0.op] at h ⊢
    split at h
    · split at h
      · rename_i hall
        rw [if_pos hall]
        split at h
        · obtain ⟨cs, g1, g2⟩ := h; exact ⟨cs, g1, hK _ g2⟩
        · exact h
      · exact h.elim
    · split at h
      · obtain ⟨cs, g1, g2⟩ := h; exact ⟨cs, g1, hK _ g2⟩
      · exact h
    · exact h
  | nilCheck x =>
    simp only [W0.op, W0.nilchk] at h ⊢
    split at h <;> first | exact hK _ h | exact h
  | binOp op t x y c => obtain ⟨v, g1, g2⟩ := h; exact ⟨v, g1, hK _ g2⟩
  | unOp op t x => obtain ⟨v, g1, g2⟩ := h; exact ⟨v, g1, hK _ g2⟩
  | convert s d x =>
    simp only [W0.op] at h ⊢
    split at h
    · obtain ⟨k, n, g1, g2⟩ := h; exact ⟨k, n, g1, hK _ g2⟩
    · obtain ⟨s, g1, g2⟩ := h; exact ⟨s, g1, hK _ g2⟩
    · exact h
  | makeFunc fn first cap =>
    cases fn with
    | func f =>
      simp only [W0.op] at h ⊢
      split at h
      · rename_i h0; rw [if_pos h0]; exact hK _ h
      · exact h.elim
    | _ => exact h
  | fieldAddr s x f =>
    simp only [W0.op] at h ⊢
    split at h
    · split at h
      · split at h
        · split at h
          · exact h.elim
          · rename_i h0
            rw [if_neg h0]
            unfold W0.faddr at h ⊢
            split at h <;> first | exact hK _ h | exact h
        · exact h
      · exact h
    · exact h
  | field s x f =>
    simp only [W0.op] at h ⊢
    split at h
    · split at h
      · split at h
        · obtain ⟨cs, v, g1, g2, g3⟩ := h; exact ⟨cs, v, g1, g2, hK _ g3⟩
        · exact h
      · exact h
    · exact h
  | index t x ix =>
    simp only [W0.op] at h ⊢
    split at h
    · obtain ⟨s, k, i, y, g1, g2, g3, g4, g5⟩ := h; exact ⟨s, k, i, y, g1, g2, g3, g4, hK _ g5⟩
    · split at h
      · obtain ⟨cs, k, i, v, g1, g2, g3, g4, g5, g6⟩ := h; exact ⟨cs, k, i, v, g1, g2, g3, g4, g5, hK _ g6⟩
      · exact h
    · exact h
  | extract x i => obtain ⟨vs, v, g1, g2, g3⟩ := h; exact ⟨vs, v, g1, g2, hK _ g3⟩
  | _ => first | (cases hm; done) | exact h
theorem meets_free' {x y : Rec} (hw : ∀ c ∈ x.writes, c ∉ y.reads ∧ c ∉ y.writes) (hr : ∀ c ∈ x.reads, c ∉ y.writes) (hm : ∀ c ∈ x.made, c ∉ y.reads ∧ c ∉ y.writes)
    (hc : x.isCall = true → y.isCall = false ∧ y.writes = [] ∧ ∀ c ∈ y.reads, c < x.lo) (hy : y.isCall = true → x.writes = []) : meets x y = false := by
  have ap : ∀ l m : List Nat, (∀ c ∈ l, c ∉ m) → apart l m = true := fun l m h => by simpa [apart] using h
  unfold meets
  rw [ap _ _ fun c h => (hw c h).1, ap _ _ fun c h => (hw c h).2, ap _ _ hr, ap _ _ fun c h => (hm c h).1, ap _ _ fun c h => (hm c h).2]
  cases hx : x.isCall with
  | true =>
    obtain ⟨h1, h2, h3⟩ := hc hx
    simp only [h1, h2, List.isEmpty_nil, Bool.not_true, Bool.false_or, Bool.and_true, Bool.true_and, Bool.false_and, Bool.or_false]
    rw [List.any_eq_false]
    intro c hcm
    have := h3 c hcm
    simp; omega
  | false =>
    cases hyc : y.isCall with
    | true => simp [hy hyc]
    | false => simp
theorem dop_cases {us : List W.WR} {i : Nat} {o : Op} {K : AV → SH → W.Fp → Prop} (h : W.dop P F us i o ρ L K) :
    (∃ c f g cs, o = .call c ∧ c.callee = .value f ∧ ρ f = .fn g cs ∧ ∃ Kc R : SH, L.Perm (Kc ++ R) ∧ (∀ x ∈ us, W.free x ⟨i, [], Kc.names, [], true, []⟩) ∧ CallA P g (c.args.toList.map ρ ++ cs) Kc fun v K' => W.note ⟨[], Kc.names, [], L.names⟩ fun r => K v (K' ++ R) r) ∨
    (W.isMem o = true ∧ W.isCallV o = false ∧ (∀ x ∈ us, W.free x ⟨i, readsA o ρ, writesA o ρ, [], false, []⟩) ∧ W0.op P F o ρ L fun v L' => W.note ⟨readsA o ρ, writesA o ρ, if W0.makes o then blocksOf v else [], []⟩ fun r => K v L' r) ∨
    (W.isMem o = false ∧ W.isCallV o = false ∧ (∀ c f, o = .call c → c.callee ≠ .value f) ∧ W0.op P F o ρ L fun v L' => K v L' ⟨[], [], [], []⟩) := by
  cases o with
  | call c =>
    simp only [W.dop] at h
    split at h
    · rename_i f hf
      have h := h.h
      split at h
      · rename_i g cs hg; exact .inl ⟨c, f, g, cs, rfl, hf, hg, h⟩
      · exact h.elim
    · rename_i hc
      split at h
      · rename_i s x ha
        have h1 : readsA (.call c) ρ = blocksOf (ρ s) ++ blocksOf (ρ x) := by simp [readsA, hc, ha]
        have h2 : writesA (.call c) ρ = blocksOf (ρ s) := by simp [writesA, hc, ha]
        refine .inr (.inl ⟨by simp [W.isMem, hc], by simp [W.isCallV, hc], ?_⟩)
        rw [h1, h2, show W0.makes (.call c) = true by simp [W0.makes, hc]]
        exact ⟨h.h.1, W.op_raw h.h.2⟩
      · exact h.elim
    · rename_i hc
      split at h
      · rename_i x ha
        have h1 : readsA (.call c) ρ = blocksOf (ρ x) := by simp [readsA, hc, ha]
        have h2 : writesA (.call c) ρ = blocksOf (ρ x) := by simp [writesA, hc, ha]
        refine .inr (.inl ⟨by simp [W.isMem, hc], by simp [W.isCallV, hc], ?_⟩)
        rw [h1, h2, show W0.makes (.call c) = false by simp [W0.makes, hc]]
        exact ⟨h.h.1, W.op_raw h.h.2⟩
      · exact h.elim
    · rename_i h1 h2 h3
      refine .inr (.inr ⟨?_, ?_, fun c' f hc' => ?_, W.op_raw h⟩)
      · simp only [W.isMem]
      · simp only [W.isCallV]
      · cases hc'; exact h1 f
  | _ => first | exact .inr (.inl ⟨rfl, rfl, h.h.1, W.op_raw h.h.2⟩) | exact .inr (.inr ⟨rfl, rfl, fun c f hc => (by cases hc), W.op_raw h⟩)
/-- the records of the evaluator and those of W -/
def Rel1 (base k : Nat) (ws : List W.WR) (r : Rec) : Prop := r.op < k ∧
  ((r.isCall = false ∧ r.reads = [] ∧ r.writes = [] ∧ r.made = [base + r.op]) ∨
   ∃ x ∈ ws, x.op = r.op ∧ r.reads = x.reads ∧ (∀ c ∈ r.writes, c ∈ x.writes) ∧ r.isCall = x.isCall ∧ (r.isCall = true → r.made = [] ∧ ∀ c ∈ x.old, c < r.lo) ∧ (r.isCall = false → r.made = [base + r.op]))
theorem Rel1.more {k k' : Nat} {ws ws' : List W.WR} {r : Rec} (h : Rel1 base k ws r) (hk : k ≤ k') (hw : ∀ x ∈ ws, x ∈ ws') : Rel1 base k' ws' r := by
  refine ⟨Nat.lt_of_lt_of_le h.1 hk, ?_⟩
  rcases h.2 with h1 | ⟨x, h1, h2⟩
  · exact .inl h1
  · exact .inr ⟨x, hw x h1, h2⟩
/-- names of the region's own blocks are recorded -/
def Made (base k : Nat) (L : SH) (ws : List W.WR) : Prop := ∀ j, j < k → base + j ∈ L.names → ∃ x ∈ ws, x.op = j ∧ base + j ∈ x.made
/-- an operation that is free of W's records is free of the evaluator's -/
theorem free_meets {k : Nat} {ws : List W.WR} {mask : Nat} {r y : Rec} {wy : W.WR} (hr : Rel1 base k ws r) (hma : Made base k L ws) (hun : mask.testBit r.op = false)
    (hf : ∀ x ∈ ws.filter (fun x => !mask.testBit x.op), W.free x wy) (h1 : ∀ c ∈ y.reads, c ∈ wy.reads) (h2 : ∀ c ∈ y.writes, c ∈ wy.writes) (h3 : y.isCall = wy.isCall) (h4 : wy.writes = [] → y.writes = [])
    (hL1 : ∀ c ∈ wy.reads, c ∈ L.names) (hL2 : ∀ c ∈ wy.writes, c ∈ L.names) : meets r y = false := by
  have mem : ∀ x ∈ ws, x.op = r.op → W.free x wy := fun x hx he => hf x (by rw [List.mem_filter]; exact ⟨hx, by rw [he, hun]; rfl⟩)
  have made : ∀ c ∈ [base + r.op], c ∉ y.reads ∧ c ∉ y.writes := fun c hc => by
    rw [List.mem_singleton] at hc
    subst hc
    constructor
    · intro hy
      obtain ⟨x, g1, g2, g3⟩ := hma r.op hr.1 (hL1 _ (h1 _ hy))
      exact ((mem x g1 g2).2.2.1 _ g3).1 (h1 _ hy)
    · intro hy
      obtain ⟨x, g1, g2, g3⟩ := hma r.op hr.1 (hL2 _ (h2 _ hy))
      exact ((mem x g1 g2).2.2.1 _ g3).2 (h2 _ hy)
  rcases hr.2 with ⟨g1, g2, g3, g4⟩ | ⟨x, g1, g2, g3, g4, g5, g6, g7⟩
  · exact meets_free' (by simp [g3]) (by simp [g2]) (by rw [g4]; exact made) (by simp [g1]) (fun _ => g3)
  · obtain ⟨f1, f2, f3, f4, f5⟩ := mem x g1 g2
    refine meets_free' (fun c hc => ⟨fun h => (f1 c (g4 c hc)).1 (h1 c h), fun h => (f1 c (g4 c hc)).2 (h2 c h)⟩) (fun c hc h => f2 c (g3 ▸ hc) (h2 c h)) ?_ (fun hc => ?_) (fun hc => ?_)
    · cases hrc : r.isCall with
      | true => rw [(g6 hrc).1]; simp
      | false => rw [g7 hrc]; exact made
    · obtain ⟨e1, e2, e3⟩ := f4 (g5 ▸ hc)
      exact ⟨h3.trans e1, h4 e2, fun c h => (g6 hc).2 c (e3 c (h1 c h))⟩
    · have := f5 (h3 ▸ hc)
      cases hw : r.writes with
      | nil => rfl
      | cons c l => have h := g4 c (by rw [hw]; simp); rw [this] at h; simp at h
theorem drawStep_agree {call1 call2 : FuncId → List AV → Heap → Option (AV × Heap)} {n i mask : Nat} {τ : List AV} {H : Heap} (hag : ∀ f args H, n < H.next → call1 f args H = call2 f args H) (hn : n < H.next) : drawStep P F call1 ops base i mask τ H = drawStep P F call2 ops base i mask τ H := by
  unfold drawStep
  split
  · rfl
  · split
    · split
      · rfl
      · rw [hag _ _ _ (by show n < (hideA base mask i H).next; rw [(hide_next base mask i H).1]; exact hn)]
      · rfl
    · rfl
    · rfl
theorem drawA_agree {call1 call2 : FuncId → List AV → Heap → Option (AV × Heap)} {n : Nat} {before : List Nat} (hag : ∀ f args H, n < H.next → call1 f args H = call2 f args H) (hs : Sound P call1) : ∀ (l : List Nat) (τ : List AV) (H : Heap) (rs : List Rec) (r : List AV × Heap × List Rec), n < H.next → drawA P F call1 ops base before l τ H rs = some r → drawA P F call2 ops base before l τ H rs = some r
  | [], τ, H, rs, r, _, h => h
  | i :: l, τ, H, rs, r, hn, h => by
    have key : ∀ {τ1 H1 x}, drawStep P F call1 ops base i (before.getD i 0) τ H = some (τ1, H1, x) → H.next ≤ H1.next := fun {τ1 H1 x} hd => by
      have : ∃ l, drawA P F call1 ops base before [i] τ H [] = some (τ1, H1, l) := by
        unfold drawA
        rw [hd]
        cases x
        · exact ⟨_, rfl⟩
        · exact ⟨_, rfl⟩
      obtain ⟨l, this⟩ := this
      exact drawA_next hs [i] _ _ _ _ _ _ this
    unfold drawA at h ⊢
    rw [← drawStep_agree (call1 := call1) hag hn]
    split at h
    · rename_i hd; exact drawA_agree hag hs l _ _ _ r (Nat.lt_of_lt_of_le hn (key hd)) h
    · rename_i hd
      split at h
      · rename_i hc; rw [if_pos hc]; exact drawA_agree hag hs l _ _ _ r (Nat.lt_of_lt_of_le hn (key hd)) h
      · cases h
    · cases h
theorem range'_succ (k m : Nat) : List.range' k (m + 1) = k :: List.range' (k + 1) m := rfl
theorem dr_sound {before : List Nat} : ∀ (m k : Nat) (τ : List AV) (L : SH) (ws : List W.WR) (K : List AV → SH → Prop), W.dr P F ops before (List.range' k m) τ L ws K → ∀ (H : Heap) (rs : List Rec), Bd H → Sub L H →
    (∀ j, k ≤ j → j < k + m → base + j < H.next ∧ H.get (base + j) = none) → base + k ≤ H.next → (∀ r ∈ rs, Rel1 base k ws r) → Made base k L ws →
    ∃ call τ' H' L' rs', Sound P call ∧ Chgs call ∧ drawA P F call ops base before (List.range' k m) τ H rs = some (τ', H', rs') ∧ Fr base L H L' H' ∧ K τ' L'
  | 0, k, τ, L, ws, K, h, H, rs, hb, hs, _, _, _, _ => ⟨noCall, τ, H, L, rs, noCall_sound P, fun _ _ _ _ _ _ h => (by cases h), rfl, .refl hb hs, h⟩
  | m + 1, k, τ, L, ws, K, h, H, rs, hb, hs, hfr, hbase, hrel, hma => by
    rw [range'_succ] at h ⊢
    have h0 := hfr k (Nat.le_refl _) (by omega)
    have hlt : ∀ c, c ∈ L.names → c < H.next := fun c hc => by
      obtain ⟨x, _, hx⟩ := hs.mem hc
      rcases Nat.lt_or_ge c H.next with h1 | h1
      · exact h1
      · rw [hb c h1] at hx; cases hx
    unfold W.dr at h
    split at h
    · exact h.elim
    · rename_i o ho
      have go : ∀ (Kc : AV → SH → W.Fp → Prop), wantedA ops o τ = some true → W.dop P F (ws.filter fun x => !(before.getD k 0).testBit x.op) k o.op (aev τ) L Kc → (∀ v L1 r, Kc v L1 r → W.dr P F ops before (List.range' (k + 1) m) (putA τ o.dst v) L1 (W.push k o.op r ws) K) →
          ∃ call τ' H' L' rs', Sound P call ∧ Chgs call ∧ drawA P F call ops base before (k :: List.range' (k + 1) m) τ H rs = some (τ', H', rs') ∧ Fr base L H L' H' ∧ K τ' L' := by
        intro Kc hw hop hk
        -- a simple operation
        have val : ∀ (v : AV) (H1 : Heap) (L1 : SH) (wr : W.Fp), aop P F o.op (aev τ) (base + k) H = some (.val v H1) → OpFr (base + k) L H L1 H1 → Kc v L1 wr →
            (∀ r ∈ rs, (before.getD k 0).testBit r.op = false → meets r ⟨k, readsA o.op (aev τ), writesA o.op (aev τ), [base + k], false, 0, 0⟩ = false) →
            Rel1 base (k + 1) (W.push k o.op wr ws) ⟨k, readsA o.op (aev τ), writesA o.op (aev τ), [base + k], false, 0, 0⟩ → (∀ x ∈ ws, x ∈ W.push k o.op wr ws) → (base + k ∈ L1.names → ∃ x ∈ W.push k o.op wr ws, x.op = k ∧ base + k ∈ x.made) →
            ∃ call τ' H' L' rs', Sound P call ∧ Chgs call ∧ drawA P F call ops base before (k :: List.range' (k + 1) m) τ H rs = some (τ', H', rs') ∧ Fr base L H L' H' ∧ K τ' L' := by
          intro v H1 L1 wr g1 g2 g3 g4 g5 g6 g7
          obtain ⟨call, τ', H', L', rs', k1, k2, k3, k4, k5⟩ := dr_sound m (k + 1) (putA τ o.dst v) L1 (W.push k o.op wr ws) K (hk v L1 wr g3) { H1 with log := H.log } (⟨k, readsA o.op (aev τ), writesA o.op (aev τ), [base + k], false, 0, 0⟩ :: rs) g2.bd (g2.sub.congr fun _ => rfl) (fun j h1 h2 => by
              have hj0 := hfr j (by omega) (by omega)
              exact ⟨by show base + j < H1.next; rw [g2.next]; exact hj0.1, g2.dom _ (by omega) hj0.2⟩) (by show base + (k + 1) ≤ H1.next; rw [g2.next]; omega) (fun r hr => by
              rcases List.mem_cons.1 hr with rfl | hr
              · exact g5
              · exact (hrel r hr).more (Nat.le_succ _) g6) (fun j hj hm => by
              rcases g2.fresh _ hm with h1 | h1
              · have : j = k := by omega
                subst this
                exact g7 hm
              · have hjk : j ≠ k := fun e => by subst e; exact hs.not_mem h0.2 h1
                obtain ⟨x, e1, e2⟩ := hma j (by omega) h1
                exact ⟨x, g6 x e1, e2⟩)
          refine ⟨call, τ', H', L', rs', k1, k2, ?_, Fr.trans (H' := { H1 with log := H.log }) ⟨Nat.le_of_eq g2.next.symm, g2.bd, g2.sub.congr fun _ => rfl, g2.keep, fun c hc => g2.dom c (by omega), fun c hc hlt => (g2.fresh c hc).resolve_left (by omega)⟩ k4 (Nat.le_refl _), k5⟩
          unfold drawA drawStep
          simp only [ho, hw, g1]
          rw [if_pos]
          · exact k3
          · rw [List.all_eq_true]
            intro r hr
            cases hm : (before.getD k 0).testBit r.op with
            | true => rfl
            | false => rw [g4 r hr hm]; rfl
        rcases dop_cases hop with ⟨c, f, g, cs, e1, e2, e3, hd⟩ | ⟨hm, hcv, hfree, hop⟩ | ⟨hm, hcv, hv, hop⟩
        · -- a call
          obtain ⟨Kp, R, hL, hfree, bd, hcall⟩ := hd
          have hs' := hs.perm hL
          have hn : ∀ b, b ∈ L.names ↔ b ∈ Kp.names ∨ b ∈ R.names := fun b => by rw [(hL.map Prod.fst).mem_iff, List.map_append, List.mem_append]
          generalize hmask : before.getD k 0 = mask at hfree hop
          let Hid : Nat → Prop := fun c => ∃ j, j < k ∧ mask.testBit j = false ∧ c = base + j
          have hHid : ∀ c, Hid c → c < H.next ∧ base ≤ c := fun c ⟨j, hj, _, hc⟩ => by omega
          have hKp : ∀ c, c ∈ Kp.names → ¬ Hid c := fun c hc ⟨j, hj, hmj, hcj⟩ => by
            subst hcj
            obtain ⟨x, f1, f2, f3⟩ := hma j hj ((hn _).2 (.inl hc))
            exact ((hfree x (by rw [List.mem_filter]; exact ⟨f1, by rw [f2, hmj]; rfl⟩)).2.2.1 _ f3).2 hc
          have hhg : ∀ c, ({ hideA base mask k H with log := [] } : Heap).get c = if Hid c then none else H.get c := fun c => hide_get base mask k H c
          have hhn : ({ hideA base mask k H with log := [] } : Heap).next = H.next := (hide_next base mask k H).1
          generalize hHh : ({ hideA base mask k H with log := [] } : Heap) = Hh at hhg hhn
          have hhl : Hh.log = [] := by rw [← hHh]
          have hbh : Bd Hh := fun c hc => by
            rw [hhg]
            split
            · rfl
            · exact hb c (by omega)
          have hsh : Sub Kp Hh := ⟨hs'.left.nd, fun p hp => by rw [hhg, if_neg (hKp _ (List.mem_map_of_mem hp))]; exact hs'.left.get p hp⟩
          obtain ⟨v, H1, K1, c1, c2, c3⟩ := hcall Hh hbh hsh
          have hnx := c2.next
          let Ho : Heap := { H1 with next := H1.next + 1, log := Kp.names }
          let Hn : Heap := { showA base mask H k Ho with log := H.log }
          have hng : ∀ c, Hn.get c = if Hid c then H.get c else H1.get c := fun c => show_get base mask H k Ho c
          have hnn : Hn.next = H1.next + 1 := (show_next base mask H k Ho).1
          have hK1 : ∀ c, c ∈ K1.names → ¬ Hid c := fun c hc hh => hKp c (c2.fresh c hc (by have := (hHid c hh).1; omega)) hh
          have hR : ∀ p ∈ R, Hn.get p.1 = some p.2 ∧ p.1 ∉ K1.names := fun p hp => by
            rw [hng]
            by_cases hh : Hid p.1
            · rw [if_pos hh]; exact ⟨hs'.right.get p hp, fun hc => hK1 _ hc hh⟩
            · rw [if_neg hh]
              exact c2.keep p.1 p.2 (by rw [hhg, if_neg hh]; exact hs'.right.get p hp) (fun hk => hs'.disj hk (List.mem_map_of_mem hp))
          have frn : Fr base L H (K1 ++ R) Hn := by
            refine ⟨by rw [hnn]; omega, fun c hc => ?_, ⟨?_, fun p hp => ?_⟩, fun b x h1 h2 => ?_, fun b hb' h1 => ?_, fun b h1 h2 => ?_⟩
            · rw [hnn] at hc
              rw [hng, if_neg (fun hh => by have := (hHid c hh).1; omega)]
              exact c2.bd c (by omega)
            · unfold SH.names
              rw [List.map_append, List.nodup_append]
              refine ⟨c2.sub.nd, hs'.right.nd, fun a ha b hb he => ?_⟩
              subst he
              obtain ⟨p, hp, rfl⟩ := List.mem_map.1 hb
              exact (hR p hp).2 ha
            · rcases List.mem_append.1 hp with hp | hp
              · rw [hng, if_neg (hK1 _ (List.mem_map_of_mem hp))]; exact c2.sub.get p hp
              · exact (hR p hp).1
            · rw [hn] at h2
              have : Hn.get b = some x ∧ b ∉ K1.names := by
                rw [hng]
                by_cases hh : Hid b
                · rw [if_pos hh]; exact ⟨h1, fun hc => hK1 _ hc hh⟩
                · rw [if_neg hh]
                  exact c2.keep b x (by rw [hhg, if_neg hh]; exact h1) (fun hk => h2 (.inl hk))
              refine ⟨this.1, fun hk => ?_⟩
              unfold SH.names at hk
              rw [List.map_append, List.mem_append] at hk
              rcases hk with hk | hk
              · exact this.2 hk
              · exact h2 (.inr hk)
            · have hh : ¬ Hid b := fun hh => by have := (hHid b hh).2; omega
              rw [hng, if_neg hh]
              exact c2.dom b (by omega) (by rw [hhg, if_neg hh]; exact h1)
            · unfold SH.names at h1
              rw [List.map_append, List.mem_append] at h1
              rw [hn]
              rcases h1 with h1 | h1
              · exact .inl (c2.fresh b h1 (by omega))
              · exact .inr h1
          let r : Rec := ⟨k, [], Ho.log.filter (fun c => (Hh.get c).isSome), [], true, H.next, Ho.next⟩
          obtain ⟨call, τ', H', L', rs', k1, k2, k3, k4, k5⟩ := dr_sound m (k + 1) (putA τ o.dst v) (K1 ++ R) ((⟨k, [], Kp.names, [], true, L.names⟩ : W.WR) :: ws) K (by have := hk v _ _ (c3.h _ rfl); rw [show W.push k o.op ⟨[], Kp.names, [], L.names⟩ ws = (⟨k, [], Kp.names, [], true, L.names⟩ : W.WR) :: ws from by simp [W.push, W.isCallV, e1, e2]] at this; exact this) Hn (r :: rs) frn.bd frn.sub (fun j h1 h2 => by
              have hj0 := hfr j (by omega) (by omega)
              have hh : ¬ Hid (base + j) := fun ⟨q, hq, _, he⟩ => by omega
              refine ⟨by rw [hnn]; omega, ?_⟩
              rw [hng, if_neg hh]
              exact c2.dom _ (by omega) (by rw [hhg, if_neg hh]; exact hj0.2)) (by rw [hnn]; omega) (fun q hq => by
              rcases List.mem_cons.1 hq with rfl | hq
              · exact ⟨Nat.lt_succ_self _, .inr ⟨_, List.mem_cons_self, rfl, rfl, fun c hc => (List.mem_filter.1 hc).1, rfl, fun _ => ⟨rfl, hlt⟩, fun h => (by cases h)⟩⟩
              · exact (hrel q hq).more (Nat.le_succ _) fun x hx => List.mem_cons_of_mem _ hx) (fun j hj hm => by
              have hjk : base + j ∈ L.names := by
                rw [hn]
                unfold SH.names at hm
                rw [List.map_append, List.mem_append] at hm
                rcases hm with hm | hm
                · exact .inl (c2.fresh _ hm (by omega))
                · exact .inr hm
              have hne : j ≠ k := fun e => by subst e; exact hs.not_mem h0.2 hjk
              obtain ⟨x, f1, f2⟩ := hma j (by omega) hjk
              exact ⟨x, List.mem_cons_of_mem _ f1, f2⟩)
          refine ⟨ora g (c.args.toList.map (aev τ) ++ cs) Hh v Ho call, τ', H', L', rs', ora_sound k1 (c1.bump _) (by show Hh.next ≤ H1.next + 1; omega) bd, ora_chg k2 fun _ => c2.chg _ (by rw [hhl]; simp) (fun b hb => hb) _ (Nat.le_succ _), ?_, frn.trans k4 (Nat.le_refl _), k5⟩
          have ha : aop P F o.op (aev τ) (base + k) H = some (.call g (c.args.toList.map (aev τ) ++ cs)) := by rw [e1]; simp [aop, e2, e3]
          have hbm : before.getD k 0 = mask := hmask
          have hs1 : drawStep P F (ora g (c.args.toList.map (aev τ) ++ cs) Hh v Ho call) ops base k mask τ H = some (putA τ o.dst v, Hn, some r) := by
            unfold drawStep
            simp only [ho, hw, ha, hHh, ora_hit]
            rw [show (hideA base mask k H) = { Hh with log := H.log } from by rw [← hHh]; exact (congrArg (fun l => ({ hideA base mask k H with log := l } : Heap)) (hide_next base mask k H).2)]
            rfl
          unfold drawA
          rw [hbm, hs1]
          simp only []
          rw [if_pos]
          · refine drawA_agree (n := Hh.next) (fun f args K hK => ?_) k1 _ _ _ _ _ (by rw [hnn]; omega) k3
            exact (ora_later hK).symm
          · rw [List.all_eq_true]
            intro q hq
            cases hmq : mask.testBit q.op with
            | true => rfl
            | false =>
              rw [free_meets (wy := ⟨k, [], Kp.names, [], true, []⟩) (hrel q hq) hma hmq hfree (by simp [r]) (fun c hc => (List.mem_filter.1 hc).1) rfl (fun he => by show List.filter _ Kp.names = []; rw [show Kp.names = [] from he]; rfl) (by simp) (fun c hc => (hn c).2 (.inl hc))]
              rfl
        · -- memory
          rcases op_goes (b := base + k) hb hs h0.1 h0.2 hop with ⟨v, H1, L1, g1, g2, g3, g4⟩ | ⟨g, args, g1, g2⟩
          · have hp : W.push k o.op ⟨readsA o.op (aev τ), writesA o.op (aev τ), if W0.makes o.op then blocksOf v else [], []⟩ ws = (⟨k, readsA o.op (aev τ), writesA o.op (aev τ), if W0.makes o.op then blocksOf v else [], false, []⟩ : W.WR) :: ws := by simp [W.push, hm, hcv]
            refine val v H1 L1 _ g1 g2 (g4.h _ rfl) (fun r hr hun => ?_) (by rw [hp]; exact ⟨Nat.lt_succ_self _, .inr ⟨_, List.mem_cons_self, rfl, rfl, fun c h => h, rfl, fun h => (by cases h), fun _ => rfl⟩⟩) (fun x hx => by rw [hp]; exact List.mem_cons_of_mem _ hx) (fun hm => by rw [hp]; exact ⟨_, List.mem_cons_self, rfl, by show _ ∈ (if W0.makes o.op = true then blocksOf v else []); rw [if_pos (g3 hm).1]; exact (g3 hm).2⟩)
            exact free_meets (wy := ⟨k, readsA o.op (aev τ), writesA o.op (aev τ), [], false, []⟩) (hrel r hr) hma hun hfree (fun c h => h) (fun c h => h) rfl (fun h => h) (op_reads hop) (fun c hc => op_reads hop c (writes_reads hc))
          · obtain ⟨c, f, e1, e2⟩ := call_inv g1
            rw [e1] at hm
            simp [W.isMem, e2] at hm
        · -- no memory
          have hop' := op_calm (K2 := fun v L' => Kc v L' ⟨[], [], [], []⟩ ∧ L' = L) (fun v h => ⟨h, rfl⟩) hm hv hop
          rcases op_goes (b := base + k) hb hs h0.1 h0.2 hop' with ⟨v, H1, L1, g1, g2, g3, g4, g5⟩ | ⟨g, args, g1, g2⟩
          · obtain ⟨n1, n2⟩ := nonmem_reads (ρ := aev τ) hm
            subst g5
            have hp : W.push k o.op ⟨[], [], [], []⟩ ws = ws := by simp [W.push, hm, hcv]
            refine val v H1 _ ⟨[], [], [], []⟩ g1 g2 g4 (fun r hr hun => ?_) ⟨Nat.lt_succ_self _, .inl ⟨rfl, n1, n2, rfl⟩⟩ (fun x hx => by rw [hp]; exact hx) (fun h => absurd h (hs.not_mem h0.2))
            rw [n1, n2]
            refine meets_free' (by simp) (by simp) (by simp) (by simp) (by simp)
          · obtain ⟨c, f, e1, e2⟩ := call_inv g1
            exact absurd e2 (hv c f e1)
      split at h
      · rename_i hg
        exact go _ (wanted_none hg) h fun v L1 r h => h
      · rename_i j want hg
        split at h
        · rename_i d hd
          rcases h.h with ⟨h1, h2⟩ | ⟨h1, h2⟩
          · exact go _ (wanted_yes hg hd h1) h2 fun v L1 r h => h
          · have hps : ∀ x ∈ ws, x ∈ W.push k o.op ⟨[], [], [], L.names⟩ ws := fun x hx => by
              unfold W.push
              split
              · exact List.mem_cons_of_mem _ hx
              · exact hx
            obtain ⟨call, τ', H', L', rs', k1, k2, k3, k4, k5⟩ := dr_sound m (k + 1) (putA τ o.dst undefA) L _ K h2 H rs hb hs (fun j h1 h2 => hfr j (by omega) (by omega)) (by omega) (fun r hr => (hrel r hr).more (Nat.le_succ _) hps) (fun j hj hm => by
              have hne : j ≠ k := fun e => by subst e; exact hs.not_mem h0.2 hm
              obtain ⟨x, e1, e2⟩ := hma j (by omega) hm
              exact ⟨x, hps x e1, e2⟩)
            refine ⟨call, τ', H', L', rs', k1, k2, ?_, k4, k5⟩
            unfold drawA drawStep
            simp only [ho, wanted_no hg hd h1]
            exact k3
        · exact h.elim
/-- a region whose order is drawn -/
theorem ARun.draw {id : Nat} {τ : List AV} {L : SH} {Q : Ex → List AV → SH → Prop} (fit : Fit P F) (hst : StatOk ops) (hed : EdgesOk ops) (h : W.dr P F ops (masks ops.toList []) (List.range' 0 ops.size) τ L [] fun τ' L' => Q .normal τ' L') : ARun P (.region id ops true) τ L Q := fun H hb hs => by
  obtain ⟨call, τ', H', L', rs', k1, k2, k3, k4, k5⟩ := dr_sound (base := H.next) ops.size 0 τ L [] _ h { H with next := H.next + ops.size } [] (hb.bump _ _ (Nat.le_add_right _ _)) (hs.congr fun _ => rfl)
    (fun i _ hi => ⟨by show H.next + i < H.next + ops.size; omega, hb _ (Nat.le_add_right _ _)⟩) (by show H.next + 0 ≤ H.next + ops.size; omega) (by simp) (fun j hj => by omega)
  have hr : regionA P F call ops true τ H = some (τ', { H' with log := rs'.flatMap (·.writes) ++ H'.log }) := by
    simp only [regionA, if_true]
    rw [List.range_eq_range', k3]
  obtain ⟨n1, n2⟩ := draw_sound fit k1 k2 hst hed hr
  exact ⟨.normal, τ', _, L', ⟨n1, fun w σ a hW hτ Q hQ => n2 id w σ a hW hτ Q hQ⟩, ⟨Nat.le_trans (Nat.le_add_right _ _) k4.next, k4.bd, k4.sub.congr fun _ => rfl, k4.keep, k4.dom, k4.fresh⟩, k5⟩
end
end Go.Proofs.Ytadjimfkfmojkaa.Am

end
section
namespace Go.Proofs.Ytadjimfkfmojkaa.Am
open Go.RowKit
set_option linter.unusedVariables false
/-- a value as it reads; the blocks K are never written again -/
inductive Fz (K : SH) : AV → AV → Prop where
  | refl (v : AV) : Fz K v v
  | nils : Fz K .nils (.lst [])
  | nile : Fz K .nils .emp
  | emp : Fz K .emp (.lst [])
  | sl0 (b i : Nat) : Fz K (.sl b i 0) (.lst [])
  | sl (b i n : Nat) (x : Blk) (rows : List (List AV)) (hm : (b, x) ∈ K) (hs : 0 < x.size) (hn : 0 < n) (hl : rows.length = n) (hle : i + n ≤ x.rows.length)
      (hr : ∀ (j : Nat) (r r2 : List AV), x.rows[i + j]? = some r → rows[j]? = some r2 → r.length = r2.length)
      (hc : ∀ (j : Nat) (r r2 : List AV) (q : Nat) (a a2 : AV), x.rows[i + j]? = some r → rows[j]? = some r2 → r[q]? = some a → r2[q]? = some a2 → Fz K a a2) : Fz K (.sl b i n) (.lst rows)
  | ptr (b i off : Nat) (x : Blk) (rows : List (List AV)) (hm : (b, x) ∈ K) (hs : 0 < x.size) (hl : rows.length = x.rows.length) (hn : 0 < rows.length)
      (hr : ∀ (j : Nat) (r r2 : List AV), x.rows[j]? = some r → rows[j]? = some r2 → r.length = r2.length)
      (hc : ∀ (j : Nat) (r r2 : List AV) (q : Nat) (a a2 : AV), x.rows[j]? = some r → rows[j]? = some r2 → r[q]? = some a → r2[q]? = some a2 → Fz K a a2) : Fz K (.ptr b i off) (.pptr rows i off)
  | agg (cs cs2 : List AV) (hl : cs.length = cs2.length) (h : ∀ (i : Nat) (a a2 : AV), cs[i]? = some a → cs2[i]? = some a2 → Fz K a a2) : Fz K (.agg cs) (.agg cs2)
  | tup (cs cs2 : List AV) (hl : cs.length = cs2.length) (h : ∀ (i : Nat) (a a2 : AV), cs[i]? = some a → cs2[i]? = some a2 → Fz K a a2) : Fz K (.tup cs) (.tup cs2)
section
variable {P : Program} {F : TypeId → Option (List TypeId)} {w : World} {σ : Sig} {H H2 : Heap} {K : SH}
theorem fz_rep (hW : WRel w σ H) (hK : Sub K H) (hown : ∀ c, Own σ H2 c → Own σ H c) (hout : ∀ b ∈ K.names, ∀ pl, σ b = some pl → ¬ Own σ H2 pl.block) {a a2 : AV} (hz : Fz K a a2) : ∀ {v : Value}, Rep w σ (Own σ H) a v → Rep w σ (Own σ H2) a2 v := by
  induction hz with
  | refl v => intro u h; exact h.shrink hown
  | nils => intro u h; cases h; exact .lst0 _ _ (by unfold maxLen; omega)
  | nile => intro u h; cases h; exact .emp _
  | emp => intro u h; cases h; exact .lst0 _ _ (by unfold maxLen; omega)
  | sl0 b i =>
    intro u h
    obtain ⟨pl, ad, cap, rfl, hs, hn, hm, ha⟩ := h.sl_inv
    exact .lst0 _ _ hm
  | sl b i n x rows hm hs hn hl hle hr hc ih =>
    intro u h
    obtain ⟨pl, ad, cap, rfl, hsg, hn', hmx, ha⟩ := h.sl_inv
    obtain ⟨rfl, cs, ty, hcs, hroom⟩ := ha (by omega)
    obtain ⟨pl', cs', e', g1, g2⟩ := hW.live b x (hK.get _ hm)
    rw [hsg] at g1
    cases g1
    have row : ∀ (j : Nat) (r2 : List AV), rows[j]? = some r2 → ∃ r, x.rows[i + j]? = some r ∧ r.length = r2.length := fun j r2 h2 => by
      have hj := lt_of_some h2
      have : i + j < x.rows.length := by omega
      exact ⟨_, List.getElem?_eq_getElem this, hr j _ r2 (List.getElem?_eq_getElem this) h2⟩
    have := Rep.lst (w := w) (σ := σ) (T := Own σ H2) rows pl.block (pl.base + i * pl.size) pl.size cap
      ⟨hout b (List.mem_map_of_mem hm) pl hsg, fun q r2 h2 => by
        obtain ⟨r, k1, k2⟩ := row q r2 h2
        rw [← k2, g2.even _ r k1, g2.size], fun q j hq hj => by
        obtain ⟨r, k1, k2⟩ := row q rows[q] (List.getElem?_eq_getElem hq)
        have hj' : j < r.length := by rw [g2.even _ r k1, ← g2.size]; exact hj
        obtain ⟨u, hu, _⟩ := g2.row k1 j _ (List.getElem?_eq_getElem hj')
        rw [Nat.add_mul, ← Nat.add_assoc] at hu
        exact ⟨u, hu⟩, by rw [g2.size]; exact hs, by omega⟩ (by omega) hmx
      (fun q r2 j y u h2 hy hu => by
        obtain ⟨r, k1, k2⟩ := row q r2 h2
        have hj' : j < r.length := by rw [k2]; exact lt_of_some hy
        obtain ⟨u', hu', hz⟩ := g2.row k1 j _ (List.getElem?_eq_getElem hj')
        rw [Nat.add_mul, ← Nat.add_assoc] at hu'
        rw [hu] at hu'
        cases hu'
        exact ih q r r2 j _ y k1 h2 (List.getElem?_eq_getElem hj') hy hz)
    rw [hl] at this
    exact this
  | ptr b i off x rows hm hs hl hn hr hc ih =>
    intro u h
    cases h with
    | ptr _ _ _ pl hsg =>
    obtain ⟨pl', cs', e', g1, g2⟩ := hW.live b x (hK.get _ hm)
    rw [hsg] at g1
    cases g1
    have row : ∀ (j : Nat) (r2 : List AV), rows[j]? = some r2 → ∃ r, x.rows[j]? = some r ∧ r.length = r2.length := fun j r2 h2 => by
      have hj := lt_of_some h2
      have : j < x.rows.length := by omega
      exact ⟨_, List.getElem?_eq_getElem this, hr j _ r2 (List.getElem?_eq_getElem this) h2⟩
    exact Rep.pptr (w := w) (σ := σ) (T := Own σ H2) rows i off pl.block pl.base pl.size
      ⟨hout b (List.mem_map_of_mem hm) pl hsg, fun q r2 h2 => by
        obtain ⟨r, k1, k2⟩ := row q r2 h2
        rw [← k2, g2.even _ r k1, g2.size], fun q j hq hj => by
        obtain ⟨r, k1, k2⟩ := row q rows[q] (List.getElem?_eq_getElem hq)
        have hj' : j < r.length := by rw [g2.even _ r k1, ← g2.size]; exact hj
        obtain ⟨u, hu, _⟩ := g2.row k1 j _ (List.getElem?_eq_getElem hj')
        exact ⟨u, hu⟩, by rw [g2.size]; exact hs, by omega⟩
      (fun q r2 j y u h2 hy hu => by
        obtain ⟨r, k1, k2⟩ := row q r2 h2
        have hj' : j < r.length := by rw [k2]; exact lt_of_some hy
        obtain ⟨u', hu', hz⟩ := g2.row k1 j _ (List.getElem?_eq_getElem hj')
        rw [hu] at hu'
        cases hu'
        exact ih q r r2 j _ y k1 h2 (List.getElem?_eq_getElem hj') hy hz)
  | agg cs cs2 hl h ih =>
    intro u hu
    cases hu with
    | agg _ vs hlv hc =>
      refine .agg cs2 vs (by omega) fun q y z hy hz => ?_
      have hq : q < cs.length := by rw [hl]; exact lt_of_some hy
      exact ih q _ y (List.getElem?_eq_getElem hq) hy (hc q _ z (List.getElem?_eq_getElem hq) hz)
  | tup cs cs2 hl h ih =>
    intro u hu
    cases hu with
    | tup _ vs hlv hc =>
      refine .tup cs2 vs (by omega) fun q y z hy hz => ?_
      have hq : q < cs.length := by rw [hl]; exact lt_of_some hy
      exact ih q _ y (List.getElem?_eq_getElem hq) hy (hc q _ z (List.getElem?_eq_getElem hq) hz)
/-- values and blocks as they read; what was K is never written again -/
structure FzS (vs : List AV) (L : SH) (vs2 : List AV) (L2 : SH) : Prop where
  ex : ∃ K R : SH, L.Perm (K ++ R) ∧ (vs.length = vs2.length ∧ ∀ (i : Nat) (a a2 : AV), vs[i]? = some a → vs2[i]? = some a2 → Fz K a a2) ∧ R.length = L2.length ∧
    ∀ (i : Nat) (p q : Nat × Blk), R[i]? = some p → L2[i]? = some q → p.1 = q.1 ∧ p.2.size = q.2.size ∧ p.2.rows.length = q.2.rows.length ∧
      ∀ (j : Nat) (r r2 : List AV), p.2.rows[j]? = some r → q.2.rows[j]? = some r2 → r.length = r2.length ∧ ∀ (k : Nat) (a a2 : AV), r[k]? = some a → r2[k]? = some a2 → Fz K a a2
theorem FzS.refl (vs : List AV) (L : SH) : FzS vs L vs L := ⟨[], L, .refl _, ⟨rfl, fun i a a2 h1 h2 => by rw [h1] at h2; cases h2; exact .refl _⟩, rfl, fun i p q h1 h2 => by
  rw [h1] at h2; cases h2
  exact ⟨rfl, rfl, rfl, fun j r r2 h3 h4 => by rw [h3] at h4; cases h4; exact ⟨rfl, fun k a a2 h5 h6 => by rw [h5] at h6; cases h6; exact .refl _⟩⟩⟩
/-- the blocks K are dropped -/
theorem FzS.drop {vs vs2 : List AV} {L K R : SH} (hL : L.Perm (K ++ R)) (hl : vs.length = vs2.length) (h : ∀ (i : Nat) (a a2 : AV), vs[i]? = some a → vs2[i]? = some a2 → Fz K a a2) : FzS vs L vs2 R := ⟨K, R, hL, ⟨hl, h⟩, rfl, fun i p q h1 h2 => by
  rw [h1] at h2; cases h2
  exact ⟨rfl, rfl, rfl, fun j r r2 h3 h4 => by rw [h3] at h4; cases h4; exact ⟨rfl, fun k a a2 h5 h6 => by rw [h5] at h6; cases h6; exact .refl _⟩⟩⟩
/-- a heap with other blocks -/
def Heap.repl (H : Heap) (K : List Nat) (L2 : SH) : Heap := L2.foldl (fun H p => { H with tr := H.tr.set p.1 (some p.2) }) (K.foldl (fun H b => { H with tr := H.tr.set b none }) H)
theorem foldl_none (K : List Nat) : ∀ (H : Heap) (c : Nat), (K.foldl (fun H b => ({ H with tr := H.tr.set b none } : Heap)) H).get c = (if c ∈ K then none else H.get c) ∧ (K.foldl (fun H b => ({ H with tr := H.tr.set b none } : Heap)) H).next = H.next := by
  induction K with
  | nil => intro H c; simp
  | cons b K ih =>
    intro H c
    simp only [List.foldl_cons]
    obtain ⟨h1, h2⟩ := ih { H with tr := H.tr.set b none } c
    refine ⟨?_, h2⟩
    rw [h1]
    by_cases hc : c ∈ K
    · simp [hc]
    · have : ({ H with tr := H.tr.set b none } : Heap).get c = if b = c then none else H.get c := Tr.get_set _ _ _ _
      rw [if_neg hc, this]
      by_cases hb : b = c
      · subst hb; simp
      · rw [if_neg hb, if_neg]
        simp only [List.mem_cons, not_or]
        exact ⟨fun e => hb e.symm, hc⟩
theorem foldl_some : ∀ (L2 : SH), L2.names.Nodup → ∀ (H : Heap) (c : Nat), ((∀ x, (c, x) ∈ L2 → (L2.foldl (fun H p => ({ H with tr := H.tr.set p.1 (some p.2) } : Heap)) H).get c = some x) ∧ (c ∉ L2.names → (L2.foldl (fun H p => ({ H with tr := H.tr.set p.1 (some p.2) } : Heap)) H).get c = H.get c)) ∧ (L2.foldl (fun H p => ({ H with tr := H.tr.set p.1 (some p.2) } : Heap)) H).next = H.next := by
  intro L2
  induction L2 with
  | nil => intro _ H c; simp
  | cons p L ih =>
    intro hn H c
    simp only [List.map_cons, List.nodup_cons] at hn
    obtain ⟨⟨h1, h2⟩, h3⟩ := ih hn.2 { H with tr := H.tr.set p.1 (some p.2) } c
    have hg : ({ H with tr := H.tr.set p.1 (some p.2) } : Heap).get c = if p.1 = c then some p.2 else H.get c := Tr.get_set _ _ _ _
    refine ⟨⟨fun x hx => ?_, fun hc => ?_⟩, h3⟩
    · simp only [List.foldl_cons]
      rcases List.mem_cons.1 hx with hx | hx
      · subst hx
        rw [h2 hn.1, hg, if_pos rfl]
      · exact h1 x hx
    · simp only [List.foldl_cons]
      simp only [List.map_cons, List.mem_cons, not_or] at hc
      rw [h2 hc.2, hg, if_neg (fun e => hc.1 e.symm)]
theorem fzs_sound {vs vs2 : List AV} {L L2 : SH} (h : FzS vs L vs2 L2) (hs : Sub L H) (hb : Bd H) : ∃ H2 : Heap, Fr H.next L H L2 H2 ∧ H2.next = H.next ∧
    (∀ (w : World) (σ : Sig), WRel w σ H → WRel w σ H2 ∧ (∀ c, Own σ H2 c → Own σ H c) ∧ ∀ (us : List Value), Reps w σ (Own σ H) vs us → Reps w σ (Own σ H2) vs2 us) ∧ ∀ b, b ∉ L.names → H2.get b = H.get b := by
  obtain ⟨K, R, hL, ⟨hl, hv⟩, hlen, hR⟩ := h.ex
  have hs' := hs.perm hL
  have hn : ∀ b, b ∈ L.names ↔ b ∈ K.names ∨ b ∈ R.names := fun b => by rw [(hL.map Prod.fst).mem_iff, List.map_append, List.mem_append]
  have hnames : L2.names = R.names := by
    apply List.ext_getElem?
    intro i
    unfold SH.names
    rw [List.getElem?_map, List.getElem?_map]
    rcases Nat.lt_or_ge i R.length with hi | hi
    · have hi2 : i < L2.length := by omega
      rw [List.getElem?_eq_getElem hi, List.getElem?_eq_getElem hi2]
      simp only [Option.map_some, Option.some.injEq]
      exact (hR i _ _ (List.getElem?_eq_getElem hi) (List.getElem?_eq_getElem hi2)).1.symm
    · rw [List.getElem?_eq_none hi, List.getElem?_eq_none (by omega)]
  have hnd2 : L2.names.Nodup := by rw [hnames]; exact hs'.right.nd
  let H2 := H.repl K.names L2
  have hget : ∀ c, (∀ x, (c, x) ∈ L2 → H2.get c = some x) ∧ (c ∉ L2.names → H2.get c = if c ∈ K.names then none else H.get c) := fun c => by
    obtain ⟨⟨h1, h2⟩, _⟩ := foldl_some L2 hnd2 (K.names.foldl (fun H b => { H with tr := H.tr.set b none }) H) c
    exact ⟨h1, fun hc => (h2 hc).trans (foldl_none K.names H c).1⟩
  have hnext : H2.next = H.next := (foldl_some L2 hnd2 _ 0).2.trans (foldl_none K.names H 0).2
  -- every block of H2 is one of H
  have hold : ∀ b y, H2.get b = some y → ∃ x, H.get b = some x ∧ b ∉ K.names ∧ x.size = y.size ∧ x.rows.length = y.rows.length ∧ ∀ (j : Nat) (r r2 : List AV), x.rows[j]? = some r → y.rows[j]? = some r2 → r.length = r2.length ∧ ∀ (k : Nat) (a a2 : AV), r[k]? = some a → r2[k]? = some a2 → Fz K a a2 := fun b y hy => by
    by_cases hb2 : b ∈ L2.names
    · obtain ⟨q, hq, rfl⟩ := List.mem_map.1 hb2
      have hqy : H2.get q.1 = some q.2 := (hget q.1).1 q.2 hq
      rw [hy] at hqy
      cases hqy
      obtain ⟨i, hi, hqi⟩ := List.getElem_of_mem hq
      have hi' : i < R.length := by omega
      obtain ⟨e1, e2, e3, e4⟩ := hR i R[i] q (List.getElem?_eq_getElem hi') (by rw [List.getElem?_eq_getElem hi, hqi])
      refine ⟨R[i].2, ?_, fun hk => hs'.disj hk (hnames ▸ hb2), e2, e3, e4⟩
      rw [← e1]
      exact hs'.right.get _ (List.getElem_mem hi')
    · rw [(hget b).2 hb2] at hy
      split at hy
      · cases hy
      · rename_i hk
        exact ⟨y, hy, hk, rfl, rfl, fun j r r2 h1 h2 => by rw [h1] at h2; cases h2; exact ⟨rfl, fun k a a2 h3 h4 => by rw [h3] at h4; cases h4; exact .refl _⟩⟩
  have hout : ∀ b, b ∉ L.names → H2.get b = H.get b := fun b hbn => by
    rw [hn, not_or] at hbn
    rw [(hget b).2 (by rw [hnames]; exact hbn.2), if_neg hbn.1]
  refine ⟨H2, ⟨by rw [hnext]; exact Nat.le_refl _, fun b hb' => ?_, ⟨hnd2, fun p hp => (hget p.1).1 p.2 hp⟩, fun b x h1 h2 => ⟨by rw [hout b h2]; exact h1, fun h3 => h2 ((hn b).2 (.inr (hnames ▸ h3)))⟩, fun b _ h1 => ?_, fun b h1 _ => (hn b).2 (.inr (hnames ▸ h1))⟩, hnext, fun w σ hW => ?_, hout⟩
  · rw [hnext] at hb'
    cases hg : H2.get b with
    | none => rfl
    | some y => obtain ⟨x, hx, _⟩ := hold b y hg; rw [hb b hb'] at hx; cases hx
  · cases hg : H2.get b with
    | none => rfl
    | some y => obtain ⟨x, hx, _⟩ := hold b y hg; rw [h1] at hx; cases hx
  · have hown : ∀ c, Own σ H2 c → Own σ H c := fun c hc => by
      rcases hc with hc | ⟨b, y, pl, h1, h2, h3⟩
      · exact .inl hc
      · obtain ⟨x, hx, _⟩ := hold b y h1
        exact .inr ⟨b, x, pl, hx, h2, h3⟩
    have hnot : ∀ b ∈ K.names, ∀ pl, σ b = some pl → ¬ Own σ H2 pl.block := fun b hbK pl hpl ho => by
      obtain ⟨x, _, hx⟩ := hs'.left.mem hbK
      rcases ho with ho | ⟨b', y, pl', h1, h2, h3⟩
      · exact (hW.apart _ ho).2 ⟨b, x, pl, hx, hpl, rfl⟩
      · obtain ⟨x', hx', hk', _⟩ := hold b' y h1
        have := hW.inj b' b x' x pl' pl hx' hx h2 hpl h3
        subst this
        exact hk' hbK
    refine ⟨⟨fun b pl hb => by rw [hnext]; exact hW.named b pl hb, hW.lt, fun b y hy => ?_, fun c hc => ⟨(hW.apart c hc).1, fun ⟨b, y, pl, h1, h2, h3⟩ => ?_⟩, fun b b' y y' pl pl' h1 h2 h3 h4 h5 => ?_⟩, hown, fun us hus => ⟨by rw [← hl]; exact hus.1, fun i a2 u h1 h2 => ?_⟩⟩
    · obtain ⟨x, hx, hk, e1, e2, e3⟩ := hold b y hy
      obtain ⟨pl, cs, e, g1, g2⟩ := hW.live b x hx
      have row : ∀ (j : Nat) (r2 : List AV), y.rows[j]? = some r2 → ∃ r, x.rows[j]? = some r := fun j r2 h2 => ⟨_, List.getElem?_eq_getElem (by rw [e2]; exact lt_of_some h2)⟩
      refine ⟨pl, cs, e, g1, ⟨g2.size.trans e1, g2.block, fun i r2 h2 => ?_, by rw [← e2, ← e1]; exact g2.room, fun i r2 j a2 u h2 h3 h4 => ?_⟩⟩
      · obtain ⟨r, h1⟩ := row i r2 h2
        rw [← (e3 i r r2 h1 h2).1, g2.even i r h1, e1]
      · obtain ⟨r, h1⟩ := row i r2 h2
        obtain ⟨e4, e5⟩ := e3 i r r2 h1 h2
        have hj : j < r.length := by rw [e4]; exact lt_of_some h3
        exact fz_rep hW hs'.left hown hnot (e5 j _ a2 (List.getElem?_eq_getElem hj) h3) (g2.rep i r j _ u h1 (List.getElem?_eq_getElem hj) (by rw [e1]; exact h4))
    · obtain ⟨x, hx, _⟩ := hold b y h1
      exact (hW.apart c hc).2 ⟨b, x, pl, hx, h2, h3⟩
    · obtain ⟨x, hx, _⟩ := hold b y h1
      obtain ⟨x', hx', _⟩ := hold b' y' h2
      exact hW.inj b b' x x' pl pl' hx hx' h3 h4 h5
    · have hi : i < vs.length := by rw [hl]; exact lt_of_some h1
      exact fz_rep hW hs'.left hown hnot (hv i _ a2 (List.getElem?_eq_getElem hi) h1) (hus.2 i _ u (List.getElem?_eq_getElem hi) h2)
/-- in a piece of code -/
theorem ARun.fz {c : Code} {τ τ2 : List AV} {L L2 : SH} {Q : Ex → List AV → SH → Prop} (hz : FzS τ L τ2 L2) (h : ARun P c τ2 L2 Q) : ARun P c τ L Q := fun H hb hs => by
  obtain ⟨H2, f1, f2, f3, f4⟩ := fzs_sound hz hs hb
  obtain ⟨e, τ', H', L', h1, h2, h3⟩ := h H2 f1.bd f1.sub
  refine ⟨e, τ', H', L', ⟨by rw [← f2]; exact h1.1, fun w σ a hW hτ Q hQ => ?_⟩, f1.trans (h2.low (by rw [f2]; exact Nat.le_refl _)) (Nat.le_refl _), h3⟩
  obtain ⟨g1, g2, g3⟩ := f3 w σ hW
  refine h1.2 w σ a g1 ⟨g3 _ hτ.1, hτ.2⟩ Q fun a' w' ⟨σ', t, r, e1, m⟩ => hQ a' w' ⟨σ', t, r, ?_, fun c pl hc => by rw [← f2]; exact m c pl hc⟩
  exact ⟨e1.os, e1.tape, e1.output, e1.size, fun c hc hT => e1.keep c hc (fun h => hT (g2 c h)), e1.shape, e1.sig, e1.eqfr, e1.frame, fun c hc => (e1.own c hc).imp (g2 c) id⟩
/-- behind a call -/
theorem CallA.fz {f : FuncId} {args : List AV} {L0 : SH} {Q : AV → SH → Prop} (h : CallA P f args L0 fun v L => ∃ v2 L2, FzS [v] L [v2] L2 ∧ Q v2 L2) : CallA P f args L0 Q := ⟨h.1, fun H hb hs => by
  obtain ⟨v, H', L', h1, h2, v2, L2, hz, h3⟩ := h.2 H hb hs
  obtain ⟨H2, f1, f2, f3, f4⟩ := fzs_sound hz h2.sub h2.bd
  refine ⟨v2, H2, L2, fun w σ vs hW hvs => (h1 w σ vs hW hvs).mono ?_, h2.trans (f1.low h2.next) (Nat.le_refl _), h3⟩
  rintro e w' ⟨v', σ', rfl, k1, k2, k3, k4⟩
  obtain ⟨g1, g2, g3⟩ := f3 w' σ' k2
  have := g3 [v'] ⟨rfl, fun i a u h1 h2 => by
    match i with
    | 0 => cases h1; cases h2; exact k1
    | i + 1 => cases h1⟩
  exact ⟨v', σ', rfl, this.2 0 v2 v' rfl rfl, g1, ⟨k3.os, k3.tape, k3.output, k3.size, k3.keep, k3.shape, k3.sig, k3.eqfr, k3.frame, fun c hc => k3.own c (g2 c hc)⟩, k4⟩⟩
end
end Go.Proofs.Ytadjimfkfmojkaa.Am

end
section
namespace Go.Proofs.Ytadjimfkfmojkaa.Am
open Go.RowKit
set_option linter.unusedVariables false
/-- where slots are forgotten or read as memory that nobody writes -/
structure Hints where
  /-- behind the code whose last region is this one: the slots that are needed later -/
  join : Nat → Option (List Nat)
  /-- in a loop whose first region is this one: the slots that are needed -/
  loop : Nat → List Nat
  /-- behind a region: the slots that are frozen -/
  frz : Nat → List Nat
  /-- of a drawn region: what its edges put ahead of each operation -/
  mask : Nat → List Nat
def gather (live : List Nat) (τ : List AV) : List AV := live.map fun t => τ.getD t .junk
def slotOf (live : List Nat) (vs : List AV) (t : Nat) : AV := match live, vs with
  | [], _ => .junk
  | _, [] => .junk
  | d :: ds, v :: vs => if d = t then v else slotOf ds vs t
def spread (n : Nat) (live : List Nat) (vs : List AV) : List AV := (List.range n).map (slotOf live vs)
def firstReg : Code → Option Nat
  | .region id _ _ => some id
  | .seq a b => match firstReg a with
    | some i => some i
    | none => firstReg b
  | .cond _ a b => match firstReg a with
    | some i => some i
    | none => firstReg b
  | .block _ b => firstReg b
  | .loop b => firstReg b
  | _ => none
def lastReg : Code → Option Nat
  | .region id _ _ => some id
  | .seq a b => match lastReg b with
    | some i => some i
    | none => lastReg a
  | .cond _ a b => match lastReg b with
    | some i => some i
    | none => lastReg a
  | .block _ b => lastReg b
  | .loop b => lastReg b
  | _ => none
namespace W
abbrev Kn := List AV → SH → Prop
/-- the value of a slot, frozen -/
def frz0 (v : AV) (L : SH) (K : AV → SH → Prop) : Prop := match v with
  | .ptr b i off => ∃ x L', Del b x L L' ∧ 0 < x.size ∧ 0 < x.rows.length ∧ K (.pptr x.rows i off) L'
  | .sl b i n => ∃ x L', Del b x L L' ∧ 0 < x.size ∧ i + n ≤ x.rows.length ∧ K (.lst ((x.rows.drop i).take n)) L'
  | .nils => K (.lst []) L
  | .emp => K (.lst []) L
  | v => K v L
structure frz1 (v : AV) (L : SH) (K : AV → SH → Prop) : Prop where
  h : frz0 v L K
def frzs : List Nat → List AV → SH → Kn → Prop
  | [], τ, L, K => K τ L
  | d :: ds, τ, L, K => frz1 (τ.getD d .junk) L fun v L => frzs ds (τ.set d v) L K
structure cond (v : AV) (A B : Prop) : Prop where
  h : (v = .bool true ∧ A) ∨ (v = .bool false ∧ B)
/-- ways meet -/
structure join (J : Kn) (B : Kn → Prop) : Prop where
  h : B J
structure loop (B : List AV → SH → Kn → Prop) (vs : List AV) (L : SH) : Prop where
  h : ∃ I : Nat → Kn, (∃ n vs2 L2, FzS vs L vs2 L2 ∧ I n vs2 L2) ∧ ∀ n vs L, I n vs L → B vs L fun vs' L' => ∃ m vs2 L2, m < n ∧ FzS vs' L' vs2 L2 ∧ I m vs2 L2
section
variable (P : Program) (F : TypeId → Option (List TypeId)) (ht : Hints)
def code : Code → List AV → SH → Kn → (Nat → Kn) → Kn → Prop
  | .skip, τ, L, kn, _, _ => kn τ L
  | .label _, τ, L, kn, _, _ => kn τ L
  | .region id ops draw, τ, L, kn, _, _ => if draw then (statB ops && edgesB ops && (masks ops.toList [] == ht.mask id)) = true ∧ dr P F ops (ht.mask id) (List.range' 0 ops.size) τ L [] fun τ L => frzs (ht.frz id) τ L kn
      else sq P F ops (List.range ops.size) τ L fun τ L => frzs (ht.frz id) τ L kn
  | .seq a b, τ, L, kn, kx, kr => match (lastReg a).bind ht.join with
    | none => code a τ L (fun τ L => code b τ L kn kx kr) kx kr
    | some live => join (fun vs L => code b (spread τ.length live vs) L kn kx kr) fun j => code a τ L (fun τ L => j (gather live τ) L) kx kr
  | .cond x a b, τ, L, kn, kx, kr => cond (aev τ x) (code a τ L kn kx kr) (code b τ L kn kx kr)
  | .block id b, τ, L, kn, kx, kr => code b τ L kn (fun id' τ L => if id' = id then kn τ L else kx id' τ L) kr
  | .loop b, τ, L, kn, kx, kr => match firstReg b with
    | none => False
    | some r => loop (fun vs L next => code b (spread τ.length (ht.loop r) vs) L (fun τ L => next (gather (ht.loop r) τ) L) kx kr) (gather (ht.loop r) τ) L
  | .exit id, τ, L, _, kx, _ => kx id τ L
  | .ret, τ, L, _, _, kr => kr τ L
  | _, _, _, _, _, _ => False
def pack : List AV → AV
  | [v] => v
  | vs => .tup vs
/-- the results of a function -/
def res : List ResultVar → List AV → SH → List AV → (AV → SH → Prop) → Prop
  | [], _, L, vs, Q => Q (pack vs.reverse) L
  | .tmp t :: rs, τ, L, vs, Q => res rs τ L (τ.getD t undefA :: vs) Q
  | .cell a t :: rs, τ, L, vs, Q => match isAggA P t, sizeA P t with
    | some ag, some n => load ag n (τ.getD a undefA) L fun v => res rs τ L (v :: vs) Q
    | _, _ => False
def func (fn : Func) (c : Code) (args : List AV) (L : SH) (Q : AV → SH → Prop) : Prop :=
  code P F ht c (args ++ List.replicate (fn.ntmps - args.length) undefA) L (fun τ L => res P fn.results.toList τ L [] Q) (fun _ _ _ => False) (fun τ L => res P fn.results.toList τ L [] Q)
end
end W
section
variable {P : Program} {F : TypeId → Option (List TypeId)} {ht : Hints}
theorem slotOf_gather (τ : List AV) (t : Nat) : ∀ live : List Nat, slotOf live (gather live τ) t = .junk ∨ slotOf live (gather live τ) t = τ.getD t .junk
  | [] => .inl rfl
  | d :: ds => by
    simp only [gather, List.map_cons, slotOf]
    by_cases h : d = t
    · subst h; rw [if_pos rfl]; exact .inr rfl
    · rw [if_neg h]; exact slotOf_gather τ t ds
theorem spread_dim (live : List Nat) (τ : List AV) : Dim τ (spread τ.length live (gather live τ)) := by
  refine ⟨by simp [spread], fun i x hx => ?_⟩
  simp only [spread, List.getElem?_map] at hx
  rcases Nat.lt_or_ge i τ.length with hi | hi
  · rw [List.getElem?_range hi] at hx
    simp only [Option.map_some, Option.some.injEq] at hx
    subst hx
    rcases slotOf_gather τ i live with h | h
    · exact .inl h
    · right
      rw [h, List.getElem?_eq_getElem hi]
      simp [List.getD, hi]
  · rw [List.getElem?_eq_none (by simpa using hi)] at hx; cases hx
/-- what holds of chosen slots, holds of all -/
theorem spread_fz {n : Nat} {live : List Nat} {vs vs2 : List AV} {L L2 : SH} (h : FzS vs L vs2 L2) : FzS (spread n live vs) L (spread n live vs2) L2 := by
  obtain ⟨K, R, h1, ⟨h2, h3⟩, h4⟩ := h.ex
  refine ⟨K, R, h1, ⟨by simp [spread], fun i a a2 g1 g2 => ?_⟩, h4⟩
  simp only [spread, List.getElem?_map] at g1 g2
  cases hr : (List.range n)[i]? with
  | none => rw [hr] at g1; cases g1
  | some t =>
    rw [hr] at g1 g2
    simp only [Option.map_some, Option.some.injEq] at g1 g2
    subst g1; subst g2
    clear hr h1 h h4
    induction live generalizing vs vs2 with
    | nil => exact .refl _
    | cons d ds ih =>
      cases vs with
      | nil => cases vs2 with
        | nil => exact .refl _
        | cons y ys => simp at h2
      | cons x xs => cases vs2 with
        | nil => simp at h2
        | cons y ys =>
          simp only [slotOf]
          by_cases hd : d = t
          · rw [if_pos hd, if_pos hd]; exact h3 0 x y rfl rfl
          · rw [if_neg hd, if_neg hd]
            exact ih (by simpa using h2) fun i a a2 e1 e2 => h3 (i + 1) a a2 (by simpa using e1) (by simpa using e2)
theorem set_fz {τ : List AV} {d : Nat} {v : AV} {L K R : SH} (hL : L.Perm (K ++ R)) (hv : Fz K (τ.getD d .junk) v) : FzS τ L (τ.set d v) R := by
  refine .drop hL (by simp) fun i a a2 h1 h2 => ?_
  rw [List.getElem?_set] at h2
  by_cases hd : d = i
  · subst hd
    rw [if_pos rfl] at h2
    split at h2
    · cases h2
      rw [List.getD, h1] at hv
      exact hv
    · cases h2
  · rw [if_neg hd, h1] at h2
    cases h2
    exact .refl _
theorem Fz.rows {K : SH} {b i n : Nat} {x : Blk} (hm : (b, x) ∈ K) (hs : 0 < x.size) (hle : i + n ≤ x.rows.length) : Fz K (.sl b i n) (.lst ((x.rows.drop i).take n)) := by
  rcases Nat.eq_zero_or_pos n with rfl | hn
  · simp only [List.take_zero]; exact .sl0 b i
  · have get : ∀ (j : Nat) (r r2 : List AV), x.rows[i + j]? = some r → ((x.rows.drop i).take n)[j]? = some r2 → r = r2 := fun j r r2 h1 h2 => by
      rw [List.getElem?_take] at h2
      split at h2
      · rw [List.getElem?_drop, h1] at h2; cases h2; rfl
      · cases h2
    refine .sl b i n x _ hm hs hn (by simp; omega) hle (fun j r r2 h1 h2 => by rw [get j r r2 h1 h2]) fun j r r2 q a a2 h1 h2 h3 h4 => ?_
    have := get j r r2 h1 h2
    subst this
    rw [h3] at h4; cases h4
    exact .refl _
theorem Fz.box {K : SH} {b i off : Nat} {x : Blk} (hm : (b, x) ∈ K) (hs : 0 < x.size) (hn : 0 < x.rows.length) : Fz K (.ptr b i off) (.pptr x.rows i off) :=
  .ptr b i off x x.rows hm hs rfl hn (fun j r r2 h1 h2 => by rw [h1] at h2; cases h2; rfl) fun j r r2 q a a2 h1 h2 h3 h4 => by
    rw [h1] at h2; cases h2; rw [h3] at h4; cases h4; exact .refl _
/-- behind a piece of code, states are described anew -/
theorem ARun.post {c : Code} {τ : List AV} {L : SH} {Q Q2 : Ex → List AV → SH → Prop} (h : ARun P c τ L Q) (hq : ∀ e τ' L', Q e τ' L' → ∃ τ2 L2, FzS τ' L' τ2 L2 ∧ Q2 e τ2 L2) : ARun P c τ L Q2 := fun H hb hs => by
  obtain ⟨e, τ', H', L', h1, h2, h3⟩ := h H hb hs
  obtain ⟨τ2, L2, hz, h4⟩ := hq e τ' L' h3
  obtain ⟨H2, f1, f2, f3, f4⟩ := fzs_sound hz h2.sub h2.bd
  refine ⟨e, τ2, H2, L2, ⟨by rw [f2]; exact h1.1, fun w σ a hW hτ Q hQ => h1.2 w σ a hW hτ Q fun a' w' ⟨σ', t, r, e1, m⟩ => ?_⟩, h2.trans (f1.low h2.next) (Nat.le_refl _), h4⟩
  obtain ⟨g1, g2, g3⟩ := f3 w' σ' r
  exact hQ a' w' ⟨σ', ⟨g3 _ t.1, t.2⟩, g1, ⟨e1.os, e1.tape, e1.output, e1.size, e1.keep, e1.shape, e1.sig, e1.eqfr, e1.frame, fun c hc => e1.own c (g2 c hc)⟩, m⟩
theorem ARun.frzs {c : Code} {τ : List AV} {L : SH} {K : W.Kn} {n : Nat} : ∀ (ds : List Nat), ARun P c τ L (fun e τ' L' => e = .normal ∧ τ'.length = n ∧ W.frzs ds τ' L' K) → ARun P c τ L (fun e τ' L' => e = .normal ∧ τ'.length = n ∧ K τ' L')
  | [], h => h
  | d :: ds, h => by
    refine ARun.frzs ds (h.post ?_)
    rintro e τ' L' ⟨he, hn, hz⟩
    simp only [W.frzs] at hz
    have hz := hz.h
    simp only [W.frz0] at hz
    have set : ∀ (v : AV) (L2 : SH), FzS τ' L' (τ'.set d v) L2 → W.frzs ds (τ'.set d v) L2 K → ∃ τ2 L2, FzS τ' L' τ2 L2 ∧ e = .normal ∧ τ2.length = n ∧ W.frzs ds τ2 L2 K := fun v L2 h1 h2 => ⟨_, L2, h1, he, by simpa using hn, h2⟩
    split at hz
    · rename_i b i off hv
      obtain ⟨x, L2, h1, h2, h3, h4⟩ := hz
      refine set _ L2 (set_fz (K := [(b, x)]) h1.perm ?_) h4
      rw [hv]
      exact .box (by simp) h2 h3
    · rename_i b i k hv
      obtain ⟨x, L2, h1, h2, h3, h4⟩ := hz
      refine set _ L2 (set_fz (K := [(b, x)]) h1.perm ?_) h4
      rw [hv]
      exact .rows (by simp) h2 h3
    · rename_i hv
      refine set _ L' (set_fz (K := []) (.refl _) ?_) hz
      rw [hv]
      exact .nils
    · rename_i hv
      refine set _ L' (set_fz (K := []) (.refl _) ?_) hz
      rw [hv]
      exact .emp
    · refine set _ L' (set_fz (K := []) (.refl _) ?_) hz
      exact .refl _
theorem put_len (τ : List AV) (d : Option Tmp) (v : AV) : (putA τ d v).length = τ.length := by cases d <;> simp [putA]
theorem opsA_len {ops : Array Oper} {base : Nat} {call : FuncId → List AV → Heap → Option (AV × Heap)} : ∀ (l : List Nat) (τ : List AV) (H : Heap) (τ' : List AV) (H' : Heap), opsA P F call ops base l τ H = some (τ', H') → τ'.length = τ.length
  | [], τ, H, τ', H', h => by cases h; rfl
  | i :: l, τ, H, τ', H', h => by
    unfold opsA at h
    split at h
    · rename_i τ1 H1 hs
      rw [opsA_len l _ _ _ _ h]
      unfold stepA at hs
      repeat' (first | (cases hs; exact put_len _ _ _) | (cases hs; done) | split at hs)
    · cases h
theorem drawA_len {ops : Array Oper} {base : Nat} {before : List Nat} {call : FuncId → List AV → Heap → Option (AV × Heap)} : ∀ (l : List Nat) (τ : List AV) (H : Heap) (rs : List Rec) (τ' : List AV) (H' : Heap) (rs' : List Rec), drawA P F call ops base before l τ H rs = some (τ', H', rs') → τ'.length = τ.length
  | [], τ, H, rs, τ', H', rs', h => by cases h; rfl
  | i :: l, τ, H, rs, τ', H', rs', h => by
    have key : ∀ {mask : Nat} {τ1 : List AV} {H1 : Heap} {r : Option Rec}, drawStep P F call ops base i mask τ H = some (τ1, H1, r) → τ1.length = τ.length := fun {mask τ1 H1 r} hs => by
      unfold drawStep at hs
      repeat' (first | (cases hs; exact put_len _ _ _) | (cases hs; done) | split at hs)
    unfold drawA at h
    split at h
    · rename_i hs; rw [drawA_len l _ _ _ _ _ _ h, key hs]
    · rename_i hs
      split at h
      · rw [drawA_len l _ _ _ _ _ _ h, key hs]
      · cases h
    · cases h
theorem ARun.region' {ops : Array Oper} {id : Nat} {τ : List AV} {L : SH} {K : W.Kn} (fit : Fit P F) (h : W.sq P F ops (List.range ops.size) τ L K) : ARun P (.region id ops false) τ L fun e τ' L' => e = .normal ∧ τ'.length = τ.length ∧ K τ' L' := fun H hb hs => by
  obtain ⟨call, τ', H', L', k1, k2, k3, k4, k5⟩ := sq_sound (base := H.next) (List.range ops.size) τ L _ h List.nodup_range { H with next := H.next + ops.size } (hb.bump _ _ (Nat.le_add_right _ _)) (hs.congr fun _ => rfl)
    (fun i hi => ⟨Nat.add_lt_add_left (List.mem_range.1 hi) _, hb _ (Nat.le_add_right _ _)⟩) (Nat.le_add_right _ _)
  have hr : regionA P F call ops false τ H = some (τ', H') := by simp only [regionA, Bool.false_eq_true, if_false]; exact k3
  exact ⟨.normal, τ', H', L', region_sound fit k1 hr, ⟨Nat.le_trans (Nat.le_add_right _ _) k4.next, k4.bd, k4.sub, k4.keep, k4.dom, k4.fresh⟩, rfl, opsA_len _ _ _ _ _ k3, k5⟩
theorem ARun.draw' {ops : Array Oper} {id : Nat} {τ : List AV} {L : SH} {K : W.Kn} (fit : Fit P F) (hst : StatOk ops) (hed : EdgesOk ops) (h : W.dr P F ops (masks ops.toList []) (List.range' 0 ops.size) τ L [] K) : ARun P (.region id ops true) τ L fun e τ' L' => e = .normal ∧ τ'.length = τ.length ∧ K τ' L' := fun H hb hs => by
  obtain ⟨call, τ', H', L', rs', k1, k2, k3, k4, k5⟩ := dr_sound (base := H.next) ops.size 0 τ L [] _ h { H with next := H.next + ops.size } [] (hb.bump _ _ (Nat.le_add_right _ _)) (hs.congr fun _ => rfl)
    (fun i _ hi => ⟨by show H.next + i < H.next + ops.size; omega, hb _ (Nat.le_add_right _ _)⟩) (by show H.next + 0 ≤ H.next + ops.size; omega) (by simp) (fun j hj => by omega)
  have hr : regionA P F call ops true τ H = some (τ', { H' with log := rs'.flatMap (·.writes) ++ H'.log }) := by
    simp only [regionA, if_true]
    rw [List.range_eq_range', k3]
  obtain ⟨n1, n2⟩ := draw_sound fit k1 k2 hst hed hr
  exact ⟨.normal, τ', _, L', ⟨n1, fun w σ a hW hτ Q hQ => n2 id w σ a hW hτ Q hQ⟩, ⟨Nat.le_trans (Nat.le_add_right _ _) k4.next, k4.bd, k4.sub.congr fun _ => rfl, k4.keep, k4.dom, k4.fresh⟩, rfl, drawA_len _ _ _ _ _ _ _ k3, k5⟩
/-- the state at the end of code, by the way in which it ends -/
def Ends (n : Nat) (kn : W.Kn) (kx : Nat → W.Kn) (kr : W.Kn) (e : Ex) (τ : List AV) (L : SH) : Prop := τ.length = n ∧ match e with
  | .normal => kn τ L
  | .exit id => kx id τ L
  | .ret => kr τ L
theorem code_sound (fit : Fit P F) : ∀ (c : Code) (τ : List AV) (L : SH) (kn : W.Kn) (kx : Nat → W.Kn) (kr : W.Kn), W.code P F ht c τ L kn kx kr → ARun P c τ L (Ends τ.length kn kx kr)
  | .skip, τ, L, kn, kx, kr, h => .skip ⟨rfl, h⟩
  | .label l, τ, L, kn, kx, kr, h => .label ⟨rfl, h⟩
  | .exit id, τ, L, kn, kx, kr, h => .exit ⟨rfl, h⟩
  | .ret, τ, L, kn, kx, kr, h => .ret ⟨rfl, h⟩
  | .region id ops draw, τ, L, kn, kx, kr, h => by
    simp only [W.code] at h
    have fin : ARun P (.region id ops draw) τ L (fun e τ' L' => e = .normal ∧ τ'.length = τ.length ∧ kn τ' L') → ARun P (.region id ops draw) τ L (Ends τ.length kn kx kr) := fun h => h.mono fun e τ' L' ⟨h1, h2, h3⟩ => by subst h1; exact ⟨h2, h3⟩
    cases draw with
    | false => exact fin (.frzs _ (.region' fit h))
    | true =>
      simp only [if_true, Bool.and_eq_true] at h
      have hm := h.2
      rw [← eq_of_beq h.1.2] at hm
      exact fin (.frzs _ (.draw' fit (statB_ok h.1.1.1) (edgesB_ok h.1.1.2) hm))
  | .seq a b, τ, L, kn, kx, kr, h => by
    simp only [W.code] at h
    split at h
    · refine ARun.seq ((code_sound fit a τ L _ kx kr h).mono fun e τ' L' ⟨h1, h2⟩ => ?_)
      cases e with
      | normal => simp only; rw [← h1]; exact code_sound fit b τ' L' kn kx kr h2
      | exit id => exact ⟨h1, h2⟩
      | ret => exact ⟨h1, h2⟩
    · rename_i live _
      have hB := h.h
      refine ARun.seq ((code_sound fit a τ L _ kx kr hB).mono fun e τ' L' ⟨h1, h2⟩ => ?_)
      cases e with
      | normal =>
        have h5 := code_sound fit b _ L' kn kx kr h2
        have hlen : (spread τ.length live (gather live τ')).length = τ.length := by simp [spread]
        rw [hlen] at h5
        have hd := spread_dim live τ'
        rw [h1] at hd
        exact ARun.dim hd h5
      | exit id => exact ⟨h1, h2⟩
      | ret => exact ⟨h1, h2⟩
  | .cond x a b, τ, L, kn, kx, kr, h => by
    rcases h.h with ⟨h1, h2⟩ | ⟨h1, h2⟩
    · exact ARun.cond (t := true) h1 (code_sound fit a τ L kn kx kr h2)
    · exact ARun.cond (t := false) h1 (code_sound fit b τ L kn kx kr h2)
  | .block id b, τ, L, kn, kx, kr, h => by
    refine ARun.block ((code_sound fit b τ L _ _ kr h).mono fun e τ' L' ⟨h1, h2⟩ => ?_)
    cases e with
    | normal => exact ⟨h1, h2⟩
    | ret => exact ⟨h1, h2⟩
    | exit id' =>
      simp only [Ex.leave]
      simp only at h2
      by_cases hid : id' = id
      · rw [if_pos hid] at h2 ⊢; exact ⟨h1, h2⟩
      · rw [if_neg hid] at h2 ⊢; exact ⟨h1, h2⟩
  | .loop b, τ, L, kn, kx, kr, h => by
    simp only [W.code] at h
    split at h
    · exact h.elim
    · rename_i r _
      obtain ⟨I, ⟨n, vs0, L0, hz0, h0⟩, hB⟩ := h.h
      refine ARun.loop (fun m τ' L' => τ'.length = τ.length ∧ ∃ vs2 L2, FzS (gather (ht.loop r) τ') L' vs2 L2 ∧ I m vs2 L2) (fun m τ' L' ⟨h1, vs2, L2, hz, h2⟩ => ?_) n ⟨rfl, vs0, L0, hz0, h0⟩
      have h4 := code_sound fit b _ L2 _ kx kr (hB m vs2 L2 h2)
      have hlen : (spread τ.length (ht.loop r) vs2).length = τ.length := by simp [spread]
      rw [hlen] at h4
      have h5 := ARun.fz (spread_fz (n := τ.length) (live := ht.loop r) hz) h4
      have hd := spread_dim (ht.loop r) τ'
      rw [h1] at hd
      refine (ARun.dim hd h5).mono fun e τ1 L1 ⟨g1, g2⟩ => ?_
      cases e with
      | normal =>
        obtain ⟨m', vs3, L3, k1, k2, k3⟩ := g2
        exact ⟨m', k1, g1, vs3, L3, k2, k3⟩
      | exit id => exact ⟨g1, g2⟩
      | ret => exact ⟨g1, g2⟩
  | .rangeFunc .., _, _, _, _, _, h => h.elim
  | .scope _, _, _, _, _, _, h => h.elim
  | .goto _, _, _, _, _, _, h => h.elim
  | .refuse _, _, _, _, _, _, h => h.elim
theorem res_ok {τ : List AV} {L : SH} {H : Heap} {Q : AV → SH → Prop} (hs : Sub L H) : ∀ (rs : List ResultVar) (vs : List AV), W.res P rs τ L vs Q → ∃ us, allSome (rs.map (resultA P τ H)) = some us ∧ Q (W.pack (vs.reverse ++ us)) L
  | [], vs, h => ⟨[], rfl, by simpa [W.res] using h⟩
  | .tmp t :: rs, vs, h => by
    obtain ⟨us, h1, h2⟩ := res_ok hs rs _ h
    refine ⟨τ.getD t undefA :: us, ?_, by simpa using h2⟩
    simp only [List.map_cons, resultA, allSome, h1]
  | .cell a t :: rs, vs, h => by
    simp only [W.res] at h
    split at h
    · rename_i ag n hag hn
      obtain ⟨v, g1, g2⟩ := load_ok hs hag hn h.h
      obtain ⟨us, h1, h2⟩ := res_ok hs rs _ g2
      refine ⟨v :: us, ?_, by simpa using h2⟩
      simp only [List.map_cons, resultA, g1, allSome, h1]
    · exact h.elim
/-- a function, by what its body demands -/
theorem func_sound (fit : Fit P F) {f : FuncId} {fn : Func} {c : Code} {args : List AV} {L : SH} {Q : AV → SH → Prop} (hf : P.funcs[f]? = some fn) (hb : fn.body = some c) (h : W.func P F ht fn c args L Q) : CallA P f args L Q := by
  refine ⟨⟨fn, c, hf, hb⟩, fun H hB hs => ?_⟩
  obtain ⟨e, τ', H', L', k1, k2, k3, k4⟩ := code_sound fit c _ L _ _ _ h H hB hs
  have hres : (e = .normal ∨ e = .ret) ∧ W.res P fn.results.toList τ' L' [] Q := by
    cases e with
    | normal => exact ⟨.inl rfl, k4⟩
    | ret => exact ⟨.inr rfl, k4⟩
    | exit id => exact k4.elim
  obtain ⟨he, hr⟩ := hres
  obtain ⟨us, r1, r2⟩ := res_ok k2.sub _ _ hr
  have hv : resultsA P τ' H' fn.results.toList = some (W.pack us) := by
    unfold resultsA
    rw [r1]
    match us with
    | [] => rfl
    | [v] => rfl
    | v :: u :: l => rfl
  simp only [List.reverse_nil, List.nil_append] at r2
  refine ⟨_, H', L', fun w σ vs hW hvs => ?_, k2, r2⟩
  refine calls_of_wp hf hb (k1.2 w σ _ hW ⟨⟨by simp [hvs.1], fun i x u h1 h2 => ?_⟩, rfl⟩ _ fun a' w' haf => ?_)
  · simp only [Array.toList_append, Array.toList_replicate] at h2
    rcases Nat.lt_or_ge i args.length with hi | hi
    · rw [List.getElem?_append_left hi] at h1
      rw [List.getElem?_append_left (by rw [← hvs.1]; exact hi)] at h2
      exact hvs.2 i x u h1 h2
    · rw [List.getElem?_append_right hi, List.getElem?_replicate] at h1
      rw [List.getElem?_append_right (by rw [← hvs.1]; exact hi), List.getElem?_replicate] at h2
      split at h1
      · split at h2
        · cases h1; cases h2; exact undef_rep
        · cases h2
      · cases h1
  · obtain ⟨σ', t1, g1, e1, m1⟩ := haf
    obtain ⟨v', q1, q2⟩ := results_sound (P := P) g1 t1 hv
    have hpost : a'.defers = [] ∧ ∃ v, (results fn a'.tmps).run P w' = .ok v w' ∧ ∃ v' σ', Ending.returned v = .returned v' ∧ Rep w' σ' (Own σ' H') _ v' ∧ WRel w' σ' H' ∧ Ext w σ (Own σ H) w' σ' (Own σ' H') ∧ ∀ c pl, σ' c = some pl → σ c = some pl ∨ H.next ≤ c :=
      ⟨t1.2, v', q1, v', σ', rfl, q2, g1, e1, m1⟩
    rcases he with rfl | rfl
    · exact hpost
    · exact hpost
end
end Go.Proofs.Ytadjimfkfmojkaa.Am

end
section
namespace Go.Proofs.Ytadjimfkfmojkaa.Am
/-- the field types of a flat struct type -/
def flatOf (P : Program) (t : TypeId) : Option (List TypeId) := match P.underlying t with
  | some (.struct fs) => if (!P.stoodInHeld t && !P.eqGuardType P.depth t && fs.toList.zipIdx.all fun p => p.1.offset == p.2 && p.1.name != "_" && (match isAggA P p.1.type with | some false => true | _ => false)) = true then some (fs.toList.map (·.type)) else none
  | _ => none
theorem flatOf_ok {P : Program} {t : TypeId} {ts : List TypeId} (h : flatOf P t = some ts) : FlatT P t ts := by
  unfold flatOf at h
  split at h
  · rename_i fs hu
    split at h
    · rename_i hc
      cases h
      simp only [Bool.and_eq_true, Bool.not_eq_true', List.all_eq_true] at hc
      have hf : P.fieldsOf t = fs := by simp [Program.fieldsOf, hu]
      refine ⟨by rw [hf]; exact hu, hc.1.1, hc.1.2, by rw [hf], fun i f hi => ?_⟩
      rw [hf] at hi
      have := hc.2 (f, i) (by rw [List.mem_iff_getElem?]; exact ⟨i, by rw [List.getElem?_zipIdx, hi]; simp⟩)
      simp only [beq_iff_eq, bne_iff_ne] at this
      refine ⟨this.1.2, this.1.1, ?_⟩
      have h2 := this.2
      split at h2
      · assumption
      · cases h2
    · cases h
  · cases h
noncomputable def Fl : TypeId → Option (List TypeId) := flatOf Try.prog
set_option maxRecDepth 1000000 in
theorem checkedAll : Try.prog.funcs.toList.all funcB = true := by kernel_rfl
theorem fit : Fit Try.prog Fl := ⟨fun t ts h => flatOf_ok h, (goods checkedAll).1, by kernel_rfl⟩
end Go.Proofs.Ytadjimfkfmojkaa.Am

end
section
namespace Go.Proofs.Ytadjimfkfmojkaa.Am
set_option linter.unusedVariables false
section
variable {P : Program} {F : TypeId → Option (List TypeId)} {K : AV → Prop} {KL : AV → SH → Prop} {L : SH}
theorem opt_some (v : AV) : W0.opt (some v) K = K v := propext ⟨fun ⟨u, h1, h2⟩ => by cases h1; exact h2, fun h => ⟨v, rfl, h⟩⟩
theorem opt_none : W0.opt none K = False := propext ⟨fun ⟨u, h1, h2⟩ => (by cases h1), fun h => h.elim⟩
theorem pick_t (x y : AV) : W.pick (.bool true) x y K = K x := propext ⟨fun ⟨t, h1, h2⟩ => by cases h1; exact h2, fun h => ⟨true, rfl, h⟩⟩
theorem pick_f (x y : AV) : W.pick (.bool false) x y K = K y := propext ⟨fun ⟨t, h1, h2⟩ => by cases h1; exact h2, fun h => ⟨false, rfl, h⟩⟩
theorem grd_t (p : Bool) (A : (AV → SH → Prop) → Prop) : W.grd (.bool p) true A L KL = ((p = true → A KL) ∧ (p = false → KL undefA L)) := propext ⟨fun ⟨h⟩ => by
    rcases h with ⟨h1, h2⟩ | ⟨h1 | h1, h2⟩
    · cases h1; exact ⟨fun _ => h2, fun h => (by cases h)⟩
    · cases h1; exact ⟨fun h => (by cases h), fun _ => h2⟩
    · (cases h1), fun ⟨h1, h2⟩ => by
    cases p with
    | true => exact ⟨.inl ⟨rfl, h1 rfl⟩⟩
    | false => exact ⟨.inr ⟨.inl rfl, h2 rfl⟩⟩⟩
theorem grd_f (p : Bool) (A : (AV → SH → Prop) → Prop) : W.grd (.bool p) false A L KL = ((p = false → A KL) ∧ (p = true → KL undefA L)) := propext ⟨fun ⟨h⟩ => by
    rcases h with ⟨h1, h2⟩ | ⟨h1 | h1, h2⟩
    · cases h1; exact ⟨fun _ => h2, fun h => (by cases h)⟩
    · cases h1; exact ⟨fun h => (by cases h), fun _ => h2⟩
    · (cases h1), fun ⟨h1, h2⟩ => by
    cases p with
    | false => exact ⟨.inl ⟨rfl, h1 rfl⟩⟩
    | true => exact ⟨.inr ⟨.inl rfl, h2 rfl⟩⟩⟩
theorem dgrd_t {KF : AV → SH → W.Fp → Prop} (p : Bool) (A : (AV → SH → W.Fp → Prop) → Prop) : W.dgrd (.bool p) true A L KF = ((p = true → A KF) ∧ (p = false → KF undefA L ⟨[], [], [], L.names⟩)) := propext ⟨fun ⟨h⟩ => by
    rcases h with ⟨h1, h2⟩ | ⟨h1 | h1, h2⟩
    · cases h1; exact ⟨fun _ => h2, fun h => (by cases h)⟩
    · cases h1; exact ⟨fun h => (by cases h), fun _ => h2⟩
    · (cases h1), fun ⟨h1, h2⟩ => by
    cases p with
    | true => exact ⟨.inl ⟨rfl, h1 rfl⟩⟩
    | false => exact ⟨.inr ⟨.inl rfl, h2 rfl⟩⟩⟩
theorem dgrd_f {KF : AV → SH → W.Fp → Prop} (p : Bool) (A : (AV → SH → W.Fp → Prop) → Prop) : W.dgrd (.bool p) false A L KF = ((p = false → A KF) ∧ (p = true → KF undefA L ⟨[], [], [], L.names⟩)) := propext ⟨fun ⟨h⟩ => by
    rcases h with ⟨h1, h2⟩ | ⟨h1 | h1, h2⟩
    · cases h1; exact ⟨fun _ => h2, fun h => (by cases h)⟩
    · cases h1; exact ⟨fun h => (by cases h), fun _ => h2⟩
    · (cases h1), fun ⟨h1, h2⟩ => by
    cases p with
    | false => exact ⟨.inl ⟨rfl, h1 rfl⟩⟩
    | true => exact ⟨.inr ⟨.inl rfl, h2 rfl⟩⟩⟩
theorem cond_b (p : Bool) (A B : Prop) : W.cond (.bool p) A B = ((p = true → A) ∧ (p = false → B)) := propext ⟨fun ⟨h⟩ => by
    rcases h with ⟨h1, h2⟩ | ⟨h1, h2⟩
    · cases h1; exact ⟨fun _ => h2, fun h => (by cases h)⟩
    · cases h1; exact ⟨fun h => (by cases h), fun _ => h2⟩, fun ⟨h1, h2⟩ => by
    cases p with
    | true => exact ⟨.inl ⟨rfl, h1 rfl⟩⟩
    | false => exact ⟨.inr ⟨rfl, h2 rfl⟩⟩⟩
theorem bin_eq (op : BinOp) (t : TypeId) (x y : AV) : W.bin P F op t x y K = W0.opt (binA P F op t x y) K := propext ⟨fun h => h.h, fun h => ⟨h⟩⟩
theorem lss_i (t : TypeId) (k : IntKind) (a b : Int) : W.bin P F .lss t (.int k a) (.int k b) K = K (.bool (decide (a < b))) := by rw [bin_eq]; simp [binA, opt_some]
theorem leq_i (t : TypeId) (k : IntKind) (a b : Int) : W.bin P F .leq t (.int k a) (.int k b) K = K (.bool (decide (a ≤ b))) := by rw [bin_eq]; simp [binA, opt_some]
theorem gtr_i (t : TypeId) (k : IntKind) (a b : Int) : W.bin P F .gtr t (.int k a) (.int k b) K = K (.bool (decide (b < a))) := by rw [bin_eq]; simp [binA, opt_some]
theorem geq_i (t : TypeId) (k : IntKind) (a b : Int) : W.bin P F .geq t (.int k a) (.int k b) K = K (.bool (decide (b ≤ a))) := by rw [bin_eq]; simp [binA, opt_some]
theorem eql_i (t : TypeId) (k : IntKind) (a b : Int) : W.bin P F .eql t (.int k a) (.int k b) K = K (.bool (decide (a = b))) := by
  rw [bin_eq]; simp only [binA, ne_eq, not_true_eq_false, if_false, opt_some]; rw [show (a == b) = decide (a = b) from by cases h : (a == b) <;> simp_all]
theorem neq_i (t : TypeId) (k : IntKind) (a b : Int) : W.bin P F .neq t (.int k a) (.int k b) K = K (.bool (decide (a ≠ b))) := by
  rw [bin_eq]; simp only [binA, ne_eq, not_true_eq_false, if_false, opt_some]; rw [show (a != b) = decide (¬ a = b) from by cases h : (a != b) <;> simp_all]
theorem add_i (t : TypeId) (k : IntKind) (a b : Int) : W.bin P F .add t (.int k a) (.int k b) K = K (.int k (k.wrap (a + b))) := by rw [bin_eq]; simp [binA, opt_some]
theorem sub_i (t : TypeId) (k : IntKind) (a b : Int) : W.bin P F .sub t (.int k a) (.int k b) K = K (.int k (k.wrap (a - b))) := by rw [bin_eq]; simp [binA, opt_some]
theorem mul_i (t : TypeId) (k : IntKind) (a b : Int) : W.bin P F .mul t (.int k a) (.int k b) K = K (.int k (k.wrap (a * b))) := by rw [bin_eq]; simp [binA, opt_some]
theorem quo_i (t : TypeId) (k : IntKind) (a b : Int) : W.bin P F .quo t (.int k a) (.int k b) K = (b ≠ 0 ∧ K (.int k (k.wrap (a.tdiv b)))) := by
  rw [bin_eq]; by_cases h : b = 0 <;> simp [binA, opt_some, opt_none, h]
theorem rem_i (t : TypeId) (k : IntKind) (a b : Int) : W.bin P F .rem t (.int k a) (.int k b) K = (b ≠ 0 ∧ K (.int k (a.tmod b))) := by
  rw [bin_eq]; by_cases h : b = 0 <;> simp [binA, opt_some, opt_none, h]
theorem eql_s (t : TypeId) (a b : List UInt8) : W.bin P F .eql t (.str a) (.str b) K = K (.bool (decide (a = b))) := by
  rw [bin_eq]; simp only [binA, opt_some]; rw [show (a == b) = decide (a = b) from by cases h : (a == b) <;> simp_all]
theorem neq_s (t : TypeId) (a b : List UInt8) : W.bin P F .neq t (.str a) (.str b) K = K (.bool (decide (a ≠ b))) := by
  rw [bin_eq]; simp only [binA, opt_some]; rw [show (!(a == b)) = decide (a ≠ b) from by cases h : (a == b) <;> simp_all]
theorem eql_b (t : TypeId) (h : P.underlying t = some .bool) (a b : Bool) : W.bin P F .eql t (.bool a) (.bool b) K = K (.bool (a == b)) := by rw [bin_eq]; simp [binA, eqA, h, opt_some]
theorem un_not (b : Bool) : W.un .not (.bool b) K = K (.bool !b) := propext ⟨fun ⟨v, h1, h2⟩ => by cases h1; exact h2, fun h => ⟨_, rfl, h⟩⟩
theorem un_neg (k : IntKind) (n : Int) : W.un .neg (.int k n) K = K (.int k (k.wrap (0 - n))) := propext ⟨fun ⟨v, h1, h2⟩ => by cases h1; exact h2, fun h => ⟨_, rfl, h⟩⟩
theorem conv_i (k k' : IntKind) (n : Int) : W.conv k (.int k' n) K = K (.int k (k.wrap n)) := propext ⟨fun ⟨k2, m, h1, h2⟩ => by cases h1; exact h2, fun h => ⟨_, _, rfl, h⟩⟩
theorem convS_s (s : List UInt8) : W.convS (.str s) K = K (.str s) := propext ⟨fun ⟨s, h1, h2⟩ => by cases h1; exact h2, fun h => ⟨_, rfl, h⟩⟩
theorem call_eq (g : FuncId) (cs args : List AV) : W.call P (.fn g cs) args L KL = CallA P g (args ++ cs) L KL := propext ⟨fun h => h.h, fun h => ⟨h⟩⟩
theorem dcall_eq {KN : AV → SH → List Nat → Prop} (us : List W.WR) (i : Nat) (g : FuncId) (cs args : List AV) : W.dcall P us i (.fn g cs) args L KN = ∃ Kc R : SH, L.Perm (Kc ++ R) ∧ (∀ x ∈ us, W.free x ⟨i, [], Kc.names, [], true, []⟩) ∧ CallA P g (args ++ cs) Kc fun v K' => KN v (K' ++ R) Kc.names := propext ⟨fun h => h.h, fun h => ⟨h⟩⟩
theorem note_eq {KF : W.Fp → Prop} (r : W.Fp) : W.note r KF = KF r := propext ⟨fun h => h.h r rfl, fun h => ⟨fun r' e => e ▸ h⟩⟩
/-- a pure call -/
def PureA (P : Program) (f : FuncId) (args : List AV) (v : AV) : Prop := CallA P f args [] fun u K => u = v ∧ K = []
theorem PureA.call {f : FuncId} {args : List AV} {v : AV} (h : PureA P f args v) (hk : KL v L) : CallA P f args L KL :=
  CallA.frame h (K := []) (R := L) (.refl _) fun u K ⟨h1, h2⟩ => by subst h1; subst h2; exact hk
theorem PureA.dcall {KN : AV → SH → List Nat → Prop} {us : List W.WR} {i : Nat} {g : FuncId} {cs args : List AV} {v : AV} (h : PureA P g (args ++ cs) v) (hf : ∀ x ∈ us, W.free x ⟨i, [], [], [], true, []⟩) (hk : KN v L []) : W.dcall P us i (.fn g cs) args L KN :=
  ⟨[], L, .refl _, hf, CallA.mono h fun u K ⟨h1, h2⟩ => by subst h1; subst h2; exact hk⟩
end
end Go.Proofs.Ytadjimfkfmojkaa.Am

end
section
namespace Go.Proofs.Ytadjimfkfmojkaa.Am
set_option linter.unusedVariables false
section
variable {P : Program} {F : TypeId → Option (List TypeId)} {K : AV → Prop} {KL : AV → SH → Prop} {L : SH}
theorem a_pick_t {p : Bool} {x y : AV} (hp : p = true) (h : K x) : W.pick (.bool p) x y K := by subst hp; rw [pick_t]; exact h
theorem a_pick_f {p : Bool} {x y : AV} (hp : p = false) (h : K y) : W.pick (.bool p) x y K := by subst hp; rw [pick_f]; exact h
theorem a_grd_y {p want : Bool} {A : (AV → SH → Prop) → Prop} (hp : p = want) (h : A KL) : W.grd (.bool p) want A L KL := ⟨.inl ⟨by rw [hp], h⟩⟩
theorem a_grd_n {p want : Bool} {A : (AV → SH → Prop) → Prop} (hp : p = !want) (h : KL undefA L) : W.grd (.bool p) want A L KL := ⟨.inr ⟨.inl (by rw [hp]), h⟩⟩
theorem a_grd_u {want : Bool} {A : (AV → SH → Prop) → Prop} (h : KL undefA L) : W.grd undefA want A L KL := ⟨.inr ⟨.inr rfl, h⟩⟩
theorem a_grd_t {p : Bool} {A : (AV → SH → Prop) → Prop} (h1 : p = true → A KL) (h2 : p = false → KL undefA L) : W.grd (.bool p) true A L KL := by rw [grd_t]; exact ⟨h1, h2⟩
theorem a_grd_f {p : Bool} {A : (AV → SH → Prop) → Prop} (h1 : p = false → A KL) (h2 : p = true → KL undefA L) : W.grd (.bool p) false A L KL := by rw [grd_f]; exact ⟨h1, h2⟩
theorem a_dgrd_y {KF : AV → SH → W.Fp → Prop} {p want : Bool} {A : (AV → SH → W.Fp → Prop) → Prop} (hp : p = want) (h : A KF) : W.dgrd (.bool p) want A L KF := ⟨.inl ⟨by rw [hp], h⟩⟩
theorem a_dgrd_n {KF : AV → SH → W.Fp → Prop} {p want : Bool} {A : (AV → SH → W.Fp → Prop) → Prop} (hp : p = !want) (h : KF undefA L ⟨[], [], [], L.names⟩) : W.dgrd (.bool p) want A L KF := ⟨.inr ⟨.inl (by rw [hp]), h⟩⟩
theorem a_dgrd_u {KF : AV → SH → W.Fp → Prop} {want : Bool} {A : (AV → SH → W.Fp → Prop) → Prop} (h : KF undefA L ⟨[], [], [], L.names⟩) : W.dgrd undefA want A L KF := ⟨.inr ⟨.inr rfl, h⟩⟩
theorem a_dgrd_t {KF : AV → SH → W.Fp → Prop} {p : Bool} {A : (AV → SH → W.Fp → Prop) → Prop} (h1 : p = true → A KF) (h2 : p = false → KF undefA L ⟨[], [], [], L.names⟩) : W.dgrd (.bool p) true A L KF := by rw [dgrd_t]; exact ⟨h1, h2⟩
theorem a_dgrd_f {KF : AV → SH → W.Fp → Prop} {p : Bool} {A : (AV → SH → W.Fp → Prop) → Prop} (h1 : p = false → A KF) (h2 : p = true → KF undefA L ⟨[], [], [], L.names⟩) : W.dgrd (.bool p) false A L KF := by rw [dgrd_f]; exact ⟨h1, h2⟩
theorem a_cond_t {p : Bool} {A B : Prop} (hp : p = true) (h : A) : W.cond (.bool p) A B := ⟨.inl ⟨by rw [hp], h⟩⟩
theorem a_cond_f {p : Bool} {A B : Prop} (hp : p = false) (h : B) : W.cond (.bool p) A B := ⟨.inr ⟨by rw [hp], h⟩⟩
theorem a_cond {p : Bool} {A B : Prop} (h1 : p = true → A) (h2 : p = false → B) : W.cond (.bool p) A B := by rw [cond_b]; exact ⟨h1, h2⟩
theorem a_lss {t : TypeId} {k : IntKind} {a b : Int} (h : K (.bool (decide (a < b)))) : W.bin P F .lss t (.int k a) (.int k b) K := by rw [lss_i]; exact h
theorem a_leq {t : TypeId} {k : IntKind} {a b : Int} (h : K (.bool (decide (a ≤ b)))) : W.bin P F .leq t (.int k a) (.int k b) K := by rw [leq_i]; exact h
theorem a_gtr {t : TypeId} {k : IntKind} {a b : Int} (h : K (.bool (decide (b < a)))) : W.bin P F .gtr t (.int k a) (.int k b) K := by rw [gtr_i]; exact h
theorem a_geq {t : TypeId} {k : IntKind} {a b : Int} (h : K (.bool (decide (b ≤ a)))) : W.bin P F .geq t (.int k a) (.int k b) K := by rw [geq_i]; exact h
theorem a_eql {t : TypeId} {k : IntKind} {a b : Int} (h : K (.bool (decide (a = b)))) : W.bin P F .eql t (.int k a) (.int k b) K := by rw [eql_i]; exact h
theorem a_neq {t : TypeId} {k : IntKind} {a b : Int} (h : K (.bool (decide (a ≠ b)))) : W.bin P F .neq t (.int k a) (.int k b) K := by rw [neq_i]; exact h
theorem a_add {t : TypeId} {k : IntKind} {a b : Int} (h : K (.int k (k.wrap (a + b)))) : W.bin P F .add t (.int k a) (.int k b) K := by rw [add_i]; exact h
theorem a_sub {t : TypeId} {k : IntKind} {a b : Int} (h : K (.int k (k.wrap (a - b)))) : W.bin P F .sub t (.int k a) (.int k b) K := by rw [sub_i]; exact h
theorem a_mul {t : TypeId} {k : IntKind} {a b : Int} (h : K (.int k (k.wrap (a * b)))) : W.bin P F .mul t (.int k a) (.int k b) K := by rw [mul_i]; exact h
theorem a_quo {t : TypeId} {k : IntKind} {a b : Int} (hb : b ≠ 0) (h : K (.int k (k.wrap (a.tdiv b)))) : W.bin P F .quo t (.int k a) (.int k b) K := by rw [quo_i]; exact ⟨hb, h⟩
theorem a_rem {t : TypeId} {k : IntKind} {a b : Int} (hb : b ≠ 0) (h : K (.int k (a.tmod b))) : W.bin P F .rem t (.int k a) (.int k b) K := by rw [rem_i]; exact ⟨hb, h⟩
theorem a_eqs {t : TypeId} {a b : List UInt8} (h : K (.bool (decide (a = b)))) : W.bin P F .eql t (.str a) (.str b) K := by rw [eql_s]; exact h
theorem a_nes {t : TypeId} {a b : List UInt8} (h : K (.bool (decide (a ≠ b)))) : W.bin P F .neq t (.str a) (.str b) K := by rw [neq_s]; exact h
theorem a_not {b : Bool} (h : K (.bool !b)) : W.un .not (.bool b) K := by rw [un_not]; exact h
theorem a_neg {k : IntKind} {n : Int} (h : K (.int k (k.wrap (0 - n)))) : W.un .neg (.int k n) K := by rw [un_neg]; exact h
theorem a_conv {k k' : IntKind} {n : Int} (h : K (.int k (k.wrap n))) : W.conv k (.int k' n) K := by rw [conv_i]; exact h
theorem a_convS {s : List UInt8} (h : K (.str s)) : W.convS (.str s) K := by rw [convS_s]; exact h
theorem a_faddr_p {off b i o : Nat} (h : K (.ptr b i (o + off))) : W.faddr off (.ptr b i o) K := ⟨h⟩
theorem a_faddr_q {off : Nat} {rows : List (List AV)} {i o : Nat} (h : K (.pptr rows i (o + off))) : W.faddr off (.pptr rows i o) K := ⟨h⟩
theorem a_fld {ag : Bool} {n off : Nat} {cs : List AV} {v : AV} (h1 : W0.rowLd ag n cs off = some v) (h : K v) : W.fld ag n off (.agg cs) K := ⟨cs, v, rfl, h1, h⟩
theorem a_load_q {n : Nat} {rows : List (List AV)} {i off : Nat} {r : List AV} {v : AV} (h1 : rows[i]? = some r) (h2 : r[off]? = some v) (h : K v) : W.load false n (.pptr rows i off) L K := ⟨r, v, h1, h2, h⟩
theorem a_load_p {n b i off : Nat} {x : Blk} {r : List AV} {v : AV} (hm : (b, x) ∈ L) (h1 : x.rows[i]? = some r) (h2 : r[off]? = some v) (h : K v) : W.load false n (.ptr b i off) L K := ⟨x, r, v, hm, h1, h2, h⟩
/-- a whole row -/
theorem a_row_q {n : Nat} {rows : List (List AV)} {i : Nat} {r : List AV} (h1 : rows[i]? = some r) (h2 : r.length = n) (h : K (.agg r)) : W.load true n (.pptr rows i 0) L K :=
  ⟨r, .agg r, h1, by simp [W0.rowLd, ← h2], h⟩
theorem a_row_p {n b i : Nat} {x : Blk} {r : List AV} (hm : (b, x) ∈ L) (h1 : x.rows[i]? = some r) (h2 : r.length = n) (h : K (.agg r)) : W.load true n (.ptr b i 0) L K :=
  ⟨x, r, .agg r, hm, h1, by simp [W0.rowLd, ← h2], h⟩
/-- a box is written whole -/
theorem a_store_box {KS : SH → Prop} {n b : Nat} {v : AV} {m : Nat} {r cs : List AV} {L' : SH} (hu : Upd b ⟨m, [r]⟩ ⟨m, [cs]⟩ L L') (h2 : v.cells? = some cs) (h3 : cs.length = n) (h4 : cs.all AV.one = true) (h5 : r.length = n) (h : KS L') : W.store n (.ptr b 0 0) v L KS :=
  ⟨⟨m, [r]⟩, r, cs, L', rfl, h2, h3, h4, by omega, by
    have : rowStore r 0 cs = cs := by
      unfold rowStore
      rw [List.take_zero, List.nil_append, List.drop_of_length_le (by omega), List.append_nil]
    rw [this]; exact hu, h⟩
theorem rowStore_one (r : List AV) (off : Nat) (v : AV) (h : off < r.length) : rowStore r off [v] = r.set off v := by
  unfold rowStore
  rw [List.set_eq_take_append_cons_drop, if_pos h]
  simp
/-- one cell is written -/
theorem a_store_one {KS : SH → Prop} {b i off : Nat} {v : AV} {x x' : Blk} {r : List AV} {L' : SH} (hu : Upd b x x' L L') (h1 : x.rows[i]? = some r) (h2 : v.cells? = some [v]) (h4 : v.one = true) (h5 : off < r.length) (h6 : x' = ⟨x.size, x.rows.set i (r.set off v)⟩) (h : KS L') : W.store 1 (.ptr b i off) v L KS :=
  ⟨x, r, [v], L', h1, h2, rfl, by simp [h4], by omega, by rw [rowStore_one r off v h5, ← h6]; exact hu, h⟩
/-- a row is written whole -/
theorem a_store_row {KS : SH → Prop} {n b i : Nat} {v : AV} {x x' : Blk} {r cs : List AV} {L' : SH} (hu : Upd b x x' L L') (h1 : x.rows[i]? = some r) (h2 : v.cells? = some cs) (h3 : cs.length = n) (h4 : cs.all AV.one = true) (h5 : r.length = n) (h6 : x' = ⟨x.size, x.rows.set i cs⟩) (h : KS L') : W.store n (.ptr b i 0) v L KS :=
  ⟨x, r, cs, L', h1, h2, h3, h4, by omega, by
    have : rowStore r 0 cs = cs := by
      unfold rowStore
      rw [List.take_zero, List.nil_append, List.drop_of_length_le (by omega), List.append_nil]
    rw [this, ← h6]; exact hu, h⟩
theorem a_idx_n {n : Nat} {rows : List (List AV)} {k : IntKind} {j : Nat} {r : List AV} (h1 : rows[j]? = some r) (h2 : r.length = n) (h : K (.pptr rows j 0)) : W.idx n (.lst rows) (.int k (j : Int)) L K :=
  ⟨k, j, r, rfl, Int.natCast_nonneg _, by simpa using h1, h2, by simpa using h⟩
theorem a_idx_l {n : Nat} {rows : List (List AV)} {k : IntKind} {i : Int} {r : List AV} (h0 : 0 ≤ i) (h1 : rows[i.toNat]? = some r) (h2 : r.length = n) (h : K (.pptr rows i.toNat 0)) : W.idx n (.lst rows) (.int k i) L K := ⟨k, i, r, rfl, h0, h1, h2, h⟩
theorem a_idx_s {n b j m : Nat} {k : IntKind} {i : Int} {y : Blk} (h0 : 0 ≤ i) (h1 : i.toNat < m) (hm : (b, y) ∈ L) (h2 : y.size = n) (h : K (.ptr b (j + i.toNat) 0)) : W.idx n (.sl b j m) (.int k i) L K := ⟨k, i, y, rfl, h0, h1, hm, h2, h⟩
theorem a_idx_sn {n b m : Nat} {k : IntKind} {i : Nat} {y : Blk} (h1 : i < m) (hm : (b, y) ∈ L) (h2 : y.size = n) (h : K (.ptr b i 0)) : W.idx n (.sl b 0 m) (.int k (i : Int)) L K := ⟨k, i, y, rfl, Int.natCast_nonneg _, by simpa using h1, hm, h2, by simpa using h⟩
theorem a_idxP_q {len n : Nat} {rows : List (List AV)} {j off : Nat} {k : IntKind} {i : Int} (h0 : 0 ≤ i) (h1 : i.toNat < len) (h : K (.pptr rows j (off + i.toNat * n))) : W.idxP len n (.pptr rows j off) (.int k i) K := ⟨k, i, rfl, h0, h1, h⟩
theorem a_idxP_p {len n b j off : Nat} {k : IntKind} {i : Int} (h0 : 0 ≤ i) (h1 : i.toNat < len) (h : K (.ptr b j (off + i.toNat * n))) : W.idxP len n (.ptr b j off) (.int k i) K := ⟨k, i, rfl, h0, h1, h⟩
theorem a_ext {i : Nat} {vs : List AV} {v : AV} (h1 : vs[i]? = some v) (h : K v) : W.ext i (.tup vs) K := ⟨vs, v, rfl, h1, h⟩
theorem a_nil_p {b i off : Nat} (h : K (.ptr b i off)) : W.nilchk (.ptr b i off) K := ⟨h⟩
theorem a_nil_q {rows : List (List AV)} {i off : Nat} (h : K (.pptr rows i off)) : W.nilchk (.pptr rows i off) K := ⟨h⟩
theorem a_nil_f {f : FuncId} {cs : List AV} (h : K (.fn f cs)) : W.nilchk (.fn f cs) K := ⟨h⟩
theorem a_build {z : List AV} {ps : List (Nat × Nat × AV)} {cs : List AV} (h1 : W0.fillR z ps = some cs) (h : K (.agg cs)) : W.build z ps K := ⟨cs, h1, h⟩
theorem a_alloc {cs : List AV} (h : ∀ b, b ∉ L.names → KL (.ptr b 0 0) ((b, ⟨cs.length, [cs]⟩) :: L)) : W.alloc cs L KL := ⟨h⟩
theorem a_box {x : AV} {cs : List AV} (h1 : x.cells? = some cs) (h2 : cs.all AV.one = true) (h : ∀ b, b ∉ L.names → KL (.ptr b 0 0) ((b, ⟨cs.length, [cs]⟩) :: L)) : W.box x L KL := ⟨cs, h1, h2, h⟩
theorem a_bslice {n : Nat} {z : List AV} {len : Nat} {ps : List (Nat × AV)} {rows : List (List AV)} (h1 : len * n ≤ 2 ^ 24) (h2 : fillRows n (List.replicate len z) ps = some rows) (h : ∀ b, b ∉ L.names → KL (.sl b 0 len) ((b, ⟨n, rows⟩) :: L)) : W.bslice n z len ps L KL := ⟨h1, rows, h2, h⟩
theorem a_mslice {n by_ : Nat} {z : List AV} {k k' : IntKind} {i j : Nat} (h1 : i ≤ j) (h2 : j ≤ 2 ^ 62) (h3 : j * by_ ≤ 2 ^ 48) (h : ∀ b, b ∉ L.names → KL (.sl b 0 i) ((b, ⟨n, List.replicate i z⟩) :: L)) : W.mslice n by_ z (.int k (i : Int)) (.int k' (j : Int)) L KL := ⟨k, k', i, j, rfl, rfl, h1, h2, h3, h⟩
theorem a_len_l {rows : List (List AV)} (h : K (.int .i64 (rows.length : Int))) : W.len (.lst rows) K := ⟨_, rfl, h⟩
theorem a_len_m {α : Type} {f : α → List AV} {l : List α} (h : K (.int .i64 (l.length : Int))) : W.len (.lst (l.map f)) K := ⟨_, rfl, by rw [List.length_map]; exact h⟩
theorem a_len_s {b i n : Nat} (h : K (.int .i64 (n : Int))) : W.len (.sl b i n) K := ⟨_, rfl, h⟩
theorem a_len_n (h : K (.int .i64 (0 : Nat))) : W.len .nils K := ⟨_, rfl, h⟩
theorem a_lenS {s : List UInt8} (h : K (.int .i64 (s.length : Int))) : W.lenS (.str s) K := ⟨_, rfl, h⟩
theorem a_frz_p {b i off : Nat} {x : Blk} {L' : SH} (h1 : Del b x L L') (h2 : 0 < x.size) (h3 : 0 < x.rows.length) (h : KL (.pptr x.rows i off) L') : W.frz1 (.ptr b i off) L KL := ⟨x, L', h1, h2, h3, h⟩
theorem a_frz_s {b n : Nat} {x : Blk} {L' : SH} (h1 : Del b x L L') (h2 : 0 < x.size) (h3 : n = x.rows.length) (h : KL (.lst x.rows) L') : W.frz1 (.sl b 0 n) L KL := ⟨x, L', h1, h2, by omega, by simpa [h3] using h⟩
theorem a_note {KF : W.Fp → Prop} {r : W.Fp} (h : KF r) : W.note r KF := by rw [note_eq]; exact h
theorem a_calm {us : List W.WR} {y : W.WR} {A : Prop} (h1 : ∀ x ∈ us, W.free x y) (h : A) : W.calm us y A := ⟨h1, h⟩
theorem a_tt {A : Prop} (h : A) : (true = true) ∧ A := ⟨rfl, h⟩
theorem a_join {J : W.Kn} {B : W.Kn → Prop} (h : B J) : W.join J B := ⟨h⟩
theorem a_app_s {n by_ b' i k : Nat} {x : AV} {y : Blk} {l m : List (List AV)} {L' : SH} (hm : (b', y) ∈ L) (hs : y.size = n) (hl : i + k ≤ y.rows.length) (he : (y.rows.drop i).take k = l) (h1 : W0.rowsR L n x m)
    (h2 : 2 * (l.length + m.length) * by_ ≤ 2 ^ 48) (h3 : 2 * (l.length + m.length) ≤ 2 ^ 62) (h4 : (m.all fun r => r.all AV.one) = true) (hd : Del b' y L L')
    (h : ∀ b, b ∉ L.names → KL (.sl b 0 (l.length + m.length)) ((b, ⟨n, l ++ m⟩) :: L')) : W.append n by_ (.sl b' i k) x L KL :=
  ⟨l, m, ⟨y, hm, hs, hl, he.symm⟩, h1, h2, h3, h4, y, L', hd, h⟩
theorem a_app_e {n by_ : Nat} {x : AV} {m : List (List AV)} (h1 : W0.rowsR L n x m) (h2 : 2 * m.length * by_ ≤ 2 ^ 48) (h3 : 2 * m.length ≤ 2 ^ 62) (h4 : (m.all fun r => r.all AV.one) = true) (h0 : m.length ≠ 0)
    (h : ∀ b, b ∉ L.names → KL (.sl b 0 m.length) ((b, ⟨n, m⟩) :: L)) : W.append n by_ .emp x L KL :=
  ⟨[], m, rfl, h1, by simpa using h2, by simpa using h3, h4, fun e => absurd e h0, fun _ => h⟩
theorem a_len_e (h : K (.int .i64 (0 : Nat))) : W.len .emp K := ⟨_, rfl, h⟩
theorem a_slice_l {n : Nat} {rows : List (List AV)} {lo hi : Option AV} {l h : Nat} (h1 : boundA lo 0 = some l) (h2 : boundA hi rows.length = some h) (hl : l ≤ h) (hh : h ≤ rows.length) (hs : ∀ r, rows.head? = some r → r.length = n) (hk : K (.lst ((rows.drop l).take (h - l)))) : W.slice n (.lst rows) lo hi none L K :=
  ⟨rows.length, l, h, rows.length, rfl, h1, h2, rfl, hl, hh, Nat.le_refl _, hs, hk⟩
theorem rowsR_m {α : Type} {f : α → List AV} {l : List α} {n : Nat} (h : ∀ x, (f x).length = n) : W0.rowsR L n (.lst (l.map f)) (l.map f) := ⟨rfl, fun r hr => by
  cases l with
  | nil => cases hr
  | cons x l => simp at hr; rw [← hr]; exact h x⟩
theorem rowsR_s {n b k : Nat} {x : Blk} (hm : (b, x) ∈ L) (hs : x.size = n) (hk : k = x.rows.length) : W0.rowsR L n (.sl b 0 k) x.rows := ⟨x, hm, hs, by omega, by simp [hk]⟩
end
end Go.Proofs.Ytadjimfkfmojkaa.Am

end
section
namespace Go.Proofs.Ytadjimfkfmojkaa.Am
set_option linter.unusedVariables false
abbrev Str := List UInt8
structure CellD where
  name : Str
  index : Int
  size : Int
  volatile : Bool
  init : Int
  deriving Inhabited, DecidableEq
structure LockI where
  name : Str
  rw : Bool
  deriving Inhabited, DecidableEq
structure CondI where
  name : Str
  mutex : Int
  deriving Inhabited, DecidableEq
structure SiteD where
  thread : Int
  stmt : Int
  line : Int
  deriving Inhabited, DecidableEq
structure WorldD where
  cells : List CellD
  locks : List LockI
  conds : List CondI
  futures : List Str
  threads : List Str
  sites : List SiteD
  deriving Inhabited, DecidableEq
structure LockD where
  owner : Int
  readers : List Int
  deriving Inhabited, DecidableEq
structure ThrD where
  status : Int
  cond : Int
  atomic : Bool
  deriving Inhabited, DecidableEq
structure SyncD where
  locks : List LockD
  tx : Int
  done : List Bool
  threads : List ThrD
  deriving Inhabited, DecidableEq
def CellD.enc (c : CellD) : List AV := [.str c.name, .int .i64 c.index, .int .i64 c.size, .bool c.volatile, .int .i64 c.init]
def LockI.enc (c : LockI) : List AV := [.str c.name, .bool c.rw]
def CondI.enc (c : CondI) : List AV := [.str c.name, .int .i64 c.mutex]
def SiteD.enc (c : SiteD) : List AV := [.int .i64 c.thread, .int .i64 c.stmt, .int .i64 c.line]
def strE (s : Str) : List AV := [.str s]
def intE (n : Int) : List AV := [.int .i64 n]
def boolE (b : Bool) : List AV := [.bool b]
def LockD.enc (l : LockD) : List AV := [.int .i64 l.owner, .lst (l.readers.map intE)]
def ThrD.enc (t : ThrD) : List AV := [.int .i64 t.status, .int .i64 t.cond, .bool t.atomic]
def WorldD.enc (w : WorldD) : List AV := [.lst (w.cells.map CellD.enc), .lst (w.locks.map LockI.enc), .lst (w.conds.map CondI.enc), .lst (w.futures.map strE), .lst (w.threads.map strE), .lst (w.sites.map SiteD.enc)]
def SyncD.enc (s : SyncD) : List AV := [.lst (s.locks.map LockD.enc), .int .i64 s.tx, .lst (s.done.map boolE), .lst (s.threads.map ThrD.enc)]
theorem map_at {α β : Type} {f : α → β} {l : List α} {i : Nat} (h : i < l.length) : (l.map f)[i]? = some (f l[i]) := by simp [h]
theorem i64_succ {i n : Nat} (h : i < n) (hn : n < 2 ^ 62) : IntKind.i64.wrap ((i : Int) + 1) = ((i + 1 : Nat) : Int) := by rw [IntWalk.i64_in _ (by omega)]; omega
theorem dec_lt {i n : Nat} (h : i < n) : decide ((i : Int) < (n : Int)) = true := by simpa using h
theorem dec_ge {i n : Nat} (h : n ≤ i) : decide ((i : Int) < (n : Int)) = false := by simpa using h
theorem fzs_eq {vs vs2 : List AV} {L L2 : SH} (hv : vs = vs2) (hL : L = L2) : FzS vs L vs2 L2 := by subst hv; subst hL; exact .refl _ _
/-- a loop that counts -/
theorem for_by (n : Nat) (S : Nat → List AV × SH) (G : Nat → Prop) {B : List AV → SH → W.Kn → Prop} {vs : List AV} {L : SH} (h0 : G 0) (hv : vs = (S 0).1) (hL : L = (S 0).2)
    (h : ∀ i, i ≤ n → G i → B (S i).1 (S i).2 fun vs' L' => ∃ j, i < j ∧ j ≤ n ∧ G j ∧ FzS vs' L' (S j).1 (S j).2) : W.loop B vs L := by
  refine ⟨fun k vs L => ∃ i, i ≤ n ∧ G i ∧ k = n - i ∧ vs = (S i).1 ∧ L = (S i).2, ⟨n, _, _, .refl _ _, 0, Nat.zero_le _, h0, rfl, hv, hL⟩, ?_⟩
  rintro k vs L ⟨i, hi, hG, rfl, rfl, rfl⟩
  have e : (fun vs' L' => ∃ m vs2 L2, m < n - i ∧ FzS vs' L' vs2 L2 ∧ ∃ j, j ≤ n ∧ G j ∧ m = n - j ∧ vs2 = (S j).1 ∧ L2 = (S j).2) = fun vs' L' => ∃ j, i < j ∧ j ≤ n ∧ G j ∧ FzS vs' L' (S j).1 (S j).2 := by
    funext vs' L'
    apply propext
    constructor
    · rintro ⟨m, vs2, L2, h1, h2, j, h3, h4, rfl, rfl, rfl⟩; exact ⟨j, by omega, h3, h4, h2⟩
    · rintro ⟨j, h1, h2, h3, h4⟩; exact ⟨n - j, _, _, by omega, h4, j, h2, h3, rfl, rfl, rfl⟩
  rw [e]
  exact h i hi hG
def inB (i : Int) (n : Nat) : Bool := decide (0 ≤ i) && decide (i < (n : Int))
theorem inB_iff {i : Int} {n : Nat} : inB i n = true ↔ 0 ≤ i ∧ i < n := by simp [inB]
theorem nn_inB {i : Int} {n : Nat} (h : inB i n = true) : 0 ≤ i := (inB_iff.1 h).1
theorem at_inB {α : Type} [Inhabited α] {f : α → List AV} {l : List α} {i : Int} (h : inB i l.length = true) : (l.map f)[i.toNat]? = some (f (l.getD i.toNat default)) := by
  obtain ⟨h1, h2⟩ := inB_iff.1 h
  have : i.toNat < l.length := by omega
  simp [this]
end Go.Proofs.Ytadjimfkfmojkaa.Am

end
section
namespace Go.Proofs.Ytadjimfkfmojkaa.Am
set_option maxRecDepth 100000
set_option linter.unusedSimpArgs false
set_option linter.unusedVariables false
/-- a slice that reads as a list -/
theorem Fz.slm {α : Type} {K : SH} {b n size : Nat} {l : List α} {f g : α → List AV} {rows : List (List AV)} (hm : (b, ⟨size, rows⟩) ∈ K) (hr : rows = l.map f) (hs : 0 < size) (hn : n = l.length) (hl : ∀ y ∈ l, (f y).length = (g y).length)
    (hc : ∀ y ∈ l, ∀ (q : Nat) (a a2 : AV), (f y)[q]? = some a → (g y)[q]? = some a2 → Fz K a a2) : Fz K (.sl b 0 n) (.lst (l.map g)) := by
  subst hr
  subst hn
  cases l with
  | nil => exact .sl0 b 0
  | cons x l =>
    have get : ∀ (j : Nat) (r r2 : List AV), ((x :: l).map f)[0 + j]? = some r → ((x :: l).map g)[j]? = some r2 → ∃ y ∈ x :: l, r = f y ∧ r2 = g y := fun j r r2 h1 h2 => by
      rw [Nat.zero_add, List.getElem?_map] at h1
      rw [List.getElem?_map] at h2
      cases hj : (x :: l)[j]? with
      | none => rw [hj] at h1; cases h1
      | some y =>
        rw [hj] at h1 h2
        cases h1; cases h2
        exact ⟨y, List.mem_of_getElem? hj, rfl, rfl⟩
    refine .sl b 0 _ ⟨size, (x :: l).map f⟩ _ hm hs (by simp) (by simp) (by simp) (fun j r r2 h1 h2 => ?_) (fun j r r2 q a a2 h1 h2 h3 h4 => ?_)
    · obtain ⟨y, hy, rfl, rfl⟩ := get j r r2 h1 h2; exact hl y hy
    · obtain ⟨y, hy, rfl, rfl⟩ := get j r r2 h1 h2; exact hc y hy q a a2 h3 h4
theorem Fz.sls {α : Type} {K : SH} {b n size : Nat} {l : List α} {f : α → List AV} {rows : List (List AV)} (hm : (b, ⟨size, rows⟩) ∈ K) (hr : rows = l.map f) (hs : 0 < size) (hn : n = l.length) : Fz K (.sl b 0 n) (.lst (l.map f)) :=
  Fz.slm hm hr hs hn (fun _ _ => rfl) fun y _ q a a2 h1 h2 => by rw [h1] at h2; cases h2; exact .refl _
/-- cell by cell -/
inductive FzL (K : SH) : List AV → List AV → Prop where
  | nil : FzL K [] []
  | cons {a b : AV} {l m : List AV} : Fz K a b → FzL K l m → FzL K (a :: l) (b :: m)
theorem FzL.at_ {K : SH} {l m : List AV} (h : FzL K l m) : l.length = m.length ∧ ∀ (i : Nat) (a b : AV), l[i]? = some a → m[i]? = some b → Fz K a b := by
  induction h with
  | nil => exact ⟨rfl, fun i a b h => by simp at h⟩
  | cons h1 h2 ih =>
    refine ⟨by simp [ih.1], fun i a b ha hb => ?_⟩
    match i with
    | 0 => cases ha; cases hb; exact h1
    | i + 1 => exact ih.2 i a b (by simpa using ha) (by simpa using hb)
theorem Fz.aggs {K : SH} {l m : List AV} (h : FzL K l m) : Fz K (.agg l) (.agg m) := .agg l m h.at_.1 h.at_.2
theorem FzS.all {L : SH} {v v2 : AV} (h : Fz L v v2) : FzS [v] L [v2] [] := .drop (K := L) (R := []) (by simp) rfl fun i a a2 h1 h2 => by
  match i with
  | 0 => cases h1; cases h2; exact h
  | i + 1 => simp at h1
/-- a slice that has no room as long as nothing was appended to it -/
def slotV : Option Nat → Nat → AV
  | none, _ => .emp
  | some b, n => .sl b 0 n
def slotB (o : Option Nat) (size : Nat) (rows : List (List AV)) : SH := match o with
  | none => []
  | some b => [(b, ⟨size, rows⟩)]
theorem Del.app {b : Nat} {x : Blk} {L L' : SH} (h : Del b x L L') : ∀ M : SH, Del b x (M ++ L) (M ++ L')
  | [] => h
  | p :: M => .there p (h.app M)
/-- a list of blocks, without some -/
theorem FzS.forget {vs : List AV} {L K R : SH} (hL : L.Perm (K ++ R)) : FzS vs L vs R := .drop hL rfl fun i a a2 h1 h2 => by rw [h1] at h2; cases h2; exact .refl _
/-- the cells of a box are read anew -/
theorem FzS.box {vs : List AV} {L K R : SH} {b n : Nat} {r r' : List AV} (hL : L.Perm (K ++ (b, ⟨n, [r]⟩) :: R)) (hr : FzL K r r') : FzS vs L vs ((b, ⟨n, [r']⟩) :: R) := by
  refine ⟨K, (b, ⟨n, [r]⟩) :: R, hL, ⟨rfl, fun i a a2 h1 h2 => by rw [h1] at h2; cases h2; exact .refl _⟩, rfl, fun i p q h1 h2 => ?_⟩
  match i with
  | 0 =>
    cases h1; cases h2
    refine ⟨rfl, rfl, rfl, fun j s s2 g1 g2 => ?_⟩
    match j with
    | 0 => cases g1; cases g2; exact ⟨hr.at_.1, hr.at_.2⟩
    | j + 1 => simp at g1
  | i + 1 =>
    simp only [List.getElem?_cons_succ] at h1 h2
    rw [h1] at h2; cases h2
    exact ⟨rfl, rfl, rfl, fun j r r2 h3 h4 => by rw [h3] at h4; cases h4; exact ⟨rfl, fun k a a2 h5 h6 => by rw [h5] at h6; cases h6; exact .refl _⟩⟩
theorem Fz.slot {α : Type} {o : Option Nat} {size : Nat} {l : List α} {f g : α → List AV} {rows : List (List AV)} (hr : rows = l.map f) (h0 : o = none → rows = []) (hs : 0 < size) (hl : ∀ y ∈ l, (f y).length = (g y).length)
    (hc : ∀ y ∈ l, ∀ (q : Nat) (a a2 : AV), (f y)[q]? = some a → (g y)[q]? = some a2 → Fz (slotB o size rows) a a2) : Fz (slotB o size rows) (slotV o l.length) (.lst (l.map g)) := by
  cases o with
  | none =>
    have := h0 rfl
    subst hr
    have : l = [] := by simpa using this
    subst this
    exact .emp
  | some b => exact Fz.slm (List.mem_singleton.2 rfl) hr hs rfl hl hc
/-- a loop, over states that are described by a number and something more -/
theorem loop_ex {β : Type} (n : Nat) (S : Nat → β → List AV × SH) (G : Nat → β → Prop) {B : List AV → SH → W.Kn → Prop} {vs : List AV} {L : SH} (b0 : β) (h0 : G 0 b0) (hz : FzS vs L (S 0 b0).1 (S 0 b0).2)
    (h : ∀ i o, i ≤ n → G i o → B (S i o).1 (S i o).2 fun vs' L' => ∃ j o', i < j ∧ j ≤ n ∧ G j o' ∧ FzS vs' L' (S j o').1 (S j o').2) : W.loop B vs L := by
  refine ⟨fun k vs L => ∃ i o, i ≤ n ∧ G i o ∧ k = n - i ∧ vs = (S i o).1 ∧ L = (S i o).2, ⟨n, _, _, hz, 0, b0, Nat.zero_le _, h0, rfl, rfl, rfl⟩, ?_⟩
  rintro k vs L ⟨i, o, hi, hG, rfl, rfl, rfl⟩
  have e : (fun vs' L' => ∃ m vs2 L2, m < n - i ∧ FzS vs' L' vs2 L2 ∧ ∃ j o', j ≤ n ∧ G j o' ∧ m = n - j ∧ vs2 = (S j o').1 ∧ L2 = (S j o').2) = fun vs' L' => ∃ j o', i < j ∧ j ≤ n ∧ G j o' ∧ FzS vs' L' (S j o').1 (S j o').2 := by
    funext vs' L'
    apply propext
    constructor
    · rintro ⟨m, vs2, L2, h1, h2, j, o', h3, h4, rfl, rfl, rfl⟩; exact ⟨j, o', by omega, h3, h4, h2⟩
    · rintro ⟨j, o', h1, h2, h3, h4⟩; exact ⟨n - j, _, _, by omega, h4, j, o', h2, h3, rfl, rfl, rfl⟩
  rw [e]
  exact h i o hi hG
end Go.Proofs.Ytadjimfkfmojkaa.Am

end
section
namespace Go.Proofs.Ytadjimfkfmojkaa
open Go.ChangeShapes Go.WideShapes Go.ChangeAt Go.RowKit

/-- A relation between a datum and the cells that hold it, in a world, over blocks of which F holds. -/
abbrev Rel (α : Type) := World → (Nat → Prop) → α → List Value → Prop

def rInt (k : IntKind) : Rel Int := fun _ _ n cs => cs = [.int k n] ∧ (Lit.int k n).wf = true
def rBool : Rel Bool := fun _ _ b cs => cs = [.bool b]
/-- A slice of elements of 'size' cells. -/
def rSlice {α : Type} (size : Nat) (R : Rel α) : Rel (List α) := fun w F l cs =>
  ∃ A c, cs = [.slice A l.length c] ∧ l.length ≤ c ∧ c ≤ maxLen ∧
    (0 < l.length → ∃ b o, A = some ⟨b, o, none⟩ ∧ F b ∧
      ∀ i x, l[i]? = some x → ∃ cs', cs'.length = size ∧ R w F x cs' ∧ ∀ j u, cs'[j]? = some u → w.cell? ⟨b, o + i * size + j, none⟩ = some u)

/-- What a relation must bear: it stands where the blocks that it lies in are kept. -/
def Rel.Stays {α : Type} (R : Rel α) : Prop := ∀ (w w' : World) (F F' : Nat → Prop) (x : α) (cs : List Value),
  (∀ b, F b → b < w.heap.size → w'.heap[b]? = w.heap[b]?) → (∀ b, F b → b < w.heap.size → F' b) → R w F x cs → R w' F' x cs

theorem lt_of_cell {w : World} {b o : Nat} {u : Value} (h : w.cell? ⟨b, o, none⟩ = some u) : b < w.heap.size := by
  rcases Nat.lt_or_ge b w.heap.size with hlt | hge
  · exact hlt
  · simp [World.cell?, Array.getElem?_eq_none hge] at h

theorem cell_kept {w w' : World} {b o : Nat} {u : Value} (hk : b < w.heap.size → w'.heap[b]? = w.heap[b]?) (h : w.cell? ⟨b, o, none⟩ = some u) : w'.cell? ⟨b, o, none⟩ = some u :=
  (World.cell?_of_block (w := w) (w' := w') (a := ⟨b, o, none⟩) (hk (lt_of_cell h))).trans h

theorem rInt_stays (k : IntKind) : (rInt k).Stays := fun _ _ _ _ _ _ _ _ h => h
theorem rBool_stays : rBool.Stays := fun _ _ _ _ _ _ _ _ h => h
theorem rSlice_stays {α : Type} {size : Nat} {R : Rel α} (hs : 0 < size) (hR : R.Stays) : (rSlice size R).Stays := by
  intro w w' F F' l cs hk hF ⟨A, c, h1, h2, h3, h4⟩
  refine ⟨A, c, h1, h2, h3, fun hn => ?_⟩
  obtain ⟨b, o, hA, hFb, hc⟩ := h4 hn
  have hb : b < w.heap.size := by
    obtain ⟨cs', hl, _, hcell⟩ := hc 0 l[0] (List.getElem?_eq_getElem hn)
    exact lt_of_cell (hcell 0 cs'[0] (List.getElem?_eq_getElem (by omega)))
  refine ⟨b, o, hA, hF b hFb hb, fun i x hx => ?_⟩
  obtain ⟨cs', hl, hr, hcell⟩ := hc i x hx
  exact ⟨cs', hl, hR w w' F F' x cs' hk hF hr, fun j u hu => cell_kept (hk b hFb) (hcell j u hu)⟩

/-- the slice value itself -/
def Sl {α : Type} (size : Nat) (R : Rel α) (w : World) (F : Nat → Prop) (v : Value) (l : List α) : Prop := rSlice size R w F l [v]

section
variable {α : Type} {size : Nat} {R : Rel α} {w w' : World} {F F' : Nat → Prop} {v : Value} {l : List α}
theorem Sl.form (h : Sl size R w F v l) : ∃ A c, v = .slice A l.length c ∧ l.length ≤ c ∧ c ≤ maxLen := by
  obtain ⟨A, c, h1, h2, h3, _⟩ := h
  exact ⟨A, c, by simpa using h1, h2, h3⟩
theorem Sl.at_ {A : Option Addr} {n c : Nat} (h : Sl size R w F (.slice A n c) l) {i : Nat} (hi : i < l.length) :
    ∃ b o cs, A = some ⟨b, o, none⟩ ∧ F b ∧ cs.length = size ∧ R w F l[i] cs ∧ ∀ j u, cs[j]? = some u → w.cell? ⟨b, o + i * size + j, none⟩ = some u := by
  obtain ⟨A', c', h1, h2, h3, h4⟩ := h
  obtain ⟨b, o, hA, hF, hc⟩ := h4 (by omega)
  have e : A = A' := by injection h1 with h1; injection h1
  obtain ⟨cs', hl, hr, hcell⟩ := hc i l[i] (List.getElem?_eq_getElem hi)
  exact ⟨b, o, cs', e.trans hA, hF, hl, hr, hcell⟩
theorem Sl.stays (hs : 0 < size) (hR : R.Stays) (h : Sl size R w F v l) (hk : ∀ b, F b → b < w.heap.size → w'.heap[b]? = w.heap[b]?) (hF : ∀ b, F b → b < w.heap.size → F' b) : Sl size R w' F' v l :=
  rSlice_stays hs hR w w' F F' l [v] hk hF h
theorem Sl.below {B : Nat} (hs : 0 < size) (hR : R.Stays) (h : Sl size R w (· < B) v l) (hb : Below B w w') : Sl size R w' (· < B) v l :=
  h.stays hs hR (fun b hb' _ => hb.block b hb') (fun _ h _ => h)
theorem Sl.nil : Sl size R w F (.slice none 0 0) ([] : List α) := ⟨none, 0, rfl, by simp, by simp [maxLen], fun h => absurd h (by simp)⟩
theorem Sl.empty (A : Option Addr) (c : Nat) (hc : c ≤ maxLen) : Sl size R w F (.slice A 0 c) ([] : List α) := ⟨A, c, rfl, by simp, hc, fun h => absurd h (by simp)⟩
theorem Sl.len {A : Option Addr} {n c : Nat} (h : Sl size R w F (.slice A n c) l) : n = l.length ∧ n ≤ c ∧ c ≤ maxLen := by
  obtain ⟨A', c', h1, h2, h3⟩ := h.form
  injection h1 with e1 e2 e3
  subst e2 e3
  exact ⟨rfl, h2, h3⟩
end

theorem Rel.up {α : Type} {R : Rel α} {w W : World} {x : α} {cs : List Value} (hR : R.Stays) (h : R w (· < w.heap.size) x cs) (hb : Below w.heap.size w W) : R W (· < W.heap.size) x cs :=
  hR w W _ _ x cs (fun b hlt _ => hb.block b hlt) (fun b _ hlt => by have := hb.size; omega) h
theorem Sl.up {α : Type} {size : Nat} {R : Rel α} {w W : World} {v : Value} {l : List α} (hs : 0 < size) (hR : R.Stays) (h : Sl size R w (· < w.heap.size) v l) (hb : Below w.heap.size w W) : Sl size R W (· < W.heap.size) v l :=
  Rel.up (rSlice_stays hs hR) h hb
section
variable {a w : World} {row : Option Nat}
end

def Blk (w : World) (g : Nat) (t : TypeId) (cs : List Value) : Prop := w.heap[g]? = some (.cells cs.toArray t (0, 0))
section
variable {w w' : World} {g : Nat} {t : TypeId} {cs : List Value}
theorem Blk.lt (h : Blk w g t cs) : g < w.heap.size := by
  rcases Nat.lt_or_ge g w.heap.size with hlt | hge
  · exact hlt
  · unfold Blk at h; rw [Array.getElem?_eq_none hge] at h; cases h
theorem Blk.cell (h : Blk w g t cs) {i : Nat} {u : Value} (hi : cs[i]? = some u) : w.cell? ⟨g, i, none⟩ = some u := by
  unfold Blk at h
  simp [World.cell?, h, hi]
theorem Blk.free (h : Blk w g t cs) (i : Nat) : w.frozen? ⟨g, i, none⟩ = false := by
  unfold Blk at h
  simp [World.frozen?, h]
theorem Blk.new (w : World) (t : TypeId) (cs : List Value) {g : Nat} (hg : w.heap.size = g) : Blk (w.alloc (.cells cs.toArray t)) g t cs := by
  subst hg
  exact heap_alloc_new w _
theorem Blk.alloc (h : Blk w g t cs) (o : Obj) : Blk (w.alloc o) g t cs := (Below.heap_alloc w o g h.lt).trans h
theorem Blk.below {B : Nat} (h : Blk w g t cs) (hb : Below B w w') (hg : g < B) : Blk w' g t cs := (hb.block g hg).trans h
theorem Blk.keep (h : Blk w g t cs) (hb : Below w.heap.size w w') : Blk w' g t cs := h.below hb h.lt
theorem Blk.only {g' : Nat} (h : Blk w g t cs) (hb : w.grownBy w' (some g')) (hg : g ≠ g') : Blk w' g t cs := (hb.block g h.lt (fun e => hg (by injection e))).trans h
end

section
variable {H : Type} {enc : TypeId × Value → H} {P : Program} {w : World} {base : Nat} {spare : Nat → Bool} {held : Bool}
/-- every reading of type t is one of R -/
def Opens (H : Type) (enc : TypeId × Value → H) (P : Program) (w : World) (base : Nat) (spare : Nat → Bool) (held : Bool) {α : Type} (t : TypeId) (R : Rel α) : Prop :=
  ∀ (fuel : Nat) (cs : List Value) (x : DataW H × List MemPlace), DataW.trod enc P w base spare held fuel t cs = some x → ∃ d, R w (· < w.heap.size) d cs
theorem opens_int {t : TypeId} {k : IntKind} (ht : P.underlying t = some (.int k)) : Opens H enc P w base spare held t (rInt k) := fun _ _ _ h => by
  obtain ⟨n, h1, _, h3⟩ := DataW.trod_int ht h
  exact ⟨n, h1, h3⟩
theorem opens_slice {α : Type} {t e : TypeId} {size : Nat} {R : Rel α} (ht : P.underlying t = some (.slice e)) (hc : P.cellsOf e = size) (hs : 0 < size) (he : Opens H enc P w base spare held e R) :
    Opens H enc P w base spare held t (rSlice size R) := fun fuel cs x h => by
  rcases Deep.open_slice ht h with ⟨rfl, _⟩ | ⟨a, len, cap, m, n, D, Pl, rfl, hb, hl, hm, hmm, hx, hi⟩
  · exact ⟨[], Sl.nil⟩
  rw [hc] at hi
  have hlm : len ≤ m := by rw [hmm]; split <;> omega
  have hall : ∀ i, i < len → ∃ d cs', R w (· < w.heap.size) d cs' ∧ cs'.length = size ∧ ∀ j u, cs'[j]? = some u → w.cell? (a.add (i * size + j)) = some u := by
    intro i hil
    obtain ⟨cs', h1, h2⟩ := hi i (by omega)
    obtain ⟨d, hd⟩ := he _ _ _ h2
    obtain ⟨_, hcl, hat⟩ := World.cells?_some h1
    refine ⟨d, cs', hd, hcl, fun j u hu => ?_⟩
    have hj : j < size := by rw [← hcl]; exact (List.getElem?_eq_some_iff.1 hu).1
    rw [← Deep.add_add, hat j hj, hu]
  have : ∃ l : List α, l.length = len ∧ ∀ i x, l[i]? = some x → ∃ cs', R w (· < w.heap.size) x cs' ∧ cs'.length = size ∧ ∀ j u, cs'[j]? = some u → w.cell? (a.add (i * size + j)) = some u := by
    clear hx hmm hlm hi hl h
    induction len with
    | zero => exact ⟨[], rfl, fun i x h => by simp at h⟩
    | succ k ih =>
      obtain ⟨l, hl, hl2⟩ := ih (fun i hi => hall i (by omega))
      obtain ⟨d, cs', h1, h2⟩ := hall k (by omega)
      refine ⟨l ++ [d], by simp [hl], fun i x hx => ?_⟩
      rcases Nat.lt_or_ge i l.length with h | h
      · rw [List.getElem?_append_left h] at hx
        exact hl2 i x hx
      · rw [List.getElem?_append_right h] at hx
        have hi0 : i - l.length = 0 := by
          rcases Nat.eq_zero_or_pos (i - l.length) with h0 | h0
          · exact h0
          · rw [List.getElem?_eq_none (by simp only [List.length_singleton]; omega)] at hx
            cases hx
        rw [hi0] at hx
        simp at hx
        subst hx
        obtain rfl : i = k := by omega
        exact ⟨cs', h1, h2⟩
  obtain ⟨l, hll, hel⟩ := this
  subst hll
  refine ⟨l, some a, cap, rfl, hl, hm, fun hn => ?_⟩
  have hsp : a = ⟨a.block, a.off, none⟩ := by
    obtain ⟨cs', _, h2, h3⟩ := hel 0 l[0] (List.getElem?_eq_getElem hn)
    have hc0 := h3 0 cs'[0] (List.getElem?_eq_getElem (by omega))
    rw [show 0 * size + 0 = 0 from by omega, Addr.add_zero'] at hc0
    unfold World.cell? at hc0
    cases hsp : a.spot with
    | none => cases a; simp_all
    | some s => split at hc0 <;> simp [hsp] at hc0
  have hblk : a.block < w.heap.size := by
    obtain ⟨cs', _, h2, h3⟩ := hel 0 l[0] (List.getElem?_eq_getElem hn)
    have hc0 := h3 0 cs'[0] (List.getElem?_eq_getElem (by omega))
    rw [show 0 * size + 0 = 0 from by omega, Addr.add_zero', hsp] at hc0
    exact lt_of_cell hc0
  refine ⟨a.block, a.off, by rw [← hsp], hblk, fun i x hx => ?_⟩
  obtain ⟨cs', h1, h2, h3⟩ := hel i x hx
  refine ⟨cs', h2, h1, fun j u hu => ?_⟩
  have := h3 j u hu
  rw [hsp, Addr.add_lit] at this
  rw [Nat.add_assoc]
  exact this
/-- A struct, field by field: what its fields' cells read as. -/
theorem opens_fields {t : TypeId} {fs : Array Field} {fuel : Nat} {cs : List Value} {x : DataW H × List MemPlace} (ht : P.underlying t = some (.struct fs))
    (h : DataW.trod enc P w base spare held fuel t cs = some x) : cs.length = P.cellsOf t ∧ ∀ (i : Nat) (ty off n : Nat) (cs' : List Value), (fs[i]?).map (fun f => (f.type, f.offset)) = some (ty, off) → P.cellsOf ty = n → (cs.drop off).take n = cs' →
      ∃ m y, DataW.trod enc P w base spare held m ty cs' = some y := by
  obtain ⟨xs, n, _, _, hl, hxl, hf⟩ := DataW.trod_struct ht h
  refine ⟨hl, fun i ty off k cs' hi hk hcs => ?_⟩
  cases hfi : fs[i]? with
  | none => rw [hfi] at hi; cases hi
  | some f =>
    rw [hfi] at hi
    simp only [Option.map_some, Option.some.injEq, Prod.mk.injEq] at hi
    obtain ⟨rfl, rfl⟩ := hi
    refine ⟨n, xs[i]'(by have := (Array.getElem?_eq_some_iff.1 hfi).1; omega), ?_⟩
    have := hf i f hfi
    rw [hk, hcs] at this
    rw [this]
    exact List.getElem?_eq_getElem _
end

section
variable {H : Type} {enc : TypeId × Value → H} {P : Program}
theorem trodAll_below (hl : laidOutB P = true) {W W' : World} (hb : Below W.heap.size W W') {sp : Nat → Bool} : ∀ (ts : List TypeId) (vs : List Value) (ds : List (DataW H)) (ps : List MemPlace),
    (∀ t ∈ ts, P.readableRec t = true ∧ t < P.types.size) → DataW.TrodAll enc P W 0 (fun _ => true) true ts vs ds ps → (∀ x ∈ ps, x.block < W.heap.size) → (∀ x ∈ ps, sp x.block = true) → DataW.TrodAll enc P W' 0 sp true ts vs ds ps
  | [], vs, ds, ps, _, h, _, _ => by
    obtain ⟨rfl, rfl, rfl⟩ := trodAll_nil h
    exact trodAll_mk0
  | t :: ts, vs, ds, ps, hr, h, hlt, hsp => by
    obtain ⟨v, vs', d, ds', p, q, rfl, rfl, rfl, h0, h1⟩ := trodAll_cons h
    refine trodAll_cons_mk ?_ (trodAll_below hl hb ts vs' ds' q (fun t ht => hr t (List.mem_cons_of_mem _ ht)) h1 (fun x hx => hlt x (List.mem_append_right _ hx)) (fun x hx => hsp x (List.mem_append_right _ hx)))
    exact WideElems.Trod_stays hl (hr t List.mem_cons_self).1 (hr t List.mem_cons_self).2 h0 (fun x hx => hb.same (hlt x (List.mem_append_left _ hx))) (fun x hx => hsp x (List.mem_append_left _ hx))

theorem law_post {f : Func} {s : ChangeSpec} {apart fresh handsOn again : Bool} {W W' : World} {args : Array Value} {ds gs : List (DataW H)} {before : List MemPlace} {tb : TypeId}
    (hl : laidOutB P = true) (hr : ∀ t ∈ f.params.toList, P.readableRec t = true ∧ t < P.types.size) (hvars : s.vars = []) (hrt : f.resultTypes = #[tb]) (htb : P.underlying tb = some .bool)
    (hW : DataW.Whole enc P f.params.toList s.vars apart W args.toList ds gs before)
    (hsr : (s.fn H (ds ++ gs)).results = [.lit (.bool true)]) (hsa : (s.fn H (ds ++ gs)).args = ds) (hsv : (s.fn H (ds ++ gs)).vars = []) (hb : Below W.heap.size W W') :
    s.post enc P f apart fresh handsOn again W args (.bool true) W' := by
  have hlt : ∀ p ∈ before, p.block < W.heap.size := fun p hp => hW.lt p hp
  have hold : ∀ p ∈ before, (fun b => decide (b < W.heap.size)) p.block = true := fun p hp => by simpa using hlt p hp
  obtain ⟨pa, pv, hA, hV, rfl, hz, hn⟩ := hW
  have hW : DataW.Whole enc P f.params.toList s.vars apart W args.toList ds gs (pa ++ pv) := ⟨pa, pv, hA, hV, rfl, hz, hn⟩
  rw [hvars] at hV
  obtain ⟨rfl, rfl⟩ := trodVars_none hV
  have hargs : ∀ sp : Nat → Bool, (∀ p ∈ pa, sp p.block = true) → DataW.TrodAll enc P W' 0 sp true f.params.toList args.toList (s.fn H (ds ++ [])).args pa := fun sp hsp => by
    rw [hsa]
    exact trodAll_below hl hb _ _ _ _ hr hA (fun x hx => hlt x (by simpa using hx)) hsp
  have hres : ∀ (b : Nat) (sp : Nat → Bool) (hd : Bool), DataW.TrodAll enc P W' b sp hd f.resultTypes.toList ((Value.bool true).resultList f.resultTypes.size) (s.fn H (ds ++ [])).results [] := fun b sp hd => by
    rw [hsr, hrt]
    exact trodAll_cons_mk (shut_bool htb _) trodAll_mk0
  have hvs : ∀ sp : Nat → Bool, DataW.TrodVars enc P W' sp s.vars (s.fn H (ds ++ [])).vars [] := fun sp => by
    rw [hvars, hsv]; rfl
  refine ⟨ds, [], pa ++ [], [], pa, [], hW, hres _ _ _, hargs _ (fun p hp => hold p (by simpa using hp)), hvs _, World.keptBut_mono (fun p hp => ⟨hp, ?_⟩) (hb.frame (· ∈ pa ++ [])), fun _ => ?_⟩
  · rw [List.mem_append] at hp
    exact Or.inr hp
  · refine ⟨?_, _, _, ([] ++ pa) ++ [], ⟨[] ++ pa, [], trodAll_append (hargs _ (fun _ _ => rfl)) (hres _ _ _), hvs _, rfl, ?_, ?_⟩, ?_⟩
    · intro j t r hj hr'
      rw [hrt] at hj hr'
      match j with
      | 0 =>
        simp at hj
        subst hj
        have : r = .bool true := by simpa [Value.resultList] using hr'.symm
        subst this
        exact okWide_bool_mk htb _
      | j + 1 => simp at hj
    · intro b off hp
      have hin : MemPlace.cell b off ∈ pa ++ [] := by simpa using hp
      rw [hb.frozen (hlt _ hin)]
      exact hz b off hin
    · intro ha
      have := hn ha
      simpa using this
    · intro p hp _
      simpa using hp
end
end Go.Proofs.Ytadjimfkfmojkaa

end
section
namespace Go.Proofs.Ytadjimfkfmojkaa
open Go.ChangeShapes Go.WideShapes Go.ChangeAt Go.RowKit

/-- What is known of a slice type t with elements e: their zero, their cells, their bytes. -/
structure Elem (P : Program) (t e : TypeId) (z : Value) (size bytes : Nat) : Prop where
  ht : P.underlying t = some (.slice e)
  hi : ∃ i, P.info? e = some i ∧ i.zero = some z ∧ i.size = size ∧ i.bytes = bytes
  hz : z.cells.size = size
  hs : 0 < size
theorem elem_mk {P : Program} {t e : TypeId} {z : Value} {size bytes : Nat} (ht : P.underlying t = some (.slice e)) (hi : (P.info? e).map (fun i => (i.zero, i.size, i.bytes)) = some (some z, size, bytes))
    (hz : z.cells.size = size) (hs : 0 < size) : Elem P t e z size bytes :=
  ⟨ht, by obtain ⟨i, h1, h2, h3, h4⟩ := info_parts hi; exact ⟨i, h1, h2, h3, h4⟩, hz, hs⟩

/-- The cells of a slice that may be nil, as one row. -/
def Flat (w : World) (size : Nat) (A : Option Addr) (n : Nat) (xs : List Value) : Prop :=
  xs.length = n * size ∧ (0 < n → ∃ b o, A = some ⟨b, o, none⟩ ∧ ∀ j u, xs[j]? = some u → w.cell? ⟨b, o + j, none⟩ = some u)

theorem run_append_nil_src {P : Program} (w : World) (base : Nat) (t ty e : TypeId) (i : TypeInfo) (size : Nat) (ht : P.underlying t = some (.slice e)) (hi : P.info? e = some i)
    (v : Value) (n : Nat) (xs : List Value) (hown : w.ownsRow base e size v n xs) (c : Nat) : (Builtin.append_ #[t, t] ty #[v, .slice none 0 c]).run P w = .ok v w := by
  rcases hown.2 with ⟨rfl, rfl⟩ | ⟨g, cap, cur, rfl, _, _, hnc, _⟩
  · simp [Builtin.append_, run_underlying ht, sizeOf, typeInfo, hi, Builtin.lenOf, Builtin.firstCells]
  · simp [Builtin.append_, run_underlying ht, sizeOf, typeInfo, hi, Builtin.lenOf, Builtin.firstCells, hnc, storeCells]

section
variable {P : Program} {w : World} {t e : TypeId} {z : Value} {size bytes : Nat}
theorem run_app (E : Elem P t e z size bytes) (ty : TypeId) (base : Nat) (v : Value) (n : Nat) (xs : List Value) (hown : w.ownsRow base e size v n xs)
    (A : Option Addr) (m c : Nat) (news : List Value) (hf : Flat w size A m news) (h1 : ∀ u ∈ news, u.oneCell' = true)
    (h63 : n + m ≤ maxLen) (hbytes : (n + m) * bytes ≤ 140737488355328) (hbase : base ≤ w.heap.size) :
    ∃ v' w', (Builtin.append_ #[t, t] ty #[v, .slice A m c]).run P w = .ok v' w' ∧ w'.ownsRow base e size v' (n + m) (xs ++ news) ∧ w.grownBy w' v.ownBlock := by
  obtain ⟨i, hi, hz0, hsz, hby⟩ := E.hi
  rcases A with _ | ad
  · have hm : m = 0 := by
      rcases Nat.eq_zero_or_pos m with h0 | h0
      · exact h0
      · obtain ⟨b, o, h, _⟩ := hf.2 h0
        cases h
    subst hm
    have hn : news = [] := List.eq_nil_of_length_eq_zero (by simpa using hf.1)
    subst hn
    exact ⟨v, w, run_append_nil_src w base t ty e i size E.ht hi v n xs hown c, by simpa using hown, World.grownBy.refl w _⟩
  · have hcells : ∀ j u, news[j]? = some u → w.cell? (ad.add j) = some u := by
      intro j u hu
      rcases Nat.eq_zero_or_pos m with h0 | h0
      · subst h0
        have hn : news = [] := List.eq_nil_of_length_eq_zero (by simpa using hf.1)
        subst hn
        simp at hu
      · obtain ⟨b, o, h, hc⟩ := hf.2 h0
        injection h with h
        subst h
        rw [Addr.add_lit]
        exact hc j u hu
    obtain ⟨v', w', hrun, h2, h3, _⟩ := run_append_own (P := P) w base t ty e i z size bytes E.ht hi hz0 hsz hby E.hz E.hs v n xs hown ad m c news hf.1 hcells h1 h63 hbytes hbase
    exact ⟨v', w', hrun, h2, h3⟩

theorem wp_app {o : Oper} {a : Act} {K : Act → World → Prop} {Q : Exit → Act → World → Prop} (s x : Operand)
    (ho : o.op = .call { callee := .builtin .append, args := #[s, x], argTypes := #[t, t] }) (E : Elem P t e z size bytes) (base : Nat)
    (v : Value) (n : Nat) (xs : List Value) (hs : a.eval s = v) (hown : w.ownsRow base e size v n xs)
    (A : Option Addr) (m c : Nat) (news : List Value) (hx : a.eval x = .slice A m c) (hf : Flat w size A m news) (h1 : ∀ u ∈ news, u.oneCell' = true)
    (h63 : n + m ≤ maxLen) (hbytes : (n + m) * bytes ≤ 140737488355328) (hbase : base ≤ w.heap.size)
    (h : ∀ v' w', w'.ownsRow base e size v' (n + m) (xs ++ news) → w.grownBy w' v.ownBlock → K (a.put o.dst v') w') : o.wp P a w K Q := by
  obtain ⟨v', w', hrun, h2, h3⟩ := run_app E o.type base v n xs hown A m c news hf h1 h63 hbytes hbase
  unfold Oper.wp execOp
  simp only [ho, resolve, invoke, builtin, Sem.run_bind, Sem.run_pure, Result.andThen_ok, List.map_toArray, List.map_cons, List.map_nil, hs, hx, hrun]
  exact h v' w' h2 h3

theorem wpList_app {ops : Array Oper} {rest : List Oper} {o : Oper} {a : Act} {Q : Exit → Act → World → Prop} (hgd : o.guard = none) (s x : Operand)
    (ho : o.op = .call { callee := .builtin .append, args := #[s, x], argTypes := #[t, t] }) (E : Elem P t e z size bytes) (base : Nat)
    (v : Value) (n : Nat) (xs : List Value) (hs : a.eval s = v) (hown : w.ownsRow base e size v n xs)
    (A : Option Addr) (m c : Nat) (news : List Value) (hx : a.eval x = .slice A m c) (hf : Flat w size A m news) (h1 : ∀ u ∈ news, u.oneCell' = true)
    (h63 : n + m ≤ maxLen) (hbytes : (n + m) * bytes ≤ 140737488355328) (hbase : base ≤ w.heap.size)
    (h : ∀ v' w', w'.ownsRow base e size v' (n + m) (xs ++ news) → w.grownBy w' v.ownBlock → wpList P ops Q rest (a.put o.dst v') w') : wpList P ops Q (o :: rest) a w :=
  wpList_plain hgd fun _ hK => wp_app s x ho E base v n xs hs hown A m c news hx hf h1 h63 hbytes hbase fun v' w' h2 h3 => hK _ _ (h v' w' h2 h3)

end

theorem own_from {w : World} {base : Nat} {e : TypeId} {size n : Nat} {v : Value} {xs : List Value} (h : w.ownsRow base e size v n xs) : ∀ k, v.ownBlock = some k → base ≤ k := fun k hk => (h.lt k hk).1

theorem Flat.kept {w w' : World} {size n : Nat} {A : Option Addr} {xs : List Value} (h : Flat w size A n xs) (hb : Below w.heap.size w w') : Flat w' size A n xs := by
  refine ⟨h.1, fun hn => ?_⟩
  obtain ⟨b, o, hA, hc⟩ := h.2 hn
  exact ⟨b, o, hA, fun j u hu => cell_kept (fun hlt => hb.block b hlt) (hc j u hu)⟩

/-- the cells of one element out of a row -/
def cellsAt (size : Nat) (xs : List Value) (i : Nat) : List Value := (xs.drop (i * size)).take size

/-- A fresh block of one element, read as a list. -/
theorem Sl.one {α : Type} {size : Nat} {R : Rel α} {w : World} {F : Nat → Prop} {b : Nat} {e : TypeId} {cs : List Value} {x : α} (hb : w.heap.size = b) (hl : cs.length = size) (hF : F b)
    (hR : R (w.alloc (.cells cs.toArray e)) F x cs) : Sl size R (w.alloc (.cells cs.toArray e)) F (.slice (some ⟨b, 0, none⟩) 1 1) [x] := by
  subst hb
  refine ⟨_, 1, rfl, by simp, by simp [maxLen], fun _ => ⟨_, 0, rfl, hF, fun i y hy => ?_⟩⟩
  match i with
  | 0 =>
    simp at hy
    subst hy
    refine ⟨cs, hl, hR, fun j u hu => ?_⟩
    rw [cell_of_row _ _ _ cs.toArray e (0, 0) (heap_alloc_new w _)]
    simpa using hu
  | i + 1 => simp at hy

/-- A list that is read gives its cells as one row. -/
theorem Sl.flat {α : Type} {size : Nat} {R : Rel α} {w : World} {F : Nat → Prop} {A : Option Addr} {n c : Nat} {l : List α} (h : Sl size R w F (.slice A n c) l) :
    ∃ xs, Flat w size A n xs ∧ ∀ i x, l[i]? = some x → R w F x (cellsAt size xs i) ∧ (cellsAt size xs i).length = size := by
  obtain ⟨A', c', h1, h2, h3, h4⟩ := h
  injection h1 with h1 _
  injection h1 with e1 e2 e3
  subst e1 e2 e3
  rcases Nat.eq_zero_or_pos l.length with h0 | h0
  · refine ⟨[], ⟨by simp [h0], fun h => by omega⟩, fun i x hx => ?_⟩
    rw [List.eq_nil_of_length_eq_zero h0] at hx
    simp at hx
  obtain ⟨b, o, rfl, hF, hc⟩ := h4 h0
  have key : ∀ m, m ≤ l.length → ∃ xs : List Value, xs.length = m * size ∧ (∀ j u, xs[j]? = some u → w.cell? ⟨b, o + j, none⟩ = some u) ∧
      ∀ i x, i < m → l[i]? = some x → R w F x (cellsAt size xs i) ∧ (cellsAt size xs i).length = size := by
    intro m
    induction m with
    | zero => exact fun _ => ⟨[], by simp, fun j u hu => by simp at hu, fun i x hi => by omega⟩
    | succ m ih =>
      intro hm
      obtain ⟨xs, hl, hcell, hr⟩ := ih (by omega)
      obtain ⟨cs, hcl, hR, hcc⟩ := hc m l[m] (List.getElem?_eq_getElem (by omega))
      refine ⟨xs ++ cs, by rw [List.length_append, hl, hcl, Nat.succ_mul], fun j u hu => ?_, fun i x hi hx => ?_⟩
      · rcases Nat.lt_or_ge j xs.length with hj | hj
        · rw [List.getElem?_append_left hj] at hu
          exact hcell j u hu
        · rw [List.getElem?_append_right hj] at hu
          have := hcc _ u hu
          rw [show o + m * size + (j - xs.length) = o + j from by omega] at this
          exact this
      · have hile : i ≤ m := by omega
        rcases Nat.lt_or_ge i m with him | him
        · have e : cellsAt size (xs ++ cs) i = cellsAt size xs i := by
            have hmul : i * size + size ≤ m * size := by rw [← Nat.succ_mul]; exact Nat.mul_le_mul_right _ him
            unfold cellsAt
            rw [List.drop_append_of_le_length (by omega), List.take_append_of_le_length (by rw [List.length_drop]; omega)]
          rw [e]
          exact hr i x him hx
        · obtain rfl : i = m := by omega
          have e : cellsAt size (xs ++ cs) i = cs := by
            unfold cellsAt
            rw [← hl, List.drop_left, ← hcl, List.take_length]
          rw [List.getElem?_eq_getElem (by omega)] at hx
          injection hx with hx
          subst hx
          rw [e]
          exact ⟨hR, hcl⟩
  obtain ⟨xs, h1, h2, h3⟩ := key l.length (Nat.le_refl _)
  exact ⟨xs, ⟨h1, fun _ => ⟨b, o, rfl, h2⟩⟩, fun i x hx => h3 i x (List.getElem?_eq_some_iff.1 hx).1 hx⟩
end Go.Proofs.Ytadjimfkfmojkaa

end
section
namespace Go.Proofs.Ytadjimfkfmojkaa
open Go.ChangeShapes Go.WideShapes Go.ChangeAt Go.RowKit
abbrev Ints := Sl (α := Int) 1 (rInt .i64)
theorem int_at {A : Option Addr} {n c : Nat} {l : List Int} {w : World} {F : Nat → Prop} (h : Ints w F (.slice A n c) l) {k : Nat} (hk : k < n) :
    ∃ b o x, A = some ⟨b, o, none⟩ ∧ F b ∧ b < w.heap.size ∧ l[k]? = some x ∧ w.cell? ⟨b, o + k, none⟩ = some (.int .i64 x) := by
  have hl := h.len
  obtain ⟨b, o, cs, hA, hb, _, hR, hc⟩ := h.at_ (i := k) (by omega)
  obtain ⟨rfl, _⟩ := hR
  have := hc 0 _ rfl
  rw [Nat.mul_one, Nat.add_zero] at this
  exact ⟨b, o, l[k], hA, hb, lt_of_cell this, List.getElem?_eq_getElem _, this⟩
/-- The numbers fit their kind. -/
def Fit (l : List Int) : Prop := ∀ x ∈ l, (Lit.int .i64 x).wf = true
theorem Ints.fit {A : Option Addr} {n c : Nat} {l : List Int} {w : World} {F : Nat → Prop} (h : Ints w F (.slice A n c) l) : Fit l := by
  intro x hx
  obtain ⟨i, hi, rfl⟩ := List.getElem_of_mem hx
  obtain ⟨b, o, cs, hA, hb, _, hR, hc⟩ := h.at_ hi
  exact hR.2
theorem Ints.flat {A : Option Addr} {n c : Nat} {l : List Int} {w : World} {F : Nat → Prop} (h : Ints w F (.slice A n c) l) : Flat w 1 A n (l.map (Value.int .i64)) := by
  have hl := h.len
  refine ⟨by simp [hl.1], fun hn => ?_⟩
  obtain ⟨b, o, x, hA, _⟩ := int_at h hn
  refine ⟨b, o, hA, fun j u hu => ?_⟩
  have hj : j < n := by have := (List.getElem?_eq_some_iff.1 hu).1; simp at this; omega
  obtain ⟨b', o', y, hA', _, _, hy, hc⟩ := int_at h hj
  rw [hA] at hA'
  obtain ⟨rfl, rfl⟩ : b = b' ∧ o = o' := by simpa using hA'
  rw [List.getElem?_map, hy] at hu
  injection hu with hu
  rw [← hu]
  exact hc
end Go.Proofs.Ytadjimfkfmojkaa

end
section
namespace Go.Proofs.Ytadjimfkfmojkaa
open Go.ChangeShapes Go.WideShapes Go.ChangeAt Go.RowKit
set_option linter.unusedVariables false
/-- What the layer reads of a world: how many cells, futures and threads there are, which locks are rwlocks, the conditions' mutexes. -/
structure WD where
  nc : Nat
  rw : List Bool
  mx : List Int
  nf : Nat
  nt : Nat
structure LockD where
  owner : Int
  readers : List Int
structure ThrD where
  status : Int
  cond : Int
  atomic : Bool
structure SyncD where
  locks : List LockD
  tx : Int
  done : List Bool
  threads : List ThrD
def rLk : Rel Bool := fun _ _ b cs => ∃ s, cs = [.string s, .bool b]
def rCd : Rel Int := fun _ _ m cs => ∃ s, cs = [.string s, .int .i64 m] ∧ (Lit.int .i64 m).wf = true
def rLock : Rel LockD := fun w F l cs => ∃ A n c, cs = [.int .i64 l.owner, .slice A n c] ∧ (Lit.int .i64 l.owner).wf = true ∧ Ints w F (.slice A n c) l.readers
def rThr : Rel ThrD := fun _ _ t cs => cs = [.int .i64 t.status, .int .i64 t.cond, .bool t.atomic] ∧ (Lit.int .i64 t.status).wf = true ∧ (Lit.int .i64 t.cond).wf = true
theorem rLk_stays : rLk.Stays := fun _ _ _ _ _ _ _ _ h => h
theorem rCd_stays : rCd.Stays := fun _ _ _ _ _ _ _ _ h => h
theorem rThr_stays : rThr.Stays := fun _ _ _ _ _ _ _ _ h => h
theorem rLock_stays : rLock.Stays := fun w w' F F' l cs hk hF ⟨A, n, c, h1, h2, h3⟩ => ⟨A, n, c, h1, h2, h3.stays (by decide) (rInt_stays _) hk hF⟩
/-- The slices of a world's value. -/
structure WV where
  cA : Option Addr
  nc : Nat
  cc : Nat
  lA : Option Addr
  nl : Nat
  lc : Nat
  dA : Option Addr
  nd : Nat
  dc : Nat
  fA : Option Addr
  nf : Nat
  fc : Nat
  tA : Option Addr
  nt : Nat
  tc : Nat
  sA : Option Addr
  ns : Nat
  sc : Nat
structure WOk (w : World) (F : Nat → Prop) (v : WV) (d : WD) : Prop where
  nc : v.nc = d.nc ∧ v.nc ≤ maxLen
  nf : v.nf = d.nf ∧ v.nf ≤ maxLen
  nt : v.nt = d.nt ∧ v.nt ≤ maxLen
  locks : Sl 2 rLk w F (.slice v.lA v.nl v.lc) d.rw
  conds : Sl 2 rCd w F (.slice v.dA v.nd v.dc) d.mx
structure SV where
  kA : Option Addr
  nk : Nat
  kc : Nat
  tx : Int
  eA : Option Addr
  ne : Nat
  ec : Nat
  hA : Option Addr
  nh : Nat
  hc : Nat
structure SOk (w : World) (F : Nat → Prop) (v : SV) (d : SyncD) : Prop where
  locks : Sl 2 rLock w F (.slice v.kA v.nk v.kc) d.locks
  done : Sl 1 rBool w F (.slice v.eA v.ne v.ec) d.done
  threads : Sl 3 rThr w F (.slice v.hA v.nh v.hc) d.threads
  tx : v.tx = d.tx
  wf : (Lit.int .i64 d.tx).wf = true
abbrev WV.val (v : WV) : Value := .agg #[.slice v.cA v.nc v.cc, .slice v.lA v.nl v.lc, .slice v.dA v.nd v.dc, .slice v.fA v.nf v.fc, .slice v.tA v.nt v.tc, .slice v.sA v.ns v.sc]
abbrev SV.val (v : SV) : Value := .agg #[.slice v.kA v.nk v.kc, .int .i64 v.tx, .slice v.eA v.ne v.ec, .slice v.hA v.nh v.hc]
theorem WOk.stays {w w' : World} {F F' : Nat → Prop} {v : WV} {d : WD} (h : WOk w F v d) (hk : ∀ b, F b → b < w.heap.size → w'.heap[b]? = w.heap[b]?) (hF : ∀ b, F b → b < w.heap.size → F' b) : WOk w' F' v d :=
  ⟨h.nc, h.nf, h.nt, h.locks.stays (by decide) rLk_stays hk hF, h.conds.stays (by decide) rCd_stays hk hF⟩
theorem SOk.stays {w w' : World} {F F' : Nat → Prop} {v : SV} {d : SyncD} (h : SOk w F v d) (hk : ∀ b, F b → b < w.heap.size → w'.heap[b]? = w.heap[b]?) (hF : ∀ b, F b → b < w.heap.size → F' b) : SOk w' F' v d :=
  ⟨h.locks.stays (by decide) rLock_stays hk hF, h.done.stays (by decide) rBool_stays hk hF, h.threads.stays (by decide) rThr_stays hk hF, h.tx, h.wf⟩
theorem WOk.up {w w' : World} {v : WV} {d : WD} (h : WOk w (· < w.heap.size) v d) (hb : Below w.heap.size w w') : WOk w' (· < w'.heap.size) v d :=
  h.stays (fun b hlt _ => hb.block b hlt) (fun b _ hlt => by have := hb.size; omega)
theorem SOk.up {w w' : World} {v : SV} {d : SyncD} (h : SOk w (· < w.heap.size) v d) (hb : Below w.heap.size w w') : SOk w' (· < w'.heap.size) v d :=
  h.stays (fun b hlt _ => hb.block b hlt) (fun b _ hlt => by have := hb.size; omega)

def inB (i : Int) (n : Nat) : Bool := decide (0 ≤ i) && decide (i < n)
end Go.Proofs.Ytadjimfkfmojkaa

end
section
namespace Go.Proofs.Ytadjimfkfmojkaa
open Go.ChangeShapes Go.WideShapes Go.ChangeAt Go.RowKit
set_option linter.unusedVariables false
theorem elemI : Elem Try.prog 22 3 (.int .i64 0) 1 8 := elem_mk Try.underlying22 (by kernel_rfl) rfl (by decide)
set_option maxHeartbeats 1000000 in
set_option maxRecDepth 100000 in
theorem cloneI_any (A : Option Addr) (n c : Nat) (xs : List Value) (w : World) (hf : Flat w 1 A n xs) (h1 : ∀ x ∈ xs, x.oneCell' = true) (hn : n * 8 ≤ 140737488355328) (hA : A = none → n = 0) :
    Calls Try.prog 68 #[.slice A n c] w fun e w' => ∃ v, e = .returned v ∧ w'.ownsRow w.heap.size 3 1 v n xs ∧ Below w.heap.size w w' := by
  have HF := Lib.hid hf
  have H1 := Lib.hid h1
  clear hf h1
  have heq := fun (W : World) (a : Option Addr) (l c : Nat) => Lib.run_eql_slice_nil (P := Try.prog) W 22 3 a l c 0 0 Try.underlying22
  cases A with
  | none =>
    obtain rfl : n = 0 := hA rfl
    have hx : xs = [] := List.eq_nil_of_length_eq_zero (by have := HF.out.1; simpa using this)
    have Hx := Lib.hid hx
    clear hx HF H1
    go_enter Try.func68, Try.ntmps68
    go_wp2_with fail
    go_ret
    exact ⟨_, rfl, by rw [Hx.out]; exact World.ownsRow_nil _ _ _ _, Below.refl _ _⟩
  | some a =>
    clear hA
    have M0 : Hid ((w.alloc (.cells #[] 3)).ownsRow w.heap.size 3 1 (.slice (some ⟨w.heap.size, 0, none⟩) 0 0) 0 []) := Lib.hid (World.ownsRow_made w #[] 0 (Nat.le_refl _) (by simp [maxLen]) (by simp))
    go_enter Try.func68, Try.ntmps68
    go_wp2_with (at_builtin; go_must (refine wpList_app rfl (.tmp 5) (.tmp 6) rfl elemI w.heap.size _ 0 [] rfl M0.out (some a) n c xs rfl (HF.out.kept ((Below.refl _ _).alloc (Nat.le_refl _) _)) H1.out (by simp only [maxLen]; omega) (by omega) (by simp) ?_); intro v1 w1 hown1 hg1)
    have hb1 := ((Below.refl w.heap.size w).alloc (Nat.le_refl _) _).grown hg1 (by simp) (own_from M0.out)
    go_wp2_with fail
    go_ret
    exact ⟨_, rfl, by simpa using hown1, hb1⟩
theorem elemJ : Elem Try.prog 29 2 (.int .i64 0) 1 8 := elem_mk Try.underlying29 (by kernel_rfl) rfl (by decide)
set_option maxHeartbeats 1000000 in
set_option maxRecDepth 100000 in
theorem cloneJ_any (A : Option Addr) (n c : Nat) (xs : List Value) (w : World) (hf : Flat w 1 A n xs) (h1 : ∀ x ∈ xs, x.oneCell' = true) (hn : n * 8 ≤ 140737488355328) (hA : A = none → n = 0) :
    Calls Try.prog 67 #[.slice A n c] w fun e w' => ∃ v, e = .returned v ∧ w'.ownsRow w.heap.size 2 1 v n xs ∧ Below w.heap.size w w' := by
  have HF := Lib.hid hf
  have H1 := Lib.hid h1
  clear hf h1
  have heq := fun (W : World) (a : Option Addr) (l c : Nat) => Lib.run_eql_slice_nil (P := Try.prog) W 29 2 a l c 0 0 Try.underlying29
  cases A with
  | none =>
    obtain rfl : n = 0 := hA rfl
    have hx : xs = [] := List.eq_nil_of_length_eq_zero (by have := HF.out.1; simpa using this)
    have Hx := Lib.hid hx
    clear hx HF H1
    go_enter Try.func67, Try.ntmps67
    go_wp2_with fail
    go_ret
    exact ⟨_, rfl, by rw [Hx.out]; exact World.ownsRow_nil _ _ _ _, Below.refl _ _⟩
  | some a =>
    clear hA
    have M0 : Hid ((w.alloc (.cells #[] 2)).ownsRow w.heap.size 2 1 (.slice (some ⟨w.heap.size, 0, none⟩) 0 0) 0 []) := Lib.hid (World.ownsRow_made w #[] 0 (Nat.le_refl _) (by simp [maxLen]) (by simp))
    go_enter Try.func67, Try.ntmps67
    go_wp2_with (at_builtin; go_must (refine wpList_app rfl (.tmp 5) (.tmp 6) rfl elemJ w.heap.size _ 0 [] rfl M0.out (some a) n c xs rfl (HF.out.kept ((Below.refl _ _).alloc (Nat.le_refl _) _)) H1.out (by simp only [maxLen]; omega) (by omega) (by simp) ?_); intro v1 w1 hown1 hg1)
    have hb1 := ((Below.refl w.heap.size w).alloc (Nat.le_refl _) _).grown hg1 (by simp) (own_from M0.out)
    go_wp2_with fail
    go_ret
    exact ⟨_, rfl, by simpa using hown1, hb1⟩
end Go.Proofs.Ytadjimfkfmojkaa

end
section
namespace Go.Proofs.Ytadjimfkfmojkaa.Am
open Go.RowKit
set_option linter.unusedVariables false
theorem below_ext {w w' : World} {σ : Sig} {T : Nat → Prop} (h : Below w.heap.size w w') (hfr : ∀ c, σ.fr c → c < w.heap.size) : Ext w σ T w' σ T :=
  ⟨h.os, h.tape, h.output, h.size, fun c hc _ => h.block c hc, fun c cs e hc => ⟨cs, by rw [h.block c (Array.getElem?_eq_some_iff.1 hc).1]; exact hc, rfl⟩, fun _ _ h => h, rfl, fun c hc => h.block c (hfr c hc), fun _ h => .inl h⟩
theorem below_rel {w w' : World} {σ : Sig} {H : Heap} (hW : WRel w σ H) (h : Below w.heap.size w w') : WRel w' σ H :=
  ⟨hW.named, fun b pl hb => Nat.lt_of_lt_of_le (hW.lt b pl hb) h.size, fun b x hb => by
    obtain ⟨pl, cs, e, h1, h2⟩ := hW.live b x hb
    exact ⟨pl, cs, e, h1, h2.mono (below_ext h fun c hc => (hW.apart c hc).1) (h.block _ (hW.lt b pl h1))⟩, fun c hc => ⟨Nat.lt_of_lt_of_le (hW.apart c hc).1 h.size, (hW.apart c hc).2⟩, hW.inj⟩
/-- a block that the call has made becomes one of the abstract heap -/
theorem below_new {w w' : World} {σ : Sig} {H : Heap} {b g : Nat} (hW : WRel w σ H) (hbl : Below w.heap.size w w') (hb : σ b = none) (hlt : b < H.next) (hg : w.heap.size ≤ g) {x : Blk} {cs : Array Value} {e : TypeId} (hgb : w'.heap[g]? = some (.cells cs e (0, 0)))
    (even : ∀ (i : Nat) (r : List AV), x.rows[i]? = some r → r.length = x.size) (room : x.rows.length * x.size ≤ cs.size)
    (rep : ∀ (i : Nat) (r : List AV) (j : Nat) (a : AV) (u : Value), x.rows[i]? = some r → r[j]? = some a → cs[i * x.size + j]? = some u → Rep w σ (Own σ H) a u) :
    WRel w' (σ.set b ⟨g, 0, x.size⟩) (H.new b x) ∧ Ext w σ (Own σ H) w' (σ.set b ⟨g, 0, x.size⟩) (Own (σ.set b ⟨g, 0, x.size⟩) (H.new b x)) := by
  have hnone : H.get b = none := by
    cases hg : H.get b with
    | none => rfl
    | some y => obtain ⟨pl, _, _, h1, _⟩ := hW.live b y hg; rw [hb] at h1; cases h1
  have hgl : g < w'.heap.size := (Array.getElem?_eq_some_iff.1 hgb).1
  have ext : Ext w σ (Own σ H) w' (σ.set b ⟨g, 0, x.size⟩) (Own (σ.set b ⟨g, 0, x.size⟩) (H.new b x)) := by
    refine ⟨hbl.os, hbl.tape, hbl.output, hbl.size, fun c hc _ => hbl.block c hc, fun c cs' e' hc => ⟨cs', by rw [hbl.block c (Array.getElem?_eq_some_iff.1 hc).1]; exact hc, rfl⟩, fun c q hq => Sig.set_old hb hq, rfl, fun c hc => hbl.block c (hW.apart c hc).1, ?_⟩
    rintro c (hfr | ⟨b', y, pl, h1, h2, h3⟩)
    · exact .inl (.inl hfr)
    rw [Heap.get_new] at h1
    by_cases hbb : b = b'
    · subst hbb
      rw [Sig.set_eq] at h2
      cases h2
      exact .inr (by simp only [] at h3; omega)
    · rw [if_neg hbb] at h1
      rw [Sig.set_ne _ _ hbb] at h2
      exact .inl (.inr ⟨b', y, pl, h1, h2, h3⟩)
  refine ⟨⟨?_, ?_, ?_, ?_, ?_⟩, ext⟩
  · intro c pl hc
    by_cases hbc : b = c
    · subst hbc; exact hlt
    · rw [Sig.set_ne _ _ hbc] at hc; exact hW.named c pl hc
  · intro c pl hc
    by_cases hbc : b = c
    · subst hbc; rw [Sig.set_eq] at hc; cases hc; exact hgl
    · rw [Sig.set_ne _ _ hbc] at hc; exact Nat.lt_of_lt_of_le (hW.lt c pl hc) hbl.size
  · intro c y hy
    rw [Heap.get_new] at hy
    by_cases hbc : b = c
    · subst hbc
      rw [if_pos rfl] at hy
      cases hy
      exact ⟨_, cs, e, Sig.set_eq _ _ _, ⟨rfl, hgb, even, by simpa using room, fun i r j a u h1 h2 h3 => (rep i r j a u h1 h2 (by simpa using h3)).mono ext⟩⟩
    · rw [if_neg hbc] at hy
      obtain ⟨pl, cs', e', h1, h2⟩ := hW.live c y hy
      exact ⟨pl, cs', e', by rw [Sig.set_ne _ _ hbc]; exact h1, h2.mono ext (hbl.block _ (hW.lt c pl h1))⟩
  · intro c hc
    refine ⟨Nat.lt_of_lt_of_le (hW.apart c hc).1 hbl.size, ?_⟩
    rintro ⟨b', y, pl, h1, h2, h3⟩
    rw [Heap.get_new] at h1
    by_cases hbb : b = b'
    · subst hbb
      rw [Sig.set_eq] at h2
      cases h2
      have := (hW.apart c hc).1
      simp only [] at h3; omega
    · rw [if_neg hbb] at h1
      rw [Sig.set_ne _ _ hbb] at h2
      exact (hW.apart c hc).2 ⟨b', y, pl, h1, h2, h3⟩
  · intro c c' y y' pl pl' h1 h2 h3 h4 h5
    rw [Heap.get_new] at h1 h2
    by_cases hbc : b = c
    · by_cases hbc' : b = c'
      · exact hbc.symm.trans hbc'
      · subst hbc
        rw [Sig.set_eq] at h3; cases h3
        rw [Sig.set_ne _ _ hbc'] at h4
        have := hW.lt c' pl' h4
        simp only [] at h5; omega
    · by_cases hbc' : b = c'
      · subst hbc'
        rw [Sig.set_eq] at h4; cases h4
        rw [Sig.set_ne _ _ hbc] at h3
        have := hW.lt c pl h3
        simp only [] at h5; omega
      · rw [if_neg hbc] at h1
        rw [if_neg hbc'] at h2
        rw [Sig.set_ne _ _ hbc] at h3
        rw [Sig.set_ne _ _ hbc'] at h4
        exact hW.inj c c' y y' pl pl' h1 h2 h3 h4 h5
theorem reps1 {w : World} {σ : Sig} {T : Nat → Prop} {a : AV} {vs : List Value} (h : Reps w σ T [a] vs) : ∃ v, vs = [v] ∧ Rep w σ T a v := by
  match vs, h with
  | [v], h => exact ⟨v, rfl, h.2 0 a v rfl rfl⟩
  | [], h => exact absurd h.1 (by simp)
  | _ :: _ :: _, h => exact absurd h.1 (by simp)
section
variable {P : Program} {f : FuncId} {e : TypeId} {size bytes : Nat}
/-- what slices.Clone does in the model -/
def ClonesM (P : Program) (f : FuncId) (e : TypeId) (size bytes : Nat) : Prop := ∀ (A : Option Addr) (n c : Nat) (xs : List Value) (w : World), Go.Proofs.Ytadjimfkfmojkaa.Flat w size A n xs → (∀ x ∈ xs, x.oneCell' = true) → n * bytes ≤ 140737488355328 → (A = none → n = 0) →
  Calls P f #[.slice A n c] w fun e' w' => ∃ v, e' = .returned v ∧ w'.ownsRow w.heap.size e size v n xs ∧ Below w.heap.size w w'
theorem clone_full (hcl : ClonesM P f e size bytes) (hbody : ∃ fn c, P.funcs[f]? = some fn ∧ fn.body = some c) (rows : List (List AV)) (hne : rows ≠ []) (hone : (rows.all fun r => r.all AV.one) = true) (hev : ∀ r ∈ rows, r.length = size) (hbig : rows.length * bytes ≤ 140737488355328) :
    CallA P f [.lst rows] [] fun v L => ∃ b, v = .sl b 0 rows.length ∧ L = [(b, ⟨size, rows⟩)] := by
  have hsz : ∀ (i : Nat) (r : List AV), rows[i]? = some r → r.length = size := fun i r hr => hev r (List.mem_of_getElem? hr)
  refine ⟨hbody, fun H hb hs => ⟨.sl H.next 0 rows.length, ({ H with next := H.next + 1 } : Heap).new H.next ⟨size, rows⟩, [(H.next, ⟨size, rows⟩)], ?_, ?_, H.next, rfl, rfl⟩⟩
  · intro w σ vs hW hvs
    obtain ⟨v, rfl, hv⟩ := reps1 hvs
    obtain ⟨A, cap, rfl, hn, hm, ha⟩ := hv.lst_inv
    obtain ⟨b, o, sz, rfl, hl, hrep⟩ := ha hne
    have hl0 : 0 < rows.length := List.length_pos_iff.2 hne
    obtain rfl : size = sz := by
      rw [← hl.even 0 rows[0] (List.getElem?_eq_getElem hl0)]
      exact (hsz 0 rows[0] (List.getElem?_eq_getElem hl0)).symm
    have hdm : ∀ p, p < rows.length * size → p / size < rows.length ∧ p % size < size ∧ p = p / size * size + p % size := fun p hp =>
      ⟨(Nat.div_lt_iff_lt_mul hl.pos).2 hp, Nat.mod_lt _ hl.pos, by rw [Nat.mul_comm]; exact (Nat.div_add_mod _ _).symm⟩
    let xs : List Value := (List.range (rows.length * size)).map fun p => (w.cell? ⟨b, o + p, none⟩).getD undef
    have hxl : xs.length = rows.length * size := by simp [xs]
    have hcell : ∀ p u, xs[p]? = some u → w.cell? ⟨b, o + p, none⟩ = some u := fun p u hu => by
      have hp : p < rows.length * size := by rw [← hxl]; exact lt_of_some hu
      simp only [xs, List.getElem?_map, List.getElem?_range hp, Option.map_some, Option.some.injEq] at hu
      obtain ⟨d1, d2, d3⟩ := hdm p hp
      obtain ⟨q, hq⟩ := hl.cell (p / size) (p % size) d1 d2
      rw [Nat.add_assoc, ← d3] at hq
      rw [hq] at hu ⊢
      simp only [Option.getD_some] at hu
      rw [hu]
    have hrp : ∀ (i : Nat) (r : List AV) (j : Nat) (a : AV) (u : Value), rows[i]? = some r → r[j]? = some a → xs[i * size + j]? = some u → Rep w σ (Own σ H) a u := fun i r j a u h1 h2 h3 => hrep i r j a u h1 h2 (by rw [Nat.add_assoc]; exact hcell _ u h3)
    have hone' : ∀ x ∈ xs, x.oneCell' = true := fun x hx => by
      obtain ⟨p, hp, rfl⟩ := List.getElem_of_mem hx
      have hp' : p < rows.length * size := by omega
      obtain ⟨d1, d2, d3⟩ := hdm p hp'
      have hr : rows[p / size]? = some rows[p / size] := List.getElem?_eq_getElem d1
      have hj : p % size < rows[p / size].length := by rw [hsz _ _ hr]; exact d2
      have h1 := hrp (p / size) _ (p % size) _ xs[p] hr (List.getElem?_eq_getElem hj) (by rw [← d3]; exact List.getElem?_eq_getElem hp)
      exact h1.one (List.all_eq_true.1 (List.all_eq_true.1 hone _ (List.getElem_mem d1)) _ (List.getElem_mem hj))
    refine (hcl (some ⟨b, o, none⟩) rows.length cap xs w ⟨hxl, fun _ => ⟨b, o, rfl, hcell⟩⟩ hone' hbig (fun h => by cases h)).mono ?_
    rintro e' w' ⟨v', rfl, hown, hbl⟩
    rcases hown.2 with ⟨_, h0⟩ | ⟨g, cap', cur, rfl, hg, hgb, hnc, hcm, hcs, ht⟩
    · omega
    have hσ : σ H.next = none := by
      cases hq : σ H.next with
      | none => rfl
      | some pl => exact absurd (hW.named _ pl hq) (Nat.lt_irrefl _)
    have hW1 : WRel w σ { H with next := H.next + 1 } := hW.congr (fun _ => rfl) (Nat.le_succ _)
    have hOwn : Own σ ({ H with next := H.next + 1 } : Heap) = Own σ H := Own.congr fun _ => rfl
    have hle : rows.length * size ≤ cur.size := by rw [hcs]; exact Nat.mul_le_mul_right _ hnc
    obtain ⟨g1, g2⟩ := below_new (b := H.next) (g := g) (x := ⟨size, rows⟩) hW1 hbl hσ (Nat.lt_succ_self _) hg hgb hsz hle (fun i r j a u h1 h2 h3 => by
      rw [hOwn]
      refine hrp i r j a u h1 h2 ?_
      have hj : j < size := by rw [← hsz i r h1]; exact lt_of_some h2
      rw [← ht, List.getElem?_take_of_lt (lt_mul (lt_of_some h1) hj), Array.getElem?_toList]
      exact h3)
    refine ⟨_, _, rfl, ?_, g1, by rw [hOwn] at g2; exact g2, fun c pl hc => ?_⟩
    · refine Rep.sl H.next 0 rows.length ⟨g, 0, size⟩ ⟨g, 0, none⟩ cap' (Sig.set_eq _ _ _) hnc hcm fun _ => ⟨by simp, cur, e, hgb, by simp; omega⟩
    · by_cases hbc : H.next = c
      · subst hbc; exact .inr (Nat.le_refl _)
      · rw [Sig.set_ne _ _ hbc] at hc; exact .inl hc
  · refine ⟨Nat.le_succ _, fun c hc => ?_, ⟨by simp, fun p hp => ?_⟩, fun c x hc _ => ⟨?_, ?_⟩, fun c hc h0 => ?_, fun c hc hlt => ?_⟩
    · have hc : H.next + 1 ≤ c := hc
      rw [Heap.get_new, if_neg (by omega)]; exact hb c (by omega)
    · simp only [List.mem_singleton] at hp; subst hp; rw [Heap.get_new, if_pos rfl]
    · rw [Heap.get_new, if_neg]; exact hc
      rintro rfl; rw [hb _ (Nat.le_refl _)] at hc; cases hc
    · simp only [List.map_cons, List.map_nil, List.mem_singleton]; rintro rfl; rw [hb _ (Nat.le_refl _)] at hc; cases hc
    · rw [Heap.get_new, if_neg (by omega)]; exact h0
    · simp only [List.map_cons, List.map_nil, List.mem_singleton] at hc; omega
/-- of an empty list, as it reads -/
theorem clone_none (hcl : ClonesM P f e size bytes) (hbody : ∃ fn c, P.funcs[f]? = some fn ∧ fn.body = some c) : CallA P f [.lst []] [] fun v L => v = .lst [] ∧ L = [] := by
  refine ⟨hbody, fun H hb hs => ⟨.lst [], H, [], ?_, .refl hb hs, rfl, rfl⟩⟩
  intro w σ vs hW hvs
  obtain ⟨v, rfl, hv⟩ := reps1 hvs
  obtain ⟨A, cap, rfl, hn, hm, _⟩ := hv.lst_inv
  refine (hcl A 0 cap [] w ⟨by simp, by omega⟩ (by simp) (by omega) (fun _ => rfl)).mono ?_
  rintro e' w' ⟨v', rfl, hown, hbl⟩
  refine ⟨v', σ, rfl, ?_, below_rel hW hbl, below_ext hbl fun c hc => (hW.apart c hc).1, fun c pl hc => .inl hc⟩
  rcases hown.2 with ⟨rfl, _⟩ | ⟨g, cap', cur, rfl, hg, hgb, hnc, hcm, hcs, ht⟩
  · exact .lst0 _ _ (by unfold maxLen; omega)
  · exact .lst0 _ _ hcm
/-- of an empty list, with no room -/
theorem clone_zero (hcl : ∀ (A : Option Addr) (c : Nat) (w : World), Calls P f #[.slice A 0 c] w fun e' w' => ∃ B, e' = .returned (.slice B 0 0) ∧ Below w.heap.size w w') (hbody : ∃ fn c, P.funcs[f]? = some fn ∧ fn.body = some c) : CallA P f [.lst []] [] fun v L => v = .emp ∧ L = [] := by
  refine ⟨hbody, fun H hb hs => ⟨.emp, H, [], ?_, .refl hb hs, rfl, rfl⟩⟩
  intro w σ vs hW hvs
  obtain ⟨v, rfl, hv⟩ := reps1 hvs
  obtain ⟨A, cap, rfl, hn, hm, _⟩ := hv.lst_inv
  refine (hcl A cap w).mono ?_
  rintro e' w' ⟨B, rfl, hbl⟩
  exact ⟨_, σ, rfl, .emp B, below_rel hW hbl, below_ext hbl fun c hc => (hW.apart c hc).1, fun c pl hc => .inl hc⟩
end
end Go.Proofs.Ytadjimfkfmojkaa.Am

end
section
namespace Go.Proofs
open Go.Shelf
def Try.lays189_ren : Go.Shelf.Ren := ⟨fun | 189 => 40 | 125 => 66 | 257 => 65 | 128 => 90 | 129 => 91 | 294 => 81 | 295 => 82 | 296 => 83 | 297 => 84 | 298 => 85 | 299 => 86 | 216 => 87 | 300 => 88 | 301 => 89 | 328 => 94 | 329 => 95 | 330 => 96 | 331 => 97 | 332 => 98 | 215 => 99 | 343 => 100 | n => n, fun | 28 => 22 | 3 => 3 | 46 => 113 | 0 => 0 | 51 => 134 | 53 => 136 | 4 => 4 | 183 => 127 | 182 => 126 | 131 => 131 | 5 => 5 | 9 => 9 | 218 => 138 | 222 => 142 | 228 => 144 | 229 => 145 | n => n, fun | n => n⟩
theorem Try.lays189 : Go.Proofs.Lays.n189 Try.prog Try.lays189_ren := {
  mixed := by kernel_rfl
  f125 := Try.func66.trans (congrArg some (by kernel_rfl))
  f128 := Try.func90.trans (congrArg some (by kernel_rfl))
  f129 := Try.func91.trans (congrArg some (by kernel_rfl))
  f189 := Try.func40.trans (congrArg some (by kernel_rfl))
  f215 := Try.func99.trans (congrArg some (by kernel_rfl))
  f216 := Try.func87.trans (congrArg some (by kernel_rfl))
  f257 := Try.func65.trans (congrArg some (by kernel_rfl))
  f294 := Try.func81.trans (congrArg some (by kernel_rfl))
  f295 := Try.func82.trans (congrArg some (by kernel_rfl))
  f296 := Try.func83.trans (congrArg some (by kernel_rfl))
  f297 := Try.func84.trans (congrArg some (by kernel_rfl))
  f298 := Try.func85.trans (congrArg some (by kernel_rfl))
  f299 := Try.func86.trans (congrArg some (by kernel_rfl))
  f300 := Try.func88.trans (congrArg some (by kernel_rfl))
  f301 := Try.func89.trans (congrArg some (by kernel_rfl))
  f328 := Try.func94.trans (congrArg some (by kernel_rfl))
  f329 := Try.func95.trans (congrArg some (by kernel_rfl))
  f330 := Try.func96.trans (congrArg some (by kernel_rfl))
  f331 := Try.func97.trans (congrArg some (by kernel_rfl))
  f332 := Try.func98.trans (congrArg some (by kernel_rfl))
  f343 := Try.func100.trans (congrArg some (by kernel_rfl))
  t0 := Try.underlying0
  a0 := Try.isAgg0
  z0 := Try.sizeOf0
  v0 := Try.zeroValue0
  t3 := Try.underlying3
  a3 := Try.isAgg3
  z3 := Try.sizeOf3
  v3 := Try.zeroValue3
  t4 := Try.underlying4
  a4 := Try.isAgg4
  z4 := Try.sizeOf4
  v4 := Try.zeroValue4
  t5 := Try.underlying5
  a5 := Try.isAgg5
  z5 := Try.sizeOf5
  v5 := Try.zeroValue5
  t9 := Try.underlying9
  a9 := Try.isAgg9
  z9 := Try.sizeOf9
  v9 := Try.zeroValue9
  t28 := Try.underlying22
  a28 := Try.isAgg22
  z28 := Try.sizeOf22
  v28 := Try.zeroValue22
  t46 := Try.underlying113
  a46 := Try.isAgg113
  z46 := Try.sizeOf113
  v46 := Try.zeroValue113
  t51 := Try.underlying134
  a51 := Try.isAgg134
  z51 := Try.sizeOf134
  v51 := Try.zeroValue134
  t53 := Try.underlying136
  a53 := Try.isAgg136
  z53 := Try.sizeOf136
  v53 := Try.zeroValue136
  t131 := Try.underlying131
  a131 := Try.isAgg131
  z131 := Try.sizeOf131
  v131 := Try.zeroValue131
  t182 := Try.underlying126
  a182 := Try.isAgg126
  z182 := Try.sizeOf126
  v182 := Try.zeroValue126
  t183 := Try.underlying127
  a183 := Try.isAgg127
  z183 := Try.sizeOf127
  v183 := Try.zeroValue127
  t218 := Try.underlying138
  a218 := Try.isAgg138
  z218 := Try.sizeOf138
  v218 := Try.zeroValue138
  t222 := Try.underlying142
  a222 := Try.isAgg142
  z222 := Try.sizeOf142
  v222 := Try.zeroValue142
  t228 := Try.underlying144
  a228 := Try.isAgg144
  z228 := Try.sizeOf144
  v228 := Try.zeroValue144
  t229 := Try.underlying145
  a229 := Try.isAgg145
  z229 := Try.sizeOf145
  v229 := Try.zeroValue145 }
open Go.Sort Go.RowKit in
theorem Try.slices_Sort_int (blk off cap : Nat) (zs : List Int) (w : World) (hH : Holds (Value.int .i64) w blk off zs.toArray) (hblk : blk < w.heap.size) (hsz : zs.length < 4611686018427387904) :
    Calls Try.prog 40 #[.slice (some ⟨blk, off, none⟩) zs.length cap] w fun e w' =>
      e = .returned (.tuple #[]) ∧ ∃ n os, w' = grow (putRow (Value.int .i64) (Sort.ahead w n) blk off (zs.mergeSort fun x y => decide (x ≤ y)).toArray) os := Any.slices_Sort_int Try.lays189 blk off cap zs w hH hblk hsz
def Try.laysNm220_ren : Go.Shelf.Ren := ⟨fun | 20 => 41 | n => n, fun | 22 => 22 | 3 => 3 | 4 => 4 | 0 => 0 | n => n, fun | n => n⟩
theorem Try.laysNm220 : Go.Proofs.Lays2.n20 Try.prog Try.laysNm220_ren := {
  mixed := by kernel_rfl
  f20 := Try.func41.trans (congrArg some (by kernel_rfl))
  t0 := Try.underlying0
  a0 := Try.isAgg0
  z0 := Try.sizeOf0
  v0 := Try.zeroValue0
  t3 := Try.underlying3
  a3 := Try.isAgg3
  z3 := Try.sizeOf3
  v3 := Try.zeroValue3
  t4 := Try.underlying4
  a4 := Try.isAgg4
  z4 := Try.sizeOf4
  v4 := Try.zeroValue4
  t22 := Try.underlying22
  a22 := Try.isAgg22
  z22 := Try.sizeOf22
  v22 := Try.zeroValue22
  i3 := by kernel_rfl }
open Go.RowKit Go.Lib Go.Sort in
/-- slices.Compact at []int: "Compact replaces consecutive runs of equal elements with a single copy. This is like the uniq command found on Unix. Compact modifies the contents of the slice s and returns the modified slice, which may have a smaller length. Compact zeroes the elements between the new length and the original length. The result preserves the nilness of s.": IT RETURNS THE SLICE CUT TO 'Lib.compact zs'; ITS CELLS HOLD 'Lib.compact zs', THEN ZERO VALUES up to the old length; all else is as it was, but for the count of draws. IN THE WORDS OF slices.Sort's CONTRACT ('Holds', 'putRow'): so the everyday 'slices.Sort(xs); xs = slices.Compact(xs)' goes from the one contract to the other. It asks 'zs.length ≤ cap' (every slice's: the reslicing 's[:k]' looks at it). Length 0, nil: '.._empty'. (LAID: no walk: one application.) -/
theorem Try.slices_Compact_int (blk off cap : Nat) (zs : List Int) (w : World) (hH : Holds (Value.int .i64) w blk off zs.toArray) (hsz : zs.length ≤ 9223372036854775807) (hcap : zs.length ≤ cap) :
    Calls Try.prog 41 #[.slice (some ⟨blk, off, none⟩) zs.length cap] w fun e w' => e = .returned (.slice (some ⟨blk, off, none⟩) (Lib.compact zs).length cap) ∧ ∃ q, w' = putRow (Value.int .i64) (Sort.ahead w q) blk off (Lib.compact zs ++ List.replicate (zs.length - (Lib.compact zs).length) 0).toArray := Any.slices_Compact_int Try.laysNm220 blk off cap zs w hH hsz hcap
open Go.RowKit Go.Lib Go.Sort in
/-- The same at a slice of length 0, a nil one too: it comes back as it is. (LAID: no walk: one application.) -/
theorem Try.slices_Compact_int_empty (a : Option Addr) (cap : Nat) (w : World) :
    Calls Try.prog 41 #[.slice a 0 cap] w fun e w' => e = .returned (.slice a 0 cap) ∧ w' = w := Any.slices_Compact_int_empty Try.laysNm220 a cap w
open Go.RowKit Go.Sort in
/-- .. and plain. (LAID: no walk: one application.) -/
theorem Try.slices_Sort_int_none (p : Option Addr) (cap : Nat) (w : World) :
    Calls Try.prog 40 #[.slice p 0 cap] w fun e w' => e = .returned (.tuple #[]) ∧ w' = w := Any.slices_Sort_int_none Try.lays189 p cap w
end Go.Proofs

end
section
namespace Go.Proofs.Ytadjimfkfmojkaa
open Go.ChangeShapes Go.WideShapes Go.ChangeAt Go.RowKit
set_option linter.unusedVariables false
set_option maxRecDepth 100000
theorem append_zero (t ty e : TypeId) (P : Program) (w : World) (ht : P.underlying t = some (.slice e)) (hi : ∃ i, P.info? e = some i) (A B : Option Addr) (c : Nat) : (Builtin.append_ #[t, t] ty #[.slice A 0 0, .slice B 0 c]).run P w = .ok (.slice A 0 0) w := by
  obtain ⟨i, hi⟩ := hi
  cases A <;> cases B <;> simp [Builtin.append_, run_underlying ht, sizeOf, typeInfo, hi, Builtin.lenOf, Builtin.firstCells, loadCells, loadCellsFrom, storeCells]
theorem cloneI_zero (A : Option Addr) (c : Nat) (w : World) : Calls Try.prog 68 #[.slice A 0 c] w fun e w' => ∃ B, e = .returned (.slice B 0 0) ∧ Below w.heap.size w w' := by
  have heq := fun (W : World) (a : Option Addr) (l c : Nat) => Lib.run_eql_slice_nil (P := Try.prog) W 22 3 a l c 0 0 Try.underlying22
  cases A with
  | none =>
    go_enter Try.func68, Try.ntmps68
    go_wp2_with fail
    go_ret
    exact ⟨_, rfl, Below.refl _ _⟩
  | some a =>
    have hinf : ∃ i, Try.prog.info? 3 = some i := Option.isSome_iff_exists.1 (show (Try.prog.info? 3).isSome = true by kernel_rfl)
    have happ := fun (W : World) (ty : TypeId) (A B : Option Addr) => append_zero 22 ty 3 Try.prog W Try.underlying22 hinf A B c
    go_enter Try.func68, Try.ntmps68
    go_wp2_with fail
    go_ret
    exact ⟨_, rfl, (Below.refl _ _).alloc (Nat.le_refl _) _⟩
end Go.Proofs.Ytadjimfkfmojkaa

end
section
namespace Go.Proofs.Ytadjimfkfmojkaa.Am
open Go.RowKit Go.Sort
set_option linter.unusedVariables false
def srt (l : List Int) : List Int := l.mergeSort fun x y => decide (x ≤ y)
theorem srt_len (l : List Int) : (srt l).length = l.length := by simp [srt]
theorem map_rows {xs : List Int} {i : Nat} {r : List AV} (h : (xs.map intE)[i]? = some r) : ∃ x, xs[i]? = some x ∧ r = [.int .i64 x] := by
  rw [List.getElem?_map] at h
  cases hx : xs[i]? with
  | none => rw [hx] at h; cases h
  | some x => rw [hx] at h; cases h; exact ⟨x, rfl, rfl⟩
/-- a function that writes the numbers of a slice anew -/
theorem row_conv {P : Program} {f : FuncId} (hbody : ∃ fn c, P.funcs[f]? = some fn ∧ fn.body = some c) (b : Nat) (xs ys : List Int) (hlen : ys.length = xs.length) (v : AV) (ret : Addr → Nat → Value)
    (hrep : ∀ (w' : World) (σ : Sig) (T : Nat → Prop) (pl : Place) (a : Addr) (cap : Nat), σ b = some pl → xs.length ≤ cap → cap ≤ maxLen → (0 < cap → a = ⟨pl.block, pl.base + 0 * pl.size, none⟩ ∧ ∃ cs e, w'.heap[pl.block]? = some (.cells cs e (0, 0)) ∧ pl.base + (0 + cap) * pl.size ≤ cs.size) → Rep w' σ T v (ret a cap))
    (hpos : ∀ (blk off cap : Nat) (w : World), Holds (Value.int .i64) w blk off xs.toArray → blk < w.heap.size → xs.length ≤ cap → Calls P f #[.slice (some ⟨blk, off, none⟩) xs.length cap] w fun e w' => e = .returned (ret ⟨blk, off, none⟩ cap) ∧ ∃ n os, w' = grow (putRow (Value.int .i64) (Sort.ahead w n) blk off ys.toArray) os)
    (hzero : xs.length = 0 → ∀ (a : Addr) (cap : Nat) (w : World), Calls P f #[.slice (some a) 0 cap] w fun e w' => e = .returned (ret a cap) ∧ w' = w) :
    CallA P f [.sl b 0 xs.length] [(b, ⟨1, xs.map intE⟩)] fun u L => u = v ∧ L = [(b, ⟨1, ys.map intE⟩)] := by
  refine ⟨hbody, fun H hb hs => ⟨v, H.put b (some ⟨1, ys.map intE⟩), [(b, ⟨1, ys.map intE⟩)], ?_, ?_, rfl, rfl⟩⟩
  · intro w σ vs hW hvs
    obtain ⟨v, rfl, hv⟩ := reps1 hvs
    obtain ⟨pl, a, cap, rfl, hsg, hnc, hmx, ha⟩ := hv.sl_inv
    have hg : H.get b = some ⟨1, xs.map intE⟩ := hs.get (b, ⟨1, xs.map intE⟩) (by simp)
    obtain ⟨pl', cs, e, g1, g2⟩ := hW.live b _ hg
    rw [hsg] at g1
    cases g1
    have hsz : pl.size = 1 := g2.size
    rcases Nat.eq_zero_or_pos xs.length with h0 | h0
    · have hx : xs = [] := List.length_eq_zero_iff.1 h0
      have hy : ys = [] := List.length_eq_zero_iff.1 (by omega)
      have hz := hzero h0 a cap w
      rw [h0]
      refine hz.mono ?_
      rintro e' w' ⟨rfl, rfl⟩
      have hput := hW.put hg hsg (Wrote.refl g2.block) (x' := ⟨1, ys.map intE⟩) g2.size.symm (by simp [hy]) (by simpa [hy, hx] using g2.room) (by simp [hy])
      exact ⟨_, σ, rfl, hrep _ _ _ pl a cap hsg hnc hmx ha, hput.1, hput.2, fun c pl hc => .inl hc⟩
    · have ha' := ha
      obtain ⟨rfl, cs', te, hcs', hroom⟩ := ha (by omega)
      rw [g2.block] at hcs'
      cases hcs'
      have hr := g2.room
      simp only [List.length_map, Nat.mul_one] at hr
      have hcell : ∀ (i : Nat) (x : Int), xs[i]? = some x → cs[pl.base + i]? = some (.int .i64 x) := fun i x hx => by
        have hi := lt_of_some hx
        have hi' : pl.base + i < cs.size := by omega
        have := g2.rep i [.int .i64 x] 0 (.int .i64 x) cs[pl.base + i] (by simp [hx, intE]) rfl (by simp [Array.getElem?_eq_getElem hi'])
        cases hq : cs[pl.base + i] with
        | _ => rw [hq] at this; cases this <;> rw [Array.getElem?_eq_getElem hi', hq]
      have hH : Holds (Value.int .i64) w pl.block (pl.base + 0 * pl.size) xs.toArray := fun j hj => by
        have hj' : j < xs.length := by simpa using hj
        refine ⟨?_, by simp [World.frozen?, g2.block]⟩
        have := hcell j xs[j] (List.getElem?_eq_getElem hj')
        simp [World.cell?, g2.block, this, hj']
      refine (hpos pl.block (pl.base + 0 * pl.size) cap w hH (hW.lt b pl hsg) hnc).mono ?_
      rintro e' w' ⟨rfl, n, os, rfl⟩
      have hz : pl.base + 0 * pl.size = pl.base := by omega
      rw [show putRow (Value.int .i64) (Sort.ahead w n) pl.block (pl.base + 0 * pl.size) ys.toArray = putRow (Value.int .i64) (Sort.ahead w n) pl.block pl.base ys.toArray by rw [hz]]
      have hw : Wrote w (putRow (Value.int .i64) (Sort.ahead w n) pl.block pl.base ys.toArray) pl.block cs (putCells (Value.int .i64) pl.base ys.toArray cs) e :=
        ⟨rfl, rfl, rfl, by simp [Sort.ahead], g2.block, by simp [putRow, mapBlock, Sort.ahead, Array.getElem?_modify, g2.block, onCells], by simp [putCells], fun d hd => by
          have : pl.block ≠ d := fun e => hd e.symm
          simp [putRow, mapBlock, Sort.ahead, Array.getElem?_modify, this]⟩
      obtain ⟨p1, p2⟩ := hW.put hg hsg hw (x' := ⟨1, ys.map intE⟩) g2.size.symm (fun i r hr => by obtain ⟨x, _, rfl⟩ := map_rows hr; rfl) (by simp only [List.length_map, Nat.mul_one]; omega) (fun i r j a u hr hj hu => by
        obtain ⟨x, hx, rfl⟩ := map_rows hr
        match j, hj with
        | 0, hj =>
          cases hj
          have hi := lt_of_some hx
          have hi' : pl.base + i < cs.size := by omega
          simp only [Nat.mul_one, Nat.add_zero] at hu
          have : (putCells (Value.int .i64) pl.base ys.toArray cs)[pl.base + i]? = some (.int .i64 x) := by
            have hx' : ys[i] = x := by rw [List.getElem?_eq_getElem hi] at hx; exact Option.some.inj hx
            simp [putCells, hi', hi, hx']
          rw [this] at hu
          cases hu
          exact .int _ _
        | j + 1, hj => simp at hj)
      generalize hw1 : putRow (Value.int .i64) (Sort.ahead w n) pl.block pl.base ys.toArray = w1 at p1 p2
      have hbl : Below w1.heap.size w1 (grow w1 os) := ⟨rfl, rfl, rfl, by simp [grow], fun k hk => heap_grow_old _ _ hk⟩
      have hE := p2.trans (below_ext hbl fun c hc => (p1.apart c hc).1)
      exact ⟨_, σ, rfl, hrep _ _ _ pl _ cap hsg hnc hmx (fun h => ⟨rfl, by obtain ⟨cs2, k1, k2⟩ := hE.shape _ _ _ g2.block; exact ⟨cs2, _, k1, by omega⟩⟩), below_rel p1 hbl, p2.trans (below_ext hbl fun c hc => (p1.apart c hc).1), fun c pl hc => .inl hc⟩
  · have hg : H.get b = some ⟨1, xs.map intE⟩ := hs.get (b, ⟨1, xs.map intE⟩) (by simp)
    refine ⟨Nat.le_refl _, fun c hc => ?_, ⟨by simp, fun p hp => ?_⟩, fun c x hc hn => ⟨?_, ?_⟩, fun c hc h0 => ?_, fun c hc hlt => ?_⟩
    · rw [Heap.get_put, if_neg]; exact hb c hc
      rintro rfl; rw [hb _ hc] at hg; cases hg
    · simp only [List.mem_singleton] at hp; subst hp; rw [Heap.get_put, if_pos rfl]
    · rw [Heap.get_put, if_neg]; exact hc
      rintro rfl; exact hn (by simp)
    · simpa using hn
    · rw [Heap.get_put, if_neg]; exact h0
      rintro rfl; rw [hg] at h0; cases h0
    · simpa using hc
theorem sort_ok (b : Nat) (xs : List Int) (hl : xs.length < 4611686018427387904) : CallA Try.prog 40 [.sl b 0 xs.length] [(b, ⟨1, xs.map intE⟩)] fun v L => v = .tup [] ∧ L = [(b, ⟨1, (srt xs).map intE⟩)] :=
  row_conv ⟨_, _, Try.func40, rfl⟩ b xs (srt xs) (srt_len xs) (.tup []) (fun _ _ => .tuple #[]) (fun _ _ _ _ _ _ _ _ _ _ => .tup [] [] rfl (by simp))
    (fun blk off cap w hH hblk _ => Try.slices_Sort_int blk off cap xs w hH hblk hl) (fun _ a cap w => Try.slices_Sort_int_none (some a) cap w)
theorem compact_len (l : List Int) : (Lib.compact l).length ≤ l.length := by
  unfold Lib.compact Lib.compactUpTo
  rw [List.length_map]
  exact Nat.le_trans (List.length_filter_le _ _) (by simp)
theorem compact_ok (b : Nat) (xs : List Int) (hl : xs.length ≤ 9223372036854775807) : CallA Try.prog 41 [.sl b 0 xs.length] [(b, ⟨1, xs.map intE⟩)] fun v L => v = .sl b 0 (Lib.compact xs).length ∧ L = [(b, ⟨1, (Lib.compact xs ++ List.replicate (xs.length - (Lib.compact xs).length) 0).map intE⟩)] :=
  row_conv ⟨_, _, Try.func41, rfl⟩ b xs _ (by have := compact_len xs; simp; omega) (.sl b 0 (Lib.compact xs).length) (fun a cap => .slice (some a) (Lib.compact xs).length cap)
    (fun w' σ T pl a cap h1 h2 h3 h4 => .sl b 0 _ pl a cap h1 (Nat.le_trans (compact_len xs) h2) h3 h4)
    (fun blk off cap w hH hblk hcap => (Try.slices_Compact_int blk off cap xs w hH hl hcap).mono fun e w' ⟨h1, q, h2⟩ => ⟨h1, q, #[], by rw [h2, grow_empty]⟩)
    (fun h0 a cap w => by
      have hx : xs = [] := List.length_eq_zero_iff.1 h0
      subst hx
      exact Try.slices_Compact_int_empty (some a) cap w)
/-- Clone of a list of numbers: in a block of its own -/
theorem cloneI_ok (xs : List Int) (hl : xs.length * 8 ≤ 140737488355328) : CallA Try.prog 68 [.lst (xs.map intE)] [] fun v L => ∃ o, v = slotV o xs.length ∧ L = slotB o 1 (xs.map intE) ∧ (o = none → xs = []) := by
  rcases List.eq_nil_or_concat xs with rfl | ⟨ys, y, hxs⟩
  · exact (clone_zero cloneI_zero ⟨_, _, Try.func68, rfl⟩).mono fun v L ⟨h1, h2⟩ => ⟨none, h1, h2, fun _ => rfl⟩
  · have hne : xs.map intE ≠ [] := by rw [hxs]; simp
    refine (clone_full (fun A n c xs w hf h1 hn hA => cloneI_any A n c xs w hf h1 hn hA) ⟨_, _, Try.func68, rfl⟩ (xs.map intE) hne (by simp [intE, AV.one]) (fun r hr => by obtain ⟨x, _, rfl⟩ := List.mem_map.1 hr; rfl) (by simpa using hl)).mono ?_
    rintro v L ⟨b, rfl, rfl⟩
    exact ⟨some b, by simp [slotV], rfl, fun h => by cases h⟩
/-- a slice in a block of its own; an empty one as it reads -/
def slotL : Option Nat → Nat → AV
  | none, _ => .lst []
  | some b, n => .sl b 0 n
theorem clone_any {P : Program} {f : FuncId} {e : TypeId} {size bytes : Nat} (hcl : ClonesM P f e size bytes) (hbody : ∃ fn c, P.funcs[f]? = some fn ∧ fn.body = some c) (rows : List (List AV)) (hone : (rows.all fun r => r.all AV.one) = true) (hev : ∀ r ∈ rows, r.length = size) (hbig : rows.length * bytes ≤ 140737488355328) :
    CallA P f [.lst rows] [] fun v L => ∃ o, v = slotL o rows.length ∧ L = slotB o size rows ∧ (o = none → rows = []) := by
  rcases List.eq_nil_or_concat rows with rfl | ⟨ys, y, hxs⟩
  · exact (clone_none hcl hbody).mono fun v L ⟨h1, h2⟩ => ⟨none, h1, h2, fun _ => rfl⟩
  · refine (clone_full hcl hbody rows (by rw [hxs]; simp) hone hev hbig).mono ?_
    rintro v L ⟨b, rfl, rfl⟩
    exact ⟨some b, rfl, rfl, fun h => by cases h⟩
end Go.Proofs.Ytadjimfkfmojkaa.Am

end
section
namespace Go.Proofs.Ytadjimfkfmojkaa.Am
set_option linter.unusedVariables false
theorem compactUpTo_asc (d : Array Int) (hs : ∀ i j, i < j → j < d.size → d[i]! ≤ d[j]!) : ∀ m, m ≤ d.size →
    (Lib.compactUpTo d m).Pairwise (· < ·) ∧ (∀ x ∈ Lib.compactUpTo d m, ∃ j, j < m ∧ x = d[j]!) ∧ (∀ j, j < m → d[j]! ∈ Lib.compactUpTo d m)
  | 0, _ => ⟨by simp [Lib.compactUpTo], by simp [Lib.compactUpTo], by intro j hj; omega⟩
  | m + 1, hm => by
    obtain ⟨h1, h2, h3⟩ := compactUpTo_asc d hs m (by omega)
    rw [Lib.compactUpTo_succ]
    by_cases hk : Lib.keeps d m = true
    · rw [if_pos hk]
      refine ⟨?_, ?_, ?_⟩
      · rw [List.pairwise_append]
        refine ⟨h1, by simp, ?_⟩
        intro x hx y hy
        obtain ⟨j, hj, rfl⟩ := h2 x hx
        simp at hy
        subst hy
        have hle := hs j m hj (by omega)
        have hne : d[j]! ≠ d[m]! := by
          intro he
          have hm0 : 0 < m := by omega
          have h4 : d[m]! ≠ d[m - 1]! := by
            intro h5
            rw [Lib.keeps_neg hm0 h5] at hk
            cases hk
          have h5 : d[j]! ≤ d[m - 1]! := by
            rcases Nat.lt_or_ge j (m - 1) with h | h
            · exact hs j (m - 1) h (by omega)
            · rw [show j = m - 1 from by omega]
              exact Int.le_refl _
          have h6 : d[m - 1]! ≤ d[m]! := hs (m - 1) m (by omega) (by omega)
          exact h4 (by omega)
        omega
      · intro x hx
        rw [List.mem_append] at hx
        rcases hx with hx | hx
        · obtain ⟨j, hj, e⟩ := h2 x hx
          exact ⟨j, by omega, e⟩
        · simp at hx
          exact ⟨m, by omega, hx⟩
      · intro j hj
        rw [List.mem_append]
        rcases Nat.lt_or_ge j m with h | h
        · exact .inl (h3 j h)
        · rw [show j = m from by omega]
          exact .inr (by simp)
    · rw [if_neg hk, List.append_nil]
      have hm0 : 0 < m := by
        rcases Nat.eq_zero_or_pos m with h | h
        · subst h
          exact absurd (Lib.keeps_lt_one d 0 (by omega)) hk
        · exact h
      have he : d[m]! = d[m - 1]! := by
        apply Classical.byContradiction
        intro h
        exact hk (Lib.keeps_pos h)
      refine ⟨h1, fun x hx => ?_, fun j hj => ?_⟩
      · obtain ⟨j, hj, e⟩ := h2 x hx
        exact ⟨j, by omega, e⟩
      · rcases Nat.lt_or_ge j m with h | h
        · exact h3 j h
        · rw [show j = m from by omega, he]
          exact h3 (m - 1) (by omega)
theorem getI (l : List Int) (j : Nat) (hj : j < l.length) : l.toArray[j]! = l[j] := by
  rw [getElem!_pos _ _ (by simpa using hj)]
  simp
theorem srt_sorted (l : List Int) : ∀ i j, i < j → j < (srt l).toArray.size → (srt l).toArray[i]! ≤ (srt l).toArray[j]! := by
  intro i j hij hj
  have hj' : j < (srt l).length := by simpa using hj
  rw [getI _ i (by omega), getI _ j hj']
  have hp : (srt l).Pairwise (fun x y => (decide (x ≤ y)) = true) := List.pairwise_mergeSort (fun a b c => by simp; omega) (fun a b => by simp; omega) l
  have := (List.pairwise_iff_getElem.1 hp) i j (by omega) hj' hij
  simpa using this
def asc (l : List Int) : List Int := Lib.compact (srt l)
theorem asc_mem (l : List Int) (x : Int) : x ∈ asc l ↔ x ∈ l := by
  obtain ⟨h1, h2, h3⟩ := compactUpTo_asc (srt l).toArray (srt_sorted _) (srt l).length (by simp)
  have hm : ∀ y, y ∈ srt l ↔ y ∈ l := fun y => by simp [srt, List.mem_mergeSort]
  unfold asc Lib.compact
  constructor
  · intro hx
    obtain ⟨j, hj, rfl⟩ := h2 x hx
    rw [getI _ j hj]
    exact (hm _).1 (List.getElem_mem _)
  · intro hx
    obtain ⟨j, hj, rfl⟩ := List.getElem_of_mem ((hm x).2 hx)
    rw [← getI _ j hj]
    exact h3 j hj
theorem asc_asc (l : List Int) : (asc l).Pairwise (· < ·) :=
  (compactUpTo_asc (srt l).toArray (srt_sorted _) (srt l).length (by simp)).1
theorem asc_ext {a b : List Int} (ha : a.Pairwise (· < ·)) (hb : b.Pairwise (· < ·)) (h : ∀ x, x ∈ a ↔ x ∈ b) : a = b := by
  have na : a.Nodup := ha.imp fun hlt => by omega
  have nb : b.Nodup := hb.imp fun hlt => by omega
  exact List.Perm.eq_of_pairwise (le := fun x y : Int => x < y) (fun x y _ _ h1 h2 => by omega) ha hb ((List.perm_ext_iff_of_nodup na nb).2 h)
end Go.Proofs.Ytadjimfkfmojkaa.Am

end
section
namespace Go.Proofs.Ytadjimfkfmojkaa.Am
set_option linter.unusedVariables false
def truthS (b : Bool) : Int := if b then 1 else 0
def unS (op a : Int) : Int × Bool := if op = 4 then (IntKind.i64.wrap (0 - a), true) else if op = 5 then (truthS (decide (a = 0)), true) else (0, false)
def binS (op a b : Int) : Int × Bool :=
  if op = 6 then (IntKind.i64.wrap (a + b), true) else
  if op = 7 then (IntKind.i64.wrap (a - b), true) else
  if op = 8 then (IntKind.i64.wrap (a * b), true) else
  if op = 9 then (if b = 0 then 0 else IntKind.i64.wrap (a.tdiv b), true) else
  if op = 10 then (if b = 0 then 0 else a.tmod b, true) else
  if op = 11 then (truthS (decide (a = b)), true) else
  if op = 12 then (truthS (decide (a ≠ b)), true) else
  if op = 13 then (truthS (decide (a < b)), true) else
  if op = 14 then (truthS (decide (a ≤ b)), true) else
  if op = 15 then (truthS (decide (b < a)), true) else
  if op = 16 then (truthS (decide (b ≤ a)), true) else
  if op = 17 then (truthS (decide (a ≠ 0) && decide (b ≠ 0)), true) else
  if op = 18 then (truthS (decide (a ≠ 0) || decide (b ≠ 0)), true) else (0, false)
structure TsD where
  pc : Int
  regs : List Int
  taint : List (List Int)
  ev : Int
def lstE (l : List Int) : List AV := [.lst (l.map intE)]
def TsD.enc (s : TsD) : List AV := [.int .i64 s.pc, .lst (s.regs.map intE), .lst (s.taint.map lstE), .int .i64 s.ev]
def TsD.zero : TsD := ⟨0, [], [], 0⟩
structure InD where
  op : Int
  a : Int
  b : Int
  c : Int
  n : Int
  site : Int
  deriving Inhabited
def InD.enc (i : InD) : List AV := [.int .i64 i.op, .int .i64 i.a, .int .i64 i.b, .int .i64 i.c, .int .i64 i.n, .int .i64 i.site]
structure TcD where
  regs : Int
  ins : List InD
def TcD.enc (c : TcD) : List AV := [.int .i64 c.regs, .lst (c.ins.map InD.enc)]
def TsD.has (s : TsD) (r : Int) : Bool := inB r s.regs.length
def TsD.reg (s : TsD) (r : Int) : Int := s.regs.getD r.toNat 0
def TsD.tnt (s : TsD) (r : Int) : List Int := s.taint.getD r.toNat []
def TsD.put (s : TsD) (a v : Int) (t : List Int) : TsD := ⟨IntKind.i64.wrap (s.pc + 1), s.regs.set a.toNat v, s.taint.set a.toNat t, s.ev⟩
/-- the operator's number as the reference reads it -/
def opS (n : Int) : Int := if n < 1 ∨ 100 < n then 0 else n
theorem un_op (n a : Int) : unS (opS n) a = unS n a := by
  unfold opS
  split
  · rename_i h
    unfold unS
    simp only [show ¬ (0 : Int) = 4 by omega, show ¬ (0 : Int) = 5 by omega, show ¬ n = 4 by omega, show ¬ n = 5 by omega, if_false]
  · rfl
theorem bin_op (n a b : Int) : binS (opS n) a b = binS n a b := by
  unfold opS
  split
  · rename_i h
    unfold binS
    rw [if_neg (by omega), if_neg (by omega), if_neg (by omega), if_neg (by omega), if_neg (by omega), if_neg (by omega), if_neg (by omega), if_neg (by omega), if_neg (by omega), if_neg (by omega), if_neg (by omega), if_neg (by omega), if_neg (by omega)]
    rw [if_neg (by omega), if_neg (by omega), if_neg (by omega), if_neg (by omega), if_neg (by omega), if_neg (by omega), if_neg (by omega), if_neg (by omega), if_neg (by omega), if_neg (by omega), if_neg (by omega), if_neg (by omega), if_neg (by omega)]
  · rfl
/-- one silent instruction; none: it cannot -/
def stepS (i : InD) (s : TsD) : Option TsD :=
  if i.op = 1 then (if s.has i.a then some (s.put i.a i.n []) else none) else
  if i.op = 2 then (if s.has i.a && s.has i.b then some (s.put i.a (s.reg i.b) (s.tnt i.b)) else none) else
  if i.op = 3 then (if s.has i.a && s.has i.b && (unS i.n (s.reg i.b)).2 then some (s.put i.a (unS i.n (s.reg i.b)).1 (s.tnt i.b)) else none) else
  if i.op = 4 then (if s.has i.a && s.has i.b && s.has i.c && (binS i.n (s.reg i.b) (s.reg i.c)).2 then some (s.put i.a (binS i.n (s.reg i.b) (s.reg i.c)).1 (asc (s.tnt i.b ++ s.tnt i.c))) else none) else
  some { s with pc := i.a }
/-- k: how many silent instructions are still allowed -/
def runS (ins : List InD) : Nat → TsD → TsD × Bool
  | 0, s => if inB s.pc ins.length then (if (ins.getD s.pc.toNat default).op < 1 ∨ 5 < (ins.getD s.pc.toNat default).op then (s, true) else (TsD.zero, false)) else (TsD.zero, false)
  | k + 1, s => if inB s.pc ins.length then (if (ins.getD s.pc.toNat default).op < 1 ∨ 5 < (ins.getD s.pc.toNat default).op then (s, true) else
      match stepS (ins.getD s.pc.toNat default) s with
      | none => (TsD.zero, false)
      | some s2 => runS ins k s2) else (TsD.zero, false)
def settleS (c : TcD) (s : TsD) : TsD × Bool :=
  if (s.regs.length : Int) = c.regs ∧ (s.taint.length : Int) = c.regs then runS c.ins c.ins.length s else (TsD.zero, false)
def resT (p : TsD × Bool) : AV := .tup [.agg p.1.enc, .bool p.2]
/-- taints are short: all of their numbers lie in one list -/
structure Tame (U : List Int) (s : TsD) : Prop where
  len : s.taint.length = s.regs.length
  small : s.regs.length < 2 ^ 40
  short : ∀ l ∈ s.taint, l.length ≤ 2 ^ 30
  sub : ∀ l ∈ s.taint, ∀ x ∈ l, x ∈ U
theorem nodup_len : ∀ {l U : List Int}, l.Nodup → (∀ x ∈ l, x ∈ U) → l.length ≤ U.length
  | [], U, _, _ => by simp
  | x :: l, U, hn, hs => by
    have hx : x ∈ U := hs x (by simp)
    have h1 := List.nodup_cons.1 hn
    have := nodup_len (l := l) (U := U.erase x) h1.2 fun y hy => (List.mem_erase_of_ne (by rintro rfl; exact h1.1 hy)).2 (hs y (by simp [hy]))
    rw [List.length_erase_of_mem hx] at this
    have := List.length_pos_of_mem hx
    simp only [List.length_cons]
    omega
theorem asc_short {U l : List Int} (h : ∀ x ∈ l, x ∈ U) : (asc l).length ≤ U.length := by
  have hnd : (asc l).Nodup := (asc_asc l).imp (fun {a b} (h : a < b) => by omega)
  exact nodup_len hnd fun x hx => h x ((asc_mem l x).1 hx)
theorem Tame.tnt {U : List Int} {s : TsD} (h : Tame U s) (r : Int) : (s.tnt r).length ≤ 2 ^ 30 ∧ ∀ x ∈ s.tnt r, x ∈ U := by
  unfold TsD.tnt
  rw [List.getD_eq_getElem?_getD]
  cases he : s.taint[r.toNat]? with
  | none => simp
  | some l => exact ⟨h.short l (List.mem_of_getElem? he), h.sub l (List.mem_of_getElem? he)⟩
theorem Tame.put {U : List Int} {s : TsD} (h : Tame U s) (a v : Int) {t : List Int} (h1 : t.length ≤ 2 ^ 30) (h2 : ∀ x ∈ t, x ∈ U) : Tame U (s.put a v t) := by
  refine ⟨by simp [TsD.put, h.len], by simpa [TsD.put] using h.small, fun l hl => ?_, fun l hl => ?_⟩
  · rcases List.mem_or_eq_of_mem_set hl with g | g
    · exact h.short l g
    · rw [g]; exact h1
  · rcases List.mem_or_eq_of_mem_set hl with g | g
    · exact h.sub l g
    · rw [g]; exact h2
theorem Tame.step {U : List Int} (hU : U.length ≤ 2 ^ 30) {s s2 : TsD} {i : InD} (h : Tame U s) (he : stepS i s = some s2) : Tame U s2 := by
  unfold stepS at he
  split at he
  · split at he
    · cases he; exact h.put _ _ (by simp) (by simp)
    · cases he
  · split at he
    · split at he
      · cases he; exact h.put _ _ (h.tnt _).1 (h.tnt _).2
      · cases he
    · split at he
      · split at he
        · cases he; exact h.put _ _ (h.tnt _).1 (h.tnt _).2
        · cases he
      · split at he
        · split at he
          · cases he
            have hs : ∀ x ∈ s.tnt i.b ++ s.tnt i.c, x ∈ U := fun x hx => by
              rcases List.mem_append.1 hx with g | g
              · exact (h.tnt _).2 x g
              · exact (h.tnt _).2 x g
            exact h.put _ _ (Nat.le_trans (asc_short hs) hU) fun x hx => hs x ((asc_mem _ _).1 hx)
          · cases he
        · cases he
          exact ⟨h.len, h.small, h.short, h.sub⟩
end Go.Proofs.Ytadjimfkfmojkaa.Am

end
