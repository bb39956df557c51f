/- A part of the proof; the statement is proved in the last part. -/
import Derived.Test.YtadjimfkfmojkaaQ5b
import Derived.Test.YtadjimfkfmojkaaProg
import Derived.KernelRfl
import Derived.IntWalk
set_option linter.unusedSimpArgs false
set_option linter.unusedVariables false
section
namespace Go.Proofs.Ytadjimfkfmojkaa.Am
open Go.RowKit
set_option linter.unusedVariables false
namespace W
structure pick (c x y : AV) (K : AV → Prop) : Prop where
  h : W0.pick c x y K
structure un (op : UnOp) (x : AV) (K : AV → Prop) : Prop where
  h : W0.un op x K
structure bin (P : Program) (F : TypeId → Option (List TypeId)) (op : BinOp) (t : TypeId) (x y : AV) (K : AV → Prop) : Prop where
  h : W0.bin P F op t x y K
structure conv (k : IntKind) (x : AV) (K : AV → Prop) : Prop where
  h : W0.conv k x K
structure convS (x : AV) (K : AV → Prop) : Prop where
  h : W0.convS x K
structure faddr (off : Nat) (x : AV) (K : AV → Prop) : Prop where
  h : W0.faddr off x K
structure fld (ag : Bool) (n off : Nat) (x : AV) (K : AV → Prop) : Prop where
  h : W0.fld ag n off x K
structure load (ag : Bool) (n : Nat) (a : AV) (L : SH) (K : AV → Prop) : Prop where
  h : W0.loadR ag n a L K
structure store (n : Nat) (a v : AV) (L : SH) (K : SH → Prop) : Prop where
  h : W0.storeR n a v L K
structure idx (n : Nat) (x ix : AV) (L : SH) (K : AV → Prop) : Prop where
  h : W0.idxR n x ix L K
structure idxP (len n : Nat) (x ix : AV) (K : AV → Prop) : Prop where
  h : W0.idxP len n x ix K
structure ixS (x ix : AV) (K : AV → Prop) : Prop where
  h : W0.ixS x ix K
structure ixA (ag : Bool) (len n : Nat) (x ix : AV) (K : AV → Prop) : Prop where
  h : W0.ixA ag len n x ix K
structure ext (i : Nat) (x : AV) (K : AV → Prop) : Prop where
  h : W0.ext i x K
structure nilchk (x : AV) (K : AV → Prop) : Prop where
  h : W0.nilchk x K
structure build (z : List AV) (parts : List (Nat × Nat × AV)) (K : AV → Prop) : Prop where
  h : W0.build z parts K
structure alloc (cs : List AV) (L : SH) (K : AV → SH → Prop) : Prop where
  h : W0.alloc cs L K
structure box (x : AV) (L : SH) (K : AV → SH → Prop) : Prop where
  h : W0.box x L K
structure bslice (n : Nat) (z : List AV) (len : Nat) (parts : List (Nat × AV)) (L : SH) (K : AV → SH → Prop) : Prop where
  h : W0.bslice n z len parts L K
structure mslice (n by_ : Nat) (z : List AV) (l c : AV) (L : SH) (K : AV → SH → Prop) : Prop where
  h : W0.mslice n by_ z l c L K
structure append (n by_ : Nat) (s x : AV) (L : SH) (K : AV → SH → Prop) : Prop where
  h : W0.appendR n by_ s x L K
structure clear (n : Nat) (z : List AV) (x : AV) (L : SH) (K : SH → Prop) : Prop where
  h : W0.clearR n z x L K
structure len (x : AV) (K : AV → Prop) : Prop where
  h : W0.len x K
structure lenS (x : AV) (K : AV → Prop) : Prop where
  h : W0.lenS x K
structure mnx (mx : Bool) (x y : AV) (K : AV → Prop) : Prop where
  h : W0.mnx mx x y K
structure slice (n : Nat) (x : AV) (lo hi mx : Option AV) (L : SH) (K : AV → Prop) : Prop where
  h : W0.sliceR n x lo hi mx L K
structure sliceS (x : AV) (lo hi : Option AV) (K : AV → Prop) : Prop where
  h : W0.sliceS x lo hi K
structure call (P : Program) (fv : AV) (args : List AV) (L : SH) (K : AV → SH → Prop) : Prop where
  h : match fv with
    | .fn g cs => CallA P g (args ++ cs) L K
    | _ => False
section
variable (P : Program) (F : TypeId → Option (List TypeId))
/-- What an operation demands; none: it is a call. -/
def op (o : Op) (ρ : Operand → AV) (L : SH) (K : AV → SH → Prop) : Prop :=
  let k := fun v => K v L
  match o with
  | .move x | .assign x => K (ρ x) L
  | .pick c x y => pick (ρ c) (ρ x) (ρ y) k
  | .alloc t => match W0.zof P t with
    | some cs => alloc cs L K
    | none => False
  | .box _ x => box (ρ x) L K
  | .build t parts => match P.underlying t, zeroA P t with
    | some (.struct fs), some (.agg z) => if (fs.toList.all fun f => (sizeA P f.type).isSome) = true then
        (match allSome (parts.toList.map fun p => (placesA P fs p.1).map fun q => (q.1, q.2, ρ p.2)) with
          | some ps => build z ps k
          | none => False)
      else False
    | some (.array _ e), some (.agg z) => (match sizeA P e with
      | some n => build z (parts.toList.map fun p => (p.1 * n, n, ρ p.2)) k
      | none => False)
    | _, _ => False
  | .buildSlice t len parts => match P.underlying t with
    | some (.slice e) => match sizeA P e, W0.zof P e with
      | some n, some z => if z.length = n ∧ 0 < n then bslice n z len (parts.toList.map fun p => (p.1, ρ p.2)) L K else False
      | _, _ => False
    | _ => False
  | .load t a => match isAggA P t, sizeA P t with
    | some ag, some n => load ag n (ρ a) L k
    | _, _ => False
  | .store t a x => match sizeA P t with
    | some n => store n (ρ a) (ρ x) L (K (.tup []))
    | none => False
  | .nilCheck x => nilchk (ρ x) k
  | .binOp op t x y _ => bin P F op t (ρ x) (ρ y) k
  | .unOp op _ x => un op (ρ x) k
  | .convert s d x => match P.underlying s, P.underlying d with
    | some (.int _), some (.int kd) => conv kd (ρ x) k
    | some .string, some .string => convS (ρ x) k
    | _, _ => False
  | .makeFunc (.func f) first cap => if first.size = 0 then K (.fn f (cap.toList.map ρ)) L else False
  | .makeSlice t l c => match P.underlying t with
    | some (.slice e) => match sizeA P e, bytesA P e, W0.zof P e with
      | some n, some by_, some z => if z.length = n ∧ 0 < n then mslice n by_ z (ρ l) (ρ c) L K else False
      | _, _, _ => False
    | _ => False
  | .slice t x lo hi mx => if (hi.isNone && mx.isSome) = true then False else match P.underlying t with
    | some (.slice e) => (match sizeA P e with
      | some n => slice n (ρ x) (lo.map ρ) (hi.map ρ) (mx.map ρ) L k
      | none => False)
    | some .string => if mx.isNone = true then sliceS (ρ x) (lo.map ρ) (hi.map ρ) k else False
    | _ => False
  | .fieldAddr s x f => match P.underlying s with
    | some (.struct fs) => match fs[f]? with
      | some f => (match sizeA P f.type with
        | some n => if n = 0 then False else faddr f.offset (ρ x) k
        | none => False)
      | none => False
    | _ => False
  | .field s x f => match P.underlying s with
    | some (.struct fs) => match fs[f]? with
      | some f => (match isAggA P f.type, sizeA P f.type with
        | some ag, some n => fld ag n f.offset (ρ x) k
        | _, _ => False)
      | none => False
    | _ => False
  | .indexAddr t x ix => match P.underlying t with
    | some (.slice e) => (match sizeA P e with
      | some n => idx n (ρ x) (ρ ix) L k
      | none => False)
    | some (.array len e) => (match sizeA P e with
      | some n => idxP len n (ρ x) (ρ ix) k
      | none => False)
    | _ => False
  | .index t x ix => match P.underlying t with
    | some .string => ixS (ρ x) (ρ ix) k
    | some (.array len e) => (match isAggA P e, sizeA P e with
      | some ag, some n => ixA ag len n (ρ x) (ρ ix) k
      | _, _ => False)
    | _ => False
  | .extract x i => ext i (ρ x) k
  | .call c => match c.callee with
    | .builtin .len => (match c.args.toList, (c.argTypes[0]?).bind P.underlying with
      | [x], some (.slice _) => len (ρ x) k
      | [x], some .string => lenS (ρ x) k
      | [x], some (.array n _) => (match ρ x with | .str _ => False | _ => K (.int .i64 n) L)
      | _, _ => False)
    | .builtin .append => (match c.args.toList, c.argTypes.toList with
      | [s, x], [t, tx] => (match P.underlying t, P.underlying tx with
        | some (.slice e), some (.slice _) => (match sizeA P e, bytesA P e, W0.zof P e with
          | some n, some by_, some z => if z.length = n ∧ 0 < n then append n by_ (ρ s) (ρ x) L K else False
          | _, _, _ => False)
        | _, _ => False)
      | _, _ => False)
    | .builtin .min => (match c.args.toList with
      | [x, y] => mnx false (ρ x) (ρ y) k
      | _ => False)
    | .builtin .max => (match c.args.toList with
      | [x, y] => mnx true (ρ x) (ρ y) k
      | _ => False)
    | .builtin .clear => (match c.args.toList, c.argTypes.toList with
      | [x], [t] => (match P.underlying t with
        | some (.slice e) => (match sizeA P e, W0.zof P e with
          | some n, some z => if (z.length = n ∧ 0 < n) ∧ z.all AV.one = true then clear n z (ρ x) L (K (.tup [])) else False
          | _, _ => False)
        | _ => False)
      | _, _ => False)
    | .value f => call P (ρ f) (c.args.toList.map ρ) L K
    | _ => False
  | _ => False
end
theorem op_raw {P : Program} {F : TypeId → Option (List TypeId)} {o : Op} {ρ : Operand → AV} {L : SH} {K : AV → SH → Prop} (h : op P F o ρ L K) : W0.op P F o ρ L K := by
  cases o with
  | makeFunc fn first cap =>
    cases fn with
    | func f =>
      simp only [op] at h
      simp only [W0.op]
      split at h
      · rename_i hc; rw [if_pos hc]; exact h
      · exact h.elim
    | _ => exact h
  | move x => exact h
  | assign x => exact h
  | pick c x y => exact h.h
  | box t x => exact h.h
  | nilCheck x => exact h.h
  | binOp op t x y c => exact h.h
  | unOp op t x => exact h.h
  | extract x i => exact h.h
  | alloc t | build t ps | buildSlice t l ps | load t a | store t a x | convert s d x | makeSlice t l c | slice t x lo hi mx | fieldAddr s x f | field s x f | indexAddr t x ix | index t x ix | call c =>
    simp only [op] at h
    simp only [W0.op]
    repeat' split at h
    all_goals first
      | exact h.elim
      | (have h := h.h; split at h <;> first | exact h.elim | (simp only [*]; exact h))
      | (simp only [*, if_true, and_self]; first | exact h.h | exact h)
      | (simp_all; done)
      | (simp_all; first | exact h.h | exact h)
  | _ => exact h.elim
/-- an operation behind a guard -/
structure grd (x : AV) (want : Bool) (A : (AV → SH → Prop) → Prop) (L : SH) (K : AV → SH → Prop) : Prop where
  h : (x = .bool want ∧ A K) ∨ ((x = .bool (!want) ∨ x = undefA) ∧ K undefA L)
section
variable (P : Program) (F : TypeId → Option (List TypeId)) (ops : Array Oper)
/-- the operations of a region, in the order of the text -/
def sq : List Nat → List AV → SH → (List AV → SH → Prop) → Prop
  | [], τ, L, K => K τ L
  | i :: l, τ, L, K => match ops[i]? with
    | none => False
    | some o => match o.guard with
      | none => op P F o.op (aev τ) L fun v L => sq l (putA τ o.dst v) L K
      | some (j, want) => match (ops[j]?).bind (·.dst) with
        | some d => grd (τ.getD d .junk) want (op P F o.op (aev τ) L) L fun v L => sq l (putA τ o.dst v) L K
        | none => False
/-- what an operation of a drawn region has touched -/
structure WR where
  op : Nat
  reads : List Nat
  writes : List Nat
  made : List Nat
  isCall : Bool
  old : List Nat
def free (x y : WR) : Prop := (∀ c ∈ x.writes, c ∉ y.reads ∧ c ∉ y.writes) ∧ (∀ c ∈ x.reads, c ∉ y.writes) ∧ (∀ c ∈ x.made, c ∉ y.reads ∧ c ∉ y.writes) ∧
  (x.isCall = true → y.isCall = false ∧ y.writes = [] ∧ ∀ c ∈ y.reads, c ∈ x.old) ∧ (y.isCall = true → x.writes = [])
def isMem : Op → Bool
  | .load .. | .store .. | .indexAddr .. | .slice .. | .alloc .. | .box .. | .buildSlice .. | .makeSlice .. => true
  | .call c => match c.callee with
    | .builtin .append => true
    | .builtin .clear => true
    | _ => false
  | _ => false
/-- nothing that is not ordered meets -/
structure calm (us : List WR) (y : WR) (A : Prop) : Prop where
  h : (∀ x ∈ us, free x y) ∧ A
/-- a call in a drawn region: it is handed a part of the heap -/
structure dcall (us : List WR) (i : Nat) (fv : AV) (args : List AV) (L : SH) (K : AV → SH → List Nat → Prop) : Prop where
  h : match fv with
    | .fn g cs => ∃ Kc R : SH, L.Perm (Kc ++ R) ∧ (∀ x ∈ us, free x ⟨i, [], Kc.names, [], true, []⟩) ∧ CallA P g (args ++ cs) Kc fun v K' => K v (K' ++ R) Kc.names
    | _ => False
/-- what an operation touched -/
structure Fp where
  reads : List Nat
  writes : List Nat
  made : List Nat
  old : List Nat
def isCallV : Op → Bool
  | .call c => match c.callee with
    | .value _ => true
    | _ => false
  | _ => false
/-- what was touched, under a name -/
structure note (r0 : Fp) (K : Fp → Prop) : Prop where
  h : ∀ r, r = r0 → K r
/-- an operation of a drawn region; us: those ahead of it in the text that no edge puts ahead of it -/
def dop (us : List WR) (i : Nat) (o : Op) (ρ : Operand → AV) (L : SH) (K : AV → SH → Fp → Prop) : Prop :=
  match o with
  | .call c => match c.callee with
    | .value f => dcall P us i (ρ f) (c.args.toList.map ρ) L fun v L' ks => note ⟨[], ks, [], L.names⟩ fun r => K v L' r
    | .builtin .append => (match c.args.toList with
      | [s, x] => calm us ⟨i, blocksOf (ρ s) ++ blocksOf (ρ x), blocksOf (ρ s), [], false, []⟩ (op P F o ρ L fun v L' => note ⟨blocksOf (ρ s) ++ blocksOf (ρ x), blocksOf (ρ s), blocksOf v, []⟩ fun r => K v L' r)
      | _ => False)
    | .builtin .clear => (match c.args.toList with
      | [x] => calm us ⟨i, blocksOf (ρ x), blocksOf (ρ x), [], false, []⟩ (op P F o ρ L fun v L' => note ⟨blocksOf (ρ x), blocksOf (ρ x), [], []⟩ fun r => K v L' r)
      | _ => False)
    | _ => op P F o ρ L fun v L' => K v L' ⟨[], [], [], []⟩
  | o => if isMem o then calm us ⟨i, readsA o ρ, writesA o ρ, [], false, []⟩ (op P F o ρ L fun v L' => note ⟨readsA o ρ, writesA o ρ, if W0.makes o then blocksOf v else [], []⟩ fun r => K v L' r)
    else op P F o ρ L fun v L' => K v L' ⟨[], [], [], []⟩
def push (i : Nat) (o : Op) (r : Fp) (rs : List WR) : List WR := if isCallV o || isMem o then ⟨i, r.reads, r.writes, r.made, isCallV o, r.old⟩ :: rs else rs
structure dgrd (x : AV) (want : Bool) (A : (AV → SH → Fp → Prop) → Prop) (L : SH) (K : AV → SH → Fp → Prop) : Prop where
  h : (x = .bool want ∧ A K) ∨ ((x = .bool (!want) ∨ x = undefA) ∧ K undefA L ⟨[], [], [], L.names⟩)
def dr (before : List Nat) : List Nat → List AV → SH → List WR → (List AV → SH → Prop) → Prop
  | [], τ, L, _, K => K τ L
  | i :: l, τ, L, rs, K => match ops[i]? with
    | none => False
    | some o => match o.guard with
      | none => dop P F (rs.filter fun x => !(before.getD i 0).testBit x.op) i o.op (aev τ) L fun v L r => dr before l (putA τ o.dst v) L (push i o.op r rs) K
      | some (j, want) => match (ops[j]?).bind (·.dst) with
        | some d => dgrd (τ.getD d .junk) want (dop P F (rs.filter fun x => !(before.getD i 0).testBit x.op) i o.op (aev τ) L) L fun v L r => dr before l (putA τ o.dst v) L (push i o.op r rs) K
        | none => False
end
end W
section
variable {P : Program} {F : TypeId → Option (List TypeId)} {ops : Array Oper} {base : Nat}
open Classical in
/-- one call more -/
noncomputable def ora (g : FuncId) (as_ : List AV) (Hi : Heap) (v : AV) (Ho : Heap) (call : FuncId → List AV → Heap → Option (AV × Heap)) : FuncId → List AV → Heap → Option (AV × Heap) :=
  fun f args H => if f = g ∧ args = as_ ∧ H = Hi then some (v, Ho) else call f args H
def Chgs (call : FuncId → List AV → Heap → Option (AV × Heap)) : Prop := ∀ f args H v H', Bd H → call f args H = some (v, H') → Chg H H'
theorem ora_sound {g : FuncId} {as_ : List AV} {Hi Ho : Heap} {v : AV} {call : FuncId → List AV → Heap → Option (AV × Heap)} (hs : Sound P call) (hc : CallOk P g as_ Hi v Ho) (hn : Hi.next ≤ Ho.next) (hb : ∃ fn c, P.funcs[g]? = some fn ∧ fn.body = some c) : Sound P (ora g as_ Hi v Ho call) := by
  refine ⟨fun f args H u H' h => ?_, fun f args H u H' h => ?_, fun f args H u H' h => ?_⟩ <;>
  · unfold ora at h
    split at h
    · rename_i hk; obtain ⟨rfl, rfl, rfl⟩ := hk; cases h; assumption
    · first | exact hs.ok _ _ _ _ _ h | exact hs.next _ _ _ _ _ h | exact hs.body _ _ _ _ _ h
theorem ora_chg {g : FuncId} {as_ : List AV} {Hi Ho : Heap} {v : AV} {call : FuncId → List AV → Heap → Option (AV × Heap)} (hs : Chgs call) (hc : Bd Hi → Chg Hi Ho) : Chgs (ora g as_ Hi v Ho call) := fun f args H u H' hb h => by
  unfold ora at h
  split at h
  · rename_i hk; obtain ⟨rfl, rfl, rfl⟩ := hk; cases h; exact hc hb
  · exact hs _ _ _ _ _ hb h
theorem ora_hit {g : FuncId} {as_ : List AV} {Hi Ho : Heap} {v : AV} {call : FuncId → List AV → Heap → Option (AV × Heap)} : ora g as_ Hi v Ho call g as_ Hi = some (v, Ho) := by unfold ora; rw [if_pos ⟨rfl, rfl, rfl⟩]
theorem ora_later {g : FuncId} {as_ : List AV} {Hi Ho : Heap} {v : AV} {call : FuncId → List AV → Heap → Option (AV × Heap)} {f : FuncId} {args : List AV} {H : Heap} (h : Hi.next < H.next) : ora g as_ Hi v Ho call f args H = call f args H := by
  unfold ora
  rw [if_neg]
  rintro ⟨_, _, rfl⟩
  omega
theorem stepA_agree {call1 call2 : FuncId → List AV → Heap → Option (AV × Heap)} {i : Nat} {τ : List AV} {H : Heap} (h : ∀ f args, call1 f args H = call2 f args H) : stepA P F call1 ops base i τ H = stepA P F call2 ops base i τ H := by
  unfold stepA
  split
  · rfl
  · split
    · split
      · rfl
      · rw [h]
      · rfl
    · rfl
    · rfl
theorem opsA_agree {call1 call2 : FuncId → List AV → Heap → Option (AV × Heap)} {n : Nat} (hag : ∀ f args H, n < H.next → call1 f args H = call2 f args H) (hs : Sound P call1) : ∀ (l : List Nat) (τ : List AV) (H : Heap) (r : List AV × Heap), n < H.next → opsA P F call1 ops base l τ H = some r → opsA P F call2 ops base l τ H = some r
  | [], τ, H, r, _, h => h
  | i :: l, τ, H, r, hn, h => by
    unfold opsA at h ⊢
    rw [← stepA_agree (call1 := call1) (fun f args => hag f args H hn)]
    split at h
    · rename_i τ1 H1 hst
      exact opsA_agree hag hs l τ1 H1 r (Nat.lt_of_lt_of_le hn (stepA_next hs hst)) h
    · cases h
theorem CallOk.bump {f : FuncId} {args : List AV} {H H1 : Heap} {v : AV} (h : CallOk P f args H v H1) (l : List Nat) : CallOk P f args H v { H1 with next := H1.next + 1, log := l } := by
  intro w σ vs hW hvs
  refine (h w σ vs hW hvs).mono ?_
  rintro e w' ⟨v', σ', rfl, k1, k2, k3, k4⟩
  have ho : Own σ' ({ H1 with next := H1.next + 1, log := l } : Heap) = Own σ' H1 := Own.congr fun _ => rfl
  exact ⟨v', σ', rfl, by rw [ho]; exact k1, k2.congr (fun _ => rfl) (Nat.le_succ _), by rw [ho]; exact k3, k4⟩
theorem Fr.chg {L L' : SH} {H H' : Heap} (h : Fr H.next L H L' H') (l : List Nat) (hl : ∀ b, b ∈ H.log → b ∈ l) (hL : ∀ b, b ∈ L.names → b ∈ l) (n : Nat) (hn : H'.next ≤ n) : Chg H { H' with next := n, log := l } where
  next := Nat.le_trans h.next hn
  dom := fun b hb h0 => h.dom b hb h0
  keep := fun b hb hnl => by
    show H'.get b = H.get b
    cases hg : H.get b with
    | none => exact h.dom b hb hg
    | some x => exact (h.keep b x hg (fun hm => hnl (hL b hm))).1
  log := hl
  bd := fun _ b hb => h.bd b (Nat.le_trans hn hb)
theorem Bd.bump {H : Heap} (h : Bd H) (l : List Nat) (n : Nat) (hn : H.next ≤ n) : Bd { H with next := n, log := l } := fun b hb => h b (Nat.le_trans hn hb)
theorem OpFr.fr {b : Nat} {L L' : SH} {H H' : Heap} (h : OpFr b L H L' H') (hb : base ≤ b) : Fr base L H L' H' :=
  ⟨Nat.le_of_eq h.next.symm, h.bd, h.sub, h.keep, fun c hc => h.dom c (by omega), fun c hc hlt => by
    rcases h.fresh c hc with rfl | h1
    · omega
    · exact h1⟩
theorem wanted_yes {o : Oper} {τ : List AV} {j d : Nat} {want : Bool} (hg : o.guard = some (j, want)) (hd : (ops[j]?).bind (·.dst) = some d) (h : τ.getD d .junk = .bool want) : wantedA ops o τ = some true := by
  have : τ[d]? = some (.bool want) := by
    cases hx : τ[d]? with
    | none => rw [List.getD, hx] at h; cases h
    | some x => rw [List.getD, hx] at h; exact congrArg some h
  simp [wantedA, hg, hd, this]
theorem wanted_no {o : Oper} {τ : List AV} {j d : Nat} {want : Bool} (hg : o.guard = some (j, want)) (hd : (ops[j]?).bind (·.dst) = some d) (h : τ.getD d .junk = .bool (!want) ∨ τ.getD d .junk = undefA) : wantedA ops o τ = some false := by
  rcases h with h | h
  · have : τ[d]? = some (.bool (!want)) := by
      cases hx : τ[d]? with
      | none => rw [List.getD, hx] at h; cases h
      | some x => rw [List.getD, hx] at h; exact congrArg some h
    simp [wantedA, hg, hd, this]
  · have : τ[d]? = some (.tup []) := by
      cases hx : τ[d]? with
      | none => rw [List.getD, hx] at h; cases h
      | some x => rw [List.getD, hx] at h; exact congrArg some h
    simp [wantedA, hg, hd, this]
theorem wanted_none {o : Oper} {τ : List AV} (hg : o.guard = none) : wantedA ops o τ = some true := by simp [wantedA, hg]
theorem sq_sound : ∀ (l : List Nat) (τ : List AV) (L : SH) (K : List AV → SH → Prop), W.sq P F ops l τ L K → l.Nodup → ∀ H, Bd H → Sub L H → (∀ i ∈ l, base + i < H.next ∧ H.get (base + i) = none) → base ≤ H.next →
    ∃ call τ' H' L', Sound P call ∧ Chgs call ∧ opsA P F call ops base l τ H = some (τ', H') ∧ Fr base L H L' H' ∧ K τ' L'
  | [], τ, L, K, h, _, H, hb, hs, _, _ => ⟨noCall, τ, H, L, noCall_sound P, fun _ _ _ _ _ _ h => (by cases h), rfl, .refl hb hs, h⟩
  | i :: l, τ, L, K, h, hnd, H, hb, hs, hfr, hbase => by
    have hnd' := List.nodup_cons.1 hnd
    have h0 := hfr i (by simp)
    unfold W.sq at h
    split at h
    · exact h.elim
    · rename_i o ho
      -- the operation is carried out
      have go : ∀ (Kc : AV → SH → Prop), wantedA ops o τ = some true → W.op P F o.op (aev τ) L Kc → (∀ v L1, Kc v L1 → W.sq P F ops l (putA τ o.dst v) L1 K) →
          ∃ call τ' H' L', Sound P call ∧ Chgs call ∧ opsA P F call ops base (i :: l) τ H = some (τ', H') ∧ Fr base L H L' H' ∧ K τ' L' := by
        intro Kc hw hop hk
        rcases op_goes (b := base + i) hb hs h0.1 h0.2 (W.op_raw hop) with ⟨v, H1, L1, g1, g2, _, g3⟩ | ⟨g, args, g1, g2⟩
        · obtain ⟨call, τ', H', L', k1, k2, k3, k4, k5⟩ := sq_sound l (putA τ o.dst v) L1 K (hk v L1 g3) hnd'.2 H1 g2.bd g2.sub (fun j hj => by
            have hj0 := hfr j (by simp [hj])
            refine ⟨by rw [g2.next]; exact hj0.1, g2.dom _ (fun e => ?_) hj0.2⟩
            have : j = i := by omega
            exact hnd'.1 (this ▸ hj)) (by rw [g2.next]; exact hbase)
          refine ⟨call, τ', H', L', k1, k2, ?_, (g2.fr (Nat.le_add_right _ _)).trans k4 (Nat.le_refl _), k5⟩
          unfold opsA stepA
          simp only [ho, hw, g1]
          exact k3
        · obtain ⟨bd, g3⟩ := g2
          obtain ⟨v, H1, L1, c1, c2, c3⟩ := g3 H hb hs
          have hH1 : Sub L1 ({ H1 with next := H1.next + 1, log := L.names ++ H.log } : Heap) := c2.sub.congr fun _ => rfl
          obtain ⟨call, τ', H', L', k1, k2, k3, k4, k5⟩ := sq_sound l (putA τ o.dst v) L1 K (hk v L1 c3) hnd'.2 { H1 with next := H1.next + 1, log := L.names ++ H.log } (c2.bd.bump _ _ (Nat.le_succ _)) hH1 (fun j hj => by
            have hj0 := hfr j (by simp [hj])
            have := c2.next
            exact ⟨by show base + j < H1.next + 1; omega, c2.dom _ hj0.1 hj0.2⟩) (by have := c2.next; show base ≤ H1.next + 1; omega)
          refine ⟨ora g args H v _ call, τ', H', L', ora_sound k1 (c1.bump _) (by have := c2.next; show H.next ≤ H1.next + 1; omega) bd, ora_chg k2 fun _ => c2.chg _ (fun b hb => List.mem_append_right _ hb) (fun b hb => List.mem_append_left _ hb) _ (Nat.le_succ _), ?_, ?_, k5⟩
          · unfold opsA stepA
            simp only [ho, hw, g1, ora_hit]
            refine opsA_agree (n := H.next) (fun f args K hK => ?_) k1 l _ _ _ (by have := c2.next; show H.next < H1.next + 1; omega) k3
            exact (ora_later hK).symm
          · refine Fr.trans (H' := { H1 with next := H1.next + 1, log := L.names ++ H.log }) ⟨by have := c2.next; show H.next ≤ H1.next + 1; omega, c2.bd.bump _ _ (Nat.le_succ _), hH1, c2.keep, fun b hb' => c2.dom b (by omega), fun b h1 h2 => c2.fresh b h1 (by omega)⟩ k4 (Nat.le_refl _)
      split at h
      · rename_i hg
        exact go _ (wanted_none hg) h fun v L1 h => h
      · rename_i j want hg
        split at h
        · rename_i d hd
          rcases h.h with ⟨h1, h2⟩ | ⟨h1, h2⟩
          · exact go _ (wanted_yes hg hd h1) h2 fun v L1 h => h
          · obtain ⟨call, τ', H', L', k1, k2, k3, k4, k5⟩ := sq_sound l (putA τ o.dst undefA) L K h2 hnd'.2 H hb hs (fun j hj => hfr j (by simp [hj])) hbase
            refine ⟨call, τ', H', L', k1, k2, ?_, k4, k5⟩
            unfold opsA stepA
            simp only [ho, wanted_no hg hd h1]
            exact k3
        · exact h.elim
/-- a region whose order is that of the text -/
theorem ARun.region {id : Nat} {τ : List AV} {L : SH} {Q : Ex → List AV → SH → Prop} (fit : Fit P F) (h : W.sq P F ops (List.range ops.size) τ L fun τ' L' => Q .normal τ' L') : ARun P (.region id ops false) τ L Q := fun H hb hs => by
  obtain ⟨call, τ', H', L', k1, k2, k3, k4, k5⟩ := sq_sound (base := H.next) (List.range ops.size) τ L _ h List.nodup_range { H with next := H.next + ops.size } (hb.bump _ _ (Nat.le_add_right _ _)) (hs.congr fun _ => rfl)
    (fun i hi => ⟨Nat.add_lt_add_left (List.mem_range.1 hi) _, hb _ (Nat.le_add_right _ _)⟩) (Nat.le_add_right _ _)
  have hr : regionA P F call ops false τ H = some (τ', H') := by simp only [regionA, Bool.false_eq_true, if_false]; exact k3
  exact ⟨.normal, τ', H', L', region_sound fit k1 hr, ⟨Nat.le_trans (Nat.le_add_right _ _) k4.next, k4.bd, k4.sub, k4.keep, k4.dom, k4.fresh⟩, k5⟩
end
end Go.Proofs.Ytadjimfkfmojkaa.Am

end
section
namespace Go.Proofs.Ytadjimfkfmojkaa.Am
open Go.RowKit
set_option linter.unusedVariables false
section
variable {P : Program} {F : TypeId → Option (List TypeId)} {ops : Array Oper} {base : Nat} {ρ : Operand → AV} {L : SH}
theorem call_inv {o : Op} {b : Nat} {g : FuncId} {args : List AV} {H : Heap} (h : aop P F o ρ b H = some (.call g args)) : ∃ c f, o = .call c ∧ c.callee = .value f := by
  cases o with
  | call c =>
    simp only [aop] at h
    split at h
    · rename_i bi _
      cases hbi : builtinA P H b bi c.argTypes (c.args.toList.map ρ) with
      | none => rw [hbi] at h; cases h
      | some r => rw [hbi] at h; cases h
    · rename_i f hf; exact ⟨c, f, rfl, hf⟩
    · cases h
  | makeFunc fn first cap => cases fn <;> simp only [aop] at h <;> (try split at h) <;> simp at h
  | _ =>
    exfalso
    simp only [aop] at h
    repeat' (first | (cases h; done) | (simp at h; done) | split at h)
theorem nonmem_reads {o : Op} (h : W.isMem o = false) : readsA o ρ = [] ∧ writesA o ρ = [] := by
  cases o with
  | call c =>
    simp only [W.isMem] at h
    simp only [readsA, writesA]
    split at h
    · cases h
    · cases h
    · rename_i hn hn2
      constructor <;> · split
                        · rename_i he; exact absurd he hn
                        · rename_i he; exact absurd he hn2
                        · rfl
  | _ => first | (cases h; done) | exact ⟨rfl, rfl⟩
theorem rowsR_reads {n : Nat} {s : AV} {rows : List (List AV)} (h : W0.rowsR L n s rows) : ∀ c ∈ blocksOf s, c ∈ L.names := by
  intro c hc
  unfold W0.rowsR at h
  split at h
  · simp [blocksOf] at hc
  · simp [blocksOf] at hc
  · simp [blocksOf] at hc
  · obtain ⟨x, h1, _⟩ := h
    simp only [blocksOf, List.mem_singleton] at hc
    subst hc
    exact List.mem_map_of_mem (f := Prod.fst) h1
  · exact h.elim
theorem op_reads {o : Op} {K : AV → SH → Prop} (h : W0.op P F o ρ L K) : ∀ c ∈ readsA o ρ, c ∈ L.names := by
  intro c hc
  cases o with
  | load t a =>
    simp only [W0.op] at h
    split at h
    · simp only [readsA] at hc
      unfold W0.loadR at h
      split at h
      · rename_i ha
        obtain ⟨x, r, v, g1, _⟩ := h
        rw [ha] at hc
        simp only [blocksOf, List.mem_singleton] at hc
        subst hc
        exact List.mem_map_of_mem (f := Prod.fst) g1
      · rename_i ha; rw [ha] at hc; simp [blocksOf] at hc
      · exact h.elim
    · exact h.elim
  | store t a x =>
    simp only [W0.op] at h
    split at h
    · simp only [readsA] at hc
      unfold W0.storeR at h
      split at h
      · rename_i ha
        obtain ⟨x, r, cs, L', _, _, _, _, _, g1, _⟩ := h
        rw [ha] at hc
        simp only [blocksOf, List.mem_singleton] at hc
        subst hc
        exact List.mem_map_of_mem (f := Prod.fst) g1.mem
      · exact h.elim
    · exact h.elim
  | indexAddr t x ix =>
    simp only [W0.op] at h
    simp only [readsA] at hc
    split at h
    · split at h
      · unfold W0.idxR at h
        split at h
        · rename_i hx
          obtain ⟨k, i, y, _, _, _, g1, _⟩ := h
          rw [hx] at hc
          simp only [slOf, List.mem_singleton] at hc
          subst hc
          exact List.mem_map_of_mem (f := Prod.fst) g1
        · rename_i hx; rw [hx] at hc; simp [slOf] at hc
        · exact h.elim
      · exact h.elim
    · split at h
      · obtain ⟨k, i, _, _, _, g⟩ := h
        split at g
        · rename_i hx; rw [hx] at hc; simp [slOf] at hc
        · rename_i hx; rw [hx] at hc; simp [slOf] at hc
        · exact g.elim
      · exact h.elim
    · exact h.elim
  | slice t x lo hi mx =>
    simp only [W0.op] at h
    simp only [readsA] at hc
    split at h
    · exact h.elim
    · split at h
      · split at h
        · obtain ⟨len, l, hh, m, _, _, _, _, _, _, _, g⟩ := h
          split at g
          · rename_i hx; rw [hx] at hc; simp [slOf] at hc
          · rename_i hx
            obtain ⟨⟨y, g1, _⟩, _⟩ := g
            rw [hx] at hc
            simp only [slOf, List.mem_singleton] at hc
            subst hc
            exact List.mem_map_of_mem (f := Prod.fst) g1
          · rename_i hx; rw [hx] at hc; simp [slOf] at hc
          · exact g.elim
        · exact h.elim
      · split at h
        · obtain ⟨s, l, hh, hx, _⟩ := h
          rw [hx] at hc; simp [slOf] at hc
        · exact h.elim
      · exact h.elim
  | call k =>
    simp only [readsA] at hc
    split at hc
    · rename_i hcal
      simp only [W0.op, hcal] at h
      split at h
      · rename_i s x t tx ha ht
        split at h
        · split at h
          · split at h
            · obtain ⟨l, m, g1, g2, _⟩ := h
              simp only [ha, List.flatMap_cons, List.flatMap_nil, List.append_nil, List.mem_append] at hc
              rcases hc with hc | hc
              · exact rowsR_reads g1 c hc
              · exact rowsR_reads g2 c hc
            · exact h.elim
          · exact h.elim
        · exact h.elim
      · exact h.elim
    · rename_i hcal
      simp only [W0.op, hcal] at h
      split at h
      · rename_i x t ha ht
        split at h
        · split at h
          · split at h
            · simp only [ha, List.flatMap_cons, List.flatMap_nil, List.append_nil] at hc
              unfold W0.clearR at h
              split at h
              · rename_i hx; rw [hx] at hc; simp [blocksOf] at hc
              · rename_i hx
                obtain ⟨y, L', _, _, g1, _⟩ := h
                rw [hx] at hc
                simp only [blocksOf, List.mem_singleton] at hc
                subst hc
                exact List.mem_map_of_mem (f := Prod.fst) g1.mem
              · exact h.elim
            · exact h.elim
          · exact h.elim
        · exact h.elim
      · exact h.elim
    · simp at hc
  | _ => simp [readsA] at hc
/-- operations that make and change no memory -/
theorem op_calm {o : Op} {K K2 : AV → SH → Prop} (hK : ∀ v, K v L → K2 v L) (hm : W.isMem o = false) (hv : ∀ c f, o = .call c → c.callee ≠ .value f) (h : W0.op P F o ρ L K) : W0.op P F o ρ L K2 := by
  cases o with
  | call c =>
    simp only [W0.op] at h ⊢
    split at h
    · split at h
      · obtain ⟨n, g1, g2⟩ := h; exact ⟨n, g1, hK _ g2⟩
      · obtain ⟨n, g1, g2⟩ := h; exact ⟨n, g1, hK _ g2⟩
      · split at h
        · exact h
        · exact hK _ h
      · exact h
    · rename_i hc; simp [W.isMem, hc] at hm
    · split at h
      · obtain ⟨k, a, c, g1, g2, g3⟩ := h; exact ⟨k, a, c, g1, g2, hK _ g3⟩
      · exact h
    · split at h
      · obtain ⟨k, a, c, g1, g2, g3⟩ := h; exact ⟨k, a, c, g1, g2, hK _ g3⟩
      · exact h
    · rename_i hc; simp [W.isMem, hc] at hm
    · rename_i f hc; exact absurd hc (hv c f rfl)
    · exact h
  | move x => exact hK _ h
  | assign x => exact hK _ h
  | pick c x y => obtain ⟨t, g1, g2⟩ := h; exact ⟨t, g1, hK _ g2⟩
  | build t parts =>
    simp only [W0.op] at h ⊢
    split at h
    · split at h
      · rename_i hall
        rw [if_pos hall]
        split at h
        · obtain ⟨cs, g1, g2⟩ := h; exact ⟨cs, g1, hK _ g2⟩
        · exact h
      · exact h.elim
    · split at h
      · obtain ⟨cs, g1, g2⟩ := h; exact ⟨cs, g1, hK _ g2⟩
      · exact h
    · exact h
  | nilCheck x =>
    simp only [W0.op, W0.nilchk] at h ⊢
    split at h <;> first | exact hK _ h | exact h
  | binOp op t x y c => obtain ⟨v, g1, g2⟩ := h; exact ⟨v, g1, hK _ g2⟩
  | unOp op t x => obtain ⟨v, g1, g2⟩ := h; exact ⟨v, g1, hK _ g2⟩
  | convert s d x =>
    simp only [W0.op] at h ⊢
    split at h
    · obtain ⟨k, n, g1, g2⟩ := h; exact ⟨k, n, g1, hK _ g2⟩
    · obtain ⟨s, g1, g2⟩ := h; exact ⟨s, g1, hK _ g2⟩
    · exact h
  | makeFunc fn first cap =>
    cases fn with
    | func f =>
      simp only [W0.op] at h ⊢
      split at h
      · rename_i h0; rw [if_pos h0]; exact hK _ h
      · exact h.elim
    | _ => exact h
  | fieldAddr s x f =>
    simp only [W0.op] at h ⊢
    split at h
    · split at h
      · split at h
        · split at h
          · exact h.elim
          · rename_i h0
            rw [if_neg h0]
            unfold W0.faddr at h ⊢
            split at h <;> first | exact hK _ h | exact h
        · exact h
      · exact h
    · exact h
  | field s x f =>
    simp only [W0.op] at h ⊢
    split at h
    · split at h
      · split at h
        · obtain ⟨cs, v, g1, g2, g3⟩ := h; exact ⟨cs, v, g1, g2, hK _ g3⟩
        · exact h
      · exact h
    · exact h
  | index t x ix =>
    simp only [W0.op] at h ⊢
    split at h
    · obtain ⟨s, k, i, y, g1, g2, g3, g4, g5⟩ := h; exact ⟨s, k, i, y, g1, g2, g3, g4, hK _ g5⟩
    · split at h
      · obtain ⟨cs, k, i, v, g1, g2, g3, g4, g5, g6⟩ := h; exact ⟨cs, k, i, v, g1, g2, g3, g4, g5, hK _ g6⟩
      · exact h
    · exact h
  | extract x i => obtain ⟨vs, v, g1, g2, g3⟩ := h; exact ⟨vs, v, g1, g2, hK _ g3⟩
  | _ => first | (cases hm; done) | exact h
theorem meets_free' {x y : Rec} (hw : ∀ c ∈ x.writes, c ∉ y.reads ∧ c ∉ y.writes) (hr : ∀ c ∈ x.reads, c ∉ y.writes) (hm : ∀ c ∈ x.made, c ∉ y.reads ∧ c ∉ y.writes)
    (hc : x.isCall = true → y.isCall = false ∧ y.writes = [] ∧ ∀ c ∈ y.reads, c < x.lo) (hy : y.isCall = true → x.writes = []) : meets x y = false := by
  have ap : ∀ l m : List Nat, (∀ c ∈ l, c ∉ m) → apart l m = true := fun l m h => by simpa [apart] using h
  unfold meets
  rw [ap _ _ fun c h => (hw c h).1, ap _ _ fun c h => (hw c h).2, ap _ _ hr, ap _ _ fun c h => (hm c h).1, ap _ _ fun c h => (hm c h).2]
  cases hx : x.isCall with
  | true =>
    obtain ⟨h1, h2, h3⟩ := hc hx
    simp only [h1, h2, List.isEmpty_nil, Bool.not_true, Bool.false_or, Bool.and_true, Bool.true_and, Bool.false_and, Bool.or_false]
    rw [List.any_eq_false]
    intro c hcm
    have := h3 c hcm
    simp; omega
  | false =>
    cases hyc : y.isCall with
    | true => simp [hy hyc]
    | false => simp
theorem dop_cases {us : List W.WR} {i : Nat} {o : Op} {K : AV → SH → W.Fp → Prop} (h : W.dop P F us i o ρ L K) :
    (∃ c f g cs, o = .call c ∧ c.callee = .value f ∧ ρ f = .fn g cs ∧ ∃ Kc R : SH, L.Perm (Kc ++ R) ∧ (∀ x ∈ us, W.free x ⟨i, [], Kc.names, [], true, []⟩) ∧ CallA P g (c.args.toList.map ρ ++ cs) Kc fun v K' => W.note ⟨[], Kc.names, [], L.names⟩ fun r => K v (K' ++ R) r) ∨
    (W.isMem o = true ∧ W.isCallV o = false ∧ (∀ x ∈ us, W.free x ⟨i, readsA o ρ, writesA o ρ, [], false, []⟩) ∧ W0.op P F o ρ L fun v L' => W.note ⟨readsA o ρ, writesA o ρ, if W0.makes o then blocksOf v else [], []⟩ fun r => K v L' r) ∨
    (W.isMem o = false ∧ W.isCallV o = false ∧ (∀ c f, o = .call c → c.callee ≠ .value f) ∧ W0.op P F o ρ L fun v L' => K v L' ⟨[], [], [], []⟩) := by
  cases o with
  | call c =>
    simp only [W.dop] at h
    split at h
    · rename_i f hf
      have h := h.h
      split at h
      · rename_i g cs hg; exact .inl ⟨c, f, g, cs, rfl, hf, hg, h⟩
      · exact h.elim
    · rename_i hc
      split at h
      · rename_i s x ha
        have h1 : readsA (.call c) ρ = blocksOf (ρ s) ++ blocksOf (ρ x) := by simp [readsA, hc, ha]
        have h2 : writesA (.call c) ρ = blocksOf (ρ s) := by simp [writesA, hc, ha]
        refine .inr (.inl ⟨by simp [W.isMem, hc], by simp [W.isCallV, hc], ?_⟩)
        rw [h1, h2, show W0.makes (.call c) = true by simp [W0.makes, hc]]
        exact ⟨h.h.1, W.op_raw h.h.2⟩
      · exact h.elim
    · rename_i hc
      split at h
      · rename_i x ha
        have h1 : readsA (.call c) ρ = blocksOf (ρ x) := by simp [readsA, hc, ha]
        have h2 : writesA (.call c) ρ = blocksOf (ρ x) := by simp [writesA, hc, ha]
        refine .inr (.inl ⟨by simp [W.isMem, hc], by simp [W.isCallV, hc], ?_⟩)
        rw [h1, h2, show W0.makes (.call c) = false by simp [W0.makes, hc]]
        exact ⟨h.h.1, W.op_raw h.h.2⟩
      · exact h.elim
    · rename_i h1 h2 h3
      refine .inr (.inr ⟨?_, ?_, fun c' f hc' => ?_, W.op_raw h⟩)
      · simp only [W.isMem]
      · simp only [W.isCallV]
      · cases hc'; exact h1 f
  | _ => first | exact .inr (.inl ⟨rfl, rfl, h.h.1, W.op_raw h.h.2⟩) | exact .inr (.inr ⟨rfl, rfl, fun c f hc => (by cases hc), W.op_raw h⟩)
/-- the records of the evaluator and those of W -/
def Rel1 (base k : Nat) (ws : List W.WR) (r : Rec) : Prop := r.op < k ∧
  ((r.isCall = false ∧ r.reads = [] ∧ r.writes = [] ∧ r.made = [base + r.op]) ∨
   ∃ x ∈ ws, x.op = r.op ∧ r.reads = x.reads ∧ (∀ c ∈ r.writes, c ∈ x.writes) ∧ r.isCall = x.isCall ∧ (r.isCall = true → r.made = [] ∧ ∀ c ∈ x.old, c < r.lo) ∧ (r.isCall = false → r.made = [base + r.op]))
theorem Rel1.more {k k' : Nat} {ws ws' : List W.WR} {r : Rec} (h : Rel1 base k ws r) (hk : k ≤ k') (hw : ∀ x ∈ ws, x ∈ ws') : Rel1 base k' ws' r := by
  refine ⟨Nat.lt_of_lt_of_le h.1 hk, ?_⟩
  rcases h.2 with h1 | ⟨x, h1, h2⟩
  · exact .inl h1
  · exact .inr ⟨x, hw x h1, h2⟩
/-- names of the region's own blocks are recorded -/
def Made (base k : Nat) (L : SH) (ws : List W.WR) : Prop := ∀ j, j < k → base + j ∈ L.names → ∃ x ∈ ws, x.op = j ∧ base + j ∈ x.made
/-- an operation that is free of W's records is free of the evaluator's -/
theorem free_meets {k : Nat} {ws : List W.WR} {mask : Nat} {r y : Rec} {wy : W.WR} (hr : Rel1 base k ws r) (hma : Made base k L ws) (hun : mask.testBit r.op = false)
    (hf : ∀ x ∈ ws.filter (fun x => !mask.testBit x.op), W.free x wy) (h1 : ∀ c ∈ y.reads, c ∈ wy.reads) (h2 : ∀ c ∈ y.writes, c ∈ wy.writes) (h3 : y.isCall = wy.isCall) (h4 : wy.writes = [] → y.writes = [])
    (hL1 : ∀ c ∈ wy.reads, c ∈ L.names) (hL2 : ∀ c ∈ wy.writes, c ∈ L.names) : meets r y = false := by
  have mem : ∀ x ∈ ws, x.op = r.op → W.free x wy := fun x hx he => hf x (by rw [List.mem_filter]; exact ⟨hx, by rw [he, hun]; rfl⟩)
  have made : ∀ c ∈ [base + r.op], c ∉ y.reads ∧ c ∉ y.writes := fun c hc => by
    rw [List.mem_singleton] at hc
    subst hc
    constructor
    · intro hy
      obtain ⟨x, g1, g2, g3⟩ := hma r.op hr.1 (hL1 _ (h1 _ hy))
      exact ((mem x g1 g2).2.2.1 _ g3).1 (h1 _ hy)
    · intro hy
      obtain ⟨x, g1, g2, g3⟩ := hma r.op hr.1 (hL2 _ (h2 _ hy))
      exact ((mem x g1 g2).2.2.1 _ g3).2 (h2 _ hy)
  rcases hr.2 with ⟨g1, g2, g3, g4⟩ | ⟨x, g1, g2, g3, g4, g5, g6, g7⟩
  · exact meets_free' (by simp [g3]) (by simp [g2]) (by rw [g4]; exact made) (by simp [g1]) (fun _ => g3)
  · obtain ⟨f1, f2, f3, f4, f5⟩ := mem x g1 g2
    refine meets_free' (fun c hc => ⟨fun h => (f1 c (g4 c hc)).1 (h1 c h), fun h => (f1 c (g4 c hc)).2 (h2 c h)⟩) (fun c hc h => f2 c (g3 ▸ hc) (h2 c h)) ?_ (fun hc => ?_) (fun hc => ?_)
    · cases hrc : r.isCall with
      | true => rw [(g6 hrc).1]; simp
      | false => rw [g7 hrc]; exact made
    · obtain ⟨e1, e2, e3⟩ := f4 (g5 ▸ hc)
      exact ⟨h3.trans e1, h4 e2, fun c h => (g6 hc).2 c (e3 c (h1 c h))⟩
    · have := f5 (h3 ▸ hc)
      cases hw : r.writes with
      | nil => rfl
      | cons c l => have h := g4 c (by rw [hw]; simp); rw [this] at h; simp at h
theorem drawStep_agree {call1 call2 : FuncId → List AV → Heap → Option (AV × Heap)} {n i mask : Nat} {τ : List AV} {H : Heap} (hag : ∀ f args H, n < H.next → call1 f args H = call2 f args H) (hn : n < H.next) : drawStep P F call1 ops base i mask τ H = drawStep P F call2 ops base i mask τ H := by
  unfold drawStep
  split
  · rfl
  · split
    · split
      · rfl
      · rw [hag _ _ _ (by show n < (hideA base mask i H).next; rw [(hide_next base mask i H).1]; exact hn)]
      · rfl
    · rfl
    · rfl
theorem drawA_agree {call1 call2 : FuncId → List AV → Heap → Option (AV × Heap)} {n : Nat} {before : List Nat} (hag : ∀ f args H, n < H.next → call1 f args H = call2 f args H) (hs : Sound P call1) : ∀ (l : List Nat) (τ : List AV) (H : Heap) (rs : List Rec) (r : List AV × Heap × List Rec), n < H.next → drawA P F call1 ops base before l τ H rs = some r → drawA P F call2 ops base before l τ H rs = some r
  | [], τ, H, rs, r, _, h => h
  | i :: l, τ, H, rs, r, hn, h => by
    have key : ∀ {τ1 H1 x}, drawStep P F call1 ops base i (before.getD i 0) τ H = some (τ1, H1, x) → H.next ≤ H1.next := fun {τ1 H1 x} hd => by
      have : ∃ l, drawA P F call1 ops base before [i] τ H [] = some (τ1, H1, l) := by
        unfold drawA
        rw [hd]
        cases x
        · exact ⟨_, rfl⟩
        · exact ⟨_, rfl⟩
      obtain ⟨l, this⟩ := this
      exact drawA_next hs [i] _ _ _ _ _ _ this
    unfold drawA at h ⊢
    rw [← drawStep_agree (call1 := call1) hag hn]
    split at h
    · rename_i hd; exact drawA_agree hag hs l _ _ _ r (Nat.lt_of_lt_of_le hn (key hd)) h
    · rename_i hd
      split at h
      · rename_i hc; rw [if_pos hc]; exact drawA_agree hag hs l _ _ _ r (Nat.lt_of_lt_of_le hn (key hd)) h
      · cases h
    · cases h
theorem range'_succ (k m : Nat) : List.range' k (m + 1) = k :: List.range' (k + 1) m := rfl
theorem dr_sound {before : List Nat} : ∀ (m k : Nat) (τ : List AV) (L : SH) (ws : List W.WR) (K : List AV → SH → Prop), W.dr P F ops before (List.range' k m) τ L ws K → ∀ (H : Heap) (rs : List Rec), Bd H → Sub L H →
    (∀ j, k ≤ j → j < k + m → base + j < H.next ∧ H.get (base + j) = none) → base + k ≤ H.next → (∀ r ∈ rs, Rel1 base k ws r) → Made base k L ws →
    ∃ call τ' H' L' rs', Sound P call ∧ Chgs call ∧ drawA P F call ops base before (List.range' k m) τ H rs = some (τ', H', rs') ∧ Fr base L H L' H' ∧ K τ' L'
  | 0, k, τ, L, ws, K, h, H, rs, hb, hs, _, _, _, _ => ⟨noCall, τ, H, L, rs, noCall_sound P, fun _ _ _ _ _ _ h => (by cases h), rfl, .refl hb hs, h⟩
  | m + 1, k, τ, L, ws, K, h, H, rs, hb, hs, hfr, hbase, hrel, hma => by
    rw [range'_succ] at h ⊢
    have h0 := hfr k (Nat.le_refl _) (by omega)
    have hlt : ∀ c, c ∈ L.names → c < H.next := fun c hc => by
      obtain ⟨x, _, hx⟩ := hs.mem hc
      rcases Nat.lt_or_ge c H.next with h1 | h1
      · exact h1
      · rw [hb c h1] at hx; cases hx
    unfold W.dr at h
    split at h
    · exact h.elim
    · rename_i o ho
      have go : ∀ (Kc : AV → SH → W.Fp → Prop), wantedA ops o τ = some true → W.dop P F (ws.filter fun x => !(before.getD k 0).testBit x.op) k o.op (aev τ) L Kc → (∀ v L1 r, Kc v L1 r → W.dr P F ops before (List.range' (k + 1) m) (putA τ o.dst v) L1 (W.push k o.op r ws) K) →
          ∃ call τ' H' L' rs', Sound P call ∧ Chgs call ∧ drawA P F call ops base before (k :: List.range' (k + 1) m) τ H rs = some (τ', H', rs') ∧ Fr base L H L' H' ∧ K τ' L' := by
        intro Kc hw hop hk
        -- a simple operation
        have val : ∀ (v : AV) (H1 : Heap) (L1 : SH) (wr : W.Fp), aop P F o.op (aev τ) (base + k) H = some (.val v H1) → OpFr (base + k) L H L1 H1 → Kc v L1 wr →
            (∀ r ∈ rs, (before.getD k 0).testBit r.op = false → meets r ⟨k, readsA o.op (aev τ), writesA o.op (aev τ), [base + k], false, 0, 0⟩ = false) →
            Rel1 base (k + 1) (W.push k o.op wr ws) ⟨k, readsA o.op (aev τ), writesA o.op (aev τ), [base + k], false, 0, 0⟩ → (∀ x ∈ ws, x ∈ W.push k o.op wr ws) → (base + k ∈ L1.names → ∃ x ∈ W.push k o.op wr ws, x.op = k ∧ base + k ∈ x.made) →
            ∃ call τ' H' L' rs', Sound P call ∧ Chgs call ∧ drawA P F call ops base before (k :: List.range' (k + 1) m) τ H rs = some (τ', H', rs') ∧ Fr base L H L' H' ∧ K τ' L' := by
          intro v H1 L1 wr g1 g2 g3 g4 g5 g6 g7
          obtain ⟨call, τ', H', L', rs', k1, k2, k3, k4, k5⟩ := dr_sound m (k + 1) (putA τ o.dst v) L1 (W.push k o.op wr ws) K (hk v L1 wr g3) { H1 with log := H.log } (⟨k, readsA o.op (aev τ), writesA o.op (aev τ), [base + k], false, 0, 0⟩ :: rs) g2.bd (g2.sub.congr fun _ => rfl) (fun j h1 h2 => by
              have hj0 := hfr j (by omega) (by omega)
              exact ⟨by show base + j < H1.next; rw [g2.next]; exact hj0.1, g2.dom _ (by omega) hj0.2⟩) (by show base + (k + 1) ≤ H1.next; rw [g2.next]; omega) (fun r hr => by
              rcases List.mem_cons.1 hr with rfl | hr
              · exact g5
              · exact (hrel r hr).more (Nat.le_succ _) g6) (fun j hj hm => by
              rcases g2.fresh _ hm with h1 | h1
              · have : j = k := by omega
                subst this
                exact g7 hm
              · have hjk : j ≠ k := fun e => by subst e; exact hs.not_mem h0.2 h1
                obtain ⟨x, e1, e2⟩ := hma j (by omega) h1
                exact ⟨x, g6 x e1, e2⟩)
          refine ⟨call, τ', H', L', rs', k1, k2, ?_, Fr.trans (H' := { H1 with log := H.log }) ⟨Nat.le_of_eq g2.next.symm, g2.bd, g2.sub.congr fun _ => rfl, g2.keep, fun c hc => g2.dom c (by omega), fun c hc hlt => (g2.fresh c hc).resolve_left (by omega)⟩ k4 (Nat.le_refl _), k5⟩
          unfold drawA drawStep
          simp only [ho, hw, g1]
          rw [if_pos]
          · exact k3
          · rw [List.all_eq_true]
            intro r hr
            cases hm : (before.getD k 0).testBit r.op with
            | true => rfl
            | false => rw [g4 r hr hm]; rfl
        rcases dop_cases hop with ⟨c, f, g, cs, e1, e2, e3, hd⟩ | ⟨hm, hcv, hfree, hop⟩ | ⟨hm, hcv, hv, hop⟩
        · -- a call
          obtain ⟨Kp, R, hL, hfree, bd, hcall⟩ := hd
          have hs' := hs.perm hL
          have hn : ∀ b, b ∈ L.names ↔ b ∈ Kp.names ∨ b ∈ R.names := fun b => by rw [(hL.map Prod.fst).mem_iff, List.map_append, List.mem_append]
          generalize hmask : before.getD k 0 = mask at hfree hop
          let Hid : Nat → Prop := fun c => ∃ j, j < k ∧ mask.testBit j = false ∧ c = base + j
          have hHid : ∀ c, Hid c → c < H.next ∧ base ≤ c := fun c ⟨j, hj, _, hc⟩ => by omega
          have hKp : ∀ c, c ∈ Kp.names → ¬ Hid c := fun c hc ⟨j, hj, hmj, hcj⟩ => by
            subst hcj
            obtain ⟨x, f1, f2, f3⟩ := hma j hj ((hn _).2 (.inl hc))
            exact ((hfree x (by rw [List.mem_filter]; exact ⟨f1, by rw [f2, hmj]; rfl⟩)).2.2.1 _ f3).2 hc
          have hhg : ∀ c, ({ hideA base mask k H with log := [] } : Heap).get c = if Hid c then none else H.get c := fun c => hide_get base mask k H c
          have hhn : ({ hideA base mask k H with log := [] } : Heap).next = H.next := (hide_next base mask k H).1
          generalize hHh : ({ hideA base mask k H with log := [] } : Heap) = Hh at hhg hhn
          have hhl : Hh.log = [] := by rw [← hHh]
          have hbh : Bd Hh := fun c hc => by
            rw [hhg]
            split
            · rfl
            · exact hb c (by omega)
          have hsh : Sub Kp Hh := ⟨hs'.left.nd, fun p hp => by rw [hhg, if_neg (hKp _ (List.mem_map_of_mem hp))]; exact hs'.left.get p hp⟩
          obtain ⟨v, H1, K1, c1, c2, c3⟩ := hcall Hh hbh hsh
          have hnx := c2.next
          let Ho : Heap := { H1 with next := H1.next + 1, log := Kp.names }
          let Hn : Heap := { showA base mask H k Ho with log := H.log }
          have hng : ∀ c, Hn.get c = if Hid c then H.get c else H1.get c := fun c => show_get base mask H k Ho c
          have hnn : Hn.next = H1.next + 1 := (show_next base mask H k Ho).1
          have hK1 : ∀ c, c ∈ K1.names → ¬ Hid c := fun c hc hh => hKp c (c2.fresh c hc (by have := (hHid c hh).1; omega)) hh
          have hR : ∀ p ∈ R, Hn.get p.1 = some p.2 ∧ p.1 ∉ K1.names := fun p hp => by
            rw [hng]
            by_cases hh : Hid p.1
            · rw [if_pos hh]; exact ⟨hs'.right.get p hp, fun hc => hK1 _ hc hh⟩
            · rw [if_neg hh]
              exact c2.keep p.1 p.2 (by rw [hhg, if_neg hh]; exact hs'.right.get p hp) (fun hk => hs'.disj hk (List.mem_map_of_mem hp))
          have frn : Fr base L H (K1 ++ R) Hn := by
            refine ⟨by rw [hnn]; omega, fun c hc => ?_, ⟨?_, fun p hp => ?_⟩, fun b x h1 h2 => ?_, fun b hb' h1 => ?_, fun b h1 h2 => ?_⟩
            · rw [hnn] at hc
              rw [hng, if_neg (fun hh => by have := (hHid c hh).1; omega)]
              exact c2.bd c (by omega)
            · unfold SH.names
              rw [List.map_append, List.nodup_append]
              refine ⟨c2.sub.nd, hs'.right.nd, fun a ha b hb he => ?_⟩
              subst he
              obtain ⟨p, hp, rfl⟩ := List.mem_map.1 hb
              exact (hR p hp).2 ha
            · rcases List.mem_append.1 hp with hp | hp
              · rw [hng, if_neg (hK1 _ (List.mem_map_of_mem hp))]; exact c2.sub.get p hp
              · exact (hR p hp).1
            · rw [hn] at h2
              have : Hn.get b = some x ∧ b ∉ K1.names := by
                rw [hng]
                by_cases hh : Hid b
                · rw [if_pos hh]; exact ⟨h1, fun hc => hK1 _ hc hh⟩
                · rw [if_neg hh]
                  exact c2.keep b x (by rw [hhg, if_neg hh]; exact h1) (fun hk => h2 (.inl hk))
              refine ⟨this.1, fun hk => ?_⟩
              unfold SH.names at hk
              rw [List.map_append, List.mem_append] at hk
              rcases hk with hk | hk
              · exact this.2 hk
              · exact h2 (.inr hk)
            · have hh : ¬ Hid b := fun hh => by have := (hHid b hh).2; omega
              rw [hng, if_neg hh]
              exact c2.dom b (by omega) (by rw [hhg, if_neg hh]; exact h1)
            · unfold SH.names at h1
              rw [List.map_append, List.mem_append] at h1
              rw [hn]
              rcases h1 with h1 | h1
              · exact .inl (c2.fresh b h1 (by omega))
              · exact .inr h1
          let r : Rec := ⟨k, [], Ho.log.filter (fun c => (Hh.get c).isSome), [], true, H.next, Ho.next⟩
          obtain ⟨call, τ', H', L', rs', k1, k2, k3, k4, k5⟩ := dr_sound m (k + 1) (putA τ o.dst v) (K1 ++ R) ((⟨k, [], Kp.names, [], true, L.names⟩ : W.WR) :: ws) K (by have := hk v _ _ (c3.h _ rfl); rw [show W.push k o.op ⟨[], Kp.names, [], L.names⟩ ws = (⟨k, [], Kp.names, [], true, L.names⟩ : W.WR) :: ws from by simp [W.push, W.isCallV, e1, e2]] at this; exact this) Hn (r :: rs) frn.bd frn.sub (fun j h1 h2 => by
              have hj0 := hfr j (by omega) (by omega)
              have hh : ¬ Hid (base + j) := fun ⟨q, hq, _, he⟩ => by omega
              refine ⟨by rw [hnn]; omega, ?_⟩
              rw [hng, if_neg hh]
              exact c2.dom _ (by omega) (by rw [hhg, if_neg hh]; exact hj0.2)) (by rw [hnn]; omega) (fun q hq => by
              rcases List.mem_cons.1 hq with rfl | hq
              · exact ⟨Nat.lt_succ_self _, .inr ⟨_, List.mem_cons_self, rfl, rfl, fun c hc => (List.mem_filter.1 hc).1, rfl, fun _ => ⟨rfl, hlt⟩, fun h => (by cases h)⟩⟩
              · exact (hrel q hq).more (Nat.le_succ _) fun x hx => List.mem_cons_of_mem _ hx) (fun j hj hm => by
              have hjk : base + j ∈ L.names := by
                rw [hn]
                unfold SH.names at hm
                rw [List.map_append, List.mem_append] at hm
                rcases hm with hm | hm
                · exact .inl (c2.fresh _ hm (by omega))
                · exact .inr hm
              have hne : j ≠ k := fun e => by subst e; exact hs.not_mem h0.2 hjk
              obtain ⟨x, f1, f2⟩ := hma j (by omega) hjk
              exact ⟨x, List.mem_cons_of_mem _ f1, f2⟩)
          refine ⟨ora g (c.args.toList.map (aev τ) ++ cs) Hh v Ho call, τ', H', L', rs', ora_sound k1 (c1.bump _) (by show Hh.next ≤ H1.next + 1; omega) bd, ora_chg k2 fun _ => c2.chg _ (by rw [hhl]; simp) (fun b hb => hb) _ (Nat.le_succ _), ?_, frn.trans k4 (Nat.le_refl _), k5⟩
          have ha : aop P F o.op (aev τ) (base + k) H = some (.call g (c.args.toList.map (aev τ) ++ cs)) := by rw [e1]; simp [aop, e2, e3]
          have hbm : before.getD k 0 = mask := hmask
          have hs1 : drawStep P F (ora g (c.args.toList.map (aev τ) ++ cs) Hh v Ho call) ops base k mask τ H = some (putA τ o.dst v, Hn, some r) := by
            unfold drawStep
            simp only [ho, hw, ha, hHh, ora_hit]
            rw [show (hideA base mask k H) = { Hh with log := H.log } from by rw [← hHh]; exact (congrArg (fun l => ({ hideA base mask k H with log := l } : Heap)) (hide_next base mask k H).2)]
            rfl
          unfold drawA
          rw [hbm, hs1]
          simp only []
          rw [if_pos]
          · refine drawA_agree (n := Hh.next) (fun f args K hK => ?_) k1 _ _ _ _ _ (by rw [hnn]; omega) k3
            exact (ora_later hK).symm
          · rw [List.all_eq_true]
            intro q hq
            cases hmq : mask.testBit q.op with
            | true => rfl
            | false =>
              rw [free_meets (wy := ⟨k, [], Kp.names, [], true, []⟩) (hrel q hq) hma hmq hfree (by simp [r]) (fun c hc => (List.mem_filter.1 hc).1) rfl (fun he => by show List.filter _ Kp.names = []; rw [show Kp.names = [] from he]; rfl) (by simp) (fun c hc => (hn c).2 (.inl hc))]
              rfl
        · -- memory
          rcases op_goes (b := base + k) hb hs h0.1 h0.2 hop with ⟨v, H1, L1, g1, g2, g3, g4⟩ | ⟨g, args, g1, g2⟩
          · have hp : W.push k o.op ⟨readsA o.op (aev τ), writesA o.op (aev τ), if W0.makes o.op then blocksOf v else [], []⟩ ws = (⟨k, readsA o.op (aev τ), writesA o.op (aev τ), if W0.makes o.op then blocksOf v else [], false, []⟩ : W.WR) :: ws := by simp [W.push, hm, hcv]
            refine val v H1 L1 _ g1 g2 (g4.h _ rfl) (fun r hr hun => ?_) (by rw [hp]; exact ⟨Nat.lt_succ_self _, .inr ⟨_, List.mem_cons_self, rfl, rfl, fun c h => h, rfl, fun h => (by cases h), fun _ => rfl⟩⟩) (fun x hx => by rw [hp]; exact List.mem_cons_of_mem _ hx) (fun hm => by rw [hp]; exact ⟨_, List.mem_cons_self, rfl, by show _ ∈ (if W0.makes o.op = true then blocksOf v else []); rw [if_pos (g3 hm).1]; exact (g3 hm).2⟩)
            exact free_meets (wy := ⟨k, readsA o.op (aev τ), writesA o.op (aev τ), [], false, []⟩) (hrel r hr) hma hun hfree (fun c h => h) (fun c h => h) rfl (fun h => h) (op_reads hop) (fun c hc => op_reads hop c (writes_reads hc))
          · obtain ⟨c, f, e1, e2⟩ := call_inv g1
            rw [e1] at hm
            simp [W.isMem, e2] at hm
        · -- no memory
          have hop' := op_calm (K2 := fun v L' => Kc v L' ⟨[], [], [], []⟩ ∧ L' = L) (fun v h => ⟨h, rfl⟩) hm hv hop
          rcases op_goes (b := base + k) hb hs h0.1 h0.2 hop' with ⟨v, H1, L1, g1, g2, g3, g4, g5⟩ | ⟨g, args, g1, g2⟩
          · obtain ⟨n1, n2⟩ := nonmem_reads (ρ := aev τ) hm
            subst g5
            have hp : W.push k o.op ⟨[], [], [], []⟩ ws = ws := by simp [W.push, hm, hcv]
            refine val v H1 _ ⟨[], [], [], []⟩ g1 g2 g4 (fun r hr hun => ?_) ⟨Nat.lt_succ_self _, .inl ⟨rfl, n1, n2, rfl⟩⟩ (fun x hx => by rw [hp]; exact hx) (fun h => absurd h (hs.not_mem h0.2))
            rw [n1, n2]
            refine meets_free' (by simp) (by simp) (by simp) (by simp) (by simp)
          · obtain ⟨c, f, e1, e2⟩ := call_inv g1
            exact absurd e2 (hv c f e1)
      split at h
      · rename_i hg
        exact go _ (wanted_none hg) h fun v L1 r h => h
      · rename_i j want hg
        split at h
        · rename_i d hd
          rcases h.h with ⟨h1, h2⟩ | ⟨h1, h2⟩
          · exact go _ (wanted_yes hg hd h1) h2 fun v L1 r h => h
          · have hps : ∀ x ∈ ws, x ∈ W.push k o.op ⟨[], [], [], L.names⟩ ws := fun x hx => by
              unfold W.push
              split
              · exact List.mem_cons_of_mem _ hx
              · exact hx
            obtain ⟨call, τ', H', L', rs', k1, k2, k3, k4, k5⟩ := dr_sound m (k + 1) (putA τ o.dst undefA) L _ K h2 H rs hb hs (fun j h1 h2 => hfr j (by omega) (by omega)) (by omega) (fun r hr => (hrel r hr).more (Nat.le_succ _) hps) (fun j hj hm => by
              have hne : j ≠ k := fun e => by subst e; exact hs.not_mem h0.2 hm
              obtain ⟨x, e1, e2⟩ := hma j (by omega) hm
              exact ⟨x, hps x e1, e2⟩)
            refine ⟨call, τ', H', L', rs', k1, k2, ?_, k4, k5⟩
            unfold drawA drawStep
            simp only [ho, wanted_no hg hd h1]
            exact k3
        · exact h.elim
/-- a region whose order is drawn -/
theorem ARun.draw {id : Nat} {τ : List AV} {L : SH} {Q : Ex → List AV → SH → Prop} (fit : Fit P F) (hst : StatOk ops) (hed : EdgesOk ops) (h : W.dr P F ops (masks ops.toList []) (List.range' 0 ops.size) τ L [] fun τ' L' => Q .normal τ' L') : ARun P (.region id ops true) τ L Q := fun H hb hs => by
  obtain ⟨call, τ', H', L', rs', k1, k2, k3, k4, k5⟩ := dr_sound (base := H.next) ops.size 0 τ L [] _ h { H with next := H.next + ops.size } [] (hb.bump _ _ (Nat.le_add_right _ _)) (hs.congr fun _ => rfl)
    (fun i _ hi => ⟨by show H.next + i < H.next + ops.size; omega, hb _ (Nat.le_add_right _ _)⟩) (by show H.next + 0 ≤ H.next + ops.size; omega) (by simp) (fun j hj => by omega)
  have hr : regionA P F call ops true τ H = some (τ', { H' with log := rs'.flatMap (·.writes) ++ H'.log }) := by
    simp only [regionA, if_true]
    rw [List.range_eq_range', k3]
  obtain ⟨n1, n2⟩ := draw_sound fit k1 k2 hst hed hr
  exact ⟨.normal, τ', _, L', ⟨n1, fun w σ a hW hτ Q hQ => n2 id w σ a hW hτ Q hQ⟩, ⟨Nat.le_trans (Nat.le_add_right _ _) k4.next, k4.bd, k4.sub.congr fun _ => rfl, k4.keep, k4.dom, k4.fresh⟩, k5⟩
end
end Go.Proofs.Ytadjimfkfmojkaa.Am

end
section
namespace Go.Proofs.Ytadjimfkfmojkaa.Am
open Go.RowKit
set_option linter.unusedVariables false
/-- a value as it reads; the blocks K are never written again -/
inductive Fz (K : SH) : AV → AV → Prop where
  | refl (v : AV) : Fz K v v
  | nils : Fz K .nils (.lst [])
  | nile : Fz K .nils .emp
  | emp : Fz K .emp (.lst [])
  | sl0 (b i : Nat) : Fz K (.sl b i 0) (.lst [])
  | sl (b i n : Nat) (x : Blk) (rows : List (List AV)) (hm : (b, x) ∈ K) (hs : 0 < x.size) (hn : 0 < n) (hl : rows.length = n) (hle : i + n ≤ x.rows.length)
      (hr : ∀ (j : Nat) (r r2 : List AV), x.rows[i + j]? = some r → rows[j]? = some r2 → r.length = r2.length)
      (hc : ∀ (j : Nat) (r r2 : List AV) (q : Nat) (a a2 : AV), x.rows[i + j]? = some r → rows[j]? = some r2 → r[q]? = some a → r2[q]? = some a2 → Fz K a a2) : Fz K (.sl b i n) (.lst rows)
  | ptr (b i off : Nat) (x : Blk) (rows : List (List AV)) (hm : (b, x) ∈ K) (hs : 0 < x.size) (hl : rows.length = x.rows.length) (hn : 0 < rows.length)
      (hr : ∀ (j : Nat) (r r2 : List AV), x.rows[j]? = some r → rows[j]? = some r2 → r.length = r2.length)
      (hc : ∀ (j : Nat) (r r2 : List AV) (q : Nat) (a a2 : AV), x.rows[j]? = some r → rows[j]? = some r2 → r[q]? = some a → r2[q]? = some a2 → Fz K a a2) : Fz K (.ptr b i off) (.pptr rows i off)
  | agg (cs cs2 : List AV) (hl : cs.length = cs2.length) (h : ∀ (i : Nat) (a a2 : AV), cs[i]? = some a → cs2[i]? = some a2 → Fz K a a2) : Fz K (.agg cs) (.agg cs2)
  | tup (cs cs2 : List AV) (hl : cs.length = cs2.length) (h : ∀ (i : Nat) (a a2 : AV), cs[i]? = some a → cs2[i]? = some a2 → Fz K a a2) : Fz K (.tup cs) (.tup cs2)
section
variable {P : Program} {F : TypeId → Option (List TypeId)} {w : World} {σ : Sig} {H H2 : Heap} {K : SH}
theorem fz_rep (hW : WRel w σ H) (hK : Sub K H) (hown : ∀ c, Own σ H2 c → Own σ H c) (hout : ∀ b ∈ K.names, ∀ pl, σ b = some pl → ¬ Own σ H2 pl.block) {a a2 : AV} (hz : Fz K a a2) : ∀ {v : Value}, Rep w σ (Own σ H) a v → Rep w σ (Own σ H2) a2 v := by
  induction hz with
  | refl v => intro u h; exact h.shrink hown
  | nils => intro u h; cases h; exact .lst0 _ _ (by unfold maxLen; omega)
  | nile => intro u h; cases h; exact .emp _
  | emp => intro u h; cases h; exact .lst0 _ _ (by unfold maxLen; omega)
  | sl0 b i =>
    intro u h
    obtain ⟨pl, ad, cap, rfl, hs, hn, hm, ha⟩ := h.sl_inv
    exact .lst0 _ _ hm
  | sl b i n x rows hm hs hn hl hle hr hc ih =>
    intro u h
    obtain ⟨pl, ad, cap, rfl, hsg, hn', hmx, ha⟩ := h.sl_inv
    obtain ⟨rfl, cs, ty, hcs, hroom⟩ := ha (by omega)
    obtain ⟨pl', cs', e', g1, g2⟩ := hW.live b x (hK.get _ hm)
    rw [hsg] at g1
    cases g1
    have row : ∀ (j : Nat) (r2 : List AV), rows[j]? = some r2 → ∃ r, x.rows[i + j]? = some r ∧ r.length = r2.length := fun j r2 h2 => by
      have hj := lt_of_some h2
      have : i + j < x.rows.length := by omega
      exact ⟨_, List.getElem?_eq_getElem this, hr j _ r2 (List.getElem?_eq_getElem this) h2⟩
    have := Rep.lst (w := w) (σ := σ) (T := Own σ H2) rows pl.block (pl.base + i * pl.size) pl.size cap
      ⟨hout b (List.mem_map_of_mem hm) pl hsg, fun q r2 h2 => by
        obtain ⟨r, k1, k2⟩ := row q r2 h2
        rw [← k2, g2.even _ r k1, g2.size], fun q j hq hj => by
        obtain ⟨r, k1, k2⟩ := row q rows[q] (List.getElem?_eq_getElem hq)
        have hj' : j < r.length := by rw [g2.even _ r k1, ← g2.size]; exact hj
        obtain ⟨u, hu, _⟩ := g2.row k1 j _ (List.getElem?_eq_getElem hj')
        rw [Nat.add_mul, ← Nat.add_assoc] at hu
        exact ⟨u, hu⟩, by rw [g2.size]; exact hs, by omega⟩ (by omega) hmx
      (fun q r2 j y u h2 hy hu => by
        obtain ⟨r, k1, k2⟩ := row q r2 h2
        have hj' : j < r.length := by rw [k2]; exact lt_of_some hy
        obtain ⟨u', hu', hz⟩ := g2.row k1 j _ (List.getElem?_eq_getElem hj')
        rw [Nat.add_mul, ← Nat.add_assoc] at hu'
        rw [hu] at hu'
        cases hu'
        exact ih q r r2 j _ y k1 h2 (List.getElem?_eq_getElem hj') hy hz)
    rw [hl] at this
    exact this
  | ptr b i off x rows hm hs hl hn hr hc ih =>
    intro u h
    cases h with
    | ptr _ _ _ pl hsg =>
    obtain ⟨pl', cs', e', g1, g2⟩ := hW.live b x (hK.get _ hm)
    rw [hsg] at g1
    cases g1
    have row : ∀ (j : Nat) (r2 : List AV), rows[j]? = some r2 → ∃ r, x.rows[j]? = some r ∧ r.length = r2.length := fun j r2 h2 => by
      have hj := lt_of_some h2
      have : j < x.rows.length := by omega
      exact ⟨_, List.getElem?_eq_getElem this, hr j _ r2 (List.getElem?_eq_getElem this) h2⟩
    exact Rep.pptr (w := w) (σ := σ) (T := Own σ H2) rows i off pl.block pl.base pl.size
      ⟨hout b (List.mem_map_of_mem hm) pl hsg, fun q r2 h2 => by
        obtain ⟨r, k1, k2⟩ := row q r2 h2
        rw [← k2, g2.even _ r k1, g2.size], fun q j hq hj => by
        obtain ⟨r, k1, k2⟩ := row q rows[q] (List.getElem?_eq_getElem hq)
        have hj' : j < r.length := by rw [g2.even _ r k1, ← g2.size]; exact hj
        obtain ⟨u, hu, _⟩ := g2.row k1 j _ (List.getElem?_eq_getElem hj')
        exact ⟨u, hu⟩, by rw [g2.size]; exact hs, by omega⟩
      (fun q r2 j y u h2 hy hu => by
        obtain ⟨r, k1, k2⟩ := row q r2 h2
        have hj' : j < r.length := by rw [k2]; exact lt_of_some hy
        obtain ⟨u', hu', hz⟩ := g2.row k1 j _ (List.getElem?_eq_getElem hj')
        rw [hu] at hu'
        cases hu'
        exact ih q r r2 j _ y k1 h2 (List.getElem?_eq_getElem hj') hy hz)
  | agg cs cs2 hl h ih =>
    intro u hu
    cases hu with
    | agg _ vs hlv hc =>
      refine .agg cs2 vs (by omega) fun q y z hy hz => ?_
      have hq : q < cs.length := by rw [hl]; exact lt_of_some hy
      exact ih q _ y (List.getElem?_eq_getElem hq) hy (hc q _ z (List.getElem?_eq_getElem hq) hz)
  | tup cs cs2 hl h ih =>
    intro u hu
    cases hu with
    | tup _ vs hlv hc =>
      refine .tup cs2 vs (by omega) fun q y z hy hz => ?_
      have hq : q < cs.length := by rw [hl]; exact lt_of_some hy
      exact ih q _ y (List.getElem?_eq_getElem hq) hy (hc q _ z (List.getElem?_eq_getElem hq) hz)
/-- values and blocks as they read; what was K is never written again -/
structure FzS (vs : List AV) (L : SH) (vs2 : List AV) (L2 : SH) : Prop where
  ex : ∃ K R : SH, L.Perm (K ++ R) ∧ (vs.length = vs2.length ∧ ∀ (i : Nat) (a a2 : AV), vs[i]? = some a → vs2[i]? = some a2 → Fz K a a2) ∧ R.length = L2.length ∧
    ∀ (i : Nat) (p q : Nat × Blk), R[i]? = some p → L2[i]? = some q → p.1 = q.1 ∧ p.2.size = q.2.size ∧ p.2.rows.length = q.2.rows.length ∧
      ∀ (j : Nat) (r r2 : List AV), p.2.rows[j]? = some r → q.2.rows[j]? = some r2 → r.length = r2.length ∧ ∀ (k : Nat) (a a2 : AV), r[k]? = some a → r2[k]? = some a2 → Fz K a a2
theorem FzS.refl (vs : List AV) (L : SH) : FzS vs L vs L := ⟨[], L, .refl _, ⟨rfl, fun i a a2 h1 h2 => by rw [h1] at h2; cases h2; exact .refl _⟩, rfl, fun i p q h1 h2 => by
  rw [h1] at h2; cases h2
  exact ⟨rfl, rfl, rfl, fun j r r2 h3 h4 => by rw [h3] at h4; cases h4; exact ⟨rfl, fun k a a2 h5 h6 => by rw [h5] at h6; cases h6; exact .refl _⟩⟩⟩
/-- the blocks K are dropped -/
theorem FzS.drop {vs vs2 : List AV} {L K R : SH} (hL : L.Perm (K ++ R)) (hl : vs.length = vs2.length) (h : ∀ (i : Nat) (a a2 : AV), vs[i]? = some a → vs2[i]? = some a2 → Fz K a a2) : FzS vs L vs2 R := ⟨K, R, hL, ⟨hl, h⟩, rfl, fun i p q h1 h2 => by
  rw [h1] at h2; cases h2
  exact ⟨rfl, rfl, rfl, fun j r r2 h3 h4 => by rw [h3] at h4; cases h4; exact ⟨rfl, fun k a a2 h5 h6 => by rw [h5] at h6; cases h6; exact .refl _⟩⟩⟩
/-- a heap with other blocks -/
def Heap.repl (H : Heap) (K : List Nat) (L2 : SH) : Heap := L2.foldl (fun H p => { H with tr := H.tr.set p.1 (some p.2) }) (K.foldl (fun H b => { H with tr := H.tr.set b none }) H)
theorem foldl_none (K : List Nat) : ∀ (H : Heap) (c : Nat), (K.foldl (fun H b => ({ H with tr := H.tr.set b none } : Heap)) H).get c = (if c ∈ K then none else H.get c) ∧ (K.foldl (fun H b => ({ H with tr := H.tr.set b none } : Heap)) H).next = H.next := by
  induction K with
  | nil => intro H c; simp
  | cons b K ih =>
    intro H c
    simp only [List.foldl_cons]
    obtain ⟨h1, h2⟩ := ih { H with tr := H.tr.set b none } c
    refine ⟨?_, h2⟩
    rw [h1]
    by_cases hc : c ∈ K
    · simp [hc]
    · have : ({ H with tr := H.tr.set b none } : Heap).get c = if b = c then none else H.get c := Tr.get_set _ _ _ _
      rw [if_neg hc, this]
      by_cases hb : b = c
      · subst hb; simp
      · rw [if_neg hb, if_neg]
        simp only [List.mem_cons, not_or]
        exact ⟨fun e => hb e.symm, hc⟩
theorem foldl_some : ∀ (L2 : SH), L2.names.Nodup → ∀ (H : Heap) (c : Nat), ((∀ x, (c, x) ∈ L2 → (L2.foldl (fun H p => ({ H with tr := H.tr.set p.1 (some p.2) } : Heap)) H).get c = some x) ∧ (c ∉ L2.names → (L2.foldl (fun H p => ({ H with tr := H.tr.set p.1 (some p.2) } : Heap)) H).get c = H.get c)) ∧ (L2.foldl (fun H p => ({ H with tr := H.tr.set p.1 (some p.2) } : Heap)) H).next = H.next := by
  intro L2
  induction L2 with
  | nil => intro _ H c; simp
  | cons p L ih =>
    intro hn H c
    simp only [List.map_cons, List.nodup_cons] at hn
    obtain ⟨⟨h1, h2⟩, h3⟩ := ih hn.2 { H with tr := H.tr.set p.1 (some p.2) } c
    have hg : ({ H with tr := H.tr.set p.1 (some p.2) } : Heap).get c = if p.1 = c then some p.2 else H.get c := Tr.get_set _ _ _ _
    refine ⟨⟨fun x hx => ?_, fun hc => ?_⟩, h3⟩
    · simp only [List.foldl_cons]
      rcases List.mem_cons.1 hx with hx | hx
      · subst hx
        rw [h2 hn.1, hg, if_pos rfl]
      · exact h1 x hx
    · simp only [List.foldl_cons]
      simp only [List.map_cons, List.mem_cons, not_or] at hc
      rw [h2 hc.2, hg, if_neg (fun e => hc.1 e.symm)]
theorem fzs_sound {vs vs2 : List AV} {L L2 : SH} (h : FzS vs L vs2 L2) (hs : Sub L H) (hb : Bd H) : ∃ H2 : Heap, Fr H.next L H L2 H2 ∧ H2.next = H.next ∧
    (∀ (w : World) (σ : Sig), WRel w σ H → WRel w σ H2 ∧ (∀ c, Own σ H2 c → Own σ H c) ∧ ∀ (us : List Value), Reps w σ (Own σ H) vs us → Reps w σ (Own σ H2) vs2 us) ∧ ∀ b, b ∉ L.names → H2.get b = H.get b := by
  obtain ⟨K, R, hL, ⟨hl, hv⟩, hlen, hR⟩ := h.ex
  have hs' := hs.perm hL
  have hn : ∀ b, b ∈ L.names ↔ b ∈ K.names ∨ b ∈ R.names := fun b => by rw [(hL.map Prod.fst).mem_iff, List.map_append, List.mem_append]
  have hnames : L2.names = R.names := by
    apply List.ext_getElem?
    intro i
    unfold SH.names
    rw [List.getElem?_map, List.getElem?_map]
    rcases Nat.lt_or_ge i R.length with hi | hi
    · have hi2 : i < L2.length := by omega
      rw [List.getElem?_eq_getElem hi, List.getElem?_eq_getElem hi2]
      simp only [Option.map_some, Option.some.injEq]
      exact (hR i _ _ (List.getElem?_eq_getElem hi) (List.getElem?_eq_getElem hi2)).1.symm
    · rw [List.getElem?_eq_none hi, List.getElem?_eq_none (by omega)]
  have hnd2 : L2.names.Nodup := by rw [hnames]; exact hs'.right.nd
  let H2 := H.repl K.names L2
  have hget : ∀ c, (∀ x, (c, x) ∈ L2 → H2.get c = some x) ∧ (c ∉ L2.names → H2.get c = if c ∈ K.names then none else H.get c) := fun c => by
    obtain ⟨⟨h1, h2⟩, _⟩ := foldl_some L2 hnd2 (K.names.foldl (fun H b => { H with tr := H.tr.set b none }) H) c
    exact ⟨h1, fun hc => (h2 hc).trans (foldl_none K.names H c).1⟩
  have hnext : H2.next = H.next := (foldl_some L2 hnd2 _ 0).2.trans (foldl_none K.names H 0).2
  -- every block of H2 is one of H
  have hold : ∀ b y, H2.get b = some y → ∃ x, H.get b = some x ∧ b ∉ K.names ∧ x.size = y.size ∧ x.rows.length = y.rows.length ∧ ∀ (j : Nat) (r r2 : List AV), x.rows[j]? = some r → y.rows[j]? = some r2 → r.length = r2.length ∧ ∀ (k : Nat) (a a2 : AV), r[k]? = some a → r2[k]? = some a2 → Fz K a a2 := fun b y hy => by
    by_cases hb2 : b ∈ L2.names
    · obtain ⟨q, hq, rfl⟩ := List.mem_map.1 hb2
      have hqy : H2.get q.1 = some q.2 := (hget q.1).1 q.2 hq
      rw [hy] at hqy
      cases hqy
      obtain ⟨i, hi, hqi⟩ := List.getElem_of_mem hq
      have hi' : i < R.length := by omega
      obtain ⟨e1, e2, e3, e4⟩ := hR i R[i] q (List.getElem?_eq_getElem hi') (by rw [List.getElem?_eq_getElem hi, hqi])
      refine ⟨R[i].2, ?_, fun hk => hs'.disj hk (hnames ▸ hb2), e2, e3, e4⟩
      rw [← e1]
      exact hs'.right.get _ (List.getElem_mem hi')
    · rw [(hget b).2 hb2] at hy
      split at hy
      · cases hy
      · rename_i hk
        exact ⟨y, hy, hk, rfl, rfl, fun j r r2 h1 h2 => by rw [h1] at h2; cases h2; exact ⟨rfl, fun k a a2 h3 h4 => by rw [h3] at h4; cases h4; exact .refl _⟩⟩
  have hout : ∀ b, b ∉ L.names → H2.get b = H.get b := fun b hbn => by
    rw [hn, not_or] at hbn
    rw [(hget b).2 (by rw [hnames]; exact hbn.2), if_neg hbn.1]
  refine ⟨H2, ⟨by rw [hnext]; exact Nat.le_refl _, fun b hb' => ?_, ⟨hnd2, fun p hp => (hget p.1).1 p.2 hp⟩, fun b x h1 h2 => ⟨by rw [hout b h2]; exact h1, fun h3 => h2 ((hn b).2 (.inr (hnames ▸ h3)))⟩, fun b _ h1 => ?_, fun b h1 _ => (hn b).2 (.inr (hnames ▸ h1))⟩, hnext, fun w σ hW => ?_, hout⟩
  · rw [hnext] at hb'
    cases hg : H2.get b with
    | none => rfl
    | some y => obtain ⟨x, hx, _⟩ := hold b y hg; rw [hb b hb'] at hx; cases hx
  · cases hg : H2.get b with
    | none => rfl
    | some y => obtain ⟨x, hx, _⟩ := hold b y hg; rw [h1] at hx; cases hx
  · have hown : ∀ c, Own σ H2 c → Own σ H c := fun c hc => by
      rcases hc with hc | ⟨b, y, pl, h1, h2, h3⟩
      · exact .inl hc
      · obtain ⟨x, hx, _⟩ := hold b y h1
        exact .inr ⟨b, x, pl, hx, h2, h3⟩
    have hnot : ∀ b ∈ K.names, ∀ pl, σ b = some pl → ¬ Own σ H2 pl.block := fun b hbK pl hpl ho => by
      obtain ⟨x, _, hx⟩ := hs'.left.mem hbK
      rcases ho with ho | ⟨b', y, pl', h1, h2, h3⟩
      · exact (hW.apart _ ho).2 ⟨b, x, pl, hx, hpl, rfl⟩
      · obtain ⟨x', hx', hk', _⟩ := hold b' y h1
        have := hW.inj b' b x' x pl' pl hx' hx h2 hpl h3
        subst this
        exact hk' hbK
    refine ⟨⟨fun b pl hb => by rw [hnext]; exact hW.named b pl hb, hW.lt, fun b y hy => ?_, fun c hc => ⟨(hW.apart c hc).1, fun ⟨b, y, pl, h1, h2, h3⟩ => ?_⟩, fun b b' y y' pl pl' h1 h2 h3 h4 h5 => ?_⟩, hown, fun us hus => ⟨by rw [← hl]; exact hus.1, fun i a2 u h1 h2 => ?_⟩⟩
    · obtain ⟨x, hx, hk, e1, e2, e3⟩ := hold b y hy
      obtain ⟨pl, cs, e, g1, g2⟩ := hW.live b x hx
      have row : ∀ (j : Nat) (r2 : List AV), y.rows[j]? = some r2 → ∃ r, x.rows[j]? = some r := fun j r2 h2 => ⟨_, List.getElem?_eq_getElem (by rw [e2]; exact lt_of_some h2)⟩
      refine ⟨pl, cs, e, g1, ⟨g2.size.trans e1, g2.block, fun i r2 h2 => ?_, by rw [← e2, ← e1]; exact g2.room, fun i r2 j a2 u h2 h3 h4 => ?_⟩⟩
      · obtain ⟨r, h1⟩ := row i r2 h2
        rw [← (e3 i r r2 h1 h2).1, g2.even i r h1, e1]
      · obtain ⟨r, h1⟩ := row i r2 h2
        obtain ⟨e4, e5⟩ := e3 i r r2 h1 h2
        have hj : j < r.length := by rw [e4]; exact lt_of_some h3
        exact fz_rep hW hs'.left hown hnot (e5 j _ a2 (List.getElem?_eq_getElem hj) h3) (g2.rep i r j _ u h1 (List.getElem?_eq_getElem hj) (by rw [e1]; exact h4))
    · obtain ⟨x, hx, _⟩ := hold b y h1
      exact (hW.apart c hc).2 ⟨b, x, pl, hx, h2, h3⟩
    · obtain ⟨x, hx, _⟩ := hold b y h1
      obtain ⟨x', hx', _⟩ := hold b' y' h2
      exact hW.inj b b' x x' pl pl' hx hx' h3 h4 h5
    · have hi : i < vs.length := by rw [hl]; exact lt_of_some h1
      exact fz_rep hW hs'.left hown hnot (hv i _ a2 (List.getElem?_eq_getElem hi) h1) (hus.2 i _ u (List.getElem?_eq_getElem hi) h2)
/-- in a piece of code -/
theorem ARun.fz {c : Code} {τ τ2 : List AV} {L L2 : SH} {Q : Ex → List AV → SH → Prop} (hz : FzS τ L τ2 L2) (h : ARun P c τ2 L2 Q) : ARun P c τ L Q := fun H hb hs => by
  obtain ⟨H2, f1, f2, f3, f4⟩ := fzs_sound hz hs hb
  obtain ⟨e, τ', H', L', h1, h2, h3⟩ := h H2 f1.bd f1.sub
  refine ⟨e, τ', H', L', ⟨by rw [← f2]; exact h1.1, fun w σ a hW hτ Q hQ => ?_⟩, f1.trans (h2.low (by rw [f2]; exact Nat.le_refl _)) (Nat.le_refl _), h3⟩
  obtain ⟨g1, g2, g3⟩ := f3 w σ hW
  refine h1.2 w σ a g1 ⟨g3 _ hτ.1, hτ.2⟩ Q fun a' w' ⟨σ', t, r, e1, m⟩ => hQ a' w' ⟨σ', t, r, ?_, fun c pl hc => by rw [← f2]; exact m c pl hc⟩
  exact ⟨e1.os, e1.tape, e1.output, e1.size, fun c hc hT => e1.keep c hc (fun h => hT (g2 c h)), e1.shape, e1.sig, e1.eqfr, e1.frame, fun c hc => (e1.own c hc).imp (g2 c) id⟩
/-- behind a call -/
theorem CallA.fz {f : FuncId} {args : List AV} {L0 : SH} {Q : AV → SH → Prop} (h : CallA P f args L0 fun v L => ∃ v2 L2, FzS [v] L [v2] L2 ∧ Q v2 L2) : CallA P f args L0 Q := ⟨h.1, fun H hb hs => by
  obtain ⟨v, H', L', h1, h2, v2, L2, hz, h3⟩ := h.2 H hb hs
  obtain ⟨H2, f1, f2, f3, f4⟩ := fzs_sound hz h2.sub h2.bd
  refine ⟨v2, H2, L2, fun w σ vs hW hvs => (h1 w σ vs hW hvs).mono ?_, h2.trans (f1.low h2.next) (Nat.le_refl _), h3⟩
  rintro e w' ⟨v', σ', rfl, k1, k2, k3, k4⟩
  obtain ⟨g1, g2, g3⟩ := f3 w' σ' k2
  have := g3 [v'] ⟨rfl, fun i a u h1 h2 => by
    match i with
    | 0 => cases h1; cases h2; exact k1
    | i + 1 => cases h1⟩
  exact ⟨v', σ', rfl, this.2 0 v2 v' rfl rfl, g1, ⟨k3.os, k3.tape, k3.output, k3.size, k3.keep, k3.shape, k3.sig, k3.eqfr, k3.frame, fun c hc => k3.own c (g2 c hc)⟩, k4⟩⟩
end
end Go.Proofs.Ytadjimfkfmojkaa.Am

end
section
namespace Go.Proofs.Ytadjimfkfmojkaa.Am
open Go.RowKit
set_option linter.unusedVariables false
/-- where slots are forgotten or read as memory that nobody writes -/
structure Hints where
  /-- behind the code whose last region is this one: the slots that are needed later -/
  join : Nat → Option (List Nat)
  /-- in a loop whose first region is this one: the slots that are needed -/
  loop : Nat → List Nat
  /-- behind a region: the slots that are frozen -/
  frz : Nat → List Nat
  /-- of a drawn region: what its edges put ahead of each operation -/
  mask : Nat → List Nat
def gather (live : List Nat) (τ : List AV) : List AV := live.map fun t => τ.getD t .junk
def slotOf (live : List Nat) (vs : List AV) (t : Nat) : AV := match live, vs with
  | [], _ => .junk
  | _, [] => .junk
  | d :: ds, v :: vs => if d = t then v else slotOf ds vs t
def spread (n : Nat) (live : List Nat) (vs : List AV) : List AV := (List.range n).map (slotOf live vs)
def firstReg : Code → Option Nat
  | .region id _ _ => some id
  | .seq a b => match firstReg a with
    | some i => some i
    | none => firstReg b
  | .cond _ a b => match firstReg a with
    | some i => some i
    | none => firstReg b
  | .block _ b => firstReg b
  | .loop b => firstReg b
  | _ => none
def lastReg : Code → Option Nat
  | .region id _ _ => some id
  | .seq a b => match lastReg b with
    | some i => some i
    | none => lastReg a
  | .cond _ a b => match lastReg b with
    | some i => some i
    | none => lastReg a
  | .block _ b => lastReg b
  | .loop b => lastReg b
  | _ => none
namespace W
abbrev Kn := List AV → SH → Prop
/-- the value of a slot, frozen -/
def frz0 (v : AV) (L : SH) (K : AV → SH → Prop) : Prop := match v with
  | .ptr b i off => ∃ x L', Del b x L L' ∧ 0 < x.size ∧ 0 < x.rows.length ∧ K (.pptr x.rows i off) L'
  | .sl b i n => ∃ x L', Del b x L L' ∧ 0 < x.size ∧ i + n ≤ x.rows.length ∧ K (.lst ((x.rows.drop i).take n)) L'
  | .nils => K (.lst []) L
  | .emp => K (.lst []) L
  | v => K v L
structure frz1 (v : AV) (L : SH) (K : AV → SH → Prop) : Prop where
  h : frz0 v L K
def frzs : List Nat → List AV → SH → Kn → Prop
  | [], τ, L, K => K τ L
  | d :: ds, τ, L, K => frz1 (τ.getD d .junk) L fun v L => frzs ds (τ.set d v) L K
structure cond (v : AV) (A B : Prop) : Prop where
  h : (v = .bool true ∧ A) ∨ (v = .bool false ∧ B)
/-- ways meet -/
structure join (J : Kn) (B : Kn → Prop) : Prop where
  h : B J
structure loop (B : List AV → SH → Kn → Prop) (vs : List AV) (L : SH) : Prop where
  h : ∃ I : Nat → Kn, (∃ n vs2 L2, FzS vs L vs2 L2 ∧ I n vs2 L2) ∧ ∀ n vs L, I n vs L → B vs L fun vs' L' => ∃ m vs2 L2, m < n ∧ FzS vs' L' vs2 L2 ∧ I m vs2 L2
section
variable (P : Program) (F : TypeId → Option (List TypeId)) (ht : Hints)
def code : Code → List AV → SH → Kn → (Nat → Kn) → Kn → Prop
  | .skip, τ, L, kn, _, _ => kn τ L
  | .label _, τ, L, kn, _, _ => kn τ L
  | .region id ops draw, τ, L, kn, _, _ => if draw then (statB ops && edgesB ops && (masks ops.toList [] == ht.mask id)) = true ∧ dr P F ops (ht.mask id) (List.range' 0 ops.size) τ L [] fun τ L => frzs (ht.frz id) τ L kn
      else sq P F ops (List.range ops.size) τ L fun τ L => frzs (ht.frz id) τ L kn
  | .seq a b, τ, L, kn, kx, kr => match (lastReg a).bind ht.join with
    | none => code a τ L (fun τ L => code b τ L kn kx kr) kx kr
    | some live => join (fun vs L => code b (spread τ.length live vs) L kn kx kr) fun j => code a τ L (fun τ L => j (gather live τ) L) kx kr
  | .cond x a b, τ, L, kn, kx, kr => cond (aev τ x) (code a τ L kn kx kr) (code b τ L kn kx kr)
  | .block id b, τ, L, kn, kx, kr => code b τ L kn (fun id' τ L => if id' = id then kn τ L else kx id' τ L) kr
  | .loop b, τ, L, kn, kx, kr => match firstReg b with
    | none => False
    | some r => loop (fun vs L next => code b (spread τ.length (ht.loop r) vs) L (fun τ L => next (gather (ht.loop r) τ) L) kx kr) (gather (ht.loop r) τ) L
  | .exit id, τ, L, _, kx, _ => kx id τ L
  | .ret, τ, L, _, _, kr => kr τ L
  | _, _, _, _, _, _ => False
def pack : List AV → AV
  | [v] => v
  | vs => .tup vs
/-- the results of a function -/
def res : List ResultVar → List AV → SH → List AV → (AV → SH → Prop) → Prop
  | [], _, L, vs, Q => Q (pack vs.reverse) L
  | .tmp t :: rs, τ, L, vs, Q => res rs τ L (τ.getD t undefA :: vs) Q
  | .cell a t :: rs, τ, L, vs, Q => match isAggA P t, sizeA P t with
    | some ag, some n => load ag n (τ.getD a undefA) L fun v => res rs τ L (v :: vs) Q
    | _, _ => False
def func (fn : Func) (c : Code) (args : List AV) (L : SH) (Q : AV → SH → Prop) : Prop :=
  code P F ht c (args ++ List.replicate (fn.ntmps - args.length) undefA) L (fun τ L => res P fn.results.toList τ L [] Q) (fun _ _ _ => False) (fun τ L => res P fn.results.toList τ L [] Q)
end
end W
section
variable {P : Program} {F : TypeId → Option (List TypeId)} {ht : Hints}
theorem slotOf_gather (τ : List AV) (t : Nat) : ∀ live : List Nat, slotOf live (gather live τ) t = .junk ∨ slotOf live (gather live τ) t = τ.getD t .junk
  | [] => .inl rfl
  | d :: ds => by
    simp only [gather, List.map_cons, slotOf]
    by_cases h : d = t
    · subst h; rw [if_pos rfl]; exact .inr rfl
    · rw [if_neg h]; exact slotOf_gather τ t ds
theorem spread_dim (live : List Nat) (τ : List AV) : Dim τ (spread τ.length live (gather live τ)) := by
  refine ⟨by simp [spread], fun i x hx => ?_⟩
  simp only [spread, List.getElem?_map] at hx
  rcases Nat.lt_or_ge i τ.length with hi | hi
  · rw [List.getElem?_range hi] at hx
    simp only [Option.map_some, Option.some.injEq] at hx
    subst hx
    rcases slotOf_gather τ i live with h | h
    · exact .inl h
    · right
      rw [h, List.getElem?_eq_getElem hi]
      simp [List.getD, hi]
  · rw [List.getElem?_eq_none (by simpa using hi)] at hx; cases hx
/-- what holds of chosen slots, holds of all -/
theorem spread_fz {n : Nat} {live : List Nat} {vs vs2 : List AV} {L L2 : SH} (h : FzS vs L vs2 L2) : FzS (spread n live vs) L (spread n live vs2) L2 := by
  obtain ⟨K, R, h1, ⟨h2, h3⟩, h4⟩ := h.ex
  refine ⟨K, R, h1, ⟨by simp [spread], fun i a a2 g1 g2 => ?_⟩, h4⟩
  simp only [spread, List.getElem?_map] at g1 g2
  cases hr : (List.range n)[i]? with
  | none => rw [hr] at g1; cases g1
  | some t =>
    rw [hr] at g1 g2
    simp only [Option.map_some, Option.some.injEq] at g1 g2
    subst g1; subst g2
    clear hr h1 h h4
    induction live generalizing vs vs2 with
    | nil => exact .refl _
    | cons d ds ih =>
      cases vs with
      | nil => cases vs2 with
        | nil => exact .refl _
        | cons y ys => simp at h2
      | cons x xs => cases vs2 with
        | nil => simp at h2
        | cons y ys =>
          simp only [slotOf]
          by_cases hd : d = t
          · rw [if_pos hd, if_pos hd]; exact h3 0 x y rfl rfl
          · rw [if_neg hd, if_neg hd]
            exact ih (by simpa using h2) fun i a a2 e1 e2 => h3 (i + 1) a a2 (by simpa using e1) (by simpa using e2)
theorem set_fz {τ : List AV} {d : Nat} {v : AV} {L K R : SH} (hL : L.Perm (K ++ R)) (hv : Fz K (τ.getD d .junk) v) : FzS τ L (τ.set d v) R := by
  refine .drop hL (by simp) fun i a a2 h1 h2 => ?_
  rw [List.getElem?_set] at h2
  by_cases hd : d = i
  · subst hd
    rw [if_pos rfl] at h2
    split at h2
    · cases h2
      rw [List.getD, h1] at hv
      exact hv
    · cases h2
  · rw [if_neg hd, h1] at h2
    cases h2
    exact .refl _
theorem Fz.rows {K : SH} {b i n : Nat} {x : Blk} (hm : (b, x) ∈ K) (hs : 0 < x.size) (hle : i + n ≤ x.rows.length) : Fz K (.sl b i n) (.lst ((x.rows.drop i).take n)) := by
  rcases Nat.eq_zero_or_pos n with rfl | hn
  · simp only [List.take_zero]; exact .sl0 b i
  · have get : ∀ (j : Nat) (r r2 : List AV), x.rows[i + j]? = some r → ((x.rows.drop i).take n)[j]? = some r2 → r = r2 := fun j r r2 h1 h2 => by
      rw [List.getElem?_take] at h2
      split at h2
      · rw [List.getElem?_drop, h1] at h2; cases h2; rfl
      · cases h2
    refine .sl b i n x _ hm hs hn (by simp; omega) hle (fun j r r2 h1 h2 => by rw [get j r r2 h1 h2]) fun j r r2 q a a2 h1 h2 h3 h4 => ?_
    have := get j r r2 h1 h2
    subst this
    rw [h3] at h4; cases h4
    exact .refl _
theorem Fz.box {K : SH} {b i off : Nat} {x : Blk} (hm : (b, x) ∈ K) (hs : 0 < x.size) (hn : 0 < x.rows.length) : Fz K (.ptr b i off) (.pptr x.rows i off) :=
  .ptr b i off x x.rows hm hs rfl hn (fun j r r2 h1 h2 => by rw [h1] at h2; cases h2; rfl) fun j r r2 q a a2 h1 h2 h3 h4 => by
    rw [h1] at h2; cases h2; rw [h3] at h4; cases h4; exact .refl _
/-- behind a piece of code, states are described anew -/
theorem ARun.post {c : Code} {τ : List AV} {L : SH} {Q Q2 : Ex → List AV → SH → Prop} (h : ARun P c τ L Q) (hq : ∀ e τ' L', Q e τ' L' → ∃ τ2 L2, FzS τ' L' τ2 L2 ∧ Q2 e τ2 L2) : ARun P c τ L Q2 := fun H hb hs => by
  obtain ⟨e, τ', H', L', h1, h2, h3⟩ := h H hb hs
  obtain ⟨τ2, L2, hz, h4⟩ := hq e τ' L' h3
  obtain ⟨H2, f1, f2, f3, f4⟩ := fzs_sound hz h2.sub h2.bd
  refine ⟨e, τ2, H2, L2, ⟨by rw [f2]; exact h1.1, fun w σ a hW hτ Q hQ => h1.2 w σ a hW hτ Q fun a' w' ⟨σ', t, r, e1, m⟩ => ?_⟩, h2.trans (f1.low h2.next) (Nat.le_refl _), h4⟩
  obtain ⟨g1, g2, g3⟩ := f3 w' σ' r
  exact hQ a' w' ⟨σ', ⟨g3 _ t.1, t.2⟩, g1, ⟨e1.os, e1.tape, e1.output, e1.size, e1.keep, e1.shape, e1.sig, e1.eqfr, e1.frame, fun c hc => e1.own c (g2 c hc)⟩, m⟩
theorem ARun.frzs {c : Code} {τ : List AV} {L : SH} {K : W.Kn} {n : Nat} : ∀ (ds : List Nat), ARun P c τ L (fun e τ' L' => e = .normal ∧ τ'.length = n ∧ W.frzs ds τ' L' K) → ARun P c τ L (fun e τ' L' => e = .normal ∧ τ'.length = n ∧ K τ' L')
  | [], h => h
  | d :: ds, h => by
    refine ARun.frzs ds (h.post ?_)
    rintro e τ' L' ⟨he, hn, hz⟩
    simp only [W.frzs] at hz
    have hz := hz.h
    simp only [W.frz0] at hz
    have set : ∀ (v : AV) (L2 : SH), FzS τ' L' (τ'.set d v) L2 → W.frzs ds (τ'.set d v) L2 K → ∃ τ2 L2, FzS τ' L' τ2 L2 ∧ e = .normal ∧ τ2.length = n ∧ W.frzs ds τ2 L2 K := fun v L2 h1 h2 => ⟨_, L2, h1, he, by simpa using hn, h2⟩
    split at hz
    · rename_i b i off hv
      obtain ⟨x, L2, h1, h2, h3, h4⟩ := hz
      refine set _ L2 (set_fz (K := [(b, x)]) h1.perm ?_) h4
      rw [hv]
      exact .box (by simp) h2 h3
    · rename_i b i k hv
      obtain ⟨x, L2, h1, h2, h3, h4⟩ := hz
      refine set _ L2 (set_fz (K := [(b, x)]) h1.perm ?_) h4
      rw [hv]
      exact .rows (by simp) h2 h3
    · rename_i hv
      refine set _ L' (set_fz (K := []) (.refl _) ?_) hz
      rw [hv]
      exact .nils
    · rename_i hv
      refine set _ L' (set_fz (K := []) (.refl _) ?_) hz
      rw [hv]
      exact .emp
    · refine set _ L' (set_fz (K := []) (.refl _) ?_) hz
      exact .refl _
theorem put_len (τ : List AV) (d : Option Tmp) (v : AV) : (putA τ d v).length = τ.length := by cases d <;> simp [putA]
theorem opsA_len {ops : Array Oper} {base : Nat} {call : FuncId → List AV → Heap → Option (AV × Heap)} : ∀ (l : List Nat) (τ : List AV) (H : Heap) (τ' : List AV) (H' : Heap), opsA P F call ops base l τ H = some (τ', H') → τ'.length = τ.length
  | [], τ, H, τ', H', h => by cases h; rfl
  | i :: l, τ, H, τ', H', h => by
    unfold opsA at h
    split at h
    · rename_i τ1 H1 hs
      rw [opsA_len l _ _ _ _ h]
      unfold stepA at hs
      repeat' (first | (cases hs; exact put_len _ _ _) | (cases hs; done) | split at hs)
    · cases h
theorem drawA_len {ops : Array Oper} {base : Nat} {before : List Nat} {call : FuncId → List AV → Heap → Option (AV × Heap)} : ∀ (l : List Nat) (τ : List AV) (H : Heap) (rs : List Rec) (τ' : List AV) (H' : Heap) (rs' : List Rec), drawA P F call ops base before l τ H rs = some (τ', H', rs') → τ'.length = τ.length
  | [], τ, H, rs, τ', H', rs', h => by cases h; rfl
  | i :: l, τ, H, rs, τ', H', rs', h => by
    have key : ∀ {mask : Nat} {τ1 : List AV} {H1 : Heap} {r : Option Rec}, drawStep P F call ops base i mask τ H = some (τ1, H1, r) → τ1.length = τ.length := fun {mask τ1 H1 r} hs => by
      unfold drawStep at hs
      repeat' (first | (cases hs; exact put_len _ _ _) | (cases hs; done) | split at hs)
    unfold drawA at h
    split at h
    · rename_i hs; rw [drawA_len l _ _ _ _ _ _ h, key hs]
    · rename_i hs
      split at h
      · rw [drawA_len l _ _ _ _ _ _ h, key hs]
      · cases h
    · cases h
theorem ARun.region' {ops : Array Oper} {id : Nat} {τ : List AV} {L : SH} {K : W.Kn} (fit : Fit P F) (h : W.sq P F ops (List.range ops.size) τ L K) : ARun P (.region id ops false) τ L fun e τ' L' => e = .normal ∧ τ'.length = τ.length ∧ K τ' L' := fun H hb hs => by
  obtain ⟨call, τ', H', L', k1, k2, k3, k4, k5⟩ := sq_sound (base := H.next) (List.range ops.size) τ L _ h List.nodup_range { H with next := H.next + ops.size } (hb.bump _ _ (Nat.le_add_right _ _)) (hs.congr fun _ => rfl)
    (fun i hi => ⟨Nat.add_lt_add_left (List.mem_range.1 hi) _, hb _ (Nat.le_add_right _ _)⟩) (Nat.le_add_right _ _)
  have hr : regionA P F call ops false τ H = some (τ', H') := by simp only [regionA, Bool.false_eq_true, if_false]; exact k3
  exact ⟨.normal, τ', H', L', region_sound fit k1 hr, ⟨Nat.le_trans (Nat.le_add_right _ _) k4.next, k4.bd, k4.sub, k4.keep, k4.dom, k4.fresh⟩, rfl, opsA_len _ _ _ _ _ k3, k5⟩
theorem ARun.draw' {ops : Array Oper} {id : Nat} {τ : List AV} {L : SH} {K : W.Kn} (fit : Fit P F) (hst : StatOk ops) (hed : EdgesOk ops) (h : W.dr P F ops (masks ops.toList []) (List.range' 0 ops.size) τ L [] K) : ARun P (.region id ops true) τ L fun e τ' L' => e = .normal ∧ τ'.length = τ.length ∧ K τ' L' := fun H hb hs => by
  obtain ⟨call, τ', H', L', rs', k1, k2, k3, k4, k5⟩ := dr_sound (base := H.next) ops.size 0 τ L [] _ h { H with next := H.next + ops.size } [] (hb.bump _ _ (Nat.le_add_right _ _)) (hs.congr fun _ => rfl)
    (fun i _ hi => ⟨by show H.next + i < H.next + ops.size; omega, hb _ (Nat.le_add_right _ _)⟩) (by show H.next + 0 ≤ H.next + ops.size; omega) (by simp) (fun j hj => by omega)
  have hr : regionA P F call ops true τ H = some (τ', { H' with log := rs'.flatMap (·.writes) ++ H'.log }) := by
    simp only [regionA, if_true]
    rw [List.range_eq_range', k3]
  obtain ⟨n1, n2⟩ := draw_sound fit k1 k2 hst hed hr
  exact ⟨.normal, τ', _, L', ⟨n1, fun w σ a hW hτ Q hQ => n2 id w σ a hW hτ Q hQ⟩, ⟨Nat.le_trans (Nat.le_add_right _ _) k4.next, k4.bd, k4.sub.congr fun _ => rfl, k4.keep, k4.dom, k4.fresh⟩, rfl, drawA_len _ _ _ _ _ _ _ k3, k5⟩
/-- the state at the end of code, by the way in which it ends -/
def Ends (n : Nat) (kn : W.Kn) (kx : Nat → W.Kn) (kr : W.Kn) (e : Ex) (τ : List AV) (L : SH) : Prop := τ.length = n ∧ match e with
  | .normal => kn τ L
  | .exit id => kx id τ L
  | .ret => kr τ L
theorem code_sound (fit : Fit P F) : ∀ (c : Code) (τ : List AV) (L : SH) (kn : W.Kn) (kx : Nat → W.Kn) (kr : W.Kn), W.code P F ht c τ L kn kx kr → ARun P c τ L (Ends τ.length kn kx kr)
  | .skip, τ, L, kn, kx, kr, h => .skip ⟨rfl, h⟩
  | .label l, τ, L, kn, kx, kr, h => .label ⟨rfl, h⟩
  | .exit id, τ, L, kn, kx, kr, h => .exit ⟨rfl, h⟩
  | .ret, τ, L, kn, kx, kr, h => .ret ⟨rfl, h⟩
  | .region id ops draw, τ, L, kn, kx, kr, h => by
    simp only [W.code] at h
    have fin : ARun P (.region id ops draw) τ L (fun e τ' L' => e = .normal ∧ τ'.length = τ.length ∧ kn τ' L') → ARun P (.region id ops draw) τ L (Ends τ.length kn kx kr) := fun h => h.mono fun e τ' L' ⟨h1, h2, h3⟩ => by subst h1; exact ⟨h2, h3⟩
    cases draw with
    | false => exact fin (.frzs _ (.region' fit h))
    | true =>
      simp only [if_true, Bool.and_eq_true] at h
      have hm := h.2
      rw [← eq_of_beq h.1.2] at hm
      exact fin (.frzs _ (.draw' fit (statB_ok h.1.1.1) (edgesB_ok h.1.1.2) hm))
  | .seq a b, τ, L, kn, kx, kr, h => by
    simp only [W.code] at h
    split at h
    · refine ARun.seq ((code_sound fit a τ L _ kx kr h).mono fun e τ' L' ⟨h1, h2⟩ => ?_)
      cases e with
      | normal => simp only; rw [← h1]; exact code_sound fit b τ' L' kn kx kr h2
      | exit id => exact ⟨h1, h2⟩
      | ret => exact ⟨h1, h2⟩
    · rename_i live _
      have hB := h.h
      refine ARun.seq ((code_sound fit a τ L _ kx kr hB).mono fun e τ' L' ⟨h1, h2⟩ => ?_)
      cases e with
      | normal =>
        have h5 := code_sound fit b _ L' kn kx kr h2
        have hlen : (spread τ.length live (gather live τ')).length = τ.length := by simp [spread]
        rw [hlen] at h5
        have hd := spread_dim live τ'
        rw [h1] at hd
        exact ARun.dim hd h5
      | exit id => exact ⟨h1, h2⟩
      | ret => exact ⟨h1, h2⟩
  | .cond x a b, τ, L, kn, kx, kr, h => by
    rcases h.h with ⟨h1, h2⟩ | ⟨h1, h2⟩
    · exact ARun.cond (t := true) h1 (code_sound fit a τ L kn kx kr h2)
    · exact ARun.cond (t := false) h1 (code_sound fit b τ L kn kx kr h2)
  | .block id b, τ, L, kn, kx, kr, h => by
    refine ARun.block ((code_sound fit b τ L _ _ kr h).mono fun e τ' L' ⟨h1, h2⟩ => ?_)
    cases e with
    | normal => exact ⟨h1, h2⟩
    | ret => exact ⟨h1, h2⟩
    | exit id' =>
      simp only [Ex.leave]
      simp only at h2
      by_cases hid : id' = id
      · rw [if_pos hid] at h2 ⊢; exact ⟨h1, h2⟩
      · rw [if_neg hid] at h2 ⊢; exact ⟨h1, h2⟩
  | .loop b, τ, L, kn, kx, kr, h => by
    simp only [W.code] at h
    split at h
    · exact h.elim
    · rename_i r _
      obtain ⟨I, ⟨n, vs0, L0, hz0, h0⟩, hB⟩ := h.h
      refine ARun.loop (fun m τ' L' => τ'.length = τ.length ∧ ∃ vs2 L2, FzS (gather (ht.loop r) τ') L' vs2 L2 ∧ I m vs2 L2) (fun m τ' L' ⟨h1, vs2, L2, hz, h2⟩ => ?_) n ⟨rfl, vs0, L0, hz0, h0⟩
      have h4 := code_sound fit b _ L2 _ kx kr (hB m vs2 L2 h2)
      have hlen : (spread τ.length (ht.loop r) vs2).length = τ.length := by simp [spread]
      rw [hlen] at h4
      have h5 := ARun.fz (spread_fz (n := τ.length) (live := ht.loop r) hz) h4
      have hd := spread_dim (ht.loop r) τ'
      rw [h1] at hd
      refine (ARun.dim hd h5).mono fun e τ1 L1 ⟨g1, g2⟩ => ?_
      cases e with
      | normal =>
        obtain ⟨m', vs3, L3, k1, k2, k3⟩ := g2
        exact ⟨m', k1, g1, vs3, L3, k2, k3⟩
      | exit id => exact ⟨g1, g2⟩
      | ret => exact ⟨g1, g2⟩
  | .rangeFunc .., _, _, _, _, _, h => h.elim
  | .scope _, _, _, _, _, _, h => h.elim
  | .goto _, _, _, _, _, _, h => h.elim
  | .refuse _, _, _, _, _, _, h => h.elim
theorem res_ok {τ : List AV} {L : SH} {H : Heap} {Q : AV → SH → Prop} (hs : Sub L H) : ∀ (rs : List ResultVar) (vs : List AV), W.res P rs τ L vs Q → ∃ us, allSome (rs.map (resultA P τ H)) = some us ∧ Q (W.pack (vs.reverse ++ us)) L
  | [], vs, h => ⟨[], rfl, by simpa [W.res] using h⟩
  | .tmp t :: rs, vs, h => by
    obtain ⟨us, h1, h2⟩ := res_ok hs rs _ h
    refine ⟨τ.getD t undefA :: us, ?_, by simpa using h2⟩
    simp only [List.map_cons, resultA, allSome, h1]
  | .cell a t :: rs, vs, h => by
    simp only [W.res] at h
    split at h
    · rename_i ag n hag hn
      obtain ⟨v, g1, g2⟩ := load_ok hs hag hn h.h
      obtain ⟨us, h1, h2⟩ := res_ok hs rs _ g2
      refine ⟨v :: us, ?_, by simpa using h2⟩
      simp only [List.map_cons, resultA, g1, allSome, h1]
    · exact h.elim
/-- a function, by what its body demands -/
theorem func_sound (fit : Fit P F) {f : FuncId} {fn : Func} {c : Code} {args : List AV} {L : SH} {Q : AV → SH → Prop} (hf : P.funcs[f]? = some fn) (hb : fn.body = some c) (h : W.func P F ht fn c args L Q) : CallA P f args L Q := by
  refine ⟨⟨fn, c, hf, hb⟩, fun H hB hs => ?_⟩
  obtain ⟨e, τ', H', L', k1, k2, k3, k4⟩ := code_sound fit c _ L _ _ _ h H hB hs
  have hres : (e = .normal ∨ e = .ret) ∧ W.res P fn.results.toList τ' L' [] Q := by
    cases e with
    | normal => exact ⟨.inl rfl, k4⟩
    | ret => exact ⟨.inr rfl, k4⟩
    | exit id => exact k4.elim
  obtain ⟨he, hr⟩ := hres
  obtain ⟨us, r1, r2⟩ := res_ok k2.sub _ _ hr
  have hv : resultsA P τ' H' fn.results.toList = some (W.pack us) := by
    unfold resultsA
    rw [r1]
    match us with
    | [] => rfl
    | [v] => rfl
    | v :: u :: l => rfl
  simp only [List.reverse_nil, List.nil_append] at r2
  refine ⟨_, H', L', fun w σ vs hW hvs => ?_, k2, r2⟩
  refine calls_of_wp hf hb (k1.2 w σ _ hW ⟨⟨by simp [hvs.1], fun i x u h1 h2 => ?_⟩, rfl⟩ _ fun a' w' haf => ?_)
  · simp only [Array.toList_append, Array.toList_replicate] at h2
    rcases Nat.lt_or_ge i args.length with hi | hi
    · rw [List.getElem?_append_left hi] at h1
      rw [List.getElem?_append_left (by rw [← hvs.1]; exact hi)] at h2
      exact hvs.2 i x u h1 h2
    · rw [List.getElem?_append_right hi, List.getElem?_replicate] at h1
      rw [List.getElem?_append_right (by rw [← hvs.1]; exact hi), List.getElem?_replicate] at h2
      split at h1
      · split at h2
        · cases h1; cases h2; exact undef_rep
        · cases h2
      · cases h1
  · obtain ⟨σ', t1, g1, e1, m1⟩ := haf
    obtain ⟨v', q1, q2⟩ := results_sound (P := P) g1 t1 hv
    have hpost : a'.defers = [] ∧ ∃ v, (results fn a'.tmps).run P w' = .ok v w' ∧ ∃ v' σ', Ending.returned v = .returned v' ∧ Rep w' σ' (Own σ' H') _ v' ∧ WRel w' σ' H' ∧ Ext w σ (Own σ H) w' σ' (Own σ' H') ∧ ∀ c pl, σ' c = some pl → σ c = some pl ∨ H.next ≤ c :=
      ⟨t1.2, v', q1, v', σ', rfl, q2, g1, e1, m1⟩
    rcases he with rfl | rfl
    · exact hpost
    · exact hpost
end
end Go.Proofs.Ytadjimfkfmojkaa.Am

end
section
namespace Go.Proofs.Ytadjimfkfmojkaa.Am
/-- the field types of a flat struct type -/
def flatOf (P : Program) (t : TypeId) : Option (List TypeId) := match P.underlying t with
  | some (.struct fs) => if (!P.stoodInHeld t && !P.eqGuardType P.depth t && fs.toList.zipIdx.all fun p => p.1.offset == p.2 && p.1.name != "_" && (match isAggA P p.1.type with | some false => true | _ => false)) = true then some (fs.toList.map (·.type)) else none
  | _ => none
theorem flatOf_ok {P : Program} {t : TypeId} {ts : List TypeId} (h : flatOf P t = some ts) : FlatT P t ts := by
  unfold flatOf at h
  split at h
  · rename_i fs hu
    split at h
    · rename_i hc
      cases h
      simp only [Bool.and_eq_true, Bool.not_eq_true', List.all_eq_true] at hc
      have hf : P.fieldsOf t = fs := by simp [Program.fieldsOf, hu]
      refine ⟨by rw [hf]; exact hu, hc.1.1, hc.1.2, by rw [hf], fun i f hi => ?_⟩
      rw [hf] at hi
      have := hc.2 (f, i) (by rw [List.mem_iff_getElem?]; exact ⟨i, by rw [List.getElem?_zipIdx, hi]; simp⟩)
      simp only [beq_iff_eq, bne_iff_ne] at this
      refine ⟨this.1.2, this.1.1, ?_⟩
      have h2 := this.2
      split at h2
      · assumption
      · cases h2
    · cases h
  · cases h
noncomputable def Fl : TypeId → Option (List TypeId) := flatOf Try.prog
set_option maxRecDepth 1000000 in
theorem checkedAll : Try.prog.funcs.toList.all funcB = true := by kernel_rfl
theorem fit : Fit Try.prog Fl := ⟨fun t ts h => flatOf_ok h, (goods checkedAll).1, by kernel_rfl⟩
end Go.Proofs.Ytadjimfkfmojkaa.Am

end
section
namespace Go.Proofs.Ytadjimfkfmojkaa.Am
set_option linter.unusedVariables false
section
variable {P : Program} {F : TypeId → Option (List TypeId)} {K : AV → Prop} {KL : AV → SH → Prop} {L : SH}
theorem opt_some (v : AV) : W0.opt (some v) K = K v := propext ⟨fun ⟨u, h1, h2⟩ => by cases h1; exact h2, fun h => ⟨v, rfl, h⟩⟩
theorem opt_none : W0.opt none K = False := propext ⟨fun ⟨u, h1, h2⟩ => (by cases h1), fun h => h.elim⟩
theorem pick_t (x y : AV) : W.pick (.bool true) x y K = K x := propext ⟨fun ⟨t, h1, h2⟩ => by cases h1; exact h2, fun h => ⟨true, rfl, h⟩⟩
theorem pick_f (x y : AV) : W.pick (.bool false) x y K = K y := propext ⟨fun ⟨t, h1, h2⟩ => by cases h1; exact h2, fun h => ⟨false, rfl, h⟩⟩
theorem grd_t (p : Bool) (A : (AV → SH → Prop) → Prop) : W.grd (.bool p) true A L KL = ((p = true → A KL) ∧ (p = false → KL undefA L)) := propext ⟨fun ⟨h⟩ => by
    rcases h with ⟨h1, h2⟩ | ⟨h1 | h1, h2⟩
    · cases h1; exact ⟨fun _ => h2, fun h => (by cases h)⟩
    · cases h1; exact ⟨fun h => (by cases h), fun _ => h2⟩
    · (cases h1), fun ⟨h1, h2⟩ => by
    cases p with
    | true => exact ⟨.inl ⟨rfl, h1 rfl⟩⟩
    | false => exact ⟨.inr ⟨.inl rfl, h2 rfl⟩⟩⟩
theorem grd_f (p : Bool) (A : (AV → SH → Prop) → Prop) : W.grd (.bool p) false A L KL = ((p = false → A KL) ∧ (p = true → KL undefA L)) := propext ⟨fun ⟨h⟩ => by
    rcases h with ⟨h1, h2⟩ | ⟨h1 | h1, h2⟩
    · cases h1; exact ⟨fun _ => h2, fun h => (by cases h)⟩
    · cases h1; exact ⟨fun h => (by cases h), fun _ => h2⟩
    · (cases h1), fun ⟨h1, h2⟩ => by
    cases p with
    | false => exact ⟨.inl ⟨rfl, h1 rfl⟩⟩
    | true => exact ⟨.inr ⟨.inl rfl, h2 rfl⟩⟩⟩
theorem dgrd_t {KF : AV → SH → W.Fp → Prop} (p : Bool) (A : (AV → SH → W.Fp → Prop) → Prop) : W.dgrd (.bool p) true A L KF = ((p = true → A KF) ∧ (p = false → KF undefA L ⟨[], [], [], L.names⟩)) := propext ⟨fun ⟨h⟩ => by
    rcases h with ⟨h1, h2⟩ | ⟨h1 | h1, h2⟩
    · cases h1; exact ⟨fun _ => h2, fun h => (by cases h)⟩
    · cases h1; exact ⟨fun h => (by cases h), fun _ => h2⟩
    · (cases h1), fun ⟨h1, h2⟩ => by
    cases p with
    | true => exact ⟨.inl ⟨rfl, h1 rfl⟩⟩
    | false => exact ⟨.inr ⟨.inl rfl, h2 rfl⟩⟩⟩
theorem dgrd_f {KF : AV → SH → W.Fp → Prop} (p : Bool) (A : (AV → SH → W.Fp → Prop) → Prop) : W.dgrd (.bool p) false A L KF = ((p = false → A KF) ∧ (p = true → KF undefA L ⟨[], [], [], L.names⟩)) := propext ⟨fun ⟨h⟩ => by
    rcases h with ⟨h1, h2⟩ | ⟨h1 | h1, h2⟩
    · cases h1; exact ⟨fun _ => h2, fun h => (by cases h)⟩
    · cases h1; exact ⟨fun h => (by cases h), fun _ => h2⟩
    · (cases h1), fun ⟨h1, h2⟩ => by
    cases p with
    | false => exact ⟨.inl ⟨rfl, h1 rfl⟩⟩
    | true => exact ⟨.inr ⟨.inl rfl, h2 rfl⟩⟩⟩
theorem cond_b (p : Bool) (A B : Prop) : W.cond (.bool p) A B = ((p = true → A) ∧ (p = false → B)) := propext ⟨fun ⟨h⟩ => by
    rcases h with ⟨h1, h2⟩ | ⟨h1, h2⟩
    · cases h1; exact ⟨fun _ => h2, fun h => (by cases h)⟩
    · cases h1; exact ⟨fun h => (by cases h), fun _ => h2⟩, fun ⟨h1, h2⟩ => by
    cases p with
    | true => exact ⟨.inl ⟨rfl, h1 rfl⟩⟩
    | false => exact ⟨.inr ⟨rfl, h2 rfl⟩⟩⟩
theorem bin_eq (op : BinOp) (t : TypeId) (x y : AV) : W.bin P F op t x y K = W0.opt (binA P F op t x y) K := propext ⟨fun h => h.h, fun h => ⟨h⟩⟩
theorem lss_i (t : TypeId) (k : IntKind) (a b : Int) : W.bin P F .lss t (.int k a) (.int k b) K = K (.bool (decide (a < b))) := by rw [bin_eq]; simp [binA, opt_some]
theorem leq_i (t : TypeId) (k : IntKind) (a b : Int) : W.bin P F .leq t (.int k a) (.int k b) K = K (.bool (decide (a ≤ b))) := by rw [bin_eq]; simp [binA, opt_some]
theorem gtr_i (t : TypeId) (k : IntKind) (a b : Int) : W.bin P F .gtr t (.int k a) (.int k b) K = K (.bool (decide (b < a))) := by rw [bin_eq]; simp [binA, opt_some]
theorem geq_i (t : TypeId) (k : IntKind) (a b : Int) : W.bin P F .geq t (.int k a) (.int k b) K = K (.bool (decide (b ≤ a))) := by rw [bin_eq]; simp [binA, opt_some]
theorem eql_i (t : TypeId) (k : IntKind) (a b : Int) : W.bin P F .eql t (.int k a) (.int k b) K = K (.bool (decide (a = b))) := by
  rw [bin_eq]; simp only [binA, ne_eq, not_true_eq_false, if_false, opt_some]; rw [show (a == b) = decide (a = b) from by cases h : (a == b) <;> simp_all]
theorem neq_i (t : TypeId) (k : IntKind) (a b : Int) : W.bin P F .neq t (.int k a) (.int k b) K = K (.bool (decide (a ≠ b))) := by
  rw [bin_eq]; simp only [binA, ne_eq, not_true_eq_false, if_false, opt_some]; rw [show (a != b) = decide (¬ a = b) from by cases h : (a != b) <;> simp_all]
theorem add_i (t : TypeId) (k : IntKind) (a b : Int) : W.bin P F .add t (.int k a) (.int k b) K = K (.int k (k.wrap (a + b))) := by rw [bin_eq]; simp [binA, opt_some]
theorem sub_i (t : TypeId) (k : IntKind) (a b : Int) : W.bin P F .sub t (.int k a) (.int k b) K = K (.int k (k.wrap (a - b))) := by rw [bin_eq]; simp [binA, opt_some]
theorem mul_i (t : TypeId) (k : IntKind) (a b : Int) : W.bin P F .mul t (.int k a) (.int k b) K = K (.int k (k.wrap (a * b))) := by rw [bin_eq]; simp [binA, opt_some]
theorem rem_i (t : TypeId) (k : IntKind) (a b : Int) : W.bin P F .rem t (.int k a) (.int k b) K = (b ≠ 0 ∧ K (.int k (a.tmod b))) := by
  rw [bin_eq]; by_cases h : b = 0 <;> simp [binA, opt_some, opt_none, h]
theorem eql_s (t : TypeId) (a b : List UInt8) : W.bin P F .eql t (.str a) (.str b) K = K (.bool (decide (a = b))) := by
  rw [bin_eq]; simp only [binA, opt_some]; rw [show (a == b) = decide (a = b) from by cases h : (a == b) <;> simp_all]
theorem neq_s (t : TypeId) (a b : List UInt8) : W.bin P F .neq t (.str a) (.str b) K = K (.bool (decide (a ≠ b))) := by
  rw [bin_eq]; simp only [binA, opt_some]; rw [show (!(a == b)) = decide (a ≠ b) from by cases h : (a == b) <;> simp_all]
theorem eql_b (t : TypeId) (h : P.underlying t = some .bool) (a b : Bool) : W.bin P F .eql t (.bool a) (.bool b) K = K (.bool (a == b)) := by rw [bin_eq]; simp [binA, eqA, h, opt_some]
theorem un_not (b : Bool) : W.un .not (.bool b) K = K (.bool !b) := propext ⟨fun ⟨v, h1, h2⟩ => by cases h1; exact h2, fun h => ⟨_, rfl, h⟩⟩
theorem un_neg (k : IntKind) (n : Int) : W.un .neg (.int k n) K = K (.int k (k.wrap (0 - n))) := propext ⟨fun ⟨v, h1, h2⟩ => by cases h1; exact h2, fun h => ⟨_, rfl, h⟩⟩
theorem conv_i (k k' : IntKind) (n : Int) : W.conv k (.int k' n) K = K (.int k (k.wrap n)) := propext ⟨fun ⟨k2, m, h1, h2⟩ => by cases h1; exact h2, fun h => ⟨_, _, rfl, h⟩⟩
theorem convS_s (s : List UInt8) : W.convS (.str s) K = K (.str s) := propext ⟨fun ⟨s, h1, h2⟩ => by cases h1; exact h2, fun h => ⟨_, rfl, h⟩⟩
theorem call_eq (g : FuncId) (cs args : List AV) : W.call P (.fn g cs) args L KL = CallA P g (args ++ cs) L KL := propext ⟨fun h => h.h, fun h => ⟨h⟩⟩
theorem dcall_eq {KN : AV → SH → List Nat → Prop} (us : List W.WR) (i : Nat) (g : FuncId) (cs args : List AV) : W.dcall P us i (.fn g cs) args L KN = ∃ Kc R : SH, L.Perm (Kc ++ R) ∧ (∀ x ∈ us, W.free x ⟨i, [], Kc.names, [], true, []⟩) ∧ CallA P g (args ++ cs) Kc fun v K' => KN v (K' ++ R) Kc.names := propext ⟨fun h => h.h, fun h => ⟨h⟩⟩
theorem note_eq {KF : W.Fp → Prop} (r : W.Fp) : W.note r KF = KF r := propext ⟨fun h => h.h r rfl, fun h => ⟨fun r' e => e ▸ h⟩⟩
/-- a pure call -/
def PureA (P : Program) (f : FuncId) (args : List AV) (v : AV) : Prop := CallA P f args [] fun u K => u = v ∧ K = []
theorem PureA.call {f : FuncId} {args : List AV} {v : AV} (h : PureA P f args v) (hk : KL v L) : CallA P f args L KL :=
  CallA.frame h (K := []) (R := L) (.refl _) fun u K ⟨h1, h2⟩ => by subst h1; subst h2; exact hk
theorem PureA.dcall {KN : AV → SH → List Nat → Prop} {us : List W.WR} {i : Nat} {g : FuncId} {cs args : List AV} {v : AV} (h : PureA P g (args ++ cs) v) (hf : ∀ x ∈ us, W.free x ⟨i, [], [], [], true, []⟩) (hk : KN v L []) : W.dcall P us i (.fn g cs) args L KN :=
  ⟨[], L, .refl _, hf, CallA.mono h fun u K ⟨h1, h2⟩ => by subst h1; subst h2; exact hk⟩
end
end Go.Proofs.Ytadjimfkfmojkaa.Am

end
section
namespace Go.Proofs.Ytadjimfkfmojkaa.Am
set_option linter.unusedVariables false
set_option maxRecDepth 100000
def object_Start_t : Hints := ⟨fun k => none, fun k => if k = 3 then [2, 3, 20, 21] else [], fun k => if k = 0 then [1] else if k = 1 then [3] else [], fun k => if k = 1 then [0, 1, 3, 7, 0, 16, 48, 112, 0, 256, 768, 1792, 4095, 0, 16383] else []⟩
def object_Start_zt0 (vs_38 : List AV) (L_40 : SH) (nx_39 : W.Kn)  : Prop :=
 W.faddr 0 (slotOf [2, 3, 20, 21] vs_38 3) fun t24_42 =>
 W.load false 1 t24_42 L_40 fun t25_43 =>
 W.idx 2 t25_43 (slotOf [2, 3, 20, 21] vs_38 21) L_40 fun t27_44 =>
 W.faddr 0 t27_44 fun t28_45 =>
 W.store 1 t28_45 (.int .i64 (-1)) L_40 fun L_46 =>
 W.bin Try.prog Fl .add 3 (slotOf [2, 3, 20, 21] vs_38 21) (.int .i64 1) fun t29_47 =>
 nx_39 [(slotOf [2, 3, 20, 21] vs_38 2), (slotOf [2, 3, 20, 21] vs_38 3), (slotOf [2, 3, 20, 21] vs_38 20), t29_47] L_46
def object_Start_zt1 (vs_38 : List AV) (L_40 : SH) (Q : AV → SH → Prop)  : Prop :=
 W.faddr 3 (slotOf [2, 3, 20, 21] vs_38 3) fun t34_52 =>
 W.load false 1 t34_52 L_40 fun t35_53 =>
 W.idx 3 t35_53 (.int .i64 0) L_40 fun t36_54 =>
 W.faddr 0 t36_54 fun t37_55 =>
 W.store 1 t37_55 (.int .i64 1) L_40 fun L_56 =>
 W.load true 4 (slotOf [2, 3, 20, 21] vs_38 3) L_56 fun t38_57 =>
 W.store 4 (slotOf [2, 3, 20, 21] vs_38 2) t38_57 L_56 fun L_58 =>
 W.load true 4 (slotOf [2, 3, 20, 21] vs_38 2) L_58 fun r_59 =>
 Q r_59 L_58
def object_Start_zt2 (vs_38 : List AV) (L_40 : SH) (Q : AV → SH → Prop)  : Prop :=
 W.load true 4 (slotOf [2, 3, 20, 21] vs_38 3) L_40 fun t38_60 =>
 W.store 4 (slotOf [2, 3, 20, 21] vs_38 2) t38_60 L_40 fun L_61 =>
 W.load true 4 (slotOf [2, 3, 20, 21] vs_38 2) L_61 fun r_62 =>
 Q r_62 L_61
def object_Start_zt3 (vs_38 : List AV) (L_40 : SH) (Q : AV → SH → Prop)  : Prop :=
 W.faddr 3 (slotOf [2, 3, 20, 21] vs_38 3) fun t30_48 =>
 W.load false 1 t30_48 L_40 fun t31_49 =>
 W.len t31_49 fun t32_50 =>
 W.bin Try.prog Fl .gtr 3 t32_50 (.int .i64 0) fun t33_51 =>
 W.cond t33_51 (
 (object_Start_zt1 vs_38 L_40 Q)) (
 (object_Start_zt2 vs_38 L_40 Q))
def object_Start_l0 (Q : AV → SH → Prop) (vs_38 : List AV) (L_40 : SH) (nx_39 : W.Kn) : Prop :=
 W.bin Try.prog Fl .lss 3 (slotOf [2, 3, 20, 21] vs_38 21) (slotOf [2, 3, 20, 21] vs_38 20) fun t22_41 =>
 W.cond t22_41 (
 (object_Start_zt0 vs_38 L_40 nx_39)) (
 (object_Start_zt3 vs_38 L_40 Q))
def object_Start_w (t0 : AV) (L : SH) (Q : AV → SH → Prop) : Prop :=
 W.box t0 L fun t1_0 L_1 =>
 W.alloc [.nils, (.int .i64 0), .nils, .nils] L_1 fun t2_2 L_3 =>
 W.frz1 t1_0 L_3 fun t1_4 L_5 =>
 (true = true) ∧ (
 W.faddr 1 t1_4 fun t5_6 =>
 W.calm [] ⟨1, (blocksOf t5_6), [], [], false, []⟩ (
 W.load false 1 t5_6 L_5 fun t6_7 =>
 W.note ⟨(blocksOf t5_6), [], [], []⟩ fun r_8 =>
 W.len t6_7 fun t7_9 =>
 W.calm [] ⟨3, [], [], [], false, []⟩ (
 W.mslice 2 32 [(.int .i64 0), .nils] t7_9 t7_9 L_5 fun t8_10 L_11 =>
 W.note ⟨[], [], (blocksOf t8_10), []⟩ fun r_12 =>
 W.faddr 3 t1_4 fun t9_13 =>
 W.calm [⟨3, r_12.reads, r_12.writes, r_12.made, false, r_12.old⟩, ⟨1, r_8.reads, r_8.writes, r_8.made, false, r_8.old⟩] ⟨5, (blocksOf t9_13), [], [], false, []⟩ (
 W.load false 1 t9_13 L_11 fun t10_14 =>
 W.note ⟨(blocksOf t9_13), [], [], []⟩ fun r_15 =>
 W.len t10_14 fun t11_16 =>
 W.calm [⟨3, r_12.reads, r_12.writes, r_12.made, false, r_12.old⟩, ⟨1, r_8.reads, r_8.writes, r_8.made, false, r_8.old⟩] ⟨7, [], [], [], false, []⟩ (
 W.mslice 1 1 [(.bool false)] t11_16 t11_16 L_11 fun t12_17 L_18 =>
 W.note ⟨[], [], (blocksOf t12_17), []⟩ fun r_19 =>
 W.faddr 4 t1_4 fun t13_20 =>
 W.calm [⟨7, r_19.reads, r_19.writes, r_19.made, false, r_19.old⟩, ⟨5, r_15.reads, r_15.writes, r_15.made, false, r_15.old⟩, ⟨3, r_12.reads, r_12.writes, r_12.made, false, r_12.old⟩, ⟨1, r_8.reads, r_8.writes, r_8.made, false, r_8.old⟩] ⟨9, (blocksOf t13_20), [], [], false, []⟩ (
 W.load false 1 t13_20 L_18 fun t14_21 =>
 W.note ⟨(blocksOf t13_20), [], [], []⟩ fun r_22 =>
 W.len t14_21 fun t15_23 =>
 W.calm [⟨7, r_19.reads, r_19.writes, r_19.made, false, r_19.old⟩, ⟨5, r_15.reads, r_15.writes, r_15.made, false, r_15.old⟩, ⟨3, r_12.reads, r_12.writes, r_12.made, false, r_12.old⟩, ⟨1, r_8.reads, r_8.writes, r_8.made, false, r_8.old⟩] ⟨11, [], [], [], false, []⟩ (
 W.mslice 3 24 [(.int .i64 0), (.int .i64 0), (.bool false)] t15_23 t15_23 L_18 fun t16_24 L_25 =>
 W.note ⟨[], [], (blocksOf t16_24), []⟩ fun r_26 =>
 W.build [.nils, (.int .i64 0), .nils, .nils] [(0, 1, t8_10), (1, 1, (.int .i64 (-1))), (2, 1, t12_17), (3, 1, t16_24)] fun t17_27 =>
 W.calm [⟨11, r_26.reads, r_26.writes, r_26.made, false, r_26.old⟩, ⟨9, r_22.reads, r_22.writes, r_22.made, false, r_22.old⟩, ⟨7, r_19.reads, r_19.writes, r_19.made, false, r_19.old⟩, ⟨5, r_15.reads, r_15.writes, r_15.made, false, r_15.old⟩, ⟨3, r_12.reads, r_12.writes, r_12.made, false, r_12.old⟩, ⟨1, r_8.reads, r_8.writes, r_8.made, false, r_8.old⟩] ⟨13, [], [], [], false, []⟩ (
 W.alloc [.nils, (.int .i64 0), .nils, .nils] L_25 fun t3_28 L_29 =>
 W.note ⟨[], [], (blocksOf t3_28), []⟩ fun r_30 =>
 W.calm [] ⟨14, (blocksOf t3_28), (blocksOf t3_28), [], false, []⟩ (
 W.store 4 t3_28 t17_27 L_29 fun L_31 =>
 W.note ⟨(blocksOf t3_28), (blocksOf t3_28), [], []⟩ fun r_32 =>
 W.frz1 t3_28 L_31 fun t3_33 L_34 =>
 W.faddr 0 t3_33 fun t18_35 =>
 W.load false 1 t18_35 L_34 fun t19_36 =>
 W.len t19_36 fun t20_37 =>
 W.loop (object_Start_l0 Q) [t2_2, t3_33, t20_37, (.int .i64 0)] L_34)))))))))
theorem object_Start_e (t0 : AV) (L : SH) (Q : AV → SH → Prop) : W.func Try.prog Fl object_Start_t Try.f21 (Try.f21.body.getD .skip) [t0] L Q = object_Start_w t0 L Q := by kernel_rfl
theorem object_Start_ok (t0 : AV) (L : SH) (Q : AV → SH → Prop) (h : object_Start_w t0 L Q) : CallA Try.prog 21 [t0] L Q :=
  func_sound (ht := object_Start_t) fit Try.func21 (show Try.f21.body = some (Try.f21.body.getD .skip) by kernel_rfl) (Eq.mpr (object_Start_e t0 L Q) h)

def object_Fits_t : Hints := ⟨fun k => none, fun k => if k = 4 then [2, 33, 34, 35] else [], fun k => if k = 0 then [2, 3] else if k = 5 then [6] else [], fun k => []⟩
def object_Fits_zt0 (vs_76 : List AV) (nx_77 : W.Kn) (L_93 : SH)  : Prop :=
 W.bin Try.prog Fl .add 3 (slotOf [2, 33, 34, 35] vs_76 35) (.int .i64 1) fun t46_95 =>
 nx_77 [(slotOf [2, 33, 34, 35] vs_76 2), (slotOf [2, 33, 34, 35] vs_76 33), (slotOf [2, 33, 34, 35] vs_76 34), t46_95] L_93
def object_Fits_c0 (Q : AV → SH → Prop) (vs_76 : List AV) (nx_77 : W.Kn) (t44_92 : AV) (L_93 : SH) : Prop :=
 W.un .not t44_92 fun t45_94 =>
 W.cond t45_94 (
 Q (.bool false) L_93) (
 (object_Fits_zt0 vs_76 nx_77 L_93))
def object_Fits_zt1 (vs_76 : List AV) (L_78 : SH) (Q : AV → SH → Prop) (nx_77 : W.Kn)  : Prop :=
 W.idx 2 (slotOf [2, 33, 34, 35] vs_76 33) (slotOf [2, 33, 34, 35] vs_76 35) L_78 fun t37_80 =>
 W.load true 2 t37_80 L_78 fun t38_81 =>
 W.alloc [(.str []), (.int .i64 0)] L_78 fun t6_82 L_83 =>
 W.store 2 t6_82 t38_81 L_83 fun L_84 =>
 W.frz1 t6_82 L_84 fun t6_85 L_86 =>
 W.faddr 1 t6_85 fun t39_87 =>
 W.load false 1 t39_87 L_86 fun t40_88 =>
 W.faddr 1 (slotOf [2, 33, 34, 35] vs_76 2) fun t41_89 =>
 W.load false 1 t41_89 L_86 fun t42_90 =>
 W.len t42_90 fun t43_91 =>
 W.call Try.prog (.fn 52 []) [t40_88, t43_91] L_86 (object_Fits_c0 Q vs_76 nx_77)
def object_Fits_l1 (Q : AV → SH → Prop) (vs_76 : List AV) (L_78 : SH) (nx_77 : W.Kn) : Prop :=
 W.bin Try.prog Fl .lss 3 (slotOf [2, 33, 34, 35] vs_76 35) (slotOf [2, 33, 34, 35] vs_76 34) fun t36_79 =>
 W.cond t36_79 (
 (object_Fits_zt1 vs_76 L_78 Q nx_77)) (
 Q (.bool true) L_78)
def object_Fits_zt2 (t2_4 : AV) (L_70 : SH) (Q : AV → SH → Prop)  : Prop :=
 W.faddr 2 t2_4 fun t32_73 =>
 W.load false 1 t32_73 L_70 fun t33_74 =>
 W.len t33_74 fun t34_75 =>
 W.loop (object_Fits_l1 Q) [t2_4, t33_74, t34_75, (.int .i64 0)] L_70
def object_Fits_w (t0 t1 : AV) (L : SH) (Q : AV → SH → Prop) : Prop :=
 W.box t0 L fun t2_0 L_1 =>
 W.box t1 L_1 fun t3_2 L_3 =>
 W.frz1 t2_0 L_3 fun t2_4 L_5 =>
 W.frz1 t3_2 L_5 fun t3_6 L_7 =>
 W.faddr 0 t3_6 fun t7_8 =>
 W.load false 1 t7_8 L_7 fun t8_9 =>
 W.len t8_9 fun t9_10 =>
 W.faddr 1 t2_4 fun t10_11 =>
 W.load false 1 t10_11 L_7 fun t11_12 =>
 W.len t11_12 fun t12_13 =>
 W.bin Try.prog Fl .neq 3 t9_10 t12_13 fun t13_14 =>
 W.grd t13_14 false (fun k_16 => W.faddr 2 t3_6 fun v_18 =>
 k_16 v_18 L_7) L_7 fun t15_15 L_17 =>
 W.grd t13_14 false (fun k_20 => W.load false 1 t15_15 L_17 fun v_22 =>
 k_20 v_22 L_17) L_17 fun t16_19 L_21 =>
 W.grd t13_14 false (fun k_24 => W.len t16_19 fun v_26 =>
 k_24 v_26 L_21) L_21 fun t17_23 L_25 =>
 W.grd t13_14 false (fun k_28 => W.faddr 3 t2_4 fun v_30 =>
 k_28 v_30 L_25) L_25 fun t18_27 L_29 =>
 W.grd t13_14 false (fun k_32 => W.load false 1 t18_27 L_29 fun v_34 =>
 k_32 v_34 L_29) L_29 fun t19_31 L_33 =>
 W.grd t13_14 false (fun k_36 => W.len t19_31 fun v_38 =>
 k_36 v_38 L_33) L_33 fun t20_35 L_37 =>
 W.grd t13_14 false (fun k_40 => W.bin Try.prog Fl .neq 3 t17_23 t20_35 fun v_42 =>
 k_40 v_42 L_37) L_37 fun t21_39 L_41 =>
 W.pick t13_14 (.bool true) t21_39 fun t22_43 =>
 W.grd t22_43 false (fun k_45 => W.faddr 3 t3_6 fun v_47 =>
 k_45 v_47 L_41) L_41 fun t24_44 L_46 =>
 W.grd t22_43 false (fun k_49 => W.load false 1 t24_44 L_46 fun v_51 =>
 k_49 v_51 L_46) L_46 fun t25_48 L_50 =>
 W.grd t22_43 false (fun k_53 => W.len t25_48 fun v_55 =>
 k_53 v_55 L_50) L_50 fun t26_52 L_54 =>
 W.grd t22_43 false (fun k_57 => W.faddr 4 t2_4 fun v_59 =>
 k_57 v_59 L_54) L_54 fun t27_56 L_58 =>
 W.grd t22_43 false (fun k_61 => W.load false 1 t27_56 L_58 fun v_63 =>
 k_61 v_63 L_58) L_58 fun t28_60 L_62 =>
 W.grd t22_43 false (fun k_65 => W.len t28_60 fun v_67 =>
 k_65 v_67 L_62) L_62 fun t29_64 L_66 =>
 W.grd t22_43 false (fun k_69 => W.bin Try.prog Fl .neq 3 t26_52 t29_64 fun v_71 =>
 k_69 v_71 L_66) L_66 fun t30_68 L_70 =>
 W.pick t22_43 (.bool true) t30_68 fun t31_72 =>
 W.cond t31_72 (
 Q (.bool false) L_70) (
 (object_Fits_zt2 t2_4 L_70 Q))
theorem object_Fits_e (t0 t1 : AV) (L : SH) (Q : AV → SH → Prop) : W.func Try.prog Fl object_Fits_t Try.f37 (Try.f37.body.getD .skip) [t0, t1] L Q = object_Fits_w t0 t1 L Q := by kernel_rfl
theorem object_Fits_ok (t0 t1 : AV) (L : SH) (Q : AV → SH → Prop) (h : object_Fits_w t0 t1 L Q) : CallA Try.prog 37 [t0, t1] L Q :=
  func_sound (ht := object_Fits_t) fit Try.func37 (show Try.f37.body = some (Try.f37.body.getD .skip) by kernel_rfl) (Eq.mpr (object_Fits_e t0 t1 L Q) h)

def object_within_t : Hints := ⟨fun k => none, fun k => [], fun k => [], fun k => []⟩
def object_within_w (t0 t1 : AV) (L : SH) (Q : AV → SH → Prop) : Prop :=
 W.bin Try.prog Fl .geq 3 t0 (.int .i64 0) fun t6_0 =>
 W.grd t6_0 true (fun k_2 => k_2 t0 L) L fun t8_1 L_3 =>
 W.grd t6_0 true (fun k_5 => k_5 t1 L_3) L_3 fun t9_4 L_6 =>
 W.grd t6_0 true (fun k_8 => W.bin Try.prog Fl .lss 3 t8_1 t9_4 fun v_10 =>
 k_8 v_10 L_6) L_6 fun t10_7 L_9 =>
 W.pick t6_0 t10_7 (.bool false) fun t11_11 =>
 Q t11_11 L_9
theorem object_within_e (t0 t1 : AV) (L : SH) (Q : AV → SH → Prop) : W.func Try.prog Fl object_within_t Try.f52 (Try.f52.body.getD .skip) [t0, t1] L Q = object_within_w t0 t1 L Q := by kernel_rfl
theorem object_within_ok (t0 t1 : AV) (L : SH) (Q : AV → SH → Prop) (h : object_within_w t0 t1 L Q) : CallA Try.prog 52 [t0, t1] L Q :=
  func_sound (ht := object_within_t) fit Try.func52 (show Try.f52.body = some (Try.f52.body.getD .skip) by kernel_rfl) (Eq.mpr (object_within_e t0 t1 L Q) h)

def object_waits_t : Hints := ⟨fun k => none, fun k => [], fun k => if k = 0 then [2] else [], fun k => []⟩
def object_waits_w (t0 t1 : AV) (L : SH) (Q : AV → SH → Prop) : Prop :=
 W.box t0 L fun t2_0 L_1 =>
 W.frz1 t2_0 L_1 fun t2_2 L_3 =>
 W.faddr 0 t2_2 fun t5_4 =>
 W.load false 1 t5_4 L_3 fun t6_5 =>
 W.bin Try.prog Fl .eql 3 t6_5 (.int .i64 3) fun t7_6 =>
 W.grd t7_6 true (fun k_8 => W.faddr 1 t2_2 fun v_10 =>
 k_8 v_10 L_3) L_3 fun t9_7 L_9 =>
 W.grd t7_6 true (fun k_12 => W.load false 1 t9_7 L_9 fun v_14 =>
 k_12 v_14 L_9) L_9 fun t10_11 L_13 =>
 W.grd t7_6 true (fun k_16 => k_16 t1 L_13) L_13 fun t11_15 L_17 =>
 W.grd t7_6 true (fun k_19 => W.bin Try.prog Fl .eql 3 t10_11 t11_15 fun v_21 =>
 k_19 v_21 L_17) L_17 fun t12_18 L_20 =>
 W.pick t7_6 t12_18 (.bool false) fun t13_22 =>
 Q t13_22 L_20
theorem object_waits_e (t0 t1 : AV) (L : SH) (Q : AV → SH → Prop) : W.func Try.prog Fl object_waits_t Try.f79 (Try.f79.body.getD .skip) [t0, t1] L Q = object_waits_w t0 t1 L Q := by kernel_rfl
theorem object_waits_ok (t0 t1 : AV) (L : SH) (Q : AV → SH → Prop) (h : object_waits_w t0 t1 L Q) : CallA Try.prog 79 [t0, t1] L Q :=
  func_sound (ht := object_waits_t) fit Try.func79 (show Try.f79.body = some (Try.f79.body.getD .skip) by kernel_rfl) (Eq.mpr (object_waits_e t0 t1 L Q) h)

def slices_Contains___int_int__t : Hints := ⟨fun k => none, fun k => [], fun k => [], fun k => []⟩
def slices_Contains___int_int__c0 (Q : AV → SH → Prop) (t7_0 : AV) (L_1 : SH) : Prop :=
 W.bin Try.prog Fl .geq 3 t7_0 (.int .i64 0) fun t8_2 =>
 Q t8_2 L_1
def slices_Contains___int_int__w (t0 t1 : AV) (L : SH) (Q : AV → SH → Prop) : Prop :=
 W.call Try.prog (.fn 80 []) [t0, t1] L (slices_Contains___int_int__c0 Q)
theorem slices_Contains___int_int__e (t0 t1 : AV) (L : SH) (Q : AV → SH → Prop) : W.func Try.prog Fl slices_Contains___int_int__t Try.f60 (Try.f60.body.getD .skip) [t0, t1] L Q = slices_Contains___int_int__w t0 t1 L Q := by kernel_rfl
theorem slices_Contains___int_int__ok (t0 t1 : AV) (L : SH) (Q : AV → SH → Prop) (h : slices_Contains___int_int__w t0 t1 L Q) : CallA Try.prog 60 [t0, t1] L Q :=
  func_sound (ht := slices_Contains___int_int__t) fit Try.func60 (show Try.f60.body = some (Try.f60.body.getD .skip) by kernel_rfl) (Eq.mpr (slices_Contains___int_int__e t0 t1 L Q) h)

def slices_Index___int_int__t : Hints := ⟨fun k => none, fun k => if k = 2 then [0, 1, 7, 8] else [], fun k => [], fun k => []⟩
def slices_Index___int_int__zt0 (vs_1 : List AV) (nx_2 : W.Kn) (L_3 : SH)  : Prop :=
 W.bin Try.prog Fl .add 3 (slotOf [0, 1, 7, 8] vs_1 8) (.int .i64 1) fun t18_8 =>
 nx_2 [(slotOf [0, 1, 7, 8] vs_1 0), (slotOf [0, 1, 7, 8] vs_1 1), (slotOf [0, 1, 7, 8] vs_1 7), t18_8] L_3
def slices_Index___int_int__zt1 (vs_1 : List AV) (L_3 : SH) (Q : AV → SH → Prop) (nx_2 : W.Kn)  : Prop :=
 W.idx 1 (slotOf [0, 1, 7, 8] vs_1 0) (slotOf [0, 1, 7, 8] vs_1 8) L_3 fun t14_5 =>
 W.load false 1 t14_5 L_3 fun t15_6 =>
 W.bin Try.prog Fl .eql 3 (slotOf [0, 1, 7, 8] vs_1 1) t15_6 fun t16_7 =>
 W.cond t16_7 (
 Q (slotOf [0, 1, 7, 8] vs_1 8) L_3) (
 (slices_Index___int_int__zt0 vs_1 nx_2 L_3))
def slices_Index___int_int__l0 (Q : AV → SH → Prop) (vs_1 : List AV) (L_3 : SH) (nx_2 : W.Kn) : Prop :=
 W.bin Try.prog Fl .lss 3 (slotOf [0, 1, 7, 8] vs_1 8) (slotOf [0, 1, 7, 8] vs_1 7) fun t9_4 =>
 W.cond t9_4 (
 (slices_Index___int_int__zt1 vs_1 L_3 Q nx_2)) (
 Q (.int .i64 (-1)) L_3)
def slices_Index___int_int__w (t0 t1 : AV) (L : SH) (Q : AV → SH → Prop) : Prop :=
 W.len t0 fun t7_0 =>
 W.loop (slices_Index___int_int__l0 Q) [t0, t1, t7_0, (.int .i64 0)] L
theorem slices_Index___int_int__e (t0 t1 : AV) (L : SH) (Q : AV → SH → Prop) : W.func Try.prog Fl slices_Index___int_int__t Try.f80 (Try.f80.body.getD .skip) [t0, t1] L Q = slices_Index___int_int__w t0 t1 L Q := by kernel_rfl
theorem slices_Index___int_int__ok (t0 t1 : AV) (L : SH) (Q : AV → SH → Prop) (h : slices_Index___int_int__w t0 t1 L Q) : CallA Try.prog 80 [t0, t1] L Q :=
  func_sound (ht := slices_Index___int_int__t) fit Try.func80 (show Try.f80.body = some (Try.f80.body.getD .skip) by kernel_rfl) (Eq.mpr (slices_Index___int_int__e t0 t1 L Q) h)

def object_allowed_t : Hints := ⟨fun k => if k = 8 then some [2, 3, 7, 8] else if k = 11 then some [2, 3, 7, 18] else if k = 14 then some [2, 3, 7, 26] else if k = 19 then some [2, 3, 7, 43] else if k = 24 then some [2, 3, 7, 61] else if k = 27 then some [2, 3, 7, 71] else if k = 30 then some [2, 3, 79] else none, fun k => [], fun k => if k = 0 then [3] else [], fun k => []⟩
def object_allowed_zt0 (vs_8 : List AV) (L_10 : SH) (Q : AV → SH → Prop)  : Prop :=
 W.faddr 0 (slotOf [2, 3, 7, 18] vs_8 3) fun t22_11 =>
 W.load false 1 t22_11 L_10 fun t23_12 =>
 W.len t23_12 fun t24_13 =>
 W.call Try.prog (.fn 52 []) [(slotOf [2, 3, 7, 18] vs_8 2), t24_13] L_10 fun t25_14 L_15 =>
 Q t25_14 L_15
def object_allowed_c0 (vs_16 : List AV) (Q : AV → SH → Prop) (t33_22 : AV) (L_23 : SH) : Prop :=
 W.grd t33_22 true (fun k_25 => W.faddr 1 (slotOf [2, 3, 7, 26] vs_16 3) fun v_27 =>
 k_25 v_27 L_23) L_23 fun t35_24 L_26 =>
 W.grd t33_22 true (fun k_29 => W.load false 1 t35_24 L_26 fun v_31 =>
 k_29 v_31 L_26) L_26 fun t36_28 L_30 =>
 W.grd t33_22 true (fun k_33 => k_33 (slotOf [2, 3, 7, 26] vs_16 2) L_30) L_30 fun t37_32 L_34 =>
 W.grd t33_22 true (fun k_36 => W.idx 2 t36_28 t37_32 L_34 fun v_38 =>
 k_36 v_38 L_34) L_34 fun t38_35 L_37 =>
 W.grd t33_22 true (fun k_40 => W.faddr 1 t38_35 fun v_42 =>
 k_40 v_42 L_37) L_37 fun t39_39 L_41 =>
 W.grd t33_22 true (fun k_44 => W.load false 1 t39_39 L_41 fun v_46 =>
 k_44 v_46 L_41) L_41 fun t40_43 L_45 =>
 W.grd t33_22 true (fun k_48 => W.un .not t40_43 fun v_50 =>
 k_48 v_50 L_45) L_45 fun t41_47 L_49 =>
 W.pick t33_22 t41_47 (.bool false) fun t42_51 =>
 Q t42_51 L_49
def object_allowed_zt1 (vs_16 : List AV) (L_18 : SH) (Q : AV → SH → Prop)  : Prop :=
 W.faddr 1 (slotOf [2, 3, 7, 26] vs_16 3) fun t30_19 =>
 W.load false 1 t30_19 L_18 fun t31_20 =>
 W.len t31_20 fun t32_21 =>
 W.call Try.prog (.fn 52 []) [(slotOf [2, 3, 7, 26] vs_16 2), t32_21] L_18 (object_allowed_c0 vs_16 Q)
def object_allowed_c1 (vs_52 : List AV) (Q : AV → SH → Prop) (t52_58 : AV) (L_59 : SH) : Prop :=
 W.grd t52_58 true (fun k_61 => W.faddr 1 (slotOf [2, 3, 7, 43] vs_52 3) fun v_63 =>
 k_61 v_63 L_59) L_59 fun t54_60 L_62 =>
 W.grd t52_58 true (fun k_65 => W.load false 1 t54_60 L_62 fun v_67 =>
 k_65 v_67 L_62) L_62 fun t55_64 L_66 =>
 W.grd t52_58 true (fun k_69 => k_69 (slotOf [2, 3, 7, 43] vs_52 2) L_66) L_66 fun t56_68 L_70 =>
 W.grd t52_58 true (fun k_72 => W.idx 2 t55_64 t56_68 L_70 fun v_74 =>
 k_72 v_74 L_70) L_70 fun t57_71 L_73 =>
 W.grd t52_58 true (fun k_76 => W.faddr 1 t57_71 fun v_78 =>
 k_76 v_78 L_73) L_73 fun t58_75 L_77 =>
 W.grd t52_58 true (fun k_80 => W.load false 1 t58_75 L_77 fun v_82 =>
 k_80 v_82 L_77) L_77 fun t59_79 L_81 =>
 W.pick t52_58 t59_79 (.bool false) fun t60_83 =>
 Q t60_83 L_81
def object_allowed_zt2 (vs_52 : List AV) (L_54 : SH) (Q : AV → SH → Prop)  : Prop :=
 W.faddr 1 (slotOf [2, 3, 7, 43] vs_52 3) fun t49_55 =>
 W.load false 1 t49_55 L_54 fun t50_56 =>
 W.len t50_56 fun t51_57 =>
 W.call Try.prog (.fn 52 []) [(slotOf [2, 3, 7, 43] vs_52 2), t51_57] L_54 (object_allowed_c1 vs_52 Q)
def object_allowed_zt3 (vs_84 : List AV) (L_86 : SH) (Q : AV → SH → Prop)  : Prop :=
 W.faddr 2 (slotOf [2, 3, 7, 61] vs_84 3) fun t67_87 =>
 W.load false 1 t67_87 L_86 fun t68_88 =>
 W.len t68_88 fun t69_89 =>
 W.call Try.prog (.fn 52 []) [(slotOf [2, 3, 7, 61] vs_84 2), t69_89] L_86 fun t70_90 L_91 =>
 Q t70_90 L_91
def object_allowed_zt4 (vs_92 : List AV) (L_94 : SH) (Q : AV → SH → Prop)  : Prop :=
 W.faddr 4 (slotOf [2, 3, 7, 71] vs_92 3) fun t75_95 =>
 W.load false 1 t75_95 L_94 fun t76_96 =>
 W.len t76_96 fun t77_97 =>
 W.call Try.prog (.fn 52 []) [(slotOf [2, 3, 7, 71] vs_92 2), t77_97] L_94 fun t78_98 L_99 =>
 Q t78_98 L_99
def object_allowed_zt5 (vs_100 : List AV) (L_102 : SH) (Q : AV → SH → Prop)  : Prop :=
 W.faddr 3 (slotOf [2, 3, 79] vs_100 3) fun t83_103 =>
 W.load false 1 t83_103 L_102 fun t84_104 =>
 W.len t84_104 fun t85_105 =>
 W.call Try.prog (.fn 52 []) [(slotOf [2, 3, 79] vs_100 2), t85_105] L_102 fun t86_106 L_107 =>
 Q t86_106 L_107
def object_allowed_j2 (Q : AV → SH → Prop) (vs_100 : List AV) (L_102 : SH) : Prop :=
 W.cond (slotOf [2, 3, 79] vs_100 79) (
 (object_allowed_zt5 vs_100 L_102 Q)) (
 Q (.bool false) L_102)
def object_allowed_zt6 (vs_92 : List AV) (j_101 : W.Kn) (L_94 : SH)  : Prop :=
 W.bin Try.prog Fl .eql 3 (slotOf [2, 3, 7, 71] vs_92 7) (.int .i64 23) fun t81_109 =>
 j_101 [(slotOf [2, 3, 7, 71] vs_92 2), (slotOf [2, 3, 7, 71] vs_92 3), t81_109] L_94
def object_allowed_zt7 (Q : AV → SH → Prop) (vs_92 : List AV) (L_94 : SH)  : Prop :=
 W.join (object_allowed_j2 Q) fun j_101 =>
 W.bin Try.prog Fl .eql 3 (slotOf [2, 3, 7, 71] vs_92 7) (.int .i64 22) fun t80_108 =>
 W.cond t80_108 (
 j_101 [(slotOf [2, 3, 7, 71] vs_92 2), (slotOf [2, 3, 7, 71] vs_92 3), t80_108] L_94) (
 (object_allowed_zt6 vs_92 j_101 L_94))
def object_allowed_j3 (Q : AV → SH → Prop) (vs_92 : List AV) (L_94 : SH) : Prop :=
 W.cond (slotOf [2, 3, 7, 71] vs_92 71) (
 (object_allowed_zt4 vs_92 L_94 Q)) (
 (object_allowed_zt7 Q vs_92 L_94))
def object_allowed_zt8 (vs_84 : List AV) (j_93 : W.Kn) (L_86 : SH)  : Prop :=
 W.bin Try.prog Fl .eql 3 (slotOf [2, 3, 7, 61] vs_84 7) (.int .i64 21) fun t73_111 =>
 j_93 [(slotOf [2, 3, 7, 61] vs_84 2), (slotOf [2, 3, 7, 61] vs_84 3), (slotOf [2, 3, 7, 61] vs_84 7), t73_111] L_86
def object_allowed_zt9 (Q : AV → SH → Prop) (vs_84 : List AV) (L_86 : SH)  : Prop :=
 W.join (object_allowed_j3 Q) fun j_93 =>
 W.bin Try.prog Fl .eql 3 (slotOf [2, 3, 7, 61] vs_84 7) (.int .i64 20) fun t72_110 =>
 W.cond t72_110 (
 j_93 [(slotOf [2, 3, 7, 61] vs_84 2), (slotOf [2, 3, 7, 61] vs_84 3), (slotOf [2, 3, 7, 61] vs_84 7), t72_110] L_86) (
 (object_allowed_zt8 vs_84 j_93 L_86))
def object_allowed_j4 (Q : AV → SH → Prop) (vs_84 : List AV) (L_86 : SH) : Prop :=
 W.cond (slotOf [2, 3, 7, 61] vs_84 61) (
 (object_allowed_zt3 vs_84 L_86 Q)) (
 (object_allowed_zt9 Q vs_84 L_86))
def object_allowed_zt10 (vs_52 : List AV) (j_85 : W.Kn) (L_54 : SH)  : Prop :=
 W.bin Try.prog Fl .eql 3 (slotOf [2, 3, 7, 43] vs_52 7) (.int .i64 19) fun t65_115 =>
 j_85 [(slotOf [2, 3, 7, 43] vs_52 2), (slotOf [2, 3, 7, 43] vs_52 3), (slotOf [2, 3, 7, 43] vs_52 7), t65_115] L_54
def object_allowed_zt11 (vs_52 : List AV) (j_85 : W.Kn) (L_54 : SH)  : Prop :=
 W.bin Try.prog Fl .eql 3 (slotOf [2, 3, 7, 43] vs_52 7) (.int .i64 18) fun t64_114 =>
 W.cond t64_114 (
 j_85 [(slotOf [2, 3, 7, 43] vs_52 2), (slotOf [2, 3, 7, 43] vs_52 3), (slotOf [2, 3, 7, 43] vs_52 7), t64_114] L_54) (
 (object_allowed_zt10 vs_52 j_85 L_54))
def object_allowed_zt12 (vs_52 : List AV) (j_85 : W.Kn) (L_54 : SH)  : Prop :=
 W.bin Try.prog Fl .eql 3 (slotOf [2, 3, 7, 43] vs_52 7) (.int .i64 17) fun t63_113 =>
 W.cond t63_113 (
 j_85 [(slotOf [2, 3, 7, 43] vs_52 2), (slotOf [2, 3, 7, 43] vs_52 3), (slotOf [2, 3, 7, 43] vs_52 7), t63_113] L_54) (
 (object_allowed_zt11 vs_52 j_85 L_54))
def object_allowed_zt13 (Q : AV → SH → Prop) (vs_52 : List AV) (L_54 : SH)  : Prop :=
 W.join (object_allowed_j4 Q) fun j_85 =>
 W.bin Try.prog Fl .eql 3 (slotOf [2, 3, 7, 43] vs_52 7) (.int .i64 16) fun t62_112 =>
 W.cond t62_112 (
 j_85 [(slotOf [2, 3, 7, 43] vs_52 2), (slotOf [2, 3, 7, 43] vs_52 3), (slotOf [2, 3, 7, 43] vs_52 7), t62_112] L_54) (
 (object_allowed_zt12 vs_52 j_85 L_54))
def object_allowed_j5 (Q : AV → SH → Prop) (vs_52 : List AV) (L_54 : SH) : Prop :=
 W.cond (slotOf [2, 3, 7, 43] vs_52 43) (
 (object_allowed_zt2 vs_52 L_54 Q)) (
 (object_allowed_zt13 Q vs_52 L_54))
def object_allowed_zt14 (vs_16 : List AV) (j_53 : W.Kn) (L_18 : SH)  : Prop :=
 W.bin Try.prog Fl .eql 3 (slotOf [2, 3, 7, 26] vs_16 7) (.int .i64 11) fun t47_119 =>
 j_53 [(slotOf [2, 3, 7, 26] vs_16 2), (slotOf [2, 3, 7, 26] vs_16 3), (slotOf [2, 3, 7, 26] vs_16 7), t47_119] L_18
def object_allowed_zt15 (vs_16 : List AV) (j_53 : W.Kn) (L_18 : SH)  : Prop :=
 W.bin Try.prog Fl .eql 3 (slotOf [2, 3, 7, 26] vs_16 7) (.int .i64 10) fun t46_118 =>
 W.cond t46_118 (
 j_53 [(slotOf [2, 3, 7, 26] vs_16 2), (slotOf [2, 3, 7, 26] vs_16 3), (slotOf [2, 3, 7, 26] vs_16 7), t46_118] L_18) (
 (object_allowed_zt14 vs_16 j_53 L_18))
def object_allowed_zt16 (vs_16 : List AV) (j_53 : W.Kn) (L_18 : SH)  : Prop :=
 W.bin Try.prog Fl .eql 3 (slotOf [2, 3, 7, 26] vs_16 7) (.int .i64 9) fun t45_117 =>
 W.cond t45_117 (
 j_53 [(slotOf [2, 3, 7, 26] vs_16 2), (slotOf [2, 3, 7, 26] vs_16 3), (slotOf [2, 3, 7, 26] vs_16 7), t45_117] L_18) (
 (object_allowed_zt15 vs_16 j_53 L_18))
def object_allowed_zt17 (Q : AV → SH → Prop) (vs_16 : List AV) (L_18 : SH)  : Prop :=
 W.join (object_allowed_j5 Q) fun j_53 =>
 W.bin Try.prog Fl .eql 3 (slotOf [2, 3, 7, 26] vs_16 7) (.int .i64 8) fun t44_116 =>
 W.cond t44_116 (
 j_53 [(slotOf [2, 3, 7, 26] vs_16 2), (slotOf [2, 3, 7, 26] vs_16 3), (slotOf [2, 3, 7, 26] vs_16 7), t44_116] L_18) (
 (object_allowed_zt16 vs_16 j_53 L_18))
def object_allowed_j6 (Q : AV → SH → Prop) (vs_16 : List AV) (L_18 : SH) : Prop :=
 W.cond (slotOf [2, 3, 7, 26] vs_16 26) (
 (object_allowed_zt1 vs_16 L_18 Q)) (
 (object_allowed_zt17 Q vs_16 L_18))
def object_allowed_zt18 (vs_8 : List AV) (j_17 : W.Kn) (L_10 : SH)  : Prop :=
 W.bin Try.prog Fl .eql 3 (slotOf [2, 3, 7, 18] vs_8 7) (.int .i64 7) fun t28_121 =>
 j_17 [(slotOf [2, 3, 7, 18] vs_8 2), (slotOf [2, 3, 7, 18] vs_8 3), (slotOf [2, 3, 7, 18] vs_8 7), t28_121] L_10
def object_allowed_zt19 (Q : AV → SH → Prop) (vs_8 : List AV) (L_10 : SH)  : Prop :=
 W.join (object_allowed_j6 Q) fun j_17 =>
 W.bin Try.prog Fl .eql 3 (slotOf [2, 3, 7, 18] vs_8 7) (.int .i64 6) fun t27_120 =>
 W.cond t27_120 (
 j_17 [(slotOf [2, 3, 7, 18] vs_8 2), (slotOf [2, 3, 7, 18] vs_8 3), (slotOf [2, 3, 7, 18] vs_8 7), t27_120] L_10) (
 (object_allowed_zt18 vs_8 j_17 L_10))
def object_allowed_j7 (Q : AV → SH → Prop) (vs_8 : List AV) (L_10 : SH) : Prop :=
 W.cond (slotOf [2, 3, 7, 18] vs_8 18) (
 (object_allowed_zt0 vs_8 L_10 Q)) (
 (object_allowed_zt19 Q vs_8 L_10))
def object_allowed_zt20 (vs_4 : List AV) (j_9 : W.Kn) (L_6 : SH)  : Prop :=
 W.bin Try.prog Fl .eql 3 (slotOf [2, 3, 7, 8] vs_4 7) (.int .i64 4) fun t20_123 =>
 j_9 [(slotOf [2, 3, 7, 8] vs_4 2), (slotOf [2, 3, 7, 8] vs_4 3), (slotOf [2, 3, 7, 8] vs_4 7), t20_123] L_6
def object_allowed_zt21 (Q : AV → SH → Prop) (vs_4 : List AV) (L_6 : SH)  : Prop :=
 W.join (object_allowed_j7 Q) fun j_9 =>
 W.bin Try.prog Fl .eql 3 (slotOf [2, 3, 7, 8] vs_4 7) (.int .i64 3) fun t19_122 =>
 W.cond t19_122 (
 j_9 [(slotOf [2, 3, 7, 8] vs_4 2), (slotOf [2, 3, 7, 8] vs_4 3), (slotOf [2, 3, 7, 8] vs_4 7), t19_122] L_6) (
 (object_allowed_zt20 vs_4 j_9 L_6))
def object_allowed_j8 (Q : AV → SH → Prop) (vs_4 : List AV) (L_6 : SH) : Prop :=
 W.cond (slotOf [2, 3, 7, 8] vs_4 8) (
 W.bin Try.prog Fl .eql 3 (slotOf [2, 3, 7, 8] vs_4 2) (.int .i64 (-1)) fun t17_7 =>
 Q t17_7 L_6) (
 (object_allowed_zt21 Q vs_4 L_6))
def object_allowed_zt22 (t1 : AV) (j_5 : W.Kn) (t2 : AV) (t3_2 : AV) (L_3 : SH)  : Prop :=
 W.bin Try.prog Fl .eql 3 t1 (.int .i64 14) fun t14_129 =>
 W.cond t14_129 (
 j_5 [t2, t3_2, t1, t14_129] L_3) (
 W.bin Try.prog Fl .eql 3 t1 (.int .i64 15) fun t15_130 =>
 j_5 [t2, t3_2, t1, t15_130] L_3)
def object_allowed_zt23 (t1 : AV) (j_5 : W.Kn) (t2 : AV) (t3_2 : AV) (L_3 : SH)  : Prop :=
 W.bin Try.prog Fl .eql 3 t1 (.int .i64 12) fun t12_127 =>
 W.cond t12_127 (
 j_5 [t2, t3_2, t1, t12_127] L_3) (
 W.bin Try.prog Fl .eql 3 t1 (.int .i64 13) fun t13_128 =>
 W.cond t13_128 (
 j_5 [t2, t3_2, t1, t13_128] L_3) (
 (object_allowed_zt22 t1 j_5 t2 t3_2 L_3)))
def object_allowed_zt24 (t1 : AV) (j_5 : W.Kn) (t2 : AV) (t3_2 : AV) (L_3 : SH)  : Prop :=
 W.bin Try.prog Fl .eql 3 t1 (.int .i64 2) fun t10_125 =>
 W.cond t10_125 (
 j_5 [t2, t3_2, t1, t10_125] L_3) (
 W.bin Try.prog Fl .eql 3 t1 (.int .i64 5) fun t11_126 =>
 W.cond t11_126 (
 j_5 [t2, t3_2, t1, t11_126] L_3) (
 (object_allowed_zt23 t1 j_5 t2 t3_2 L_3)))
def object_allowed_w (t0 t1 t2 : AV) (L : SH) (Q : AV → SH → Prop) : Prop :=
 W.box t0 L fun t3_0 L_1 =>
 W.frz1 t3_0 L_1 fun t3_2 L_3 =>
 W.join (object_allowed_j8 Q) fun j_5 =>
 W.bin Try.prog Fl .eql 3 t1 (.int .i64 1) fun t9_124 =>
 W.cond t9_124 (
 j_5 [t2, t3_2, t1, t9_124] L_3) (
 (object_allowed_zt24 t1 j_5 t2 t3_2 L_3))
theorem object_allowed_e (t0 t1 t2 : AV) (L : SH) (Q : AV → SH → Prop) : W.func Try.prog Fl object_allowed_t Try.f53 (Try.f53.body.getD .skip) [t0, t1, t2] L Q = object_allowed_w t0 t1 t2 L Q := by kernel_rfl
theorem object_allowed_ok (t0 t1 t2 : AV) (L : SH) (Q : AV → SH → Prop) (h : object_allowed_w t0 t1 t2 L Q) : CallA Try.prog 53 [t0, t1, t2] L Q :=
  func_sound (ht := object_allowed_t) fit Try.func53 (show Try.f53.body = some (Try.f53.body.getD .skip) by kernel_rfl) (Eq.mpr (object_allowed_e t0 t1 t2 L Q) h)

def object_ready_t : Hints := ⟨fun k => if k = 9 then some [2, 4, 5, 6, 11, 60] else if k = 23 then some [2, 4, 5, 6, 11, 109] else none, fun k => [], fun k => if k = 0 then [5, 6] else [], fun k => if k = 24 then [0, 1, 0, 4, 0, 28, 60, 124, 255, 511, 1023, 0, 4095, 8191] else []⟩
def object_ready_zt0 (t6_6 : AV) (L_7 : SH) (t4 : AV) (Q : AV → SH → Prop)  : Prop :=
 W.faddr 0 t6_6 fun t14_9 =>
 W.load false 1 t14_9 L_7 fun t15_10 =>
 W.idx 2 t15_10 t4 L_7 fun t17_11 =>
 W.faddr 0 t17_11 fun t18_12 =>
 W.load false 1 t18_12 L_7 fun t19_13 =>
 W.bin Try.prog Fl .eql 3 t19_13 (.int .i64 (-1)) fun t20_14 =>
 Q t20_14 L_7
def object_ready_zt1 (t6_6 : AV) (L_7 : SH) (t4 : AV) (Q : AV → SH → Prop)  : Prop :=
 W.faddr 0 t6_6 fun t23_16 =>
 W.load false 1 t23_16 L_7 fun t24_17 =>
 W.idx 2 t24_17 t4 L_7 fun t26_18 =>
 W.faddr 0 t26_18 fun t27_19 =>
 W.load false 1 t27_19 L_7 fun t28_20 =>
 W.bin Try.prog Fl .eql 3 t28_20 (.int .i64 (-1)) fun t29_21 =>
 W.grd t29_21 true (fun k_23 => W.faddr 0 t6_6 fun v_25 =>
 k_23 v_25 L_7) L_7 fun t31_22 L_24 =>
 W.grd t29_21 true (fun k_27 => W.load false 1 t31_22 L_24 fun v_29 =>
 k_27 v_29 L_24) L_24 fun t32_26 L_28 =>
 W.grd t29_21 true (fun k_31 => k_31 t4 L_28) L_28 fun t33_30 L_32 =>
 W.grd t29_21 true (fun k_34 => W.idx 2 t32_26 t33_30 L_32 fun v_36 =>
 k_34 v_36 L_32) L_32 fun t34_33 L_35 =>
 W.grd t29_21 true (fun k_38 => W.faddr 1 t34_33 fun v_40 =>
 k_38 v_40 L_35) L_35 fun t35_37 L_39 =>
 W.grd t29_21 true (fun k_42 => W.load false 1 t35_37 L_39 fun v_44 =>
 k_42 v_44 L_39) L_39 fun t36_41 L_43 =>
 W.grd t29_21 true (fun k_46 => W.len t36_41 fun v_48 =>
 k_46 v_48 L_43) L_43 fun t37_45 L_47 =>
 W.grd t29_21 true (fun k_50 => W.bin Try.prog Fl .eql 3 t37_45 (.int .i64 0) fun v_52 =>
 k_50 v_52 L_47) L_47 fun t38_49 L_51 =>
 W.pick t29_21 t38_49 (.bool false) fun t39_53 =>
 Q t39_53 L_51
def object_ready_zt2 (t6_6 : AV) (L_7 : SH) (t4 : AV) (t2 : AV) (Q : AV → SH → Prop)  : Prop :=
 W.faddr 0 t6_6 fun t42_55 =>
 W.load false 1 t42_55 L_7 fun t43_56 =>
 W.idx 2 t43_56 t4 L_7 fun t45_57 =>
 W.faddr 0 t45_57 fun t46_58 =>
 W.load false 1 t46_58 L_7 fun t47_59 =>
 W.bin Try.prog Fl .eql 3 t47_59 (.int .i64 (-1)) fun t48_60 =>
 W.grd t48_60 true (fun k_62 => W.faddr 0 t6_6 fun v_64 =>
 k_62 v_64 L_7) L_7 fun t50_61 L_63 =>
 W.grd t48_60 true (fun k_66 => W.load false 1 t50_61 L_63 fun v_68 =>
 k_66 v_68 L_63) L_63 fun t51_65 L_67 =>
 W.grd t48_60 true (fun k_70 => k_70 t4 L_67) L_67 fun t52_69 L_71 =>
 W.grd t48_60 true (fun k_73 => W.idx 2 t51_65 t52_69 L_71 fun v_75 =>
 k_73 v_75 L_71) L_71 fun t53_72 L_74 =>
 W.grd t48_60 true (fun k_77 => W.faddr 1 t53_72 fun v_79 =>
 k_77 v_79 L_74) L_74 fun t54_76 L_78 =>
 W.grd t48_60 true (fun k_81 => W.load false 1 t54_76 L_78 fun v_83 =>
 k_81 v_83 L_78) L_78 fun t55_80 L_82 =>
 W.grd t48_60 true (fun k_85 => k_85 t2 L_82) L_82 fun t56_84 L_86 =>
 W.grd t48_60 true (fun k_88 => W.call Try.prog (.fn 60 []) [t55_80, t56_84] L_86 fun v_90 L_91 =>
 k_88 v_90 L_91) L_86 fun t57_87 L_89 =>
 W.grd t48_60 true (fun k_93 => W.un .not t57_87 fun v_95 =>
 k_93 v_95 L_89) L_89 fun t58_92 L_94 =>
 W.pick t48_60 t58_92 (.bool false) fun t59_96 =>
 Q t59_96 L_94
def object_ready_zt3 (vs_97 : List AV) (L_99 : SH) (Q : AV → SH → Prop)  : Prop :=
 W.faddr 0 (slotOf [2, 4, 5, 6, 11, 60] vs_97 6) fun t63_100 =>
 W.load false 1 t63_100 L_99 fun t64_101 =>
 W.idx 2 t64_101 (slotOf [2, 4, 5, 6, 11, 60] vs_97 4) L_99 fun t66_102 =>
 W.faddr 0 t66_102 fun t67_103 =>
 W.load false 1 t67_103 L_99 fun t68_104 =>
 W.bin Try.prog Fl .eql 3 t68_104 (slotOf [2, 4, 5, 6, 11, 60] vs_97 2) fun t70_105 =>
 Q t70_105 L_99
def object_ready_zt4 (vs_97 : List AV) (L_99 : SH) (Q : AV → SH → Prop)  : Prop :=
 W.faddr 0 (slotOf [2, 4, 5, 6, 11, 60] vs_97 6) fun t73_107 =>
 W.load false 1 t73_107 L_99 fun t74_108 =>
 W.idx 2 t74_108 (slotOf [2, 4, 5, 6, 11, 60] vs_97 4) L_99 fun t76_109 =>
 W.faddr 1 t76_109 fun t77_110 =>
 W.load false 1 t77_110 L_99 fun t78_111 =>
 W.call Try.prog (.fn 60 []) [t78_111, (slotOf [2, 4, 5, 6, 11, 60] vs_97 2)] L_99 fun t80_112 L_113 =>
 Q t80_112 L_113
def object_ready_zt5 (vs_97 : List AV) (L_99 : SH) (Q : AV → SH → Prop)  : Prop :=
 W.faddr 1 (slotOf [2, 4, 5, 6, 11, 60] vs_97 6) fun t83_115 =>
 W.load false 1 t83_115 L_99 fun t84_116 =>
 W.bin Try.prog Fl .eql 3 t84_116 (.int .i64 (-1)) fun t85_117 =>
 Q t85_117 L_99
def object_ready_zt6 (vs_97 : List AV) (L_99 : SH) (Q : AV → SH → Prop)  : Prop :=
 W.faddr 1 (slotOf [2, 4, 5, 6, 11, 60] vs_97 6) fun t88_119 =>
 W.load false 1 t88_119 L_99 fun t89_120 =>
 W.bin Try.prog Fl .eql 3 t89_120 (slotOf [2, 4, 5, 6, 11, 60] vs_97 2) fun t91_121 =>
 Q t91_121 L_99
def object_ready_zt7 (vs_97 : List AV) (L_99 : SH) (Q : AV → SH → Prop)  : Prop :=
 W.faddr 3 (slotOf [2, 4, 5, 6, 11, 60] vs_97 6) fun t94_123 =>
 W.load false 1 t94_123 L_99 fun t95_124 =>
 W.idx 3 t95_124 (slotOf [2, 4, 5, 6, 11, 60] vs_97 2) L_99 fun t97_125 =>
 W.faddr 2 t97_125 fun t98_126 =>
 W.load false 1 t98_126 L_99 fun t99_127 =>
 W.un .not t99_127 fun t100_128 =>
 Q t100_128 L_99
def object_ready_zt8 (vs_97 : List AV) (L_99 : SH) (Q : AV → SH → Prop)  : Prop :=
 W.faddr 3 (slotOf [2, 4, 5, 6, 11, 60] vs_97 6) fun t103_130 =>
 W.load false 1 t103_130 L_99 fun t104_131 =>
 W.idx 3 t104_131 (slotOf [2, 4, 5, 6, 11, 60] vs_97 2) L_99 fun t106_132 =>
 W.faddr 2 t106_132 fun t107_133 =>
 W.load false 1 t107_133 L_99 fun t108_134 =>
 Q t108_134 L_99
def object_ready_zt9 (vs_135 : List AV) (L_137 : SH) (Q : AV → SH → Prop)  : Prop :=
 (true = true) ∧ (
 W.faddr 0 (slotOf [2, 4, 5, 6, 11, 109] vs_135 6) fun t113_138 =>
 W.calm [] ⟨1, (blocksOf t113_138), [], [], false, []⟩ (
 W.load false 1 t113_138 L_137 fun t114_139 =>
 W.note ⟨(blocksOf t113_138), [], [], []⟩ fun r_140 =>
 W.faddr 2 (slotOf [2, 4, 5, 6, 11, 109] vs_135 5) fun t115_141 =>
 W.calm [⟨1, r_140.reads, r_140.writes, r_140.made, false, r_140.old⟩] ⟨3, (blocksOf t115_141), [], [], false, []⟩ (
 W.load false 1 t115_141 L_137 fun t116_142 =>
 W.note ⟨(blocksOf t115_141), [], [], []⟩ fun r_143 =>
 W.calm [⟨1, r_140.reads, r_140.writes, r_140.made, false, r_140.old⟩] ⟨5, (slOf t116_142), [], [], false, []⟩ (
 W.idx 2 t116_142 (slotOf [2, 4, 5, 6, 11, 109] vs_135 4) L_137 fun t118_144 =>
 W.note ⟨(slOf t116_142), [], [], []⟩ fun r_145 =>
 W.faddr 1 t118_144 fun t119_146 =>
 W.calm [⟨1, r_140.reads, r_140.writes, r_140.made, false, r_140.old⟩] ⟨7, (blocksOf t119_146), [], [], false, []⟩ (
 W.load false 1 t119_146 L_137 fun t120_147 =>
 W.note ⟨(blocksOf t119_146), [], [], []⟩ fun r_148 =>
 W.calm [] ⟨8, (slOf t114_139), [], [], false, []⟩ (
 W.idx 2 t114_139 t120_147 L_137 fun t121_149 =>
 W.note ⟨(slOf t114_139), [], [], []⟩ fun r_150 =>
 W.faddr 0 t121_149 fun t122_151 =>
 W.calm [] ⟨10, (blocksOf t122_151), [], [], false, []⟩ (
 W.load false 1 t122_151 L_137 fun t123_152 =>
 W.note ⟨(blocksOf t122_151), [], [], []⟩ fun r_153 =>
 W.bin Try.prog Fl .eql 3 t123_152 (slotOf [2, 4, 5, 6, 11, 109] vs_135 2) fun t125_154 =>
 Q t125_154 L_137)))))))
def object_ready_zt10 (vs_135 : List AV) (L_137 : SH) (Q : AV → SH → Prop)  : Prop :=
 W.bin Try.prog Fl .neq 3 (slotOf [2, 4, 5, 6, 11, 109] vs_135 4) (slotOf [2, 4, 5, 6, 11, 109] vs_135 2) fun t130_156 =>
 W.grd t130_156 true (fun k_158 => W.faddr 3 (slotOf [2, 4, 5, 6, 11, 109] vs_135 6) fun v_160 =>
 k_158 v_160 L_137) L_137 fun t132_157 L_159 =>
 W.grd t130_156 true (fun k_162 => W.load false 1 t132_157 L_159 fun v_164 =>
 k_162 v_164 L_159) L_159 fun t133_161 L_163 =>
 W.grd t130_156 true (fun k_166 => k_166 (slotOf [2, 4, 5, 6, 11, 109] vs_135 4) L_163) L_163 fun t134_165 L_167 =>
 W.grd t130_156 true (fun k_169 => W.idx 3 t133_161 t134_165 L_167 fun v_171 =>
 k_169 v_171 L_167) L_167 fun t135_168 L_170 =>
 W.grd t130_156 true (fun k_173 => W.faddr 0 t135_168 fun v_175 =>
 k_173 v_175 L_170) L_170 fun t136_172 L_174 =>
 W.grd t130_156 true (fun k_177 => W.load false 1 t136_172 L_174 fun v_179 =>
 k_177 v_179 L_174) L_174 fun t137_176 L_178 =>
 W.grd t130_156 true (fun k_181 => W.bin Try.prog Fl .eql 3 t137_176 (.int .i64 0) fun v_183 =>
 k_181 v_183 L_178) L_178 fun t138_180 L_182 =>
 W.pick t130_156 t138_180 (.bool false) fun t139_184 =>
 Q t139_184 L_182
def object_ready_zt11 (vs_135 : List AV) (L_137 : SH) (Q : AV → SH → Prop)  : Prop :=
 W.bin Try.prog Fl .neq 3 (slotOf [2, 4, 5, 6, 11, 109] vs_135 4) (slotOf [2, 4, 5, 6, 11, 109] vs_135 2) fun t144_186 =>
 W.grd t144_186 true (fun k_188 => W.faddr 3 (slotOf [2, 4, 5, 6, 11, 109] vs_135 6) fun v_190 =>
 k_188 v_190 L_137) L_137 fun t146_187 L_189 =>
 W.grd t144_186 true (fun k_192 => W.load false 1 t146_187 L_189 fun v_194 =>
 k_192 v_194 L_189) L_189 fun t147_191 L_193 =>
 W.grd t144_186 true (fun k_196 => k_196 (slotOf [2, 4, 5, 6, 11, 109] vs_135 4) L_193) L_193 fun t148_195 L_197 =>
 W.grd t144_186 true (fun k_199 => W.idx 3 t147_191 t148_195 L_197 fun v_201 =>
 k_199 v_201 L_197) L_197 fun t149_198 L_200 =>
 W.grd t144_186 true (fun k_203 => W.faddr 0 t149_198 fun v_205 =>
 k_203 v_205 L_200) L_200 fun t150_202 L_204 =>
 W.grd t144_186 true (fun k_207 => W.load false 1 t150_202 L_204 fun v_209 =>
 k_207 v_209 L_204) L_204 fun t151_206 L_208 =>
 W.grd t144_186 true (fun k_211 => W.bin Try.prog Fl .eql 3 t151_206 (.int .i64 5) fun v_213 =>
 k_211 v_213 L_208) L_208 fun t152_210 L_212 =>
 W.pick t144_186 t152_210 (.bool false) fun t153_214 =>
 Q t153_214 L_212
def object_ready_zt12 (vs_135 : List AV) (L_137 : SH) (Q : AV → SH → Prop)  : Prop :=
 W.faddr 2 (slotOf [2, 4, 5, 6, 11, 109] vs_135 6) fun t156_216 =>
 W.load false 1 t156_216 L_137 fun t157_217 =>
 W.idx 1 t157_217 (slotOf [2, 4, 5, 6, 11, 109] vs_135 4) L_137 fun t159_218 =>
 W.load false 1 t159_218 L_137 fun t160_219 =>
 W.un .not t160_219 fun t161_220 =>
 Q t161_220 L_137
def object_ready_zt13 (vs_135 : List AV) (L_137 : SH) (Q : AV → SH → Prop)  : Prop :=
 W.faddr 2 (slotOf [2, 4, 5, 6, 11, 109] vs_135 6) fun t164_222 =>
 W.load false 1 t164_222 L_137 fun t165_223 =>
 W.idx 1 t165_223 (slotOf [2, 4, 5, 6, 11, 109] vs_135 4) L_137 fun t167_224 =>
 W.load false 1 t167_224 L_137 fun t168_225 =>
 Q t168_225 L_137
def object_ready_zt14 (vs_135 : List AV) (L_137 : SH) (Q : AV → SH → Prop)  : Prop :=
 W.bin Try.prog Fl .eql 3 (slotOf [2, 4, 5, 6, 11, 109] vs_135 11) (.int .i64 23) fun t163_221 =>
 W.cond t163_221 (
 (object_ready_zt13 vs_135 L_137 Q)) (
 Q (.bool true) L_137)
def object_ready_zt15 (vs_135 : List AV) (L_137 : SH) (Q : AV → SH → Prop)  : Prop :=
 W.bin Try.prog Fl .eql 3 (slotOf [2, 4, 5, 6, 11, 109] vs_135 11) (.int .i64 22) fun t155_215 =>
 W.cond t155_215 (
 (object_ready_zt12 vs_135 L_137 Q)) (
 (object_ready_zt14 vs_135 L_137 Q))
def object_ready_zt16 (vs_135 : List AV) (L_137 : SH) (Q : AV → SH → Prop)  : Prop :=
 W.bin Try.prog Fl .eql 3 (slotOf [2, 4, 5, 6, 11, 109] vs_135 11) (.int .i64 21) fun t141_185 =>
 W.cond t141_185 (
 (object_ready_zt11 vs_135 L_137 Q)) (
 (object_ready_zt15 vs_135 L_137 Q))
def object_ready_zt17 (vs_135 : List AV) (L_137 : SH) (Q : AV → SH → Prop)  : Prop :=
 W.bin Try.prog Fl .eql 3 (slotOf [2, 4, 5, 6, 11, 109] vs_135 11) (.int .i64 20) fun t127_155 =>
 W.cond t127_155 (
 (object_ready_zt10 vs_135 L_137 Q)) (
 (object_ready_zt16 vs_135 L_137 Q))
def object_ready_j0 (Q : AV → SH → Prop) (vs_135 : List AV) (L_137 : SH) : Prop :=
 W.cond (slotOf [2, 4, 5, 6, 11, 109] vs_135 109) (
 (object_ready_zt9 vs_135 L_137 Q)) (
 (object_ready_zt17 vs_135 L_137 Q))
def object_ready_zt18 (j_136 : W.Kn) (vs_97 : List AV) (t110_226 : AV) (L_99 : SH)  : Prop :=
 j_136 [(slotOf [2, 4, 5, 6, 11, 60] vs_97 2), (slotOf [2, 4, 5, 6, 11, 60] vs_97 4), (slotOf [2, 4, 5, 6, 11, 60] vs_97 5), (slotOf [2, 4, 5, 6, 11, 60] vs_97 6), (slotOf [2, 4, 5, 6, 11, 60] vs_97 11), t110_226] L_99
def object_ready_zt19 (j_136 : W.Kn) (vs_97 : List AV) (t111_227 : AV) (L_99 : SH)  : Prop :=
 j_136 [(slotOf [2, 4, 5, 6, 11, 60] vs_97 2), (slotOf [2, 4, 5, 6, 11, 60] vs_97 4), (slotOf [2, 4, 5, 6, 11, 60] vs_97 5), (slotOf [2, 4, 5, 6, 11, 60] vs_97 6), (slotOf [2, 4, 5, 6, 11, 60] vs_97 11), t111_227] L_99
def object_ready_zt20 (vs_97 : List AV) (j_136 : W.Kn) (L_99 : SH)  : Prop :=
 W.bin Try.prog Fl .eql 3 (slotOf [2, 4, 5, 6, 11, 60] vs_97 11) (.int .i64 19) fun t112_228 =>
 j_136 [(slotOf [2, 4, 5, 6, 11, 60] vs_97 2), (slotOf [2, 4, 5, 6, 11, 60] vs_97 4), (slotOf [2, 4, 5, 6, 11, 60] vs_97 5), (slotOf [2, 4, 5, 6, 11, 60] vs_97 6), (slotOf [2, 4, 5, 6, 11, 60] vs_97 11), t112_228] L_99
def object_ready_zt21 (vs_97 : List AV) (j_136 : W.Kn) (L_99 : SH)  : Prop :=
 W.bin Try.prog Fl .eql 3 (slotOf [2, 4, 5, 6, 11, 60] vs_97 11) (.int .i64 18) fun t111_227 =>
 W.cond t111_227 (
 (object_ready_zt19 j_136 vs_97 t111_227 L_99)) (
 (object_ready_zt20 vs_97 j_136 L_99))
def object_ready_zt22 (Q : AV → SH → Prop) (vs_97 : List AV) (L_99 : SH)  : Prop :=
 W.join (object_ready_j0 Q) fun j_136 =>
 W.bin Try.prog Fl .eql 3 (slotOf [2, 4, 5, 6, 11, 60] vs_97 11) (.int .i64 16) fun t110_226 =>
 W.cond t110_226 (
 (object_ready_zt18 j_136 vs_97 t110_226 L_99)) (
 (object_ready_zt21 vs_97 j_136 L_99))
def object_ready_zt23 (vs_97 : List AV) (L_99 : SH) (Q : AV → SH → Prop)  : Prop :=
 W.bin Try.prog Fl .eql 3 (slotOf [2, 4, 5, 6, 11, 60] vs_97 11) (.int .i64 15) fun t102_129 =>
 W.cond t102_129 (
 (object_ready_zt8 vs_97 L_99 Q)) (
 (object_ready_zt22 Q vs_97 L_99))
def object_ready_zt24 (vs_97 : List AV) (L_99 : SH) (Q : AV → SH → Prop)  : Prop :=
 W.bin Try.prog Fl .eql 3 (slotOf [2, 4, 5, 6, 11, 60] vs_97 11) (.int .i64 14) fun t93_122 =>
 W.cond t93_122 (
 (object_ready_zt7 vs_97 L_99 Q)) (
 (object_ready_zt23 vs_97 L_99 Q))
def object_ready_zt25 (vs_97 : List AV) (L_99 : SH) (Q : AV → SH → Prop)  : Prop :=
 W.bin Try.prog Fl .eql 3 (slotOf [2, 4, 5, 6, 11, 60] vs_97 11) (.int .i64 13) fun t87_118 =>
 W.cond t87_118 (
 (object_ready_zt6 vs_97 L_99 Q)) (
 (object_ready_zt24 vs_97 L_99 Q))
def object_ready_zt26 (vs_97 : List AV) (L_99 : SH) (Q : AV → SH → Prop)  : Prop :=
 W.bin Try.prog Fl .eql 3 (slotOf [2, 4, 5, 6, 11, 60] vs_97 11) (.int .i64 12) fun t82_114 =>
 W.cond t82_114 (
 (object_ready_zt5 vs_97 L_99 Q)) (
 (object_ready_zt25 vs_97 L_99 Q))
def object_ready_zt27 (vs_97 : List AV) (L_99 : SH) (Q : AV → SH → Prop)  : Prop :=
 W.bin Try.prog Fl .eql 3 (slotOf [2, 4, 5, 6, 11, 60] vs_97 11) (.int .i64 9) fun t72_106 =>
 W.cond t72_106 (
 (object_ready_zt4 vs_97 L_99 Q)) (
 (object_ready_zt26 vs_97 L_99 Q))
def object_ready_j1 (Q : AV → SH → Prop) (vs_97 : List AV) (L_99 : SH) : Prop :=
 W.cond (slotOf [2, 4, 5, 6, 11, 60] vs_97 60) (
 (object_ready_zt3 vs_97 L_99 Q)) (
 (object_ready_zt27 vs_97 L_99 Q))
def object_ready_zt28 (Q : AV → SH → Prop) (t3 : AV) (t2 : AV) (t4 : AV) (t5_4 : AV) (t6_6 : AV) (L_7 : SH)  : Prop :=
 W.join (object_ready_j1 Q) fun j_98 =>
 W.bin Try.prog Fl .eql 3 t3 (.int .i64 7) fun t61_229 =>
 W.cond t61_229 (
 j_98 [t2, t4, t5_4, t6_6, t3, t61_229] L_7) (
 W.bin Try.prog Fl .eql 3 t3 (.int .i64 11) fun t62_230 =>
 j_98 [t2, t4, t5_4, t6_6, t3, t62_230] L_7)
def object_ready_zt29 (t3 : AV) (t6_6 : AV) (L_7 : SH) (t4 : AV) (Q : AV → SH → Prop) (t2 : AV) (t5_4 : AV)  : Prop :=
 W.bin Try.prog Fl .eql 3 t3 (.int .i64 10) fun t22_15 =>
 W.cond t22_15 (
 (object_ready_zt1 t6_6 L_7 t4 Q)) (
 W.bin Try.prog Fl .eql 3 t3 (.int .i64 8) fun t41_54 =>
 W.cond t41_54 (
 (object_ready_zt2 t6_6 L_7 t4 t2 Q)) (
 (object_ready_zt28 Q t3 t2 t4 t5_4 t6_6 L_7)))
def object_ready_w (t0 t1 t2 t3 t4 : AV) (L : SH) (Q : AV → SH → Prop) : Prop :=
 W.box t0 L fun t5_0 L_1 =>
 W.box t1 L_1 fun t6_2 L_3 =>
 W.frz1 t5_0 L_3 fun t5_4 L_5 =>
 W.frz1 t6_2 L_5 fun t6_6 L_7 =>
 W.bin Try.prog Fl .eql 3 t3 (.int .i64 6) fun t13_8 =>
 W.cond t13_8 (
 (object_ready_zt0 t6_6 L_7 t4 Q)) (
 (object_ready_zt29 t3 t6_6 L_7 t4 Q t2 t5_4))
theorem object_ready_e (t0 t1 t2 t3 t4 : AV) (L : SH) (Q : AV → SH → Prop) : W.func Try.prog Fl object_ready_t Try.f54 (Try.f54.body.getD .skip) [t0, t1, t2, t3, t4] L Q = object_ready_w t0 t1 t2 t3 t4 L Q := by kernel_rfl
theorem object_ready_ok (t0 t1 t2 t3 t4 : AV) (L : SH) (Q : AV → SH → Prop) (h : object_ready_w t0 t1 t2 t3 t4 L Q) : CallA Try.prog 54 [t0, t1, t2, t3, t4] L Q :=
  func_sound (ht := object_ready_t) fit Try.func54 (show Try.f54.body = some (Try.f54.body.getD .skip) by kernel_rfl) (Eq.mpr (object_ready_e t0 t1 t2 t3 t4 L Q) h)

def object_Enabled_t : Hints := ⟨fun k => none, fun k => [], fun k => if k = 0 then [5, 6] else if k = 3 then [11] else [], fun k => if k = 8 then [0, 1, 3, 7, 15, 31, 15, 127, 255, 511, 1023, 2047, 1023, 5119, 1023, 29695, 62463, 127999, 262143, 524287, 1048575, 2097151, 4194303, 8388607] else []⟩
def object_Enabled_zt0 (t11_65 : AV) (L_66 : SH) (t4 : AV) (t6_6 : AV) (t5_4 : AV) (Q : AV → SH → Prop)  : Prop :=
 (true = true) ∧ (
 W.faddr 0 t11_65 fun t44_72 =>
 W.calm [] ⟨1, (blocksOf t44_72), [], [], false, []⟩ (
 W.load false 1 t44_72 L_66 fun t45_73 =>
 W.note ⟨(blocksOf t44_72), [], [], []⟩ fun r_74 =>
 W.bin Try.prog Fl .eql 3 t45_73 (.int .i64 4) fun t46_75 =>
 W.dgrd t46_75 true (fun k_77 => W.faddr 1 t11_65 fun v_80 =>
 k_77 v_80 L_66 ⟨[], [], [], []⟩) L_66 fun t48_76 L_79 r_78 =>
 W.dgrd t46_75 true (fun k_82 => W.calm [] ⟨5, (blocksOf t48_76), [], [], false, []⟩ (
 W.load false 1 t48_76 L_79 fun v_85 =>
 W.note ⟨(blocksOf t48_76), [], [], []⟩ fun r_86 =>
 k_82 v_85 L_79 r_86)) L_79 fun t49_81 L_84 r_83 =>
 W.dgrd t46_75 true (fun k_88 => k_88 t4 L_84 ⟨[], [], [], []⟩) L_84 fun t50_87 L_90 r_89 =>
 W.dgrd t46_75 true (fun k_92 => W.bin Try.prog Fl .eql 3 t49_81 t50_87 fun v_95 =>
 k_92 v_95 L_90 ⟨[], [], [], []⟩) L_90 fun t51_91 L_94 r_93 =>
 W.pick t46_75 t51_91 (.bool false) fun t52_96 =>
 W.dgrd t52_96 true (fun k_98 => W.faddr 0 t6_6 fun v_101 =>
 k_98 v_101 L_94 ⟨[], [], [], []⟩) L_94 fun t54_97 L_100 r_99 =>
 W.dgrd t52_96 true (fun k_103 => W.calm [] ⟨11, (blocksOf t54_97), [], [], false, []⟩ (
 W.load false 1 t54_97 L_100 fun v_106 =>
 W.note ⟨(blocksOf t54_97), [], [], []⟩ fun r_107 =>
 k_103 v_106 L_100 r_107)) L_100 fun t55_102 L_105 r_104 =>
 W.dgrd t52_96 true (fun k_109 => W.faddr 2 t5_4 fun v_112 =>
 k_109 v_112 L_105 ⟨[], [], [], []⟩) L_105 fun t56_108 L_111 r_110 =>
 W.dgrd t52_96 true (fun k_114 => W.calm [⟨11, r_104.reads, r_104.writes, r_104.made, false, r_104.old⟩] ⟨13, (blocksOf t56_108), [], [], false, []⟩ (
 W.load false 1 t56_108 L_111 fun v_117 =>
 W.note ⟨(blocksOf t56_108), [], [], []⟩ fun r_118 =>
 k_114 v_117 L_111 r_118)) L_111 fun t57_113 L_116 r_115 =>
 W.dgrd t52_96 true (fun k_120 => k_120 t4 L_116 ⟨[], [], [], []⟩) L_116 fun t58_119 L_122 r_121 =>
 W.dgrd t52_96 true (fun k_124 => W.calm [⟨11, r_104.reads, r_104.writes, r_104.made, false, r_104.old⟩] ⟨15, (slOf t57_113), [], [], false, []⟩ (
 W.idx 2 t57_113 t58_119 L_122 fun v_127 =>
 W.note ⟨(slOf t57_113), [], [], []⟩ fun r_128 =>
 k_124 v_127 L_122 r_128)) L_122 fun t59_123 L_126 r_125 =>
 W.dgrd t52_96 true (fun k_130 => W.faddr 1 t59_123 fun v_133 =>
 k_130 v_133 L_126 ⟨[], [], [], []⟩) L_126 fun t60_129 L_132 r_131 =>
 W.dgrd t52_96 true (fun k_135 => W.calm [⟨11, r_104.reads, r_104.writes, r_104.made, false, r_104.old⟩] ⟨17, (blocksOf t60_129), [], [], false, []⟩ (
 W.load false 1 t60_129 L_132 fun v_138 =>
 W.note ⟨(blocksOf t60_129), [], [], []⟩ fun r_139 =>
 k_135 v_138 L_132 r_139)) L_132 fun t61_134 L_137 r_136 =>
 W.dgrd t52_96 true (fun k_141 => W.calm [] ⟨18, (slOf t55_102), [], [], false, []⟩ (
 W.idx 2 t55_102 t61_134 L_137 fun v_144 =>
 W.note ⟨(slOf t55_102), [], [], []⟩ fun r_145 =>
 k_141 v_144 L_137 r_145)) L_137 fun t62_140 L_143 r_142 =>
 W.dgrd t52_96 true (fun k_147 => W.faddr 0 t62_140 fun v_150 =>
 k_147 v_150 L_143 ⟨[], [], [], []⟩) L_143 fun t63_146 L_149 r_148 =>
 W.dgrd t52_96 true (fun k_152 => W.calm [] ⟨20, (blocksOf t63_146), [], [], false, []⟩ (
 W.load false 1 t63_146 L_149 fun v_155 =>
 W.note ⟨(blocksOf t63_146), [], [], []⟩ fun r_156 =>
 k_152 v_155 L_149 r_156)) L_149 fun t64_151 L_154 r_153 =>
 W.dgrd t52_96 true (fun k_158 => W.bin Try.prog Fl .eql 3 t64_151 (.int .i64 (-1)) fun v_161 =>
 k_158 v_161 L_154 ⟨[], [], [], []⟩) L_154 fun t65_157 L_160 r_159 =>
 W.pick t52_96 t65_157 (.bool false) fun t66_162 =>
 Q t66_162 L_160))
def object_Enabled_zt1 (t11_65 : AV) (L_66 : SH) (t5_4 : AV) (t6_6 : AV) (t2 : AV) (t3 : AV) (t4 : AV) (Q : AV → SH → Prop)  : Prop :=
 W.faddr 0 t11_65 fun t67_163 =>
 W.load false 1 t67_163 L_66 fun t68_164 =>
 W.bin Try.prog Fl .eql 3 t68_164 (.int .i64 2) fun t69_165 =>
 W.grd t69_165 true (fun k_167 => W.load true 6 t5_4 L_66 fun v_169 =>
 k_167 v_169 L_66) L_66 fun t71_166 L_168 =>
 W.grd t69_165 true (fun k_171 => W.load true 4 t6_6 L_168 fun v_173 =>
 k_171 v_173 L_168) L_168 fun t72_170 L_172 =>
 W.grd t69_165 true (fun k_175 => k_175 t2 L_172) L_172 fun t73_174 L_176 =>
 W.grd t69_165 true (fun k_178 => k_178 t3 L_176) L_176 fun t74_177 L_179 =>
 W.grd t69_165 true (fun k_181 => k_181 t4 L_179) L_179 fun t75_180 L_182 =>
 W.grd t69_165 true (fun k_184 => W.call Try.prog (.fn 54 []) [t71_166, t72_170, t73_174, t74_177, t75_180] L_182 fun v_186 L_187 =>
 k_184 v_186 L_187) L_182 fun t76_183 L_185 =>
 W.pick t69_165 t76_183 (.bool false) fun t77_188 =>
 Q t77_188 L_185
def object_Enabled_zt2 (t3 : AV) (t11_65 : AV) (L_66 : SH) (t4 : AV) (t6_6 : AV) (t5_4 : AV) (Q : AV → SH → Prop) (t2 : AV)  : Prop :=
 W.bin Try.prog Fl .eql 3 t3 (.int .i64 17) fun t43_71 =>
 W.cond t43_71 (
 (object_Enabled_zt0 t11_65 L_66 t4 t6_6 t5_4 Q)) (
 (object_Enabled_zt1 t11_65 L_66 t5_4 t6_6 t2 t3 t4 Q))
def object_Enabled_zt3 (t6_6 : AV) (L_55 : SH) (t2 : AV) (t3 : AV) (Q : AV → SH → Prop) (t4 : AV) (t5_4 : AV)  : Prop :=
 W.faddr 3 t6_6 fun t31_58 =>
 W.load false 1 t31_58 L_55 fun t32_59 =>
 W.idx 3 t32_59 t2 L_55 fun t34_60 =>
 W.load true 3 t34_60 L_55 fun t35_61 =>
 W.alloc [(.int .i64 0), (.int .i64 0), (.bool false)] L_55 fun t11_62 L_63 =>
 W.store 3 t11_62 t35_61 L_63 fun L_64 =>
 W.frz1 t11_62 L_64 fun t11_65 L_66 =>
 W.bin Try.prog Fl .eql 3 t3 (.int .i64 1) fun t38_67 =>
 W.cond t38_67 (
 W.faddr 0 t11_65 fun t39_68 =>
 W.load false 1 t39_68 L_66 fun t40_69 =>
 W.bin Try.prog Fl .eql 3 t40_69 (.int .i64 1) fun t41_70 =>
 Q t41_70 L_66) (
 (object_Enabled_zt2 t3 t11_65 L_66 t4 t6_6 t5_4 Q t2))
def object_Enabled_c0 (t2 : AV) (t5_4 : AV) (t3 : AV) (t4 : AV) (Q : AV → SH → Prop) (t6_6 : AV) (t14_10 : AV) (L_11 : SH) : Prop :=
 W.un .not t14_10 fun t15_12 =>
 W.grd t15_12 false (fun k_14 => k_14 t2 L_11) L_11 fun t17_13 L_15 =>
 W.grd t15_12 false (fun k_17 => W.faddr 4 t5_4 fun v_19 =>
 k_17 v_19 L_15) L_15 fun t18_16 L_18 =>
 W.grd t15_12 false (fun k_21 => W.load false 1 t18_16 L_18 fun v_23 =>
 k_21 v_23 L_18) L_18 fun t19_20 L_22 =>
 W.grd t15_12 false (fun k_25 => W.len t19_20 fun v_27 =>
 k_25 v_27 L_22) L_22 fun t20_24 L_26 =>
 W.grd t15_12 false (fun k_29 => W.call Try.prog (.fn 52 []) [t17_13, t20_24] L_26 fun v_31 L_32 =>
 k_29 v_31 L_32) L_26 fun t21_28 L_30 =>
 W.grd t15_12 false (fun k_34 => W.un .not t21_28 fun v_36 =>
 k_34 v_36 L_30) L_30 fun t22_33 L_35 =>
 W.pick t15_12 (.bool true) t22_33 fun t23_37 =>
 W.grd t23_37 false (fun k_39 => W.load true 6 t5_4 L_35 fun v_41 =>
 k_39 v_41 L_35) L_35 fun t25_38 L_40 =>
 W.grd t23_37 false (fun k_43 => k_43 t3 L_40) L_40 fun t26_42 L_44 =>
 W.grd t23_37 false (fun k_46 => k_46 t4 L_44) L_44 fun t27_45 L_47 =>
 W.grd t23_37 false (fun k_49 => W.call Try.prog (.fn 53 []) [t25_38, t26_42, t27_45] L_47 fun v_51 L_52 =>
 k_49 v_51 L_52) L_47 fun t28_48 L_50 =>
 W.grd t23_37 false (fun k_54 => W.un .not t28_48 fun v_56 =>
 k_54 v_56 L_50) L_50 fun t29_53 L_55 =>
 W.pick t23_37 (.bool true) t29_53 fun t30_57 =>
 W.cond t30_57 (
 Q (.bool false) L_55) (
 (object_Enabled_zt3 t6_6 L_55 t2 t3 Q t4 t5_4))
def object_Enabled_w (t0 t1 t2 t3 t4 : AV) (L : SH) (Q : AV → SH → Prop) : Prop :=
 W.box t0 L fun t5_0 L_1 =>
 W.box t1 L_1 fun t6_2 L_3 =>
 W.frz1 t5_0 L_3 fun t5_4 L_5 =>
 W.frz1 t6_2 L_5 fun t6_6 L_7 =>
 W.load true 6 t5_4 L_7 fun t12_8 =>
 W.load true 4 t6_6 L_7 fun t13_9 =>
 W.call Try.prog (.fn 37 []) [t12_8, t13_9] L_7 (object_Enabled_c0 t2 t5_4 t3 t4 Q t6_6)
theorem object_Enabled_e (t0 t1 t2 t3 t4 : AV) (L : SH) (Q : AV → SH → Prop) : W.func Try.prog Fl object_Enabled_t Try.f27 (Try.f27.body.getD .skip) [t0, t1, t2, t3, t4] L Q = object_Enabled_w t0 t1 t2 t3 t4 L Q := by kernel_rfl
theorem object_Enabled_ok (t0 t1 t2 t3 t4 : AV) (L : SH) (Q : AV → SH → Prop) (h : object_Enabled_w t0 t1 t2 t3 t4 L Q) : CallA Try.prog 27 [t0, t1, t2, t3, t4] L Q :=
  func_sound (ht := object_Enabled_t) fit Try.func27 (show Try.f27.body = some (Try.f27.body.getD .skip) by kernel_rfl) (Eq.mpr (object_Enabled_e t0 t1 t2 t3 t4 L Q) h)

def object_clone_t : Hints := ⟨fun k => none, fun k => if k = 3 then [1, 2, 3, 11, 12, 13] else [], fun k => if k = 4 then [5] else [], fun k => if k = 5 then [0, 0, 0, 4, 0, 16, 48, 124, 255, 511] else []⟩
def object_clone_d0 (L_22 : SH) (t21_24 : AV) (vs_12 : List AV) (nx_13 : W.Kn) (t24_29 : AV) (L_31 : SH) (ks_30 : List Nat) : Prop :=
 W.note ⟨[], ks_30, [], L_22.names⟩ fun r_32 =>
 W.build [(.int .i64 0), .nils] [(0, 1, t21_24), (1, 1, t24_29)] fun t25_33 =>
 W.calm [] ⟨8, (slOf (slotOf [1, 2, 3, 11, 12, 13] vs_12 3)), [], [], false, []⟩ (
 W.idx 2 (slotOf [1, 2, 3, 11, 12, 13] vs_12 3) (slotOf [1, 2, 3, 11, 12, 13] vs_12 13) L_31 fun t26_34 =>
 W.note ⟨(slOf (slotOf [1, 2, 3, 11, 12, 13] vs_12 3)), [], [], []⟩ fun r_35 =>
 W.calm [] ⟨9, (blocksOf t26_34), (blocksOf t26_34), [], false, []⟩ (
 W.store 2 t26_34 t25_33 L_31 fun L_36 =>
 W.note ⟨(blocksOf t26_34), (blocksOf t26_34), [], []⟩ fun r_37 =>
 W.bin Try.prog Fl .add 3 (slotOf [1, 2, 3, 11, 12, 13] vs_12 13) (.int .i64 1) fun t27_38 =>
 nx_13 [(slotOf [1, 2, 3, 11, 12, 13] vs_12 1), (slotOf [1, 2, 3, 11, 12, 13] vs_12 2), (slotOf [1, 2, 3, 11, 12, 13] vs_12 3), (slotOf [1, 2, 3, 11, 12, 13] vs_12 11), (slotOf [1, 2, 3, 11, 12, 13] vs_12 12), t27_38] L_36))
def object_clone_zt0 (vs_12 : List AV) (L_14 : SH) (nx_13 : W.Kn)  : Prop :=
 W.idx 2 (slotOf [1, 2, 3, 11, 12, 13] vs_12 11) (slotOf [1, 2, 3, 11, 12, 13] vs_12 13) L_14 fun t16_16 =>
 W.load true 2 t16_16 L_14 fun t17_17 =>
 W.alloc [(.int .i64 0), .nils] L_14 fun t5_18 L_19 =>
 W.store 2 t5_18 t17_17 L_19 fun L_20 =>
 W.frz1 t5_18 L_20 fun t5_21 L_22 =>
 (true = true) ∧ (
 W.faddr 0 t5_21 fun t20_23 =>
 W.calm [] ⟨3, (blocksOf t20_23), [], [], false, []⟩ (
 W.load false 1 t20_23 L_22 fun t21_24 =>
 W.note ⟨(blocksOf t20_23), [], [], []⟩ fun r_25 =>
 W.faddr 1 t5_21 fun t22_26 =>
 W.calm [⟨3, r_25.reads, r_25.writes, r_25.made, false, r_25.old⟩] ⟨5, (blocksOf t22_26), [], [], false, []⟩ (
 W.load false 1 t22_26 L_22 fun t23_27 =>
 W.note ⟨(blocksOf t22_26), [], [], []⟩ fun r_28 =>
 W.dcall Try.prog [⟨3, r_25.reads, r_25.writes, r_25.made, false, r_25.old⟩] 6 (.fn 68 []) [t23_27] L_22 (object_clone_d0 L_22 t21_24 vs_12 nx_13))))
def object_clone_c1 (vs_12 : List AV) (Q : AV → SH → Prop) (t36_49 : AV) (L_50 : SH) : Prop :=
 W.faddr 3 (slotOf [1, 2, 3, 11, 12, 13] vs_12 1) fun t37_51 =>
 W.store 1 t37_51 t36_49 L_50 fun L_52 =>
 W.load true 4 (slotOf [1, 2, 3, 11, 12, 13] vs_12 1) L_52 fun t38_53 =>
 W.store 4 (slotOf [1, 2, 3, 11, 12, 13] vs_12 2) t38_53 L_52 fun L_54 =>
 W.load true 4 (slotOf [1, 2, 3, 11, 12, 13] vs_12 2) L_54 fun r_55 =>
 Q r_55 L_54
def object_clone_c2 (vs_12 : List AV) (Q : AV → SH → Prop) (t32_43 : AV) (L_44 : SH) : Prop :=
 W.faddr 2 (slotOf [1, 2, 3, 11, 12, 13] vs_12 1) fun t33_45 =>
 W.store 1 t33_45 t32_43 L_44 fun L_46 =>
 W.faddr 3 (slotOf [1, 2, 3, 11, 12, 13] vs_12 1) fun t34_47 =>
 W.load false 1 t34_47 L_46 fun t35_48 =>
 W.call Try.prog (.fn 77 []) [t35_48] L_46 (object_clone_c1 vs_12 Q)
def object_clone_zt1 (vs_12 : List AV) (L_14 : SH) (Q : AV → SH → Prop)  : Prop :=
 W.faddr 0 (slotOf [1, 2, 3, 11, 12, 13] vs_12 1) fun t29_39 =>
 W.store 1 t29_39 (slotOf [1, 2, 3, 11, 12, 13] vs_12 3) L_14 fun L_40 =>
 W.faddr 2 (slotOf [1, 2, 3, 11, 12, 13] vs_12 1) fun t30_41 =>
 W.load false 1 t30_41 L_40 fun t31_42 =>
 W.call Try.prog (.fn 76 []) [t31_42] L_40 (object_clone_c2 vs_12 Q)
def object_clone_l3 (Q : AV → SH → Prop) (vs_12 : List AV) (L_14 : SH) (nx_13 : W.Kn) : Prop :=
 W.bin Try.prog Fl .lss 3 (slotOf [1, 2, 3, 11, 12, 13] vs_12 13) (slotOf [1, 2, 3, 11, 12, 13] vs_12 12) fun t14_15 =>
 W.cond t14_15 (
 (object_clone_zt0 vs_12 L_14 nx_13)) (
 (object_clone_zt1 vs_12 L_14 Q))
def object_clone_w (t0 : AV) (L : SH) (Q : AV → SH → Prop) : Prop :=
 W.box t0 L fun t1_0 L_1 =>
 W.alloc [.nils, (.int .i64 0), .nils, .nils] L_1 fun t2_2 L_3 =>
 W.faddr 0 t1_0 fun t6_4 =>
 W.load false 1 t6_4 L_3 fun t7_5 =>
 W.len t7_5 fun t8_6 =>
 W.mslice 2 32 [(.int .i64 0), .nils] t8_6 t8_6 L_3 fun t9_7 L_8 =>
 W.faddr 0 t1_0 fun t10_9 =>
 W.load false 1 t10_9 L_8 fun t11_10 =>
 W.len t11_10 fun t12_11 =>
 W.loop (object_clone_l3 Q) [t1_0, t2_2, t9_7, t11_10, t12_11, (.int .i64 0)] L_8
theorem object_clone_e (t0 : AV) (L : SH) (Q : AV → SH → Prop) : W.func Try.prog Fl object_clone_t Try.f47 (Try.f47.body.getD .skip) [t0] L Q = object_clone_w t0 L Q := by kernel_rfl
theorem object_clone_ok (t0 : AV) (L : SH) (Q : AV → SH → Prop) (h : object_clone_w t0 L Q) : CallA Try.prog 47 [t0] L Q :=
  func_sound (ht := object_clone_t) fit Try.func47 (show Try.f47.body = some (Try.f47.body.getD .skip) by kernel_rfl) (Eq.mpr (object_clone_e t0 L Q) h)

def slices_DeleteFunc___int_int__t : Hints := ⟨fun k => none, fun k => if k = 5 then [0, 1, 5, 6] else [], fun k => [], fun k => []⟩
def slices_DeleteFunc___int_int__zt0 (vs_4 : List AV) (L_12 : SH) (t25_10 : AV) (nx_5 : W.Kn)  : Prop :=
 W.idx 1 (slotOf [0, 1, 5, 6] vs_4 0) (slotOf [0, 1, 5, 6] vs_4 5) L_12 fun t33_14 =>
 W.store 1 t33_14 t25_10 L_12 fun L_15 =>
 W.bin Try.prog Fl .add 3 (slotOf [0, 1, 5, 6] vs_4 5) (.int .i64 1) fun t35_16 =>
 W.bin Try.prog Fl .add 3 (slotOf [0, 1, 5, 6] vs_4 6) (.int .i64 1) fun t21_17 =>
 nx_5 [(slotOf [0, 1, 5, 6] vs_4 0), (slotOf [0, 1, 5, 6] vs_4 1), t35_16, t21_17] L_15
def slices_DeleteFunc___int_int__zt1 (vs_4 : List AV) (nx_5 : W.Kn) (L_12 : SH)  : Prop :=
 W.bin Try.prog Fl .add 3 (slotOf [0, 1, 5, 6] vs_4 6) (.int .i64 1) fun t21_18 =>
 nx_5 [(slotOf [0, 1, 5, 6] vs_4 0), (slotOf [0, 1, 5, 6] vs_4 1), (slotOf [0, 1, 5, 6] vs_4 5), t21_18] L_12
def slices_DeleteFunc___int_int__c0 (vs_4 : List AV) (t25_10 : AV) (nx_5 : W.Kn) (t28_11 : AV) (L_12 : SH) : Prop :=
 W.un .not t28_11 fun t29_13 =>
 W.cond t29_13 (
 (slices_DeleteFunc___int_int__zt0 vs_4 L_12 t25_10 nx_5)) (
 (slices_DeleteFunc___int_int__zt1 vs_4 nx_5 L_12))
def slices_DeleteFunc___int_int__zt2 (vs_4 : List AV) (L_6 : SH) (nx_5 : W.Kn)  : Prop :=
 W.idx 1 (slotOf [0, 1, 5, 6] vs_4 0) (slotOf [0, 1, 5, 6] vs_4 6) L_6 fun t24_9 =>
 W.load false 1 t24_9 L_6 fun t25_10 =>
 W.call Try.prog (slotOf [0, 1, 5, 6] vs_4 1) [t25_10] L_6 (slices_DeleteFunc___int_int__c0 vs_4 t25_10 nx_5)
def slices_DeleteFunc___int_int__zt3 (vs_4 : List AV) (L_6 : SH) (Q : AV → SH → Prop)  : Prop :=
 W.slice 1 (slotOf [0, 1, 5, 6] vs_4 0) (some (slotOf [0, 1, 5, 6] vs_4 5)) none none L_6 fun t38_19 =>
 W.clear 1 [(.int .i64 0)] t38_19 L_6 fun L_20 =>
 W.slice 1 (slotOf [0, 1, 5, 6] vs_4 0) none (some (slotOf [0, 1, 5, 6] vs_4 5)) none L_20 fun t41_21 =>
 Q t41_21 L_20
def slices_DeleteFunc___int_int__l1 (Q : AV → SH → Prop) (vs_4 : List AV) (L_6 : SH) (nx_5 : W.Kn) : Prop :=
 W.len (slotOf [0, 1, 5, 6] vs_4 0) fun t18_7 =>
 W.bin Try.prog Fl .lss 3 (slotOf [0, 1, 5, 6] vs_4 6) t18_7 fun t19_8 =>
 W.cond t19_8 (
 (slices_DeleteFunc___int_int__zt2 vs_4 L_6 nx_5)) (
 (slices_DeleteFunc___int_int__zt3 vs_4 L_6 Q))
def slices_DeleteFunc___int_int__c2 (Q : AV → SH → Prop) (t0 : AV) (t1 : AV) (t10_0 : AV) (L_1 : SH) : Prop :=
 W.bin Try.prog Fl .eql 3 t10_0 (.int .i64 (-1)) fun t12_2 =>
 W.cond t12_2 (
 Q t0 L_1) (
 W.bin Try.prog Fl .add 3 t10_0 (.int .i64 1) fun t15_3 =>
 W.loop (slices_DeleteFunc___int_int__l1 Q) [t0, t1, t10_0, t15_3] L_1)
def slices_DeleteFunc___int_int__w (t0 t1 : AV) (L : SH) (Q : AV → SH → Prop) : Prop :=
 W.call Try.prog (.fn 78 []) [t0, t1] L (slices_DeleteFunc___int_int__c2 Q t0 t1)
theorem slices_DeleteFunc___int_int__e (t0 t1 : AV) (L : SH) (Q : AV → SH → Prop) : W.func Try.prog Fl slices_DeleteFunc___int_int__t Try.f48 (Try.f48.body.getD .skip) [t0, t1] L Q = slices_DeleteFunc___int_int__w t0 t1 L Q := by kernel_rfl
theorem slices_DeleteFunc___int_int__ok (t0 t1 : AV) (L : SH) (Q : AV → SH → Prop) (h : slices_DeleteFunc___int_int__w t0 t1 L Q) : CallA Try.prog 48 [t0, t1] L Q :=
  func_sound (ht := slices_DeleteFunc___int_int__t) fit Try.func48 (show Try.f48.body = some (Try.f48.body.getD .skip) by kernel_rfl) (Eq.mpr (slices_DeleteFunc___int_int__e t0 t1 L Q) h)

def slices_IndexFunc___int_int__t : Hints := ⟨fun k => none, fun k => if k = 2 then [0, 1, 7, 8] else [], fun k => [], fun k => []⟩
def slices_IndexFunc___int_int__zt0 (vs_1 : List AV) (nx_2 : W.Kn) (L_8 : SH)  : Prop :=
 W.bin Try.prog Fl .add 3 (slotOf [0, 1, 7, 8] vs_1 8) (.int .i64 1) fun t18_9 =>
 nx_2 [(slotOf [0, 1, 7, 8] vs_1 0), (slotOf [0, 1, 7, 8] vs_1 1), (slotOf [0, 1, 7, 8] vs_1 7), t18_9] L_8
def slices_IndexFunc___int_int__c0 (Q : AV → SH → Prop) (vs_1 : List AV) (nx_2 : W.Kn) (t16_7 : AV) (L_8 : SH) : Prop :=
 W.cond t16_7 (
 Q (slotOf [0, 1, 7, 8] vs_1 8) L_8) (
 (slices_IndexFunc___int_int__zt0 vs_1 nx_2 L_8))
def slices_IndexFunc___int_int__zt1 (vs_1 : List AV) (L_3 : SH) (Q : AV → SH → Prop) (nx_2 : W.Kn)  : Prop :=
 W.idx 1 (slotOf [0, 1, 7, 8] vs_1 0) (slotOf [0, 1, 7, 8] vs_1 8) L_3 fun t14_5 =>
 W.load false 1 t14_5 L_3 fun t15_6 =>
 W.call Try.prog (slotOf [0, 1, 7, 8] vs_1 1) [t15_6] L_3 (slices_IndexFunc___int_int__c0 Q vs_1 nx_2)
def slices_IndexFunc___int_int__l1 (Q : AV → SH → Prop) (vs_1 : List AV) (L_3 : SH) (nx_2 : W.Kn) : Prop :=
 W.bin Try.prog Fl .lss 3 (slotOf [0, 1, 7, 8] vs_1 8) (slotOf [0, 1, 7, 8] vs_1 7) fun t9_4 =>
 W.cond t9_4 (
 (slices_IndexFunc___int_int__zt1 vs_1 L_3 Q nx_2)) (
 Q (.int .i64 (-1)) L_3)
def slices_IndexFunc___int_int__w (t0 t1 : AV) (L : SH) (Q : AV → SH → Prop) : Prop :=
 W.len t0 fun t7_0 =>
 W.loop (slices_IndexFunc___int_int__l1 Q) [t0, t1, t7_0, (.int .i64 0)] L
theorem slices_IndexFunc___int_int__e (t0 t1 : AV) (L : SH) (Q : AV → SH → Prop) : W.func Try.prog Fl slices_IndexFunc___int_int__t Try.f78 (Try.f78.body.getD .skip) [t0, t1] L Q = slices_IndexFunc___int_int__w t0 t1 L Q := by kernel_rfl
theorem slices_IndexFunc___int_int__ok (t0 t1 : AV) (L : SH) (Q : AV → SH → Prop) (h : slices_IndexFunc___int_int__w t0 t1 L Q) : CallA Try.prog 78 [t0, t1] L Q :=
  func_sound (ht := slices_IndexFunc___int_int__t) fit Try.func78 (show Try.f78.body = some (Try.f78.body.getD .skip) by kernel_rfl) (Eq.mpr (slices_IndexFunc___int_int__e t0 t1 L Q) h)

def object_Apply_1_t : Hints := ⟨fun k => none, fun k => [], fun k => [], fun k => []⟩
def object_Apply_1_w (t0 t1 : AV) (L : SH) (Q : AV → SH → Prop) : Prop :=
 W.load false 1 t1 L fun t5_0 =>
 W.bin Try.prog Fl .eql 3 t0 t5_0 fun t6_1 =>
 Q t6_1 L
theorem object_Apply_1_e (t0 t1 : AV) (L : SH) (Q : AV → SH → Prop) : W.func Try.prog Fl object_Apply_1_t Try.f49 (Try.f49.body.getD .skip) [t0, t1] L Q = object_Apply_1_w t0 t1 L Q := by kernel_rfl
theorem object_Apply_1_ok (t0 t1 : AV) (L : SH) (Q : AV → SH → Prop) (h : object_Apply_1_w t0 t1 L Q) : CallA Try.prog 49 [t0, t1] L Q :=
  func_sound (ht := object_Apply_1_t) fit Try.func49 (show Try.f49.body = some (Try.f49.body.getD .skip) by kernel_rfl) (Eq.mpr (object_Apply_1_e t0 t1 L Q) h)

def object_notify_t : Hints := ⟨fun k => none, fun k => if k = 3 then [1, 2, 3, 7, 11, 12, 13] else [], fun k => if k = 0 then [3] else if k = 4 then [9] else [], fun k => []⟩
def object_notify_zt0 (vs_7 : List AV) (nx_8 : W.Kn) (L_43 : SH)  : Prop :=
 W.bin Try.prog Fl .add 3 (slotOf [1, 2, 3, 7, 11, 12, 13] vs_7 13) (.int .i64 1) fun t31_46 =>
 nx_8 [(slotOf [1, 2, 3, 7, 11, 12, 13] vs_7 1), (slotOf [1, 2, 3, 7, 11, 12, 13] vs_7 2), (slotOf [1, 2, 3, 7, 11, 12, 13] vs_7 3), (slotOf [1, 2, 3, 7, 11, 12, 13] vs_7 13), (slotOf [1, 2, 3, 7, 11, 12, 13] vs_7 11), (slotOf [1, 2, 3, 7, 11, 12, 13] vs_7 12), t31_46] L_43
def object_notify_zt1 (vs_7 : List AV) (nx_8 : W.Kn) (L_43 : SH)  : Prop :=
 W.bin Try.prog Fl .add 3 (slotOf [1, 2, 3, 7, 11, 12, 13] vs_7 13) (.int .i64 1) fun t31_47 =>
 nx_8 [(slotOf [1, 2, 3, 7, 11, 12, 13] vs_7 1), (slotOf [1, 2, 3, 7, 11, 12, 13] vs_7 2), (slotOf [1, 2, 3, 7, 11, 12, 13] vs_7 3), (slotOf [1, 2, 3, 7, 11, 12, 13] vs_7 7), (slotOf [1, 2, 3, 7, 11, 12, 13] vs_7 11), (slotOf [1, 2, 3, 7, 11, 12, 13] vs_7 12), t31_47] L_43
def object_notify_c0 (vs_7 : List AV) (nx_8 : W.Kn) (t20_19 : AV) (L_20 : SH) : Prop :=
 W.grd t20_19 true (fun k_22 => k_22 (slotOf [1, 2, 3, 7, 11, 12, 13] vs_7 7) L_20) L_20 fun t22_21 L_23 =>
 W.grd t20_19 true (fun k_25 => W.bin Try.prog Fl .lss 3 t22_21 (.int .i64 0) fun v_27 =>
 k_25 v_27 L_23) L_23 fun t23_24 L_26 =>
 W.grd t20_19 true (fun k_29 => k_29 t23_24 L_26) L_26 fun t24_28 L_30 =>
 W.grd t24_28 false (fun k_32 => k_32 (slotOf [1, 2, 3, 7, 11, 12, 13] vs_7 13) L_30) L_30 fun t25_31 L_33 =>
 W.grd t24_28 false (fun k_35 => k_35 (slotOf [1, 2, 3, 7, 11, 12, 13] vs_7 2) L_33) L_33 fun t26_34 L_36 =>
 W.grd t24_28 false (fun k_38 => W.bin Try.prog Fl .eql 3 t25_31 t26_34 fun v_40 =>
 k_38 v_40 L_36) L_36 fun t27_37 L_39 =>
 W.grd t20_19 true (fun k_42 => W.pick t24_28 (.bool true) t27_37 fun v_44 =>
 k_42 v_44 L_39) L_39 fun t28_41 L_43 =>
 W.pick t20_19 t28_41 (.bool false) fun t29_45 =>
 W.cond t29_45 (
 (object_notify_zt0 vs_7 nx_8 L_43)) (
 (object_notify_zt1 vs_7 nx_8 L_43))
def object_notify_zt2 (vs_7 : List AV) (L_9 : SH) (nx_8 : W.Kn)  : Prop :=
 W.idx 3 (slotOf [1, 2, 3, 7, 11, 12, 13] vs_7 11) (slotOf [1, 2, 3, 7, 11, 12, 13] vs_7 13) L_9 fun t16_11 =>
 W.load true 3 t16_11 L_9 fun t17_12 =>
 W.alloc [(.int .i64 0), (.int .i64 0), (.bool false)] L_9 fun t9_13 L_14 =>
 W.store 3 t9_13 t17_12 L_14 fun L_15 =>
 W.frz1 t9_13 L_15 fun t9_16 L_17 =>
 W.load true 3 t9_16 L_17 fun t18_18 =>
 W.call Try.prog (.fn 79 []) [t18_18, (slotOf [1, 2, 3, 7, 11, 12, 13] vs_7 1)] L_17 (object_notify_c0 vs_7 nx_8)
def object_notify_zt3 (vs_7 : List AV) (L_9 : SH) (Q : AV → SH → Prop)  : Prop :=
 W.faddr 3 (slotOf [1, 2, 3, 7, 11, 12, 13] vs_7 3) fun t34_49 =>
 W.load false 1 t34_49 L_9 fun t35_50 =>
 W.idx 3 t35_50 (slotOf [1, 2, 3, 7, 11, 12, 13] vs_7 7) L_9 fun t37_51 =>
 W.faddr 0 t37_51 fun t38_52 =>
 W.store 1 t38_52 (.int .i64 4) L_9 fun L_53 =>
 Q (slotOf [1, 2, 3, 7, 11, 12, 13] vs_7 7) L_53
def object_notify_zt4 (vs_7 : List AV) (L_9 : SH) (Q : AV → SH → Prop)  : Prop :=
 W.bin Try.prog Fl .geq 3 (slotOf [1, 2, 3, 7, 11, 12, 13] vs_7 7) (.int .i64 0) fun t33_48 =>
 W.cond t33_48 (
 (object_notify_zt3 vs_7 L_9 Q)) (
 Q (slotOf [1, 2, 3, 7, 11, 12, 13] vs_7 7) L_9)
def object_notify_l1 (Q : AV → SH → Prop) (vs_7 : List AV) (L_9 : SH) (nx_8 : W.Kn) : Prop :=
 W.bin Try.prog Fl .lss 3 (slotOf [1, 2, 3, 7, 11, 12, 13] vs_7 13) (slotOf [1, 2, 3, 7, 11, 12, 13] vs_7 12) fun t14_10 =>
 W.cond t14_10 (
 (object_notify_zt2 vs_7 L_9 nx_8)) (
 (object_notify_zt4 vs_7 L_9 Q))
def object_notify_w (t0 t1 t2 : AV) (L : SH) (Q : AV → SH → Prop) : Prop :=
 W.box t0 L fun t3_0 L_1 =>
 W.frz1 t3_0 L_1 fun t3_2 L_3 =>
 W.faddr 3 t3_2 fun t10_4 =>
 W.load false 1 t10_4 L_3 fun t11_5 =>
 W.len t11_5 fun t12_6 =>
 W.loop (object_notify_l1 Q) [t1, t2, t3_2, (.int .i64 (-1)), t11_5, t12_6, (.int .i64 0)] L_3
theorem object_notify_e (t0 t1 t2 : AV) (L : SH) (Q : AV → SH → Prop) : W.func Try.prog Fl object_notify_t Try.f50 (Try.f50.body.getD .skip) [t0, t1, t2] L Q = object_notify_w t0 t1 t2 L Q := by kernel_rfl
theorem object_notify_ok (t0 t1 t2 : AV) (L : SH) (Q : AV → SH → Prop) (h : object_notify_w t0 t1 t2 L Q) : CallA Try.prog 50 [t0, t1, t2] L Q :=
  func_sound (ht := object_notify_t) fit Try.func50 (show Try.f50.body = some (Try.f50.body.getD .skip) by kernel_rfl) (Eq.mpr (object_notify_e t0 t1 t2 L Q) h)

def object_notifyAll_t : Hints := ⟨fun k => none, fun k => if k = 3 then [1, 2, 5, 9, 10, 11] else [], fun k => if k = 0 then [2] else if k = 4 then [7] else [], fun k => []⟩
def object_notifyAll_zt0 (vs_7 : List AV) (L_20 : SH) (nx_8 : W.Kn)  : Prop :=
 W.faddr 3 (slotOf [1, 2, 5, 9, 10, 11] vs_7 2) fun t19_21 =>
 W.load false 1 t19_21 L_20 fun t20_22 =>
 W.idx 3 t20_22 (slotOf [1, 2, 5, 9, 10, 11] vs_7 11) L_20 fun t22_23 =>
 W.faddr 0 t22_23 fun t23_24 =>
 W.store 1 t23_24 (.int .i64 4) L_20 fun L_25 =>
 W.bin Try.prog Fl .add 3 (slotOf [1, 2, 5, 9, 10, 11] vs_7 5) (.int .i64 1) fun t25_26 =>
 W.bin Try.prog Fl .add 3 (slotOf [1, 2, 5, 9, 10, 11] vs_7 11) (.int .i64 1) fun t26_27 =>
 nx_8 [(slotOf [1, 2, 5, 9, 10, 11] vs_7 1), (slotOf [1, 2, 5, 9, 10, 11] vs_7 2), t25_26, (slotOf [1, 2, 5, 9, 10, 11] vs_7 9), (slotOf [1, 2, 5, 9, 10, 11] vs_7 10), t26_27] L_25
def object_notifyAll_zt1 (vs_7 : List AV) (nx_8 : W.Kn) (L_20 : SH)  : Prop :=
 W.bin Try.prog Fl .add 3 (slotOf [1, 2, 5, 9, 10, 11] vs_7 11) (.int .i64 1) fun t26_28 =>
 nx_8 [(slotOf [1, 2, 5, 9, 10, 11] vs_7 1), (slotOf [1, 2, 5, 9, 10, 11] vs_7 2), (slotOf [1, 2, 5, 9, 10, 11] vs_7 5), (slotOf [1, 2, 5, 9, 10, 11] vs_7 9), (slotOf [1, 2, 5, 9, 10, 11] vs_7 10), t26_28] L_20
def object_notifyAll_c0 (vs_7 : List AV) (nx_8 : W.Kn) (t18_19 : AV) (L_20 : SH) : Prop :=
 W.cond t18_19 (
 (object_notifyAll_zt0 vs_7 L_20 nx_8)) (
 (object_notifyAll_zt1 vs_7 nx_8 L_20))
def object_notifyAll_zt2 (vs_7 : List AV) (L_9 : SH) (nx_8 : W.Kn)  : Prop :=
 W.idx 3 (slotOf [1, 2, 5, 9, 10, 11] vs_7 9) (slotOf [1, 2, 5, 9, 10, 11] vs_7 11) L_9 fun t14_11 =>
 W.load true 3 t14_11 L_9 fun t15_12 =>
 W.alloc [(.int .i64 0), (.int .i64 0), (.bool false)] L_9 fun t7_13 L_14 =>
 W.store 3 t7_13 t15_12 L_14 fun L_15 =>
 W.frz1 t7_13 L_15 fun t7_16 L_17 =>
 W.load true 3 t7_16 L_17 fun t16_18 =>
 W.call Try.prog (.fn 79 []) [t16_18, (slotOf [1, 2, 5, 9, 10, 11] vs_7 1)] L_17 (object_notifyAll_c0 vs_7 nx_8)
def object_notifyAll_l1 (Q : AV → SH → Prop) (vs_7 : List AV) (L_9 : SH) (nx_8 : W.Kn) : Prop :=
 W.bin Try.prog Fl .lss 3 (slotOf [1, 2, 5, 9, 10, 11] vs_7 11) (slotOf [1, 2, 5, 9, 10, 11] vs_7 10) fun t12_10 =>
 W.cond t12_10 (
 (object_notifyAll_zt2 vs_7 L_9 nx_8)) (
 Q (slotOf [1, 2, 5, 9, 10, 11] vs_7 5) L_9)
def object_notifyAll_w (t0 t1 : AV) (L : SH) (Q : AV → SH → Prop) : Prop :=
 W.box t0 L fun t2_0 L_1 =>
 W.frz1 t2_0 L_1 fun t2_2 L_3 =>
 W.faddr 3 t2_2 fun t8_4 =>
 W.load false 1 t8_4 L_3 fun t9_5 =>
 W.len t9_5 fun t10_6 =>
 W.loop (object_notifyAll_l1 Q) [t1, t2_2, (.int .i64 0), t9_5, t10_6, (.int .i64 0)] L_3
theorem object_notifyAll_e (t0 t1 : AV) (L : SH) (Q : AV → SH → Prop) : W.func Try.prog Fl object_notifyAll_t Try.f51 (Try.f51.body.getD .skip) [t0, t1] L Q = object_notifyAll_w t0 t1 L Q := by kernel_rfl
theorem object_notifyAll_ok (t0 t1 : AV) (L : SH) (Q : AV → SH → Prop) (h : object_notifyAll_w t0 t1 L Q) : CallA Try.prog 51 [t0, t1] L Q :=
  func_sound (ht := object_notifyAll_t) fit Try.func51 (show Try.f51.body = some (Try.f51.body.getD .skip) by kernel_rfl) (Eq.mpr (object_notifyAll_e t0 t1 L Q) h)

def object_Holds_t : Hints := ⟨fun k => if k = 8 then some [2, 8, 9, 10, 11, 25, 26, 27] else none, fun k => if k = 5 then [2, 8, 9, 25, 26, 27] else [], fun k => if k = 0 then [3, 4] else if k = 6 then [11] else [], fun k => []⟩
def object_Holds_zt0 (vs_52 : List AV) (L_58 : SH) (nx_42 : W.Kn)  : Prop :=
 W.bslice 1 [(.int .i64 0)] 1 [(0, (slotOf [2, 8, 9, 10, 11, 25, 26, 27] vs_52 10))] L_58 fun t46_59 L_60 =>
 W.append 1 8 (slotOf [2, 8, 9, 10, 11, 25, 26, 27] vs_52 9) t46_59 L_60 fun t47_61 L_62 =>
 W.bin Try.prog Fl .add 3 (slotOf [2, 8, 9, 10, 11, 25, 26, 27] vs_52 27) (.int .i64 1) fun t48_63 =>
 nx_42 [(slotOf [2, 8, 9, 10, 11, 25, 26, 27] vs_52 2), (slotOf [2, 8, 9, 10, 11, 25, 26, 27] vs_52 8), t47_61, (slotOf [2, 8, 9, 10, 11, 25, 26, 27] vs_52 25), (slotOf [2, 8, 9, 10, 11, 25, 26, 27] vs_52 26), t48_63] L_62
def object_Holds_zt1 (vs_52 : List AV) (nx_42 : W.Kn) (L_58 : SH)  : Prop :=
 W.bin Try.prog Fl .add 3 (slotOf [2, 8, 9, 10, 11, 25, 26, 27] vs_52 27) (.int .i64 1) fun t48_64 =>
 nx_42 [(slotOf [2, 8, 9, 10, 11, 25, 26, 27] vs_52 2), (slotOf [2, 8, 9, 10, 11, 25, 26, 27] vs_52 8), (slotOf [2, 8, 9, 10, 11, 25, 26, 27] vs_52 9), (slotOf [2, 8, 9, 10, 11, 25, 26, 27] vs_52 25), (slotOf [2, 8, 9, 10, 11, 25, 26, 27] vs_52 26), t48_64] L_58
def object_Holds_c0 (vs_52 : List AV) (nx_42 : W.Kn) (t43_57 : AV) (L_58 : SH) : Prop :=
 W.cond t43_57 (
 (object_Holds_zt0 vs_52 L_58 nx_42)) (
 (object_Holds_zt1 vs_52 nx_42 L_58))
def object_Holds_j1 (nx_42 : W.Kn) (vs_52 : List AV) (L_54 : SH) : Prop :=
 W.faddr 1 (slotOf [2, 8, 9, 10, 11, 25, 26, 27] vs_52 11) fun t40_55 =>
 W.load false 1 t40_55 L_54 fun t41_56 =>
 W.call Try.prog (.fn 60 []) [t41_56, (slotOf [2, 8, 9, 10, 11, 25, 26, 27] vs_52 2)] L_54 (object_Holds_c0 vs_52 nx_42)
def object_Holds_zt2 (vs_41 : List AV) (L_51 : SH) (j_53 : W.Kn) (t11_50 : AV)  : Prop :=
 W.bslice 1 [(.int .i64 0)] 1 [(0, (slotOf [2, 8, 9, 25, 26, 27] vs_41 27))] L_51 fun t38_68 L_69 =>
 W.append 1 8 (slotOf [2, 8, 9, 25, 26, 27] vs_41 8) t38_68 L_69 fun t39_70 L_71 =>
 j_53 [(slotOf [2, 8, 9, 25, 26, 27] vs_41 2), t39_70, (slotOf [2, 8, 9, 25, 26, 27] vs_41 9), (slotOf [2, 8, 9, 25, 26, 27] vs_41 27), t11_50, (slotOf [2, 8, 9, 25, 26, 27] vs_41 25), (slotOf [2, 8, 9, 25, 26, 27] vs_41 26), (slotOf [2, 8, 9, 25, 26, 27] vs_41 27)] L_71
def object_Holds_zt3 (j_53 : W.Kn) (vs_41 : List AV) (t11_50 : AV) (L_51 : SH)  : Prop :=
 j_53 [(slotOf [2, 8, 9, 25, 26, 27] vs_41 2), (slotOf [2, 8, 9, 25, 26, 27] vs_41 8), (slotOf [2, 8, 9, 25, 26, 27] vs_41 9), (slotOf [2, 8, 9, 25, 26, 27] vs_41 27), t11_50, (slotOf [2, 8, 9, 25, 26, 27] vs_41 25), (slotOf [2, 8, 9, 25, 26, 27] vs_41 26), (slotOf [2, 8, 9, 25, 26, 27] vs_41 27)] L_51
def object_Holds_zt4 (vs_41 : List AV) (L_43 : SH) (nx_42 : W.Kn)  : Prop :=
 W.idx 2 (slotOf [2, 8, 9, 25, 26, 27] vs_41 25) (slotOf [2, 8, 9, 25, 26, 27] vs_41 27) L_43 fun t30_45 =>
 W.load true 2 t30_45 L_43 fun t31_46 =>
 W.alloc [(.int .i64 0), .nils] L_43 fun t11_47 L_48 =>
 W.store 2 t11_47 t31_46 L_48 fun L_49 =>
 W.frz1 t11_47 L_49 fun t11_50 L_51 =>
 W.join (object_Holds_j1 nx_42) fun j_53 =>
 W.faddr 0 t11_50 fun t32_65 =>
 W.load false 1 t32_65 L_51 fun t33_66 =>
 W.bin Try.prog Fl .eql 3 t33_66 (slotOf [2, 8, 9, 25, 26, 27] vs_41 2) fun t35_67 =>
 W.cond t35_67 (
 (object_Holds_zt2 vs_41 L_51 j_53 t11_50)) (
 (object_Holds_zt3 j_53 vs_41 t11_50 L_51))
def object_Holds_l2 (Q : AV → SH → Prop) (vs_41 : List AV) (L_43 : SH) (nx_42 : W.Kn) : Prop :=
 W.bin Try.prog Fl .lss 3 (slotOf [2, 8, 9, 25, 26, 27] vs_41 27) (slotOf [2, 8, 9, 25, 26, 27] vs_41 26) fun t28_44 =>
 W.cond t28_44 (
 (object_Holds_zt4 vs_41 L_43 nx_42)) (
 Q (.tup [(slotOf [2, 8, 9, 25, 26, 27] vs_41 8), (slotOf [2, 8, 9, 25, 26, 27] vs_41 9)]) L_43)
def object_Holds_zt5 (t4_6 : AV) (L_35 : SH) (Q : AV → SH → Prop) (t2 : AV)  : Prop :=
 W.faddr 0 t4_6 fun t24_38 =>
 W.load false 1 t24_38 L_35 fun t25_39 =>
 W.len t25_39 fun t26_40 =>
 W.loop (object_Holds_l2 Q) [t2, .nils, .nils, t25_39, t26_40, (.int .i64 0)] L_35
def object_Holds_c3 (t2 : AV) (t3_4 : AV) (Q : AV → SH → Prop) (t4_6 : AV) (t14_10 : AV) (L_11 : SH) : Prop :=
 W.un .not t14_10 fun t15_12 =>
 W.grd t15_12 false (fun k_14 => k_14 t2 L_11) L_11 fun t17_13 L_15 =>
 W.grd t15_12 false (fun k_17 => W.faddr 4 t3_4 fun v_19 =>
 k_17 v_19 L_15) L_15 fun t18_16 L_18 =>
 W.grd t15_12 false (fun k_21 => W.load false 1 t18_16 L_18 fun v_23 =>
 k_21 v_23 L_18) L_18 fun t19_20 L_22 =>
 W.grd t15_12 false (fun k_25 => W.len t19_20 fun v_27 =>
 k_25 v_27 L_22) L_22 fun t20_24 L_26 =>
 W.grd t15_12 false (fun k_29 => W.call Try.prog (.fn 52 []) [t17_13, t20_24] L_26 fun v_31 L_32 =>
 k_29 v_31 L_32) L_26 fun t21_28 L_30 =>
 W.grd t15_12 false (fun k_34 => W.un .not t21_28 fun v_36 =>
 k_34 v_36 L_30) L_30 fun t22_33 L_35 =>
 W.pick t15_12 (.bool true) t22_33 fun t23_37 =>
 W.cond t23_37 (
 Q (.tup [.nils, .nils]) L_35) (
 (object_Holds_zt5 t4_6 L_35 Q t2))
def object_Holds_w (t0 t1 t2 : AV) (L : SH) (Q : AV → SH → Prop) : Prop :=
 W.box t0 L fun t3_0 L_1 =>
 W.box t1 L_1 fun t4_2 L_3 =>
 W.frz1 t3_0 L_3 fun t3_4 L_5 =>
 W.frz1 t4_2 L_5 fun t4_6 L_7 =>
 W.load true 6 t3_4 L_7 fun t12_8 =>
 W.load true 4 t4_6 L_7 fun t13_9 =>
 W.call Try.prog (.fn 37 []) [t12_8, t13_9] L_7 (object_Holds_c3 t2 t3_4 Q t4_6)
theorem object_Holds_e (t0 t1 t2 : AV) (L : SH) (Q : AV → SH → Prop) : W.func Try.prog Fl object_Holds_t Try.f32 (Try.f32.body.getD .skip) [t0, t1, t2] L Q = object_Holds_w t0 t1 t2 L Q := by kernel_rfl
theorem object_Holds_ok (t0 t1 t2 : AV) (L : SH) (Q : AV → SH → Prop) (h : object_Holds_w t0 t1 t2 L Q) : CallA Try.prog 32 [t0, t1, t2] L Q :=
  func_sound (ht := object_Holds_t) fit Try.func32 (show Try.f32.body = some (Try.f32.body.getD .skip) by kernel_rfl) (Eq.mpr (object_Holds_e t0 t1 t2 L Q) h)

def object_Blockers_t : Hints := ⟨fun k => if k = 15 then some [5, 11] else if k = 6 then some [2, 4, 5, 6, 11, 31, 32] else none, fun k => [], fun k => if k = 0 then [5, 6] else [], fun k => if k = 12 then [0, 0, 2, 0, 8, 0, 56, 120, 248, 510, 1022, 2046, 4094, 8191, 16383] else []⟩
def object_Blockers_c0 (t99_61 : AV) (Q : AV → SH → Prop) (t101_63 : AV) (L_64 : SH) : Prop :=
 W.call Try.prog (.fn 41 []) [t99_61] L_64 fun t103_65 L_66 =>
 Q t103_65 L_66
def object_Blockers_c1 (Q : AV → SH → Prop) (t99_61 : AV) (L_62 : SH) : Prop :=
 W.call Try.prog (.fn 40 []) [t99_61] L_62 (object_Blockers_c0 t99_61 Q)
def object_Blockers_j2 (Q : AV → SH → Prop) (vs_58 : List AV) (L_60 : SH) : Prop :=
 W.call Try.prog (.fn 48 []) [(slotOf [5, 11] vs_58 11), (.fn 62 [(slotOf [5, 11] vs_58 5)])] L_60 (object_Blockers_c1 Q)
def object_Blockers_zt0 (vs_67 : List AV) (L_69 : SH) (j_59 : W.Kn)  : Prop :=
 W.faddr 0 (slotOf [2, 4, 5, 6, 11, 31, 32] vs_67 6) fun t36_70 =>
 W.load false 1 t36_70 L_69 fun t37_71 =>
 W.idx 2 t37_71 (slotOf [2, 4, 5, 6, 11, 31, 32] vs_67 4) L_69 fun t39_72 =>
 W.faddr 0 t39_72 fun t40_73 =>
 W.load false 1 t40_73 L_69 fun t41_74 =>
 W.bslice 1 [(.int .i64 0)] 1 [(0, t41_74)] L_69 fun t42_75 L_76 =>
 W.append 1 8 (slotOf [2, 4, 5, 6, 11, 31, 32] vs_67 11) t42_75 L_76 fun t43_77 L_78 =>
 j_59 [(slotOf [2, 4, 5, 6, 11, 31, 32] vs_67 5), t43_77] L_78
def object_Blockers_zt1 (vs_67 : List AV) (L_69 : SH) (j_59 : W.Kn)  : Prop :=
 W.faddr 0 (slotOf [2, 4, 5, 6, 11, 31, 32] vs_67 6) fun t47_80 =>
 W.load false 1 t47_80 L_69 fun t48_81 =>
 W.idx 2 t48_81 (slotOf [2, 4, 5, 6, 11, 31, 32] vs_67 4) L_69 fun t50_82 =>
 W.faddr 0 t50_82 fun t51_83 =>
 W.load false 1 t51_83 L_69 fun t52_84 =>
 W.bslice 1 [(.int .i64 0)] 1 [(0, t52_84)] L_69 fun t53_85 L_86 =>
 W.append 1 8 (slotOf [2, 4, 5, 6, 11, 31, 32] vs_67 11) t53_85 L_86 fun t54_87 L_88 =>
 W.faddr 0 (slotOf [2, 4, 5, 6, 11, 31, 32] vs_67 6) fun t56_89 =>
 W.load false 1 t56_89 L_88 fun t57_90 =>
 W.idx 2 t57_90 (slotOf [2, 4, 5, 6, 11, 31, 32] vs_67 4) L_88 fun t59_91 =>
 W.faddr 1 t59_91 fun t60_92 =>
 W.load false 1 t60_92 L_88 fun t61_93 =>
 W.append 1 8 t54_87 t61_93 L_88 fun t62_94 L_95 =>
 j_59 [(slotOf [2, 4, 5, 6, 11, 31, 32] vs_67 5), t62_94] L_95
def object_Blockers_zt2 (vs_67 : List AV) (L_69 : SH) (j_59 : W.Kn)  : Prop :=
 (true = true) ∧ (
 W.faddr 0 (slotOf [2, 4, 5, 6, 11, 31, 32] vs_67 6) fun t66_97 =>
 W.calm [] ⟨2, (blocksOf t66_97), [], [], false, []⟩ (
 W.load false 1 t66_97 L_69 fun t67_98 =>
 W.note ⟨(blocksOf t66_97), [], [], []⟩ fun r_99 =>
 W.faddr 2 (slotOf [2, 4, 5, 6, 11, 31, 32] vs_67 5) fun t68_100 =>
 W.calm [⟨2, r_99.reads, r_99.writes, r_99.made, false, r_99.old⟩] ⟨4, (blocksOf t68_100), [], [], false, []⟩ (
 W.load false 1 t68_100 L_69 fun t69_101 =>
 W.note ⟨(blocksOf t68_100), [], [], []⟩ fun r_102 =>
 W.calm [⟨2, r_99.reads, r_99.writes, r_99.made, false, r_99.old⟩] ⟨6, (slOf t69_101), [], [], false, []⟩ (
 W.idx 2 t69_101 (slotOf [2, 4, 5, 6, 11, 31, 32] vs_67 4) L_69 fun t71_103 =>
 W.note ⟨(slOf t69_101), [], [], []⟩ fun r_104 =>
 W.faddr 1 t71_103 fun t72_105 =>
 W.calm [⟨2, r_99.reads, r_99.writes, r_99.made, false, r_99.old⟩] ⟨8, (blocksOf t72_105), [], [], false, []⟩ (
 W.load false 1 t72_105 L_69 fun t73_106 =>
 W.note ⟨(blocksOf t72_105), [], [], []⟩ fun r_107 =>
 W.calm [] ⟨9, (slOf t67_98), [], [], false, []⟩ (
 W.idx 2 t67_98 t73_106 L_69 fun t74_108 =>
 W.note ⟨(slOf t67_98), [], [], []⟩ fun r_109 =>
 W.faddr 0 t74_108 fun t75_110 =>
 W.calm [] ⟨11, (blocksOf t75_110), [], [], false, []⟩ (
 W.load false 1 t75_110 L_69 fun t76_111 =>
 W.note ⟨(blocksOf t75_110), [], [], []⟩ fun r_112 =>
 W.calm [] ⟨12, [], [], [], false, []⟩ (
 W.bslice 1 [(.int .i64 0)] 1 [(0, t76_111)] L_69 fun t77_113 L_114 =>
 W.note ⟨[], [], (blocksOf t77_113), []⟩ fun r_115 =>
 W.calm [] ⟨13, (blocksOf (slotOf [2, 4, 5, 6, 11, 31, 32] vs_67 11) ++ blocksOf t77_113), (blocksOf (slotOf [2, 4, 5, 6, 11, 31, 32] vs_67 11)), [], false, []⟩ (
 W.append 1 8 (slotOf [2, 4, 5, 6, 11, 31, 32] vs_67 11) t77_113 L_114 fun t78_116 L_117 =>
 W.note ⟨(blocksOf (slotOf [2, 4, 5, 6, 11, 31, 32] vs_67 11) ++ blocksOf t77_113), (blocksOf (slotOf [2, 4, 5, 6, 11, 31, 32] vs_67 11)), (blocksOf t78_116), []⟩ fun r_118 =>
 j_59 [(slotOf [2, 4, 5, 6, 11, 31, 32] vs_67 5), t78_116] L_117)))))))))
def object_Blockers_zt3 (vs_67 : List AV) (L_146 : SH) (j_59 : W.Kn)  : Prop :=
 W.bslice 1 [(.int .i64 0)] 1 [(0, (slotOf [2, 4, 5, 6, 11, 31, 32] vs_67 4))] L_146 fun t95_149 L_150 =>
 W.append 1 8 (slotOf [2, 4, 5, 6, 11, 31, 32] vs_67 11) t95_149 L_150 fun t96_151 L_152 =>
 j_59 [(slotOf [2, 4, 5, 6, 11, 31, 32] vs_67 5), t96_151] L_152
def object_Blockers_zt4 (vs_67 : List AV) (L_69 : SH) (j_59 : W.Kn)  : Prop :=
 W.bin Try.prog Fl .neq 3 (slotOf [2, 4, 5, 6, 11, 31, 32] vs_67 4) (slotOf [2, 4, 5, 6, 11, 31, 32] vs_67 2) fun t83_120 =>
 W.grd t83_120 true (fun k_122 => W.faddr 3 (slotOf [2, 4, 5, 6, 11, 31, 32] vs_67 6) fun v_124 =>
 k_122 v_124 L_69) L_69 fun t85_121 L_123 =>
 W.grd t83_120 true (fun k_126 => W.load false 1 t85_121 L_123 fun v_128 =>
 k_126 v_128 L_123) L_123 fun t86_125 L_127 =>
 W.grd t83_120 true (fun k_130 => k_130 (slotOf [2, 4, 5, 6, 11, 31, 32] vs_67 4) L_127) L_127 fun t87_129 L_131 =>
 W.grd t83_120 true (fun k_133 => W.idx 3 t86_125 t87_129 L_131 fun v_135 =>
 k_133 v_135 L_131) L_131 fun t88_132 L_134 =>
 W.grd t83_120 true (fun k_137 => W.faddr 0 t88_132 fun v_139 =>
 k_137 v_139 L_134) L_134 fun t89_136 L_138 =>
 W.grd t83_120 true (fun k_141 => W.load false 1 t89_136 L_138 fun v_143 =>
 k_141 v_143 L_138) L_138 fun t90_140 L_142 =>
 W.grd t83_120 true (fun k_145 => W.bin Try.prog Fl .neq 3 t90_140 (.int .i64 5) fun v_147 =>
 k_145 v_147 L_142) L_142 fun t91_144 L_146 =>
 W.pick t83_120 t91_144 (.bool false) fun t92_148 =>
 W.cond t92_148 (
 (object_Blockers_zt3 vs_67 L_146 j_59)) (
 j_59 [(slotOf [2, 4, 5, 6, 11, 31, 32] vs_67 5), (slotOf [2, 4, 5, 6, 11, 31, 32] vs_67 11)] L_146)
def object_Blockers_zt5 (vs_67 : List AV) (L_69 : SH) (j_59 : W.Kn)  : Prop :=
 W.bin Try.prog Fl .eql 3 (slotOf [2, 4, 5, 6, 11, 31, 32] vs_67 31) (.int .i64 21) fun t80_119 =>
 W.cond t80_119 (
 (object_Blockers_zt4 vs_67 L_69 j_59)) (
 j_59 [(slotOf [2, 4, 5, 6, 11, 31, 32] vs_67 5), (slotOf [2, 4, 5, 6, 11, 31, 32] vs_67 11)] L_69)
def object_Blockers_zt6 (vs_67 : List AV) (L_69 : SH) (j_59 : W.Kn)  : Prop :=
 W.bin Try.prog Fl .eql 3 (slotOf [2, 4, 5, 6, 11, 31, 32] vs_67 31) (.int .i64 17) fun t64_96 =>
 W.cond t64_96 (
 (object_Blockers_zt2 vs_67 L_69 j_59)) (
 (object_Blockers_zt5 vs_67 L_69 j_59))
def object_Blockers_zt7 (vs_67 : List AV) (L_69 : SH) (j_59 : W.Kn)  : Prop :=
 W.bin Try.prog Fl .eql 3 (slotOf [2, 4, 5, 6, 11, 31, 32] vs_67 31) (.int .i64 10) fun t45_79 =>
 W.cond t45_79 (
 (object_Blockers_zt1 vs_67 L_69 j_59)) (
 (object_Blockers_zt6 vs_67 L_69 j_59))
def object_Blockers_j3 (j_59 : W.Kn) (vs_67 : List AV) (L_69 : SH) : Prop :=
 W.cond (slotOf [2, 4, 5, 6, 11, 31, 32] vs_67 32) (
 (object_Blockers_zt0 vs_67 L_69 j_59)) (
 (object_Blockers_zt7 vs_67 L_69 j_59))
def object_Blockers_zt8 (Q : AV → SH → Prop) (t3 : AV) (t2 : AV) (t4 : AV) (t5_4 : AV) (t6_6 : AV) (L_55 : SH)  : Prop :=
 W.join (object_Blockers_j2 Q) fun j_59 =>
 W.join (object_Blockers_j3 j_59) fun j_68 =>
 W.bin Try.prog Fl .eql 3 t3 (.int .i64 6) fun t33_153 =>
 W.cond t33_153 (
 j_68 [t2, t4, t5_4, t6_6, .nils, t3, t33_153] L_55) (
 W.bin Try.prog Fl .eql 3 t3 (.int .i64 8) fun t34_154 =>
 j_68 [t2, t4, t5_4, t6_6, .nils, t3, t34_154] L_55)
def object_Blockers_c4 (t2 : AV) (t5_4 : AV) (t3 : AV) (t4 : AV) (Q : AV → SH → Prop) (t6_6 : AV) (t14_10 : AV) (L_11 : SH) : Prop :=
 W.un .not t14_10 fun t15_12 =>
 W.grd t15_12 false (fun k_14 => k_14 t2 L_11) L_11 fun t17_13 L_15 =>
 W.grd t15_12 false (fun k_17 => W.faddr 4 t5_4 fun v_19 =>
 k_17 v_19 L_15) L_15 fun t18_16 L_18 =>
 W.grd t15_12 false (fun k_21 => W.load false 1 t18_16 L_18 fun v_23 =>
 k_21 v_23 L_18) L_18 fun t19_20 L_22 =>
 W.grd t15_12 false (fun k_25 => W.len t19_20 fun v_27 =>
 k_25 v_27 L_22) L_22 fun t20_24 L_26 =>
 W.grd t15_12 false (fun k_29 => W.call Try.prog (.fn 52 []) [t17_13, t20_24] L_26 fun v_31 L_32 =>
 k_29 v_31 L_32) L_26 fun t21_28 L_30 =>
 W.grd t15_12 false (fun k_34 => W.un .not t21_28 fun v_36 =>
 k_34 v_36 L_30) L_30 fun t22_33 L_35 =>
 W.pick t15_12 (.bool true) t22_33 fun t23_37 =>
 W.grd t23_37 false (fun k_39 => W.load true 6 t5_4 L_35 fun v_41 =>
 k_39 v_41 L_35) L_35 fun t25_38 L_40 =>
 W.grd t23_37 false (fun k_43 => k_43 t3 L_40) L_40 fun t26_42 L_44 =>
 W.grd t23_37 false (fun k_46 => k_46 t4 L_44) L_44 fun t27_45 L_47 =>
 W.grd t23_37 false (fun k_49 => W.call Try.prog (.fn 53 []) [t25_38, t26_42, t27_45] L_47 fun v_51 L_52 =>
 k_49 v_51 L_52) L_47 fun t28_48 L_50 =>
 W.grd t23_37 false (fun k_54 => W.un .not t28_48 fun v_56 =>
 k_54 v_56 L_50) L_50 fun t29_53 L_55 =>
 W.pick t23_37 (.bool true) t29_53 fun t30_57 =>
 W.cond t30_57 (
 Q .nils L_55) (
 (object_Blockers_zt8 Q t3 t2 t4 t5_4 t6_6 L_55))
def object_Blockers_w (t0 t1 t2 t3 t4 : AV) (L : SH) (Q : AV → SH → Prop) : Prop :=
 W.box t0 L fun t5_0 L_1 =>
 W.box t1 L_1 fun t6_2 L_3 =>
 W.frz1 t5_0 L_3 fun t5_4 L_5 =>
 W.frz1 t6_2 L_5 fun t6_6 L_7 =>
 W.load true 6 t5_4 L_7 fun t12_8 =>
 W.load true 4 t6_6 L_7 fun t13_9 =>
 W.call Try.prog (.fn 37 []) [t12_8, t13_9] L_7 (object_Blockers_c4 t2 t5_4 t3 t4 Q t6_6)
theorem object_Blockers_e (t0 t1 t2 t3 t4 : AV) (L : SH) (Q : AV → SH → Prop) : W.func Try.prog Fl object_Blockers_t Try.f35 (Try.f35.body.getD .skip) [t0, t1, t2, t3, t4] L Q = object_Blockers_w t0 t1 t2 t3 t4 L Q := by kernel_rfl
theorem object_Blockers_ok (t0 t1 t2 t3 t4 : AV) (L : SH) (Q : AV → SH → Prop) (h : object_Blockers_w t0 t1 t2 t3 t4 L Q) : CallA Try.prog 35 [t0, t1, t2, t3, t4] L Q :=
  func_sound (ht := object_Blockers_t) fit Try.func35 (show Try.f35.body = some (Try.f35.body.getD .skip) by kernel_rfl) (Eq.mpr (object_Blockers_e t0 t1 t2 t3 t4 L Q) h)

def object_Blockers_1_t : Hints := ⟨fun k => none, fun k => [], fun k => [], fun k => []⟩
def object_Blockers_1_w (t0 t1 : AV) (L : SH) (Q : AV → SH → Prop) : Prop :=
 W.faddr 4 t1 fun t5_0 =>
 W.load false 1 t5_0 L fun t6_1 =>
 W.len t6_1 fun t7_2 =>
 W.call Try.prog (.fn 52 []) [t0, t7_2] L fun t8_3 L_4 =>
 W.un .not t8_3 fun t9_5 =>
 Q t9_5 L_4
theorem object_Blockers_1_e (t0 t1 : AV) (L : SH) (Q : AV → SH → Prop) : W.func Try.prog Fl object_Blockers_1_t Try.f62 (Try.f62.body.getD .skip) [t0, t1] L Q = object_Blockers_1_w t0 t1 L Q := by kernel_rfl
theorem object_Blockers_1_ok (t0 t1 : AV) (L : SH) (Q : AV → SH → Prop) (h : object_Blockers_1_w t0 t1 L Q) : CallA Try.prog 62 [t0, t1] L Q :=
  func_sound (ht := object_Blockers_1_t) fit Try.func62 (show Try.f62.body = some (Try.f62.body.getD .skip) by kernel_rfl) (Eq.mpr (object_Blockers_1_e t0 t1 L Q) h)

end Go.Proofs.Ytadjimfkfmojkaa.Am

end
section
namespace Go.Proofs.Ytadjimfkfmojkaa.Am
set_option linter.unusedVariables false
set_option maxRecDepth 100000
def ref08_Fits_t : Hints := ⟨fun k => none, fun k => if k = 2 then [2, 3, 5] else [], fun k => if k = 0 then [2, 3] else [], fun k => if k = 4 then [0, 1, 0, 7, 15, 31, 63, 127, 255, 511, 255, 2047, 4095, 8191, 255, 16639, 49407, 131071, 262143] else []⟩
def ref08_Fits_zt0 (vs_8 : List AV) (L_10 : SH) (Q : AV → SH → Prop) (nx_9 : W.Kn)  : Prop :=
 (true = true) ∧ (
 W.faddr 2 (slotOf [2, 3, 5] vs_8 2) fun t13_15 =>
 W.calm [] ⟨1, (blocksOf t13_15), [], [], false, []⟩ (
 W.load false 1 t13_15 L_10 fun t14_16 =>
 W.note ⟨(blocksOf t13_15), [], [], []⟩ fun r_17 =>
 W.calm [] ⟨3, (slOf t14_16), [], [], false, []⟩ (
 W.idx 2 t14_16 (slotOf [2, 3, 5] vs_8 5) L_10 fun t16_18 =>
 W.note ⟨(slOf t14_16), [], [], []⟩ fun r_19 =>
 W.faddr 1 t16_18 fun t17_20 =>
 W.calm [] ⟨5, (blocksOf t17_20), [], [], false, []⟩ (
 W.load false 1 t17_20 L_10 fun t18_21 =>
 W.note ⟨(blocksOf t17_20), [], [], []⟩ fun r_22 =>
 W.bin Try.prog Fl .lss 3 t18_21 (.int .i64 0) fun t19_23 =>
 W.dgrd t19_23 false (fun k_25 => W.faddr 2 (slotOf [2, 3, 5] vs_8 2) fun v_28 =>
 k_25 v_28 L_10 ⟨[], [], [], []⟩) L_10 fun t21_24 L_27 r_26 =>
 W.dgrd t19_23 false (fun k_30 => W.calm [] ⟨9, (blocksOf t21_24), [], [], false, []⟩ (
 W.load false 1 t21_24 L_27 fun v_33 =>
 W.note ⟨(blocksOf t21_24), [], [], []⟩ fun r_34 =>
 k_30 v_33 L_27 r_34)) L_27 fun t22_29 L_32 r_31 =>
 W.dgrd t19_23 false (fun k_36 => k_36 (slotOf [2, 3, 5] vs_8 5) L_32 ⟨[], [], [], []⟩) L_32 fun t23_35 L_38 r_37 =>
 W.dgrd t19_23 false (fun k_40 => W.calm [] ⟨11, (slOf t22_29), [], [], false, []⟩ (
 W.idx 2 t22_29 t23_35 L_38 fun v_43 =>
 W.note ⟨(slOf t22_29), [], [], []⟩ fun r_44 =>
 k_40 v_43 L_38 r_44)) L_38 fun t24_39 L_42 r_41 =>
 W.dgrd t19_23 false (fun k_46 => W.faddr 1 t24_39 fun v_49 =>
 k_46 v_49 L_42 ⟨[], [], [], []⟩) L_42 fun t25_45 L_48 r_47 =>
 W.dgrd t19_23 false (fun k_51 => W.calm [] ⟨13, (blocksOf t25_45), [], [], false, []⟩ (
 W.load false 1 t25_45 L_48 fun v_54 =>
 W.note ⟨(blocksOf t25_45), [], [], []⟩ fun r_55 =>
 k_51 v_54 L_48 r_55)) L_48 fun t26_50 L_53 r_52 =>
 W.dgrd t19_23 false (fun k_57 => W.faddr 1 (slotOf [2, 3, 5] vs_8 2) fun v_60 =>
 k_57 v_60 L_53 ⟨[], [], [], []⟩) L_53 fun t27_56 L_59 r_58 =>
 W.dgrd t19_23 false (fun k_62 => W.calm [⟨13, r_52.reads, r_52.writes, r_52.made, false, r_52.old⟩, ⟨11, r_41.reads, r_41.writes, r_41.made, false, r_41.old⟩, ⟨9, r_31.reads, r_31.writes, r_31.made, false, r_31.old⟩] ⟨15, (blocksOf t27_56), [], [], false, []⟩ (
 W.load false 1 t27_56 L_59 fun v_65 =>
 W.note ⟨(blocksOf t27_56), [], [], []⟩ fun r_66 =>
 k_62 v_65 L_59 r_66)) L_59 fun t28_61 L_64 r_63 =>
 W.dgrd t19_23 false (fun k_68 => W.len t28_61 fun v_71 =>
 k_68 v_71 L_64 ⟨[], [], [], []⟩) L_64 fun t29_67 L_70 r_69 =>
 W.dgrd t19_23 false (fun k_73 => W.bin Try.prog Fl .geq 3 t26_50 t29_67 fun v_76 =>
 k_73 v_76 L_70 ⟨[], [], [], []⟩) L_70 fun t30_72 L_75 r_74 =>
 W.pick t19_23 (.bool true) t30_72 fun t31_77 =>
 W.cond t31_77 (
 Q (.bool false) L_75) (
 W.bin Try.prog Fl .add 3 (slotOf [2, 3, 5] vs_8 5) (.int .i64 1) fun t12_78 =>
 nx_9 [(slotOf [2, 3, 5] vs_8 2), (slotOf [2, 3, 5] vs_8 3), t12_78] L_75)))))
def ref08_Fits_zt1 (vs_8 : List AV) (L_10 : SH) (Q : AV → SH → Prop)  : Prop :=
 W.faddr 0 (slotOf [2, 3, 5] vs_8 3) fun t32_79 =>
 W.load false 1 t32_79 L_10 fun t33_80 =>
 W.len t33_80 fun t34_81 =>
 W.faddr 1 (slotOf [2, 3, 5] vs_8 2) fun t35_82 =>
 W.load false 1 t35_82 L_10 fun t36_83 =>
 W.len t36_83 fun t37_84 =>
 W.bin Try.prog Fl .eql 3 t34_81 t37_84 fun t38_85 =>
 W.grd t38_85 true (fun k_87 => W.faddr 2 (slotOf [2, 3, 5] vs_8 3) fun v_89 =>
 k_87 v_89 L_10) L_10 fun t40_86 L_88 =>
 W.grd t38_85 true (fun k_91 => W.load false 1 t40_86 L_88 fun v_93 =>
 k_91 v_93 L_88) L_88 fun t41_90 L_92 =>
 W.grd t38_85 true (fun k_95 => W.len t41_90 fun v_97 =>
 k_95 v_97 L_92) L_92 fun t42_94 L_96 =>
 W.grd t38_85 true (fun k_99 => W.faddr 3 (slotOf [2, 3, 5] vs_8 2) fun v_101 =>
 k_99 v_101 L_96) L_96 fun t43_98 L_100 =>
 W.grd t38_85 true (fun k_103 => W.load false 1 t43_98 L_100 fun v_105 =>
 k_103 v_105 L_100) L_100 fun t44_102 L_104 =>
 W.grd t38_85 true (fun k_107 => W.len t44_102 fun v_109 =>
 k_107 v_109 L_104) L_104 fun t45_106 L_108 =>
 W.grd t38_85 true (fun k_111 => W.bin Try.prog Fl .eql 3 t42_94 t45_106 fun v_113 =>
 k_111 v_113 L_108) L_108 fun t46_110 L_112 =>
 W.pick t38_85 t46_110 (.bool false) fun t47_114 =>
 W.grd t47_114 true (fun k_116 => W.faddr 3 (slotOf [2, 3, 5] vs_8 3) fun v_118 =>
 k_116 v_118 L_112) L_112 fun t49_115 L_117 =>
 W.grd t47_114 true (fun k_120 => W.load false 1 t49_115 L_117 fun v_122 =>
 k_120 v_122 L_117) L_117 fun t50_119 L_121 =>
 W.grd t47_114 true (fun k_124 => W.len t50_119 fun v_126 =>
 k_124 v_126 L_121) L_121 fun t51_123 L_125 =>
 W.grd t47_114 true (fun k_128 => W.faddr 4 (slotOf [2, 3, 5] vs_8 2) fun v_130 =>
 k_128 v_130 L_125) L_125 fun t52_127 L_129 =>
 W.grd t47_114 true (fun k_132 => W.load false 1 t52_127 L_129 fun v_134 =>
 k_132 v_134 L_129) L_129 fun t53_131 L_133 =>
 W.grd t47_114 true (fun k_136 => W.len t53_131 fun v_138 =>
 k_136 v_138 L_133) L_133 fun t54_135 L_137 =>
 W.grd t47_114 true (fun k_140 => W.bin Try.prog Fl .eql 3 t51_123 t54_135 fun v_142 =>
 k_140 v_142 L_137) L_137 fun t55_139 L_141 =>
 W.pick t47_114 t55_139 (.bool false) fun t56_143 =>
 Q t56_143 L_141
def ref08_Fits_l0 (Q : AV → SH → Prop) (vs_8 : List AV) (L_10 : SH) (nx_9 : W.Kn) : Prop :=
 W.faddr 2 (slotOf [2, 3, 5] vs_8 2) fun t7_11 =>
 W.load false 1 t7_11 L_10 fun t8_12 =>
 W.len t8_12 fun t9_13 =>
 W.bin Try.prog Fl .lss 3 (slotOf [2, 3, 5] vs_8 5) t9_13 fun t10_14 =>
 W.cond t10_14 (
 (ref08_Fits_zt0 vs_8 L_10 Q nx_9)) (
 (ref08_Fits_zt1 vs_8 L_10 Q))
def ref08_Fits_w (t0 t1 : AV) (L : SH) (Q : AV → SH → Prop) : Prop :=
 W.box t0 L fun t2_0 L_1 =>
 W.box t1 L_1 fun t3_2 L_3 =>
 W.frz1 t2_0 L_3 fun t2_4 L_5 =>
 W.frz1 t3_2 L_5 fun t3_6 L_7 =>
 W.loop (ref08_Fits_l0 Q) [t2_4, t3_6, (.int .i64 0)] L_7
theorem ref08_Fits_e (t0 t1 : AV) (L : SH) (Q : AV → SH → Prop) : W.func Try.prog Fl ref08_Fits_t Try.f38 (Try.f38.body.getD .skip) [t0, t1] L Q = ref08_Fits_w t0 t1 L Q := by kernel_rfl
theorem ref08_Fits_ok (t0 t1 : AV) (L : SH) (Q : AV → SH → Prop) (h : ref08_Fits_w t0 t1 L Q) : CallA Try.prog 38 [t0, t1] L Q :=
  func_sound (ht := ref08_Fits_t) fit Try.func38 (show Try.f38.body = some (Try.f38.body.getD .skip) by kernel_rfl) (Eq.mpr (ref08_Fits_e t0 t1 L Q) h)

end Go.Proofs.Ytadjimfkfmojkaa.Am

end
section
namespace Go.Proofs.Ytadjimfkfmojkaa.Am
set_option linter.unusedVariables false
section
variable {P : Program} {F : TypeId → Option (List TypeId)} {K : AV → Prop} {KL : AV → SH → Prop} {L : SH}
theorem a_pick_t {p : Bool} {x y : AV} (hp : p = true) (h : K x) : W.pick (.bool p) x y K := by subst hp; rw [pick_t]; exact h
theorem a_pick_f {p : Bool} {x y : AV} (hp : p = false) (h : K y) : W.pick (.bool p) x y K := by subst hp; rw [pick_f]; exact h
theorem a_grd_y {p want : Bool} {A : (AV → SH → Prop) → Prop} (hp : p = want) (h : A KL) : W.grd (.bool p) want A L KL := ⟨.inl ⟨by rw [hp], h⟩⟩
theorem a_grd_n {p want : Bool} {A : (AV → SH → Prop) → Prop} (hp : p = !want) (h : KL undefA L) : W.grd (.bool p) want A L KL := ⟨.inr ⟨.inl (by rw [hp]), h⟩⟩
theorem a_grd_u {want : Bool} {A : (AV → SH → Prop) → Prop} (h : KL undefA L) : W.grd undefA want A L KL := ⟨.inr ⟨.inr rfl, h⟩⟩
theorem a_grd_t {p : Bool} {A : (AV → SH → Prop) → Prop} (h1 : p = true → A KL) (h2 : p = false → KL undefA L) : W.grd (.bool p) true A L KL := by rw [grd_t]; exact ⟨h1, h2⟩
theorem a_grd_f {p : Bool} {A : (AV → SH → Prop) → Prop} (h1 : p = false → A KL) (h2 : p = true → KL undefA L) : W.grd (.bool p) false A L KL := by rw [grd_f]; exact ⟨h1, h2⟩
theorem a_dgrd_y {KF : AV → SH → W.Fp → Prop} {p want : Bool} {A : (AV → SH → W.Fp → Prop) → Prop} (hp : p = want) (h : A KF) : W.dgrd (.bool p) want A L KF := ⟨.inl ⟨by rw [hp], h⟩⟩
theorem a_dgrd_n {KF : AV → SH → W.Fp → Prop} {p want : Bool} {A : (AV → SH → W.Fp → Prop) → Prop} (hp : p = !want) (h : KF undefA L ⟨[], [], [], L.names⟩) : W.dgrd (.bool p) want A L KF := ⟨.inr ⟨.inl (by rw [hp]), h⟩⟩
theorem a_dgrd_u {KF : AV → SH → W.Fp → Prop} {want : Bool} {A : (AV → SH → W.Fp → Prop) → Prop} (h : KF undefA L ⟨[], [], [], L.names⟩) : W.dgrd undefA want A L KF := ⟨.inr ⟨.inr rfl, h⟩⟩
theorem a_dgrd_t {KF : AV → SH → W.Fp → Prop} {p : Bool} {A : (AV → SH → W.Fp → Prop) → Prop} (h1 : p = true → A KF) (h2 : p = false → KF undefA L ⟨[], [], [], L.names⟩) : W.dgrd (.bool p) true A L KF := by rw [dgrd_t]; exact ⟨h1, h2⟩
theorem a_dgrd_f {KF : AV → SH → W.Fp → Prop} {p : Bool} {A : (AV → SH → W.Fp → Prop) → Prop} (h1 : p = false → A KF) (h2 : p = true → KF undefA L ⟨[], [], [], L.names⟩) : W.dgrd (.bool p) false A L KF := by rw [dgrd_f]; exact ⟨h1, h2⟩
theorem a_cond_t {p : Bool} {A B : Prop} (hp : p = true) (h : A) : W.cond (.bool p) A B := ⟨.inl ⟨by rw [hp], h⟩⟩
theorem a_cond_f {p : Bool} {A B : Prop} (hp : p = false) (h : B) : W.cond (.bool p) A B := ⟨.inr ⟨by rw [hp], h⟩⟩
theorem a_cond {p : Bool} {A B : Prop} (h1 : p = true → A) (h2 : p = false → B) : W.cond (.bool p) A B := by rw [cond_b]; exact ⟨h1, h2⟩
theorem a_lss {t : TypeId} {k : IntKind} {a b : Int} (h : K (.bool (decide (a < b)))) : W.bin P F .lss t (.int k a) (.int k b) K := by rw [lss_i]; exact h
theorem a_leq {t : TypeId} {k : IntKind} {a b : Int} (h : K (.bool (decide (a ≤ b)))) : W.bin P F .leq t (.int k a) (.int k b) K := by rw [leq_i]; exact h
theorem a_gtr {t : TypeId} {k : IntKind} {a b : Int} (h : K (.bool (decide (b < a)))) : W.bin P F .gtr t (.int k a) (.int k b) K := by rw [gtr_i]; exact h
theorem a_geq {t : TypeId} {k : IntKind} {a b : Int} (h : K (.bool (decide (b ≤ a)))) : W.bin P F .geq t (.int k a) (.int k b) K := by rw [geq_i]; exact h
theorem a_eql {t : TypeId} {k : IntKind} {a b : Int} (h : K (.bool (decide (a = b)))) : W.bin P F .eql t (.int k a) (.int k b) K := by rw [eql_i]; exact h
theorem a_neq {t : TypeId} {k : IntKind} {a b : Int} (h : K (.bool (decide (a ≠ b)))) : W.bin P F .neq t (.int k a) (.int k b) K := by rw [neq_i]; exact h
theorem a_add {t : TypeId} {k : IntKind} {a b : Int} (h : K (.int k (k.wrap (a + b)))) : W.bin P F .add t (.int k a) (.int k b) K := by rw [add_i]; exact h
theorem a_sub {t : TypeId} {k : IntKind} {a b : Int} (h : K (.int k (k.wrap (a - b)))) : W.bin P F .sub t (.int k a) (.int k b) K := by rw [sub_i]; exact h
theorem a_mul {t : TypeId} {k : IntKind} {a b : Int} (h : K (.int k (k.wrap (a * b)))) : W.bin P F .mul t (.int k a) (.int k b) K := by rw [mul_i]; exact h
theorem a_rem {t : TypeId} {k : IntKind} {a b : Int} (hb : b ≠ 0) (h : K (.int k (a.tmod b))) : W.bin P F .rem t (.int k a) (.int k b) K := by rw [rem_i]; exact ⟨hb, h⟩
theorem a_eqs {t : TypeId} {a b : List UInt8} (h : K (.bool (decide (a = b)))) : W.bin P F .eql t (.str a) (.str b) K := by rw [eql_s]; exact h
theorem a_nes {t : TypeId} {a b : List UInt8} (h : K (.bool (decide (a ≠ b)))) : W.bin P F .neq t (.str a) (.str b) K := by rw [neq_s]; exact h
theorem a_not {b : Bool} (h : K (.bool !b)) : W.un .not (.bool b) K := by rw [un_not]; exact h
theorem a_neg {k : IntKind} {n : Int} (h : K (.int k (k.wrap (0 - n)))) : W.un .neg (.int k n) K := by rw [un_neg]; exact h
theorem a_conv {k k' : IntKind} {n : Int} (h : K (.int k (k.wrap n))) : W.conv k (.int k' n) K := by rw [conv_i]; exact h
theorem a_convS {s : List UInt8} (h : K (.str s)) : W.convS (.str s) K := by rw [convS_s]; exact h
theorem a_faddr_p {off b i o : Nat} (h : K (.ptr b i (o + off))) : W.faddr off (.ptr b i o) K := ⟨h⟩
theorem a_faddr_q {off : Nat} {rows : List (List AV)} {i o : Nat} (h : K (.pptr rows i (o + off))) : W.faddr off (.pptr rows i o) K := ⟨h⟩
theorem a_fld {ag : Bool} {n off : Nat} {cs : List AV} {v : AV} (h1 : W0.rowLd ag n cs off = some v) (h : K v) : W.fld ag n off (.agg cs) K := ⟨cs, v, rfl, h1, h⟩
theorem a_load_q {n : Nat} {rows : List (List AV)} {i off : Nat} {r : List AV} {v : AV} (h1 : rows[i]? = some r) (h2 : r[off]? = some v) (h : K v) : W.load false n (.pptr rows i off) L K := ⟨r, v, h1, h2, h⟩
theorem a_load_p {n b i off : Nat} {x : Blk} {r : List AV} {v : AV} (hm : (b, x) ∈ L) (h1 : x.rows[i]? = some r) (h2 : r[off]? = some v) (h : K v) : W.load false n (.ptr b i off) L K := ⟨x, r, v, hm, h1, h2, h⟩
/-- a whole row -/
theorem a_row_q {n : Nat} {rows : List (List AV)} {i : Nat} {r : List AV} (h1 : rows[i]? = some r) (h2 : r.length = n) (h : K (.agg r)) : W.load true n (.pptr rows i 0) L K :=
  ⟨r, .agg r, h1, by simp [W0.rowLd, ← h2], h⟩
theorem a_row_p {n b i : Nat} {x : Blk} {r : List AV} (hm : (b, x) ∈ L) (h1 : x.rows[i]? = some r) (h2 : r.length = n) (h : K (.agg r)) : W.load true n (.ptr b i 0) L K :=
  ⟨x, r, .agg r, hm, h1, by simp [W0.rowLd, ← h2], h⟩
/-- a box is written whole -/
theorem a_store_box {KS : SH → Prop} {n b : Nat} {v : AV} {m : Nat} {r cs : List AV} {L' : SH} (hu : Upd b ⟨m, [r]⟩ ⟨m, [cs]⟩ L L') (h2 : v.cells? = some cs) (h3 : cs.length = n) (h4 : cs.all AV.one = true) (h5 : r.length = n) (h : KS L') : W.store n (.ptr b 0 0) v L KS :=
  ⟨⟨m, [r]⟩, r, cs, L', rfl, h2, h3, h4, by omega, by
    have : rowStore r 0 cs = cs := by
      unfold rowStore
      rw [List.take_zero, List.nil_append, List.drop_of_length_le (by omega), List.append_nil]
    rw [this]; exact hu, h⟩
theorem rowStore_one (r : List AV) (off : Nat) (v : AV) (h : off < r.length) : rowStore r off [v] = r.set off v := by
  unfold rowStore
  rw [List.set_eq_take_append_cons_drop, if_pos h]
  simp
/-- one cell is written -/
theorem a_store_one {KS : SH → Prop} {b i off : Nat} {v : AV} {x x' : Blk} {r : List AV} {L' : SH} (hu : Upd b x x' L L') (h1 : x.rows[i]? = some r) (h2 : v.cells? = some [v]) (h4 : v.one = true) (h5 : off < r.length) (h6 : x' = ⟨x.size, x.rows.set i (r.set off v)⟩) (h : KS L') : W.store 1 (.ptr b i off) v L KS :=
  ⟨x, r, [v], L', h1, h2, rfl, by simp [h4], by omega, by rw [rowStore_one r off v h5, ← h6]; exact hu, h⟩
/-- a row is written whole -/
theorem a_store_row {KS : SH → Prop} {n b i : Nat} {v : AV} {x x' : Blk} {r cs : List AV} {L' : SH} (hu : Upd b x x' L L') (h1 : x.rows[i]? = some r) (h2 : v.cells? = some cs) (h3 : cs.length = n) (h4 : cs.all AV.one = true) (h5 : r.length = n) (h6 : x' = ⟨x.size, x.rows.set i cs⟩) (h : KS L') : W.store n (.ptr b i 0) v L KS :=
  ⟨x, r, cs, L', h1, h2, h3, h4, by omega, by
    have : rowStore r 0 cs = cs := by
      unfold rowStore
      rw [List.take_zero, List.nil_append, List.drop_of_length_le (by omega), List.append_nil]
    rw [this, ← h6]; exact hu, h⟩
theorem a_idx_n {n : Nat} {rows : List (List AV)} {k : IntKind} {j : Nat} {r : List AV} (h1 : rows[j]? = some r) (h2 : r.length = n) (h : K (.pptr rows j 0)) : W.idx n (.lst rows) (.int k (j : Int)) L K :=
  ⟨k, j, r, rfl, Int.natCast_nonneg _, by simpa using h1, h2, by simpa using h⟩
theorem a_idx_l {n : Nat} {rows : List (List AV)} {k : IntKind} {i : Int} {r : List AV} (h0 : 0 ≤ i) (h1 : rows[i.toNat]? = some r) (h2 : r.length = n) (h : K (.pptr rows i.toNat 0)) : W.idx n (.lst rows) (.int k i) L K := ⟨k, i, r, rfl, h0, h1, h2, h⟩
theorem a_idx_s {n b j m : Nat} {k : IntKind} {i : Int} {y : Blk} (h0 : 0 ≤ i) (h1 : i.toNat < m) (hm : (b, y) ∈ L) (h2 : y.size = n) (h : K (.ptr b (j + i.toNat) 0)) : W.idx n (.sl b j m) (.int k i) L K := ⟨k, i, y, rfl, h0, h1, hm, h2, h⟩
theorem a_idx_sn {n b m : Nat} {k : IntKind} {i : Nat} {y : Blk} (h1 : i < m) (hm : (b, y) ∈ L) (h2 : y.size = n) (h : K (.ptr b i 0)) : W.idx n (.sl b 0 m) (.int k (i : Int)) L K := ⟨k, i, y, rfl, Int.natCast_nonneg _, by simpa using h1, hm, h2, by simpa using h⟩
theorem a_ext {i : Nat} {vs : List AV} {v : AV} (h1 : vs[i]? = some v) (h : K v) : W.ext i (.tup vs) K := ⟨vs, v, rfl, h1, h⟩
theorem a_nil_p {b i off : Nat} (h : K (.ptr b i off)) : W.nilchk (.ptr b i off) K := ⟨h⟩
theorem a_nil_q {rows : List (List AV)} {i off : Nat} (h : K (.pptr rows i off)) : W.nilchk (.pptr rows i off) K := ⟨h⟩
theorem a_nil_f {f : FuncId} {cs : List AV} (h : K (.fn f cs)) : W.nilchk (.fn f cs) K := ⟨h⟩
theorem a_build {z : List AV} {ps : List (Nat × Nat × AV)} {cs : List AV} (h1 : W0.fillR z ps = some cs) (h : K (.agg cs)) : W.build z ps K := ⟨cs, h1, h⟩
theorem a_alloc {cs : List AV} (h : ∀ b, b ∉ L.names → KL (.ptr b 0 0) ((b, ⟨cs.length, [cs]⟩) :: L)) : W.alloc cs L KL := ⟨h⟩
theorem a_box {x : AV} {cs : List AV} (h1 : x.cells? = some cs) (h2 : cs.all AV.one = true) (h : ∀ b, b ∉ L.names → KL (.ptr b 0 0) ((b, ⟨cs.length, [cs]⟩) :: L)) : W.box x L KL := ⟨cs, h1, h2, h⟩
theorem a_bslice {n : Nat} {z : List AV} {len : Nat} {ps : List (Nat × AV)} {rows : List (List AV)} (h1 : len * n ≤ 2 ^ 24) (h2 : fillRows n (List.replicate len z) ps = some rows) (h : ∀ b, b ∉ L.names → KL (.sl b 0 len) ((b, ⟨n, rows⟩) :: L)) : W.bslice n z len ps L KL := ⟨h1, rows, h2, h⟩
theorem a_mslice {n by_ : Nat} {z : List AV} {k k' : IntKind} {i j : Nat} (h1 : i ≤ j) (h2 : j ≤ 2 ^ 62) (h3 : j * by_ ≤ 2 ^ 48) (h : ∀ b, b ∉ L.names → KL (.sl b 0 i) ((b, ⟨n, List.replicate i z⟩) :: L)) : W.mslice n by_ z (.int k (i : Int)) (.int k' (j : Int)) L KL := ⟨k, k', i, j, rfl, rfl, h1, h2, h3, h⟩
theorem a_len_l {rows : List (List AV)} (h : K (.int .i64 (rows.length : Int))) : W.len (.lst rows) K := ⟨_, rfl, h⟩
theorem a_len_m {α : Type} {f : α → List AV} {l : List α} (h : K (.int .i64 (l.length : Int))) : W.len (.lst (l.map f)) K := ⟨_, rfl, by rw [List.length_map]; exact h⟩
theorem a_len_s {b i n : Nat} (h : K (.int .i64 (n : Int))) : W.len (.sl b i n) K := ⟨_, rfl, h⟩
theorem a_len_n (h : K (.int .i64 (0 : Nat))) : W.len .nils K := ⟨_, rfl, h⟩
theorem a_lenS {s : List UInt8} (h : K (.int .i64 (s.length : Int))) : W.lenS (.str s) K := ⟨_, rfl, h⟩
theorem a_frz_p {b i off : Nat} {x : Blk} {L' : SH} (h1 : Del b x L L') (h2 : 0 < x.size) (h3 : 0 < x.rows.length) (h : KL (.pptr x.rows i off) L') : W.frz1 (.ptr b i off) L KL := ⟨x, L', h1, h2, h3, h⟩
theorem a_note {KF : W.Fp → Prop} {r : W.Fp} (h : KF r) : W.note r KF := by rw [note_eq]; exact h
theorem a_calm {us : List W.WR} {y : W.WR} {A : Prop} (h1 : ∀ x ∈ us, W.free x y) (h : A) : W.calm us y A := ⟨h1, h⟩
theorem a_tt {A : Prop} (h : A) : (true = true) ∧ A := ⟨rfl, h⟩
theorem a_join {J : W.Kn} {B : W.Kn → Prop} (h : B J) : W.join J B := ⟨h⟩
theorem a_app_n {n by_ : Nat} {x : AV} {m : List (List AV)} (h1 : W0.rowsR L n x m) (h2 : 2 * m.length * by_ ≤ 2 ^ 48) (h3 : 2 * m.length ≤ 2 ^ 62) (h4 : (m.all fun r => r.all AV.one) = true) (h0 : m.length ≠ 0)
    (h : ∀ b, b ∉ L.names → KL (.sl b 0 m.length) ((b, ⟨n, m⟩) :: L)) : W.append n by_ .nils x L KL :=
  ⟨[], m, rfl, h1, by simpa using h2, by simpa using h3, h4, fun e => absurd e h0, fun _ => h⟩
theorem a_app_s {n by_ b' i k : Nat} {x : AV} {y : Blk} {l m : List (List AV)} {L' : SH} (hm : (b', y) ∈ L) (hs : y.size = n) (hl : i + k ≤ y.rows.length) (he : (y.rows.drop i).take k = l) (h1 : W0.rowsR L n x m)
    (h2 : 2 * (l.length + m.length) * by_ ≤ 2 ^ 48) (h3 : 2 * (l.length + m.length) ≤ 2 ^ 62) (h4 : (m.all fun r => r.all AV.one) = true) (hd : Del b' y L L')
    (h : ∀ b, b ∉ L.names → KL (.sl b 0 (l.length + m.length)) ((b, ⟨n, l ++ m⟩) :: L')) : W.append n by_ (.sl b' i k) x L KL :=
  ⟨l, m, ⟨y, hm, hs, hl, he.symm⟩, h1, h2, h3, h4, y, L', hd, h⟩
theorem a_app_e {n by_ : Nat} {x : AV} {m : List (List AV)} (h1 : W0.rowsR L n x m) (h2 : 2 * m.length * by_ ≤ 2 ^ 48) (h3 : 2 * m.length ≤ 2 ^ 62) (h4 : (m.all fun r => r.all AV.one) = true) (h0 : m.length ≠ 0)
    (h : ∀ b, b ∉ L.names → KL (.sl b 0 m.length) ((b, ⟨n, m⟩) :: L)) : W.append n by_ .emp x L KL :=
  ⟨[], m, rfl, h1, by simpa using h2, by simpa using h3, h4, fun e => absurd e h0, fun _ => h⟩
theorem a_len_e (h : K (.int .i64 (0 : Nat))) : W.len .emp K := ⟨_, rfl, h⟩
theorem a_clear_s {KS : SH → Prop} {n : Nat} {z : List AV} {b i k : Nat} {y y' : Blk} {L' : SH} (hu : Upd b y y' L L') (h1 : y.size = n) (h2 : i + k ≤ y.rows.length) (h3 : y' = ⟨y.size, y.rows.take i ++ List.replicate k z ++ y.rows.drop (i + k)⟩) (h : KS L') : W.clear n z (.sl b i k) L KS :=
  ⟨y, L', h1, h2, h3 ▸ hu, h⟩
theorem a_slice_s {n b i m : Nat} {lo hi : Option AV} {l h : Nat} {y : Blk} (h1 : boundA lo 0 = some l) (h2 : boundA hi m = some h) (hl : l ≤ h) (hh : h ≤ m) (hm : (b, y) ∈ L) (hs : y.size = n) (hk : K (.sl b (i + l) (h - l))) : W.slice n (.sl b i m) lo hi none L K :=
  ⟨m, l, h, m, rfl, h1, h2, rfl, hl, hh, Nat.le_refl _, ⟨y, hm, hs⟩, hk⟩
theorem rowsR_m {α : Type} {f : α → List AV} {l : List α} {n : Nat} (h : ∀ x, (f x).length = n) : W0.rowsR L n (.lst (l.map f)) (l.map f) := ⟨rfl, fun r hr => by
  cases l with
  | nil => cases hr
  | cons x l => simp at hr; rw [← hr]; exact h x⟩
theorem rowsR_s {n b k : Nat} {x : Blk} (hm : (b, x) ∈ L) (hs : x.size = n) (hk : k = x.rows.length) : W0.rowsR L n (.sl b 0 k) x.rows := ⟨x, hm, hs, by omega, by simp [hk]⟩
end
end Go.Proofs.Ytadjimfkfmojkaa.Am

end
section
namespace Go.Proofs.Ytadjimfkfmojkaa.Am
set_option linter.unusedVariables false
abbrev Str := List UInt8
structure CellD where
  name : Str
  index : Int
  size : Int
  volatile : Bool
  init : Int
  deriving Inhabited, DecidableEq
structure LockI where
  name : Str
  rw : Bool
  deriving Inhabited, DecidableEq
structure CondI where
  name : Str
  mutex : Int
  deriving Inhabited, DecidableEq
structure SiteD where
  thread : Int
  stmt : Int
  line : Int
  deriving Inhabited, DecidableEq
structure WorldD where
  cells : List CellD
  locks : List LockI
  conds : List CondI
  futures : List Str
  threads : List Str
  sites : List SiteD
  deriving Inhabited, DecidableEq
structure LockD where
  owner : Int
  readers : List Int
  deriving Inhabited, DecidableEq
structure ThrD where
  status : Int
  cond : Int
  atomic : Bool
  deriving Inhabited, DecidableEq
structure SyncD where
  locks : List LockD
  tx : Int
  done : List Bool
  threads : List ThrD
  deriving Inhabited, DecidableEq
def CellD.enc (c : CellD) : List AV := [.str c.name, .int .i64 c.index, .int .i64 c.size, .bool c.volatile, .int .i64 c.init]
def LockI.enc (c : LockI) : List AV := [.str c.name, .bool c.rw]
def CondI.enc (c : CondI) : List AV := [.str c.name, .int .i64 c.mutex]
def SiteD.enc (c : SiteD) : List AV := [.int .i64 c.thread, .int .i64 c.stmt, .int .i64 c.line]
def strE (s : Str) : List AV := [.str s]
def intE (n : Int) : List AV := [.int .i64 n]
def boolE (b : Bool) : List AV := [.bool b]
def LockD.enc (l : LockD) : List AV := [.int .i64 l.owner, .lst (l.readers.map intE)]
def ThrD.enc (t : ThrD) : List AV := [.int .i64 t.status, .int .i64 t.cond, .bool t.atomic]
def WorldD.enc (w : WorldD) : List AV := [.lst (w.cells.map CellD.enc), .lst (w.locks.map LockI.enc), .lst (w.conds.map CondI.enc), .lst (w.futures.map strE), .lst (w.threads.map strE), .lst (w.sites.map SiteD.enc)]
def SyncD.enc (s : SyncD) : List AV := [.lst (s.locks.map LockD.enc), .int .i64 s.tx, .lst (s.done.map boolE), .lst (s.threads.map ThrD.enc)]
theorem map_at {α β : Type} {f : α → β} {l : List α} {i : Nat} (h : i < l.length) : (l.map f)[i]? = some (f l[i]) := by simp [h]
theorem i64_succ {i n : Nat} (h : i < n) (hn : n < 2 ^ 62) : IntKind.i64.wrap ((i : Int) + 1) = ((i + 1 : Nat) : Int) := by rw [IntWalk.i64_in _ (by omega)]; omega
theorem dec_lt {i n : Nat} (h : i < n) : decide ((i : Int) < (n : Int)) = true := by simpa using h
theorem dec_ge {i n : Nat} (h : n ≤ i) : decide ((i : Int) < (n : Int)) = false := by simpa using h
theorem fzs_eq {vs vs2 : List AV} {L L2 : SH} (hv : vs = vs2) (hL : L = L2) : FzS vs L vs2 L2 := by subst hv; subst hL; exact .refl _ _
/-- a loop that counts -/
theorem for_by (n : Nat) (S : Nat → List AV × SH) (G : Nat → Prop) {B : List AV → SH → W.Kn → Prop} {vs : List AV} {L : SH} (h0 : G 0) (hv : vs = (S 0).1) (hL : L = (S 0).2)
    (h : ∀ i, i ≤ n → G i → B (S i).1 (S i).2 fun vs' L' => ∃ j, i < j ∧ j ≤ n ∧ G j ∧ FzS vs' L' (S j).1 (S j).2) : W.loop B vs L := by
  refine ⟨fun k vs L => ∃ i, i ≤ n ∧ G i ∧ k = n - i ∧ vs = (S i).1 ∧ L = (S i).2, ⟨n, _, _, .refl _ _, 0, Nat.zero_le _, h0, rfl, hv, hL⟩, ?_⟩
  rintro k vs L ⟨i, hi, hG, rfl, rfl, rfl⟩
  have e : (fun vs' L' => ∃ m vs2 L2, m < n - i ∧ FzS vs' L' vs2 L2 ∧ ∃ j, j ≤ n ∧ G j ∧ m = n - j ∧ vs2 = (S j).1 ∧ L2 = (S j).2) = fun vs' L' => ∃ j, i < j ∧ j ≤ n ∧ G j ∧ FzS vs' L' (S j).1 (S j).2 := by
    funext vs' L'
    apply propext
    constructor
    · rintro ⟨m, vs2, L2, h1, h2, j, h3, h4, rfl, rfl, rfl⟩; exact ⟨j, by omega, h3, h4, h2⟩
    · rintro ⟨j, h1, h2, h3, h4⟩; exact ⟨n - j, _, _, by omega, h4, j, h2, h3, rfl, rfl, rfl⟩
  rw [e]
  exact h i hi hG
def inB (i : Int) (n : Nat) : Bool := decide (0 ≤ i) && decide (i < (n : Int))
theorem inB_iff {i : Int} {n : Nat} : inB i n = true ↔ 0 ≤ i ∧ i < n := by simp [inB]
theorem nn_inB {i : Int} {n : Nat} (h : inB i n = true) : 0 ≤ i := (inB_iff.1 h).1
theorem at_inB {α : Type} [Inhabited α] {f : α → List AV} {l : List α} {i : Int} (h : inB i l.length = true) : (l.map f)[i.toNat]? = some (f (l.getD i.toNat default)) := by
  obtain ⟨h1, h2⟩ := inB_iff.1 h
  have : i.toNat < l.length := by omega
  simp [this]
end Go.Proofs.Ytadjimfkfmojkaa.Am

end
section
namespace Go.Proofs.Ytadjimfkfmojkaa.Am
set_option maxRecDepth 100000
set_option linter.unusedSimpArgs false
set_option linter.unusedVariables false
/-- a slice that reads as a list -/
theorem Fz.slm {α : Type} {K : SH} {b n size : Nat} {l : List α} {f g : α → List AV} {rows : List (List AV)} (hm : (b, ⟨size, rows⟩) ∈ K) (hr : rows = l.map f) (hs : 0 < size) (hn : n = l.length) (hl : ∀ y ∈ l, (f y).length = (g y).length)
    (hc : ∀ y ∈ l, ∀ (q : Nat) (a a2 : AV), (f y)[q]? = some a → (g y)[q]? = some a2 → Fz K a a2) : Fz K (.sl b 0 n) (.lst (l.map g)) := by
  subst hr
  subst hn
  cases l with
  | nil => exact .sl0 b 0
  | cons x l =>
    have get : ∀ (j : Nat) (r r2 : List AV), ((x :: l).map f)[0 + j]? = some r → ((x :: l).map g)[j]? = some r2 → ∃ y ∈ x :: l, r = f y ∧ r2 = g y := fun j r r2 h1 h2 => by
      rw [Nat.zero_add, List.getElem?_map] at h1
      rw [List.getElem?_map] at h2
      cases hj : (x :: l)[j]? with
      | none => rw [hj] at h1; cases h1
      | some y =>
        rw [hj] at h1 h2
        cases h1; cases h2
        exact ⟨y, List.mem_of_getElem? hj, rfl, rfl⟩
    refine .sl b 0 _ ⟨size, (x :: l).map f⟩ _ hm hs (by simp) (by simp) (by simp) (fun j r r2 h1 h2 => ?_) (fun j r r2 q a a2 h1 h2 h3 h4 => ?_)
    · obtain ⟨y, hy, rfl, rfl⟩ := get j r r2 h1 h2; exact hl y hy
    · obtain ⟨y, hy, rfl, rfl⟩ := get j r r2 h1 h2; exact hc y hy q a a2 h3 h4
theorem Fz.sls {α : Type} {K : SH} {b n size : Nat} {l : List α} {f : α → List AV} {rows : List (List AV)} (hm : (b, ⟨size, rows⟩) ∈ K) (hr : rows = l.map f) (hs : 0 < size) (hn : n = l.length) : Fz K (.sl b 0 n) (.lst (l.map f)) :=
  Fz.slm hm hr hs hn (fun _ _ => rfl) fun y _ q a a2 h1 h2 => by rw [h1] at h2; cases h2; exact .refl _
/-- cell by cell -/
inductive FzL (K : SH) : List AV → List AV → Prop where
  | nil : FzL K [] []
  | cons {a b : AV} {l m : List AV} : Fz K a b → FzL K l m → FzL K (a :: l) (b :: m)
theorem FzL.at_ {K : SH} {l m : List AV} (h : FzL K l m) : l.length = m.length ∧ ∀ (i : Nat) (a b : AV), l[i]? = some a → m[i]? = some b → Fz K a b := by
  induction h with
  | nil => exact ⟨rfl, fun i a b h => by simp at h⟩
  | cons h1 h2 ih =>
    refine ⟨by simp [ih.1], fun i a b ha hb => ?_⟩
    match i with
    | 0 => cases ha; cases hb; exact h1
    | i + 1 => exact ih.2 i a b (by simpa using ha) (by simpa using hb)
theorem Fz.aggs {K : SH} {l m : List AV} (h : FzL K l m) : Fz K (.agg l) (.agg m) := .agg l m h.at_.1 h.at_.2
theorem Fz.tups {K : SH} {l m : List AV} (h : FzL K l m) : Fz K (.tup l) (.tup m) := .tup l m h.at_.1 h.at_.2
theorem FzS.all {L : SH} {v v2 : AV} (h : Fz L v v2) : FzS [v] L [v2] [] := .drop (K := L) (R := []) (by simp) rfl fun i a a2 h1 h2 => by
  match i with
  | 0 => cases h1; cases h2; exact h
  | i + 1 => simp at h1
theorem rep_set {α : Type} (i n : Nat) (A B : α) (h : i < n) : (List.replicate i A ++ List.replicate (n - i) B).set i A = List.replicate (i + 1) A ++ List.replicate (n - (i + 1)) B := by
  rw [List.set_append_right _ _ (by simp), List.length_replicate, Nat.sub_self]
  obtain ⟨k, hk⟩ : ∃ k, n - i = k + 1 := ⟨n - i - 1, by omega⟩
  rw [hk, List.replicate_succ, List.set_cons_zero, show n - (i + 1) = k by omega, List.replicate_succ', List.append_assoc, List.singleton_append]
theorem rep_get {α : Type} (i n : Nat) (A B : α) (h : i < n) : (List.replicate i A ++ List.replicate (n - i) B)[i]? = some B := by
  rw [List.getElem?_append_right (by simp), List.length_replicate, Nat.sub_self]
  obtain ⟨k, hk⟩ : ∃ k, n - i = k + 1 := ⟨n - i - 1, by omega⟩
  rw [hk, List.replicate_succ]; rfl
/-- a slice that has no room as long as nothing was appended to it -/
def slotV : Option Nat → Nat → AV
  | none, _ => .emp
  | some b, n => .sl b 0 n
def slotB (o : Option Nat) (size : Nat) (rows : List (List AV)) : SH := match o with
  | none => []
  | some b => [(b, ⟨size, rows⟩)]
theorem Del.app {b : Nat} {x : Blk} {L L' : SH} (h : Del b x L L') : ∀ M : SH, Del b x (M ++ L) (M ++ L')
  | [] => h
  | p :: M => .there p (h.app M)
/-- a list of blocks, without some -/
theorem FzS.forget {vs : List AV} {L K R : SH} (hL : L.Perm (K ++ R)) : FzS vs L vs R := .drop hL rfl fun i a a2 h1 h2 => by rw [h1] at h2; cases h2; exact .refl _
/-- the cells of a box are read anew -/
theorem FzS.box {vs : List AV} {L K R : SH} {b n : Nat} {r r' : List AV} (hL : L.Perm (K ++ (b, ⟨n, [r]⟩) :: R)) (hr : FzL K r r') : FzS vs L vs ((b, ⟨n, [r']⟩) :: R) := by
  refine ⟨K, (b, ⟨n, [r]⟩) :: R, hL, ⟨rfl, fun i a a2 h1 h2 => by rw [h1] at h2; cases h2; exact .refl _⟩, rfl, fun i p q h1 h2 => ?_⟩
  match i with
  | 0 =>
    cases h1; cases h2
    refine ⟨rfl, rfl, rfl, fun j s s2 g1 g2 => ?_⟩
    match j with
    | 0 => cases g1; cases g2; exact ⟨hr.at_.1, hr.at_.2⟩
    | j + 1 => simp at g1
  | i + 1 =>
    simp only [List.getElem?_cons_succ] at h1 h2
    rw [h1] at h2; cases h2
    exact ⟨rfl, rfl, rfl, fun j r r2 h3 h4 => by rw [h3] at h4; cases h4; exact ⟨rfl, fun k a a2 h5 h6 => by rw [h5] at h6; cases h6; exact .refl _⟩⟩
theorem Fz.slot {α : Type} {o : Option Nat} {size : Nat} {l : List α} {f g : α → List AV} {rows : List (List AV)} (hr : rows = l.map f) (h0 : o = none → rows = []) (hs : 0 < size) (hl : ∀ y ∈ l, (f y).length = (g y).length)
    (hc : ∀ y ∈ l, ∀ (q : Nat) (a a2 : AV), (f y)[q]? = some a → (g y)[q]? = some a2 → Fz (slotB o size rows) a a2) : Fz (slotB o size rows) (slotV o l.length) (.lst (l.map g)) := by
  cases o with
  | none =>
    have := h0 rfl
    subst hr
    have : l = [] := by simpa using this
    subst this
    exact .emp
  | some b => exact Fz.slm (List.mem_singleton.2 rfl) hr hs rfl hl hc
/-- a loop, over states that are described by a number and something more -/
theorem loop_ex {β : Type} (n : Nat) (S : Nat → β → List AV × SH) (G : Nat → β → Prop) {B : List AV → SH → W.Kn → Prop} {vs : List AV} {L : SH} (b0 : β) (h0 : G 0 b0) (hz : FzS vs L (S 0 b0).1 (S 0 b0).2)
    (h : ∀ i o, i ≤ n → G i o → B (S i o).1 (S i o).2 fun vs' L' => ∃ j o', i < j ∧ j ≤ n ∧ G j o' ∧ FzS vs' L' (S j o').1 (S j o').2) : W.loop B vs L := by
  refine ⟨fun k vs L => ∃ i o, i ≤ n ∧ G i o ∧ k = n - i ∧ vs = (S i o).1 ∧ L = (S i o).2, ⟨n, _, _, hz, 0, b0, Nat.zero_le _, h0, rfl, rfl, rfl⟩, ?_⟩
  rintro k vs L ⟨i, o, hi, hG, rfl, rfl, rfl⟩
  have e : (fun vs' L' => ∃ m vs2 L2, m < n - i ∧ FzS vs' L' vs2 L2 ∧ ∃ j o', j ≤ n ∧ G j o' ∧ m = n - j ∧ vs2 = (S j o').1 ∧ L2 = (S j o').2) = fun vs' L' => ∃ j o', i < j ∧ j ≤ n ∧ G j o' ∧ FzS vs' L' (S j o').1 (S j o').2 := by
    funext vs' L'
    apply propext
    constructor
    · rintro ⟨m, vs2, L2, h1, h2, j, o', h3, h4, rfl, rfl, rfl⟩; exact ⟨j, o', by omega, h3, h4, h2⟩
    · rintro ⟨j, o', h1, h2, h3, h4⟩; exact ⟨n - j, _, _, by omega, h4, j, o', h2, h3, rfl, rfl, rfl⟩
  rw [e]
  exact h i o hi hG
end Go.Proofs.Ytadjimfkfmojkaa.Am

end
section
namespace Go.Proofs.Ytadjimfkfmojkaa.Am
set_option linter.unusedVariables false
structure W.callM (P : Program) (g : FuncId) (args : List AV) (L : SH) (KL : AV → SH → Prop) : Prop where
  h : CallA P g args L KL
structure W.dcallM (P : Program) (us : List W.WR) (i : Nat) (g : FuncId) (args : List AV) (L : SH) (KN : AV → SH → List Nat → Prop) : Prop where
  h : ∃ Kc R : SH, L.Perm (Kc ++ R) ∧ (∀ x ∈ us, W.free x ⟨i, [], Kc.names, [], true, []⟩) ∧ CallA P g args Kc fun v Kc' => KN v (Kc' ++ R) Kc.names
section
variable {P : Program} {g : FuncId} {args : List AV} {L : SH} {KL : AV → SH → Prop} {KN : AV → SH → List Nat → Prop} {us : List W.WR} {i : Nat} {v : AV}
theorem a_mark (h : W.callM P g args L KL) : W.call P (.fn g []) args L KL := by rw [call_eq, List.append_nil]; exact h.h
theorem m_call (h1 : PureA P g args v) (h : KL v L) : W.callM P g args L KL := ⟨h1.call h⟩
theorem m_callF {K R : SH} {R1 : AV → SH → Prop} (h : CallA P g args K R1) (hL : L.Perm (K ++ R)) (hq : ∀ v K', R1 v K' → KL v (K' ++ R)) : W.callM P g args L KL := ⟨h.frame hL hq⟩
theorem m_callD {b : Nat} {x : Blk} {L' : SH} {R1 : AV → SH → Prop} (h : CallA P g args [(b, x)] R1) (hd : Del b x L L') (hq : ∀ v K', R1 v K' → KL v (K' ++ L')) : W.callM P g args L KL := ⟨h.frame hd.perm hq⟩
theorem m_dcallD {b : Nat} {x : Blk} {L' : SH} {R1 : AV → SH → Prop} (h : CallA P g args [(b, x)] R1) (hd : Del b x L L') (hf : ∀ y ∈ us, W.free y ⟨i, [], [b], [], true, []⟩) (hq : ∀ v K', R1 v K' → KN v (K' ++ L') [b]) : W.dcallM P us i g args L KN :=
  ⟨[(b, x)], L', hd.perm, hf, h.mono hq⟩
theorem CallA.nd {f : FuncId} {Q : AV → SH → Prop} (hb : ∃ fn c, P.funcs[f]? = some fn ∧ fn.body = some c) (h : L.names.Nodup → CallA P f args L Q) : CallA P f args L Q := ⟨hb, fun H hB hs => (h hs.nd).2 H hB hs⟩
/-- nothing but the arguments is read anew -/
theorem FzS.vals {vs vs2 : List AV} (h : FzL [] vs vs2) : FzS vs L vs2 L := .drop (K := []) (.refl _) h.at_.1 h.at_.2
theorem h_fn (k : FuncId) (h : W.callM P k args L KL) : W.callM P k args L KL := h
theorem h_dfn (k : FuncId) (h : W.dcallM P us i k args L KN) : W.dcallM P us i k args L KN := h
theorem a_dmark (h : W.dcallM P us i g args L KN) : W.dcall P us i (.fn g []) args L KN := by rw [dcall_eq, List.append_nil]; exact h.h
theorem m_dcall (h : PureA P g args v) (hf : ∀ x ∈ us, W.free x ⟨i, [], [], [], true, []⟩) (hk : KN v L []) : W.dcallM P us i g args L KN :=
  ⟨[], L, .refl _, hf, CallA.mono h fun u K ⟨h1, h2⟩ => by subst h1; subst h2; exact hk⟩
end
theorem h_load1 {n : Nat} {a : AV} {L : SH} {K : AV → Prop} (h : W.load false n a L K) : W.load false n a L K := h
theorem h_row {n : Nat} {a : AV} {L : SH} {K : AV → Prop} (h : W.load true n a L K) : W.load true n a L K := h
theorem h_faddr {off : Nat} {x : AV} {K : AV → Prop} (h : W.faddr off x K) : W.faddr off x K := h
theorem h_bin {P : Program} {F : TypeId → Option (List TypeId)} {op : BinOp} {t : TypeId} {x y : AV} {K : AV → Prop} (h : W.bin P F op t x y K) : W.bin P F op t x y K := h
theorem h_cond {v : AV} {A B : Prop} (h : W.cond v A B) : W.cond v A B := h
theorem h_idx {n : Nat} {x ix : AV} {L : SH} {K : AV → Prop} (h : W.idx n x ix L K) : W.idx n x ix L K := h
theorem h_len {x : AV} {K : AV → Prop} (h : W.len x K) : W.len x K := h
theorem h_ext {i : Nat} {x : AV} {K : AV → Prop} (h : W.ext i x K) : W.ext i x K := h
theorem h_calm {us : List W.WR} {y : W.WR} {A : Prop} (h : W.calm us y A) : W.calm us y A := h
theorem h_note {r : W.Fp} {K : W.Fp → Prop} (h : W.note r K) : W.note r K := h
theorem h_pick {c x y : AV} {K : AV → Prop} (h : W.pick c x y K) : W.pick c x y K := h
theorem h_grd {x : AV} {want : Bool} {A : (AV → SH → Prop) → Prop} {L : SH} {K : AV → SH → Prop} (h : W.grd x want A L K) : W.grd x want A L K := h
theorem h_dgrd {x : AV} {want : Bool} {A : (AV → SH → W.Fp → Prop) → Prop} {L : SH} {K : AV → SH → W.Fp → Prop} (h : W.dgrd x want A L K) : W.dgrd x want A L K := h
theorem h_un {op : UnOp} {x : AV} {K : AV → Prop} (h : W.un op x K) : W.un op x K := h
theorem h_box {x : AV} {L : SH} {K : AV → SH → Prop} (h : W.box x L K) : W.box x L K := h
theorem h_frz1 {v : AV} {L : SH} {K : AV → SH → Prop} (h : W.frz1 v L K) : W.frz1 v L K := h
theorem h_store {n : Nat} {a v : AV} {L : SH} {K : SH → Prop} (h : W.store n a v L K) : W.store n a v L K := h
theorem h_bslice {n : Nat} {z : List AV} {len : Nat} {ps : List (Nat × AV)} {L : SH} {K : AV → SH → Prop} (h : W.bslice n z len ps L K) : W.bslice n z len ps L K := h
theorem h_mslice {n by_ : Nat} {z : List AV} {l c : AV} {L : SH} {K : AV → SH → Prop} (h : W.mslice n by_ z l c L K) : W.mslice n by_ z l c L K := h
end Go.Proofs.Ytadjimfkfmojkaa.Am

end
section
namespace Go.Proofs.Ytadjimfkfmojkaa.Am
set_option linter.unusedVariables false
section
variable {P : Program} {g : FuncId} {args : List AV} {L : SH} {KL : AV → SH → Prop}
theorem Fr.permS {B : Nat} {L' L'' : SH} {H H' : Heap} (h : Fr B L H L' H') (hp : L'.Perm L'') : Fr B L H L'' H' :=
  ⟨h.next, h.bd, h.sub.perm hp, fun b x h1 h2 => ⟨(h.keep b x h1 h2).1, fun hm => (h.keep b x h1 h2).2 ((hp.map Prod.fst).mem_iff.2 hm)⟩, h.dom, fun b hb hlt => h.fresh b ((hp.map Prod.fst).mem_iff.2 hb) hlt⟩
/-- a call that makes blocks: all blocks are told in an order of one's own, and are known to be different -/
theorem m_callN {R1 : AV → SH → Prop} (h : CallA P g args [] R1) (hq : ∀ v K', R1 v K' → ∃ L' : SH, (K' ++ L).Perm L' ∧ (L'.names.Nodup → KL v L')) : W.callM P g args L KL := by
  refine ⟨⟨h.1, fun H hb hs => ?_⟩⟩
  obtain ⟨v, H', L', h1, h2, L'', hp, h3⟩ := (h.frame (K := []) (R := L) (R2 := fun v L1 => ∃ L' : SH, L1.Perm L' ∧ (L'.names.Nodup → KL v L')) (.refl _) hq).2 H hb hs
  have h4 := h2.permS hp
  exact ⟨v, H', L'', h1, h4, h3 h4.sub.nd⟩
theorem a_app_slotN (M : SH) {o : Option Nat} {i n by_ bX : Nat} {R : SH} {rows m : List (List AV)} {k : Nat} (hr : rows.length = i) (h0 : o = none → rows = []) (hk : k = m.length) (hm : 0 < m.length) (h2 : 2 * (i + m.length) * by_ ≤ 2 ^ 48) (h3 : 2 * (i + m.length) ≤ 2 ^ 62) (h4 : (m.all fun r => r.all AV.one) = true)
    (h : ∀ b, (∀ p ∈ M, b ≠ p.1) → KL (.sl b 0 (i + m.length)) ((b, ⟨n, rows ++ m⟩) :: (bX, ⟨n, m⟩) :: (M ++ R))) : W.append n by_ (slotV o i) (.sl bX 0 k) ((bX, ⟨n, m⟩) :: (M ++ (slotB o n rows ++ R))) KL := by
  subst hk
  cases o with
  | none =>
    have hr0 := h0 rfl
    subst hr0
    simp only [List.length_nil] at hr
    subst hr
    have := a_app_e (KL := KL) (L := (bX, ⟨n, m⟩) :: (M ++ R)) (by_ := by_) (rowsR_s (.head _) rfl rfl) (by simpa using h2) (by simpa using h3) h4 (by show m.length ≠ 0; omega) (fun b hb => by
      have := h b fun p hp e => hb (by rw [e]; exact List.mem_map_of_mem (List.mem_cons_of_mem _ (List.mem_append_left _ hp)))
      simpa using this)
    exact this
  | some b =>
    subst hr
    exact a_app_s (y := ⟨n, rows⟩) (l := rows) (by simp [slotB]) rfl (by simp) (by simp) (rowsR_s (.head _) rfl rfl) h2 h3 h4 (.there _ (Del.app (.here R) M)) (fun b' hb => h b' fun p hp e => hb (by rw [e]; exact List.mem_map_of_mem (List.mem_cons_of_mem _ (List.mem_append_left _ hp))))
end
end Go.Proofs.Ytadjimfkfmojkaa.Am

end
section
namespace Go.Proofs.Ytadjimfkfmojkaa.Am
set_option linter.unusedVariables false
section
variable {P : Program} {F : TypeId → Option (List TypeId)} {K : AV → Prop} {KL : AV → SH → Prop} {L : SH}
theorem b_load_q {n : Nat} {rows : List (List AV)} {i off : Nat} {r : List AV} {v : AV} (h : K v) (h1 : rows[i]? = some r := by first | assumption | rfl) (h2 : r[off]? = some v := by rfl) : W.load false n (.pptr rows i off) L K := a_load_q h1 h2 h
theorem b_load_i {α : Type} [Inhabited α] {f : α → List AV} {l : List α} {n : Nat} {i : Int} {off : Nat} {v : AV} (h : K v) (h1 : inB i l.length = true := by assumption) (h2 : (f (l.getD i.toNat default))[off]? = some v := by rfl) : W.load false n (.pptr (l.map f) i.toNat off) L K := a_load_q (at_inB h1) h2 h
theorem b_load_p {n b i off : Nat} {x : Blk} {r : List AV} {v : AV} (h : K v) (hm : (b, x) ∈ L := by repeat constructor) (h1 : x.rows[i]? = some r := by first | assumption | rfl) (h2 : r[off]? = some v := by rfl) : W.load false n (.ptr b i off) L K := a_load_p hm h1 h2 h
theorem b_row_q {n : Nat} {rows : List (List AV)} {i : Nat} {r : List AV} (h : K (.agg r)) (h1 : rows[i]? = some r := by first | assumption | rfl) (h2 : r.length = n := by rfl) : W.load true n (.pptr rows i 0) L K := a_row_q h1 h2 h
theorem b_row_i {α : Type} [Inhabited α] {f : α → List AV} {l : List α} {n : Nat} {i : Int} (h : K (.agg (f (l.getD i.toNat default)))) (h1 : inB i l.length = true := by assumption) (h2 : (f (l.getD i.toNat default)).length = n := by rfl) : W.load true n (.pptr (l.map f) i.toNat 0) L K := a_row_q (at_inB h1) h2 h
theorem b_row_p {n b i : Nat} {x : Blk} {r : List AV} (h : K (.agg r)) (hm : (b, x) ∈ L := by repeat constructor) (h1 : x.rows[i]? = some r := by first | assumption | rfl) (h2 : r.length = n := by rfl) : W.load true n (.ptr b i 0) L K := a_row_p hm h1 h2 h
theorem b_rem {t : TypeId} {k : IntKind} {a b : Int} (h : K (.int k (a.tmod b))) (hb : b ≠ 0 := by first | assumption | decide | omega | exact of_decide_eq_false (by assumption)) : W.bin P F .rem t (.int k a) (.int k b) K := a_rem hb h
theorem b_cond_t {p : Bool} {A B : Prop} (h : A) (hp : p = true := by first | assumption | rfl) : W.cond (.bool p) A B := a_cond_t hp h
theorem b_cond_f {p : Bool} {A B : Prop} (h : B) (hp : p = false := by first | assumption | rfl) : W.cond (.bool p) A B := a_cond_f hp h
theorem b_idx_n {n : Nat} {rows : List (List AV)} {k : IntKind} {j : Nat} {r : List AV} (h : K (.pptr rows j 0)) (h1 : rows[j]? = some r := by first | assumption | rfl) (h2 : r.length = n := by rfl) : W.idx n (.lst rows) (.int k (j : Int)) L K := a_idx_n h1 h2 h
theorem b_idx_l {n : Nat} {rows : List (List AV)} {k : IntKind} {i : Int} {r : List AV} (h : K (.pptr rows i.toNat 0)) (h0 : 0 ≤ i := by first | decide | omega) (h1 : rows[i.toNat]? = some r := by first | assumption | rfl) (h2 : r.length = n := by rfl) : W.idx n (.lst rows) (.int k i) L K := a_idx_l h0 h1 h2 h
theorem b_idx_i {α : Type} [Inhabited α] {f : α → List AV} {l : List α} {n : Nat} {k : IntKind} {i : Int} (h : K (.pptr (l.map f) i.toNat 0)) (h1 : inB i l.length = true := by assumption) (h2 : (f (l.getD i.toNat default)).length = n := by rfl) : W.idx n (.lst (l.map f)) (.int k i) L K := a_idx_l (nn_inB h1) (at_inB h1) h2 h
theorem b_idx_sn {n b m : Nat} {k : IntKind} {i : Nat} {y : Blk} (h : K (.ptr b i 0)) (h1 : i < m := by first | assumption | omega) (hm : (b, y) ∈ L := by repeat constructor) (h2 : y.size = n := by rfl) : W.idx n (.sl b 0 m) (.int k (i : Int)) L K := a_idx_sn h1 hm h2 h
theorem b_idx_s {n b j m : Nat} {k : IntKind} {i : Int} {y : Blk} (h : K (.ptr b (j + i.toNat) 0)) (h0 : 0 ≤ i := by first | decide | omega) (h1 : i.toNat < m := by first | assumption | omega) (hm : (b, y) ∈ L := by repeat constructor) (h2 : y.size = n := by rfl) : W.idx n (.sl b j m) (.int k i) L K := a_idx_s h0 h1 hm h2 h
theorem b_ext {i : Nat} {vs : List AV} {v : AV} (h : K v) (h1 : vs[i]? = some v := by rfl) : W.ext i (.tup vs) K := a_ext h1 h
theorem b_calm {us : List W.WR} {y : W.WR} {A : Prop} (h : A) (h1 : ∀ x ∈ us, W.free x y := by (simp only [W.free, slotOf, ↓reduceIte, Nat.reduceEqDiff, blocksOf, slOf, List.forall_mem_nil, List.forall_mem_cons, List.not_mem_nil, not_false_eq_true, implies_true, and_true, true_and, and_self, Bool.false_eq_true, reduceCtorEq, forall_const, false_implies, List.mem_singleton, forall_eq, List.append_nil, List.nil_append, List.mem_cons, or_false, false_or, forall_eq_or_imp, not_or]) <;> (repeat' constructor) <;> first | assumption | (exact Ne.symm (by assumption)) | (intro e_; subst e_; simp [SH.names] at *; done)) : W.calm us y A := a_calm h1 h
theorem b_pick_t {p : Bool} {x y : AV} (h : K x) (hp : p = true := by first | assumption | rfl) : W.pick (.bool p) x y K := a_pick_t hp h
theorem b_pick_f {p : Bool} {x y : AV} (h : K y) (hp : p = false := by first | assumption | rfl) : W.pick (.bool p) x y K := a_pick_f hp h
theorem b_grd_y {p want : Bool} {A : (AV → SH → Prop) → Prop} (h : A KL) (hp : p = want := by first | assumption | rfl) : W.grd (.bool p) want A L KL := a_grd_y hp h
theorem b_grd_n {p want : Bool} {A : (AV → SH → Prop) → Prop} (h : KL undefA L) (hp : p = !want := by first | assumption | rfl) : W.grd (.bool p) want A L KL := a_grd_n hp h
theorem b_dgrd_y {KF : AV → SH → W.Fp → Prop} {p want : Bool} {A : (AV → SH → W.Fp → Prop) → Prop} (h : A KF) (hp : p = want := by first | assumption | rfl) : W.dgrd (.bool p) want A L KF := a_dgrd_y hp h
theorem b_dgrd_n {KF : AV → SH → W.Fp → Prop} {p want : Bool} {A : (AV → SH → W.Fp → Prop) → Prop} (h : KF undefA L ⟨[], [], [], L.names⟩) (hp : p = !want := by first | assumption | rfl) : W.dgrd (.bool p) want A L KF := a_dgrd_n hp h
theorem b_frz_p {b i off : Nat} {x : Blk} {L' : SH} (h : KL (.pptr x.rows i off) L') (h1 : Del b x L L' := by repeat constructor) (h2 : 0 < x.size := by first | exact Nat.succ_pos _ | decide | simp) (h3 : 0 < x.rows.length := by first | exact Nat.succ_pos _ | decide | simp) : W.frz1 (.ptr b i off) L KL := a_frz_p h1 h2 h3 h
theorem b_store_box {KS : SH → Prop} {n b : Nat} {v : AV} {m : Nat} {r cs : List AV} {L' : SH} (h : KS L') (hu : Upd b ⟨m, [r]⟩ ⟨m, [cs]⟩ L L' := by repeat constructor) (h2 : v.cells? = some cs := by rfl) (h3 : cs.length = n := by rfl) (h4 : cs.all AV.one = true := by rfl) (h5 : r.length = n := by rfl) : W.store n (.ptr b 0 0) v L KS := a_store_box hu h2 h3 h4 h5 h
theorem b_store_one {KS : SH → Prop} {b i off : Nat} {v : AV} {x : Blk} {r : List AV} {L' : SH} (h : KS L') (hu : Upd b x ⟨x.size, x.rows.set i (r.set off v)⟩ L L' := by repeat constructor) (h1 : x.rows[i]? = some r := by first | assumption | rfl) (h2 : v.cells? = some [v] := by rfl) (h4 : v.one = true := by rfl) (h5 : off < r.length := by first | decide | exact Nat.lt_of_sub_pos (Nat.succ_pos _) | simp | omega) : W.store 1 (.ptr b i off) v L KS := a_store_one hu h1 h2 h4 h5 rfl h
theorem b_mslice {n by_ : Nat} {z : List AV} {k k' : IntKind} {i j : Nat} (h : ∀ b, b ∉ L.names → KL (.sl b 0 i) ((b, ⟨n, List.replicate i z⟩) :: L)) (h1 : i ≤ j := by omega) (h2 : j ≤ 2 ^ 62 := by omega) (h3 : j * by_ ≤ 2 ^ 48 := by omega) : W.mslice n by_ z (.int k (i : Int)) (.int k' (j : Int)) L KL := a_mslice h1 h2 h3 h
theorem b_bslice {n : Nat} {z : List AV} {len : Nat} {ps : List (Nat × AV)} {rows : List (List AV)} (h : ∀ b, b ∉ L.names → KL (.sl b 0 len) ((b, ⟨n, rows⟩) :: L)) (h1 : len * n ≤ 2 ^ 24 := by decide) (h2 : fillRows n (List.replicate len z) ps = some rows := by rfl) : W.bslice n z len ps L KL := a_bslice h1 h2 h
theorem b_box {x : AV} {cs : List AV} (h : ∀ b, b ∉ L.names → KL (.ptr b 0 0) ((b, ⟨cs.length, [cs]⟩) :: L)) (h1 : x.cells? = some cs := by rfl) (h2 : cs.all AV.one = true := by rfl) : W.box x L KL := a_box h1 h2 h
theorem b_build {z : List AV} {ps : List (Nat × Nat × AV)} {cs : List AV} (h : K (.agg cs)) (h1 : W0.fillR z ps = some cs := by rfl) : W.build z ps K := a_build h1 h
theorem b_dcall {KN : AV → SH → List Nat → Prop} {us : List W.WR} {i : Nat} {g : FuncId} {args : List AV} {v : AV} (h : PureA P g args v) (hk : KN v L []) (hf : ∀ x ∈ us, W.free x ⟨i, [], [], [], true, []⟩ := by (simp only [W.free, slotOf, ↓reduceIte, Nat.reduceEqDiff, blocksOf, slOf, List.forall_mem_nil, List.forall_mem_cons, List.not_mem_nil, not_false_eq_true, implies_true, and_true, true_and, and_self, Bool.false_eq_true, reduceCtorEq, forall_const, false_implies, List.mem_singleton, forall_eq, List.append_nil, List.nil_append, List.mem_cons, or_false, false_or, forall_eq_or_imp, not_or]) <;> (repeat' constructor) <;> first | assumption | (exact Ne.symm (by assumption)) | (intro e_; subst e_; simp [SH.names] at *; done)) : W.dcallM P us i g args L KN := m_dcall h hf hk
end
end Go.Proofs.Ytadjimfkfmojkaa.Am

end
