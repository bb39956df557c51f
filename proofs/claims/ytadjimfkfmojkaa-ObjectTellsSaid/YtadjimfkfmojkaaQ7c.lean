/- A part of the proof; the statement is proved in the last part. -/
import Derived.Test.YtadjimfkfmojkaaQ7b
import Derived.Test.YtadjimfkfmojkaaProg
import Derived.KernelRfl
import Derived.IntWalk
set_option linter.unusedSimpArgs false
set_option linter.unusedVariables false
section
namespace Go.Proofs.Ytadjimfkfmojkaa.Am
open Go.RowKit
set_option linter.unusedVariables false
namespace W
structure pick (c x y : AV) (K : AV → Prop) : Prop where
  h : W0.pick c x y K
structure un (op : UnOp) (x : AV) (K : AV → Prop) : Prop where
  h : W0.un op x K
structure bin (P : Program) (F : TypeId → Option (List TypeId)) (op : BinOp) (t : TypeId) (x y : AV) (K : AV → Prop) : Prop where
  h : W0.bin P F op t x y K
structure conv (k : IntKind) (x : AV) (K : AV → Prop) : Prop where
  h : W0.conv k x K
structure convS (x : AV) (K : AV → Prop) : Prop where
  h : W0.convS x K
structure faddr (off : Nat) (x : AV) (K : AV → Prop) : Prop where
  h : W0.faddr off x K
structure fld (ag : Bool) (n off : Nat) (x : AV) (K : AV → Prop) : Prop where
  h : W0.fld ag n off x K
structure load (ag : Bool) (n : Nat) (a : AV) (L : SH) (K : AV → Prop) : Prop where
  h : W0.loadR ag n a L K
structure store (n : Nat) (a v : AV) (L : SH) (K : SH → Prop) : Prop where
  h : W0.storeR n a v L K
structure idx (n : Nat) (x ix : AV) (L : SH) (K : AV → Prop) : Prop where
  h : W0.idxR n x ix L K
structure idxP (len n : Nat) (x ix : AV) (K : AV → Prop) : Prop where
  h : W0.idxP len n x ix K
structure ixS (x ix : AV) (K : AV → Prop) : Prop where
  h : W0.ixS x ix K
structure ixA (ag : Bool) (len n : Nat) (x ix : AV) (K : AV → Prop) : Prop where
  h : W0.ixA ag len n x ix K
structure ext (i : Nat) (x : AV) (K : AV → Prop) : Prop where
  h : W0.ext i x K
structure nilchk (x : AV) (K : AV → Prop) : Prop where
  h : W0.nilchk x K
structure build (z : List AV) (parts : List (Nat × Nat × AV)) (K : AV → Prop) : Prop where
  h : W0.build z parts K
structure alloc (cs : List AV) (L : SH) (K : AV → SH → Prop) : Prop where
  h : W0.alloc cs L K
structure box (x : AV) (L : SH) (K : AV → SH → Prop) : Prop where
  h : W0.box x L K
structure bslice (n : Nat) (z : List AV) (len : Nat) (parts : List (Nat × AV)) (L : SH) (K : AV → SH → Prop) : Prop where
  h : W0.bslice n z len parts L K
structure mslice (n by_ : Nat) (z : List AV) (l c : AV) (L : SH) (K : AV → SH → Prop) : Prop where
  h : W0.mslice n by_ z l c L K
structure append (n by_ : Nat) (s x : AV) (L : SH) (K : AV → SH → Prop) : Prop where
  h : W0.appendR n by_ s x L K
structure clear (n : Nat) (z : List AV) (x : AV) (L : SH) (K : SH → Prop) : Prop where
  h : W0.clearR n z x L K
structure len (x : AV) (K : AV → Prop) : Prop where
  h : W0.len x K
structure lenS (x : AV) (K : AV → Prop) : Prop where
  h : W0.lenS x K
structure mnx (mx : Bool) (x y : AV) (K : AV → Prop) : Prop where
  h : W0.mnx mx x y K
structure slice (n : Nat) (x : AV) (lo hi mx : Option AV) (L : SH) (K : AV → Prop) : Prop where
  h : W0.sliceR n x lo hi mx L K
structure sliceS (x : AV) (lo hi : Option AV) (K : AV → Prop) : Prop where
  h : W0.sliceS x lo hi K
structure call (P : Program) (fv : AV) (args : List AV) (L : SH) (K : AV → SH → Prop) : Prop where
  h : match fv with
    | .fn g cs => CallA P g (args ++ cs) L K
    | _ => False
section
variable (P : Program) (F : TypeId → Option (List TypeId))
/-- What an operation demands; none: it is a call. -/
def op (o : Op) (ρ : Operand → AV) (L : SH) (K : AV → SH → Prop) : Prop :=
  let k := fun v => K v L
  match o with
  | .move x | .assign x => K (ρ x) L
  | .pick c x y => pick (ρ c) (ρ x) (ρ y) k
  | .alloc t => match W0.zof P t with
    | some cs => alloc cs L K
    | none => False
  | .box _ x => box (ρ x) L K
  | .build t parts => match P.underlying t, zeroA P t with
    | some (.struct fs), some (.agg z) => if (fs.toList.all fun f => (sizeA P f.type).isSome) = true then
        (match allSome (parts.toList.map fun p => (placesA P fs p.1).map fun q => (q.1, q.2, ρ p.2)) with
          | some ps => build z ps k
          | none => False)
      else False
    | some (.array _ e), some (.agg z) => (match sizeA P e with
      | some n => build z (parts.toList.map fun p => (p.1 * n, n, ρ p.2)) k
      | none => False)
    | _, _ => False
  | .buildSlice t len parts => match P.underlying t with
    | some (.slice e) => match sizeA P e, W0.zof P e with
      | some n, some z => if z.length = n ∧ 0 < n then bslice n z len (parts.toList.map fun p => (p.1, ρ p.2)) L K else False
      | _, _ => False
    | _ => False
  | .load t a => match isAggA P t, sizeA P t with
    | some ag, some n => load ag n (ρ a) L k
    | _, _ => False
  | .store t a x => match sizeA P t with
    | some n => store n (ρ a) (ρ x) L (K (.tup []))
    | none => False
  | .nilCheck x => nilchk (ρ x) k
  | .binOp op t x y _ => bin P F op t (ρ x) (ρ y) k
  | .unOp op _ x => un op (ρ x) k
  | .convert s d x => match P.underlying s, P.underlying d with
    | some (.int _), some (.int kd) => conv kd (ρ x) k
    | some .string, some .string => convS (ρ x) k
    | _, _ => False
  | .makeFunc (.func f) first cap => if first.size = 0 then K (.fn f (cap.toList.map ρ)) L else False
  | .makeSlice t l c => match P.underlying t with
    | some (.slice e) => match sizeA P e, bytesA P e, W0.zof P e with
      | some n, some by_, some z => if z.length = n ∧ 0 < n then mslice n by_ z (ρ l) (ρ c) L K else False
      | _, _, _ => False
    | _ => False
  | .slice t x lo hi mx => if (hi.isNone && mx.isSome) = true then False else match P.underlying t with
    | some (.slice e) => (match sizeA P e with
      | some n => slice n (ρ x) (lo.map ρ) (hi.map ρ) (mx.map ρ) L k
      | none => False)
    | some .string => if mx.isNone = true then sliceS (ρ x) (lo.map ρ) (hi.map ρ) k else False
    | _ => False
  | .fieldAddr s x f => match P.underlying s with
    | some (.struct fs) => match fs[f]? with
      | some f => (match sizeA P f.type with
        | some n => if n = 0 then False else faddr f.offset (ρ x) k
        | none => False)
      | none => False
    | _ => False
  | .field s x f => match P.underlying s with
    | some (.struct fs) => match fs[f]? with
      | some f => (match isAggA P f.type, sizeA P f.type with
        | some ag, some n => fld ag n f.offset (ρ x) k
        | _, _ => False)
      | none => False
    | _ => False
  | .indexAddr t x ix => match P.underlying t with
    | some (.slice e) => (match sizeA P e with
      | some n => idx n (ρ x) (ρ ix) L k
      | none => False)
    | some (.array len e) => (match sizeA P e with
      | some n => idxP len n (ρ x) (ρ ix) k
      | none => False)
    | _ => False
  | .index t x ix => match P.underlying t with
    | some .string => ixS (ρ x) (ρ ix) k
    | some (.array len e) => (match isAggA P e, sizeA P e with
      | some ag, some n => ixA ag len n (ρ x) (ρ ix) k
      | _, _ => False)
    | _ => False
  | .extract x i => ext i (ρ x) k
  | .call c => match c.callee with
    | .builtin .len => (match c.args.toList, (c.argTypes[0]?).bind P.underlying with
      | [x], some (.slice _) => len (ρ x) k
      | [x], some .string => lenS (ρ x) k
      | [x], some (.array n _) => (match ρ x with | .str _ => False | _ => K (.int .i64 n) L)
      | _, _ => False)
    | .builtin .append => (match c.args.toList, c.argTypes.toList with
      | [s, x], [t, tx] => (match P.underlying t, P.underlying tx with
        | some (.slice e), some (.slice _) => (match sizeA P e, bytesA P e, W0.zof P e with
          | some n, some by_, some z => if z.length = n ∧ 0 < n then append n by_ (ρ s) (ρ x) L K else False
          | _, _, _ => False)
        | _, _ => False)
      | _, _ => False)
    | .builtin .min => (match c.args.toList with
      | [x, y] => mnx false (ρ x) (ρ y) k
      | _ => False)
    | .builtin .max => (match c.args.toList with
      | [x, y] => mnx true (ρ x) (ρ y) k
      | _ => False)
    | .builtin .clear => (match c.args.toList, c.argTypes.toList with
      | [x], [t] => (match P.underlying t with
        | some (.slice e) => (match sizeA P e, W0.zof P e with
          | some n, some z => if (z.length = n ∧ 0 < n) ∧ z.all AV.one = true then clear n z (ρ x) L (K (.tup [])) else False
          | _, _ => False)
        | _ => False)
      | _, _ => False)
    | .value f => call P (ρ f) (c.args.toList.map ρ) L K
    | _ => False
  | _ => False
end
theorem op_raw {P : Program} {F : TypeId → Option (List TypeId)} {o : Op} {ρ : Operand → AV} {L : SH} {K : AV → SH → Prop} (h : op P F o ρ L K) : W0.op P F o ρ L K := by
  cases o with
  | makeFunc fn first cap =>
    cases fn with
    | func f =>
      simp only [op] at h
      simp only [W0.op]
      split at h
      · rename_i hc; rw [if_pos hc]; exact h
      · exact h.elim
    | _ => exact h
  | move x => exact h
  | assign x => exact h
  | pick c x y => exact h.h
  | box t x => exact h.h
  | nilCheck x => exact h.h
  | binOp op t x y c => exact h.h
  | unOp op t x => exact h.h
  | extract x i => exact h.h
  | alloc t | build t ps | buildSlice t l ps | load t a | store t a x | convert s d x | makeSlice t l c | slice t x lo hi mx | fieldAddr s x f | field s x f | indexAddr t x ix | index t x ix | call c =>
    simp only [op] at h
    simp only [W0.op]
    repeat' split at h
    all_goals first
      | exact h.elim
      | (have h := h.h; split at h <;> first | exact h.elim | (simp only [*]; exact h))
      | (simp only [*, if_true, and_self]; first | exact h.h | exact h)
      | (simp_all; done)
      | (simp_all; first | exact h.h | exact h)
  | _ => exact h.elim
/-- an operation behind a guard -/
structure grd (x : AV) (want : Bool) (A : (AV → SH → Prop) → Prop) (L : SH) (K : AV → SH → Prop) : Prop where
  h : (x = .bool want ∧ A K) ∨ ((x = .bool (!want) ∨ x = undefA) ∧ K undefA L)
section
variable (P : Program) (F : TypeId → Option (List TypeId)) (ops : Array Oper)
/-- the operations of a region, in the order of the text -/
def sq : List Nat → List AV → SH → (List AV → SH → Prop) → Prop
  | [], τ, L, K => K τ L
  | i :: l, τ, L, K => match ops[i]? with
    | none => False
    | some o => match o.guard with
      | none => op P F o.op (aev τ) L fun v L => sq l (putA τ o.dst v) L K
      | some (j, want) => match (ops[j]?).bind (·.dst) with
        | some d => grd (τ.getD d .junk) want (op P F o.op (aev τ) L) L fun v L => sq l (putA τ o.dst v) L K
        | none => False
/-- what an operation of a drawn region has touched -/
structure WR where
  op : Nat
  reads : List Nat
  writes : List Nat
  made : List Nat
  isCall : Bool
  old : List Nat
def free (x y : WR) : Prop := (∀ c ∈ x.writes, c ∉ y.reads ∧ c ∉ y.writes) ∧ (∀ c ∈ x.reads, c ∉ y.writes) ∧ (∀ c ∈ x.made, c ∉ y.reads ∧ c ∉ y.writes) ∧
  (x.isCall = true → y.isCall = false ∧ y.writes = [] ∧ ∀ c ∈ y.reads, c ∈ x.old) ∧ (y.isCall = true → x.writes = [])
def isMem : Op → Bool
  | .load .. | .store .. | .indexAddr .. | .slice .. | .alloc .. | .box .. | .buildSlice .. | .makeSlice .. => true
  | .call c => match c.callee with
    | .builtin .append => true
    | .builtin .clear => true
    | _ => false
  | _ => false
/-- nothing that is not ordered meets -/
structure calm (us : List WR) (y : WR) (A : Prop) : Prop where
  h : (∀ x ∈ us, free x y) ∧ A
/-- a call in a drawn region: it is handed a part of the heap -/
structure dcall (us : List WR) (i : Nat) (fv : AV) (args : List AV) (L : SH) (K : AV → SH → List Nat → Prop) : Prop where
  h : match fv with
    | .fn g cs => ∃ Kc R : SH, L.Perm (Kc ++ R) ∧ (∀ x ∈ us, free x ⟨i, [], Kc.names, [], true, []⟩) ∧ CallA P g (args ++ cs) Kc fun v K' => K v (K' ++ R) Kc.names
    | _ => False
/-- what an operation touched -/
structure Fp where
  reads : List Nat
  writes : List Nat
  made : List Nat
  old : List Nat
def isCallV : Op → Bool
  | .call c => match c.callee with
    | .value _ => true
    | _ => false
  | _ => false
/-- what was touched, under a name -/
structure note (r0 : Fp) (K : Fp → Prop) : Prop where
  h : ∀ r, r = r0 → K r
/-- an operation of a drawn region; us: those ahead of it in the text that no edge puts ahead of it -/
def dop (us : List WR) (i : Nat) (o : Op) (ρ : Operand → AV) (L : SH) (K : AV → SH → Fp → Prop) : Prop :=
  match o with
  | .call c => match c.callee with
    | .value f => dcall P us i (ρ f) (c.args.toList.map ρ) L fun v L' ks => note ⟨[], ks, [], L.names⟩ fun r => K v L' r
    | .builtin .append => (match c.args.toList with
      | [s, x] => calm us ⟨i, blocksOf (ρ s) ++ blocksOf (ρ x), blocksOf (ρ s), [], false, []⟩ (op P F o ρ L fun v L' => note ⟨blocksOf (ρ s) ++ blocksOf (ρ x), blocksOf (ρ s), blocksOf v, []⟩ fun r => K v L' r)
      | _ => False)
    | .builtin .clear => (match c.args.toList with
      | [x] => calm us ⟨i, blocksOf (ρ x), blocksOf (ρ x), [], false, []⟩ (op P F o ρ L fun v L' => note ⟨blocksOf (ρ x), blocksOf (ρ x), [], []⟩ fun r => K v L' r)
      | _ => False)
    | _ => op P F o ρ L fun v L' => K v L' ⟨[], [], [], []⟩
  | o => if isMem o then calm us ⟨i, readsA o ρ, writesA o ρ, [], false, []⟩ (op P F o ρ L fun v L' => note ⟨readsA o ρ, writesA o ρ, if W0.makes o then blocksOf v else [], []⟩ fun r => K v L' r)
    else op P F o ρ L fun v L' => K v L' ⟨[], [], [], []⟩
def push (i : Nat) (o : Op) (r : Fp) (rs : List WR) : List WR := if isCallV o || isMem o then ⟨i, r.reads, r.writes, r.made, isCallV o, r.old⟩ :: rs else rs
structure dgrd (x : AV) (want : Bool) (A : (AV → SH → Fp → Prop) → Prop) (L : SH) (K : AV → SH → Fp → Prop) : Prop where
  h : (x = .bool want ∧ A K) ∨ ((x = .bool (!want) ∨ x = undefA) ∧ K undefA L ⟨[], [], [], L.names⟩)
def dr (before : List Nat) : List Nat → List AV → SH → List WR → (List AV → SH → Prop) → Prop
  | [], τ, L, _, K => K τ L
  | i :: l, τ, L, rs, K => match ops[i]? with
    | none => False
    | some o => match o.guard with
      | none => dop P F (rs.filter fun x => !(before.getD i 0).testBit x.op) i o.op (aev τ) L fun v L r => dr before l (putA τ o.dst v) L (push i o.op r rs) K
      | some (j, want) => match (ops[j]?).bind (·.dst) with
        | some d => dgrd (τ.getD d .junk) want (dop P F (rs.filter fun x => !(before.getD i 0).testBit x.op) i o.op (aev τ) L) L fun v L r => dr before l (putA τ o.dst v) L (push i o.op r rs) K
        | none => False
end
end W
section
variable {P : Program} {F : TypeId → Option (List TypeId)} {ops : Array Oper} {base : Nat}
open Classical in
/-- one call more -/
noncomputable def ora (g : FuncId) (as_ : List AV) (Hi : Heap) (v : AV) (Ho : Heap) (call : FuncId → List AV → Heap → Option (AV × Heap)) : FuncId → List AV → Heap → Option (AV × Heap) :=
  fun f args H => if f = g ∧ args = as_ ∧ H = Hi then some (v, Ho) else call f args H
def Chgs (call : FuncId → List AV → Heap → Option (AV × Heap)) : Prop := ∀ f args H v H', Bd H → call f args H = some (v, H') → Chg H H'
theorem ora_sound {g : FuncId} {as_ : List AV} {Hi Ho : Heap} {v : AV} {call : FuncId → List AV → Heap → Option (AV × Heap)} (hs : Sound P call) (hc : CallOk P g as_ Hi v Ho) (hn : Hi.next ≤ Ho.next) (hb : ∃ fn c, P.funcs[g]? = some fn ∧ fn.body = some c) : Sound P (ora g as_ Hi v Ho call) := by
  refine ⟨fun f args H u H' h => ?_, fun f args H u H' h => ?_, fun f args H u H' h => ?_⟩ <;>
  · unfold ora at h
    split at h
    · rename_i hk; obtain ⟨rfl, rfl, rfl⟩ := hk; cases h; assumption
    · first | exact hs.ok _ _ _ _ _ h | exact hs.next _ _ _ _ _ h | exact hs.body _ _ _ _ _ h
theorem ora_chg {g : FuncId} {as_ : List AV} {Hi Ho : Heap} {v : AV} {call : FuncId → List AV → Heap → Option (AV × Heap)} (hs : Chgs call) (hc : Bd Hi → Chg Hi Ho) : Chgs (ora g as_ Hi v Ho call) := fun f args H u H' hb h => by
  unfold ora at h
  split at h
  · rename_i hk; obtain ⟨rfl, rfl, rfl⟩ := hk; cases h; exact hc hb
  · exact hs _ _ _ _ _ hb h
theorem ora_hit {g : FuncId} {as_ : List AV} {Hi Ho : Heap} {v : AV} {call : FuncId → List AV → Heap → Option (AV × Heap)} : ora g as_ Hi v Ho call g as_ Hi = some (v, Ho) := by unfold ora; rw [if_pos ⟨rfl, rfl, rfl⟩]
theorem ora_later {g : FuncId} {as_ : List AV} {Hi Ho : Heap} {v : AV} {call : FuncId → List AV → Heap → Option (AV × Heap)} {f : FuncId} {args : List AV} {H : Heap} (h : Hi.next < H.next) : ora g as_ Hi v Ho call f args H = call f args H := by
  unfold ora
  rw [if_neg]
  rintro ⟨_, _, rfl⟩
  omega
theorem stepA_agree {call1 call2 : FuncId → List AV → Heap → Option (AV × Heap)} {i : Nat} {τ : List AV} {H : Heap} (h : ∀ f args, call1 f args H = call2 f args H) : stepA P F call1 ops base i τ H = stepA P F call2 ops base i τ H := by
  unfold stepA
  split
  · rfl
  · split
    · split
      · rfl
      · rw [h]
      · rfl
    · rfl
    · rfl
theorem opsA_agree {call1 call2 : FuncId → List AV → Heap → Option (AV × Heap)} {n : Nat} (hag : ∀ f args H, n < H.next → call1 f args H = call2 f args H) (hs : Sound P call1) : ∀ (l : List Nat) (τ : List AV) (H : Heap) (r : List AV × Heap), n < H.next → opsA P F call1 ops base l τ H = some r → opsA P F call2 ops base l τ H = some r
  | [], τ, H, r, _, h => h
  | i :: l, τ, H, r, hn, h => by
    unfold opsA at h ⊢
    rw [← stepA_agree (call1 := call1) (fun f args => hag f args H hn)]
    split at h
    · rename_i τ1 H1 hst
      exact opsA_agree hag hs l τ1 H1 r (Nat.lt_of_lt_of_le hn (stepA_next hs hst)) h
    · cases h
theorem CallOk.bump {f : FuncId} {args : List AV} {H H1 : Heap} {v : AV} (h : CallOk P f args H v H1) (l : List Nat) : CallOk P f args H v { H1 with next := H1.next + 1, log := l } := by
  intro w σ vs hW hvs
  refine (h w σ vs hW hvs).mono ?_
  rintro e w' ⟨v', σ', rfl, k1, k2, k3, k4⟩
  have ho : Own σ' ({ H1 with next := H1.next + 1, log := l } : Heap) = Own σ' H1 := Own.congr fun _ => rfl
  exact ⟨v', σ', rfl, by rw [ho]; exact k1, k2.congr (fun _ => rfl) (Nat.le_succ _), by rw [ho]; exact k3, k4⟩
theorem CallOk.pre {f : FuncId} {args : List AV} {H H0 H1 : Heap} {v : AV} (h : CallOk P f args H v H1) (hg : ∀ b, H0.get b = H.get b) (hn : H0.next = H.next) : CallOk P f args H0 v H1 := by
  intro w σ vs hW hvs
  have ho : Own σ H0 = Own σ H := Own.congr hg
  rw [ho] at hvs
  refine (h w σ vs (hW.congr (fun b => (hg b).symm) (by omega)) hvs).mono ?_
  rintro e w' ⟨v', σ', rfl, k1, k2, k3, k4⟩
  exact ⟨v', σ', rfl, k1, k2, by rw [ho]; exact k3, by rw [hn]; exact k4⟩
theorem Fr.chg {L L' : SH} {H H' : Heap} (h : Fr H.next L H L' H') (l : List Nat) (hl : ∀ b, b ∈ H.log → b ∈ l) (hL : ∀ b, b ∈ L.names → b ∈ l) (n : Nat) (hn : H'.next ≤ n) : Chg H { H' with next := n, log := l } where
  next := Nat.le_trans h.next hn
  dom := fun b hb h0 => h.dom b hb h0
  keep := fun b hb hnl => by
    show H'.get b = H.get b
    cases hg : H.get b with
    | none => exact h.dom b hb hg
    | some x => exact (h.keep b x hg (fun hm => hnl (hL b hm))).1
  log := hl
  bd := fun _ b hb => h.bd b (Nat.le_trans hn hb)
theorem Bd.bump {H : Heap} (h : Bd H) (l : List Nat) (n : Nat) (hn : H.next ≤ n) : Bd { H with next := n, log := l } := fun b hb => h b (Nat.le_trans hn hb)
theorem OpFr.fr {b : Nat} {L L' : SH} {H H' : Heap} (h : OpFr b L H L' H') (hb : base ≤ b) : Fr base L H L' H' :=
  ⟨Nat.le_of_eq h.next.symm, h.bd, h.sub, h.keep, fun c hc => h.dom c (by omega), fun c hc hlt => by
    rcases h.fresh c hc with rfl | h1
    · omega
    · exact h1⟩
theorem wanted_yes {o : Oper} {τ : List AV} {j d : Nat} {want : Bool} (hg : o.guard = some (j, want)) (hd : (ops[j]?).bind (·.dst) = some d) (h : τ.getD d .junk = .bool want) : wantedA ops o τ = some true := by
  have : τ[d]? = some (.bool want) := by
    cases hx : τ[d]? with
    | none => rw [List.getD, hx] at h; cases h
    | some x => rw [List.getD, hx] at h; exact congrArg some h
  simp [wantedA, hg, hd, this]
theorem wanted_no {o : Oper} {τ : List AV} {j d : Nat} {want : Bool} (hg : o.guard = some (j, want)) (hd : (ops[j]?).bind (·.dst) = some d) (h : τ.getD d .junk = .bool (!want) ∨ τ.getD d .junk = undefA) : wantedA ops o τ = some false := by
  rcases h with h | h
  · have : τ[d]? = some (.bool (!want)) := by
      cases hx : τ[d]? with
      | none => rw [List.getD, hx] at h; cases h
      | some x => rw [List.getD, hx] at h; exact congrArg some h
    simp [wantedA, hg, hd, this]
  · have : τ[d]? = some (.tup []) := by
      cases hx : τ[d]? with
      | none => rw [List.getD, hx] at h; cases h
      | some x => rw [List.getD, hx] at h; exact congrArg some h
    simp [wantedA, hg, hd, this]
theorem wanted_none {o : Oper} {τ : List AV} (hg : o.guard = none) : wantedA ops o τ = some true := by simp [wantedA, hg]
theorem sq_sound : ∀ (l : List Nat) (τ : List AV) (L : SH) (K : List AV → SH → Prop), W.sq P F ops l τ L K → l.Nodup → ∀ H, Bd H → Sub L H → (∀ i ∈ l, base + i < H.next ∧ H.get (base + i) = none) → base ≤ H.next →
    ∃ call τ' H' L', Sound P call ∧ Chgs call ∧ opsA P F call ops base l τ H = some (τ', H') ∧ Fr base L H L' H' ∧ K τ' L'
  | [], τ, L, K, h, _, H, hb, hs, _, _ => ⟨noCall, τ, H, L, noCall_sound P, fun _ _ _ _ _ _ h => (by cases h), rfl, .refl hb hs, h⟩
  | i :: l, τ, L, K, h, hnd, H, hb, hs, hfr, hbase => by
    have hnd' := List.nodup_cons.1 hnd
    have h0 := hfr i (by simp)
    unfold W.sq at h
    split at h
    · exact h.elim
    · rename_i o ho
      -- the operation is carried out
      have go : ∀ (Kc : AV → SH → Prop), wantedA ops o τ = some true → W.op P F o.op (aev τ) L Kc → (∀ v L1, Kc v L1 → W.sq P F ops l (putA τ o.dst v) L1 K) →
          ∃ call τ' H' L', Sound P call ∧ Chgs call ∧ opsA P F call ops base (i :: l) τ H = some (τ', H') ∧ Fr base L H L' H' ∧ K τ' L' := by
        intro Kc hw hop hk
        rcases op_goes (b := base + i) hb hs h0.1 h0.2 (W.op_raw hop) with ⟨v, H1, L1, g1, g2, _, g3⟩ | ⟨g, args, g1, g2⟩
        · obtain ⟨call, τ', H', L', k1, k2, k3, k4, k5⟩ := sq_sound l (putA τ o.dst v) L1 K (hk v L1 g3) hnd'.2 H1 g2.bd g2.sub (fun j hj => by
            have hj0 := hfr j (by simp [hj])
            refine ⟨by rw [g2.next]; exact hj0.1, g2.dom _ (fun e => ?_) hj0.2⟩
            have : j = i := by omega
            exact hnd'.1 (this ▸ hj)) (by rw [g2.next]; exact hbase)
          refine ⟨call, τ', H', L', k1, k2, ?_, (g2.fr (Nat.le_add_right _ _)).trans k4 (Nat.le_refl _), k5⟩
          unfold opsA stepA
          simp only [ho, hw, g1]
          exact k3
        · obtain ⟨bd, g3⟩ := g2
          obtain ⟨v, H1, L1, c1, c2, c3⟩ := g3 H hb hs
          have hH1 : Sub L1 ({ H1 with next := H1.next + 1, log := L.names ++ H.log } : Heap) := c2.sub.congr fun _ => rfl
          obtain ⟨call, τ', H', L', k1, k2, k3, k4, k5⟩ := sq_sound l (putA τ o.dst v) L1 K (hk v L1 c3) hnd'.2 { H1 with next := H1.next + 1, log := L.names ++ H.log } (c2.bd.bump _ _ (Nat.le_succ _)) hH1 (fun j hj => by
            have hj0 := hfr j (by simp [hj])
            have := c2.next
            exact ⟨by show base + j < H1.next + 1; omega, c2.dom _ hj0.1 hj0.2⟩) (by have := c2.next; show base ≤ H1.next + 1; omega)
          refine ⟨ora g args H v _ call, τ', H', L', ora_sound k1 (c1.bump _) (by have := c2.next; show H.next ≤ H1.next + 1; omega) bd, ora_chg k2 fun _ => c2.chg _ (fun b hb => List.mem_append_right _ hb) (fun b hb => List.mem_append_left _ hb) _ (Nat.le_succ _), ?_, ?_, k5⟩
          · unfold opsA stepA
            simp only [ho, hw, g1, ora_hit]
            refine opsA_agree (n := H.next) (fun f args K hK => ?_) k1 l _ _ _ (by have := c2.next; show H.next < H1.next + 1; omega) k3
            exact (ora_later hK).symm
          · refine Fr.trans (H' := { H1 with next := H1.next + 1, log := L.names ++ H.log }) ⟨by have := c2.next; show H.next ≤ H1.next + 1; omega, c2.bd.bump _ _ (Nat.le_succ _), hH1, c2.keep, fun b hb' => c2.dom b (by omega), fun b h1 h2 => c2.fresh b h1 (by omega)⟩ k4 (Nat.le_refl _)
      split at h
      · rename_i hg
        exact go _ (wanted_none hg) h fun v L1 h => h
      · rename_i j want hg
        split at h
        · rename_i d hd
          rcases h.h with ⟨h1, h2⟩ | ⟨h1, h2⟩
          · exact go _ (wanted_yes hg hd h1) h2 fun v L1 h => h
          · obtain ⟨call, τ', H', L', k1, k2, k3, k4, k5⟩ := sq_sound l (putA τ o.dst undefA) L K h2 hnd'.2 H hb hs (fun j hj => hfr j (by simp [hj])) hbase
            refine ⟨call, τ', H', L', k1, k2, ?_, k4, k5⟩
            unfold opsA stepA
            simp only [ho, wanted_no hg hd h1]
            exact k3
        · exact h.elim
/-- a region whose order is that of the text -/
theorem ARun.region {id : Nat} {τ : List AV} {L : SH} {Q : Ex → List AV → SH → Prop} (fit : Fit P F) (h : W.sq P F ops (List.range ops.size) τ L fun τ' L' => Q .normal τ' L') : ARun P (.region id ops false) τ L Q := fun H hb hs => by
  obtain ⟨call, τ', H', L', k1, k2, k3, k4, k5⟩ := sq_sound (base := H.next) (List.range ops.size) τ L _ h List.nodup_range { H with next := H.next + ops.size } (hb.bump _ _ (Nat.le_add_right _ _)) (hs.congr fun _ => rfl)
    (fun i hi => ⟨Nat.add_lt_add_left (List.mem_range.1 hi) _, hb _ (Nat.le_add_right _ _)⟩) (Nat.le_add_right _ _)
  have hr : regionA P F call ops false τ H = some (τ', H') := by simp only [regionA, Bool.false_eq_true, if_false]; exact k3
  exact ⟨.normal, τ', H', L', region_sound fit k1 hr, ⟨Nat.le_trans (Nat.le_add_right _ _) k4.next, k4.bd, k4.sub, k4.keep, k4.dom, k4.fresh⟩, k5⟩
end
end Go.Proofs.Ytadjimfkfmojkaa.Am

end
section
namespace Go.Proofs.Ytadjimfkfmojkaa.Am
open Go.RowKit
set_option linter.unusedVariables false
section
variable {P : Program} {F : TypeId → Option (List TypeId)} {ops : Array Oper} {base : Nat} {ρ : Operand → AV} {L : SH}
theorem call_inv {o : Op} {b : Nat} {g : FuncId} {args : List AV} {H : Heap} (h : aop P F o ρ b H = some (.call g args)) : ∃ c f, o = .call c ∧ c.callee = .value f := by
  cases o with
  | call c =>
    simp only [aop] at h
    split at h
    · rename_i bi _
      cases hbi : builtinA P H b bi c.argTypes (c.args.toList.map ρ) with
      | none => rw [hbi] at h; cases h
      | some r => rw [hbi] at h; cases h
    · rename_i f hf; exact ⟨c, f, rfl, hf⟩
    · cases h
  | makeFunc fn first cap => cases fn <;> simp only [aop] at h <;> (try split at h) <;> simp at h
  | _ =>
    exfalso
    simp only [aop] at h
    repeat' (first | (cases h; done) | (simp at h; done) | split at h)
theorem nonmem_reads {o : Op} (h : W.isMem o = false) : readsA o ρ = [] ∧ writesA o ρ = [] := by
  cases o with
  | call c =>
    simp only [W.isMem] at h
    simp only [readsA, writesA]
    split at h
    · cases h
    · cases h
    · rename_i hn hn2
      constructor <;> · split
                        · rename_i he; exact absurd he hn
                        · rename_i he; exact absurd he hn2
                        · rfl
  | _ => first | (cases h; done) | exact ⟨rfl, rfl⟩
theorem rowsR_reads {n : Nat} {s : AV} {rows : List (List AV)} (h : W0.rowsR L n s rows) : ∀ c ∈ blocksOf s, c ∈ L.names := by
  intro c hc
  unfold W0.rowsR at h
  split at h
  · simp [blocksOf] at hc
  · simp [blocksOf] at hc
  · simp [blocksOf] at hc
  · obtain ⟨x, h1, _⟩ := h
    simp only [blocksOf, List.mem_singleton] at hc
    subst hc
    exact List.mem_map_of_mem (f := Prod.fst) h1
  · exact h.elim
theorem op_reads {o : Op} {K : AV → SH → Prop} (h : W0.op P F o ρ L K) : ∀ c ∈ readsA o ρ, c ∈ L.names := by
  intro c hc
  cases o with
  | load t a =>
    simp only [W0.op] at h
    split at h
    · simp only [readsA] at hc
      unfold W0.loadR at h
      split at h
      · rename_i ha
        obtain ⟨x, r, v, g1, _⟩ := h
        rw [ha] at hc
        simp only [blocksOf, List.mem_singleton] at hc
        subst hc
        exact List.mem_map_of_mem (f := Prod.fst) g1
      · rename_i ha; rw [ha] at hc; simp [blocksOf] at hc
      · exact h.elim
    · exact h.elim
  | store t a x =>
    simp only [W0.op] at h
    split at h
    · simp only [readsA] at hc
      unfold W0.storeR at h
      split at h
      · rename_i ha
        obtain ⟨x, r, cs, L', _, _, _, _, _, g1, _⟩ := h
        rw [ha] at hc
        simp only [blocksOf, List.mem_singleton] at hc
        subst hc
        exact List.mem_map_of_mem (f := Prod.fst) g1.mem
      · exact h.elim
    · exact h.elim
  | indexAddr t x ix =>
    simp only [W0.op] at h
    simp only [readsA] at hc
    split at h
    · split at h
      · unfold W0.idxR at h
        split at h
        · rename_i hx
          obtain ⟨k, i, y, _, _, _, g1, _⟩ := h
          rw [hx] at hc
          simp only [slOf, List.mem_singleton] at hc
          subst hc
          exact List.mem_map_of_mem (f := Prod.fst) g1
        · rename_i hx; rw [hx] at hc; simp [slOf] at hc
        · exact h.elim
      · exact h.elim
    · split at h
      · obtain ⟨k, i, _, _, _, g⟩ := h
        split at g
        · rename_i hx; rw [hx] at hc; simp [slOf] at hc
        · rename_i hx; rw [hx] at hc; simp [slOf] at hc
        · exact g.elim
      · exact h.elim
    · exact h.elim
  | slice t x lo hi mx =>
    simp only [W0.op] at h
    simp only [readsA] at hc
    split at h
    · exact h.elim
    · split at h
      · split at h
        · obtain ⟨len, l, hh, m, _, _, _, _, _, _, _, g⟩ := h
          split at g
          · rename_i hx; rw [hx] at hc; simp [slOf] at hc
          · rename_i hx
            obtain ⟨⟨y, g1, _⟩, _⟩ := g
            rw [hx] at hc
            simp only [slOf, List.mem_singleton] at hc
            subst hc
            exact List.mem_map_of_mem (f := Prod.fst) g1
          · rename_i hx; rw [hx] at hc; simp [slOf] at hc
          · exact g.elim
        · exact h.elim
      · split at h
        · obtain ⟨s, l, hh, hx, _⟩ := h
          rw [hx] at hc; simp [slOf] at hc
        · exact h.elim
      · exact h.elim
  | call k =>
    simp only [readsA] at hc
    split at hc
    · rename_i hcal
      simp only [W0.op, hcal] at h
      split at h
      · rename_i s x t tx ha ht
        split at h
        · split at h
          · split at h
            · obtain ⟨l, m, g1, g2, _⟩ := h
              simp only [ha, List.flatMap_cons, List.flatMap_nil, List.append_nil, List.mem_append] at hc
              rcases hc with hc | hc
              · exact rowsR_reads g1 c hc
              · exact rowsR_reads g2 c hc
            · exact h.elim
          · exact h.elim
        · exact h.elim
      · exact h.elim
    · rename_i hcal
      simp only [W0.op, hcal] at h
      split at h
      · rename_i x t ha ht
        split at h
        · split at h
          · split at h
            · simp only [ha, List.flatMap_cons, List.flatMap_nil, List.append_nil] at hc
              unfold W0.clearR at h
              split at h
              · rename_i hx; rw [hx] at hc; simp [blocksOf] at hc
              · rename_i hx
                obtain ⟨y, L', _, _, g1, _⟩ := h
                rw [hx] at hc
                simp only [blocksOf, List.mem_singleton] at hc
                subst hc
                exact List.mem_map_of_mem (f := Prod.fst) g1.mem
              · exact h.elim
            · exact h.elim
          · exact h.elim
        · exact h.elim
      · exact h.elim
    · simp at hc
  | _ => simp [readsA] at hc
/-- operations that make and change no memory -/
theorem op_calm {o : Op} {K K2 : AV → SH → Prop} (hK : ∀ v, K v L → K2 v L) (hm : W.isMem o = false) (hv : ∀ c f, o = .call c → c.callee ≠ .value f) (h : W0.op P F o ρ L K) : W0.op P F o ρ L K2 := by
  cases o with
  | call c =>
    simp only [W0.op] at h ⊢
    split at h
    · split at h
      · obtain ⟨n, g1, g2⟩ := h; exact ⟨n, g1, hK _ g2⟩
      · obtain ⟨n, g1, g2⟩ := h; exact ⟨n, g1, hK _ g2⟩
      · split at h
        · exact h
        · exact hK _ h
      · exact h
    · rename_i hc; simp [W.isMem, hc] at hm
    · split at h
      · obtain ⟨k, a, c, g1, g2, g3⟩ := h; exact ⟨k, a, c, g1, g2, hK _ g3⟩
      · exact h
    · split at h
      · obtain ⟨k, a, c, g1, g2, g3⟩ := h; exact ⟨k, a, c, g1, g2, hK _ g3⟩
      · exact h
    · rename_i hc; simp [W.isMem, hc] at hm
    · rename_i f hc; exact absurd hc (hv c f rfl)
    · exact h
  | move x => exact hK _ h
  | assign x => exact hK _ h
  | pick c x y => obtain ⟨t, g1, g2⟩ := h; exact ⟨t, g1, hK _ g2⟩
  | build t parts =>
    simp only [W0.op] at h ⊢
    split at h
    · split at h
      · rename_i hall
        rw [if_pos hall]
        split at h
        · obtain ⟨cs, g1, g2⟩ := h; exact ⟨cs, g1, hK _ g2⟩
        · exact h
      · exact h.elim
    · split at h
      · obtain ⟨cs, g1, g2⟩ := h; exact ⟨cs, g1, hK _ g2⟩
      · exact h
    · exact h
  | nilCheck x =>
    simp only [W0.op, W0.nilchk] at h ⊢
    split at h <;> first | exact hK _ h | exact h
  | binOp op t x y c => obtain ⟨v, g1, g2⟩ := h; exact ⟨v, g1, hK _ g2⟩
  | unOp op t x => obtain ⟨v, g1, g2⟩ := h; exact ⟨v, g1, hK _ g2⟩
  | convert s d x =>
    simp only [W0.op] at h ⊢
    split at h
    · obtain ⟨k, n, g1, g2⟩ := h; exact ⟨k, n, g1, hK _ g2⟩
    · obtain ⟨s, g1, g2⟩ := h; exact ⟨s, g1, hK _ g2⟩
    · exact h
  | makeFunc fn first cap =>
    cases fn with
    | func f =>
      simp only [W0.op] at h ⊢
      split at h
      · rename_i h0; rw [if_pos h0]; exact hK _ h
      · exact h.elim
    | _ => exact h
  | fieldAddr s x f =>
    simp only [W0.op] at h ⊢
    split at h
    · split at h
      · split at h
        · split at h
          · exact h.elim
          · rename_i h0
            rw [if_neg h0]
            unfold W0.faddr at h ⊢
            split at h <;> first | exact hK _ h | exact h
        · exact h
      · exact h
    · exact h
  | field s x f =>
    simp only [W0.op] at h ⊢
    split at h
    · split at h
      · split at h
        · obtain ⟨cs, v, g1, g2, g3⟩ := h; exact ⟨cs, v, g1, g2, hK _ g3⟩
        · exact h
      · exact h
    · exact h
  | index t x ix =>
    simp only [W0.op] at h ⊢
    split at h
    · obtain ⟨s, k, i, y, g1, g2, g3, g4, g5⟩ := h; exact ⟨s, k, i, y, g1, g2, g3, g4, hK _ g5⟩
    · split at h
      · obtain ⟨cs, k, i, v, g1, g2, g3, g4, g5, g6⟩ := h; exact ⟨cs, k, i, v, g1, g2, g3, g4, g5, hK _ g6⟩
      · exact h
    · exact h
  | extract x i => obtain ⟨vs, v, g1, g2, g3⟩ := h; exact ⟨vs, v, g1, g2, hK _ g3⟩
  | _ => first | (cases hm; done) | exact h
theorem meets_free' {x y : Rec} (hw : ∀ c ∈ x.writes, c ∉ y.reads ∧ c ∉ y.writes) (hr : ∀ c ∈ x.reads, c ∉ y.writes) (hm : ∀ c ∈ x.made, c ∉ y.reads ∧ c ∉ y.writes)
    (hc : x.isCall = true → y.isCall = false ∧ y.writes = [] ∧ ∀ c ∈ y.reads, c < x.lo) (hy : y.isCall = true → x.writes = []) : meets x y = false := by
  have ap : ∀ l m : List Nat, (∀ c ∈ l, c ∉ m) → apart l m = true := fun l m h => by simpa [apart] using h
  unfold meets
  rw [ap _ _ fun c h => (hw c h).1, ap _ _ fun c h => (hw c h).2, ap _ _ hr, ap _ _ fun c h => (hm c h).1, ap _ _ fun c h => (hm c h).2]
  cases hx : x.isCall with
  | true =>
    obtain ⟨h1, h2, h3⟩ := hc hx
    simp only [h1, h2, List.isEmpty_nil, Bool.not_true, Bool.false_or, Bool.and_true, Bool.true_and, Bool.false_and, Bool.or_false]
    rw [List.any_eq_false]
    intro c hcm
    have := h3 c hcm
    simp; omega
  | false =>
    cases hyc : y.isCall with
    | true => simp [hy hyc]
    | false => simp
theorem dop_cases {us : List W.WR} {i : Nat} {o : Op} {K : AV → SH → W.Fp → Prop} (h : W.dop P F us i o ρ L K) :
    (∃ c f g cs, o = .call c ∧ c.callee = .value f ∧ ρ f = .fn g cs ∧ ∃ Kc R : SH, L.Perm (Kc ++ R) ∧ (∀ x ∈ us, W.free x ⟨i, [], Kc.names, [], true, []⟩) ∧ CallA P g (c.args.toList.map ρ ++ cs) Kc fun v K' => W.note ⟨[], Kc.names, [], L.names⟩ fun r => K v (K' ++ R) r) ∨
    (W.isMem o = true ∧ W.isCallV o = false ∧ (∀ x ∈ us, W.free x ⟨i, readsA o ρ, writesA o ρ, [], false, []⟩) ∧ W0.op P F o ρ L fun v L' => W.note ⟨readsA o ρ, writesA o ρ, if W0.makes o then blocksOf v else [], []⟩ fun r => K v L' r) ∨
    (W.isMem o = false ∧ W.isCallV o = false ∧ (∀ c f, o = .call c → c.callee ≠ .value f) ∧ W0.op P F o ρ L fun v L' => K v L' ⟨[], [], [], []⟩) := by
  cases o with
  | call c =>
    simp only [W.dop] at h
    split at h
    · rename_i f hf
      have h := h.h
      split at h
      · rename_i g cs hg; exact .inl ⟨c, f, g, cs, rfl, hf, hg, h⟩
      · exact h.elim
    · rename_i hc
      split at h
      · rename_i s x ha
        have h1 : readsA (.call c) ρ = blocksOf (ρ s) ++ blocksOf (ρ x) := by simp [readsA, hc, ha]
        have h2 : writesA (.call c) ρ = blocksOf (ρ s) := by simp [writesA, hc, ha]
        refine .inr (.inl ⟨by simp [W.isMem, hc], by simp [W.isCallV, hc], ?_⟩)
        rw [h1, h2, show W0.makes (.call c) = true by simp [W0.makes, hc]]
        exact ⟨h.h.1, W.op_raw h.h.2⟩
      · exact h.elim
    · rename_i hc
      split at h
      · rename_i x ha
        have h1 : readsA (.call c) ρ = blocksOf (ρ x) := by simp [readsA, hc, ha]
        have h2 : writesA (.call c) ρ = blocksOf (ρ x) := by simp [writesA, hc, ha]
        refine .inr (.inl ⟨by simp [W.isMem, hc], by simp [W.isCallV, hc], ?_⟩)
        rw [h1, h2, show W0.makes (.call c) = false by simp [W0.makes, hc]]
        exact ⟨h.h.1, W.op_raw h.h.2⟩
      · exact h.elim
    · rename_i h1 h2 h3
      refine .inr (.inr ⟨?_, ?_, fun c' f hc' => ?_, W.op_raw h⟩)
      · simp only [W.isMem]
      · simp only [W.isCallV]
      · cases hc'; exact h1 f
  | _ => first | exact .inr (.inl ⟨rfl, rfl, h.h.1, W.op_raw h.h.2⟩) | exact .inr (.inr ⟨rfl, rfl, fun c f hc => (by cases hc), W.op_raw h⟩)
/-- the records of the evaluator and those of W -/
def Rel1 (base k : Nat) (ws : List W.WR) (r : Rec) : Prop := r.op < k ∧
  ((r.isCall = false ∧ r.reads = [] ∧ r.writes = [] ∧ r.made = [base + r.op]) ∨
   ∃ x ∈ ws, x.op = r.op ∧ r.reads = x.reads ∧ (∀ c ∈ r.writes, c ∈ x.writes) ∧ r.isCall = x.isCall ∧ (r.isCall = true → r.made = [] ∧ ∀ c ∈ x.old, c < r.lo) ∧ (r.isCall = false → r.made = [base + r.op]))
theorem Rel1.more {k k' : Nat} {ws ws' : List W.WR} {r : Rec} (h : Rel1 base k ws r) (hk : k ≤ k') (hw : ∀ x ∈ ws, x ∈ ws') : Rel1 base k' ws' r := by
  refine ⟨Nat.lt_of_lt_of_le h.1 hk, ?_⟩
  rcases h.2 with h1 | ⟨x, h1, h2⟩
  · exact .inl h1
  · exact .inr ⟨x, hw x h1, h2⟩
/-- names of the region's own blocks are recorded -/
def Made (base k : Nat) (L : SH) (ws : List W.WR) : Prop := ∀ j, j < k → base + j ∈ L.names → ∃ x ∈ ws, x.op = j ∧ base + j ∈ x.made
/-- an operation that is free of W's records is free of the evaluator's -/
theorem free_meets {k : Nat} {ws : List W.WR} {mask : Nat} {r y : Rec} {wy : W.WR} (hr : Rel1 base k ws r) (hma : Made base k L ws) (hun : mask.testBit r.op = false)
    (hf : ∀ x ∈ ws.filter (fun x => !mask.testBit x.op), W.free x wy) (h1 : ∀ c ∈ y.reads, c ∈ wy.reads) (h2 : ∀ c ∈ y.writes, c ∈ wy.writes) (h3 : y.isCall = wy.isCall) (h4 : wy.writes = [] → y.writes = [])
    (hL1 : ∀ c ∈ wy.reads, c ∈ L.names) (hL2 : ∀ c ∈ wy.writes, c ∈ L.names) : meets r y = false := by
  have mem : ∀ x ∈ ws, x.op = r.op → W.free x wy := fun x hx he => hf x (by rw [List.mem_filter]; exact ⟨hx, by rw [he, hun]; rfl⟩)
  have made : ∀ c ∈ [base + r.op], c ∉ y.reads ∧ c ∉ y.writes := fun c hc => by
    rw [List.mem_singleton] at hc
    subst hc
    constructor
    · intro hy
      obtain ⟨x, g1, g2, g3⟩ := hma r.op hr.1 (hL1 _ (h1 _ hy))
      exact ((mem x g1 g2).2.2.1 _ g3).1 (h1 _ hy)
    · intro hy
      obtain ⟨x, g1, g2, g3⟩ := hma r.op hr.1 (hL2 _ (h2 _ hy))
      exact ((mem x g1 g2).2.2.1 _ g3).2 (h2 _ hy)
  rcases hr.2 with ⟨g1, g2, g3, g4⟩ | ⟨x, g1, g2, g3, g4, g5, g6, g7⟩
  · exact meets_free' (by simp [g3]) (by simp [g2]) (by rw [g4]; exact made) (by simp [g1]) (fun _ => g3)
  · obtain ⟨f1, f2, f3, f4, f5⟩ := mem x g1 g2
    refine meets_free' (fun c hc => ⟨fun h => (f1 c (g4 c hc)).1 (h1 c h), fun h => (f1 c (g4 c hc)).2 (h2 c h)⟩) (fun c hc h => f2 c (g3 ▸ hc) (h2 c h)) ?_ (fun hc => ?_) (fun hc => ?_)
    · cases hrc : r.isCall with
      | true => rw [(g6 hrc).1]; simp
      | false => rw [g7 hrc]; exact made
    · obtain ⟨e1, e2, e3⟩ := f4 (g5 ▸ hc)
      exact ⟨h3.trans e1, h4 e2, fun c h => (g6 hc).2 c (e3 c (h1 c h))⟩
    · have := f5 (h3 ▸ hc)
      cases hw : r.writes with
      | nil => rfl
      | cons c l => have h := g4 c (by rw [hw]; simp); rw [this] at h; simp at h
theorem drawStep_agree {call1 call2 : FuncId → List AV → Heap → Option (AV × Heap)} {n i mask : Nat} {τ : List AV} {H : Heap} (hag : ∀ f args H, n < H.next → call1 f args H = call2 f args H) (hn : n < H.next) : drawStep P F call1 ops base i mask τ H = drawStep P F call2 ops base i mask τ H := by
  unfold drawStep
  split
  · rfl
  · split
    · split
      · rfl
      · rw [hag _ _ _ (by show n < (hideA base mask i H).next; rw [(hide_next base mask i H).1]; exact hn)]
      · rfl
    · rfl
    · rfl
theorem drawA_agree {call1 call2 : FuncId → List AV → Heap → Option (AV × Heap)} {n : Nat} {before : List Nat} (hag : ∀ f args H, n < H.next → call1 f args H = call2 f args H) (hs : Sound P call1) : ∀ (l : List Nat) (τ : List AV) (H : Heap) (rs : List Rec) (r : List AV × Heap × List Rec), n < H.next → drawA P F call1 ops base before l τ H rs = some r → drawA P F call2 ops base before l τ H rs = some r
  | [], τ, H, rs, r, _, h => h
  | i :: l, τ, H, rs, r, hn, h => by
    have key : ∀ {τ1 H1 x}, drawStep P F call1 ops base i (before.getD i 0) τ H = some (τ1, H1, x) → H.next ≤ H1.next := fun {τ1 H1 x} hd => by
      have : ∃ l, drawA P F call1 ops base before [i] τ H [] = some (τ1, H1, l) := by
        unfold drawA
        rw [hd]
        cases x
        · exact ⟨_, rfl⟩
        · exact ⟨_, rfl⟩
      obtain ⟨l, this⟩ := this
      exact drawA_next hs [i] _ _ _ _ _ _ this
    unfold drawA at h ⊢
    rw [← drawStep_agree (call1 := call1) hag hn]
    split at h
    · rename_i hd; exact drawA_agree hag hs l _ _ _ r (Nat.lt_of_lt_of_le hn (key hd)) h
    · rename_i hd
      split at h
      · rename_i hc; rw [if_pos hc]; exact drawA_agree hag hs l _ _ _ r (Nat.lt_of_lt_of_le hn (key hd)) h
      · cases h
    · cases h
theorem range'_succ (k m : Nat) : List.range' k (m + 1) = k :: List.range' (k + 1) m := rfl
theorem dr_sound {before : List Nat} : ∀ (m k : Nat) (τ : List AV) (L : SH) (ws : List W.WR) (K : List AV → SH → Prop), W.dr P F ops before (List.range' k m) τ L ws K → ∀ (H : Heap) (rs : List Rec), Bd H → Sub L H →
    (∀ j, k ≤ j → j < k + m → base + j < H.next ∧ H.get (base + j) = none) → base + k ≤ H.next → (∀ r ∈ rs, Rel1 base k ws r) → Made base k L ws →
    ∃ call τ' H' L' rs', Sound P call ∧ Chgs call ∧ drawA P F call ops base before (List.range' k m) τ H rs = some (τ', H', rs') ∧ Fr base L H L' H' ∧ K τ' L'
  | 0, k, τ, L, ws, K, h, H, rs, hb, hs, _, _, _, _ => ⟨noCall, τ, H, L, rs, noCall_sound P, fun _ _ _ _ _ _ h => (by cases h), rfl, .refl hb hs, h⟩
  | m + 1, k, τ, L, ws, K, h, H, rs, hb, hs, hfr, hbase, hrel, hma => by
    rw [range'_succ] at h ⊢
    have h0 := hfr k (Nat.le_refl _) (by omega)
    have hlt : ∀ c, c ∈ L.names → c < H.next := fun c hc => by
      obtain ⟨x, _, hx⟩ := hs.mem hc
      rcases Nat.lt_or_ge c H.next with h1 | h1
      · exact h1
      · rw [hb c h1] at hx; cases hx
    unfold W.dr at h
    split at h
    · exact h.elim
    · rename_i o ho
      have go : ∀ (Kc : AV → SH → W.Fp → Prop), wantedA ops o τ = some true → W.dop P F (ws.filter fun x => !(before.getD k 0).testBit x.op) k o.op (aev τ) L Kc → (∀ v L1 r, Kc v L1 r → W.dr P F ops before (List.range' (k + 1) m) (putA τ o.dst v) L1 (W.push k o.op r ws) K) →
          ∃ call τ' H' L' rs', Sound P call ∧ Chgs call ∧ drawA P F call ops base before (k :: List.range' (k + 1) m) τ H rs = some (τ', H', rs') ∧ Fr base L H L' H' ∧ K τ' L' := by
        intro Kc hw hop hk
        -- a simple operation
        have val : ∀ (v : AV) (H1 : Heap) (L1 : SH) (wr : W.Fp), aop P F o.op (aev τ) (base + k) H = some (.val v H1) → OpFr (base + k) L H L1 H1 → Kc v L1 wr →
            (∀ r ∈ rs, (before.getD k 0).testBit r.op = false → meets r ⟨k, readsA o.op (aev τ), writesA o.op (aev τ), [base + k], false, 0, 0⟩ = false) →
            Rel1 base (k + 1) (W.push k o.op wr ws) ⟨k, readsA o.op (aev τ), writesA o.op (aev τ), [base + k], false, 0, 0⟩ → (∀ x ∈ ws, x ∈ W.push k o.op wr ws) → (base + k ∈ L1.names → ∃ x ∈ W.push k o.op wr ws, x.op = k ∧ base + k ∈ x.made) →
            ∃ call τ' H' L' rs', Sound P call ∧ Chgs call ∧ drawA P F call ops base before (k :: List.range' (k + 1) m) τ H rs = some (τ', H', rs') ∧ Fr base L H L' H' ∧ K τ' L' := by
          intro v H1 L1 wr g1 g2 g3 g4 g5 g6 g7
          obtain ⟨call, τ', H', L', rs', k1, k2, k3, k4, k5⟩ := dr_sound m (k + 1) (putA τ o.dst v) L1 (W.push k o.op wr ws) K (hk v L1 wr g3) { H1 with log := H.log } (⟨k, readsA o.op (aev τ), writesA o.op (aev τ), [base + k], false, 0, 0⟩ :: rs) g2.bd (g2.sub.congr fun _ => rfl) (fun j h1 h2 => by
              have hj0 := hfr j (by omega) (by omega)
              exact ⟨by show base + j < H1.next; rw [g2.next]; exact hj0.1, g2.dom _ (by omega) hj0.2⟩) (by show base + (k + 1) ≤ H1.next; rw [g2.next]; omega) (fun r hr => by
              rcases List.mem_cons.1 hr with rfl | hr
              · exact g5
              · exact (hrel r hr).more (Nat.le_succ _) g6) (fun j hj hm => by
              rcases g2.fresh _ hm with h1 | h1
              · have : j = k := by omega
                subst this
                exact g7 hm
              · have hjk : j ≠ k := fun e => by subst e; exact hs.not_mem h0.2 h1
                obtain ⟨x, e1, e2⟩ := hma j (by omega) h1
                exact ⟨x, g6 x e1, e2⟩)
          refine ⟨call, τ', H', L', rs', k1, k2, ?_, Fr.trans (H' := { H1 with log := H.log }) ⟨Nat.le_of_eq g2.next.symm, g2.bd, g2.sub.congr fun _ => rfl, g2.keep, fun c hc => g2.dom c (by omega), fun c hc hlt => (g2.fresh c hc).resolve_left (by omega)⟩ k4 (Nat.le_refl _), k5⟩
          unfold drawA drawStep
          simp only [ho, hw, g1]
          rw [if_pos]
          · exact k3
          · rw [List.all_eq_true]
            intro r hr
            cases hm : (before.getD k 0).testBit r.op with
            | true => rfl
            | false => rw [g4 r hr hm]; rfl
        rcases dop_cases hop with ⟨c, f, g, cs, e1, e2, e3, hd⟩ | ⟨hm, hcv, hfree, hop⟩ | ⟨hm, hcv, hv, hop⟩
        · -- a call
          obtain ⟨Kp, R, hL, hfree, bd, hcall⟩ := hd
          have hs' := hs.perm hL
          have hn : ∀ b, b ∈ L.names ↔ b ∈ Kp.names ∨ b ∈ R.names := fun b => by rw [(hL.map Prod.fst).mem_iff, List.map_append, List.mem_append]
          generalize hmask : before.getD k 0 = mask at hfree hop
          let Hid : Nat → Prop := fun c => ∃ j, j < k ∧ mask.testBit j = false ∧ c = base + j
          have hHid : ∀ c, Hid c → c < H.next ∧ base ≤ c := fun c ⟨j, hj, _, hc⟩ => by omega
          have hKp : ∀ c, c ∈ Kp.names → ¬ Hid c := fun c hc ⟨j, hj, hmj, hcj⟩ => by
            subst hcj
            obtain ⟨x, f1, f2, f3⟩ := hma j hj ((hn _).2 (.inl hc))
            exact ((hfree x (by rw [List.mem_filter]; exact ⟨f1, by rw [f2, hmj]; rfl⟩)).2.2.1 _ f3).2 hc
          have hhg : ∀ c, ({ hideA base mask k H with log := [] } : Heap).get c = if Hid c then none else H.get c := fun c => hide_get base mask k H c
          have hhn : ({ hideA base mask k H with log := [] } : Heap).next = H.next := (hide_next base mask k H).1
          generalize hHh : ({ hideA base mask k H with log := [] } : Heap) = Hh at hhg hhn
          have hhl : Hh.log = [] := by rw [← hHh]
          have hbh : Bd Hh := fun c hc => by
            rw [hhg]
            split
            · rfl
            · exact hb c (by omega)
          have hsh : Sub Kp Hh := ⟨hs'.left.nd, fun p hp => by rw [hhg, if_neg (hKp _ (List.mem_map_of_mem hp))]; exact hs'.left.get p hp⟩
          obtain ⟨v, H1, K1, c1, c2, c3⟩ := hcall Hh hbh hsh
          have hnx := c2.next
          let Ho : Heap := { H1 with next := H1.next + 1, log := Kp.names }
          let Hn : Heap := { showA base mask H k Ho with log := H.log }
          have hng : ∀ c, Hn.get c = if Hid c then H.get c else H1.get c := fun c => show_get base mask H k Ho c
          have hnn : Hn.next = H1.next + 1 := (show_next base mask H k Ho).1
          have hK1 : ∀ c, c ∈ K1.names → ¬ Hid c := fun c hc hh => hKp c (c2.fresh c hc (by have := (hHid c hh).1; omega)) hh
          have hR : ∀ p ∈ R, Hn.get p.1 = some p.2 ∧ p.1 ∉ K1.names := fun p hp => by
            rw [hng]
            by_cases hh : Hid p.1
            · rw [if_pos hh]; exact ⟨hs'.right.get p hp, fun hc => hK1 _ hc hh⟩
            · rw [if_neg hh]
              exact c2.keep p.1 p.2 (by rw [hhg, if_neg hh]; exact hs'.right.get p hp) (fun hk => hs'.disj hk (List.mem_map_of_mem hp))
          have frn : Fr base L H (K1 ++ R) Hn := by
            refine ⟨by rw [hnn]; omega, fun c hc => ?_, ⟨?_, fun p hp => ?_⟩, fun b x h1 h2 => ?_, fun b hb' h1 => ?_, fun b h1 h2 => ?_⟩
            · rw [hnn] at hc
              rw [hng, if_neg (fun hh => by have := (hHid c hh).1; omega)]
              exact c2.bd c (by omega)
            · unfold SH.names
              rw [List.map_append, List.nodup_append]
              refine ⟨c2.sub.nd, hs'.right.nd, fun a ha b hb he => ?_⟩
              subst he
              obtain ⟨p, hp, rfl⟩ := List.mem_map.1 hb
              exact (hR p hp).2 ha
            · rcases List.mem_append.1 hp with hp | hp
              · rw [hng, if_neg (hK1 _ (List.mem_map_of_mem hp))]; exact c2.sub.get p hp
              · exact (hR p hp).1
            · rw [hn] at h2
              have : Hn.get b = some x ∧ b ∉ K1.names := by
                rw [hng]
                by_cases hh : Hid b
                · rw [if_pos hh]; exact ⟨h1, fun hc => hK1 _ hc hh⟩
                · rw [if_neg hh]
                  exact c2.keep b x (by rw [hhg, if_neg hh]; exact h1) (fun hk => h2 (.inl hk))
              refine ⟨this.1, fun hk => ?_⟩
              unfold SH.names at hk
              rw [List.map_append, List.mem_append] at hk
              rcases hk with hk | hk
              · exact this.2 hk
              · exact h2 (.inr hk)
            · have hh : ¬ Hid b := fun hh => by have := (hHid b hh).2; omega
              rw [hng, if_neg hh]
              exact c2.dom b (by omega) (by rw [hhg, if_neg hh]; exact h1)
            · unfold SH.names at h1
              rw [List.map_append, List.mem_append] at h1
              rw [hn]
              rcases h1 with h1 | h1
              · exact .inl (c2.fresh b h1 (by omega))
              · exact .inr h1
          let r : Rec := ⟨k, [], Ho.log.filter (fun c => (Hh.get c).isSome), [], true, H.next, Ho.next⟩
          obtain ⟨call, τ', H', L', rs', k1, k2, k3, k4, k5⟩ := dr_sound m (k + 1) (putA τ o.dst v) (K1 ++ R) ((⟨k, [], Kp.names, [], true, L.names⟩ : W.WR) :: ws) K (by have := hk v _ _ (c3.h _ rfl); rw [show W.push k o.op ⟨[], Kp.names, [], L.names⟩ ws = (⟨k, [], Kp.names, [], true, L.names⟩ : W.WR) :: ws from by simp [W.push, W.isCallV, e1, e2]] at this; exact this) Hn (r :: rs) frn.bd frn.sub (fun j h1 h2 => by
              have hj0 := hfr j (by omega) (by omega)
              have hh : ¬ Hid (base + j) := fun ⟨q, hq, _, he⟩ => by omega
              refine ⟨by rw [hnn]; omega, ?_⟩
              rw [hng, if_neg hh]
              exact c2.dom _ (by omega) (by rw [hhg, if_neg hh]; exact hj0.2)) (by rw [hnn]; omega) (fun q hq => by
              rcases List.mem_cons.1 hq with rfl | hq
              · exact ⟨Nat.lt_succ_self _, .inr ⟨_, List.mem_cons_self, rfl, rfl, fun c hc => (List.mem_filter.1 hc).1, rfl, fun _ => ⟨rfl, hlt⟩, fun h => (by cases h)⟩⟩
              · exact (hrel q hq).more (Nat.le_succ _) fun x hx => List.mem_cons_of_mem _ hx) (fun j hj hm => by
              have hjk : base + j ∈ L.names := by
                rw [hn]
                unfold SH.names at hm
                rw [List.map_append, List.mem_append] at hm
                rcases hm with hm | hm
                · exact .inl (c2.fresh _ hm (by omega))
                · exact .inr hm
              have hne : j ≠ k := fun e => by subst e; exact hs.not_mem h0.2 hjk
              obtain ⟨x, f1, f2⟩ := hma j (by omega) hjk
              exact ⟨x, List.mem_cons_of_mem _ f1, f2⟩)
          refine ⟨ora g (c.args.toList.map (aev τ) ++ cs) Hh v Ho call, τ', H', L', rs', ora_sound k1 (c1.bump _) (by show Hh.next ≤ H1.next + 1; omega) bd, ora_chg k2 fun _ => c2.chg _ (by rw [hhl]; simp) (fun b hb => hb) _ (Nat.le_succ _), ?_, frn.trans k4 (Nat.le_refl _), k5⟩
          have ha : aop P F o.op (aev τ) (base + k) H = some (.call g (c.args.toList.map (aev τ) ++ cs)) := by rw [e1]; simp [aop, e2, e3]
          have hbm : before.getD k 0 = mask := hmask
          have hs1 : drawStep P F (ora g (c.args.toList.map (aev τ) ++ cs) Hh v Ho call) ops base k mask τ H = some (putA τ o.dst v, Hn, some r) := by
            unfold drawStep
            simp only [ho, hw, ha, hHh, ora_hit]
            rw [show (hideA base mask k H) = { Hh with log := H.log } from by rw [← hHh]; exact (congrArg (fun l => ({ hideA base mask k H with log := l } : Heap)) (hide_next base mask k H).2)]
            rfl
          unfold drawA
          rw [hbm, hs1]
          simp only []
          rw [if_pos]
          · refine drawA_agree (n := Hh.next) (fun f args K hK => ?_) k1 _ _ _ _ _ (by rw [hnn]; omega) k3
            exact (ora_later hK).symm
          · rw [List.all_eq_true]
            intro q hq
            cases hmq : mask.testBit q.op with
            | true => rfl
            | false =>
              rw [free_meets (wy := ⟨k, [], Kp.names, [], true, []⟩) (hrel q hq) hma hmq hfree (by simp [r]) (fun c hc => (List.mem_filter.1 hc).1) rfl (fun he => by show List.filter _ Kp.names = []; rw [show Kp.names = [] from he]; rfl) (by simp) (fun c hc => (hn c).2 (.inl hc))]
              rfl
        · -- memory
          rcases op_goes (b := base + k) hb hs h0.1 h0.2 hop with ⟨v, H1, L1, g1, g2, g3, g4⟩ | ⟨g, args, g1, g2⟩
          · have hp : W.push k o.op ⟨readsA o.op (aev τ), writesA o.op (aev τ), if W0.makes o.op then blocksOf v else [], []⟩ ws = (⟨k, readsA o.op (aev τ), writesA o.op (aev τ), if W0.makes o.op then blocksOf v else [], false, []⟩ : W.WR) :: ws := by simp [W.push, hm, hcv]
            refine val v H1 L1 _ g1 g2 (g4.h _ rfl) (fun r hr hun => ?_) (by rw [hp]; exact ⟨Nat.lt_succ_self _, .inr ⟨_, List.mem_cons_self, rfl, rfl, fun c h => h, rfl, fun h => (by cases h), fun _ => rfl⟩⟩) (fun x hx => by rw [hp]; exact List.mem_cons_of_mem _ hx) (fun hm => by rw [hp]; exact ⟨_, List.mem_cons_self, rfl, by show _ ∈ (if W0.makes o.op = true then blocksOf v else []); rw [if_pos (g3 hm).1]; exact (g3 hm).2⟩)
            exact free_meets (wy := ⟨k, readsA o.op (aev τ), writesA o.op (aev τ), [], false, []⟩) (hrel r hr) hma hun hfree (fun c h => h) (fun c h => h) rfl (fun h => h) (op_reads hop) (fun c hc => op_reads hop c (writes_reads hc))
          · obtain ⟨c, f, e1, e2⟩ := call_inv g1
            rw [e1] at hm
            simp [W.isMem, e2] at hm
        · -- no memory
          have hop' := op_calm (K2 := fun v L' => Kc v L' ⟨[], [], [], []⟩ ∧ L' = L) (fun v h => ⟨h, rfl⟩) hm hv hop
          rcases op_goes (b := base + k) hb hs h0.1 h0.2 hop' with ⟨v, H1, L1, g1, g2, g3, g4, g5⟩ | ⟨g, args, g1, g2⟩
          · obtain ⟨n1, n2⟩ := nonmem_reads (ρ := aev τ) hm
            subst g5
            have hp : W.push k o.op ⟨[], [], [], []⟩ ws = ws := by simp [W.push, hm, hcv]
            refine val v H1 _ ⟨[], [], [], []⟩ g1 g2 g4 (fun r hr hun => ?_) ⟨Nat.lt_succ_self _, .inl ⟨rfl, n1, n2, rfl⟩⟩ (fun x hx => by rw [hp]; exact hx) (fun h => absurd h (hs.not_mem h0.2))
            rw [n1, n2]
            refine meets_free' (by simp) (by simp) (by simp) (by simp) (by simp)
          · obtain ⟨c, f, e1, e2⟩ := call_inv g1
            exact absurd e2 (hv c f e1)
      split at h
      · rename_i hg
        exact go _ (wanted_none hg) h fun v L1 r h => h
      · rename_i j want hg
        split at h
        · rename_i d hd
          rcases h.h with ⟨h1, h2⟩ | ⟨h1, h2⟩
          · exact go _ (wanted_yes hg hd h1) h2 fun v L1 r h => h
          · have hps : ∀ x ∈ ws, x ∈ W.push k o.op ⟨[], [], [], L.names⟩ ws := fun x hx => by
              unfold W.push
              split
              · exact List.mem_cons_of_mem _ hx
              · exact hx
            obtain ⟨call, τ', H', L', rs', k1, k2, k3, k4, k5⟩ := dr_sound m (k + 1) (putA τ o.dst undefA) L _ K h2 H rs hb hs (fun j h1 h2 => hfr j (by omega) (by omega)) (by omega) (fun r hr => (hrel r hr).more (Nat.le_succ _) hps) (fun j hj hm => by
              have hne : j ≠ k := fun e => by subst e; exact hs.not_mem h0.2 hm
              obtain ⟨x, e1, e2⟩ := hma j (by omega) hm
              exact ⟨x, hps x e1, e2⟩)
            refine ⟨call, τ', H', L', rs', k1, k2, ?_, k4, k5⟩
            unfold drawA drawStep
            simp only [ho, wanted_no hg hd h1]
            exact k3
        · exact h.elim
/-- a region whose order is drawn -/
theorem ARun.draw {id : Nat} {τ : List AV} {L : SH} {Q : Ex → List AV → SH → Prop} (fit : Fit P F) (hst : StatOk ops) (hed : EdgesOk ops) (h : W.dr P F ops (masks ops.toList []) (List.range' 0 ops.size) τ L [] fun τ' L' => Q .normal τ' L') : ARun P (.region id ops true) τ L Q := fun H hb hs => by
  obtain ⟨call, τ', H', L', rs', k1, k2, k3, k4, k5⟩ := dr_sound (base := H.next) ops.size 0 τ L [] _ h { H with next := H.next + ops.size } [] (hb.bump _ _ (Nat.le_add_right _ _)) (hs.congr fun _ => rfl)
    (fun i _ hi => ⟨by show H.next + i < H.next + ops.size; omega, hb _ (Nat.le_add_right _ _)⟩) (by show H.next + 0 ≤ H.next + ops.size; omega) (by simp) (fun j hj => by omega)
  have hr : regionA P F call ops true τ H = some (τ', { H' with log := rs'.flatMap (·.writes) ++ H'.log }) := by
    simp only [regionA, if_true]
    rw [List.range_eq_range', k3]
  obtain ⟨n1, n2⟩ := draw_sound fit k1 k2 hst hed hr
  exact ⟨.normal, τ', _, L', ⟨n1, fun w σ a hW hτ Q hQ => n2 id w σ a hW hτ Q hQ⟩, ⟨Nat.le_trans (Nat.le_add_right _ _) k4.next, k4.bd, k4.sub.congr fun _ => rfl, k4.keep, k4.dom, k4.fresh⟩, k5⟩
end
end Go.Proofs.Ytadjimfkfmojkaa.Am

end
section
namespace Go.Proofs.Ytadjimfkfmojkaa.Am
open Go.RowKit
set_option linter.unusedVariables false
/-- a value as it reads; the blocks K are never written again -/
inductive Fz (K : SH) : AV → AV → Prop where
  | refl (v : AV) : Fz K v v
  | nils : Fz K .nils (.lst [])
  | nile : Fz K .nils .emp
  | emp : Fz K .emp (.lst [])
  | sl0 (b i : Nat) : Fz K (.sl b i 0) (.lst [])
  | sl (b i n : Nat) (x : Blk) (rows : List (List AV)) (hm : (b, x) ∈ K) (hs : 0 < x.size) (hn : 0 < n) (hl : rows.length = n) (hle : i + n ≤ x.rows.length)
      (hr : ∀ (j : Nat) (r r2 : List AV), x.rows[i + j]? = some r → rows[j]? = some r2 → r.length = r2.length)
      (hc : ∀ (j : Nat) (r r2 : List AV) (q : Nat) (a a2 : AV), x.rows[i + j]? = some r → rows[j]? = some r2 → r[q]? = some a → r2[q]? = some a2 → Fz K a a2) : Fz K (.sl b i n) (.lst rows)
  | ptr (b i off : Nat) (x : Blk) (rows : List (List AV)) (hm : (b, x) ∈ K) (hs : 0 < x.size) (hl : rows.length = x.rows.length) (hn : 0 < rows.length)
      (hr : ∀ (j : Nat) (r r2 : List AV), x.rows[j]? = some r → rows[j]? = some r2 → r.length = r2.length)
      (hc : ∀ (j : Nat) (r r2 : List AV) (q : Nat) (a a2 : AV), x.rows[j]? = some r → rows[j]? = some r2 → r[q]? = some a → r2[q]? = some a2 → Fz K a a2) : Fz K (.ptr b i off) (.pptr rows i off)
  | agg (cs cs2 : List AV) (hl : cs.length = cs2.length) (h : ∀ (i : Nat) (a a2 : AV), cs[i]? = some a → cs2[i]? = some a2 → Fz K a a2) : Fz K (.agg cs) (.agg cs2)
  | tup (cs cs2 : List AV) (hl : cs.length = cs2.length) (h : ∀ (i : Nat) (a a2 : AV), cs[i]? = some a → cs2[i]? = some a2 → Fz K a a2) : Fz K (.tup cs) (.tup cs2)
section
variable {P : Program} {F : TypeId → Option (List TypeId)} {w : World} {σ : Sig} {H H2 : Heap} {K : SH}
theorem fz_rep (hW : WRel w σ H) (hK : Sub K H) (hown : ∀ c, Own σ H2 c → Own σ H c) (hout : ∀ b ∈ K.names, ∀ pl, σ b = some pl → ¬ Own σ H2 pl.block) {a a2 : AV} (hz : Fz K a a2) : ∀ {v : Value}, Rep w σ (Own σ H) a v → Rep w σ (Own σ H2) a2 v := by
  induction hz with
  | refl v => intro u h; exact h.shrink hown
  | nils => intro u h; cases h; exact .lst0 _ _ (by unfold maxLen; omega)
  | nile => intro u h; cases h; exact .emp _
  | emp => intro u h; cases h; exact .lst0 _ _ (by unfold maxLen; omega)
  | sl0 b i =>
    intro u h
    obtain ⟨pl, ad, cap, rfl, hs, hn, hm, ha⟩ := h.sl_inv
    exact .lst0 _ _ hm
  | sl b i n x rows hm hs hn hl hle hr hc ih =>
    intro u h
    obtain ⟨pl, ad, cap, rfl, hsg, hn', hmx, ha⟩ := h.sl_inv
    obtain ⟨rfl, cs, ty, hcs, hroom⟩ := ha (by omega)
    obtain ⟨pl', cs', e', g1, g2⟩ := hW.live b x (hK.get _ hm)
    rw [hsg] at g1
    cases g1
    have row : ∀ (j : Nat) (r2 : List AV), rows[j]? = some r2 → ∃ r, x.rows[i + j]? = some r ∧ r.length = r2.length := fun j r2 h2 => by
      have hj := lt_of_some h2
      have : i + j < x.rows.length := by omega
      exact ⟨_, List.getElem?_eq_getElem this, hr j _ r2 (List.getElem?_eq_getElem this) h2⟩
    have := Rep.lst (w := w) (σ := σ) (T := Own σ H2) rows pl.block (pl.base + i * pl.size) pl.size cap
      ⟨hout b (List.mem_map_of_mem hm) pl hsg, fun q r2 h2 => by
        obtain ⟨r, k1, k2⟩ := row q r2 h2
        rw [← k2, g2.even _ r k1, g2.size], fun q j hq hj => by
        obtain ⟨r, k1, k2⟩ := row q rows[q] (List.getElem?_eq_getElem hq)
        have hj' : j < r.length := by rw [g2.even _ r k1, ← g2.size]; exact hj
        obtain ⟨u, hu, _⟩ := g2.row k1 j _ (List.getElem?_eq_getElem hj')
        rw [Nat.add_mul, ← Nat.add_assoc] at hu
        exact ⟨u, hu⟩, by rw [g2.size]; exact hs, by omega⟩ (by omega) hmx
      (fun q r2 j y u h2 hy hu => by
        obtain ⟨r, k1, k2⟩ := row q r2 h2
        have hj' : j < r.length := by rw [k2]; exact lt_of_some hy
        obtain ⟨u', hu', hz⟩ := g2.row k1 j _ (List.getElem?_eq_getElem hj')
        rw [Nat.add_mul, ← Nat.add_assoc] at hu'
        rw [hu] at hu'
        cases hu'
        exact ih q r r2 j _ y k1 h2 (List.getElem?_eq_getElem hj') hy hz)
    rw [hl] at this
    exact this
  | ptr b i off x rows hm hs hl hn hr hc ih =>
    intro u h
    cases h with
    | ptr _ _ _ pl hsg =>
    obtain ⟨pl', cs', e', g1, g2⟩ := hW.live b x (hK.get _ hm)
    rw [hsg] at g1
    cases g1
    have row : ∀ (j : Nat) (r2 : List AV), rows[j]? = some r2 → ∃ r, x.rows[j]? = some r ∧ r.length = r2.length := fun j r2 h2 => by
      have hj := lt_of_some h2
      have : j < x.rows.length := by omega
      exact ⟨_, List.getElem?_eq_getElem this, hr j _ r2 (List.getElem?_eq_getElem this) h2⟩
    exact Rep.pptr (w := w) (σ := σ) (T := Own σ H2) rows i off pl.block pl.base pl.size
      ⟨hout b (List.mem_map_of_mem hm) pl hsg, fun q r2 h2 => by
        obtain ⟨r, k1, k2⟩ := row q r2 h2
        rw [← k2, g2.even _ r k1, g2.size], fun q j hq hj => by
        obtain ⟨r, k1, k2⟩ := row q rows[q] (List.getElem?_eq_getElem hq)
        have hj' : j < r.length := by rw [g2.even _ r k1, ← g2.size]; exact hj
        obtain ⟨u, hu, _⟩ := g2.row k1 j _ (List.getElem?_eq_getElem hj')
        exact ⟨u, hu⟩, by rw [g2.size]; exact hs, by omega⟩
      (fun q r2 j y u h2 hy hu => by
        obtain ⟨r, k1, k2⟩ := row q r2 h2
        have hj' : j < r.length := by rw [k2]; exact lt_of_some hy
        obtain ⟨u', hu', hz⟩ := g2.row k1 j _ (List.getElem?_eq_getElem hj')
        rw [hu] at hu'
        cases hu'
        exact ih q r r2 j _ y k1 h2 (List.getElem?_eq_getElem hj') hy hz)
  | agg cs cs2 hl h ih =>
    intro u hu
    cases hu with
    | agg _ vs hlv hc =>
      refine .agg cs2 vs (by omega) fun q y z hy hz => ?_
      have hq : q < cs.length := by rw [hl]; exact lt_of_some hy
      exact ih q _ y (List.getElem?_eq_getElem hq) hy (hc q _ z (List.getElem?_eq_getElem hq) hz)
  | tup cs cs2 hl h ih =>
    intro u hu
    cases hu with
    | tup _ vs hlv hc =>
      refine .tup cs2 vs (by omega) fun q y z hy hz => ?_
      have hq : q < cs.length := by rw [hl]; exact lt_of_some hy
      exact ih q _ y (List.getElem?_eq_getElem hq) hy (hc q _ z (List.getElem?_eq_getElem hq) hz)
/-- values and blocks as they read; what was K is never written again -/
structure FzS (vs : List AV) (L : SH) (vs2 : List AV) (L2 : SH) : Prop where
  ex : ∃ K R : SH, L.Perm (K ++ R) ∧ (vs.length = vs2.length ∧ ∀ (i : Nat) (a a2 : AV), vs[i]? = some a → vs2[i]? = some a2 → Fz K a a2) ∧ R.length = L2.length ∧
    ∀ (i : Nat) (p q : Nat × Blk), R[i]? = some p → L2[i]? = some q → p.1 = q.1 ∧ p.2.size = q.2.size ∧ p.2.rows.length = q.2.rows.length ∧
      ∀ (j : Nat) (r r2 : List AV), p.2.rows[j]? = some r → q.2.rows[j]? = some r2 → r.length = r2.length ∧ ∀ (k : Nat) (a a2 : AV), r[k]? = some a → r2[k]? = some a2 → Fz K a a2
theorem FzS.refl (vs : List AV) (L : SH) : FzS vs L vs L := ⟨[], L, .refl _, ⟨rfl, fun i a a2 h1 h2 => by rw [h1] at h2; cases h2; exact .refl _⟩, rfl, fun i p q h1 h2 => by
  rw [h1] at h2; cases h2
  exact ⟨rfl, rfl, rfl, fun j r r2 h3 h4 => by rw [h3] at h4; cases h4; exact ⟨rfl, fun k a a2 h5 h6 => by rw [h5] at h6; cases h6; exact .refl _⟩⟩⟩
/-- the blocks K are dropped -/
theorem FzS.drop {vs vs2 : List AV} {L K R : SH} (hL : L.Perm (K ++ R)) (hl : vs.length = vs2.length) (h : ∀ (i : Nat) (a a2 : AV), vs[i]? = some a → vs2[i]? = some a2 → Fz K a a2) : FzS vs L vs2 R := ⟨K, R, hL, ⟨hl, h⟩, rfl, fun i p q h1 h2 => by
  rw [h1] at h2; cases h2
  exact ⟨rfl, rfl, rfl, fun j r r2 h3 h4 => by rw [h3] at h4; cases h4; exact ⟨rfl, fun k a a2 h5 h6 => by rw [h5] at h6; cases h6; exact .refl _⟩⟩⟩
/-- a heap with other blocks -/
def Heap.repl (H : Heap) (K : List Nat) (L2 : SH) : Heap := L2.foldl (fun H p => { H with tr := H.tr.set p.1 (some p.2) }) (K.foldl (fun H b => { H with tr := H.tr.set b none }) H)
theorem foldl_none (K : List Nat) : ∀ (H : Heap) (c : Nat), (K.foldl (fun H b => ({ H with tr := H.tr.set b none } : Heap)) H).get c = (if c ∈ K then none else H.get c) ∧ (K.foldl (fun H b => ({ H with tr := H.tr.set b none } : Heap)) H).next = H.next := by
  induction K with
  | nil => intro H c; simp
  | cons b K ih =>
    intro H c
    simp only [List.foldl_cons]
    obtain ⟨h1, h2⟩ := ih { H with tr := H.tr.set b none } c
    refine ⟨?_, h2⟩
    rw [h1]
    by_cases hc : c ∈ K
    · simp [hc]
    · have : ({ H with tr := H.tr.set b none } : Heap).get c = if b = c then none else H.get c := Tr.get_set _ _ _ _
      rw [if_neg hc, this]
      by_cases hb : b = c
      · subst hb; simp
      · rw [if_neg hb, if_neg]
        simp only [List.mem_cons, not_or]
        exact ⟨fun e => hb e.symm, hc⟩
theorem foldl_some : ∀ (L2 : SH), L2.names.Nodup → ∀ (H : Heap) (c : Nat), ((∀ x, (c, x) ∈ L2 → (L2.foldl (fun H p => ({ H with tr := H.tr.set p.1 (some p.2) } : Heap)) H).get c = some x) ∧ (c ∉ L2.names → (L2.foldl (fun H p => ({ H with tr := H.tr.set p.1 (some p.2) } : Heap)) H).get c = H.get c)) ∧ (L2.foldl (fun H p => ({ H with tr := H.tr.set p.1 (some p.2) } : Heap)) H).next = H.next := by
  intro L2
  induction L2 with
  | nil => intro _ H c; simp
  | cons p L ih =>
    intro hn H c
    simp only [List.map_cons, List.nodup_cons] at hn
    obtain ⟨⟨h1, h2⟩, h3⟩ := ih hn.2 { H with tr := H.tr.set p.1 (some p.2) } c
    have hg : ({ H with tr := H.tr.set p.1 (some p.2) } : Heap).get c = if p.1 = c then some p.2 else H.get c := Tr.get_set _ _ _ _
    refine ⟨⟨fun x hx => ?_, fun hc => ?_⟩, h3⟩
    · simp only [List.foldl_cons]
      rcases List.mem_cons.1 hx with hx | hx
      · subst hx
        rw [h2 hn.1, hg, if_pos rfl]
      · exact h1 x hx
    · simp only [List.foldl_cons]
      simp only [List.map_cons, List.mem_cons, not_or] at hc
      rw [h2 hc.2, hg, if_neg (fun e => hc.1 e.symm)]
theorem fzs_sound {vs vs2 : List AV} {L L2 : SH} (h : FzS vs L vs2 L2) (hs : Sub L H) (hb : Bd H) : ∃ H2 : Heap, Fr H.next L H L2 H2 ∧ H2.next = H.next ∧
    (∀ (w : World) (σ : Sig), WRel w σ H → WRel w σ H2 ∧ (∀ c, Own σ H2 c → Own σ H c) ∧ ∀ (us : List Value), Reps w σ (Own σ H) vs us → Reps w σ (Own σ H2) vs2 us) ∧ ∀ b, b ∉ L.names → H2.get b = H.get b := by
  obtain ⟨K, R, hL, ⟨hl, hv⟩, hlen, hR⟩ := h.ex
  have hs' := hs.perm hL
  have hn : ∀ b, b ∈ L.names ↔ b ∈ K.names ∨ b ∈ R.names := fun b => by rw [(hL.map Prod.fst).mem_iff, List.map_append, List.mem_append]
  have hnames : L2.names = R.names := by
    apply List.ext_getElem?
    intro i
    unfold SH.names
    rw [List.getElem?_map, List.getElem?_map]
    rcases Nat.lt_or_ge i R.length with hi | hi
    · have hi2 : i < L2.length := by omega
      rw [List.getElem?_eq_getElem hi, List.getElem?_eq_getElem hi2]
      simp only [Option.map_some, Option.some.injEq]
      exact (hR i _ _ (List.getElem?_eq_getElem hi) (List.getElem?_eq_getElem hi2)).1.symm
    · rw [List.getElem?_eq_none hi, List.getElem?_eq_none (by omega)]
  have hnd2 : L2.names.Nodup := by rw [hnames]; exact hs'.right.nd
  let H2 := H.repl K.names L2
  have hget : ∀ c, (∀ x, (c, x) ∈ L2 → H2.get c = some x) ∧ (c ∉ L2.names → H2.get c = if c ∈ K.names then none else H.get c) := fun c => by
    obtain ⟨⟨h1, h2⟩, _⟩ := foldl_some L2 hnd2 (K.names.foldl (fun H b => { H with tr := H.tr.set b none }) H) c
    exact ⟨h1, fun hc => (h2 hc).trans (foldl_none K.names H c).1⟩
  have hnext : H2.next = H.next := (foldl_some L2 hnd2 _ 0).2.trans (foldl_none K.names H 0).2
  -- every block of H2 is one of H
  have hold : ∀ b y, H2.get b = some y → ∃ x, H.get b = some x ∧ b ∉ K.names ∧ x.size = y.size ∧ x.rows.length = y.rows.length ∧ ∀ (j : Nat) (r r2 : List AV), x.rows[j]? = some r → y.rows[j]? = some r2 → r.length = r2.length ∧ ∀ (k : Nat) (a a2 : AV), r[k]? = some a → r2[k]? = some a2 → Fz K a a2 := fun b y hy => by
    by_cases hb2 : b ∈ L2.names
    · obtain ⟨q, hq, rfl⟩ := List.mem_map.1 hb2
      have hqy : H2.get q.1 = some q.2 := (hget q.1).1 q.2 hq
      rw [hy] at hqy
      cases hqy
      obtain ⟨i, hi, hqi⟩ := List.getElem_of_mem hq
      have hi' : i < R.length := by omega
      obtain ⟨e1, e2, e3, e4⟩ := hR i R[i] q (List.getElem?_eq_getElem hi') (by rw [List.getElem?_eq_getElem hi, hqi])
      refine ⟨R[i].2, ?_, fun hk => hs'.disj hk (hnames ▸ hb2), e2, e3, e4⟩
      rw [← e1]
      exact hs'.right.get _ (List.getElem_mem hi')
    · rw [(hget b).2 hb2] at hy
      split at hy
      · cases hy
      · rename_i hk
        exact ⟨y, hy, hk, rfl, rfl, fun j r r2 h1 h2 => by rw [h1] at h2; cases h2; exact ⟨rfl, fun k a a2 h3 h4 => by rw [h3] at h4; cases h4; exact .refl _⟩⟩
  have hout : ∀ b, b ∉ L.names → H2.get b = H.get b := fun b hbn => by
    rw [hn, not_or] at hbn
    rw [(hget b).2 (by rw [hnames]; exact hbn.2), if_neg hbn.1]
  refine ⟨H2, ⟨by rw [hnext]; exact Nat.le_refl _, fun b hb' => ?_, ⟨hnd2, fun p hp => (hget p.1).1 p.2 hp⟩, fun b x h1 h2 => ⟨by rw [hout b h2]; exact h1, fun h3 => h2 ((hn b).2 (.inr (hnames ▸ h3)))⟩, fun b _ h1 => ?_, fun b h1 _ => (hn b).2 (.inr (hnames ▸ h1))⟩, hnext, fun w σ hW => ?_, hout⟩
  · rw [hnext] at hb'
    cases hg : H2.get b with
    | none => rfl
    | some y => obtain ⟨x, hx, _⟩ := hold b y hg; rw [hb b hb'] at hx; cases hx
  · cases hg : H2.get b with
    | none => rfl
    | some y => obtain ⟨x, hx, _⟩ := hold b y hg; rw [h1] at hx; cases hx
  · have hown : ∀ c, Own σ H2 c → Own σ H c := fun c hc => by
      rcases hc with hc | ⟨b, y, pl, h1, h2, h3⟩
      · exact .inl hc
      · obtain ⟨x, hx, _⟩ := hold b y h1
        exact .inr ⟨b, x, pl, hx, h2, h3⟩
    have hnot : ∀ b ∈ K.names, ∀ pl, σ b = some pl → ¬ Own σ H2 pl.block := fun b hbK pl hpl ho => by
      obtain ⟨x, _, hx⟩ := hs'.left.mem hbK
      rcases ho with ho | ⟨b', y, pl', h1, h2, h3⟩
      · exact (hW.apart _ ho).2 ⟨b, x, pl, hx, hpl, rfl⟩
      · obtain ⟨x', hx', hk', _⟩ := hold b' y h1
        have := hW.inj b' b x' x pl' pl hx' hx h2 hpl h3
        subst this
        exact hk' hbK
    refine ⟨⟨fun b pl hb => by rw [hnext]; exact hW.named b pl hb, hW.lt, fun b y hy => ?_, fun c hc => ⟨(hW.apart c hc).1, fun ⟨b, y, pl, h1, h2, h3⟩ => ?_⟩, fun b b' y y' pl pl' h1 h2 h3 h4 h5 => ?_⟩, hown, fun us hus => ⟨by rw [← hl]; exact hus.1, fun i a2 u h1 h2 => ?_⟩⟩
    · obtain ⟨x, hx, hk, e1, e2, e3⟩ := hold b y hy
      obtain ⟨pl, cs, e, g1, g2⟩ := hW.live b x hx
      have row : ∀ (j : Nat) (r2 : List AV), y.rows[j]? = some r2 → ∃ r, x.rows[j]? = some r := fun j r2 h2 => ⟨_, List.getElem?_eq_getElem (by rw [e2]; exact lt_of_some h2)⟩
      refine ⟨pl, cs, e, g1, ⟨g2.size.trans e1, g2.block, fun i r2 h2 => ?_, by rw [← e2, ← e1]; exact g2.room, fun i r2 j a2 u h2 h3 h4 => ?_⟩⟩
      · obtain ⟨r, h1⟩ := row i r2 h2
        rw [← (e3 i r r2 h1 h2).1, g2.even i r h1, e1]
      · obtain ⟨r, h1⟩ := row i r2 h2
        obtain ⟨e4, e5⟩ := e3 i r r2 h1 h2
        have hj : j < r.length := by rw [e4]; exact lt_of_some h3
        exact fz_rep hW hs'.left hown hnot (e5 j _ a2 (List.getElem?_eq_getElem hj) h3) (g2.rep i r j _ u h1 (List.getElem?_eq_getElem hj) (by rw [e1]; exact h4))
    · obtain ⟨x, hx, _⟩ := hold b y h1
      exact (hW.apart c hc).2 ⟨b, x, pl, hx, h2, h3⟩
    · obtain ⟨x, hx, _⟩ := hold b y h1
      obtain ⟨x', hx', _⟩ := hold b' y' h2
      exact hW.inj b b' x x' pl pl' hx hx' h3 h4 h5
    · have hi : i < vs.length := by rw [hl]; exact lt_of_some h1
      exact fz_rep hW hs'.left hown hnot (hv i _ a2 (List.getElem?_eq_getElem hi) h1) (hus.2 i _ u (List.getElem?_eq_getElem hi) h2)
/-- in a piece of code -/
theorem ARun.fz {c : Code} {τ τ2 : List AV} {L L2 : SH} {Q : Ex → List AV → SH → Prop} (hz : FzS τ L τ2 L2) (h : ARun P c τ2 L2 Q) : ARun P c τ L Q := fun H hb hs => by
  obtain ⟨H2, f1, f2, f3, f4⟩ := fzs_sound hz hs hb
  obtain ⟨e, τ', H', L', h1, h2, h3⟩ := h H2 f1.bd f1.sub
  refine ⟨e, τ', H', L', ⟨by rw [← f2]; exact h1.1, fun w σ a hW hτ Q hQ => ?_⟩, f1.trans (h2.low (by rw [f2]; exact Nat.le_refl _)) (Nat.le_refl _), h3⟩
  obtain ⟨g1, g2, g3⟩ := f3 w σ hW
  refine h1.2 w σ a g1 ⟨g3 _ hτ.1, hτ.2⟩ Q fun a' w' ⟨σ', t, r, e1, m⟩ => hQ a' w' ⟨σ', t, r, ?_, fun c pl hc => by rw [← f2]; exact m c pl hc⟩
  exact ⟨e1.os, e1.tape, e1.output, e1.size, fun c hc hT => e1.keep c hc (fun h => hT (g2 c h)), e1.shape, e1.sig, e1.eqfr, e1.frame, fun c hc => (e1.own c hc).imp (g2 c) id⟩
/-- behind a call -/
theorem CallA.fz {f : FuncId} {args : List AV} {L0 : SH} {Q : AV → SH → Prop} (h : CallA P f args L0 fun v L => ∃ v2 L2, FzS [v] L [v2] L2 ∧ Q v2 L2) : CallA P f args L0 Q := ⟨h.1, fun H hb hs => by
  obtain ⟨v, H', L', h1, h2, v2, L2, hz, h3⟩ := h.2 H hb hs
  obtain ⟨H2, f1, f2, f3, f4⟩ := fzs_sound hz h2.sub h2.bd
  refine ⟨v2, H2, L2, fun w σ vs hW hvs => (h1 w σ vs hW hvs).mono ?_, h2.trans (f1.low h2.next) (Nat.le_refl _), h3⟩
  rintro e w' ⟨v', σ', rfl, k1, k2, k3, k4⟩
  obtain ⟨g1, g2, g3⟩ := f3 w' σ' k2
  have := g3 [v'] ⟨rfl, fun i a u h1 h2 => by
    match i with
    | 0 => cases h1; cases h2; exact k1
    | i + 1 => cases h1⟩
  exact ⟨v', σ', rfl, this.2 0 v2 v' rfl rfl, g1, ⟨k3.os, k3.tape, k3.output, k3.size, k3.keep, k3.shape, k3.sig, k3.eqfr, k3.frame, fun c hc => k3.own c (g2 c hc)⟩, k4⟩⟩
end
end Go.Proofs.Ytadjimfkfmojkaa.Am

end
section
namespace Go.Proofs.Ytadjimfkfmojkaa.Am
open Go.RowKit
set_option linter.unusedVariables false
/-- where slots are forgotten or read as memory that nobody writes -/
structure Hints where
  /-- behind the code whose last region is this one: the slots that are needed later -/
  join : Nat → Option (List Nat)
  /-- in a loop whose first region is this one: the slots that are needed -/
  loop : Nat → List Nat
  /-- behind a region: the slots that are frozen -/
  frz : Nat → List Nat
  /-- of a drawn region: what its edges put ahead of each operation -/
  mask : Nat → List Nat
def gather (live : List Nat) (τ : List AV) : List AV := live.map fun t => τ.getD t .junk
def slotOf (live : List Nat) (vs : List AV) (t : Nat) : AV := match live, vs with
  | [], _ => .junk
  | _, [] => .junk
  | d :: ds, v :: vs => if d = t then v else slotOf ds vs t
def spread (n : Nat) (live : List Nat) (vs : List AV) : List AV := (List.range n).map (slotOf live vs)
def firstReg : Code → Option Nat
  | .region id _ _ => some id
  | .seq a b => match firstReg a with
    | some i => some i
    | none => firstReg b
  | .cond _ a b => match firstReg a with
    | some i => some i
    | none => firstReg b
  | .block _ b => firstReg b
  | .loop b => firstReg b
  | _ => none
def lastReg : Code → Option Nat
  | .region id _ _ => some id
  | .seq a b => match lastReg b with
    | some i => some i
    | none => lastReg a
  | .cond _ a b => match lastReg b with
    | some i => some i
    | none => lastReg a
  | .block _ b => lastReg b
  | .loop b => lastReg b
  | _ => none
namespace W
abbrev Kn := List AV → SH → Prop
/-- the value of a slot, frozen -/
def frz0 (v : AV) (L : SH) (K : AV → SH → Prop) : Prop := match v with
  | .ptr b i off => ∃ x L', Del b x L L' ∧ 0 < x.size ∧ 0 < x.rows.length ∧ K (.pptr x.rows i off) L'
  | .sl b i n => ∃ x L', Del b x L L' ∧ 0 < x.size ∧ i + n ≤ x.rows.length ∧ K (.lst ((x.rows.drop i).take n)) L'
  | .nils => K (.lst []) L
  | .emp => K (.lst []) L
  | v => K v L
structure frz1 (v : AV) (L : SH) (K : AV → SH → Prop) : Prop where
  h : frz0 v L K
def frzs : List Nat → List AV → SH → Kn → Prop
  | [], τ, L, K => K τ L
  | d :: ds, τ, L, K => frz1 (τ.getD d .junk) L fun v L => frzs ds (τ.set d v) L K
structure cond (v : AV) (A B : Prop) : Prop where
  h : (v = .bool true ∧ A) ∨ (v = .bool false ∧ B)
/-- ways meet -/
structure join (J : Kn) (B : Kn → Prop) : Prop where
  h : B J
structure loop (B : List AV → SH → Kn → Prop) (vs : List AV) (L : SH) : Prop where
  h : ∃ I : Nat → Kn, (∃ n vs2 L2, FzS vs L vs2 L2 ∧ I n vs2 L2) ∧ ∀ n vs L, I n vs L → B vs L fun vs' L' => ∃ m vs2 L2, m < n ∧ FzS vs' L' vs2 L2 ∧ I m vs2 L2
section
variable (P : Program) (F : TypeId → Option (List TypeId)) (ht : Hints)
def code : Code → List AV → SH → Kn → (Nat → Kn) → Kn → Prop
  | .skip, τ, L, kn, _, _ => kn τ L
  | .label _, τ, L, kn, _, _ => kn τ L
  | .region id ops draw, τ, L, kn, _, _ => if draw then (statB ops && edgesB ops && (masks ops.toList [] == ht.mask id)) = true ∧ dr P F ops (ht.mask id) (List.range' 0 ops.size) τ L [] fun τ L => frzs (ht.frz id) τ L kn
      else sq P F ops (List.range ops.size) τ L fun τ L => frzs (ht.frz id) τ L kn
  | .seq a b, τ, L, kn, kx, kr => match (lastReg a).bind ht.join with
    | none => code a τ L (fun τ L => code b τ L kn kx kr) kx kr
    | some live => join (fun vs L => code b (spread τ.length live vs) L kn kx kr) fun j => code a τ L (fun τ L => j (gather live τ) L) kx kr
  | .cond x a b, τ, L, kn, kx, kr => cond (aev τ x) (code a τ L kn kx kr) (code b τ L kn kx kr)
  | .block id b, τ, L, kn, kx, kr => code b τ L kn (fun id' τ L => if id' = id then kn τ L else kx id' τ L) kr
  | .loop b, τ, L, kn, kx, kr => match firstReg b with
    | none => False
    | some r => loop (fun vs L next => code b (spread τ.length (ht.loop r) vs) L (fun τ L => next (gather (ht.loop r) τ) L) kx kr) (gather (ht.loop r) τ) L
  | .exit id, τ, L, _, kx, _ => kx id τ L
  | .ret, τ, L, _, _, kr => kr τ L
  | _, _, _, _, _, _ => False
def pack : List AV → AV
  | [v] => v
  | vs => .tup vs
/-- the results of a function -/
def res : List ResultVar → List AV → SH → List AV → (AV → SH → Prop) → Prop
  | [], _, L, vs, Q => Q (pack vs.reverse) L
  | .tmp t :: rs, τ, L, vs, Q => res rs τ L (τ.getD t undefA :: vs) Q
  | .cell a t :: rs, τ, L, vs, Q => match isAggA P t, sizeA P t with
    | some ag, some n => load ag n (τ.getD a undefA) L fun v => res rs τ L (v :: vs) Q
    | _, _ => False
def func (fn : Func) (c : Code) (args : List AV) (L : SH) (Q : AV → SH → Prop) : Prop :=
  code P F ht c (args ++ List.replicate (fn.ntmps - args.length) undefA) L (fun τ L => res P fn.results.toList τ L [] Q) (fun _ _ _ => False) (fun τ L => res P fn.results.toList τ L [] Q)
end
end W
section
variable {P : Program} {F : TypeId → Option (List TypeId)} {ht : Hints}
theorem slotOf_gather (τ : List AV) (t : Nat) : ∀ live : List Nat, slotOf live (gather live τ) t = .junk ∨ slotOf live (gather live τ) t = τ.getD t .junk
  | [] => .inl rfl
  | d :: ds => by
    simp only [gather, List.map_cons, slotOf]
    by_cases h : d = t
    · subst h; rw [if_pos rfl]; exact .inr rfl
    · rw [if_neg h]; exact slotOf_gather τ t ds
theorem spread_dim (live : List Nat) (τ : List AV) : Dim τ (spread τ.length live (gather live τ)) := by
  refine ⟨by simp [spread], fun i x hx => ?_⟩
  simp only [spread, List.getElem?_map] at hx
  rcases Nat.lt_or_ge i τ.length with hi | hi
  · rw [List.getElem?_range hi] at hx
    simp only [Option.map_some, Option.some.injEq] at hx
    subst hx
    rcases slotOf_gather τ i live with h | h
    · exact .inl h
    · right
      rw [h, List.getElem?_eq_getElem hi]
      simp [List.getD, hi]
  · rw [List.getElem?_eq_none (by simpa using hi)] at hx; cases hx
/-- what holds of chosen slots, holds of all -/
theorem spread_fz {n : Nat} {live : List Nat} {vs vs2 : List AV} {L L2 : SH} (h : FzS vs L vs2 L2) : FzS (spread n live vs) L (spread n live vs2) L2 := by
  obtain ⟨K, R, h1, ⟨h2, h3⟩, h4⟩ := h.ex
  refine ⟨K, R, h1, ⟨by simp [spread], fun i a a2 g1 g2 => ?_⟩, h4⟩
  simp only [spread, List.getElem?_map] at g1 g2
  cases hr : (List.range n)[i]? with
  | none => rw [hr] at g1; cases g1
  | some t =>
    rw [hr] at g1 g2
    simp only [Option.map_some, Option.some.injEq] at g1 g2
    subst g1; subst g2
    clear hr h1 h h4
    induction live generalizing vs vs2 with
    | nil => exact .refl _
    | cons d ds ih =>
      cases vs with
      | nil => cases vs2 with
        | nil => exact .refl _
        | cons y ys => simp at h2
      | cons x xs => cases vs2 with
        | nil => simp at h2
        | cons y ys =>
          simp only [slotOf]
          by_cases hd : d = t
          · rw [if_pos hd, if_pos hd]; exact h3 0 x y rfl rfl
          · rw [if_neg hd, if_neg hd]
            exact ih (by simpa using h2) fun i a a2 e1 e2 => h3 (i + 1) a a2 (by simpa using e1) (by simpa using e2)
theorem set_fz {τ : List AV} {d : Nat} {v : AV} {L K R : SH} (hL : L.Perm (K ++ R)) (hv : Fz K (τ.getD d .junk) v) : FzS τ L (τ.set d v) R := by
  refine .drop hL (by simp) fun i a a2 h1 h2 => ?_
  rw [List.getElem?_set] at h2
  by_cases hd : d = i
  · subst hd
    rw [if_pos rfl] at h2
    split at h2
    · cases h2
      rw [List.getD, h1] at hv
      exact hv
    · cases h2
  · rw [if_neg hd, h1] at h2
    cases h2
    exact .refl _
theorem Fz.rows {K : SH} {b i n : Nat} {x : Blk} (hm : (b, x) ∈ K) (hs : 0 < x.size) (hle : i + n ≤ x.rows.length) : Fz K (.sl b i n) (.lst ((x.rows.drop i).take n)) := by
  rcases Nat.eq_zero_or_pos n with rfl | hn
  · simp only [List.take_zero]; exact .sl0 b i
  · have get : ∀ (j : Nat) (r r2 : List AV), x.rows[i + j]? = some r → ((x.rows.drop i).take n)[j]? = some r2 → r = r2 := fun j r r2 h1 h2 => by
      rw [List.getElem?_take] at h2
      split at h2
      · rw [List.getElem?_drop, h1] at h2; cases h2; rfl
      · cases h2
    refine .sl b i n x _ hm hs hn (by simp; omega) hle (fun j r r2 h1 h2 => by rw [get j r r2 h1 h2]) fun j r r2 q a a2 h1 h2 h3 h4 => ?_
    have := get j r r2 h1 h2
    subst this
    rw [h3] at h4; cases h4
    exact .refl _
theorem Fz.box {K : SH} {b i off : Nat} {x : Blk} (hm : (b, x) ∈ K) (hs : 0 < x.size) (hn : 0 < x.rows.length) : Fz K (.ptr b i off) (.pptr x.rows i off) :=
  .ptr b i off x x.rows hm hs rfl hn (fun j r r2 h1 h2 => by rw [h1] at h2; cases h2; rfl) fun j r r2 q a a2 h1 h2 h3 h4 => by
    rw [h1] at h2; cases h2; rw [h3] at h4; cases h4; exact .refl _
/-- behind a piece of code, states are described anew -/
theorem ARun.post {c : Code} {τ : List AV} {L : SH} {Q Q2 : Ex → List AV → SH → Prop} (h : ARun P c τ L Q) (hq : ∀ e τ' L', Q e τ' L' → ∃ τ2 L2, FzS τ' L' τ2 L2 ∧ Q2 e τ2 L2) : ARun P c τ L Q2 := fun H hb hs => by
  obtain ⟨e, τ', H', L', h1, h2, h3⟩ := h H hb hs
  obtain ⟨τ2, L2, hz, h4⟩ := hq e τ' L' h3
  obtain ⟨H2, f1, f2, f3, f4⟩ := fzs_sound hz h2.sub h2.bd
  refine ⟨e, τ2, H2, L2, ⟨by rw [f2]; exact h1.1, fun w σ a hW hτ Q hQ => h1.2 w σ a hW hτ Q fun a' w' ⟨σ', t, r, e1, m⟩ => ?_⟩, h2.trans (f1.low h2.next) (Nat.le_refl _), h4⟩
  obtain ⟨g1, g2, g3⟩ := f3 w' σ' r
  exact hQ a' w' ⟨σ', ⟨g3 _ t.1, t.2⟩, g1, ⟨e1.os, e1.tape, e1.output, e1.size, e1.keep, e1.shape, e1.sig, e1.eqfr, e1.frame, fun c hc => e1.own c (g2 c hc)⟩, m⟩
theorem ARun.frzs {c : Code} {τ : List AV} {L : SH} {K : W.Kn} {n : Nat} : ∀ (ds : List Nat), ARun P c τ L (fun e τ' L' => e = .normal ∧ τ'.length = n ∧ W.frzs ds τ' L' K) → ARun P c τ L (fun e τ' L' => e = .normal ∧ τ'.length = n ∧ K τ' L')
  | [], h => h
  | d :: ds, h => by
    refine ARun.frzs ds (h.post ?_)
    rintro e τ' L' ⟨he, hn, hz⟩
    simp only [W.frzs] at hz
    have hz := hz.h
    simp only [W.frz0] at hz
    have set : ∀ (v : AV) (L2 : SH), FzS τ' L' (τ'.set d v) L2 → W.frzs ds (τ'.set d v) L2 K → ∃ τ2 L2, FzS τ' L' τ2 L2 ∧ e = .normal ∧ τ2.length = n ∧ W.frzs ds τ2 L2 K := fun v L2 h1 h2 => ⟨_, L2, h1, he, by simpa using hn, h2⟩
    split at hz
    · rename_i b i off hv
      obtain ⟨x, L2, h1, h2, h3, h4⟩ := hz
      refine set _ L2 (set_fz (K := [(b, x)]) h1.perm ?_) h4
      rw [hv]
      exact .box (by simp) h2 h3
    · rename_i b i k hv
      obtain ⟨x, L2, h1, h2, h3, h4⟩ := hz
      refine set _ L2 (set_fz (K := [(b, x)]) h1.perm ?_) h4
      rw [hv]
      exact .rows (by simp) h2 h3
    · rename_i hv
      refine set _ L' (set_fz (K := []) (.refl _) ?_) hz
      rw [hv]
      exact .nils
    · rename_i hv
      refine set _ L' (set_fz (K := []) (.refl _) ?_) hz
      rw [hv]
      exact .emp
    · refine set _ L' (set_fz (K := []) (.refl _) ?_) hz
      exact .refl _
theorem put_len (τ : List AV) (d : Option Tmp) (v : AV) : (putA τ d v).length = τ.length := by cases d <;> simp [putA]
theorem opsA_len {ops : Array Oper} {base : Nat} {call : FuncId → List AV → Heap → Option (AV × Heap)} : ∀ (l : List Nat) (τ : List AV) (H : Heap) (τ' : List AV) (H' : Heap), opsA P F call ops base l τ H = some (τ', H') → τ'.length = τ.length
  | [], τ, H, τ', H', h => by cases h; rfl
  | i :: l, τ, H, τ', H', h => by
    unfold opsA at h
    split at h
    · rename_i τ1 H1 hs
      rw [opsA_len l _ _ _ _ h]
      unfold stepA at hs
      repeat' (first | (cases hs; exact put_len _ _ _) | (cases hs; done) | split at hs)
    · cases h
theorem drawA_len {ops : Array Oper} {base : Nat} {before : List Nat} {call : FuncId → List AV → Heap → Option (AV × Heap)} : ∀ (l : List Nat) (τ : List AV) (H : Heap) (rs : List Rec) (τ' : List AV) (H' : Heap) (rs' : List Rec), drawA P F call ops base before l τ H rs = some (τ', H', rs') → τ'.length = τ.length
  | [], τ, H, rs, τ', H', rs', h => by cases h; rfl
  | i :: l, τ, H, rs, τ', H', rs', h => by
    have key : ∀ {mask : Nat} {τ1 : List AV} {H1 : Heap} {r : Option Rec}, drawStep P F call ops base i mask τ H = some (τ1, H1, r) → τ1.length = τ.length := fun {mask τ1 H1 r} hs => by
      unfold drawStep at hs
      repeat' (first | (cases hs; exact put_len _ _ _) | (cases hs; done) | split at hs)
    unfold drawA at h
    split at h
    · rename_i hs; rw [drawA_len l _ _ _ _ _ _ h, key hs]
    · rename_i hs
      split at h
      · rw [drawA_len l _ _ _ _ _ _ h, key hs]
      · cases h
    · cases h
theorem ARun.region' {ops : Array Oper} {id : Nat} {τ : List AV} {L : SH} {K : W.Kn} (fit : Fit P F) (h : W.sq P F ops (List.range ops.size) τ L K) : ARun P (.region id ops false) τ L fun e τ' L' => e = .normal ∧ τ'.length = τ.length ∧ K τ' L' := fun H hb hs => by
  obtain ⟨call, τ', H', L', k1, k2, k3, k4, k5⟩ := sq_sound (base := H.next) (List.range ops.size) τ L _ h List.nodup_range { H with next := H.next + ops.size } (hb.bump _ _ (Nat.le_add_right _ _)) (hs.congr fun _ => rfl)
    (fun i hi => ⟨Nat.add_lt_add_left (List.mem_range.1 hi) _, hb _ (Nat.le_add_right _ _)⟩) (Nat.le_add_right _ _)
  have hr : regionA P F call ops false τ H = some (τ', H') := by simp only [regionA, Bool.false_eq_true, if_false]; exact k3
  exact ⟨.normal, τ', H', L', region_sound fit k1 hr, ⟨Nat.le_trans (Nat.le_add_right _ _) k4.next, k4.bd, k4.sub, k4.keep, k4.dom, k4.fresh⟩, rfl, opsA_len _ _ _ _ _ k3, k5⟩
theorem ARun.draw' {ops : Array Oper} {id : Nat} {τ : List AV} {L : SH} {K : W.Kn} (fit : Fit P F) (hst : StatOk ops) (hed : EdgesOk ops) (h : W.dr P F ops (masks ops.toList []) (List.range' 0 ops.size) τ L [] K) : ARun P (.region id ops true) τ L fun e τ' L' => e = .normal ∧ τ'.length = τ.length ∧ K τ' L' := fun H hb hs => by
  obtain ⟨call, τ', H', L', rs', k1, k2, k3, k4, k5⟩ := dr_sound (base := H.next) ops.size 0 τ L [] _ h { H with next := H.next + ops.size } [] (hb.bump _ _ (Nat.le_add_right _ _)) (hs.congr fun _ => rfl)
    (fun i _ hi => ⟨by show H.next + i < H.next + ops.size; omega, hb _ (Nat.le_add_right _ _)⟩) (by show H.next + 0 ≤ H.next + ops.size; omega) (by simp) (fun j hj => by omega)
  have hr : regionA P F call ops true τ H = some (τ', { H' with log := rs'.flatMap (·.writes) ++ H'.log }) := by
    simp only [regionA, if_true]
    rw [List.range_eq_range', k3]
  obtain ⟨n1, n2⟩ := draw_sound fit k1 k2 hst hed hr
  exact ⟨.normal, τ', _, L', ⟨n1, fun w σ a hW hτ Q hQ => n2 id w σ a hW hτ Q hQ⟩, ⟨Nat.le_trans (Nat.le_add_right _ _) k4.next, k4.bd, k4.sub.congr fun _ => rfl, k4.keep, k4.dom, k4.fresh⟩, rfl, drawA_len _ _ _ _ _ _ _ k3, k5⟩
/-- the state at the end of code, by the way in which it ends -/
def Ends (n : Nat) (kn : W.Kn) (kx : Nat → W.Kn) (kr : W.Kn) (e : Ex) (τ : List AV) (L : SH) : Prop := τ.length = n ∧ match e with
  | .normal => kn τ L
  | .exit id => kx id τ L
  | .ret => kr τ L
theorem code_sound (fit : Fit P F) : ∀ (c : Code) (τ : List AV) (L : SH) (kn : W.Kn) (kx : Nat → W.Kn) (kr : W.Kn), W.code P F ht c τ L kn kx kr → ARun P c τ L (Ends τ.length kn kx kr)
  | .skip, τ, L, kn, kx, kr, h => .skip ⟨rfl, h⟩
  | .label l, τ, L, kn, kx, kr, h => .label ⟨rfl, h⟩
  | .exit id, τ, L, kn, kx, kr, h => .exit ⟨rfl, h⟩
  | .ret, τ, L, kn, kx, kr, h => .ret ⟨rfl, h⟩
  | .region id ops draw, τ, L, kn, kx, kr, h => by
    simp only [W.code] at h
    have fin : ARun P (.region id ops draw) τ L (fun e τ' L' => e = .normal ∧ τ'.length = τ.length ∧ kn τ' L') → ARun P (.region id ops draw) τ L (Ends τ.length kn kx kr) := fun h => h.mono fun e τ' L' ⟨h1, h2, h3⟩ => by subst h1; exact ⟨h2, h3⟩
    cases draw with
    | false => exact fin (.frzs _ (.region' fit h))
    | true =>
      simp only [if_true, Bool.and_eq_true] at h
      have hm := h.2
      rw [← eq_of_beq h.1.2] at hm
      exact fin (.frzs _ (.draw' fit (statB_ok h.1.1.1) (edgesB_ok h.1.1.2) hm))
  | .seq a b, τ, L, kn, kx, kr, h => by
    simp only [W.code] at h
    split at h
    · refine ARun.seq ((code_sound fit a τ L _ kx kr h).mono fun e τ' L' ⟨h1, h2⟩ => ?_)
      cases e with
      | normal => simp only; rw [← h1]; exact code_sound fit b τ' L' kn kx kr h2
      | exit id => exact ⟨h1, h2⟩
      | ret => exact ⟨h1, h2⟩
    · rename_i live _
      have hB := h.h
      refine ARun.seq ((code_sound fit a τ L _ kx kr hB).mono fun e τ' L' ⟨h1, h2⟩ => ?_)
      cases e with
      | normal =>
        have h5 := code_sound fit b _ L' kn kx kr h2
        have hlen : (spread τ.length live (gather live τ')).length = τ.length := by simp [spread]
        rw [hlen] at h5
        have hd := spread_dim live τ'
        rw [h1] at hd
        exact ARun.dim hd h5
      | exit id => exact ⟨h1, h2⟩
      | ret => exact ⟨h1, h2⟩
  | .cond x a b, τ, L, kn, kx, kr, h => by
    rcases h.h with ⟨h1, h2⟩ | ⟨h1, h2⟩
    · exact ARun.cond (t := true) h1 (code_sound fit a τ L kn kx kr h2)
    · exact ARun.cond (t := false) h1 (code_sound fit b τ L kn kx kr h2)
  | .block id b, τ, L, kn, kx, kr, h => by
    refine ARun.block ((code_sound fit b τ L _ _ kr h).mono fun e τ' L' ⟨h1, h2⟩ => ?_)
    cases e with
    | normal => exact ⟨h1, h2⟩
    | ret => exact ⟨h1, h2⟩
    | exit id' =>
      simp only [Ex.leave]
      simp only at h2
      by_cases hid : id' = id
      · rw [if_pos hid] at h2 ⊢; exact ⟨h1, h2⟩
      · rw [if_neg hid] at h2 ⊢; exact ⟨h1, h2⟩
  | .loop b, τ, L, kn, kx, kr, h => by
    simp only [W.code] at h
    split at h
    · exact h.elim
    · rename_i r _
      obtain ⟨I, ⟨n, vs0, L0, hz0, h0⟩, hB⟩ := h.h
      refine ARun.loop (fun m τ' L' => τ'.length = τ.length ∧ ∃ vs2 L2, FzS (gather (ht.loop r) τ') L' vs2 L2 ∧ I m vs2 L2) (fun m τ' L' ⟨h1, vs2, L2, hz, h2⟩ => ?_) n ⟨rfl, vs0, L0, hz0, h0⟩
      have h4 := code_sound fit b _ L2 _ kx kr (hB m vs2 L2 h2)
      have hlen : (spread τ.length (ht.loop r) vs2).length = τ.length := by simp [spread]
      rw [hlen] at h4
      have h5 := ARun.fz (spread_fz (n := τ.length) (live := ht.loop r) hz) h4
      have hd := spread_dim (ht.loop r) τ'
      rw [h1] at hd
      refine (ARun.dim hd h5).mono fun e τ1 L1 ⟨g1, g2⟩ => ?_
      cases e with
      | normal =>
        obtain ⟨m', vs3, L3, k1, k2, k3⟩ := g2
        exact ⟨m', k1, g1, vs3, L3, k2, k3⟩
      | exit id => exact ⟨g1, g2⟩
      | ret => exact ⟨g1, g2⟩
  | .rangeFunc .., _, _, _, _, _, h => h.elim
  | .scope _, _, _, _, _, _, h => h.elim
  | .goto _, _, _, _, _, _, h => h.elim
  | .refuse _, _, _, _, _, _, h => h.elim
theorem res_ok {τ : List AV} {L : SH} {H : Heap} {Q : AV → SH → Prop} (hs : Sub L H) : ∀ (rs : List ResultVar) (vs : List AV), W.res P rs τ L vs Q → ∃ us, allSome (rs.map (resultA P τ H)) = some us ∧ Q (W.pack (vs.reverse ++ us)) L
  | [], vs, h => ⟨[], rfl, by simpa [W.res] using h⟩
  | .tmp t :: rs, vs, h => by
    obtain ⟨us, h1, h2⟩ := res_ok hs rs _ h
    refine ⟨τ.getD t undefA :: us, ?_, by simpa using h2⟩
    simp only [List.map_cons, resultA, allSome, h1]
  | .cell a t :: rs, vs, h => by
    simp only [W.res] at h
    split at h
    · rename_i ag n hag hn
      obtain ⟨v, g1, g2⟩ := load_ok hs hag hn h.h
      obtain ⟨us, h1, h2⟩ := res_ok hs rs _ g2
      refine ⟨v :: us, ?_, by simpa using h2⟩
      simp only [List.map_cons, resultA, g1, allSome, h1]
    · exact h.elim
/-- a function, by what its body demands -/
theorem func_sound (fit : Fit P F) {f : FuncId} {fn : Func} {c : Code} {args : List AV} {L : SH} {Q : AV → SH → Prop} (hf : P.funcs[f]? = some fn) (hb : fn.body = some c) (h : W.func P F ht fn c args L Q) : CallA P f args L Q := by
  refine ⟨⟨fn, c, hf, hb⟩, fun H hB hs => ?_⟩
  obtain ⟨e, τ', H', L', k1, k2, k3, k4⟩ := code_sound fit c _ L _ _ _ h H hB hs
  have hres : (e = .normal ∨ e = .ret) ∧ W.res P fn.results.toList τ' L' [] Q := by
    cases e with
    | normal => exact ⟨.inl rfl, k4⟩
    | ret => exact ⟨.inr rfl, k4⟩
    | exit id => exact k4.elim
  obtain ⟨he, hr⟩ := hres
  obtain ⟨us, r1, r2⟩ := res_ok k2.sub _ _ hr
  have hv : resultsA P τ' H' fn.results.toList = some (W.pack us) := by
    unfold resultsA
    rw [r1]
    match us with
    | [] => rfl
    | [v] => rfl
    | v :: u :: l => rfl
  simp only [List.reverse_nil, List.nil_append] at r2
  refine ⟨_, H', L', fun w σ vs hW hvs => ?_, k2, r2⟩
  refine calls_of_wp hf hb (k1.2 w σ _ hW ⟨⟨by simp [hvs.1], fun i x u h1 h2 => ?_⟩, rfl⟩ _ fun a' w' haf => ?_)
  · simp only [Array.toList_append, Array.toList_replicate] at h2
    rcases Nat.lt_or_ge i args.length with hi | hi
    · rw [List.getElem?_append_left hi] at h1
      rw [List.getElem?_append_left (by rw [← hvs.1]; exact hi)] at h2
      exact hvs.2 i x u h1 h2
    · rw [List.getElem?_append_right hi, List.getElem?_replicate] at h1
      rw [List.getElem?_append_right (by rw [← hvs.1]; exact hi), List.getElem?_replicate] at h2
      split at h1
      · split at h2
        · cases h1; cases h2; exact undef_rep
        · cases h2
      · cases h1
  · obtain ⟨σ', t1, g1, e1, m1⟩ := haf
    obtain ⟨v', q1, q2⟩ := results_sound (P := P) g1 t1 hv
    have hpost : a'.defers = [] ∧ ∃ v, (results fn a'.tmps).run P w' = .ok v w' ∧ ∃ v' σ', Ending.returned v = .returned v' ∧ Rep w' σ' (Own σ' H') _ v' ∧ WRel w' σ' H' ∧ Ext w σ (Own σ H) w' σ' (Own σ' H') ∧ ∀ c pl, σ' c = some pl → σ c = some pl ∨ H.next ≤ c :=
      ⟨t1.2, v', q1, v', σ', rfl, q2, g1, e1, m1⟩
    rcases he with rfl | rfl
    · exact hpost
    · exact hpost
end
end Go.Proofs.Ytadjimfkfmojkaa.Am

end
section
namespace Go.Proofs.Ytadjimfkfmojkaa.Am
/-- the field types of a flat struct type -/
def flatOf (P : Program) (t : TypeId) : Option (List TypeId) := match P.underlying t with
  | some (.struct fs) => if (!P.stoodInHeld t && !P.eqGuardType P.depth t && fs.toList.zipIdx.all fun p => p.1.offset == p.2 && p.1.name != "_" && (match isAggA P p.1.type with | some false => true | _ => false)) = true then some (fs.toList.map (·.type)) else none
  | _ => none
theorem flatOf_ok {P : Program} {t : TypeId} {ts : List TypeId} (h : flatOf P t = some ts) : FlatT P t ts := by
  unfold flatOf at h
  split at h
  · rename_i fs hu
    split at h
    · rename_i hc
      cases h
      simp only [Bool.and_eq_true, Bool.not_eq_true', List.all_eq_true] at hc
      have hf : P.fieldsOf t = fs := by simp [Program.fieldsOf, hu]
      refine ⟨by rw [hf]; exact hu, hc.1.1, hc.1.2, by rw [hf], fun i f hi => ?_⟩
      rw [hf] at hi
      have := hc.2 (f, i) (by rw [List.mem_iff_getElem?]; exact ⟨i, by rw [List.getElem?_zipIdx, hi]; simp⟩)
      simp only [beq_iff_eq, bne_iff_ne] at this
      refine ⟨this.1.2, this.1.1, ?_⟩
      have h2 := this.2
      split at h2
      · assumption
      · cases h2
    · cases h
  · cases h
noncomputable def Fl : TypeId → Option (List TypeId) := flatOf Try.prog
set_option maxRecDepth 1000000 in
theorem checkedAll : Try.prog.funcs.toList.all funcB = true := by kernel_rfl
theorem fit : Fit Try.prog Fl := ⟨fun t ts h => flatOf_ok h, (goods checkedAll).1, by kernel_rfl⟩
end Go.Proofs.Ytadjimfkfmojkaa.Am

end
section
namespace Go.Proofs.Ytadjimfkfmojkaa.Am
set_option linter.unusedVariables false
section
variable {P : Program} {F : TypeId → Option (List TypeId)} {K : AV → Prop} {KL : AV → SH → Prop} {L : SH}
theorem opt_some (v : AV) : W0.opt (some v) K = K v := propext ⟨fun ⟨u, h1, h2⟩ => by cases h1; exact h2, fun h => ⟨v, rfl, h⟩⟩
theorem opt_none : W0.opt none K = False := propext ⟨fun ⟨u, h1, h2⟩ => (by cases h1), fun h => h.elim⟩
theorem pick_t (x y : AV) : W.pick (.bool true) x y K = K x := propext ⟨fun ⟨t, h1, h2⟩ => by cases h1; exact h2, fun h => ⟨true, rfl, h⟩⟩
theorem pick_f (x y : AV) : W.pick (.bool false) x y K = K y := propext ⟨fun ⟨t, h1, h2⟩ => by cases h1; exact h2, fun h => ⟨false, rfl, h⟩⟩
theorem grd_t (p : Bool) (A : (AV → SH → Prop) → Prop) : W.grd (.bool p) true A L KL = ((p = true → A KL) ∧ (p = false → KL undefA L)) := propext ⟨fun ⟨h⟩ => by
    rcases h with ⟨h1, h2⟩ | ⟨h1 | h1, h2⟩
    · cases h1; exact ⟨fun _ => h2, fun h => (by cases h)⟩
    · cases h1; exact ⟨fun h => (by cases h), fun _ => h2⟩
    · (cases h1), fun ⟨h1, h2⟩ => by
    cases p with
    | true => exact ⟨.inl ⟨rfl, h1 rfl⟩⟩
    | false => exact ⟨.inr ⟨.inl rfl, h2 rfl⟩⟩⟩
theorem grd_f (p : Bool) (A : (AV → SH → Prop) → Prop) : W.grd (.bool p) false A L KL = ((p = false → A KL) ∧ (p = true → KL undefA L)) := propext ⟨fun ⟨h⟩ => by
    rcases h with ⟨h1, h2⟩ | ⟨h1 | h1, h2⟩
    · cases h1; exact ⟨fun _ => h2, fun h => (by cases h)⟩
    · cases h1; exact ⟨fun h => (by cases h), fun _ => h2⟩
    · (cases h1), fun ⟨h1, h2⟩ => by
    cases p with
    | false => exact ⟨.inl ⟨rfl, h1 rfl⟩⟩
    | true => exact ⟨.inr ⟨.inl rfl, h2 rfl⟩⟩⟩
theorem dgrd_t {KF : AV → SH → W.Fp → Prop} (p : Bool) (A : (AV → SH → W.Fp → Prop) → Prop) : W.dgrd (.bool p) true A L KF = ((p = true → A KF) ∧ (p = false → KF undefA L ⟨[], [], [], L.names⟩)) := propext ⟨fun ⟨h⟩ => by
    rcases h with ⟨h1, h2⟩ | ⟨h1 | h1, h2⟩
    · cases h1; exact ⟨fun _ => h2, fun h => (by cases h)⟩
    · cases h1; exact ⟨fun h => (by cases h), fun _ => h2⟩
    · (cases h1), fun ⟨h1, h2⟩ => by
    cases p with
    | true => exact ⟨.inl ⟨rfl, h1 rfl⟩⟩
    | false => exact ⟨.inr ⟨.inl rfl, h2 rfl⟩⟩⟩
theorem dgrd_f {KF : AV → SH → W.Fp → Prop} (p : Bool) (A : (AV → SH → W.Fp → Prop) → Prop) : W.dgrd (.bool p) false A L KF = ((p = false → A KF) ∧ (p = true → KF undefA L ⟨[], [], [], L.names⟩)) := propext ⟨fun ⟨h⟩ => by
    rcases h with ⟨h1, h2⟩ | ⟨h1 | h1, h2⟩
    · cases h1; exact ⟨fun _ => h2, fun h => (by cases h)⟩
    · cases h1; exact ⟨fun h => (by cases h), fun _ => h2⟩
    · (cases h1), fun ⟨h1, h2⟩ => by
    cases p with
    | false => exact ⟨.inl ⟨rfl, h1 rfl⟩⟩
    | true => exact ⟨.inr ⟨.inl rfl, h2 rfl⟩⟩⟩
theorem cond_b (p : Bool) (A B : Prop) : W.cond (.bool p) A B = ((p = true → A) ∧ (p = false → B)) := propext ⟨fun ⟨h⟩ => by
    rcases h with ⟨h1, h2⟩ | ⟨h1, h2⟩
    · cases h1; exact ⟨fun _ => h2, fun h => (by cases h)⟩
    · cases h1; exact ⟨fun h => (by cases h), fun _ => h2⟩, fun ⟨h1, h2⟩ => by
    cases p with
    | true => exact ⟨.inl ⟨rfl, h1 rfl⟩⟩
    | false => exact ⟨.inr ⟨rfl, h2 rfl⟩⟩⟩
theorem bin_eq (op : BinOp) (t : TypeId) (x y : AV) : W.bin P F op t x y K = W0.opt (binA P F op t x y) K := propext ⟨fun h => h.h, fun h => ⟨h⟩⟩
theorem lss_i (t : TypeId) (k : IntKind) (a b : Int) : W.bin P F .lss t (.int k a) (.int k b) K = K (.bool (decide (a < b))) := by rw [bin_eq]; simp [binA, opt_some]
theorem leq_i (t : TypeId) (k : IntKind) (a b : Int) : W.bin P F .leq t (.int k a) (.int k b) K = K (.bool (decide (a ≤ b))) := by rw [bin_eq]; simp [binA, opt_some]
theorem gtr_i (t : TypeId) (k : IntKind) (a b : Int) : W.bin P F .gtr t (.int k a) (.int k b) K = K (.bool (decide (b < a))) := by rw [bin_eq]; simp [binA, opt_some]
theorem geq_i (t : TypeId) (k : IntKind) (a b : Int) : W.bin P F .geq t (.int k a) (.int k b) K = K (.bool (decide (b ≤ a))) := by rw [bin_eq]; simp [binA, opt_some]
theorem eql_i (t : TypeId) (k : IntKind) (a b : Int) : W.bin P F .eql t (.int k a) (.int k b) K = K (.bool (decide (a = b))) := by
  rw [bin_eq]; simp only [binA, ne_eq, not_true_eq_false, if_false, opt_some]; rw [show (a == b) = decide (a = b) from by cases h : (a == b) <;> simp_all]
theorem neq_i (t : TypeId) (k : IntKind) (a b : Int) : W.bin P F .neq t (.int k a) (.int k b) K = K (.bool (decide (a ≠ b))) := by
  rw [bin_eq]; simp only [binA, ne_eq, not_true_eq_false, if_false, opt_some]; rw [show (a != b) = decide (¬ a = b) from by cases h : (a != b) <;> simp_all]
theorem add_i (t : TypeId) (k : IntKind) (a b : Int) : W.bin P F .add t (.int k a) (.int k b) K = K (.int k (k.wrap (a + b))) := by rw [bin_eq]; simp [binA, opt_some]
theorem sub_i (t : TypeId) (k : IntKind) (a b : Int) : W.bin P F .sub t (.int k a) (.int k b) K = K (.int k (k.wrap (a - b))) := by rw [bin_eq]; simp [binA, opt_some]
theorem mul_i (t : TypeId) (k : IntKind) (a b : Int) : W.bin P F .mul t (.int k a) (.int k b) K = K (.int k (k.wrap (a * b))) := by rw [bin_eq]; simp [binA, opt_some]
theorem quo_i (t : TypeId) (k : IntKind) (a b : Int) : W.bin P F .quo t (.int k a) (.int k b) K = (b ≠ 0 ∧ K (.int k (k.wrap (a.tdiv b)))) := by
  rw [bin_eq]; by_cases h : b = 0 <;> simp [binA, opt_some, opt_none, h]
theorem rem_i (t : TypeId) (k : IntKind) (a b : Int) : W.bin P F .rem t (.int k a) (.int k b) K = (b ≠ 0 ∧ K (.int k (a.tmod b))) := by
  rw [bin_eq]; by_cases h : b = 0 <;> simp [binA, opt_some, opt_none, h]
theorem eql_s (t : TypeId) (a b : List UInt8) : W.bin P F .eql t (.str a) (.str b) K = K (.bool (decide (a = b))) := by
  rw [bin_eq]; simp only [binA, opt_some]; rw [show (a == b) = decide (a = b) from by cases h : (a == b) <;> simp_all]
theorem neq_s (t : TypeId) (a b : List UInt8) : W.bin P F .neq t (.str a) (.str b) K = K (.bool (decide (a ≠ b))) := by
  rw [bin_eq]; simp only [binA, opt_some]; rw [show (!(a == b)) = decide (a ≠ b) from by cases h : (a == b) <;> simp_all]
theorem eql_b (t : TypeId) (h : P.underlying t = some .bool) (a b : Bool) : W.bin P F .eql t (.bool a) (.bool b) K = K (.bool (a == b)) := by rw [bin_eq]; simp [binA, eqA, h, opt_some]
theorem neq_b (t : TypeId) (h : P.underlying t = some .bool) (a b : Bool) : W.bin P F .neq t (.bool a) (.bool b) K = K (.bool (!(a == b))) := by rw [bin_eq]; simp [binA, eqA, h, opt_some]
theorem un_not (b : Bool) : W.un .not (.bool b) K = K (.bool !b) := propext ⟨fun ⟨v, h1, h2⟩ => by cases h1; exact h2, fun h => ⟨_, rfl, h⟩⟩
theorem un_neg (k : IntKind) (n : Int) : W.un .neg (.int k n) K = K (.int k (k.wrap (0 - n))) := propext ⟨fun ⟨v, h1, h2⟩ => by cases h1; exact h2, fun h => ⟨_, rfl, h⟩⟩
theorem conv_i (k k' : IntKind) (n : Int) : W.conv k (.int k' n) K = K (.int k (k.wrap n)) := propext ⟨fun ⟨k2, m, h1, h2⟩ => by cases h1; exact h2, fun h => ⟨_, _, rfl, h⟩⟩
theorem convS_s (s : List UInt8) : W.convS (.str s) K = K (.str s) := propext ⟨fun ⟨s, h1, h2⟩ => by cases h1; exact h2, fun h => ⟨_, rfl, h⟩⟩
theorem call_eq (g : FuncId) (cs args : List AV) : W.call P (.fn g cs) args L KL = CallA P g (args ++ cs) L KL := propext ⟨fun h => h.h, fun h => ⟨h⟩⟩
theorem dcall_eq {KN : AV → SH → List Nat → Prop} (us : List W.WR) (i : Nat) (g : FuncId) (cs args : List AV) : W.dcall P us i (.fn g cs) args L KN = ∃ Kc R : SH, L.Perm (Kc ++ R) ∧ (∀ x ∈ us, W.free x ⟨i, [], Kc.names, [], true, []⟩) ∧ CallA P g (args ++ cs) Kc fun v K' => KN v (K' ++ R) Kc.names := propext ⟨fun h => h.h, fun h => ⟨h⟩⟩
theorem note_eq {KF : W.Fp → Prop} (r : W.Fp) : W.note r KF = KF r := propext ⟨fun h => h.h r rfl, fun h => ⟨fun r' e => e ▸ h⟩⟩
/-- a pure call -/
def PureA (P : Program) (f : FuncId) (args : List AV) (v : AV) : Prop := CallA P f args [] fun u K => u = v ∧ K = []
theorem PureA.call {f : FuncId} {args : List AV} {v : AV} (h : PureA P f args v) (hk : KL v L) : CallA P f args L KL :=
  CallA.frame h (K := []) (R := L) (.refl _) fun u K ⟨h1, h2⟩ => by subst h1; subst h2; exact hk
theorem PureA.dcall {KN : AV → SH → List Nat → Prop} {us : List W.WR} {i : Nat} {g : FuncId} {cs args : List AV} {v : AV} (h : PureA P g (args ++ cs) v) (hf : ∀ x ∈ us, W.free x ⟨i, [], [], [], true, []⟩) (hk : KN v L []) : W.dcall P us i (.fn g cs) args L KN :=
  ⟨[], L, .refl _, hf, CallA.mono h fun u K ⟨h1, h2⟩ => by subst h1; subst h2; exact hk⟩
end
end Go.Proofs.Ytadjimfkfmojkaa.Am

end
section
namespace Go.Proofs.Ytadjimfkfmojkaa.Am
set_option linter.unusedVariables false
set_option maxRecDepth 100000
def ref08_Fits_t : Hints := ⟨fun k => none, fun k => if k = 2 then [2, 3, 5] else [], fun k => if k = 0 then [2, 3] else [], fun k => if k = 4 then [0, 1, 0, 7, 15, 31, 63, 127, 255, 511, 255, 2047, 4095, 8191, 255, 16639, 49407, 131071, 262143] else []⟩
def ref08_Fits_zt0 (vs_8 : List AV) (L_10 : SH) (Q : AV → SH → Prop) (nx_9 : W.Kn)  : Prop :=
 (true = true) ∧ (
 W.faddr 2 (slotOf [2, 3, 5] vs_8 2) fun t13_15 =>
 W.calm [] ⟨1, (blocksOf t13_15), [], [], false, []⟩ (
 W.load false 1 t13_15 L_10 fun t14_16 =>
 W.note ⟨(blocksOf t13_15), [], [], []⟩ fun r_17 =>
 W.calm [] ⟨3, (slOf t14_16), [], [], false, []⟩ (
 W.idx 2 t14_16 (slotOf [2, 3, 5] vs_8 5) L_10 fun t16_18 =>
 W.note ⟨(slOf t14_16), [], [], []⟩ fun r_19 =>
 W.faddr 1 t16_18 fun t17_20 =>
 W.calm [] ⟨5, (blocksOf t17_20), [], [], false, []⟩ (
 W.load false 1 t17_20 L_10 fun t18_21 =>
 W.note ⟨(blocksOf t17_20), [], [], []⟩ fun r_22 =>
 W.bin Try.prog Fl .lss 3 t18_21 (.int .i64 0) fun t19_23 =>
 W.dgrd t19_23 false (fun k_25 => W.faddr 2 (slotOf [2, 3, 5] vs_8 2) fun v_28 =>
 k_25 v_28 L_10 ⟨[], [], [], []⟩) L_10 fun t21_24 L_27 r_26 =>
 W.dgrd t19_23 false (fun k_30 => W.calm [] ⟨9, (blocksOf t21_24), [], [], false, []⟩ (
 W.load false 1 t21_24 L_27 fun v_33 =>
 W.note ⟨(blocksOf t21_24), [], [], []⟩ fun r_34 =>
 k_30 v_33 L_27 r_34)) L_27 fun t22_29 L_32 r_31 =>
 W.dgrd t19_23 false (fun k_36 => k_36 (slotOf [2, 3, 5] vs_8 5) L_32 ⟨[], [], [], []⟩) L_32 fun t23_35 L_38 r_37 =>
 W.dgrd t19_23 false (fun k_40 => W.calm [] ⟨11, (slOf t22_29), [], [], false, []⟩ (
 W.idx 2 t22_29 t23_35 L_38 fun v_43 =>
 W.note ⟨(slOf t22_29), [], [], []⟩ fun r_44 =>
 k_40 v_43 L_38 r_44)) L_38 fun t24_39 L_42 r_41 =>
 W.dgrd t19_23 false (fun k_46 => W.faddr 1 t24_39 fun v_49 =>
 k_46 v_49 L_42 ⟨[], [], [], []⟩) L_42 fun t25_45 L_48 r_47 =>
 W.dgrd t19_23 false (fun k_51 => W.calm [] ⟨13, (blocksOf t25_45), [], [], false, []⟩ (
 W.load false 1 t25_45 L_48 fun v_54 =>
 W.note ⟨(blocksOf t25_45), [], [], []⟩ fun r_55 =>
 k_51 v_54 L_48 r_55)) L_48 fun t26_50 L_53 r_52 =>
 W.dgrd t19_23 false (fun k_57 => W.faddr 1 (slotOf [2, 3, 5] vs_8 2) fun v_60 =>
 k_57 v_60 L_53 ⟨[], [], [], []⟩) L_53 fun t27_56 L_59 r_58 =>
 W.dgrd t19_23 false (fun k_62 => W.calm [⟨13, r_52.reads, r_52.writes, r_52.made, false, r_52.old⟩, ⟨11, r_41.reads, r_41.writes, r_41.made, false, r_41.old⟩, ⟨9, r_31.reads, r_31.writes, r_31.made, false, r_31.old⟩] ⟨15, (blocksOf t27_56), [], [], false, []⟩ (
 W.load false 1 t27_56 L_59 fun v_65 =>
 W.note ⟨(blocksOf t27_56), [], [], []⟩ fun r_66 =>
 k_62 v_65 L_59 r_66)) L_59 fun t28_61 L_64 r_63 =>
 W.dgrd t19_23 false (fun k_68 => W.len t28_61 fun v_71 =>
 k_68 v_71 L_64 ⟨[], [], [], []⟩) L_64 fun t29_67 L_70 r_69 =>
 W.dgrd t19_23 false (fun k_73 => W.bin Try.prog Fl .geq 3 t26_50 t29_67 fun v_76 =>
 k_73 v_76 L_70 ⟨[], [], [], []⟩) L_70 fun t30_72 L_75 r_74 =>
 W.pick t19_23 (.bool true) t30_72 fun t31_77 =>
 W.cond t31_77 (
 Q (.bool false) L_75) (
 W.bin Try.prog Fl .add 3 (slotOf [2, 3, 5] vs_8 5) (.int .i64 1) fun t12_78 =>
 nx_9 [(slotOf [2, 3, 5] vs_8 2), (slotOf [2, 3, 5] vs_8 3), t12_78] L_75)))))
def ref08_Fits_zt1 (vs_8 : List AV) (L_10 : SH) (Q : AV → SH → Prop)  : Prop :=
 W.faddr 0 (slotOf [2, 3, 5] vs_8 3) fun t32_79 =>
 W.load false 1 t32_79 L_10 fun t33_80 =>
 W.len t33_80 fun t34_81 =>
 W.faddr 1 (slotOf [2, 3, 5] vs_8 2) fun t35_82 =>
 W.load false 1 t35_82 L_10 fun t36_83 =>
 W.len t36_83 fun t37_84 =>
 W.bin Try.prog Fl .eql 3 t34_81 t37_84 fun t38_85 =>
 W.grd t38_85 true (fun k_87 => W.faddr 2 (slotOf [2, 3, 5] vs_8 3) fun v_89 =>
 k_87 v_89 L_10) L_10 fun t40_86 L_88 =>
 W.grd t38_85 true (fun k_91 => W.load false 1 t40_86 L_88 fun v_93 =>
 k_91 v_93 L_88) L_88 fun t41_90 L_92 =>
 W.grd t38_85 true (fun k_95 => W.len t41_90 fun v_97 =>
 k_95 v_97 L_92) L_92 fun t42_94 L_96 =>
 W.grd t38_85 true (fun k_99 => W.faddr 3 (slotOf [2, 3, 5] vs_8 2) fun v_101 =>
 k_99 v_101 L_96) L_96 fun t43_98 L_100 =>
 W.grd t38_85 true (fun k_103 => W.load false 1 t43_98 L_100 fun v_105 =>
 k_103 v_105 L_100) L_100 fun t44_102 L_104 =>
 W.grd t38_85 true (fun k_107 => W.len t44_102 fun v_109 =>
 k_107 v_109 L_104) L_104 fun t45_106 L_108 =>
 W.grd t38_85 true (fun k_111 => W.bin Try.prog Fl .eql 3 t42_94 t45_106 fun v_113 =>
 k_111 v_113 L_108) L_108 fun t46_110 L_112 =>
 W.pick t38_85 t46_110 (.bool false) fun t47_114 =>
 W.grd t47_114 true (fun k_116 => W.faddr 3 (slotOf [2, 3, 5] vs_8 3) fun v_118 =>
 k_116 v_118 L_112) L_112 fun t49_115 L_117 =>
 W.grd t47_114 true (fun k_120 => W.load false 1 t49_115 L_117 fun v_122 =>
 k_120 v_122 L_117) L_117 fun t50_119 L_121 =>
 W.grd t47_114 true (fun k_124 => W.len t50_119 fun v_126 =>
 k_124 v_126 L_121) L_121 fun t51_123 L_125 =>
 W.grd t47_114 true (fun k_128 => W.faddr 4 (slotOf [2, 3, 5] vs_8 2) fun v_130 =>
 k_128 v_130 L_125) L_125 fun t52_127 L_129 =>
 W.grd t47_114 true (fun k_132 => W.load false 1 t52_127 L_129 fun v_134 =>
 k_132 v_134 L_129) L_129 fun t53_131 L_133 =>
 W.grd t47_114 true (fun k_136 => W.len t53_131 fun v_138 =>
 k_136 v_138 L_133) L_133 fun t54_135 L_137 =>
 W.grd t47_114 true (fun k_140 => W.bin Try.prog Fl .eql 3 t51_123 t54_135 fun v_142 =>
 k_140 v_142 L_137) L_137 fun t55_139 L_141 =>
 W.pick t47_114 t55_139 (.bool false) fun t56_143 =>
 Q t56_143 L_141
def ref08_Fits_l0 (Q : AV → SH → Prop) (vs_8 : List AV) (L_10 : SH) (nx_9 : W.Kn) : Prop :=
 W.faddr 2 (slotOf [2, 3, 5] vs_8 2) fun t7_11 =>
 W.load false 1 t7_11 L_10 fun t8_12 =>
 W.len t8_12 fun t9_13 =>
 W.bin Try.prog Fl .lss 3 (slotOf [2, 3, 5] vs_8 5) t9_13 fun t10_14 =>
 W.cond t10_14 (
 (ref08_Fits_zt0 vs_8 L_10 Q nx_9)) (
 (ref08_Fits_zt1 vs_8 L_10 Q))
def ref08_Fits_w (t0 t1 : AV) (L : SH) (Q : AV → SH → Prop) : Prop :=
 W.box t0 L fun t2_0 L_1 =>
 W.box t1 L_1 fun t3_2 L_3 =>
 W.frz1 t2_0 L_3 fun t2_4 L_5 =>
 W.frz1 t3_2 L_5 fun t3_6 L_7 =>
 W.loop (ref08_Fits_l0 Q) [t2_4, t3_6, (.int .i64 0)] L_7
theorem ref08_Fits_e (t0 t1 : AV) (L : SH) (Q : AV → SH → Prop) : W.func Try.prog Fl ref08_Fits_t Try.f38 (Try.f38.body.getD .skip) [t0, t1] L Q = ref08_Fits_w t0 t1 L Q := by kernel_rfl
theorem ref08_Fits_ok (t0 t1 : AV) (L : SH) (Q : AV → SH → Prop) (h : ref08_Fits_w t0 t1 L Q) : CallA Try.prog 38 [t0, t1] L Q :=
  func_sound (ht := ref08_Fits_t) fit Try.func38 (show Try.f38.body = some (Try.f38.body.getD .skip) by kernel_rfl) (Eq.mpr (ref08_Fits_e t0 t1 L Q) h)

def ref08_in_t : Hints := ⟨fun k => none, fun k => [], fun k => [], fun k => []⟩
def ref08_in_w (t0 t1 : AV) (L : SH) (Q : AV → SH → Prop) : Prop :=
 W.bin Try.prog Fl .geq 3 t0 (.int .i64 0) fun t6_0 =>
 W.grd t6_0 true (fun k_2 => k_2 t0 L) L fun t8_1 L_3 =>
 W.grd t6_0 true (fun k_5 => k_5 t1 L_3) L_3 fun t9_4 L_6 =>
 W.grd t6_0 true (fun k_8 => W.bin Try.prog Fl .lss 3 t8_1 t9_4 fun v_10 =>
 k_8 v_10 L_6) L_6 fun t10_7 L_9 =>
 W.pick t6_0 t10_7 (.bool false) fun t11_11 =>
 Q t11_11 L_9
theorem ref08_in_e (t0 t1 : AV) (L : SH) (Q : AV → SH → Prop) : W.func Try.prog Fl ref08_in_t Try.f61 (Try.f61.body.getD .skip) [t0, t1] L Q = ref08_in_w t0 t1 L Q := by kernel_rfl
theorem ref08_in_ok (t0 t1 : AV) (L : SH) (Q : AV → SH → Prop) (h : ref08_in_w t0 t1 L Q) : CallA Try.prog 61 [t0, t1] L Q :=
  func_sound (ht := ref08_in_t) fit Try.func61 (show Try.f61.body = some (Try.f61.body.getD .skip) by kernel_rfl) (Eq.mpr (ref08_in_e t0 t1 L Q) h)

def ref08_named_t : Hints := ⟨fun k => if k = 8 then some [2, 3, 7, 8] else if k = 11 then some [2, 3, 7, 18] else if k = 14 then some [2, 3, 7, 26] else if k = 19 then some [2, 3, 7, 43] else if k = 24 then some [2, 3, 7, 61] else if k = 27 then some [2, 3, 7, 71] else if k = 30 then some [2, 3, 79] else none, fun k => [], fun k => if k = 0 then [3] else [], fun k => []⟩
def ref08_named_zt0 (vs_8 : List AV) (L_10 : SH) (Q : AV → SH → Prop)  : Prop :=
 W.faddr 0 (slotOf [2, 3, 7, 18] vs_8 3) fun t22_11 =>
 W.load false 1 t22_11 L_10 fun t23_12 =>
 W.len t23_12 fun t24_13 =>
 W.call Try.prog (.fn 61 []) [(slotOf [2, 3, 7, 18] vs_8 2), t24_13] L_10 fun t25_14 L_15 =>
 Q t25_14 L_15
def ref08_named_c0 (vs_16 : List AV) (Q : AV → SH → Prop) (t33_22 : AV) (L_23 : SH) : Prop :=
 W.grd t33_22 true (fun k_25 => W.faddr 1 (slotOf [2, 3, 7, 26] vs_16 3) fun v_27 =>
 k_25 v_27 L_23) L_23 fun t35_24 L_26 =>
 W.grd t33_22 true (fun k_29 => W.load false 1 t35_24 L_26 fun v_31 =>
 k_29 v_31 L_26) L_26 fun t36_28 L_30 =>
 W.grd t33_22 true (fun k_33 => k_33 (slotOf [2, 3, 7, 26] vs_16 2) L_30) L_30 fun t37_32 L_34 =>
 W.grd t33_22 true (fun k_36 => W.idx 2 t36_28 t37_32 L_34 fun v_38 =>
 k_36 v_38 L_34) L_34 fun t38_35 L_37 =>
 W.grd t33_22 true (fun k_40 => W.faddr 1 t38_35 fun v_42 =>
 k_40 v_42 L_37) L_37 fun t39_39 L_41 =>
 W.grd t33_22 true (fun k_44 => W.load false 1 t39_39 L_41 fun v_46 =>
 k_44 v_46 L_41) L_41 fun t40_43 L_45 =>
 W.grd t33_22 true (fun k_48 => W.un .not t40_43 fun v_50 =>
 k_48 v_50 L_45) L_45 fun t41_47 L_49 =>
 W.pick t33_22 t41_47 (.bool false) fun t42_51 =>
 Q t42_51 L_49
def ref08_named_zt1 (vs_16 : List AV) (L_18 : SH) (Q : AV → SH → Prop)  : Prop :=
 W.faddr 1 (slotOf [2, 3, 7, 26] vs_16 3) fun t30_19 =>
 W.load false 1 t30_19 L_18 fun t31_20 =>
 W.len t31_20 fun t32_21 =>
 W.call Try.prog (.fn 61 []) [(slotOf [2, 3, 7, 26] vs_16 2), t32_21] L_18 (ref08_named_c0 vs_16 Q)
def ref08_named_c1 (vs_52 : List AV) (Q : AV → SH → Prop) (t52_58 : AV) (L_59 : SH) : Prop :=
 W.grd t52_58 true (fun k_61 => W.faddr 1 (slotOf [2, 3, 7, 43] vs_52 3) fun v_63 =>
 k_61 v_63 L_59) L_59 fun t54_60 L_62 =>
 W.grd t52_58 true (fun k_65 => W.load false 1 t54_60 L_62 fun v_67 =>
 k_65 v_67 L_62) L_62 fun t55_64 L_66 =>
 W.grd t52_58 true (fun k_69 => k_69 (slotOf [2, 3, 7, 43] vs_52 2) L_66) L_66 fun t56_68 L_70 =>
 W.grd t52_58 true (fun k_72 => W.idx 2 t55_64 t56_68 L_70 fun v_74 =>
 k_72 v_74 L_70) L_70 fun t57_71 L_73 =>
 W.grd t52_58 true (fun k_76 => W.faddr 1 t57_71 fun v_78 =>
 k_76 v_78 L_73) L_73 fun t58_75 L_77 =>
 W.grd t52_58 true (fun k_80 => W.load false 1 t58_75 L_77 fun v_82 =>
 k_80 v_82 L_77) L_77 fun t59_79 L_81 =>
 W.pick t52_58 t59_79 (.bool false) fun t60_83 =>
 Q t60_83 L_81
def ref08_named_zt2 (vs_52 : List AV) (L_54 : SH) (Q : AV → SH → Prop)  : Prop :=
 W.faddr 1 (slotOf [2, 3, 7, 43] vs_52 3) fun t49_55 =>
 W.load false 1 t49_55 L_54 fun t50_56 =>
 W.len t50_56 fun t51_57 =>
 W.call Try.prog (.fn 61 []) [(slotOf [2, 3, 7, 43] vs_52 2), t51_57] L_54 (ref08_named_c1 vs_52 Q)
def ref08_named_zt3 (vs_84 : List AV) (L_86 : SH) (Q : AV → SH → Prop)  : Prop :=
 W.faddr 2 (slotOf [2, 3, 7, 61] vs_84 3) fun t67_87 =>
 W.load false 1 t67_87 L_86 fun t68_88 =>
 W.len t68_88 fun t69_89 =>
 W.call Try.prog (.fn 61 []) [(slotOf [2, 3, 7, 61] vs_84 2), t69_89] L_86 fun t70_90 L_91 =>
 Q t70_90 L_91
def ref08_named_zt4 (vs_92 : List AV) (L_94 : SH) (Q : AV → SH → Prop)  : Prop :=
 W.faddr 4 (slotOf [2, 3, 7, 71] vs_92 3) fun t75_95 =>
 W.load false 1 t75_95 L_94 fun t76_96 =>
 W.len t76_96 fun t77_97 =>
 W.call Try.prog (.fn 61 []) [(slotOf [2, 3, 7, 71] vs_92 2), t77_97] L_94 fun t78_98 L_99 =>
 Q t78_98 L_99
def ref08_named_zt5 (vs_100 : List AV) (L_102 : SH) (Q : AV → SH → Prop)  : Prop :=
 W.faddr 3 (slotOf [2, 3, 79] vs_100 3) fun t83_103 =>
 W.load false 1 t83_103 L_102 fun t84_104 =>
 W.len t84_104 fun t85_105 =>
 W.call Try.prog (.fn 61 []) [(slotOf [2, 3, 79] vs_100 2), t85_105] L_102 fun t86_106 L_107 =>
 Q t86_106 L_107
def ref08_named_j2 (Q : AV → SH → Prop) (vs_100 : List AV) (L_102 : SH) : Prop :=
 W.cond (slotOf [2, 3, 79] vs_100 79) (
 (ref08_named_zt5 vs_100 L_102 Q)) (
 Q (.bool false) L_102)
def ref08_named_zt6 (vs_92 : List AV) (j_101 : W.Kn) (L_94 : SH)  : Prop :=
 W.bin Try.prog Fl .eql 3 (slotOf [2, 3, 7, 71] vs_92 7) (.int .i64 23) fun t81_109 =>
 j_101 [(slotOf [2, 3, 7, 71] vs_92 2), (slotOf [2, 3, 7, 71] vs_92 3), t81_109] L_94
def ref08_named_zt7 (Q : AV → SH → Prop) (vs_92 : List AV) (L_94 : SH)  : Prop :=
 W.join (ref08_named_j2 Q) fun j_101 =>
 W.bin Try.prog Fl .eql 3 (slotOf [2, 3, 7, 71] vs_92 7) (.int .i64 22) fun t80_108 =>
 W.cond t80_108 (
 j_101 [(slotOf [2, 3, 7, 71] vs_92 2), (slotOf [2, 3, 7, 71] vs_92 3), t80_108] L_94) (
 (ref08_named_zt6 vs_92 j_101 L_94))
def ref08_named_j3 (Q : AV → SH → Prop) (vs_92 : List AV) (L_94 : SH) : Prop :=
 W.cond (slotOf [2, 3, 7, 71] vs_92 71) (
 (ref08_named_zt4 vs_92 L_94 Q)) (
 (ref08_named_zt7 Q vs_92 L_94))
def ref08_named_zt8 (vs_84 : List AV) (j_93 : W.Kn) (L_86 : SH)  : Prop :=
 W.bin Try.prog Fl .eql 3 (slotOf [2, 3, 7, 61] vs_84 7) (.int .i64 21) fun t73_111 =>
 j_93 [(slotOf [2, 3, 7, 61] vs_84 2), (slotOf [2, 3, 7, 61] vs_84 3), (slotOf [2, 3, 7, 61] vs_84 7), t73_111] L_86
def ref08_named_zt9 (Q : AV → SH → Prop) (vs_84 : List AV) (L_86 : SH)  : Prop :=
 W.join (ref08_named_j3 Q) fun j_93 =>
 W.bin Try.prog Fl .eql 3 (slotOf [2, 3, 7, 61] vs_84 7) (.int .i64 20) fun t72_110 =>
 W.cond t72_110 (
 j_93 [(slotOf [2, 3, 7, 61] vs_84 2), (slotOf [2, 3, 7, 61] vs_84 3), (slotOf [2, 3, 7, 61] vs_84 7), t72_110] L_86) (
 (ref08_named_zt8 vs_84 j_93 L_86))
def ref08_named_j4 (Q : AV → SH → Prop) (vs_84 : List AV) (L_86 : SH) : Prop :=
 W.cond (slotOf [2, 3, 7, 61] vs_84 61) (
 (ref08_named_zt3 vs_84 L_86 Q)) (
 (ref08_named_zt9 Q vs_84 L_86))
def ref08_named_zt10 (vs_52 : List AV) (j_85 : W.Kn) (L_54 : SH)  : Prop :=
 W.bin Try.prog Fl .eql 3 (slotOf [2, 3, 7, 43] vs_52 7) (.int .i64 19) fun t65_115 =>
 j_85 [(slotOf [2, 3, 7, 43] vs_52 2), (slotOf [2, 3, 7, 43] vs_52 3), (slotOf [2, 3, 7, 43] vs_52 7), t65_115] L_54
def ref08_named_zt11 (vs_52 : List AV) (j_85 : W.Kn) (L_54 : SH)  : Prop :=
 W.bin Try.prog Fl .eql 3 (slotOf [2, 3, 7, 43] vs_52 7) (.int .i64 18) fun t64_114 =>
 W.cond t64_114 (
 j_85 [(slotOf [2, 3, 7, 43] vs_52 2), (slotOf [2, 3, 7, 43] vs_52 3), (slotOf [2, 3, 7, 43] vs_52 7), t64_114] L_54) (
 (ref08_named_zt10 vs_52 j_85 L_54))
def ref08_named_zt12 (vs_52 : List AV) (j_85 : W.Kn) (L_54 : SH)  : Prop :=
 W.bin Try.prog Fl .eql 3 (slotOf [2, 3, 7, 43] vs_52 7) (.int .i64 17) fun t63_113 =>
 W.cond t63_113 (
 j_85 [(slotOf [2, 3, 7, 43] vs_52 2), (slotOf [2, 3, 7, 43] vs_52 3), (slotOf [2, 3, 7, 43] vs_52 7), t63_113] L_54) (
 (ref08_named_zt11 vs_52 j_85 L_54))
def ref08_named_zt13 (Q : AV → SH → Prop) (vs_52 : List AV) (L_54 : SH)  : Prop :=
 W.join (ref08_named_j4 Q) fun j_85 =>
 W.bin Try.prog Fl .eql 3 (slotOf [2, 3, 7, 43] vs_52 7) (.int .i64 16) fun t62_112 =>
 W.cond t62_112 (
 j_85 [(slotOf [2, 3, 7, 43] vs_52 2), (slotOf [2, 3, 7, 43] vs_52 3), (slotOf [2, 3, 7, 43] vs_52 7), t62_112] L_54) (
 (ref08_named_zt12 vs_52 j_85 L_54))
def ref08_named_j5 (Q : AV → SH → Prop) (vs_52 : List AV) (L_54 : SH) : Prop :=
 W.cond (slotOf [2, 3, 7, 43] vs_52 43) (
 (ref08_named_zt2 vs_52 L_54 Q)) (
 (ref08_named_zt13 Q vs_52 L_54))
def ref08_named_zt14 (vs_16 : List AV) (j_53 : W.Kn) (L_18 : SH)  : Prop :=
 W.bin Try.prog Fl .eql 3 (slotOf [2, 3, 7, 26] vs_16 7) (.int .i64 11) fun t47_119 =>
 j_53 [(slotOf [2, 3, 7, 26] vs_16 2), (slotOf [2, 3, 7, 26] vs_16 3), (slotOf [2, 3, 7, 26] vs_16 7), t47_119] L_18
def ref08_named_zt15 (vs_16 : List AV) (j_53 : W.Kn) (L_18 : SH)  : Prop :=
 W.bin Try.prog Fl .eql 3 (slotOf [2, 3, 7, 26] vs_16 7) (.int .i64 10) fun t46_118 =>
 W.cond t46_118 (
 j_53 [(slotOf [2, 3, 7, 26] vs_16 2), (slotOf [2, 3, 7, 26] vs_16 3), (slotOf [2, 3, 7, 26] vs_16 7), t46_118] L_18) (
 (ref08_named_zt14 vs_16 j_53 L_18))
def ref08_named_zt16 (vs_16 : List AV) (j_53 : W.Kn) (L_18 : SH)  : Prop :=
 W.bin Try.prog Fl .eql 3 (slotOf [2, 3, 7, 26] vs_16 7) (.int .i64 9) fun t45_117 =>
 W.cond t45_117 (
 j_53 [(slotOf [2, 3, 7, 26] vs_16 2), (slotOf [2, 3, 7, 26] vs_16 3), (slotOf [2, 3, 7, 26] vs_16 7), t45_117] L_18) (
 (ref08_named_zt15 vs_16 j_53 L_18))
def ref08_named_zt17 (Q : AV → SH → Prop) (vs_16 : List AV) (L_18 : SH)  : Prop :=
 W.join (ref08_named_j5 Q) fun j_53 =>
 W.bin Try.prog Fl .eql 3 (slotOf [2, 3, 7, 26] vs_16 7) (.int .i64 8) fun t44_116 =>
 W.cond t44_116 (
 j_53 [(slotOf [2, 3, 7, 26] vs_16 2), (slotOf [2, 3, 7, 26] vs_16 3), (slotOf [2, 3, 7, 26] vs_16 7), t44_116] L_18) (
 (ref08_named_zt16 vs_16 j_53 L_18))
def ref08_named_j6 (Q : AV → SH → Prop) (vs_16 : List AV) (L_18 : SH) : Prop :=
 W.cond (slotOf [2, 3, 7, 26] vs_16 26) (
 (ref08_named_zt1 vs_16 L_18 Q)) (
 (ref08_named_zt17 Q vs_16 L_18))
def ref08_named_zt18 (vs_8 : List AV) (j_17 : W.Kn) (L_10 : SH)  : Prop :=
 W.bin Try.prog Fl .eql 3 (slotOf [2, 3, 7, 18] vs_8 7) (.int .i64 7) fun t28_121 =>
 j_17 [(slotOf [2, 3, 7, 18] vs_8 2), (slotOf [2, 3, 7, 18] vs_8 3), (slotOf [2, 3, 7, 18] vs_8 7), t28_121] L_10
def ref08_named_zt19 (Q : AV → SH → Prop) (vs_8 : List AV) (L_10 : SH)  : Prop :=
 W.join (ref08_named_j6 Q) fun j_17 =>
 W.bin Try.prog Fl .eql 3 (slotOf [2, 3, 7, 18] vs_8 7) (.int .i64 6) fun t27_120 =>
 W.cond t27_120 (
 j_17 [(slotOf [2, 3, 7, 18] vs_8 2), (slotOf [2, 3, 7, 18] vs_8 3), (slotOf [2, 3, 7, 18] vs_8 7), t27_120] L_10) (
 (ref08_named_zt18 vs_8 j_17 L_10))
def ref08_named_j7 (Q : AV → SH → Prop) (vs_8 : List AV) (L_10 : SH) : Prop :=
 W.cond (slotOf [2, 3, 7, 18] vs_8 18) (
 (ref08_named_zt0 vs_8 L_10 Q)) (
 (ref08_named_zt19 Q vs_8 L_10))
def ref08_named_zt20 (vs_4 : List AV) (j_9 : W.Kn) (L_6 : SH)  : Prop :=
 W.bin Try.prog Fl .eql 3 (slotOf [2, 3, 7, 8] vs_4 7) (.int .i64 4) fun t20_123 =>
 j_9 [(slotOf [2, 3, 7, 8] vs_4 2), (slotOf [2, 3, 7, 8] vs_4 3), (slotOf [2, 3, 7, 8] vs_4 7), t20_123] L_6
def ref08_named_zt21 (Q : AV → SH → Prop) (vs_4 : List AV) (L_6 : SH)  : Prop :=
 W.join (ref08_named_j7 Q) fun j_9 =>
 W.bin Try.prog Fl .eql 3 (slotOf [2, 3, 7, 8] vs_4 7) (.int .i64 3) fun t19_122 =>
 W.cond t19_122 (
 j_9 [(slotOf [2, 3, 7, 8] vs_4 2), (slotOf [2, 3, 7, 8] vs_4 3), (slotOf [2, 3, 7, 8] vs_4 7), t19_122] L_6) (
 (ref08_named_zt20 vs_4 j_9 L_6))
def ref08_named_j8 (Q : AV → SH → Prop) (vs_4 : List AV) (L_6 : SH) : Prop :=
 W.cond (slotOf [2, 3, 7, 8] vs_4 8) (
 W.bin Try.prog Fl .eql 3 (slotOf [2, 3, 7, 8] vs_4 2) (.int .i64 (-1)) fun t17_7 =>
 Q t17_7 L_6) (
 (ref08_named_zt21 Q vs_4 L_6))
def ref08_named_zt22 (t1 : AV) (j_5 : W.Kn) (t2 : AV) (t3_2 : AV) (L_3 : SH)  : Prop :=
 W.bin Try.prog Fl .eql 3 t1 (.int .i64 14) fun t14_129 =>
 W.cond t14_129 (
 j_5 [t2, t3_2, t1, t14_129] L_3) (
 W.bin Try.prog Fl .eql 3 t1 (.int .i64 15) fun t15_130 =>
 j_5 [t2, t3_2, t1, t15_130] L_3)
def ref08_named_zt23 (t1 : AV) (j_5 : W.Kn) (t2 : AV) (t3_2 : AV) (L_3 : SH)  : Prop :=
 W.bin Try.prog Fl .eql 3 t1 (.int .i64 12) fun t12_127 =>
 W.cond t12_127 (
 j_5 [t2, t3_2, t1, t12_127] L_3) (
 W.bin Try.prog Fl .eql 3 t1 (.int .i64 13) fun t13_128 =>
 W.cond t13_128 (
 j_5 [t2, t3_2, t1, t13_128] L_3) (
 (ref08_named_zt22 t1 j_5 t2 t3_2 L_3)))
def ref08_named_zt24 (t1 : AV) (j_5 : W.Kn) (t2 : AV) (t3_2 : AV) (L_3 : SH)  : Prop :=
 W.bin Try.prog Fl .eql 3 t1 (.int .i64 2) fun t10_125 =>
 W.cond t10_125 (
 j_5 [t2, t3_2, t1, t10_125] L_3) (
 W.bin Try.prog Fl .eql 3 t1 (.int .i64 5) fun t11_126 =>
 W.cond t11_126 (
 j_5 [t2, t3_2, t1, t11_126] L_3) (
 (ref08_named_zt23 t1 j_5 t2 t3_2 L_3)))
def ref08_named_w (t0 t1 t2 : AV) (L : SH) (Q : AV → SH → Prop) : Prop :=
 W.box t0 L fun t3_0 L_1 =>
 W.frz1 t3_0 L_1 fun t3_2 L_3 =>
 W.join (ref08_named_j8 Q) fun j_5 =>
 W.bin Try.prog Fl .eql 3 t1 (.int .i64 1) fun t9_124 =>
 W.cond t9_124 (
 j_5 [t2, t3_2, t1, t9_124] L_3) (
 (ref08_named_zt24 t1 j_5 t2 t3_2 L_3))
theorem ref08_named_e (t0 t1 t2 : AV) (L : SH) (Q : AV → SH → Prop) : W.func Try.prog Fl ref08_named_t Try.f63 (Try.f63.body.getD .skip) [t0, t1, t2] L Q = ref08_named_w t0 t1 t2 L Q := by kernel_rfl
theorem ref08_named_ok (t0 t1 t2 : AV) (L : SH) (Q : AV → SH → Prop) (h : ref08_named_w t0 t1 t2 L Q) : CallA Try.prog 63 [t0, t1, t2] L Q :=
  func_sound (ht := ref08_named_t) fit Try.func63 (show Try.f63.body = some (Try.f63.body.getD .skip) by kernel_rfl) (Eq.mpr (ref08_named_e t0 t1 t2 L Q) h)

def ref08_Enabled_t : Hints := ⟨fun k => if k = 19 then some [2, 4, 5, 6, 11, 70, 119] else if k = 33 then some [2, 4, 5, 6, 70, 160] else none, fun k => [], fun k => if k = 0 then [5, 6] else if k = 3 then [11] else [], fun k => if k = 8 then [0, 1, 3, 7, 15, 31, 15, 127, 255, 511, 1023, 2047, 1023, 5119, 1023, 29695, 62463, 127999, 262143, 524287, 1048575, 2097151, 4194303, 8388607] else if k = 34 then [0, 1, 0, 4, 0, 28, 60, 124, 255, 511, 1023, 0, 4095, 8191] else []⟩
def ref08_Enabled_zt0 (t11_65 : AV) (L_66 : SH) (t4 : AV) (t6_6 : AV) (t5_4 : AV) (Q : AV → SH → Prop)  : Prop :=
 (true = true) ∧ (
 W.faddr 0 t11_65 fun t44_72 =>
 W.calm [] ⟨1, (blocksOf t44_72), [], [], false, []⟩ (
 W.load false 1 t44_72 L_66 fun t45_73 =>
 W.note ⟨(blocksOf t44_72), [], [], []⟩ fun r_74 =>
 W.bin Try.prog Fl .eql 3 t45_73 (.int .i64 4) fun t46_75 =>
 W.dgrd t46_75 true (fun k_77 => W.faddr 1 t11_65 fun v_80 =>
 k_77 v_80 L_66 ⟨[], [], [], []⟩) L_66 fun t48_76 L_79 r_78 =>
 W.dgrd t46_75 true (fun k_82 => W.calm [] ⟨5, (blocksOf t48_76), [], [], false, []⟩ (
 W.load false 1 t48_76 L_79 fun v_85 =>
 W.note ⟨(blocksOf t48_76), [], [], []⟩ fun r_86 =>
 k_82 v_85 L_79 r_86)) L_79 fun t49_81 L_84 r_83 =>
 W.dgrd t46_75 true (fun k_88 => k_88 t4 L_84 ⟨[], [], [], []⟩) L_84 fun t50_87 L_90 r_89 =>
 W.dgrd t46_75 true (fun k_92 => W.bin Try.prog Fl .eql 3 t49_81 t50_87 fun v_95 =>
 k_92 v_95 L_90 ⟨[], [], [], []⟩) L_90 fun t51_91 L_94 r_93 =>
 W.pick t46_75 t51_91 (.bool false) fun t52_96 =>
 W.dgrd t52_96 true (fun k_98 => W.faddr 0 t6_6 fun v_101 =>
 k_98 v_101 L_94 ⟨[], [], [], []⟩) L_94 fun t54_97 L_100 r_99 =>
 W.dgrd t52_96 true (fun k_103 => W.calm [] ⟨11, (blocksOf t54_97), [], [], false, []⟩ (
 W.load false 1 t54_97 L_100 fun v_106 =>
 W.note ⟨(blocksOf t54_97), [], [], []⟩ fun r_107 =>
 k_103 v_106 L_100 r_107)) L_100 fun t55_102 L_105 r_104 =>
 W.dgrd t52_96 true (fun k_109 => W.faddr 2 t5_4 fun v_112 =>
 k_109 v_112 L_105 ⟨[], [], [], []⟩) L_105 fun t56_108 L_111 r_110 =>
 W.dgrd t52_96 true (fun k_114 => W.calm [⟨11, r_104.reads, r_104.writes, r_104.made, false, r_104.old⟩] ⟨13, (blocksOf t56_108), [], [], false, []⟩ (
 W.load false 1 t56_108 L_111 fun v_117 =>
 W.note ⟨(blocksOf t56_108), [], [], []⟩ fun r_118 =>
 k_114 v_117 L_111 r_118)) L_111 fun t57_113 L_116 r_115 =>
 W.dgrd t52_96 true (fun k_120 => k_120 t4 L_116 ⟨[], [], [], []⟩) L_116 fun t58_119 L_122 r_121 =>
 W.dgrd t52_96 true (fun k_124 => W.calm [⟨11, r_104.reads, r_104.writes, r_104.made, false, r_104.old⟩] ⟨15, (slOf t57_113), [], [], false, []⟩ (
 W.idx 2 t57_113 t58_119 L_122 fun v_127 =>
 W.note ⟨(slOf t57_113), [], [], []⟩ fun r_128 =>
 k_124 v_127 L_122 r_128)) L_122 fun t59_123 L_126 r_125 =>
 W.dgrd t52_96 true (fun k_130 => W.faddr 1 t59_123 fun v_133 =>
 k_130 v_133 L_126 ⟨[], [], [], []⟩) L_126 fun t60_129 L_132 r_131 =>
 W.dgrd t52_96 true (fun k_135 => W.calm [⟨11, r_104.reads, r_104.writes, r_104.made, false, r_104.old⟩] ⟨17, (blocksOf t60_129), [], [], false, []⟩ (
 W.load false 1 t60_129 L_132 fun v_138 =>
 W.note ⟨(blocksOf t60_129), [], [], []⟩ fun r_139 =>
 k_135 v_138 L_132 r_139)) L_132 fun t61_134 L_137 r_136 =>
 W.dgrd t52_96 true (fun k_141 => W.calm [] ⟨18, (slOf t55_102), [], [], false, []⟩ (
 W.idx 2 t55_102 t61_134 L_137 fun v_144 =>
 W.note ⟨(slOf t55_102), [], [], []⟩ fun r_145 =>
 k_141 v_144 L_137 r_145)) L_137 fun t62_140 L_143 r_142 =>
 W.dgrd t52_96 true (fun k_147 => W.faddr 0 t62_140 fun v_150 =>
 k_147 v_150 L_143 ⟨[], [], [], []⟩) L_143 fun t63_146 L_149 r_148 =>
 W.dgrd t52_96 true (fun k_152 => W.calm [] ⟨20, (blocksOf t63_146), [], [], false, []⟩ (
 W.load false 1 t63_146 L_149 fun v_155 =>
 W.note ⟨(blocksOf t63_146), [], [], []⟩ fun r_156 =>
 k_152 v_155 L_149 r_156)) L_149 fun t64_151 L_154 r_153 =>
 W.dgrd t52_96 true (fun k_158 => W.bin Try.prog Fl .eql 3 t64_151 (.int .i64 (-1)) fun v_161 =>
 k_158 v_161 L_154 ⟨[], [], [], []⟩) L_154 fun t65_157 L_160 r_159 =>
 W.pick t52_96 t65_157 (.bool false) fun t66_162 =>
 Q t66_162 L_160))
def ref08_Enabled_zt1 (t6_6 : AV) (L_66 : SH) (t4 : AV) (Q : AV → SH → Prop)  : Prop :=
 W.faddr 0 t6_6 fun t73_167 =>
 W.load false 1 t73_167 L_66 fun t74_168 =>
 W.idx 2 t74_168 t4 L_66 fun t76_169 =>
 W.faddr 0 t76_169 fun t77_170 =>
 W.load false 1 t77_170 L_66 fun t78_171 =>
 W.bin Try.prog Fl .eql 3 t78_171 (.int .i64 (-1)) fun t79_172 =>
 Q t79_172 L_66
def ref08_Enabled_zt2 (t6_6 : AV) (L_66 : SH) (t4 : AV) (Q : AV → SH → Prop)  : Prop :=
 W.faddr 0 t6_6 fun t82_174 =>
 W.load false 1 t82_174 L_66 fun t83_175 =>
 W.idx 2 t83_175 t4 L_66 fun t85_176 =>
 W.faddr 0 t85_176 fun t86_177 =>
 W.load false 1 t86_177 L_66 fun t87_178 =>
 W.bin Try.prog Fl .eql 3 t87_178 (.int .i64 (-1)) fun t88_179 =>
 W.grd t88_179 true (fun k_181 => W.faddr 0 t6_6 fun v_183 =>
 k_181 v_183 L_66) L_66 fun t90_180 L_182 =>
 W.grd t88_179 true (fun k_185 => W.load false 1 t90_180 L_182 fun v_187 =>
 k_185 v_187 L_182) L_182 fun t91_184 L_186 =>
 W.grd t88_179 true (fun k_189 => k_189 t4 L_186) L_186 fun t92_188 L_190 =>
 W.grd t88_179 true (fun k_192 => W.idx 2 t91_184 t92_188 L_190 fun v_194 =>
 k_192 v_194 L_190) L_190 fun t93_191 L_193 =>
 W.grd t88_179 true (fun k_196 => W.faddr 1 t93_191 fun v_198 =>
 k_196 v_198 L_193) L_193 fun t94_195 L_197 =>
 W.grd t88_179 true (fun k_200 => W.load false 1 t94_195 L_197 fun v_202 =>
 k_200 v_202 L_197) L_197 fun t95_199 L_201 =>
 W.grd t88_179 true (fun k_204 => W.len t95_199 fun v_206 =>
 k_204 v_206 L_201) L_201 fun t96_203 L_205 =>
 W.grd t88_179 true (fun k_208 => W.bin Try.prog Fl .eql 3 t96_203 (.int .i64 0) fun v_210 =>
 k_208 v_210 L_205) L_205 fun t97_207 L_209 =>
 W.pick t88_179 t97_207 (.bool false) fun t98_211 =>
 Q t98_211 L_209
def ref08_Enabled_zt3 (t6_6 : AV) (L_66 : SH) (t4 : AV) (t2 : AV) (Q : AV → SH → Prop)  : Prop :=
 W.faddr 0 t6_6 fun t101_213 =>
 W.load false 1 t101_213 L_66 fun t102_214 =>
 W.idx 2 t102_214 t4 L_66 fun t104_215 =>
 W.faddr 0 t104_215 fun t105_216 =>
 W.load false 1 t105_216 L_66 fun t106_217 =>
 W.bin Try.prog Fl .eql 3 t106_217 (.int .i64 (-1)) fun t107_218 =>
 W.grd t107_218 true (fun k_220 => W.faddr 0 t6_6 fun v_222 =>
 k_220 v_222 L_66) L_66 fun t109_219 L_221 =>
 W.grd t107_218 true (fun k_224 => W.load false 1 t109_219 L_221 fun v_226 =>
 k_224 v_226 L_221) L_221 fun t110_223 L_225 =>
 W.grd t107_218 true (fun k_228 => k_228 t4 L_225) L_225 fun t111_227 L_229 =>
 W.grd t107_218 true (fun k_231 => W.idx 2 t110_223 t111_227 L_229 fun v_233 =>
 k_231 v_233 L_229) L_229 fun t112_230 L_232 =>
 W.grd t107_218 true (fun k_235 => W.faddr 1 t112_230 fun v_237 =>
 k_235 v_237 L_232) L_232 fun t113_234 L_236 =>
 W.grd t107_218 true (fun k_239 => W.load false 1 t113_234 L_236 fun v_241 =>
 k_239 v_241 L_236) L_236 fun t114_238 L_240 =>
 W.grd t107_218 true (fun k_243 => k_243 t2 L_240) L_240 fun t115_242 L_244 =>
 W.grd t107_218 true (fun k_246 => W.call Try.prog (.fn 15 []) [t114_238, t115_242] L_244 fun v_248 L_249 =>
 k_246 v_248 L_249) L_244 fun t116_245 L_247 =>
 W.grd t107_218 true (fun k_251 => W.un .not t116_245 fun v_253 =>
 k_251 v_253 L_247) L_247 fun t117_250 L_252 =>
 W.pick t107_218 t117_250 (.bool false) fun t118_254 =>
 Q t118_254 L_252
def ref08_Enabled_zt4 (vs_255 : List AV) (L_257 : SH) (Q : AV → SH → Prop)  : Prop :=
 W.faddr 0 (slotOf [2, 4, 5, 6, 11, 70, 119] vs_255 6) fun t122_258 =>
 W.load false 1 t122_258 L_257 fun t123_259 =>
 W.idx 2 t123_259 (slotOf [2, 4, 5, 6, 11, 70, 119] vs_255 4) L_257 fun t125_260 =>
 W.faddr 0 t125_260 fun t126_261 =>
 W.load false 1 t126_261 L_257 fun t127_262 =>
 W.bin Try.prog Fl .eql 3 t127_262 (slotOf [2, 4, 5, 6, 11, 70, 119] vs_255 2) fun t129_263 =>
 Q t129_263 L_257
def ref08_Enabled_zt5 (vs_255 : List AV) (L_257 : SH) (Q : AV → SH → Prop)  : Prop :=
 W.faddr 0 (slotOf [2, 4, 5, 6, 11, 70, 119] vs_255 6) fun t132_265 =>
 W.load false 1 t132_265 L_257 fun t133_266 =>
 W.idx 2 t133_266 (slotOf [2, 4, 5, 6, 11, 70, 119] vs_255 4) L_257 fun t135_267 =>
 W.faddr 1 t135_267 fun t136_268 =>
 W.load false 1 t136_268 L_257 fun t137_269 =>
 W.call Try.prog (.fn 15 []) [t137_269, (slotOf [2, 4, 5, 6, 11, 70, 119] vs_255 2)] L_257 fun t139_270 L_271 =>
 Q t139_270 L_271
def ref08_Enabled_zt6 (vs_255 : List AV) (L_257 : SH) (Q : AV → SH → Prop)  : Prop :=
 W.faddr 1 (slotOf [2, 4, 5, 6, 11, 70, 119] vs_255 6) fun t142_273 =>
 W.load false 1 t142_273 L_257 fun t143_274 =>
 W.bin Try.prog Fl .eql 3 t143_274 (.int .i64 (-1)) fun t144_275 =>
 Q t144_275 L_257
def ref08_Enabled_zt7 (vs_255 : List AV) (L_257 : SH) (Q : AV → SH → Prop)  : Prop :=
 W.faddr 1 (slotOf [2, 4, 5, 6, 11, 70, 119] vs_255 6) fun t147_277 =>
 W.load false 1 t147_277 L_257 fun t148_278 =>
 W.bin Try.prog Fl .eql 3 t148_278 (slotOf [2, 4, 5, 6, 11, 70, 119] vs_255 2) fun t150_279 =>
 Q t150_279 L_257
def ref08_Enabled_zt8 (vs_255 : List AV) (L_257 : SH) (Q : AV → SH → Prop)  : Prop :=
 W.faddr 2 (slotOf [2, 4, 5, 6, 11, 70, 119] vs_255 11) fun t153_281 =>
 W.load false 1 t153_281 L_257 fun t154_282 =>
 W.un .not t154_282 fun t155_283 =>
 Q t155_283 L_257
def ref08_Enabled_zt9 (vs_287 : List AV) (L_289 : SH) (Q : AV → SH → Prop)  : Prop :=
 (true = true) ∧ (
 W.faddr 0 (slotOf [2, 4, 5, 6, 70, 160] vs_287 6) fun t164_290 =>
 W.calm [] ⟨1, (blocksOf t164_290), [], [], false, []⟩ (
 W.load false 1 t164_290 L_289 fun t165_291 =>
 W.note ⟨(blocksOf t164_290), [], [], []⟩ fun r_292 =>
 W.faddr 2 (slotOf [2, 4, 5, 6, 70, 160] vs_287 5) fun t166_293 =>
 W.calm [⟨1, r_292.reads, r_292.writes, r_292.made, false, r_292.old⟩] ⟨3, (blocksOf t166_293), [], [], false, []⟩ (
 W.load false 1 t166_293 L_289 fun t167_294 =>
 W.note ⟨(blocksOf t166_293), [], [], []⟩ fun r_295 =>
 W.calm [⟨1, r_292.reads, r_292.writes, r_292.made, false, r_292.old⟩] ⟨5, (slOf t167_294), [], [], false, []⟩ (
 W.idx 2 t167_294 (slotOf [2, 4, 5, 6, 70, 160] vs_287 4) L_289 fun t169_296 =>
 W.note ⟨(slOf t167_294), [], [], []⟩ fun r_297 =>
 W.faddr 1 t169_296 fun t170_298 =>
 W.calm [⟨1, r_292.reads, r_292.writes, r_292.made, false, r_292.old⟩] ⟨7, (blocksOf t170_298), [], [], false, []⟩ (
 W.load false 1 t170_298 L_289 fun t171_299 =>
 W.note ⟨(blocksOf t170_298), [], [], []⟩ fun r_300 =>
 W.calm [] ⟨8, (slOf t165_291), [], [], false, []⟩ (
 W.idx 2 t165_291 t171_299 L_289 fun t172_301 =>
 W.note ⟨(slOf t165_291), [], [], []⟩ fun r_302 =>
 W.faddr 0 t172_301 fun t173_303 =>
 W.calm [] ⟨10, (blocksOf t173_303), [], [], false, []⟩ (
 W.load false 1 t173_303 L_289 fun t174_304 =>
 W.note ⟨(blocksOf t173_303), [], [], []⟩ fun r_305 =>
 W.bin Try.prog Fl .eql 3 t174_304 (slotOf [2, 4, 5, 6, 70, 160] vs_287 2) fun t176_306 =>
 Q t176_306 L_289)))))))
def ref08_Enabled_zt10 (vs_287 : List AV) (L_289 : SH) (Q : AV → SH → Prop)  : Prop :=
 W.bin Try.prog Fl .neq 3 (slotOf [2, 4, 5, 6, 70, 160] vs_287 4) (slotOf [2, 4, 5, 6, 70, 160] vs_287 2) fun t181_308 =>
 W.grd t181_308 true (fun k_310 => W.faddr 3 (slotOf [2, 4, 5, 6, 70, 160] vs_287 6) fun v_312 =>
 k_310 v_312 L_289) L_289 fun t183_309 L_311 =>
 W.grd t181_308 true (fun k_314 => W.load false 1 t183_309 L_311 fun v_316 =>
 k_314 v_316 L_311) L_311 fun t184_313 L_315 =>
 W.grd t181_308 true (fun k_318 => k_318 (slotOf [2, 4, 5, 6, 70, 160] vs_287 4) L_315) L_315 fun t185_317 L_319 =>
 W.grd t181_308 true (fun k_321 => W.idx 3 t184_313 t185_317 L_319 fun v_323 =>
 k_321 v_323 L_319) L_319 fun t186_320 L_322 =>
 W.grd t181_308 true (fun k_325 => W.faddr 0 t186_320 fun v_327 =>
 k_325 v_327 L_322) L_322 fun t187_324 L_326 =>
 W.grd t181_308 true (fun k_329 => W.load false 1 t187_324 L_326 fun v_331 =>
 k_329 v_331 L_326) L_326 fun t188_328 L_330 =>
 W.grd t181_308 true (fun k_333 => W.bin Try.prog Fl .eql 3 t188_328 (.int .i64 0) fun v_335 =>
 k_333 v_335 L_330) L_330 fun t189_332 L_334 =>
 W.pick t181_308 t189_332 (.bool false) fun t190_336 =>
 Q t190_336 L_334
def ref08_Enabled_zt11 (vs_287 : List AV) (L_289 : SH) (Q : AV → SH → Prop)  : Prop :=
 W.bin Try.prog Fl .neq 3 (slotOf [2, 4, 5, 6, 70, 160] vs_287 4) (slotOf [2, 4, 5, 6, 70, 160] vs_287 2) fun t195_338 =>
 W.grd t195_338 true (fun k_340 => W.faddr 3 (slotOf [2, 4, 5, 6, 70, 160] vs_287 6) fun v_342 =>
 k_340 v_342 L_289) L_289 fun t197_339 L_341 =>
 W.grd t195_338 true (fun k_344 => W.load false 1 t197_339 L_341 fun v_346 =>
 k_344 v_346 L_341) L_341 fun t198_343 L_345 =>
 W.grd t195_338 true (fun k_348 => k_348 (slotOf [2, 4, 5, 6, 70, 160] vs_287 4) L_345) L_345 fun t199_347 L_349 =>
 W.grd t195_338 true (fun k_351 => W.idx 3 t198_343 t199_347 L_349 fun v_353 =>
 k_351 v_353 L_349) L_349 fun t200_350 L_352 =>
 W.grd t195_338 true (fun k_355 => W.faddr 0 t200_350 fun v_357 =>
 k_355 v_357 L_352) L_352 fun t201_354 L_356 =>
 W.grd t195_338 true (fun k_359 => W.load false 1 t201_354 L_356 fun v_361 =>
 k_359 v_361 L_356) L_356 fun t202_358 L_360 =>
 W.grd t195_338 true (fun k_363 => W.bin Try.prog Fl .eql 3 t202_358 (.int .i64 5) fun v_365 =>
 k_363 v_365 L_360) L_360 fun t203_362 L_364 =>
 W.pick t195_338 t203_362 (.bool false) fun t204_366 =>
 Q t204_366 L_364
def ref08_Enabled_zt12 (vs_287 : List AV) (L_289 : SH) (Q : AV → SH → Prop)  : Prop :=
 W.faddr 2 (slotOf [2, 4, 5, 6, 70, 160] vs_287 6) fun t207_368 =>
 W.load false 1 t207_368 L_289 fun t208_369 =>
 W.idx 1 t208_369 (slotOf [2, 4, 5, 6, 70, 160] vs_287 4) L_289 fun t210_370 =>
 W.load false 1 t210_370 L_289 fun t211_371 =>
 W.un .not t211_371 fun t212_372 =>
 Q t212_372 L_289
def ref08_Enabled_zt13 (vs_287 : List AV) (L_289 : SH) (Q : AV → SH → Prop)  : Prop :=
 W.faddr 2 (slotOf [2, 4, 5, 6, 70, 160] vs_287 6) fun t215_374 =>
 W.load false 1 t215_374 L_289 fun t216_375 =>
 W.idx 1 t216_375 (slotOf [2, 4, 5, 6, 70, 160] vs_287 4) L_289 fun t218_376 =>
 W.load false 1 t218_376 L_289 fun t219_377 =>
 Q t219_377 L_289
def ref08_Enabled_zt14 (vs_287 : List AV) (L_289 : SH) (Q : AV → SH → Prop)  : Prop :=
 W.bin Try.prog Fl .eql 3 (slotOf [2, 4, 5, 6, 70, 160] vs_287 70) (.int .i64 23) fun t214_373 =>
 W.cond t214_373 (
 (ref08_Enabled_zt13 vs_287 L_289 Q)) (
 Q (.bool true) L_289)
def ref08_Enabled_zt15 (vs_287 : List AV) (L_289 : SH) (Q : AV → SH → Prop)  : Prop :=
 W.bin Try.prog Fl .eql 3 (slotOf [2, 4, 5, 6, 70, 160] vs_287 70) (.int .i64 22) fun t206_367 =>
 W.cond t206_367 (
 (ref08_Enabled_zt12 vs_287 L_289 Q)) (
 (ref08_Enabled_zt14 vs_287 L_289 Q))
def ref08_Enabled_zt16 (vs_287 : List AV) (L_289 : SH) (Q : AV → SH → Prop)  : Prop :=
 W.bin Try.prog Fl .eql 3 (slotOf [2, 4, 5, 6, 70, 160] vs_287 70) (.int .i64 21) fun t192_337 =>
 W.cond t192_337 (
 (ref08_Enabled_zt11 vs_287 L_289 Q)) (
 (ref08_Enabled_zt15 vs_287 L_289 Q))
def ref08_Enabled_zt17 (vs_287 : List AV) (L_289 : SH) (Q : AV → SH → Prop)  : Prop :=
 W.bin Try.prog Fl .eql 3 (slotOf [2, 4, 5, 6, 70, 160] vs_287 70) (.int .i64 20) fun t178_307 =>
 W.cond t178_307 (
 (ref08_Enabled_zt10 vs_287 L_289 Q)) (
 (ref08_Enabled_zt16 vs_287 L_289 Q))
def ref08_Enabled_j0 (Q : AV → SH → Prop) (vs_287 : List AV) (L_289 : SH) : Prop :=
 W.cond (slotOf [2, 4, 5, 6, 70, 160] vs_287 160) (
 (ref08_Enabled_zt9 vs_287 L_289 Q)) (
 (ref08_Enabled_zt17 vs_287 L_289 Q))
def ref08_Enabled_zt18 (j_288 : W.Kn) (vs_255 : List AV) (t161_378 : AV) (L_257 : SH)  : Prop :=
 j_288 [(slotOf [2, 4, 5, 6, 11, 70, 119] vs_255 2), (slotOf [2, 4, 5, 6, 11, 70, 119] vs_255 4), (slotOf [2, 4, 5, 6, 11, 70, 119] vs_255 5), (slotOf [2, 4, 5, 6, 11, 70, 119] vs_255 6), (slotOf [2, 4, 5, 6, 11, 70, 119] vs_255 70), t161_378] L_257
def ref08_Enabled_zt19 (j_288 : W.Kn) (vs_255 : List AV) (t162_379 : AV) (L_257 : SH)  : Prop :=
 j_288 [(slotOf [2, 4, 5, 6, 11, 70, 119] vs_255 2), (slotOf [2, 4, 5, 6, 11, 70, 119] vs_255 4), (slotOf [2, 4, 5, 6, 11, 70, 119] vs_255 5), (slotOf [2, 4, 5, 6, 11, 70, 119] vs_255 6), (slotOf [2, 4, 5, 6, 11, 70, 119] vs_255 70), t162_379] L_257
def ref08_Enabled_zt20 (vs_255 : List AV) (j_288 : W.Kn) (L_257 : SH)  : Prop :=
 W.bin Try.prog Fl .eql 3 (slotOf [2, 4, 5, 6, 11, 70, 119] vs_255 70) (.int .i64 19) fun t163_380 =>
 j_288 [(slotOf [2, 4, 5, 6, 11, 70, 119] vs_255 2), (slotOf [2, 4, 5, 6, 11, 70, 119] vs_255 4), (slotOf [2, 4, 5, 6, 11, 70, 119] vs_255 5), (slotOf [2, 4, 5, 6, 11, 70, 119] vs_255 6), (slotOf [2, 4, 5, 6, 11, 70, 119] vs_255 70), t163_380] L_257
def ref08_Enabled_zt21 (vs_255 : List AV) (j_288 : W.Kn) (L_257 : SH)  : Prop :=
 W.bin Try.prog Fl .eql 3 (slotOf [2, 4, 5, 6, 11, 70, 119] vs_255 70) (.int .i64 18) fun t162_379 =>
 W.cond t162_379 (
 (ref08_Enabled_zt19 j_288 vs_255 t162_379 L_257)) (
 (ref08_Enabled_zt20 vs_255 j_288 L_257))
def ref08_Enabled_zt22 (Q : AV → SH → Prop) (vs_255 : List AV) (L_257 : SH)  : Prop :=
 W.join (ref08_Enabled_j0 Q) fun j_288 =>
 W.bin Try.prog Fl .eql 3 (slotOf [2, 4, 5, 6, 11, 70, 119] vs_255 70) (.int .i64 16) fun t161_378 =>
 W.cond t161_378 (
 (ref08_Enabled_zt18 j_288 vs_255 t161_378 L_257)) (
 (ref08_Enabled_zt21 vs_255 j_288 L_257))
def ref08_Enabled_zt23 (vs_255 : List AV) (L_257 : SH) (Q : AV → SH → Prop)  : Prop :=
 W.bin Try.prog Fl .eql 3 (slotOf [2, 4, 5, 6, 11, 70, 119] vs_255 70) (.int .i64 15) fun t157_284 =>
 W.cond t157_284 (
 W.faddr 2 (slotOf [2, 4, 5, 6, 11, 70, 119] vs_255 11) fun t158_285 =>
 W.load false 1 t158_285 L_257 fun t159_286 =>
 Q t159_286 L_257) (
 (ref08_Enabled_zt22 Q vs_255 L_257))
def ref08_Enabled_zt24 (vs_255 : List AV) (L_257 : SH) (Q : AV → SH → Prop)  : Prop :=
 W.bin Try.prog Fl .eql 3 (slotOf [2, 4, 5, 6, 11, 70, 119] vs_255 70) (.int .i64 14) fun t152_280 =>
 W.cond t152_280 (
 (ref08_Enabled_zt8 vs_255 L_257 Q)) (
 (ref08_Enabled_zt23 vs_255 L_257 Q))
def ref08_Enabled_zt25 (vs_255 : List AV) (L_257 : SH) (Q : AV → SH → Prop)  : Prop :=
 W.bin Try.prog Fl .eql 3 (slotOf [2, 4, 5, 6, 11, 70, 119] vs_255 70) (.int .i64 13) fun t146_276 =>
 W.cond t146_276 (
 (ref08_Enabled_zt7 vs_255 L_257 Q)) (
 (ref08_Enabled_zt24 vs_255 L_257 Q))
def ref08_Enabled_zt26 (vs_255 : List AV) (L_257 : SH) (Q : AV → SH → Prop)  : Prop :=
 W.bin Try.prog Fl .eql 3 (slotOf [2, 4, 5, 6, 11, 70, 119] vs_255 70) (.int .i64 12) fun t141_272 =>
 W.cond t141_272 (
 (ref08_Enabled_zt6 vs_255 L_257 Q)) (
 (ref08_Enabled_zt25 vs_255 L_257 Q))
def ref08_Enabled_zt27 (vs_255 : List AV) (L_257 : SH) (Q : AV → SH → Prop)  : Prop :=
 W.bin Try.prog Fl .eql 3 (slotOf [2, 4, 5, 6, 11, 70, 119] vs_255 70) (.int .i64 9) fun t131_264 =>
 W.cond t131_264 (
 (ref08_Enabled_zt5 vs_255 L_257 Q)) (
 (ref08_Enabled_zt26 vs_255 L_257 Q))
def ref08_Enabled_j1 (Q : AV → SH → Prop) (vs_255 : List AV) (L_257 : SH) : Prop :=
 W.cond (slotOf [2, 4, 5, 6, 11, 70, 119] vs_255 119) (
 (ref08_Enabled_zt4 vs_255 L_257 Q)) (
 (ref08_Enabled_zt27 vs_255 L_257 Q))
def ref08_Enabled_zt28 (Q : AV → SH → Prop) (t3 : AV) (t2 : AV) (t4 : AV) (t5_4 : AV) (t6_6 : AV) (t11_65 : AV) (L_66 : SH)  : Prop :=
 W.join (ref08_Enabled_j1 Q) fun j_256 =>
 W.bin Try.prog Fl .eql 3 t3 (.int .i64 7) fun t120_381 =>
 W.cond t120_381 (
 j_256 [t2, t4, t5_4, t6_6, t11_65, t3, t120_381] L_66) (
 W.bin Try.prog Fl .eql 3 t3 (.int .i64 11) fun t121_382 =>
 j_256 [t2, t4, t5_4, t6_6, t11_65, t3, t121_382] L_66)
def ref08_Enabled_zt29 (t3 : AV) (t6_6 : AV) (L_66 : SH) (t4 : AV) (t2 : AV) (Q : AV → SH → Prop) (t5_4 : AV) (t11_65 : AV)  : Prop :=
 W.bin Try.prog Fl .eql 3 t3 (.int .i64 8) fun t100_212 =>
 W.cond t100_212 (
 (ref08_Enabled_zt3 t6_6 L_66 t4 t2 Q)) (
 (ref08_Enabled_zt28 Q t3 t2 t4 t5_4 t6_6 t11_65 L_66))
def ref08_Enabled_zt30 (t3 : AV) (t6_6 : AV) (L_66 : SH) (t4 : AV) (Q : AV → SH → Prop) (t2 : AV) (t5_4 : AV) (t11_65 : AV)  : Prop :=
 W.bin Try.prog Fl .eql 3 t3 (.int .i64 10) fun t81_173 =>
 W.cond t81_173 (
 (ref08_Enabled_zt2 t6_6 L_66 t4 Q)) (
 (ref08_Enabled_zt29 t3 t6_6 L_66 t4 t2 Q t5_4 t11_65))
def ref08_Enabled_zt31 (t3 : AV) (t6_6 : AV) (L_66 : SH) (t4 : AV) (Q : AV → SH → Prop) (t2 : AV) (t5_4 : AV) (t11_65 : AV)  : Prop :=
 W.bin Try.prog Fl .eql 3 t3 (.int .i64 6) fun t72_166 =>
 W.cond t72_166 (
 (ref08_Enabled_zt1 t6_6 L_66 t4 Q)) (
 (ref08_Enabled_zt30 t3 t6_6 L_66 t4 Q t2 t5_4 t11_65))
def ref08_Enabled_zt32 (t11_65 : AV) (L_66 : SH) (Q : AV → SH → Prop) (t3 : AV) (t6_6 : AV) (t4 : AV) (t2 : AV) (t5_4 : AV)  : Prop :=
 W.faddr 0 t11_65 fun t67_163 =>
 W.load false 1 t67_163 L_66 fun t68_164 =>
 W.bin Try.prog Fl .neq 3 t68_164 (.int .i64 2) fun t69_165 =>
 W.cond t69_165 (
 Q (.bool false) L_66) (
 (ref08_Enabled_zt31 t3 t6_6 L_66 t4 Q t2 t5_4 t11_65))
def ref08_Enabled_zt33 (t3 : AV) (t11_65 : AV) (L_66 : SH) (t4 : AV) (t6_6 : AV) (t5_4 : AV) (Q : AV → SH → Prop) (t2 : AV)  : Prop :=
 W.bin Try.prog Fl .eql 3 t3 (.int .i64 17) fun t43_71 =>
 W.cond t43_71 (
 (ref08_Enabled_zt0 t11_65 L_66 t4 t6_6 t5_4 Q)) (
 (ref08_Enabled_zt32 t11_65 L_66 Q t3 t6_6 t4 t2 t5_4))
def ref08_Enabled_zt34 (t6_6 : AV) (L_55 : SH) (t2 : AV) (t3 : AV) (Q : AV → SH → Prop) (t4 : AV) (t5_4 : AV)  : Prop :=
 W.faddr 3 t6_6 fun t31_58 =>
 W.load false 1 t31_58 L_55 fun t32_59 =>
 W.idx 3 t32_59 t2 L_55 fun t34_60 =>
 W.load true 3 t34_60 L_55 fun t35_61 =>
 W.alloc [(.int .i64 0), (.int .i64 0), (.bool false)] L_55 fun t11_62 L_63 =>
 W.store 3 t11_62 t35_61 L_63 fun L_64 =>
 W.frz1 t11_62 L_64 fun t11_65 L_66 =>
 W.bin Try.prog Fl .eql 3 t3 (.int .i64 1) fun t38_67 =>
 W.cond t38_67 (
 W.faddr 0 t11_65 fun t39_68 =>
 W.load false 1 t39_68 L_66 fun t40_69 =>
 W.bin Try.prog Fl .eql 3 t40_69 (.int .i64 1) fun t41_70 =>
 Q t41_70 L_66) (
 (ref08_Enabled_zt33 t3 t11_65 L_66 t4 t6_6 t5_4 Q t2))
def ref08_Enabled_c2 (t2 : AV) (t5_4 : AV) (t3 : AV) (t4 : AV) (Q : AV → SH → Prop) (t6_6 : AV) (t14_10 : AV) (L_11 : SH) : Prop :=
 W.un .not t14_10 fun t15_12 =>
 W.grd t15_12 false (fun k_14 => k_14 t2 L_11) L_11 fun t17_13 L_15 =>
 W.grd t15_12 false (fun k_17 => W.faddr 4 t5_4 fun v_19 =>
 k_17 v_19 L_15) L_15 fun t18_16 L_18 =>
 W.grd t15_12 false (fun k_21 => W.load false 1 t18_16 L_18 fun v_23 =>
 k_21 v_23 L_18) L_18 fun t19_20 L_22 =>
 W.grd t15_12 false (fun k_25 => W.len t19_20 fun v_27 =>
 k_25 v_27 L_22) L_22 fun t20_24 L_26 =>
 W.grd t15_12 false (fun k_29 => W.call Try.prog (.fn 61 []) [t17_13, t20_24] L_26 fun v_31 L_32 =>
 k_29 v_31 L_32) L_26 fun t21_28 L_30 =>
 W.grd t15_12 false (fun k_34 => W.un .not t21_28 fun v_36 =>
 k_34 v_36 L_30) L_30 fun t22_33 L_35 =>
 W.pick t15_12 (.bool true) t22_33 fun t23_37 =>
 W.grd t23_37 false (fun k_39 => W.load true 6 t5_4 L_35 fun v_41 =>
 k_39 v_41 L_35) L_35 fun t25_38 L_40 =>
 W.grd t23_37 false (fun k_43 => k_43 t3 L_40) L_40 fun t26_42 L_44 =>
 W.grd t23_37 false (fun k_46 => k_46 t4 L_44) L_44 fun t27_45 L_47 =>
 W.grd t23_37 false (fun k_49 => W.call Try.prog (.fn 63 []) [t25_38, t26_42, t27_45] L_47 fun v_51 L_52 =>
 k_49 v_51 L_52) L_47 fun t28_48 L_50 =>
 W.grd t23_37 false (fun k_54 => W.un .not t28_48 fun v_56 =>
 k_54 v_56 L_50) L_50 fun t29_53 L_55 =>
 W.pick t23_37 (.bool true) t29_53 fun t30_57 =>
 W.cond t30_57 (
 Q (.bool false) L_55) (
 (ref08_Enabled_zt34 t6_6 L_55 t2 t3 Q t4 t5_4))
def ref08_Enabled_w (t0 t1 t2 t3 t4 : AV) (L : SH) (Q : AV → SH → Prop) : Prop :=
 W.box t0 L fun t5_0 L_1 =>
 W.box t1 L_1 fun t6_2 L_3 =>
 W.frz1 t5_0 L_3 fun t5_4 L_5 =>
 W.frz1 t6_2 L_5 fun t6_6 L_7 =>
 W.load true 6 t5_4 L_7 fun t12_8 =>
 W.load true 4 t6_6 L_7 fun t13_9 =>
 W.call Try.prog (.fn 38 []) [t12_8, t13_9] L_7 (ref08_Enabled_c2 t2 t5_4 t3 t4 Q t6_6)
theorem ref08_Enabled_e (t0 t1 t2 t3 t4 : AV) (L : SH) (Q : AV → SH → Prop) : W.func Try.prog Fl ref08_Enabled_t Try.f55 (Try.f55.body.getD .skip) [t0, t1, t2, t3, t4] L Q = ref08_Enabled_w t0 t1 t2 t3 t4 L Q := by kernel_rfl
theorem ref08_Enabled_ok (t0 t1 t2 t3 t4 : AV) (L : SH) (Q : AV → SH → Prop) (h : ref08_Enabled_w t0 t1 t2 t3 t4 L Q) : CallA Try.prog 55 [t0, t1, t2, t3, t4] L Q :=
  func_sound (ht := ref08_Enabled_t) fit Try.func55 (show Try.f55.body = some (Try.f55.body.getD .skip) by kernel_rfl) (Eq.mpr (ref08_Enabled_e t0 t1 t2 t3 t4 L Q) h)

def ref08_Copy_t : Hints := ⟨fun k => none, fun k => if k = 3 then [1, 2, 3, 4] else [], fun k => if k = 0 then [1] else [], fun k => if k = 1 then [0, 1, 0, 0, 8, 28, 0, 0, 128, 508, 1023, 0, 4095] else if k = 5 then [0, 1, 0, 4, 0, 28, 60, 124, 0, 0, 512, 0, 3584, 7680, 15872, 32512, 65532, 131068, 262143, 524287, 1048575] else []⟩
def ref08_Copy_zt0 (vs_33 : List AV) (L_35 : SH) (nx_34 : W.Kn)  : Prop :=
 (true = true) ∧ (
 W.faddr 0 (slotOf [1, 2, 3, 4] vs_33 3) fun t23_40 =>
 W.calm [] ⟨1, (blocksOf t23_40), [], [], false, []⟩ (
 W.load false 1 t23_40 L_35 fun t24_41 =>
 W.note ⟨(blocksOf t23_40), [], [], []⟩ fun r_42 =>
 W.faddr 0 (slotOf [1, 2, 3, 4] vs_33 1) fun t25_43 =>
 W.calm [⟨1, r_42.reads, r_42.writes, r_42.made, false, r_42.old⟩] ⟨3, (blocksOf t25_43), [], [], false, []⟩ (
 W.load false 1 t25_43 L_35 fun t26_44 =>
 W.note ⟨(blocksOf t25_43), [], [], []⟩ fun r_45 =>
 W.calm [⟨1, r_42.reads, r_42.writes, r_42.made, false, r_42.old⟩] ⟨5, (slOf t26_44), [], [], false, []⟩ (
 W.idx 2 t26_44 (slotOf [1, 2, 3, 4] vs_33 4) L_35 fun t28_46 =>
 W.note ⟨(slOf t26_44), [], [], []⟩ fun r_47 =>
 W.faddr 0 t28_46 fun t29_48 =>
 W.calm [⟨1, r_42.reads, r_42.writes, r_42.made, false, r_42.old⟩] ⟨7, (blocksOf t29_48), [], [], false, []⟩ (
 W.load false 1 t29_48 L_35 fun t30_49 =>
 W.note ⟨(blocksOf t29_48), [], [], []⟩ fun r_50 =>
 W.calm [⟨7, r_50.reads, r_50.writes, r_50.made, false, r_50.old⟩, ⟨5, r_47.reads, r_47.writes, r_47.made, false, r_47.old⟩, ⟨3, r_45.reads, r_45.writes, r_45.made, false, r_45.old⟩, ⟨1, r_42.reads, r_42.writes, r_42.made, false, r_42.old⟩] ⟨8, [], [], [], false, []⟩ (
 W.bslice 1 [(.int .i64 0)] 0 [] L_35 fun t31_51 L_52 =>
 W.note ⟨[], [], (blocksOf t31_51), []⟩ fun r_53 =>
 W.faddr 0 (slotOf [1, 2, 3, 4] vs_33 1) fun t32_54 =>
 W.calm [⟨8, r_53.reads, r_53.writes, r_53.made, false, r_53.old⟩, ⟨7, r_50.reads, r_50.writes, r_50.made, false, r_50.old⟩, ⟨5, r_47.reads, r_47.writes, r_47.made, false, r_47.old⟩, ⟨3, r_45.reads, r_45.writes, r_45.made, false, r_45.old⟩, ⟨1, r_42.reads, r_42.writes, r_42.made, false, r_42.old⟩] ⟨10, (blocksOf t32_54), [], [], false, []⟩ (
 W.load false 1 t32_54 L_52 fun t33_55 =>
 W.note ⟨(blocksOf t32_54), [], [], []⟩ fun r_56 =>
 W.calm [⟨8, r_53.reads, r_53.writes, r_53.made, false, r_53.old⟩, ⟨7, r_50.reads, r_50.writes, r_50.made, false, r_50.old⟩, ⟨5, r_47.reads, r_47.writes, r_47.made, false, r_47.old⟩, ⟨3, r_45.reads, r_45.writes, r_45.made, false, r_45.old⟩, ⟨1, r_42.reads, r_42.writes, r_42.made, false, r_42.old⟩] ⟨12, (slOf t33_55), [], [], false, []⟩ (
 W.idx 2 t33_55 (slotOf [1, 2, 3, 4] vs_33 4) L_52 fun t35_57 =>
 W.note ⟨(slOf t33_55), [], [], []⟩ fun r_58 =>
 W.faddr 1 t35_57 fun t36_59 =>
 W.calm [⟨8, r_53.reads, r_53.writes, r_53.made, false, r_53.old⟩, ⟨7, r_50.reads, r_50.writes, r_50.made, false, r_50.old⟩, ⟨5, r_47.reads, r_47.writes, r_47.made, false, r_47.old⟩, ⟨3, r_45.reads, r_45.writes, r_45.made, false, r_45.old⟩, ⟨1, r_42.reads, r_42.writes, r_42.made, false, r_42.old⟩] ⟨14, (blocksOf t36_59), [], [], false, []⟩ (
 W.load false 1 t36_59 L_52 fun t37_60 =>
 W.note ⟨(blocksOf t36_59), [], [], []⟩ fun r_61 =>
 W.calm [⟨7, r_50.reads, r_50.writes, r_50.made, false, r_50.old⟩, ⟨5, r_47.reads, r_47.writes, r_47.made, false, r_47.old⟩, ⟨3, r_45.reads, r_45.writes, r_45.made, false, r_45.old⟩, ⟨1, r_42.reads, r_42.writes, r_42.made, false, r_42.old⟩] ⟨15, (blocksOf t31_51 ++ blocksOf t37_60), (blocksOf t31_51), [], false, []⟩ (
 W.append 1 8 t31_51 t37_60 L_52 fun t38_62 L_63 =>
 W.note ⟨(blocksOf t31_51 ++ blocksOf t37_60), (blocksOf t31_51), (blocksOf t38_62), []⟩ fun r_64 =>
 W.build [(.int .i64 0), .nils] [(0, 1, t30_49), (1, 1, t38_62)] fun t39_65 =>
 W.calm [⟨1, r_42.reads, r_42.writes, r_42.made, false, r_42.old⟩] ⟨17, [], [], [], false, []⟩ (
 W.bslice 2 [(.int .i64 0), .nils] 1 [(0, t39_65)] L_63 fun t40_66 L_67 =>
 W.note ⟨[], [], (blocksOf t40_66), []⟩ fun r_68 =>
 W.calm [] ⟨18, (blocksOf t24_41 ++ blocksOf t40_66), (blocksOf t24_41), [], false, []⟩ (
 W.append 2 32 t24_41 t40_66 L_67 fun t41_69 L_70 =>
 W.note ⟨(blocksOf t24_41 ++ blocksOf t40_66), (blocksOf t24_41), (blocksOf t41_69), []⟩ fun r_71 =>
 W.faddr 0 (slotOf [1, 2, 3, 4] vs_33 3) fun t42_72 =>
 W.calm [] ⟨20, (blocksOf t42_72), (blocksOf t42_72), [], false, []⟩ (
 W.store 1 t42_72 t41_69 L_70 fun L_73 =>
 W.note ⟨(blocksOf t42_72), (blocksOf t42_72), [], []⟩ fun r_74 =>
 W.bin Try.prog Fl .add 3 (slotOf [1, 2, 3, 4] vs_33 4) (.int .i64 1) fun t22_75 =>
 nx_34 [(slotOf [1, 2, 3, 4] vs_33 1), (slotOf [1, 2, 3, 4] vs_33 2), (slotOf [1, 2, 3, 4] vs_33 3), t22_75] L_73)))))))))))))
def ref08_Copy_zt1 (vs_33 : List AV) (L_35 : SH) (Q : AV → SH → Prop)  : Prop :=
 W.load true 4 (slotOf [1, 2, 3, 4] vs_33 3) L_35 fun t43_76 =>
 W.store 4 (slotOf [1, 2, 3, 4] vs_33 2) t43_76 L_35 fun L_77 =>
 W.load true 4 (slotOf [1, 2, 3, 4] vs_33 2) L_77 fun r_78 =>
 Q r_78 L_77
def ref08_Copy_l0 (Q : AV → SH → Prop) (vs_33 : List AV) (L_35 : SH) (nx_34 : W.Kn) : Prop :=
 W.faddr 0 (slotOf [1, 2, 3, 4] vs_33 1) fun t17_36 =>
 W.load false 1 t17_36 L_35 fun t18_37 =>
 W.len t18_37 fun t19_38 =>
 W.bin Try.prog Fl .lss 3 (slotOf [1, 2, 3, 4] vs_33 4) t19_38 fun t20_39 =>
 W.cond t20_39 (
 (ref08_Copy_zt0 vs_33 L_35 nx_34)) (
 (ref08_Copy_zt1 vs_33 L_35 Q))
def ref08_Copy_w (t0 : AV) (L : SH) (Q : AV → SH → Prop) : Prop :=
 W.box t0 L fun t1_0 L_1 =>
 W.alloc [.nils, (.int .i64 0), .nils, .nils] L_1 fun t2_2 L_3 =>
 W.frz1 t1_0 L_3 fun t1_4 L_5 =>
 (true = true) ∧ (
 W.faddr 1 t1_4 fun t5_6 =>
 W.calm [] ⟨1, (blocksOf t5_6), [], [], false, []⟩ (
 W.load false 1 t5_6 L_5 fun t6_7 =>
 W.note ⟨(blocksOf t5_6), [], [], []⟩ fun r_8 =>
 W.calm [⟨1, r_8.reads, r_8.writes, r_8.made, false, r_8.old⟩] ⟨2, [], [], [], false, []⟩ (
 W.bslice 1 [(.bool false)] 0 [] L_5 fun t7_9 L_10 =>
 W.note ⟨[], [], (blocksOf t7_9), []⟩ fun r_11 =>
 W.faddr 2 t1_4 fun t8_12 =>
 W.calm [⟨2, r_11.reads, r_11.writes, r_11.made, false, r_11.old⟩, ⟨1, r_8.reads, r_8.writes, r_8.made, false, r_8.old⟩] ⟨4, (blocksOf t8_12), [], [], false, []⟩ (
 W.load false 1 t8_12 L_10 fun t9_13 =>
 W.note ⟨(blocksOf t8_12), [], [], []⟩ fun r_14 =>
 W.calm [⟨1, r_8.reads, r_8.writes, r_8.made, false, r_8.old⟩] ⟨5, (blocksOf t7_9 ++ blocksOf t9_13), (blocksOf t7_9), [], false, []⟩ (
 W.append 1 1 t7_9 t9_13 L_10 fun t10_15 L_16 =>
 W.note ⟨(blocksOf t7_9 ++ blocksOf t9_13), (blocksOf t7_9), (blocksOf t10_15), []⟩ fun r_17 =>
 W.calm [⟨5, r_17.reads, r_17.writes, r_17.made, false, r_17.old⟩, ⟨4, r_14.reads, r_14.writes, r_14.made, false, r_14.old⟩, ⟨2, r_11.reads, r_11.writes, r_11.made, false, r_11.old⟩, ⟨1, r_8.reads, r_8.writes, r_8.made, false, r_8.old⟩] ⟨6, [], [], [], false, []⟩ (
 W.bslice 3 [(.int .i64 0), (.int .i64 0), (.bool false)] 0 [] L_16 fun t11_18 L_19 =>
 W.note ⟨[], [], (blocksOf t11_18), []⟩ fun r_20 =>
 W.faddr 3 t1_4 fun t12_21 =>
 W.calm [⟨6, r_20.reads, r_20.writes, r_20.made, false, r_20.old⟩, ⟨5, r_17.reads, r_17.writes, r_17.made, false, r_17.old⟩, ⟨4, r_14.reads, r_14.writes, r_14.made, false, r_14.old⟩, ⟨2, r_11.reads, r_11.writes, r_11.made, false, r_11.old⟩, ⟨1, r_8.reads, r_8.writes, r_8.made, false, r_8.old⟩] ⟨8, (blocksOf t12_21), [], [], false, []⟩ (
 W.load false 1 t12_21 L_19 fun t13_22 =>
 W.note ⟨(blocksOf t12_21), [], [], []⟩ fun r_23 =>
 W.calm [⟨1, r_8.reads, r_8.writes, r_8.made, false, r_8.old⟩] ⟨9, (blocksOf t11_18 ++ blocksOf t13_22), (blocksOf t11_18), [], false, []⟩ (
 W.append 3 24 t11_18 t13_22 L_19 fun t14_24 L_25 =>
 W.note ⟨(blocksOf t11_18 ++ blocksOf t13_22), (blocksOf t11_18), (blocksOf t14_24), []⟩ fun r_26 =>
 W.build [.nils, (.int .i64 0), .nils, .nils] [(1, 1, t6_7), (2, 1, t10_15), (3, 1, t14_24)] fun t15_27 =>
 W.calm [⟨9, r_26.reads, r_26.writes, r_26.made, false, r_26.old⟩, ⟨8, r_23.reads, r_23.writes, r_23.made, false, r_23.old⟩, ⟨6, r_20.reads, r_20.writes, r_20.made, false, r_20.old⟩, ⟨5, r_17.reads, r_17.writes, r_17.made, false, r_17.old⟩, ⟨4, r_14.reads, r_14.writes, r_14.made, false, r_14.old⟩, ⟨2, r_11.reads, r_11.writes, r_11.made, false, r_11.old⟩, ⟨1, r_8.reads, r_8.writes, r_8.made, false, r_8.old⟩] ⟨11, [], [], [], false, []⟩ (
 W.alloc [.nils, (.int .i64 0), .nils, .nils] L_25 fun t3_28 L_29 =>
 W.note ⟨[], [], (blocksOf t3_28), []⟩ fun r_30 =>
 W.calm [] ⟨12, (blocksOf t3_28), (blocksOf t3_28), [], false, []⟩ (
 W.store 4 t3_28 t15_27 L_29 fun L_31 =>
 W.note ⟨(blocksOf t3_28), (blocksOf t3_28), [], []⟩ fun r_32 =>
 W.loop (ref08_Copy_l0 Q) [t1_4, t2_2, t3_28, (.int .i64 0)] L_31))))))))))
theorem ref08_Copy_e (t0 : AV) (L : SH) (Q : AV → SH → Prop) : W.func Try.prog Fl ref08_Copy_t Try.f56 (Try.f56.body.getD .skip) [t0] L Q = ref08_Copy_w t0 L Q := by kernel_rfl
theorem ref08_Copy_ok (t0 : AV) (L : SH) (Q : AV → SH → Prop) (h : ref08_Copy_w t0 L Q) : CallA Try.prog 56 [t0] L Q :=
  func_sound (ht := ref08_Copy_t) fit Try.func56 (show Try.f56.body = some (Try.f56.body.getD .skip) by kernel_rfl) (Eq.mpr (ref08_Copy_e t0 L Q) h)

def ref07_Union_t : Hints := ⟨fun k => none, fun k => if k = 3 then [0, 1, 5, 6] else if k = 7 then [1, 5, 7] else [], fun k => [], fun k => []⟩
def ref07_Union_c0 (vs_0 : List AV) (nx_1 : W.Kn) (t19_7 : AV) (L_8 : SH) : Prop :=
 W.bin Try.prog Fl .add 3 (slotOf [0, 1, 5, 6] vs_0 6) (.int .i64 1) fun t13_9 =>
 nx_1 [(slotOf [0, 1, 5, 6] vs_0 0), (slotOf [0, 1, 5, 6] vs_0 1), t19_7, t13_9] L_8
def ref07_Union_zt0 (vs_0 : List AV) (L_2 : SH) (nx_1 : W.Kn)  : Prop :=
 W.idx 1 (slotOf [0, 1, 5, 6] vs_0 0) (slotOf [0, 1, 5, 6] vs_0 6) L_2 fun t17_5 =>
 W.load false 1 t17_5 L_2 fun t18_6 =>
 W.call Try.prog (.fn 64 []) [(slotOf [0, 1, 5, 6] vs_0 5), t18_6] L_2 (ref07_Union_c0 vs_0 nx_1)
def ref07_Union_c1 (vs_10 : List AV) (nx_11 : W.Kn) (t31_17 : AV) (L_18 : SH) : Prop :=
 W.bin Try.prog Fl .add 3 (slotOf [1, 5, 7] vs_10 7) (.int .i64 1) fun t25_19 =>
 nx_11 [(slotOf [1, 5, 7] vs_10 1), t31_17, t25_19] L_18
def ref07_Union_zt1 (vs_10 : List AV) (L_12 : SH) (nx_11 : W.Kn)  : Prop :=
 W.idx 1 (slotOf [1, 5, 7] vs_10 1) (slotOf [1, 5, 7] vs_10 7) L_12 fun t29_15 =>
 W.load false 1 t29_15 L_12 fun t30_16 =>
 W.call Try.prog (.fn 64 []) [(slotOf [1, 5, 7] vs_10 5), t30_16] L_12 (ref07_Union_c1 vs_10 nx_11)
def ref07_Union_l2 (Q : AV → SH → Prop) (vs_10 : List AV) (L_12 : SH) (nx_11 : W.Kn) : Prop :=
 W.len (slotOf [1, 5, 7] vs_10 1) fun t22_13 =>
 W.bin Try.prog Fl .lss 3 (slotOf [1, 5, 7] vs_10 7) t22_13 fun t23_14 =>
 W.cond t23_14 (
 (ref07_Union_zt1 vs_10 L_12 nx_11)) (
 Q (slotOf [1, 5, 7] vs_10 5) L_12)
def ref07_Union_l3 (Q : AV → SH → Prop) (vs_0 : List AV) (L_2 : SH) (nx_1 : W.Kn) : Prop :=
 W.len (slotOf [0, 1, 5, 6] vs_0 0) fun t10_3 =>
 W.bin Try.prog Fl .lss 3 (slotOf [0, 1, 5, 6] vs_0 6) t10_3 fun t11_4 =>
 W.cond t11_4 (
 (ref07_Union_zt0 vs_0 L_2 nx_1)) (
 W.loop (ref07_Union_l2 Q) [(slotOf [0, 1, 5, 6] vs_0 1), (slotOf [0, 1, 5, 6] vs_0 5), (.int .i64 0)] L_2)
def ref07_Union_w (t0 t1 : AV) (L : SH) (Q : AV → SH → Prop) : Prop :=
 W.loop (ref07_Union_l3 Q) [t0, t1, .nils, (.int .i64 0)] L
theorem ref07_Union_e (t0 t1 : AV) (L : SH) (Q : AV → SH → Prop) : W.func Try.prog Fl ref07_Union_t Try.f57 (Try.f57.body.getD .skip) [t0, t1] L Q = ref07_Union_w t0 t1 L Q := by kernel_rfl
theorem ref07_Union_ok (t0 t1 : AV) (L : SH) (Q : AV → SH → Prop) (h : ref07_Union_w t0 t1 L Q) : CallA Try.prog 57 [t0, t1] L Q :=
  func_sound (ht := ref07_Union_t) fit Try.func57 (show Try.f57.body = some (Try.f57.body.getD .skip) by kernel_rfl) (Eq.mpr (ref07_Union_e t0 t1 L Q) h)

def ref08_without_t : Hints := ⟨fun k => none, fun k => if k = 3 then [0, 1, 5, 6] else [], fun k => [], fun k => []⟩
def ref08_without_zt0 (vs_0 : List AV) (L_2 : SH) (nx_1 : W.Kn)  : Prop :=
 W.idx 1 (slotOf [0, 1, 5, 6] vs_0 0) (slotOf [0, 1, 5, 6] vs_0 6) L_2 fun t22_8 =>
 W.load false 1 t22_8 L_2 fun t23_9 =>
 W.bslice 1 [(.int .i64 0)] 1 [(0, t23_9)] L_2 fun t24_10 L_11 =>
 W.append 1 8 (slotOf [0, 1, 5, 6] vs_0 5) t24_10 L_11 fun t25_12 L_13 =>
 W.bin Try.prog Fl .add 3 (slotOf [0, 1, 5, 6] vs_0 6) (.int .i64 1) fun t12_14 =>
 nx_1 [(slotOf [0, 1, 5, 6] vs_0 0), (slotOf [0, 1, 5, 6] vs_0 1), t25_12, t12_14] L_13
def ref08_without_zt1 (vs_0 : List AV) (nx_1 : W.Kn) (L_2 : SH)  : Prop :=
 W.bin Try.prog Fl .add 3 (slotOf [0, 1, 5, 6] vs_0 6) (.int .i64 1) fun t12_15 =>
 nx_1 [(slotOf [0, 1, 5, 6] vs_0 0), (slotOf [0, 1, 5, 6] vs_0 1), (slotOf [0, 1, 5, 6] vs_0 5), t12_15] L_2
def ref08_without_zt2 (vs_0 : List AV) (L_2 : SH) (nx_1 : W.Kn)  : Prop :=
 W.idx 1 (slotOf [0, 1, 5, 6] vs_0 0) (slotOf [0, 1, 5, 6] vs_0 6) L_2 fun t15_5 =>
 W.load false 1 t15_5 L_2 fun t16_6 =>
 W.bin Try.prog Fl .neq 3 t16_6 (slotOf [0, 1, 5, 6] vs_0 1) fun t18_7 =>
 W.cond t18_7 (
 (ref08_without_zt0 vs_0 L_2 nx_1)) (
 (ref08_without_zt1 vs_0 nx_1 L_2))
def ref08_without_l0 (Q : AV → SH → Prop) (vs_0 : List AV) (L_2 : SH) (nx_1 : W.Kn) : Prop :=
 W.len (slotOf [0, 1, 5, 6] vs_0 0) fun t9_3 =>
 W.bin Try.prog Fl .lss 3 (slotOf [0, 1, 5, 6] vs_0 6) t9_3 fun t10_4 =>
 W.cond t10_4 (
 (ref08_without_zt2 vs_0 L_2 nx_1)) (
 Q (slotOf [0, 1, 5, 6] vs_0 5) L_2)
def ref08_without_w (t0 t1 : AV) (L : SH) (Q : AV → SH → Prop) : Prop :=
 W.loop (ref08_without_l0 Q) [t0, t1, .nils, (.int .i64 0)] L
theorem ref08_without_e (t0 t1 : AV) (L : SH) (Q : AV → SH → Prop) : W.func Try.prog Fl ref08_without_t Try.f58 (Try.f58.body.getD .skip) [t0, t1] L Q = ref08_without_w t0 t1 L Q := by kernel_rfl
theorem ref08_without_ok (t0 t1 : AV) (L : SH) (Q : AV → SH → Prop) (h : ref08_without_w t0 t1 L Q) : CallA Try.prog 58 [t0, t1] L Q :=
  func_sound (ht := ref08_without_t) fit Try.func58 (show Try.f58.body = some (Try.f58.body.getD .skip) by kernel_rfl) (Eq.mpr (ref08_without_e t0 t1 L Q) h)

def ref08_Waiting_t : Hints := ⟨fun k => none, fun k => if k = 3 then [1, 2, 5, 6] else [], fun k => if k = 0 then [2] else [], fun k => []⟩
def ref08_Waiting_zt0 (vs_4 : List AV) (L_45 : SH) (nx_5 : W.Kn)  : Prop :=
 W.bslice 1 [(.int .i64 0)] 1 [(0, (slotOf [1, 2, 5, 6] vs_4 6))] L_45 fun t33_48 L_49 =>
 W.append 1 8 (slotOf [1, 2, 5, 6] vs_4 5) t33_48 L_49 fun t34_50 L_51 =>
 W.bin Try.prog Fl .add 3 (slotOf [1, 2, 5, 6] vs_4 6) (.int .i64 1) fun t13_52 =>
 nx_5 [(slotOf [1, 2, 5, 6] vs_4 1), (slotOf [1, 2, 5, 6] vs_4 2), t34_50, t13_52] L_51
def ref08_Waiting_zt1 (vs_4 : List AV) (nx_5 : W.Kn) (L_45 : SH)  : Prop :=
 W.bin Try.prog Fl .add 3 (slotOf [1, 2, 5, 6] vs_4 6) (.int .i64 1) fun t13_53 =>
 nx_5 [(slotOf [1, 2, 5, 6] vs_4 1), (slotOf [1, 2, 5, 6] vs_4 2), (slotOf [1, 2, 5, 6] vs_4 5), t13_53] L_45
def ref08_Waiting_zt2 (vs_4 : List AV) (L_6 : SH) (nx_5 : W.Kn)  : Prop :=
 W.faddr 3 (slotOf [1, 2, 5, 6] vs_4 2) fun t14_11 =>
 W.load false 1 t14_11 L_6 fun t15_12 =>
 W.idx 3 t15_12 (slotOf [1, 2, 5, 6] vs_4 6) L_6 fun t17_13 =>
 W.faddr 0 t17_13 fun t18_14 =>
 W.load false 1 t18_14 L_6 fun t19_15 =>
 W.bin Try.prog Fl .eql 3 t19_15 (.int .i64 3) fun t20_16 =>
 W.grd t20_16 true (fun k_18 => W.faddr 3 (slotOf [1, 2, 5, 6] vs_4 2) fun v_20 =>
 k_18 v_20 L_6) L_6 fun t22_17 L_19 =>
 W.grd t20_16 true (fun k_22 => W.load false 1 t22_17 L_19 fun v_24 =>
 k_22 v_24 L_19) L_19 fun t23_21 L_23 =>
 W.grd t20_16 true (fun k_26 => k_26 (slotOf [1, 2, 5, 6] vs_4 6) L_23) L_23 fun t24_25 L_27 =>
 W.grd t20_16 true (fun k_29 => W.idx 3 t23_21 t24_25 L_27 fun v_31 =>
 k_29 v_31 L_27) L_27 fun t25_28 L_30 =>
 W.grd t20_16 true (fun k_33 => W.faddr 1 t25_28 fun v_35 =>
 k_33 v_35 L_30) L_30 fun t26_32 L_34 =>
 W.grd t20_16 true (fun k_37 => W.load false 1 t26_32 L_34 fun v_39 =>
 k_37 v_39 L_34) L_34 fun t27_36 L_38 =>
 W.grd t20_16 true (fun k_41 => k_41 (slotOf [1, 2, 5, 6] vs_4 1) L_38) L_38 fun t28_40 L_42 =>
 W.grd t20_16 true (fun k_44 => W.bin Try.prog Fl .eql 3 t27_36 t28_40 fun v_46 =>
 k_44 v_46 L_42) L_42 fun t29_43 L_45 =>
 W.pick t20_16 t29_43 (.bool false) fun t30_47 =>
 W.cond t30_47 (
 (ref08_Waiting_zt0 vs_4 L_45 nx_5)) (
 (ref08_Waiting_zt1 vs_4 nx_5 L_45))
def ref08_Waiting_l0 (Q : AV → SH → Prop) (vs_4 : List AV) (L_6 : SH) (nx_5 : W.Kn) : Prop :=
 W.faddr 3 (slotOf [1, 2, 5, 6] vs_4 2) fun t8_7 =>
 W.load false 1 t8_7 L_6 fun t9_8 =>
 W.len t9_8 fun t10_9 =>
 W.bin Try.prog Fl .lss 3 (slotOf [1, 2, 5, 6] vs_4 6) t10_9 fun t11_10 =>
 W.cond t11_10 (
 (ref08_Waiting_zt2 vs_4 L_6 nx_5)) (
 Q (slotOf [1, 2, 5, 6] vs_4 5) L_6)
def ref08_Waiting_w (t0 t1 : AV) (L : SH) (Q : AV → SH → Prop) : Prop :=
 W.box t0 L fun t2_0 L_1 =>
 W.frz1 t2_0 L_1 fun t2_2 L_3 =>
 W.loop (ref08_Waiting_l0 Q) [t1, t2_2, .nils, (.int .i64 0)] L_3
theorem ref08_Waiting_e (t0 t1 : AV) (L : SH) (Q : AV → SH → Prop) : W.func Try.prog Fl ref08_Waiting_t Try.f59 (Try.f59.body.getD .skip) [t0, t1] L Q = ref08_Waiting_w t0 t1 L Q := by kernel_rfl
theorem ref08_Waiting_ok (t0 t1 : AV) (L : SH) (Q : AV → SH → Prop) (h : ref08_Waiting_w t0 t1 L Q) : CallA Try.prog 59 [t0, t1] L Q :=
  func_sound (ht := ref08_Waiting_t) fit Try.func59 (show Try.f59.body = some (Try.f59.body.getD .skip) by kernel_rfl) (Eq.mpr (ref08_Waiting_e t0 t1 L Q) h)

def ref07_Put_t : Hints := ⟨fun k => none, fun k => if k = 2 then [0, 1, 5] else [], fun k => [], fun k => []⟩
def ref07_Put_zt0 (L_49 : SH) (vs_0 : List AV) (Q : AV → SH → Prop)  : Prop :=
 W.bslice 1 [(.int .i64 0)] 0 [] L_49 fun t34_52 L_53 =>
 W.slice 1 (slotOf [0, 1, 5] vs_0 0) none (some (slotOf [0, 1, 5] vs_0 5)) none L_53 fun t37_54 =>
 W.append 1 8 t34_52 t37_54 L_53 fun t38_55 L_56 =>
 W.bslice 1 [(.int .i64 0)] 1 [(0, (slotOf [0, 1, 5] vs_0 1))] L_56 fun t41_57 L_58 =>
 W.append 1 8 t38_55 t41_57 L_58 fun t42_59 L_60 =>
 W.slice 1 (slotOf [0, 1, 5] vs_0 0) (some (slotOf [0, 1, 5] vs_0 5)) none none L_60 fun t46_61 =>
 W.append 1 8 t42_59 t46_61 L_60 fun t47_62 L_63 =>
 Q t47_62 L_63
def ref07_Put_zt1 (vs_0 : List AV) (L_24 : SH) (Q : AV → SH → Prop)  : Prop :=
 W.len (slotOf [0, 1, 5] vs_0 0) fun t23_28 =>
 W.bin Try.prog Fl .lss 3 (slotOf [0, 1, 5] vs_0 5) t23_28 fun t24_29 =>
 W.grd t24_29 true (fun k_31 => k_31 (slotOf [0, 1, 5] vs_0 0) L_24) L_24 fun t26_30 L_32 =>
 W.grd t24_29 true (fun k_34 => k_34 (slotOf [0, 1, 5] vs_0 5) L_32) L_32 fun t27_33 L_35 =>
 W.grd t24_29 true (fun k_37 => W.idx 1 t26_30 t27_33 L_35 fun v_39 =>
 k_37 v_39 L_35) L_35 fun t28_36 L_38 =>
 W.grd t24_29 true (fun k_41 => W.load false 1 t28_36 L_38 fun v_43 =>
 k_41 v_43 L_38) L_38 fun t29_40 L_42 =>
 W.grd t24_29 true (fun k_45 => k_45 (slotOf [0, 1, 5] vs_0 1) L_42) L_42 fun t30_44 L_46 =>
 W.grd t24_29 true (fun k_48 => W.bin Try.prog Fl .eql 3 t29_40 t30_44 fun v_50 =>
 k_48 v_50 L_46) L_46 fun t31_47 L_49 =>
 W.pick t24_29 t31_47 (.bool false) fun t32_51 =>
 W.cond t32_51 (
 Q (slotOf [0, 1, 5] vs_0 0) L_49) (
 (ref07_Put_zt0 L_49 vs_0 Q))
def ref07_Put_l0 (Q : AV → SH → Prop) (vs_0 : List AV) (L_2 : SH) (nx_1 : W.Kn) : Prop :=
 W.len (slotOf [0, 1, 5] vs_0 0) fun t9_3 =>
 W.bin Try.prog Fl .lss 3 (slotOf [0, 1, 5] vs_0 5) t9_3 fun t10_4 =>
 W.grd t10_4 true (fun k_6 => k_6 (slotOf [0, 1, 5] vs_0 0) L_2) L_2 fun t12_5 L_7 =>
 W.grd t10_4 true (fun k_9 => k_9 (slotOf [0, 1, 5] vs_0 5) L_7) L_7 fun t13_8 L_10 =>
 W.grd t10_4 true (fun k_12 => W.idx 1 t12_5 t13_8 L_10 fun v_14 =>
 k_12 v_14 L_10) L_10 fun t14_11 L_13 =>
 W.grd t10_4 true (fun k_16 => W.load false 1 t14_11 L_13 fun v_18 =>
 k_16 v_18 L_13) L_13 fun t15_15 L_17 =>
 W.grd t10_4 true (fun k_20 => k_20 (slotOf [0, 1, 5] vs_0 1) L_17) L_17 fun t16_19 L_21 =>
 W.grd t10_4 true (fun k_23 => W.bin Try.prog Fl .lss 3 t15_15 t16_19 fun v_25 =>
 k_23 v_25 L_21) L_21 fun t17_22 L_24 =>
 W.pick t10_4 t17_22 (.bool false) fun t18_26 =>
 W.cond t18_26 (
 W.bin Try.prog Fl .add 3 (slotOf [0, 1, 5] vs_0 5) (.int .i64 1) fun t20_27 =>
 nx_1 [(slotOf [0, 1, 5] vs_0 0), (slotOf [0, 1, 5] vs_0 1), t20_27] L_24) (
 (ref07_Put_zt1 vs_0 L_24 Q))
def ref07_Put_w (t0 t1 : AV) (L : SH) (Q : AV → SH → Prop) : Prop :=
 W.loop (ref07_Put_l0 Q) [t0, t1, (.int .i64 0)] L
theorem ref07_Put_e (t0 t1 : AV) (L : SH) (Q : AV → SH → Prop) : W.func Try.prog Fl ref07_Put_t Try.f64 (Try.f64.body.getD .skip) [t0, t1] L Q = ref07_Put_w t0 t1 L Q := by kernel_rfl
theorem ref07_Put_ok (t0 t1 : AV) (L : SH) (Q : AV → SH → Prop) (h : ref07_Put_w t0 t1 L Q) : CallA Try.prog 64 [t0, t1] L Q :=
  func_sound (ht := ref07_Put_t) fit Try.func64 (show Try.f64.body = some (Try.f64.body.getD .skip) by kernel_rfl) (Eq.mpr (ref07_Put_e t0 t1 L Q) h)

def ref08_Apply_t : Hints := ⟨fun k => if k = 53 then some [7, 12, 15] else if k = 11 then some [2, 4, 5, 6, 7, 12, 15, 30, 45] else if k = 14 then some [2, 4, 5, 6, 7, 12, 15, 30, 54] else if k = 40 then some [7, 12, 17] else none, fun k => if k = 46 then [7, 12, 18, 19] else [], fun k => if k = 0 then [6] else [], fun k => if k = 17 then [0, 1, 0, 0, 8, 0, 56, 120, 248, 0, 512, 2040, 4095, 8191, 16383] else if k = 19 then [0, 1, 0, 0, 8, 0, 56, 120, 248, 0, 1016, 2047, 4095, 8191] else if k = 29 then [0, 1, 0, 4, 0, 28, 60, 124, 255, 511, 1023] else if k = 30 then [0, 1, 0, 0, 8, 0, 0, 7, 135, 391, 1023, 2047, 4095] else if k = 32 then [0, 1, 0, 4, 0, 28, 60, 124, 0, 511, 1023, 2047] else if k = 33 then [0, 1, 0, 0, 8, 0, 7, 71, 199, 511, 1023, 2047] else if k = 48 then [0, 1, 0, 0, 12, 28, 63, 127, 255] else []⟩
def ref08_Apply_zt0 (t12_4 : AV) (L_11 : SH) (Q : AV → SH → Prop)  : Prop :=
 W.build [.nils, (.int .i64 0), .nils, .nils] [] fun t27_13 =>
 W.store 4 t12_4 t27_13 L_11 fun L_14 =>
 W.load true 4 t12_4 L_14 fun r_15 =>
 Q (.tup [r_15, (.int .i64 0), (.bool false)]) L_14
def ref08_Apply_j0 (Q : AV → SH → Prop) (vs_20 : List AV) (L_22 : SH) : Prop :=
 W.load true 4 (slotOf [7, 12, 15] vs_20 7) L_22 fun t215_23 =>
 W.store 4 (slotOf [7, 12, 15] vs_20 12) t215_23 L_22 fun L_24 =>
 W.load true 4 (slotOf [7, 12, 15] vs_20 12) L_24 fun r_25 =>
 Q (.tup [r_25, (slotOf [7, 12, 15] vs_20 15), (.bool true)]) L_24
def ref08_Apply_zt1 (t7_2 : AV) (L_19 : SH) (t2 : AV) (j_21 : W.Kn) (t12_4 : AV)  : Prop :=
 W.faddr 3 t7_2 fun t33_27 =>
 W.load false 1 t33_27 L_19 fun t34_28 =>
 W.idx 3 t34_28 t2 L_19 fun t36_29 =>
 W.faddr 0 t36_29 fun t37_30 =>
 W.store 1 t37_30 (.int .i64 2) L_19 fun L_31 =>
 j_21 [t7_2, t12_4, (.int .i64 0)] L_31
def ref08_Apply_zt2 (t7_2 : AV) (L_19 : SH) (t2 : AV) (j_21 : W.Kn) (t12_4 : AV)  : Prop :=
 W.faddr 3 t7_2 fun t40_33 =>
 W.load false 1 t40_33 L_19 fun t41_34 =>
 W.idx 3 t41_34 t2 L_19 fun t43_35 =>
 W.faddr 0 t43_35 fun t44_36 =>
 W.store 1 t44_36 (.int .i64 5) L_19 fun L_37 =>
 j_21 [t7_2, t12_4, (.int .i64 0)] L_37
def ref08_Apply_zt3 (vs_38 : List AV) (L_40 : SH) (j_21 : W.Kn)  : Prop :=
 W.faddr 0 (slotOf [2, 4, 5, 6, 7, 12, 15, 30, 45] vs_38 7) fun t48_41 =>
 W.load false 1 t48_41 L_40 fun t49_42 =>
 W.idx 2 t49_42 (slotOf [2, 4, 5, 6, 7, 12, 15, 30, 45] vs_38 4) L_40 fun t52_43 =>
 W.faddr 0 t52_43 fun t53_44 =>
 W.store 1 t53_44 (slotOf [2, 4, 5, 6, 7, 12, 15, 30, 45] vs_38 2) L_40 fun L_45 =>
 j_21 [(slotOf [2, 4, 5, 6, 7, 12, 15, 30, 45] vs_38 7), (slotOf [2, 4, 5, 6, 7, 12, 15, 30, 45] vs_38 12), (slotOf [2, 4, 5, 6, 7, 12, 15, 30, 45] vs_38 15)] L_45
def ref08_Apply_zt4 (vs_46 : List AV) (L_48 : SH) (j_21 : W.Kn)  : Prop :=
 W.faddr 0 (slotOf [2, 4, 5, 6, 7, 12, 15, 30, 54] vs_46 7) fun t57_49 =>
 W.load false 1 t57_49 L_48 fun t58_50 =>
 W.idx 2 t58_50 (slotOf [2, 4, 5, 6, 7, 12, 15, 30, 54] vs_46 4) L_48 fun t60_51 =>
 W.faddr 0 t60_51 fun t61_52 =>
 W.store 1 t61_52 (.int .i64 (-1)) L_48 fun L_53 =>
 j_21 [(slotOf [2, 4, 5, 6, 7, 12, 15, 30, 54] vs_46 7), (slotOf [2, 4, 5, 6, 7, 12, 15, 30, 54] vs_46 12), (slotOf [2, 4, 5, 6, 7, 12, 15, 30, 54] vs_46 15)] L_53
def ref08_Apply_d1 (L_67 : SH) (t65_56 : AV) (vs_46 : List AV) (j_21 : W.Kn) (t75_69 : AV) (L_71 : SH) (ks_70 : List Nat) : Prop :=
 W.note ⟨[], ks_70, [], L_67.names⟩ fun r_72 =>
 W.calm [] ⟨12, (slOf t65_56), [], [], false, []⟩ (
 W.idx 2 t65_56 (slotOf [2, 4, 5, 6, 7, 12, 15, 30, 54] vs_46 4) L_71 fun t76_73 =>
 W.note ⟨(slOf t65_56), [], [], []⟩ fun r_74 =>
 W.faddr 1 t76_73 fun t77_75 =>
 W.calm [] ⟨14, (blocksOf t77_75), (blocksOf t77_75), [], false, []⟩ (
 W.store 1 t77_75 t75_69 L_71 fun L_76 =>
 W.note ⟨(blocksOf t77_75), (blocksOf t77_75), [], []⟩ fun r_77 =>
 j_21 [(slotOf [2, 4, 5, 6, 7, 12, 15, 30, 54] vs_46 7), (slotOf [2, 4, 5, 6, 7, 12, 15, 30, 54] vs_46 12), (slotOf [2, 4, 5, 6, 7, 12, 15, 30, 54] vs_46 15)] L_76))
def ref08_Apply_zt5 (vs_46 : List AV) (L_48 : SH) (j_21 : W.Kn)  : Prop :=
 (true = true) ∧ (
 W.faddr 0 (slotOf [2, 4, 5, 6, 7, 12, 15, 30, 54] vs_46 7) fun t64_55 =>
 W.calm [] ⟨1, (blocksOf t64_55), [], [], false, []⟩ (
 W.load false 1 t64_55 L_48 fun t65_56 =>
 W.note ⟨(blocksOf t64_55), [], [], []⟩ fun r_57 =>
 W.faddr 0 (slotOf [2, 4, 5, 6, 7, 12, 15, 30, 54] vs_46 7) fun t67_58 =>
 W.calm [⟨1, r_57.reads, r_57.writes, r_57.made, false, r_57.old⟩] ⟨4, (blocksOf t67_58), [], [], false, []⟩ (
 W.load false 1 t67_58 L_48 fun t68_59 =>
 W.note ⟨(blocksOf t67_58), [], [], []⟩ fun r_60 =>
 W.calm [⟨1, r_57.reads, r_57.writes, r_57.made, false, r_57.old⟩] ⟨6, (slOf t68_59), [], [], false, []⟩ (
 W.idx 2 t68_59 (slotOf [2, 4, 5, 6, 7, 12, 15, 30, 54] vs_46 4) L_48 fun t70_61 =>
 W.note ⟨(slOf t68_59), [], [], []⟩ fun r_62 =>
 W.faddr 1 t70_61 fun t71_63 =>
 W.calm [⟨1, r_57.reads, r_57.writes, r_57.made, false, r_57.old⟩] ⟨8, (blocksOf t71_63), [], [], false, []⟩ (
 W.load false 1 t71_63 L_48 fun t72_64 =>
 W.note ⟨(blocksOf t71_63), [], [], []⟩ fun r_65 =>
 W.calm [⟨8, r_65.reads, r_65.writes, r_65.made, false, r_65.old⟩, ⟨6, r_62.reads, r_62.writes, r_62.made, false, r_62.old⟩, ⟨4, r_60.reads, r_60.writes, r_60.made, false, r_60.old⟩, ⟨1, r_57.reads, r_57.writes, r_57.made, false, r_57.old⟩] ⟨10, [], [], [], false, []⟩ (
 W.bslice 1 [(.int .i64 0)] 1 [(0, (slotOf [2, 4, 5, 6, 7, 12, 15, 30, 54] vs_46 2))] L_48 fun t74_66 L_67 =>
 W.note ⟨[], [], (blocksOf t74_66), []⟩ fun r_68 =>
 W.dcall Try.prog [⟨1, r_57.reads, r_57.writes, r_57.made, false, r_57.old⟩] 11 (.fn 57 []) [t72_64, t74_66] L_67 (ref08_Apply_d1 L_67 t65_56 vs_46 j_21)))))))
def ref08_Apply_d2 (L_48 : SH) (t81_80 : AV) (vs_46 : List AV) (j_21 : W.Kn) (t90_90 : AV) (L_92 : SH) (ks_91 : List Nat) : Prop :=
 W.note ⟨[], ks_91, [], L_48.names⟩ fun r_93 =>
 W.calm [] ⟨11, (slOf t81_80), [], [], false, []⟩ (
 W.idx 2 t81_80 (slotOf [2, 4, 5, 6, 7, 12, 15, 30, 54] vs_46 4) L_92 fun t91_94 =>
 W.note ⟨(slOf t81_80), [], [], []⟩ fun r_95 =>
 W.faddr 1 t91_94 fun t92_96 =>
 W.calm [] ⟨13, (blocksOf t92_96), (blocksOf t92_96), [], false, []⟩ (
 W.store 1 t92_96 t90_90 L_92 fun L_97 =>
 W.note ⟨(blocksOf t92_96), (blocksOf t92_96), [], []⟩ fun r_98 =>
 j_21 [(slotOf [2, 4, 5, 6, 7, 12, 15, 30, 54] vs_46 7), (slotOf [2, 4, 5, 6, 7, 12, 15, 30, 54] vs_46 12), (slotOf [2, 4, 5, 6, 7, 12, 15, 30, 54] vs_46 15)] L_97))
def ref08_Apply_zt6 (vs_46 : List AV) (L_48 : SH) (j_21 : W.Kn)  : Prop :=
 (true = true) ∧ (
 W.faddr 0 (slotOf [2, 4, 5, 6, 7, 12, 15, 30, 54] vs_46 7) fun t80_79 =>
 W.calm [] ⟨1, (blocksOf t80_79), [], [], false, []⟩ (
 W.load false 1 t80_79 L_48 fun t81_80 =>
 W.note ⟨(blocksOf t80_79), [], [], []⟩ fun r_81 =>
 W.faddr 0 (slotOf [2, 4, 5, 6, 7, 12, 15, 30, 54] vs_46 7) fun t83_82 =>
 W.calm [⟨1, r_81.reads, r_81.writes, r_81.made, false, r_81.old⟩] ⟨4, (blocksOf t83_82), [], [], false, []⟩ (
 W.load false 1 t83_82 L_48 fun t84_83 =>
 W.note ⟨(blocksOf t83_82), [], [], []⟩ fun r_84 =>
 W.calm [⟨1, r_81.reads, r_81.writes, r_81.made, false, r_81.old⟩] ⟨6, (slOf t84_83), [], [], false, []⟩ (
 W.idx 2 t84_83 (slotOf [2, 4, 5, 6, 7, 12, 15, 30, 54] vs_46 4) L_48 fun t86_85 =>
 W.note ⟨(slOf t84_83), [], [], []⟩ fun r_86 =>
 W.faddr 1 t86_85 fun t87_87 =>
 W.calm [⟨1, r_81.reads, r_81.writes, r_81.made, false, r_81.old⟩] ⟨8, (blocksOf t87_87), [], [], false, []⟩ (
 W.load false 1 t87_87 L_48 fun t88_88 =>
 W.note ⟨(blocksOf t87_87), [], [], []⟩ fun r_89 =>
 W.dcall Try.prog [⟨1, r_81.reads, r_81.writes, r_81.made, false, r_81.old⟩] 10 (.fn 58 []) [t88_88, (slotOf [2, 4, 5, 6, 7, 12, 15, 30, 54] vs_46 2)] L_48 (ref08_Apply_d2 L_48 t81_80 vs_46 j_21))))))
def ref08_Apply_zt7 (vs_46 : List AV) (L_48 : SH) (j_21 : W.Kn)  : Prop :=
 W.faddr 1 (slotOf [2, 4, 5, 6, 7, 12, 15, 30, 54] vs_46 7) fun t96_100 =>
 W.store 1 t96_100 (slotOf [2, 4, 5, 6, 7, 12, 15, 30, 54] vs_46 2) L_48 fun L_101 =>
 j_21 [(slotOf [2, 4, 5, 6, 7, 12, 15, 30, 54] vs_46 7), (slotOf [2, 4, 5, 6, 7, 12, 15, 30, 54] vs_46 12), (slotOf [2, 4, 5, 6, 7, 12, 15, 30, 54] vs_46 15)] L_101
def ref08_Apply_zt8 (vs_46 : List AV) (L_48 : SH) (j_21 : W.Kn)  : Prop :=
 W.faddr 1 (slotOf [2, 4, 5, 6, 7, 12, 15, 30, 54] vs_46 7) fun t99_103 =>
 W.store 1 t99_103 (.int .i64 (-1)) L_48 fun L_104 =>
 j_21 [(slotOf [2, 4, 5, 6, 7, 12, 15, 30, 54] vs_46 7), (slotOf [2, 4, 5, 6, 7, 12, 15, 30, 54] vs_46 12), (slotOf [2, 4, 5, 6, 7, 12, 15, 30, 54] vs_46 15)] L_104
def ref08_Apply_zt9 (vs_46 : List AV) (L_48 : SH) (j_21 : W.Kn)  : Prop :=
 W.faddr 3 (slotOf [2, 4, 5, 6, 7, 12, 15, 30, 54] vs_46 7) fun t102_106 =>
 W.load false 1 t102_106 L_48 fun t103_107 =>
 W.idx 3 t103_107 (slotOf [2, 4, 5, 6, 7, 12, 15, 30, 54] vs_46 2) L_48 fun t105_108 =>
 W.faddr 2 t105_108 fun t106_109 =>
 W.store 1 t106_109 (.bool true) L_48 fun L_110 =>
 j_21 [(slotOf [2, 4, 5, 6, 7, 12, 15, 30, 54] vs_46 7), (slotOf [2, 4, 5, 6, 7, 12, 15, 30, 54] vs_46 12), (slotOf [2, 4, 5, 6, 7, 12, 15, 30, 54] vs_46 15)] L_110
def ref08_Apply_zt10 (vs_46 : List AV) (L_48 : SH) (j_21 : W.Kn)  : Prop :=
 W.faddr 3 (slotOf [2, 4, 5, 6, 7, 12, 15, 30, 54] vs_46 7) fun t109_112 =>
 W.load false 1 t109_112 L_48 fun t110_113 =>
 W.idx 3 t110_113 (slotOf [2, 4, 5, 6, 7, 12, 15, 30, 54] vs_46 2) L_48 fun t112_114 =>
 W.faddr 2 t112_114 fun t113_115 =>
 W.store 1 t113_115 (.bool false) L_48 fun L_116 =>
 j_21 [(slotOf [2, 4, 5, 6, 7, 12, 15, 30, 54] vs_46 7), (slotOf [2, 4, 5, 6, 7, 12, 15, 30, 54] vs_46 12), (slotOf [2, 4, 5, 6, 7, 12, 15, 30, 54] vs_46 15)] L_116
def ref08_Apply_zt11 (vs_46 : List AV) (L_48 : SH) (j_21 : W.Kn)  : Prop :=
 (true = true) ∧ (
 W.faddr 0 (slotOf [2, 4, 5, 6, 7, 12, 15, 30, 54] vs_46 7) fun t116_118 =>
 W.calm [] ⟨1, (blocksOf t116_118), [], [], false, []⟩ (
 W.load false 1 t116_118 L_48 fun t117_119 =>
 W.note ⟨(blocksOf t116_118), [], [], []⟩ fun r_120 =>
 W.faddr 2 (slotOf [2, 4, 5, 6, 7, 12, 15, 30, 54] vs_46 6) fun t118_121 =>
 W.calm [⟨1, r_120.reads, r_120.writes, r_120.made, false, r_120.old⟩] ⟨3, (blocksOf t118_121), [], [], false, []⟩ (
 W.load false 1 t118_121 L_48 fun t119_122 =>
 W.note ⟨(blocksOf t118_121), [], [], []⟩ fun r_123 =>
 W.calm [⟨1, r_120.reads, r_120.writes, r_120.made, false, r_120.old⟩] ⟨5, (slOf t119_122), [], [], false, []⟩ (
 W.idx 2 t119_122 (slotOf [2, 4, 5, 6, 7, 12, 15, 30, 54] vs_46 4) L_48 fun t121_124 =>
 W.note ⟨(slOf t119_122), [], [], []⟩ fun r_125 =>
 W.faddr 1 t121_124 fun t122_126 =>
 W.calm [⟨1, r_120.reads, r_120.writes, r_120.made, false, r_120.old⟩] ⟨7, (blocksOf t122_126), [], [], false, []⟩ (
 W.load false 1 t122_126 L_48 fun t123_127 =>
 W.note ⟨(blocksOf t122_126), [], [], []⟩ fun r_128 =>
 W.calm [] ⟨8, (slOf t117_119), [], [], false, []⟩ (
 W.idx 2 t117_119 t123_127 L_48 fun t124_129 =>
 W.note ⟨(slOf t117_119), [], [], []⟩ fun r_130 =>
 W.faddr 0 t124_129 fun t125_131 =>
 W.calm [] ⟨10, (blocksOf t125_131), (blocksOf t125_131), [], false, []⟩ (
 W.store 1 t125_131 (.int .i64 (-1)) L_48 fun L_132 =>
 W.note ⟨(blocksOf t125_131), (blocksOf t125_131), [], []⟩ fun r_133 =>
 (true = true) ∧ (
 W.faddr 3 (slotOf [2, 4, 5, 6, 7, 12, 15, 30, 54] vs_46 7) fun t126_134 =>
 W.calm [] ⟨1, (blocksOf t126_134), [], [], false, []⟩ (
 W.load false 1 t126_134 L_132 fun t127_135 =>
 W.note ⟨(blocksOf t126_134), [], [], []⟩ fun r_136 =>
 W.faddr 3 (slotOf [2, 4, 5, 6, 7, 12, 15, 30, 54] vs_46 7) fun t129_137 =>
 W.calm [⟨1, r_136.reads, r_136.writes, r_136.made, false, r_136.old⟩] ⟨4, (blocksOf t129_137), [], [], false, []⟩ (
 W.load false 1 t129_137 L_132 fun t130_138 =>
 W.note ⟨(blocksOf t129_137), [], [], []⟩ fun r_139 =>
 W.calm [⟨4, r_139.reads, r_139.writes, r_139.made, false, r_139.old⟩] ⟨7, (slOf t127_135), [], [], false, []⟩ (
 W.idx 3 t127_135 (slotOf [2, 4, 5, 6, 7, 12, 15, 30, 54] vs_46 2) L_132 fun t133_140 =>
 W.note ⟨(slOf t127_135), [], [], []⟩ fun r_141 =>
 W.faddr 0 t133_140 fun t134_142 =>
 W.calm [⟨4, r_139.reads, r_139.writes, r_139.made, false, r_139.old⟩] ⟨9, (blocksOf t134_142), (blocksOf t134_142), [], false, []⟩ (
 W.store 1 t134_142 (.int .i64 3) L_132 fun L_143 =>
 W.note ⟨(blocksOf t134_142), (blocksOf t134_142), [], []⟩ fun r_144 =>
 W.calm [] ⟨10, (slOf t130_138), [], [], false, []⟩ (
 W.idx 3 t130_138 (slotOf [2, 4, 5, 6, 7, 12, 15, 30, 54] vs_46 2) L_143 fun t135_145 =>
 W.note ⟨(slOf t130_138), [], [], []⟩ fun r_146 =>
 W.faddr 1 t135_145 fun t136_147 =>
 W.calm [] ⟨12, (blocksOf t136_147), (blocksOf t136_147), [], false, []⟩ (
 W.store 1 t136_147 (slotOf [2, 4, 5, 6, 7, 12, 15, 30, 54] vs_46 4) L_143 fun L_148 =>
 W.note ⟨(blocksOf t136_147), (blocksOf t136_147), [], []⟩ fun r_149 =>
 j_21 [(slotOf [2, 4, 5, 6, 7, 12, 15, 30, 54] vs_46 7), (slotOf [2, 4, 5, 6, 7, 12, 15, 30, 54] vs_46 12), (slotOf [2, 4, 5, 6, 7, 12, 15, 30, 54] vs_46 15)] L_148))))))))))))))
def ref08_Apply_zt12 (vs_46 : List AV) (L_48 : SH) (j_21 : W.Kn)  : Prop :=
 (true = true) ∧ (
 W.faddr 0 (slotOf [2, 4, 5, 6, 7, 12, 15, 30, 54] vs_46 7) fun t139_151 =>
 W.calm [] ⟨1, (blocksOf t139_151), [], [], false, []⟩ (
 W.load false 1 t139_151 L_48 fun t140_152 =>
 W.note ⟨(blocksOf t139_151), [], [], []⟩ fun r_153 =>
 W.faddr 2 (slotOf [2, 4, 5, 6, 7, 12, 15, 30, 54] vs_46 6) fun t141_154 =>
 W.calm [⟨1, r_153.reads, r_153.writes, r_153.made, false, r_153.old⟩] ⟨3, (blocksOf t141_154), [], [], false, []⟩ (
 W.load false 1 t141_154 L_48 fun t142_155 =>
 W.note ⟨(blocksOf t141_154), [], [], []⟩ fun r_156 =>
 W.calm [⟨1, r_153.reads, r_153.writes, r_153.made, false, r_153.old⟩] ⟨5, (slOf t142_155), [], [], false, []⟩ (
 W.idx 2 t142_155 (slotOf [2, 4, 5, 6, 7, 12, 15, 30, 54] vs_46 4) L_48 fun t144_157 =>
 W.note ⟨(slOf t142_155), [], [], []⟩ fun r_158 =>
 W.faddr 1 t144_157 fun t145_159 =>
 W.calm [⟨1, r_153.reads, r_153.writes, r_153.made, false, r_153.old⟩] ⟨7, (blocksOf t145_159), [], [], false, []⟩ (
 W.load false 1 t145_159 L_48 fun t146_160 =>
 W.note ⟨(blocksOf t145_159), [], [], []⟩ fun r_161 =>
 W.calm [] ⟨9, (slOf t140_152), [], [], false, []⟩ (
 W.idx 2 t140_152 t146_160 L_48 fun t148_162 =>
 W.note ⟨(slOf t140_152), [], [], []⟩ fun r_163 =>
 W.faddr 0 t148_162 fun t149_164 =>
 W.calm [] ⟨11, (blocksOf t149_164), (blocksOf t149_164), [], false, []⟩ (
 W.store 1 t149_164 (slotOf [2, 4, 5, 6, 7, 12, 15, 30, 54] vs_46 2) L_48 fun L_165 =>
 W.note ⟨(blocksOf t149_164), (blocksOf t149_164), [], []⟩ fun r_166 =>
 (true = true) ∧ (
 W.faddr 3 (slotOf [2, 4, 5, 6, 7, 12, 15, 30, 54] vs_46 7) fun t150_167 =>
 W.calm [] ⟨1, (blocksOf t150_167), [], [], false, []⟩ (
 W.load false 1 t150_167 L_165 fun t151_168 =>
 W.note ⟨(blocksOf t150_167), [], [], []⟩ fun r_169 =>
 W.faddr 3 (slotOf [2, 4, 5, 6, 7, 12, 15, 30, 54] vs_46 7) fun t153_170 =>
 W.calm [⟨1, r_169.reads, r_169.writes, r_169.made, false, r_169.old⟩] ⟨4, (blocksOf t153_170), [], [], false, []⟩ (
 W.load false 1 t153_170 L_165 fun t154_171 =>
 W.note ⟨(blocksOf t153_170), [], [], []⟩ fun r_172 =>
 W.calm [⟨4, r_172.reads, r_172.writes, r_172.made, false, r_172.old⟩] ⟨6, (slOf t151_168), [], [], false, []⟩ (
 W.idx 3 t151_168 (slotOf [2, 4, 5, 6, 7, 12, 15, 30, 54] vs_46 2) L_165 fun t156_173 =>
 W.note ⟨(slOf t151_168), [], [], []⟩ fun r_174 =>
 W.faddr 0 t156_173 fun t157_175 =>
 W.calm [⟨4, r_172.reads, r_172.writes, r_172.made, false, r_172.old⟩] ⟨8, (blocksOf t157_175), (blocksOf t157_175), [], false, []⟩ (
 W.store 1 t157_175 (.int .i64 2) L_165 fun L_176 =>
 W.note ⟨(blocksOf t157_175), (blocksOf t157_175), [], []⟩ fun r_177 =>
 W.calm [] ⟨9, (slOf t154_171), [], [], false, []⟩ (
 W.idx 3 t154_171 (slotOf [2, 4, 5, 6, 7, 12, 15, 30, 54] vs_46 2) L_176 fun t158_178 =>
 W.note ⟨(slOf t154_171), [], [], []⟩ fun r_179 =>
 W.faddr 1 t158_178 fun t159_180 =>
 W.calm [] ⟨11, (blocksOf t159_180), (blocksOf t159_180), [], false, []⟩ (
 W.store 1 t159_180 (.int .i64 0) L_176 fun L_181 =>
 W.note ⟨(blocksOf t159_180), (blocksOf t159_180), [], []⟩ fun r_182 =>
 j_21 [(slotOf [2, 4, 5, 6, 7, 12, 15, 30, 54] vs_46 7), (slotOf [2, 4, 5, 6, 7, 12, 15, 30, 54] vs_46 12), (slotOf [2, 4, 5, 6, 7, 12, 15, 30, 54] vs_46 15)] L_181))))))))))))))
def ref08_Apply_j3 (j_21 : W.Kn) (vs_191 : List AV) (L_193 : SH) : Prop :=
 W.faddr 3 (slotOf [7, 12, 17] vs_191 7) fun t175_194 =>
 W.load false 1 t175_194 L_193 fun t176_195 =>
 W.idx 3 t176_195 (slotOf [7, 12, 17] vs_191 17) L_193 fun t178_196 =>
 W.faddr 0 t178_196 fun t179_197 =>
 W.store 1 t179_197 (.int .i64 4) L_193 fun L_198 =>
 j_21 [(slotOf [7, 12, 17] vs_191 7), (slotOf [7, 12, 17] vs_191 12), (slotOf [7, 12, 17] vs_191 17)] L_198
def ref08_Apply_zt13 (j_192 : W.Kn) (vs_46 : List AV) (L_200 : SH)  : Prop :=
 j_192 [(slotOf [2, 4, 5, 6, 7, 12, 15, 30, 54] vs_46 7), (slotOf [2, 4, 5, 6, 7, 12, 15, 30, 54] vs_46 12), (slotOf [2, 4, 5, 6, 7, 12, 15, 30, 54] vs_46 5)] L_200
def ref08_Apply_c4 (j_192 : W.Kn) (vs_46 : List AV) (t170_190 : AV) (t173_199 : AV) (L_200 : SH) : Prop :=
 W.cond t173_199 (
 (ref08_Apply_zt13 j_192 vs_46 L_200)) (
 j_192 [(slotOf [2, 4, 5, 6, 7, 12, 15, 30, 54] vs_46 7), (slotOf [2, 4, 5, 6, 7, 12, 15, 30, 54] vs_46 12), t170_190] L_200)
def ref08_Apply_zt14 (t164_185 : AV) (L_186 : SH) (j_21 : W.Kn) (vs_46 : List AV)  : Prop :=
 W.idx 1 t164_185 (.int .i64 0) L_186 fun t169_189 =>
 W.load false 1 t169_189 L_186 fun t170_190 =>
 W.join (ref08_Apply_j3 j_21) fun j_192 =>
 W.call Try.prog (.fn 15 []) [t164_185, (slotOf [2, 4, 5, 6, 7, 12, 15, 30, 54] vs_46 5)] L_186 (ref08_Apply_c4 j_192 vs_46 t170_190)
def ref08_Apply_c5 (j_21 : W.Kn) (vs_46 : List AV) (t164_185 : AV) (L_186 : SH) : Prop :=
 W.len t164_185 fun t166_187 =>
 W.bin Try.prog Fl .gtr 3 t166_187 (.int .i64 0) fun t167_188 =>
 W.cond t167_188 (
 (ref08_Apply_zt14 t164_185 L_186 j_21 vs_46)) (
 j_21 [(slotOf [2, 4, 5, 6, 7, 12, 15, 30, 54] vs_46 7), (slotOf [2, 4, 5, 6, 7, 12, 15, 30, 54] vs_46 12), (.int .i64 (-1))] L_186)
def ref08_Apply_zt15 (vs_46 : List AV) (L_48 : SH) (j_21 : W.Kn)  : Prop :=
 W.load true 4 (slotOf [2, 4, 5, 6, 7, 12, 15, 30, 54] vs_46 7) L_48 fun t162_184 =>
 W.call Try.prog (.fn 59 []) [t162_184, (slotOf [2, 4, 5, 6, 7, 12, 15, 30, 54] vs_46 4)] L_48 (ref08_Apply_c5 j_21 vs_46)
def ref08_Apply_zt16 (vs_205 : List AV) (L_207 : SH) (nx_206 : W.Kn)  : Prop :=
 (true = true) ∧ (
 W.faddr 3 (slotOf [7, 12, 18, 19] vs_205 7) fun t192_210 =>
 W.calm [] ⟨1, (blocksOf t192_210), [], [], false, []⟩ (
 W.load false 1 t192_210 L_207 fun t193_211 =>
 W.note ⟨(blocksOf t192_210), [], [], []⟩ fun r_212 =>
 W.calm [⟨1, r_212.reads, r_212.writes, r_212.made, false, r_212.old⟩] ⟨4, (slOf (slotOf [7, 12, 18, 19] vs_205 18)), [], [], false, []⟩ (
 W.idx 1 (slotOf [7, 12, 18, 19] vs_205 18) (slotOf [7, 12, 18, 19] vs_205 19) L_207 fun t196_213 =>
 W.note ⟨(slOf (slotOf [7, 12, 18, 19] vs_205 18)), [], [], []⟩ fun r_214 =>
 W.calm [⟨1, r_212.reads, r_212.writes, r_212.made, false, r_212.old⟩] ⟨5, (blocksOf t196_213), [], [], false, []⟩ (
 W.load false 1 t196_213 L_207 fun t197_215 =>
 W.note ⟨(blocksOf t196_213), [], [], []⟩ fun r_216 =>
 W.calm [] ⟨6, (slOf t193_211), [], [], false, []⟩ (
 W.idx 3 t193_211 t197_215 L_207 fun t198_217 =>
 W.note ⟨(slOf t193_211), [], [], []⟩ fun r_218 =>
 W.faddr 0 t198_217 fun t199_219 =>
 W.calm [] ⟨8, (blocksOf t199_219), (blocksOf t199_219), [], false, []⟩ (
 W.store 1 t199_219 (.int .i64 4) L_207 fun L_220 =>
 W.note ⟨(blocksOf t199_219), (blocksOf t199_219), [], []⟩ fun r_221 =>
 W.bin Try.prog Fl .add 3 (slotOf [7, 12, 18, 19] vs_205 19) (.int .i64 1) fun t191_222 =>
 nx_206 [(slotOf [7, 12, 18, 19] vs_205 7), (slotOf [7, 12, 18, 19] vs_205 12), (slotOf [7, 12, 18, 19] vs_205 18), t191_222] L_220))))))
def ref08_Apply_l6 (j_21 : W.Kn) (vs_205 : List AV) (L_207 : SH) (nx_206 : W.Kn) : Prop :=
 W.len (slotOf [7, 12, 18, 19] vs_205 18) fun t188_208 =>
 W.bin Try.prog Fl .lss 3 (slotOf [7, 12, 18, 19] vs_205 19) t188_208 fun t189_209 =>
 W.cond t189_209 (
 (ref08_Apply_zt16 vs_205 L_207 nx_206)) (
 W.len (slotOf [7, 12, 18, 19] vs_205 18) fun t201_223 =>
 j_21 [(slotOf [7, 12, 18, 19] vs_205 7), (slotOf [7, 12, 18, 19] vs_205 12), t201_223] L_207)
def ref08_Apply_c7 (j_21 : W.Kn) (vs_46 : List AV) (t185_203 : AV) (L_204 : SH) : Prop :=
 W.loop (ref08_Apply_l6 j_21) [(slotOf [2, 4, 5, 6, 7, 12, 15, 30, 54] vs_46 7), (slotOf [2, 4, 5, 6, 7, 12, 15, 30, 54] vs_46 12), t185_203, (.int .i64 0)] L_204
def ref08_Apply_zt17 (vs_46 : List AV) (L_48 : SH) (j_21 : W.Kn)  : Prop :=
 W.load true 4 (slotOf [2, 4, 5, 6, 7, 12, 15, 30, 54] vs_46 7) L_48 fun t183_202 =>
 W.call Try.prog (.fn 59 []) [t183_202, (slotOf [2, 4, 5, 6, 7, 12, 15, 30, 54] vs_46 4)] L_48 (ref08_Apply_c7 j_21 vs_46)
def ref08_Apply_zt18 (vs_46 : List AV) (L_48 : SH) (j_21 : W.Kn)  : Prop :=
 W.faddr 3 (slotOf [2, 4, 5, 6, 7, 12, 15, 30, 54] vs_46 7) fun t204_225 =>
 W.load false 1 t204_225 L_48 fun t205_226 =>
 W.idx 3 t205_226 (slotOf [2, 4, 5, 6, 7, 12, 15, 30, 54] vs_46 4) L_48 fun t207_227 =>
 W.faddr 0 t207_227 fun t208_228 =>
 W.store 1 t208_228 (.int .i64 1) L_48 fun L_229 =>
 j_21 [(slotOf [2, 4, 5, 6, 7, 12, 15, 30, 54] vs_46 7), (slotOf [2, 4, 5, 6, 7, 12, 15, 30, 54] vs_46 12), (slotOf [2, 4, 5, 6, 7, 12, 15, 30, 54] vs_46 15)] L_229
def ref08_Apply_zt19 (vs_46 : List AV) (L_48 : SH) (j_21 : W.Kn)  : Prop :=
 W.faddr 2 (slotOf [2, 4, 5, 6, 7, 12, 15, 30, 54] vs_46 7) fun t211_231 =>
 W.load false 1 t211_231 L_48 fun t212_232 =>
 W.idx 1 t212_232 (slotOf [2, 4, 5, 6, 7, 12, 15, 30, 54] vs_46 4) L_48 fun t214_233 =>
 W.store 1 t214_233 (.bool true) L_48 fun L_234 =>
 j_21 [(slotOf [2, 4, 5, 6, 7, 12, 15, 30, 54] vs_46 7), (slotOf [2, 4, 5, 6, 7, 12, 15, 30, 54] vs_46 12), (slotOf [2, 4, 5, 6, 7, 12, 15, 30, 54] vs_46 15)] L_234
def ref08_Apply_zt20 (j_21 : W.Kn) (vs_46 : List AV) (L_48 : SH)  : Prop :=
 j_21 [(slotOf [2, 4, 5, 6, 7, 12, 15, 30, 54] vs_46 7), (slotOf [2, 4, 5, 6, 7, 12, 15, 30, 54] vs_46 12), (slotOf [2, 4, 5, 6, 7, 12, 15, 30, 54] vs_46 15)] L_48
def ref08_Apply_zt21 (vs_46 : List AV) (L_48 : SH) (j_21 : W.Kn)  : Prop :=
 W.bin Try.prog Fl .eql 3 (slotOf [2, 4, 5, 6, 7, 12, 15, 30, 54] vs_46 30) (.int .i64 22) fun t210_230 =>
 W.cond t210_230 (
 (ref08_Apply_zt19 vs_46 L_48 j_21)) (
 (ref08_Apply_zt20 j_21 vs_46 L_48))
def ref08_Apply_zt22 (vs_46 : List AV) (L_48 : SH) (j_21 : W.Kn)  : Prop :=
 W.bin Try.prog Fl .eql 3 (slotOf [2, 4, 5, 6, 7, 12, 15, 30, 54] vs_46 30) (.int .i64 20) fun t203_224 =>
 W.cond t203_224 (
 (ref08_Apply_zt18 vs_46 L_48 j_21)) (
 (ref08_Apply_zt21 vs_46 L_48 j_21))
def ref08_Apply_zt23 (vs_46 : List AV) (L_48 : SH) (j_21 : W.Kn)  : Prop :=
 W.bin Try.prog Fl .eql 3 (slotOf [2, 4, 5, 6, 7, 12, 15, 30, 54] vs_46 30) (.int .i64 19) fun t182_201 =>
 W.cond t182_201 (
 (ref08_Apply_zt17 vs_46 L_48 j_21)) (
 (ref08_Apply_zt22 vs_46 L_48 j_21))
def ref08_Apply_zt24 (vs_46 : List AV) (L_48 : SH) (j_21 : W.Kn)  : Prop :=
 W.bin Try.prog Fl .eql 3 (slotOf [2, 4, 5, 6, 7, 12, 15, 30, 54] vs_46 30) (.int .i64 18) fun t161_183 =>
 W.cond t161_183 (
 (ref08_Apply_zt15 vs_46 L_48 j_21)) (
 (ref08_Apply_zt23 vs_46 L_48 j_21))
def ref08_Apply_zt25 (vs_46 : List AV) (L_48 : SH) (j_21 : W.Kn)  : Prop :=
 W.bin Try.prog Fl .eql 3 (slotOf [2, 4, 5, 6, 7, 12, 15, 30, 54] vs_46 30) (.int .i64 17) fun t138_150 =>
 W.cond t138_150 (
 (ref08_Apply_zt12 vs_46 L_48 j_21)) (
 (ref08_Apply_zt24 vs_46 L_48 j_21))
def ref08_Apply_zt26 (vs_46 : List AV) (L_48 : SH) (j_21 : W.Kn)  : Prop :=
 W.bin Try.prog Fl .eql 3 (slotOf [2, 4, 5, 6, 7, 12, 15, 30, 54] vs_46 30) (.int .i64 16) fun t115_117 =>
 W.cond t115_117 (
 (ref08_Apply_zt11 vs_46 L_48 j_21)) (
 (ref08_Apply_zt25 vs_46 L_48 j_21))
def ref08_Apply_zt27 (vs_46 : List AV) (L_48 : SH) (j_21 : W.Kn)  : Prop :=
 W.bin Try.prog Fl .eql 3 (slotOf [2, 4, 5, 6, 7, 12, 15, 30, 54] vs_46 30) (.int .i64 15) fun t108_111 =>
 W.cond t108_111 (
 (ref08_Apply_zt10 vs_46 L_48 j_21)) (
 (ref08_Apply_zt26 vs_46 L_48 j_21))
def ref08_Apply_zt28 (vs_46 : List AV) (L_48 : SH) (j_21 : W.Kn)  : Prop :=
 W.bin Try.prog Fl .eql 3 (slotOf [2, 4, 5, 6, 7, 12, 15, 30, 54] vs_46 30) (.int .i64 14) fun t101_105 =>
 W.cond t101_105 (
 (ref08_Apply_zt9 vs_46 L_48 j_21)) (
 (ref08_Apply_zt27 vs_46 L_48 j_21))
def ref08_Apply_zt29 (vs_46 : List AV) (L_48 : SH) (j_21 : W.Kn)  : Prop :=
 W.bin Try.prog Fl .eql 3 (slotOf [2, 4, 5, 6, 7, 12, 15, 30, 54] vs_46 30) (.int .i64 13) fun t98_102 =>
 W.cond t98_102 (
 (ref08_Apply_zt8 vs_46 L_48 j_21)) (
 (ref08_Apply_zt28 vs_46 L_48 j_21))
def ref08_Apply_zt30 (vs_46 : List AV) (L_48 : SH) (j_21 : W.Kn)  : Prop :=
 W.bin Try.prog Fl .eql 3 (slotOf [2, 4, 5, 6, 7, 12, 15, 30, 54] vs_46 30) (.int .i64 12) fun t94_99 =>
 W.cond t94_99 (
 (ref08_Apply_zt7 vs_46 L_48 j_21)) (
 (ref08_Apply_zt29 vs_46 L_48 j_21))
def ref08_Apply_zt31 (vs_46 : List AV) (L_48 : SH) (j_21 : W.Kn)  : Prop :=
 W.bin Try.prog Fl .eql 3 (slotOf [2, 4, 5, 6, 7, 12, 15, 30, 54] vs_46 30) (.int .i64 9) fun t79_78 =>
 W.cond t79_78 (
 (ref08_Apply_zt6 vs_46 L_48 j_21)) (
 (ref08_Apply_zt30 vs_46 L_48 j_21))
def ref08_Apply_zt32 (vs_46 : List AV) (L_48 : SH) (j_21 : W.Kn)  : Prop :=
 W.bin Try.prog Fl .eql 3 (slotOf [2, 4, 5, 6, 7, 12, 15, 30, 54] vs_46 30) (.int .i64 8) fun t63_54 =>
 W.cond t63_54 (
 (ref08_Apply_zt5 vs_46 L_48 j_21)) (
 (ref08_Apply_zt31 vs_46 L_48 j_21))
def ref08_Apply_j8 (j_21 : W.Kn) (vs_46 : List AV) (L_48 : SH) : Prop :=
 W.cond (slotOf [2, 4, 5, 6, 7, 12, 15, 30, 54] vs_46 54) (
 (ref08_Apply_zt4 vs_46 L_48 j_21)) (
 (ref08_Apply_zt32 vs_46 L_48 j_21))
def ref08_Apply_zt33 (j_47 : W.Kn) (vs_38 : List AV) (t55_235 : AV) (L_40 : SH)  : Prop :=
 j_47 [(slotOf [2, 4, 5, 6, 7, 12, 15, 30, 45] vs_38 2), (slotOf [2, 4, 5, 6, 7, 12, 15, 30, 45] vs_38 4), (slotOf [2, 4, 5, 6, 7, 12, 15, 30, 45] vs_38 5), (slotOf [2, 4, 5, 6, 7, 12, 15, 30, 45] vs_38 6), (slotOf [2, 4, 5, 6, 7, 12, 15, 30, 45] vs_38 7), (slotOf [2, 4, 5, 6, 7, 12, 15, 30, 45] vs_38 12), (slotOf [2, 4, 5, 6, 7, 12, 15, 30, 45] vs_38 15), (slotOf [2, 4, 5, 6, 7, 12, 15, 30, 45] vs_38 30), t55_235] L_40
def ref08_Apply_zt34 (vs_38 : List AV) (j_47 : W.Kn) (L_40 : SH)  : Prop :=
 W.bin Try.prog Fl .eql 3 (slotOf [2, 4, 5, 6, 7, 12, 15, 30, 45] vs_38 30) (.int .i64 11) fun t56_236 =>
 j_47 [(slotOf [2, 4, 5, 6, 7, 12, 15, 30, 45] vs_38 2), (slotOf [2, 4, 5, 6, 7, 12, 15, 30, 45] vs_38 4), (slotOf [2, 4, 5, 6, 7, 12, 15, 30, 45] vs_38 5), (slotOf [2, 4, 5, 6, 7, 12, 15, 30, 45] vs_38 6), (slotOf [2, 4, 5, 6, 7, 12, 15, 30, 45] vs_38 7), (slotOf [2, 4, 5, 6, 7, 12, 15, 30, 45] vs_38 12), (slotOf [2, 4, 5, 6, 7, 12, 15, 30, 45] vs_38 15), (slotOf [2, 4, 5, 6, 7, 12, 15, 30, 45] vs_38 30), t56_236] L_40
def ref08_Apply_zt35 (j_21 : W.Kn) (vs_38 : List AV) (L_40 : SH)  : Prop :=
 W.join (ref08_Apply_j8 j_21) fun j_47 =>
 W.bin Try.prog Fl .eql 3 (slotOf [2, 4, 5, 6, 7, 12, 15, 30, 45] vs_38 30) (.int .i64 7) fun t55_235 =>
 W.cond t55_235 (
 (ref08_Apply_zt33 j_47 vs_38 t55_235 L_40)) (
 (ref08_Apply_zt34 vs_38 j_47 L_40))
def ref08_Apply_j9 (j_21 : W.Kn) (vs_38 : List AV) (L_40 : SH) : Prop :=
 W.cond (slotOf [2, 4, 5, 6, 7, 12, 15, 30, 45] vs_38 45) (
 (ref08_Apply_zt3 vs_38 L_40 j_21)) (
 (ref08_Apply_zt35 j_21 vs_38 L_40))
def ref08_Apply_zt36 (j_21 : W.Kn) (t3 : AV) (t2 : AV) (t4 : AV) (t5 : AV) (t6_6 : AV) (t7_2 : AV) (t12_4 : AV) (L_19 : SH)  : Prop :=
 W.join (ref08_Apply_j9 j_21) fun j_39 =>
 W.bin Try.prog Fl .eql 3 t3 (.int .i64 6) fun t46_237 =>
 W.cond t46_237 (
 j_39 [t2, t4, t5, t6_6, t7_2, t12_4, (.int .i64 0), t3, t46_237] L_19) (
 W.bin Try.prog Fl .eql 3 t3 (.int .i64 10) fun t47_238 =>
 j_39 [t2, t4, t5, t6_6, t7_2, t12_4, (.int .i64 0), t3, t47_238] L_19)
def ref08_Apply_zt37 (t3 : AV) (t7_2 : AV) (L_19 : SH) (t2 : AV) (j_21 : W.Kn) (t12_4 : AV) (t4 : AV) (t5 : AV) (t6_6 : AV)  : Prop :=
 W.bin Try.prog Fl .eql 3 t3 (.int .i64 2) fun t39_32 =>
 W.cond t39_32 (
 (ref08_Apply_zt2 t7_2 L_19 t2 j_21 t12_4)) (
 (ref08_Apply_zt36 j_21 t3 t2 t4 t5 t6_6 t7_2 t12_4 L_19))
def ref08_Apply_c10 (t7_2 : AV) (Q : AV → SH → Prop) (t3 : AV) (t2 : AV) (t12_4 : AV) (t4 : AV) (t5 : AV) (t6_6 : AV) (t29_17 : AV) (L_18 : SH) : Prop :=
 W.store 4 t7_2 t29_17 L_18 fun L_19 =>
 W.join (ref08_Apply_j0 Q) fun j_21 =>
 W.bin Try.prog Fl .eql 3 t3 (.int .i64 1) fun t32_26 =>
 W.cond t32_26 (
 (ref08_Apply_zt1 t7_2 L_19 t2 j_21 t12_4)) (
 (ref08_Apply_zt37 t3 t7_2 L_19 t2 j_21 t12_4 t4 t5 t6_6))
def ref08_Apply_c11 (t12_4 : AV) (Q : AV → SH → Prop) (t7_2 : AV) (t3 : AV) (t2 : AV) (t4 : AV) (t5 : AV) (t6_6 : AV) (t25_10 : AV) (L_11 : SH) : Prop :=
 W.un .not t25_10 fun t26_12 =>
 W.cond t26_12 (
 (ref08_Apply_zt0 t12_4 L_11 Q)) (
 W.load true 4 t7_2 L_11 fun t28_16 =>
 W.call Try.prog (.fn 56 []) [t28_16] L_11 (ref08_Apply_c10 t7_2 Q t3 t2 t12_4 t4 t5 t6_6))
def ref08_Apply_w (t0 t1 t2 t3 t4 t5 : AV) (L : SH) (Q : AV → SH → Prop) : Prop :=
 W.box t0 L fun t6_0 L_1 =>
 W.box t1 L_1 fun t7_2 L_3 =>
 W.alloc [.nils, (.int .i64 0), .nils, .nils] L_3 fun t12_4 L_5 =>
 W.frz1 t6_0 L_5 fun t6_6 L_7 =>
 W.load true 6 t6_6 L_7 fun t20_8 =>
 W.load true 4 t7_2 L_7 fun t21_9 =>
 W.call Try.prog (.fn 55 []) [t20_8, t21_9, t2, t3, t4] L_7 (ref08_Apply_c11 t12_4 Q t7_2 t3 t2 t4 t5 t6_6)
theorem ref08_Apply_e (t0 t1 t2 t3 t4 t5 : AV) (L : SH) (Q : AV → SH → Prop) : W.func Try.prog Fl ref08_Apply_t Try.f29 (Try.f29.body.getD .skip) [t0, t1, t2, t3, t4, t5] L Q = ref08_Apply_w t0 t1 t2 t3 t4 t5 L Q := by kernel_rfl
theorem ref08_Apply_ok (t0 t1 t2 t3 t4 t5 : AV) (L : SH) (Q : AV → SH → Prop) (h : ref08_Apply_w t0 t1 t2 t3 t4 t5 L Q) : CallA Try.prog 29 [t0, t1, t2, t3, t4, t5] L Q :=
  func_sound (ht := ref08_Apply_t) fit Try.func29 (show Try.f29.body = some (Try.f29.body.getD .skip) by kernel_rfl) (Eq.mpr (ref08_Apply_e t0 t1 t2 t3 t4 t5 L Q) h)

def ref08_Holds_t : Hints := ⟨fun k => if k = 8 then some [2, 4, 8, 9, 10] else none, fun k => if k = 5 then [2, 4, 8, 9, 10] else [], fun k => if k = 0 then [3, 4] else [], fun k => []⟩
def ref08_Holds_zt0 (vs_45 : List AV) (L_54 : SH) (nx_39 : W.Kn)  : Prop :=
 W.bslice 1 [(.int .i64 0)] 1 [(0, (slotOf [2, 4, 8, 9, 10] vs_45 10))] L_54 fun t54_55 L_56 =>
 W.append 1 8 (slotOf [2, 4, 8, 9, 10] vs_45 9) t54_55 L_56 fun t55_57 L_58 =>
 W.bin Try.prog Fl .add 3 (slotOf [2, 4, 8, 9, 10] vs_45 10) (.int .i64 1) fun t31_59 =>
 nx_39 [(slotOf [2, 4, 8, 9, 10] vs_45 2), (slotOf [2, 4, 8, 9, 10] vs_45 4), (slotOf [2, 4, 8, 9, 10] vs_45 8), t55_57, t31_59] L_58
def ref08_Holds_zt1 (vs_45 : List AV) (nx_39 : W.Kn) (L_54 : SH)  : Prop :=
 W.bin Try.prog Fl .add 3 (slotOf [2, 4, 8, 9, 10] vs_45 10) (.int .i64 1) fun t31_60 =>
 nx_39 [(slotOf [2, 4, 8, 9, 10] vs_45 2), (slotOf [2, 4, 8, 9, 10] vs_45 4), (slotOf [2, 4, 8, 9, 10] vs_45 8), (slotOf [2, 4, 8, 9, 10] vs_45 9), t31_60] L_54
def ref08_Holds_c0 (vs_45 : List AV) (nx_39 : W.Kn) (t51_53 : AV) (L_54 : SH) : Prop :=
 W.cond t51_53 (
 (ref08_Holds_zt0 vs_45 L_54 nx_39)) (
 (ref08_Holds_zt1 vs_45 nx_39 L_54))
def ref08_Holds_j1 (nx_39 : W.Kn) (vs_45 : List AV) (L_47 : SH) : Prop :=
 W.faddr 0 (slotOf [2, 4, 8, 9, 10] vs_45 4) fun t44_48 =>
 W.load false 1 t44_48 L_47 fun t45_49 =>
 W.idx 2 t45_49 (slotOf [2, 4, 8, 9, 10] vs_45 10) L_47 fun t47_50 =>
 W.faddr 1 t47_50 fun t48_51 =>
 W.load false 1 t48_51 L_47 fun t49_52 =>
 W.call Try.prog (.fn 15 []) [t49_52, (slotOf [2, 4, 8, 9, 10] vs_45 2)] L_47 (ref08_Holds_c0 vs_45 nx_39)
def ref08_Holds_zt2 (vs_38 : List AV) (L_40 : SH) (j_46 : W.Kn)  : Prop :=
 W.bslice 1 [(.int .i64 0)] 1 [(0, (slotOf [2, 4, 8, 9, 10] vs_38 10))] L_40 fun t42_67 L_68 =>
 W.append 1 8 (slotOf [2, 4, 8, 9, 10] vs_38 8) t42_67 L_68 fun t43_69 L_70 =>
 j_46 [(slotOf [2, 4, 8, 9, 10] vs_38 2), (slotOf [2, 4, 8, 9, 10] vs_38 4), t43_69, (slotOf [2, 4, 8, 9, 10] vs_38 9), (slotOf [2, 4, 8, 9, 10] vs_38 10)] L_70
def ref08_Holds_zt3 (j_46 : W.Kn) (vs_38 : List AV) (L_40 : SH)  : Prop :=
 j_46 [(slotOf [2, 4, 8, 9, 10] vs_38 2), (slotOf [2, 4, 8, 9, 10] vs_38 4), (slotOf [2, 4, 8, 9, 10] vs_38 8), (slotOf [2, 4, 8, 9, 10] vs_38 9), (slotOf [2, 4, 8, 9, 10] vs_38 10)] L_40
def ref08_Holds_zt4 (nx_39 : W.Kn) (vs_38 : List AV) (L_40 : SH)  : Prop :=
 W.join (ref08_Holds_j1 nx_39) fun j_46 =>
 W.faddr 0 (slotOf [2, 4, 8, 9, 10] vs_38 4) fun t32_61 =>
 W.load false 1 t32_61 L_40 fun t33_62 =>
 W.idx 2 t33_62 (slotOf [2, 4, 8, 9, 10] vs_38 10) L_40 fun t35_63 =>
 W.faddr 0 t35_63 fun t36_64 =>
 W.load false 1 t36_64 L_40 fun t37_65 =>
 W.bin Try.prog Fl .eql 3 t37_65 (slotOf [2, 4, 8, 9, 10] vs_38 2) fun t39_66 =>
 W.cond t39_66 (
 (ref08_Holds_zt2 vs_38 L_40 j_46)) (
 (ref08_Holds_zt3 j_46 vs_38 L_40))
def ref08_Holds_l2 (Q : AV → SH → Prop) (vs_38 : List AV) (L_40 : SH) (nx_39 : W.Kn) : Prop :=
 W.faddr 0 (slotOf [2, 4, 8, 9, 10] vs_38 4) fun t26_41 =>
 W.load false 1 t26_41 L_40 fun t27_42 =>
 W.len t27_42 fun t28_43 =>
 W.bin Try.prog Fl .lss 3 (slotOf [2, 4, 8, 9, 10] vs_38 10) t28_43 fun t29_44 =>
 W.cond t29_44 (
 (ref08_Holds_zt4 nx_39 vs_38 L_40)) (
 Q (.tup [(slotOf [2, 4, 8, 9, 10] vs_38 8), (slotOf [2, 4, 8, 9, 10] vs_38 9)]) L_40)
def ref08_Holds_c3 (t2 : AV) (t3_4 : AV) (Q : AV → SH → Prop) (t4_6 : AV) (t13_10 : AV) (L_11 : SH) : Prop :=
 W.un .not t13_10 fun t14_12 =>
 W.grd t14_12 false (fun k_14 => k_14 t2 L_11) L_11 fun t16_13 L_15 =>
 W.grd t14_12 false (fun k_17 => W.faddr 4 t3_4 fun v_19 =>
 k_17 v_19 L_15) L_15 fun t17_16 L_18 =>
 W.grd t14_12 false (fun k_21 => W.load false 1 t17_16 L_18 fun v_23 =>
 k_21 v_23 L_18) L_18 fun t18_20 L_22 =>
 W.grd t14_12 false (fun k_25 => W.len t18_20 fun v_27 =>
 k_25 v_27 L_22) L_22 fun t19_24 L_26 =>
 W.grd t14_12 false (fun k_29 => W.call Try.prog (.fn 61 []) [t16_13, t19_24] L_26 fun v_31 L_32 =>
 k_29 v_31 L_32) L_26 fun t20_28 L_30 =>
 W.grd t14_12 false (fun k_34 => W.un .not t20_28 fun v_36 =>
 k_34 v_36 L_30) L_30 fun t21_33 L_35 =>
 W.pick t14_12 (.bool true) t21_33 fun t22_37 =>
 W.cond t22_37 (
 Q (.tup [.nils, .nils]) L_35) (
 W.loop (ref08_Holds_l2 Q) [t2, t4_6, .nils, .nils, (.int .i64 0)] L_35)
def ref08_Holds_w (t0 t1 t2 : AV) (L : SH) (Q : AV → SH → Prop) : Prop :=
 W.box t0 L fun t3_0 L_1 =>
 W.box t1 L_1 fun t4_2 L_3 =>
 W.frz1 t3_0 L_3 fun t3_4 L_5 =>
 W.frz1 t4_2 L_5 fun t4_6 L_7 =>
 W.load true 6 t3_4 L_7 fun t11_8 =>
 W.load true 4 t4_6 L_7 fun t12_9 =>
 W.call Try.prog (.fn 38 []) [t11_8, t12_9] L_7 (ref08_Holds_c3 t2 t3_4 Q t4_6)
theorem ref08_Holds_e (t0 t1 t2 : AV) (L : SH) (Q : AV → SH → Prop) : W.func Try.prog Fl ref08_Holds_t Try.f33 (Try.f33.body.getD .skip) [t0, t1, t2] L Q = ref08_Holds_w t0 t1 t2 L Q := by kernel_rfl
theorem ref08_Holds_ok (t0 t1 t2 : AV) (L : SH) (Q : AV → SH → Prop) (h : ref08_Holds_w t0 t1 t2 L Q) : CallA Try.prog 33 [t0, t1, t2] L Q :=
  func_sound (ht := ref08_Holds_t) fit Try.func33 (show Try.f33.body = some (Try.f33.body.getD .skip) by kernel_rfl) (Eq.mpr (ref08_Holds_e t0 t1 t2 L Q) h)

def ref08_Blockers_t : Hints := ⟨fun k => if k = 14 then some [5, 11] else if k = 6 then some [2, 4, 5, 6, 11, 33, 34] else none, fun k => if k = 17 then [5, 11, 12, 13] else [], fun k => if k = 0 then [5, 6] else [], fun k => if k = 9 then [0, 1, 0, 7, 15, 31, 63, 0, 128, 0, 896, 1920, 3968, 8191, 16383] else if k = 11 then [0, 1, 0, 4, 0, 28, 60, 124, 255, 511, 1023, 2047, 4095] else if k = 19 then [0, 0, 3, 7, 0, 16, 48, 127] else []⟩
def ref08_Blockers_c0 (vs_61 : List AV) (nx_62 : W.Kn) (t109_80 : AV) (L_81 : SH) : Prop :=
 W.bin Try.prog Fl .add 3 (slotOf [5, 11, 12, 13] vs_61 13) (.int .i64 1) fun t95_82 =>
 nx_62 [(slotOf [5, 11, 12, 13] vs_61 5), (slotOf [5, 11, 12, 13] vs_61 11), t109_80, t95_82] L_81
def ref08_Blockers_zt0 (vs_61 : List AV) (L_76 : SH) (nx_62 : W.Kn)  : Prop :=
 W.idx 1 (slotOf [5, 11, 12, 13] vs_61 11) (slotOf [5, 11, 12, 13] vs_61 13) L_76 fun t107_78 =>
 W.load false 1 t107_78 L_76 fun t108_79 =>
 W.call Try.prog (.fn 64 []) [(slotOf [5, 11, 12, 13] vs_61 12), t108_79] L_76 (ref08_Blockers_c0 vs_61 nx_62)
def ref08_Blockers_zt1 (vs_61 : List AV) (nx_62 : W.Kn) (L_76 : SH)  : Prop :=
 W.bin Try.prog Fl .add 3 (slotOf [5, 11, 12, 13] vs_61 13) (.int .i64 1) fun t95_83 =>
 nx_62 [(slotOf [5, 11, 12, 13] vs_61 5), (slotOf [5, 11, 12, 13] vs_61 11), (slotOf [5, 11, 12, 13] vs_61 12), t95_83] L_76
def ref08_Blockers_d1 (L_63 : SH) (vs_61 : List AV) (nx_62 : W.Kn) (t103_74 : AV) (L_76 : SH) (ks_75 : List Nat) : Prop :=
 W.note ⟨[], ks_75, [], L_63.names⟩ fun r_77 =>
 W.cond t103_74 (
 (ref08_Blockers_zt0 vs_61 L_76 nx_62)) (
 (ref08_Blockers_zt1 vs_61 nx_62 L_76))
def ref08_Blockers_zt2 (vs_61 : List AV) (L_63 : SH) (nx_62 : W.Kn)  : Prop :=
 (true = true) ∧ (
 W.calm [] ⟨2, (slOf (slotOf [5, 11, 12, 13] vs_61 11)), [], [], false, []⟩ (
 W.idx 1 (slotOf [5, 11, 12, 13] vs_61 11) (slotOf [5, 11, 12, 13] vs_61 13) L_63 fun t98_66 =>
 W.note ⟨(slOf (slotOf [5, 11, 12, 13] vs_61 11)), [], [], []⟩ fun r_67 =>
 W.calm [] ⟨3, (blocksOf t98_66), [], [], false, []⟩ (
 W.load false 1 t98_66 L_63 fun t99_68 =>
 W.note ⟨(blocksOf t98_66), [], [], []⟩ fun r_69 =>
 W.faddr 4 (slotOf [5, 11, 12, 13] vs_61 5) fun t100_70 =>
 W.calm [⟨3, r_69.reads, r_69.writes, r_69.made, false, r_69.old⟩, ⟨2, r_67.reads, r_67.writes, r_67.made, false, r_67.old⟩] ⟨5, (blocksOf t100_70), [], [], false, []⟩ (
 W.load false 1 t100_70 L_63 fun t101_71 =>
 W.note ⟨(blocksOf t100_70), [], [], []⟩ fun r_72 =>
 W.len t101_71 fun t102_73 =>
 W.dcall Try.prog [] 7 (.fn 61 []) [t99_68, t102_73] L_63 (ref08_Blockers_d1 L_63 vs_61 nx_62)))))
def ref08_Blockers_l2 (Q : AV → SH → Prop) (vs_61 : List AV) (L_63 : SH) (nx_62 : W.Kn) : Prop :=
 W.len (slotOf [5, 11, 12, 13] vs_61 11) fun t92_64 =>
 W.bin Try.prog Fl .lss 3 (slotOf [5, 11, 12, 13] vs_61 13) t92_64 fun t93_65 =>
 W.cond t93_65 (
 (ref08_Blockers_zt2 vs_61 L_63 nx_62)) (
 Q (slotOf [5, 11, 12, 13] vs_61 12) L_63)
def ref08_Blockers_j3 (Q : AV → SH → Prop) (vs_58 : List AV) (L_60 : SH) : Prop :=
 W.loop (ref08_Blockers_l2 Q) [(slotOf [5, 11] vs_58 5), (slotOf [5, 11] vs_58 11), .nils, (.int .i64 0)] L_60
def ref08_Blockers_zt3 (vs_84 : List AV) (L_86 : SH) (j_59 : W.Kn)  : Prop :=
 W.faddr 0 (slotOf [2, 4, 5, 6, 11, 33, 34] vs_84 6) fun t37_87 =>
 W.load false 1 t37_87 L_86 fun t38_88 =>
 W.idx 2 t38_88 (slotOf [2, 4, 5, 6, 11, 33, 34] vs_84 4) L_86 fun t40_89 =>
 W.faddr 0 t40_89 fun t41_90 =>
 W.load false 1 t41_90 L_86 fun t42_91 =>
 W.bslice 1 [(.int .i64 0)] 1 [(0, t42_91)] L_86 fun t43_92 L_93 =>
 j_59 [(slotOf [2, 4, 5, 6, 11, 33, 34] vs_84 5), t43_92] L_93
def ref08_Blockers_zt4 (vs_84 : List AV) (L_86 : SH) (j_59 : W.Kn)  : Prop :=
 (true = true) ∧ (
 W.faddr 0 (slotOf [2, 4, 5, 6, 11, 33, 34] vs_84 6) fun t46_95 =>
 W.calm [] ⟨1, (blocksOf t46_95), [], [], false, []⟩ (
 W.load false 1 t46_95 L_86 fun t47_96 =>
 W.note ⟨(blocksOf t46_95), [], [], []⟩ fun r_97 =>
 W.calm [] ⟨3, (slOf t47_96), [], [], false, []⟩ (
 W.idx 2 t47_96 (slotOf [2, 4, 5, 6, 11, 33, 34] vs_84 4) L_86 fun t49_98 =>
 W.note ⟨(slOf t47_96), [], [], []⟩ fun r_99 =>
 W.faddr 0 t49_98 fun t50_100 =>
 W.calm [] ⟨5, (blocksOf t50_100), [], [], false, []⟩ (
 W.load false 1 t50_100 L_86 fun t51_101 =>
 W.note ⟨(blocksOf t50_100), [], [], []⟩ fun r_102 =>
 W.calm [] ⟨6, [], [], [], false, []⟩ (
 W.bslice 1 [(.int .i64 0)] 1 [(0, t51_101)] L_86 fun t52_103 L_104 =>
 W.note ⟨[], [], (blocksOf t52_103), []⟩ fun r_105 =>
 W.faddr 0 (slotOf [2, 4, 5, 6, 11, 33, 34] vs_84 6) fun t53_106 =>
 W.calm [⟨6, r_105.reads, r_105.writes, r_105.made, false, r_105.old⟩, ⟨5, r_102.reads, r_102.writes, r_102.made, false, r_102.old⟩, ⟨3, r_99.reads, r_99.writes, r_99.made, false, r_99.old⟩, ⟨1, r_97.reads, r_97.writes, r_97.made, false, r_97.old⟩] ⟨8, (blocksOf t53_106), [], [], false, []⟩ (
 W.load false 1 t53_106 L_104 fun t54_107 =>
 W.note ⟨(blocksOf t53_106), [], [], []⟩ fun r_108 =>
 W.calm [⟨6, r_105.reads, r_105.writes, r_105.made, false, r_105.old⟩, ⟨5, r_102.reads, r_102.writes, r_102.made, false, r_102.old⟩, ⟨3, r_99.reads, r_99.writes, r_99.made, false, r_99.old⟩, ⟨1, r_97.reads, r_97.writes, r_97.made, false, r_97.old⟩] ⟨10, (slOf t54_107), [], [], false, []⟩ (
 W.idx 2 t54_107 (slotOf [2, 4, 5, 6, 11, 33, 34] vs_84 4) L_104 fun t56_109 =>
 W.note ⟨(slOf t54_107), [], [], []⟩ fun r_110 =>
 W.faddr 1 t56_109 fun t57_111 =>
 W.calm [⟨6, r_105.reads, r_105.writes, r_105.made, false, r_105.old⟩, ⟨5, r_102.reads, r_102.writes, r_102.made, false, r_102.old⟩, ⟨3, r_99.reads, r_99.writes, r_99.made, false, r_99.old⟩, ⟨1, r_97.reads, r_97.writes, r_97.made, false, r_97.old⟩] ⟨12, (blocksOf t57_111), [], [], false, []⟩ (
 W.load false 1 t57_111 L_104 fun t58_112 =>
 W.note ⟨(blocksOf t57_111), [], [], []⟩ fun r_113 =>
 W.calm [] ⟨13, (blocksOf t52_103 ++ blocksOf t58_112), (blocksOf t52_103), [], false, []⟩ (
 W.append 1 8 t52_103 t58_112 L_104 fun t59_114 L_115 =>
 W.note ⟨(blocksOf t52_103 ++ blocksOf t58_112), (blocksOf t52_103), (blocksOf t59_114), []⟩ fun r_116 =>
 j_59 [(slotOf [2, 4, 5, 6, 11, 33, 34] vs_84 5), t59_114] L_115)))))))))
def ref08_Blockers_zt5 (vs_84 : List AV) (L_86 : SH) (j_59 : W.Kn)  : Prop :=
 (true = true) ∧ (
 W.faddr 0 (slotOf [2, 4, 5, 6, 11, 33, 34] vs_84 6) fun t62_118 =>
 W.calm [] ⟨1, (blocksOf t62_118), [], [], false, []⟩ (
 W.load false 1 t62_118 L_86 fun t63_119 =>
 W.note ⟨(blocksOf t62_118), [], [], []⟩ fun r_120 =>
 W.faddr 2 (slotOf [2, 4, 5, 6, 11, 33, 34] vs_84 5) fun t64_121 =>
 W.calm [⟨1, r_120.reads, r_120.writes, r_120.made, false, r_120.old⟩] ⟨3, (blocksOf t64_121), [], [], false, []⟩ (
 W.load false 1 t64_121 L_86 fun t65_122 =>
 W.note ⟨(blocksOf t64_121), [], [], []⟩ fun r_123 =>
 W.calm [⟨1, r_120.reads, r_120.writes, r_120.made, false, r_120.old⟩] ⟨5, (slOf t65_122), [], [], false, []⟩ (
 W.idx 2 t65_122 (slotOf [2, 4, 5, 6, 11, 33, 34] vs_84 4) L_86 fun t67_124 =>
 W.note ⟨(slOf t65_122), [], [], []⟩ fun r_125 =>
 W.faddr 1 t67_124 fun t68_126 =>
 W.calm [⟨1, r_120.reads, r_120.writes, r_120.made, false, r_120.old⟩] ⟨7, (blocksOf t68_126), [], [], false, []⟩ (
 W.load false 1 t68_126 L_86 fun t69_127 =>
 W.note ⟨(blocksOf t68_126), [], [], []⟩ fun r_128 =>
 W.calm [] ⟨8, (slOf t63_119), [], [], false, []⟩ (
 W.idx 2 t63_119 t69_127 L_86 fun t70_129 =>
 W.note ⟨(slOf t63_119), [], [], []⟩ fun r_130 =>
 W.faddr 0 t70_129 fun t71_131 =>
 W.calm [] ⟨10, (blocksOf t71_131), [], [], false, []⟩ (
 W.load false 1 t71_131 L_86 fun t72_132 =>
 W.note ⟨(blocksOf t71_131), [], [], []⟩ fun r_133 =>
 W.calm [] ⟨11, [], [], [], false, []⟩ (
 W.bslice 1 [(.int .i64 0)] 1 [(0, t72_132)] L_86 fun t73_134 L_135 =>
 W.note ⟨[], [], (blocksOf t73_134), []⟩ fun r_136 =>
 j_59 [(slotOf [2, 4, 5, 6, 11, 33, 34] vs_84 5), t73_134] L_135))))))))
def ref08_Blockers_zt6 (vs_84 : List AV) (L_164 : SH) (j_59 : W.Kn)  : Prop :=
 W.bslice 1 [(.int .i64 0)] 1 [(0, (slotOf [2, 4, 5, 6, 11, 33, 34] vs_84 4))] L_164 fun t89_167 L_168 =>
 j_59 [(slotOf [2, 4, 5, 6, 11, 33, 34] vs_84 5), t89_167] L_168
def ref08_Blockers_zt7 (vs_84 : List AV) (L_86 : SH) (j_59 : W.Kn)  : Prop :=
 W.bin Try.prog Fl .neq 3 (slotOf [2, 4, 5, 6, 11, 33, 34] vs_84 4) (slotOf [2, 4, 5, 6, 11, 33, 34] vs_84 2) fun t78_138 =>
 W.grd t78_138 true (fun k_140 => W.faddr 3 (slotOf [2, 4, 5, 6, 11, 33, 34] vs_84 6) fun v_142 =>
 k_140 v_142 L_86) L_86 fun t80_139 L_141 =>
 W.grd t78_138 true (fun k_144 => W.load false 1 t80_139 L_141 fun v_146 =>
 k_144 v_146 L_141) L_141 fun t81_143 L_145 =>
 W.grd t78_138 true (fun k_148 => k_148 (slotOf [2, 4, 5, 6, 11, 33, 34] vs_84 4) L_145) L_145 fun t82_147 L_149 =>
 W.grd t78_138 true (fun k_151 => W.idx 3 t81_143 t82_147 L_149 fun v_153 =>
 k_151 v_153 L_149) L_149 fun t83_150 L_152 =>
 W.grd t78_138 true (fun k_155 => W.faddr 0 t83_150 fun v_157 =>
 k_155 v_157 L_152) L_152 fun t84_154 L_156 =>
 W.grd t78_138 true (fun k_159 => W.load false 1 t84_154 L_156 fun v_161 =>
 k_159 v_161 L_156) L_156 fun t85_158 L_160 =>
 W.grd t78_138 true (fun k_163 => W.bin Try.prog Fl .neq 3 t85_158 (.int .i64 5) fun v_165 =>
 k_163 v_165 L_160) L_160 fun t86_162 L_164 =>
 W.pick t78_138 t86_162 (.bool false) fun t87_166 =>
 W.cond t87_166 (
 (ref08_Blockers_zt6 vs_84 L_164 j_59)) (
 j_59 [(slotOf [2, 4, 5, 6, 11, 33, 34] vs_84 5), (slotOf [2, 4, 5, 6, 11, 33, 34] vs_84 11)] L_164)
def ref08_Blockers_zt8 (vs_84 : List AV) (L_86 : SH) (j_59 : W.Kn)  : Prop :=
 W.bin Try.prog Fl .eql 3 (slotOf [2, 4, 5, 6, 11, 33, 34] vs_84 33) (.int .i64 21) fun t75_137 =>
 W.cond t75_137 (
 (ref08_Blockers_zt7 vs_84 L_86 j_59)) (
 j_59 [(slotOf [2, 4, 5, 6, 11, 33, 34] vs_84 5), (slotOf [2, 4, 5, 6, 11, 33, 34] vs_84 11)] L_86)
def ref08_Blockers_zt9 (vs_84 : List AV) (L_86 : SH) (j_59 : W.Kn)  : Prop :=
 W.bin Try.prog Fl .eql 3 (slotOf [2, 4, 5, 6, 11, 33, 34] vs_84 33) (.int .i64 17) fun t61_117 =>
 W.cond t61_117 (
 (ref08_Blockers_zt5 vs_84 L_86 j_59)) (
 (ref08_Blockers_zt8 vs_84 L_86 j_59))
def ref08_Blockers_zt10 (vs_84 : List AV) (L_86 : SH) (j_59 : W.Kn)  : Prop :=
 W.bin Try.prog Fl .eql 3 (slotOf [2, 4, 5, 6, 11, 33, 34] vs_84 33) (.int .i64 10) fun t45_94 =>
 W.cond t45_94 (
 (ref08_Blockers_zt4 vs_84 L_86 j_59)) (
 (ref08_Blockers_zt9 vs_84 L_86 j_59))
def ref08_Blockers_j4 (j_59 : W.Kn) (vs_84 : List AV) (L_86 : SH) : Prop :=
 W.cond (slotOf [2, 4, 5, 6, 11, 33, 34] vs_84 34) (
 (ref08_Blockers_zt3 vs_84 L_86 j_59)) (
 (ref08_Blockers_zt10 vs_84 L_86 j_59))
def ref08_Blockers_zt11 (Q : AV → SH → Prop) (t3 : AV) (t2 : AV) (t4 : AV) (t5_4 : AV) (t6_6 : AV) (L_55 : SH)  : Prop :=
 W.join (ref08_Blockers_j3 Q) fun j_59 =>
 W.join (ref08_Blockers_j4 j_59) fun j_85 =>
 W.bin Try.prog Fl .eql 3 t3 (.int .i64 6) fun t35_169 =>
 W.cond t35_169 (
 j_85 [t2, t4, t5_4, t6_6, .nils, t3, t35_169] L_55) (
 W.bin Try.prog Fl .eql 3 t3 (.int .i64 8) fun t36_170 =>
 j_85 [t2, t4, t5_4, t6_6, .nils, t3, t36_170] L_55)
def ref08_Blockers_c5 (t2 : AV) (t5_4 : AV) (t3 : AV) (t4 : AV) (Q : AV → SH → Prop) (t6_6 : AV) (t16_10 : AV) (L_11 : SH) : Prop :=
 W.un .not t16_10 fun t17_12 =>
 W.grd t17_12 false (fun k_14 => k_14 t2 L_11) L_11 fun t19_13 L_15 =>
 W.grd t17_12 false (fun k_17 => W.faddr 4 t5_4 fun v_19 =>
 k_17 v_19 L_15) L_15 fun t20_16 L_18 =>
 W.grd t17_12 false (fun k_21 => W.load false 1 t20_16 L_18 fun v_23 =>
 k_21 v_23 L_18) L_18 fun t21_20 L_22 =>
 W.grd t17_12 false (fun k_25 => W.len t21_20 fun v_27 =>
 k_25 v_27 L_22) L_22 fun t22_24 L_26 =>
 W.grd t17_12 false (fun k_29 => W.call Try.prog (.fn 61 []) [t19_13, t22_24] L_26 fun v_31 L_32 =>
 k_29 v_31 L_32) L_26 fun t23_28 L_30 =>
 W.grd t17_12 false (fun k_34 => W.un .not t23_28 fun v_36 =>
 k_34 v_36 L_30) L_30 fun t24_33 L_35 =>
 W.pick t17_12 (.bool true) t24_33 fun t25_37 =>
 W.grd t25_37 false (fun k_39 => W.load true 6 t5_4 L_35 fun v_41 =>
 k_39 v_41 L_35) L_35 fun t27_38 L_40 =>
 W.grd t25_37 false (fun k_43 => k_43 t3 L_40) L_40 fun t28_42 L_44 =>
 W.grd t25_37 false (fun k_46 => k_46 t4 L_44) L_44 fun t29_45 L_47 =>
 W.grd t25_37 false (fun k_49 => W.call Try.prog (.fn 63 []) [t27_38, t28_42, t29_45] L_47 fun v_51 L_52 =>
 k_49 v_51 L_52) L_47 fun t30_48 L_50 =>
 W.grd t25_37 false (fun k_54 => W.un .not t30_48 fun v_56 =>
 k_54 v_56 L_50) L_50 fun t31_53 L_55 =>
 W.pick t25_37 (.bool true) t31_53 fun t32_57 =>
 W.cond t32_57 (
 Q .nils L_55) (
 (ref08_Blockers_zt11 Q t3 t2 t4 t5_4 t6_6 L_55))
def ref08_Blockers_w (t0 t1 t2 t3 t4 : AV) (L : SH) (Q : AV → SH → Prop) : Prop :=
 W.box t0 L fun t5_0 L_1 =>
 W.box t1 L_1 fun t6_2 L_3 =>
 W.frz1 t5_0 L_3 fun t5_4 L_5 =>
 W.frz1 t6_2 L_5 fun t6_6 L_7 =>
 W.load true 6 t5_4 L_7 fun t14_8 =>
 W.load true 4 t6_6 L_7 fun t15_9 =>
 W.call Try.prog (.fn 38 []) [t14_8, t15_9] L_7 (ref08_Blockers_c5 t2 t5_4 t3 t4 Q t6_6)
theorem ref08_Blockers_e (t0 t1 t2 t3 t4 : AV) (L : SH) (Q : AV → SH → Prop) : W.func Try.prog Fl ref08_Blockers_t Try.f36 (Try.f36.body.getD .skip) [t0, t1, t2, t3, t4] L Q = ref08_Blockers_w t0 t1 t2 t3 t4 L Q := by kernel_rfl
theorem ref08_Blockers_ok (t0 t1 t2 t3 t4 : AV) (L : SH) (Q : AV → SH → Prop) (h : ref08_Blockers_w t0 t1 t2 t3 t4 L Q) : CallA Try.prog 36 [t0, t1, t2, t3, t4] L Q :=
  func_sound (ht := ref08_Blockers_t) fit Try.func36 (show Try.f36.body = some (Try.f36.body.getD .skip) by kernel_rfl) (Eq.mpr (ref08_Blockers_e t0 t1 t2 t3 t4 L Q) h)

end Go.Proofs.Ytadjimfkfmojkaa.Am

end
section
namespace Go.Proofs.Ytadjimfkfmojkaa.Am
set_option linter.unusedVariables false
section
variable {P : Program} {F : TypeId → Option (List TypeId)} {K : AV → Prop} {KL : AV → SH → Prop} {L : SH}
theorem a_pick_t {p : Bool} {x y : AV} (hp : p = true) (h : K x) : W.pick (.bool p) x y K := by subst hp; rw [pick_t]; exact h
theorem a_pick_f {p : Bool} {x y : AV} (hp : p = false) (h : K y) : W.pick (.bool p) x y K := by subst hp; rw [pick_f]; exact h
theorem a_grd_y {p want : Bool} {A : (AV → SH → Prop) → Prop} (hp : p = want) (h : A KL) : W.grd (.bool p) want A L KL := ⟨.inl ⟨by rw [hp], h⟩⟩
theorem a_grd_n {p want : Bool} {A : (AV → SH → Prop) → Prop} (hp : p = !want) (h : KL undefA L) : W.grd (.bool p) want A L KL := ⟨.inr ⟨.inl (by rw [hp]), h⟩⟩
theorem a_grd_u {want : Bool} {A : (AV → SH → Prop) → Prop} (h : KL undefA L) : W.grd undefA want A L KL := ⟨.inr ⟨.inr rfl, h⟩⟩
theorem a_grd_t {p : Bool} {A : (AV → SH → Prop) → Prop} (h1 : p = true → A KL) (h2 : p = false → KL undefA L) : W.grd (.bool p) true A L KL := by rw [grd_t]; exact ⟨h1, h2⟩
theorem a_grd_f {p : Bool} {A : (AV → SH → Prop) → Prop} (h1 : p = false → A KL) (h2 : p = true → KL undefA L) : W.grd (.bool p) false A L KL := by rw [grd_f]; exact ⟨h1, h2⟩
theorem a_dgrd_y {KF : AV → SH → W.Fp → Prop} {p want : Bool} {A : (AV → SH → W.Fp → Prop) → Prop} (hp : p = want) (h : A KF) : W.dgrd (.bool p) want A L KF := ⟨.inl ⟨by rw [hp], h⟩⟩
theorem a_dgrd_n {KF : AV → SH → W.Fp → Prop} {p want : Bool} {A : (AV → SH → W.Fp → Prop) → Prop} (hp : p = !want) (h : KF undefA L ⟨[], [], [], L.names⟩) : W.dgrd (.bool p) want A L KF := ⟨.inr ⟨.inl (by rw [hp]), h⟩⟩
theorem a_dgrd_u {KF : AV → SH → W.Fp → Prop} {want : Bool} {A : (AV → SH → W.Fp → Prop) → Prop} (h : KF undefA L ⟨[], [], [], L.names⟩) : W.dgrd undefA want A L KF := ⟨.inr ⟨.inr rfl, h⟩⟩
theorem a_dgrd_t {KF : AV → SH → W.Fp → Prop} {p : Bool} {A : (AV → SH → W.Fp → Prop) → Prop} (h1 : p = true → A KF) (h2 : p = false → KF undefA L ⟨[], [], [], L.names⟩) : W.dgrd (.bool p) true A L KF := by rw [dgrd_t]; exact ⟨h1, h2⟩
theorem a_dgrd_f {KF : AV → SH → W.Fp → Prop} {p : Bool} {A : (AV → SH → W.Fp → Prop) → Prop} (h1 : p = false → A KF) (h2 : p = true → KF undefA L ⟨[], [], [], L.names⟩) : W.dgrd (.bool p) false A L KF := by rw [dgrd_f]; exact ⟨h1, h2⟩
theorem a_cond_t {p : Bool} {A B : Prop} (hp : p = true) (h : A) : W.cond (.bool p) A B := ⟨.inl ⟨by rw [hp], h⟩⟩
theorem a_cond_f {p : Bool} {A B : Prop} (hp : p = false) (h : B) : W.cond (.bool p) A B := ⟨.inr ⟨by rw [hp], h⟩⟩
theorem a_cond {p : Bool} {A B : Prop} (h1 : p = true → A) (h2 : p = false → B) : W.cond (.bool p) A B := by rw [cond_b]; exact ⟨h1, h2⟩
theorem a_lss {t : TypeId} {k : IntKind} {a b : Int} (h : K (.bool (decide (a < b)))) : W.bin P F .lss t (.int k a) (.int k b) K := by rw [lss_i]; exact h
theorem a_leq {t : TypeId} {k : IntKind} {a b : Int} (h : K (.bool (decide (a ≤ b)))) : W.bin P F .leq t (.int k a) (.int k b) K := by rw [leq_i]; exact h
theorem a_gtr {t : TypeId} {k : IntKind} {a b : Int} (h : K (.bool (decide (b < a)))) : W.bin P F .gtr t (.int k a) (.int k b) K := by rw [gtr_i]; exact h
theorem a_geq {t : TypeId} {k : IntKind} {a b : Int} (h : K (.bool (decide (b ≤ a)))) : W.bin P F .geq t (.int k a) (.int k b) K := by rw [geq_i]; exact h
theorem a_eql {t : TypeId} {k : IntKind} {a b : Int} (h : K (.bool (decide (a = b)))) : W.bin P F .eql t (.int k a) (.int k b) K := by rw [eql_i]; exact h
theorem a_neq {t : TypeId} {k : IntKind} {a b : Int} (h : K (.bool (decide (a ≠ b)))) : W.bin P F .neq t (.int k a) (.int k b) K := by rw [neq_i]; exact h
theorem a_add {t : TypeId} {k : IntKind} {a b : Int} (h : K (.int k (k.wrap (a + b)))) : W.bin P F .add t (.int k a) (.int k b) K := by rw [add_i]; exact h
theorem a_sub {t : TypeId} {k : IntKind} {a b : Int} (h : K (.int k (k.wrap (a - b)))) : W.bin P F .sub t (.int k a) (.int k b) K := by rw [sub_i]; exact h
theorem a_mul {t : TypeId} {k : IntKind} {a b : Int} (h : K (.int k (k.wrap (a * b)))) : W.bin P F .mul t (.int k a) (.int k b) K := by rw [mul_i]; exact h
theorem a_quo {t : TypeId} {k : IntKind} {a b : Int} (hb : b ≠ 0) (h : K (.int k (k.wrap (a.tdiv b)))) : W.bin P F .quo t (.int k a) (.int k b) K := by rw [quo_i]; exact ⟨hb, h⟩
theorem a_rem {t : TypeId} {k : IntKind} {a b : Int} (hb : b ≠ 0) (h : K (.int k (a.tmod b))) : W.bin P F .rem t (.int k a) (.int k b) K := by rw [rem_i]; exact ⟨hb, h⟩
theorem a_eqs {t : TypeId} {a b : List UInt8} (h : K (.bool (decide (a = b)))) : W.bin P F .eql t (.str a) (.str b) K := by rw [eql_s]; exact h
theorem a_nes {t : TypeId} {a b : List UInt8} (h : K (.bool (decide (a ≠ b)))) : W.bin P F .neq t (.str a) (.str b) K := by rw [neq_s]; exact h
theorem a_not {b : Bool} (h : K (.bool !b)) : W.un .not (.bool b) K := by rw [un_not]; exact h
theorem a_neg {k : IntKind} {n : Int} (h : K (.int k (k.wrap (0 - n)))) : W.un .neg (.int k n) K := by rw [un_neg]; exact h
theorem a_conv {k k' : IntKind} {n : Int} (h : K (.int k (k.wrap n))) : W.conv k (.int k' n) K := by rw [conv_i]; exact h
theorem a_convS {s : List UInt8} (h : K (.str s)) : W.convS (.str s) K := by rw [convS_s]; exact h
theorem a_faddr_p {off b i o : Nat} (h : K (.ptr b i (o + off))) : W.faddr off (.ptr b i o) K := ⟨h⟩
theorem a_faddr_q {off : Nat} {rows : List (List AV)} {i o : Nat} (h : K (.pptr rows i (o + off))) : W.faddr off (.pptr rows i o) K := ⟨h⟩
theorem a_fld {ag : Bool} {n off : Nat} {cs : List AV} {v : AV} (h1 : W0.rowLd ag n cs off = some v) (h : K v) : W.fld ag n off (.agg cs) K := ⟨cs, v, rfl, h1, h⟩
theorem a_load_q {n : Nat} {rows : List (List AV)} {i off : Nat} {r : List AV} {v : AV} (h1 : rows[i]? = some r) (h2 : r[off]? = some v) (h : K v) : W.load false n (.pptr rows i off) L K := ⟨r, v, h1, h2, h⟩
theorem a_load_p {n b i off : Nat} {x : Blk} {r : List AV} {v : AV} (hm : (b, x) ∈ L) (h1 : x.rows[i]? = some r) (h2 : r[off]? = some v) (h : K v) : W.load false n (.ptr b i off) L K := ⟨x, r, v, hm, h1, h2, h⟩
/-- a whole row -/
theorem a_row_q {n : Nat} {rows : List (List AV)} {i : Nat} {r : List AV} (h1 : rows[i]? = some r) (h2 : r.length = n) (h : K (.agg r)) : W.load true n (.pptr rows i 0) L K :=
  ⟨r, .agg r, h1, by simp [W0.rowLd, ← h2], h⟩
theorem a_row_p {n b i : Nat} {x : Blk} {r : List AV} (hm : (b, x) ∈ L) (h1 : x.rows[i]? = some r) (h2 : r.length = n) (h : K (.agg r)) : W.load true n (.ptr b i 0) L K :=
  ⟨x, r, .agg r, hm, h1, by simp [W0.rowLd, ← h2], h⟩
theorem a_part_q {n : Nat} {rows : List (List AV)} {i off : Nat} {r cs : List AV} (h1 : rows[i]? = some r) (h2 : off + n ≤ r.length) (h3 : (r.drop off).take n = cs) (h : K (.agg cs)) : W.load true n (.pptr rows i off) L K :=
  ⟨r, .agg cs, h1, by simp [W0.rowLd, h2, h3], h⟩
/-- a box is written whole -/
theorem a_store_box {KS : SH → Prop} {n b : Nat} {v : AV} {m : Nat} {r cs : List AV} {L' : SH} (hu : Upd b ⟨m, [r]⟩ ⟨m, [cs]⟩ L L') (h2 : v.cells? = some cs) (h3 : cs.length = n) (h4 : cs.all AV.one = true) (h5 : r.length = n) (h : KS L') : W.store n (.ptr b 0 0) v L KS :=
  ⟨⟨m, [r]⟩, r, cs, L', rfl, h2, h3, h4, by omega, by
    have : rowStore r 0 cs = cs := by
      unfold rowStore
      rw [List.take_zero, List.nil_append, List.drop_of_length_le (by omega), List.append_nil]
    rw [this]; exact hu, h⟩
theorem rowStore_one (r : List AV) (off : Nat) (v : AV) (h : off < r.length) : rowStore r off [v] = r.set off v := by
  unfold rowStore
  rw [List.set_eq_take_append_cons_drop, if_pos h]
  simp
/-- one cell is written -/
theorem a_store_one {KS : SH → Prop} {b i off : Nat} {v : AV} {x x' : Blk} {r : List AV} {L' : SH} (hu : Upd b x x' L L') (h1 : x.rows[i]? = some r) (h2 : v.cells? = some [v]) (h4 : v.one = true) (h5 : off < r.length) (h6 : x' = ⟨x.size, x.rows.set i (r.set off v)⟩) (h : KS L') : W.store 1 (.ptr b i off) v L KS :=
  ⟨x, r, [v], L', h1, h2, rfl, by simp [h4], by omega, by rw [rowStore_one r off v h5, ← h6]; exact hu, h⟩
/-- a row is written whole -/
theorem a_store_row {KS : SH → Prop} {n b i : Nat} {v : AV} {x x' : Blk} {r cs : List AV} {L' : SH} (hu : Upd b x x' L L') (h1 : x.rows[i]? = some r) (h2 : v.cells? = some cs) (h3 : cs.length = n) (h4 : cs.all AV.one = true) (h5 : r.length = n) (h6 : x' = ⟨x.size, x.rows.set i cs⟩) (h : KS L') : W.store n (.ptr b i 0) v L KS :=
  ⟨x, r, cs, L', h1, h2, h3, h4, by omega, by
    have : rowStore r 0 cs = cs := by
      unfold rowStore
      rw [List.take_zero, List.nil_append, List.drop_of_length_le (by omega), List.append_nil]
    rw [this, ← h6]; exact hu, h⟩
theorem a_idx_n {n : Nat} {rows : List (List AV)} {k : IntKind} {j : Nat} {r : List AV} (h1 : rows[j]? = some r) (h2 : r.length = n) (h : K (.pptr rows j 0)) : W.idx n (.lst rows) (.int k (j : Int)) L K :=
  ⟨k, j, r, rfl, Int.natCast_nonneg _, by simpa using h1, h2, by simpa using h⟩
theorem a_idx_l {n : Nat} {rows : List (List AV)} {k : IntKind} {i : Int} {r : List AV} (h0 : 0 ≤ i) (h1 : rows[i.toNat]? = some r) (h2 : r.length = n) (h : K (.pptr rows i.toNat 0)) : W.idx n (.lst rows) (.int k i) L K := ⟨k, i, r, rfl, h0, h1, h2, h⟩
theorem a_idx_s {n b j m : Nat} {k : IntKind} {i : Int} {y : Blk} (h0 : 0 ≤ i) (h1 : i.toNat < m) (hm : (b, y) ∈ L) (h2 : y.size = n) (h : K (.ptr b (j + i.toNat) 0)) : W.idx n (.sl b j m) (.int k i) L K := ⟨k, i, y, rfl, h0, h1, hm, h2, h⟩
theorem a_idx_sn {n b m : Nat} {k : IntKind} {i : Nat} {y : Blk} (h1 : i < m) (hm : (b, y) ∈ L) (h2 : y.size = n) (h : K (.ptr b i 0)) : W.idx n (.sl b 0 m) (.int k (i : Int)) L K := ⟨k, i, y, rfl, Int.natCast_nonneg _, by simpa using h1, hm, h2, by simpa using h⟩
theorem a_idxP_q {len n : Nat} {rows : List (List AV)} {j off : Nat} {k : IntKind} {i : Int} (h0 : 0 ≤ i) (h1 : i.toNat < len) (h : K (.pptr rows j (off + i.toNat * n))) : W.idxP len n (.pptr rows j off) (.int k i) K := ⟨k, i, rfl, h0, h1, h⟩
theorem a_ext {i : Nat} {vs : List AV} {v : AV} (h1 : vs[i]? = some v) (h : K v) : W.ext i (.tup vs) K := ⟨vs, v, rfl, h1, h⟩
theorem a_nil_p {b i off : Nat} (h : K (.ptr b i off)) : W.nilchk (.ptr b i off) K := ⟨h⟩
theorem a_nil_q {rows : List (List AV)} {i off : Nat} (h : K (.pptr rows i off)) : W.nilchk (.pptr rows i off) K := ⟨h⟩
theorem a_nil_f {f : FuncId} {cs : List AV} (h : K (.fn f cs)) : W.nilchk (.fn f cs) K := ⟨h⟩
theorem a_build {z : List AV} {ps : List (Nat × Nat × AV)} {cs : List AV} (h1 : W0.fillR z ps = some cs) (h : K (.agg cs)) : W.build z ps K := ⟨cs, h1, h⟩
theorem a_alloc {cs : List AV} (h : ∀ b, b ∉ L.names → KL (.ptr b 0 0) ((b, ⟨cs.length, [cs]⟩) :: L)) : W.alloc cs L KL := ⟨h⟩
theorem a_box {x : AV} {cs : List AV} (h1 : x.cells? = some cs) (h2 : cs.all AV.one = true) (h : ∀ b, b ∉ L.names → KL (.ptr b 0 0) ((b, ⟨cs.length, [cs]⟩) :: L)) : W.box x L KL := ⟨cs, h1, h2, h⟩
theorem a_bslice {n : Nat} {z : List AV} {len : Nat} {ps : List (Nat × AV)} {rows : List (List AV)} (h1 : len * n ≤ 2 ^ 24) (h2 : fillRows n (List.replicate len z) ps = some rows) (h : ∀ b, b ∉ L.names → KL (.sl b 0 len) ((b, ⟨n, rows⟩) :: L)) : W.bslice n z len ps L KL := ⟨h1, rows, h2, h⟩
theorem a_mslice {n by_ : Nat} {z : List AV} {k k' : IntKind} {i j : Nat} (h1 : i ≤ j) (h2 : j ≤ 2 ^ 62) (h3 : j * by_ ≤ 2 ^ 48) (h : ∀ b, b ∉ L.names → KL (.sl b 0 i) ((b, ⟨n, List.replicate i z⟩) :: L)) : W.mslice n by_ z (.int k (i : Int)) (.int k' (j : Int)) L KL := ⟨k, k', i, j, rfl, rfl, h1, h2, h3, h⟩
theorem a_len_l {rows : List (List AV)} (h : K (.int .i64 (rows.length : Int))) : W.len (.lst rows) K := ⟨_, rfl, h⟩
theorem a_len_m {α : Type} {f : α → List AV} {l : List α} (h : K (.int .i64 (l.length : Int))) : W.len (.lst (l.map f)) K := ⟨_, rfl, by rw [List.length_map]; exact h⟩
theorem a_len_s {b i n : Nat} (h : K (.int .i64 (n : Int))) : W.len (.sl b i n) K := ⟨_, rfl, h⟩
theorem a_len_n (h : K (.int .i64 (0 : Nat))) : W.len .nils K := ⟨_, rfl, h⟩
theorem a_lenS {s : List UInt8} (h : K (.int .i64 (s.length : Int))) : W.lenS (.str s) K := ⟨_, rfl, h⟩
theorem a_frz_p {b i off : Nat} {x : Blk} {L' : SH} (h1 : Del b x L L') (h2 : 0 < x.size) (h3 : 0 < x.rows.length) (h : KL (.pptr x.rows i off) L') : W.frz1 (.ptr b i off) L KL := ⟨x, L', h1, h2, h3, h⟩
theorem a_note {KF : W.Fp → Prop} {r : W.Fp} (h : KF r) : W.note r KF := by rw [note_eq]; exact h
theorem a_calm {us : List W.WR} {y : W.WR} {A : Prop} (h1 : ∀ x ∈ us, W.free x y) (h : A) : W.calm us y A := ⟨h1, h⟩
theorem a_tt {A : Prop} (h : A) : (true = true) ∧ A := ⟨rfl, h⟩
theorem a_join {J : W.Kn} {B : W.Kn → Prop} (h : B J) : W.join J B := ⟨h⟩
theorem a_app_n {n by_ : Nat} {x : AV} {m : List (List AV)} (h1 : W0.rowsR L n x m) (h2 : 2 * m.length * by_ ≤ 2 ^ 48) (h3 : 2 * m.length ≤ 2 ^ 62) (h4 : (m.all fun r => r.all AV.one) = true) (h0 : m.length ≠ 0)
    (h : ∀ b, b ∉ L.names → KL (.sl b 0 m.length) ((b, ⟨n, m⟩) :: L)) : W.append n by_ .nils x L KL :=
  ⟨[], m, rfl, h1, by simpa using h2, by simpa using h3, h4, fun e => absurd e h0, fun _ => h⟩
theorem a_app_s {n by_ b' i k : Nat} {x : AV} {y : Blk} {l m : List (List AV)} {L' : SH} (hm : (b', y) ∈ L) (hs : y.size = n) (hl : i + k ≤ y.rows.length) (he : (y.rows.drop i).take k = l) (h1 : W0.rowsR L n x m)
    (h2 : 2 * (l.length + m.length) * by_ ≤ 2 ^ 48) (h3 : 2 * (l.length + m.length) ≤ 2 ^ 62) (h4 : (m.all fun r => r.all AV.one) = true) (hd : Del b' y L L')
    (h : ∀ b, b ∉ L.names → KL (.sl b 0 (l.length + m.length)) ((b, ⟨n, l ++ m⟩) :: L')) : W.append n by_ (.sl b' i k) x L KL :=
  ⟨l, m, ⟨y, hm, hs, hl, he.symm⟩, h1, h2, h3, h4, y, L', hd, h⟩
theorem a_app_e {n by_ : Nat} {x : AV} {m : List (List AV)} (h1 : W0.rowsR L n x m) (h2 : 2 * m.length * by_ ≤ 2 ^ 48) (h3 : 2 * m.length ≤ 2 ^ 62) (h4 : (m.all fun r => r.all AV.one) = true) (h0 : m.length ≠ 0)
    (h : ∀ b, b ∉ L.names → KL (.sl b 0 m.length) ((b, ⟨n, m⟩) :: L)) : W.append n by_ .emp x L KL :=
  ⟨[], m, rfl, h1, by simpa using h2, by simpa using h3, h4, fun e => absurd e h0, fun _ => h⟩
theorem a_len_e (h : K (.int .i64 (0 : Nat))) : W.len .emp K := ⟨_, rfl, h⟩
theorem a_clear_s {KS : SH → Prop} {n : Nat} {z : List AV} {b i k : Nat} {y y' : Blk} {L' : SH} (hu : Upd b y y' L L') (h1 : y.size = n) (h2 : i + k ≤ y.rows.length) (h3 : y' = ⟨y.size, y.rows.take i ++ List.replicate k z ++ y.rows.drop (i + k)⟩) (h : KS L') : W.clear n z (.sl b i k) L KS :=
  ⟨y, L', h1, h2, h3 ▸ hu, h⟩
theorem a_slice_s {n b i m : Nat} {lo hi : Option AV} {l h : Nat} {y : Blk} (h1 : boundA lo 0 = some l) (h2 : boundA hi m = some h) (hl : l ≤ h) (hh : h ≤ m) (hm : (b, y) ∈ L) (hs : y.size = n) (hk : K (.sl b (i + l) (h - l))) : W.slice n (.sl b i m) lo hi none L K :=
  ⟨m, l, h, m, rfl, h1, h2, rfl, hl, hh, Nat.le_refl _, ⟨y, hm, hs⟩, hk⟩
theorem a_slice_l {n : Nat} {rows : List (List AV)} {lo hi : Option AV} {l h : Nat} (h1 : boundA lo 0 = some l) (h2 : boundA hi rows.length = some h) (hl : l ≤ h) (hh : h ≤ rows.length) (hs : ∀ r, rows.head? = some r → r.length = n) (hk : K (.lst ((rows.drop l).take (h - l)))) : W.slice n (.lst rows) lo hi none L K :=
  ⟨rows.length, l, h, rows.length, rfl, h1, h2, rfl, hl, hh, Nat.le_refl _, hs, hk⟩
theorem rowsR_m {α : Type} {f : α → List AV} {l : List α} {n : Nat} (h : ∀ x, (f x).length = n) : W0.rowsR L n (.lst (l.map f)) (l.map f) := ⟨rfl, fun r hr => by
  cases l with
  | nil => cases hr
  | cons x l => simp at hr; rw [← hr]; exact h x⟩
theorem rowsR_s {n b k : Nat} {x : Blk} (hm : (b, x) ∈ L) (hs : x.size = n) (hk : k = x.rows.length) : W0.rowsR L n (.sl b 0 k) x.rows := ⟨x, hm, hs, by omega, by simp [hk]⟩
end
end Go.Proofs.Ytadjimfkfmojkaa.Am

end
section
namespace Go.Proofs.Ytadjimfkfmojkaa.Am
set_option linter.unusedVariables false
abbrev Str := List UInt8
structure CellD where
  name : Str
  index : Int
  size : Int
  volatile : Bool
  init : Int
  deriving Inhabited, DecidableEq
structure LockI where
  name : Str
  rw : Bool
  deriving Inhabited, DecidableEq
structure CondI where
  name : Str
  mutex : Int
  deriving Inhabited, DecidableEq
structure SiteD where
  thread : Int
  stmt : Int
  line : Int
  deriving Inhabited, DecidableEq
structure WorldD where
  cells : List CellD
  locks : List LockI
  conds : List CondI
  futures : List Str
  threads : List Str
  sites : List SiteD
  deriving Inhabited, DecidableEq
structure LockD where
  owner : Int
  readers : List Int
  deriving Inhabited, DecidableEq
structure ThrD where
  status : Int
  cond : Int
  atomic : Bool
  deriving Inhabited, DecidableEq
structure SyncD where
  locks : List LockD
  tx : Int
  done : List Bool
  threads : List ThrD
  deriving Inhabited, DecidableEq
def CellD.enc (c : CellD) : List AV := [.str c.name, .int .i64 c.index, .int .i64 c.size, .bool c.volatile, .int .i64 c.init]
def LockI.enc (c : LockI) : List AV := [.str c.name, .bool c.rw]
def CondI.enc (c : CondI) : List AV := [.str c.name, .int .i64 c.mutex]
def SiteD.enc (c : SiteD) : List AV := [.int .i64 c.thread, .int .i64 c.stmt, .int .i64 c.line]
def strE (s : Str) : List AV := [.str s]
def intE (n : Int) : List AV := [.int .i64 n]
def boolE (b : Bool) : List AV := [.bool b]
def LockD.enc (l : LockD) : List AV := [.int .i64 l.owner, .lst (l.readers.map intE)]
def ThrD.enc (t : ThrD) : List AV := [.int .i64 t.status, .int .i64 t.cond, .bool t.atomic]
def WorldD.enc (w : WorldD) : List AV := [.lst (w.cells.map CellD.enc), .lst (w.locks.map LockI.enc), .lst (w.conds.map CondI.enc), .lst (w.futures.map strE), .lst (w.threads.map strE), .lst (w.sites.map SiteD.enc)]
def SyncD.enc (s : SyncD) : List AV := [.lst (s.locks.map LockD.enc), .int .i64 s.tx, .lst (s.done.map boolE), .lst (s.threads.map ThrD.enc)]
theorem map_at {α β : Type} {f : α → β} {l : List α} {i : Nat} (h : i < l.length) : (l.map f)[i]? = some (f l[i]) := by simp [h]
theorem i64_succ {i n : Nat} (h : i < n) (hn : n < 2 ^ 62) : IntKind.i64.wrap ((i : Int) + 1) = ((i + 1 : Nat) : Int) := by rw [IntWalk.i64_in _ (by omega)]; omega
theorem dec_lt {i n : Nat} (h : i < n) : decide ((i : Int) < (n : Int)) = true := by simpa using h
theorem dec_ge {i n : Nat} (h : n ≤ i) : decide ((i : Int) < (n : Int)) = false := by simpa using h
theorem fzs_eq {vs vs2 : List AV} {L L2 : SH} (hv : vs = vs2) (hL : L = L2) : FzS vs L vs2 L2 := by subst hv; subst hL; exact .refl _ _
/-- a loop that counts -/
theorem for_by (n : Nat) (S : Nat → List AV × SH) (G : Nat → Prop) {B : List AV → SH → W.Kn → Prop} {vs : List AV} {L : SH} (h0 : G 0) (hv : vs = (S 0).1) (hL : L = (S 0).2)
    (h : ∀ i, i ≤ n → G i → B (S i).1 (S i).2 fun vs' L' => ∃ j, i < j ∧ j ≤ n ∧ G j ∧ FzS vs' L' (S j).1 (S j).2) : W.loop B vs L := by
  refine ⟨fun k vs L => ∃ i, i ≤ n ∧ G i ∧ k = n - i ∧ vs = (S i).1 ∧ L = (S i).2, ⟨n, _, _, .refl _ _, 0, Nat.zero_le _, h0, rfl, hv, hL⟩, ?_⟩
  rintro k vs L ⟨i, hi, hG, rfl, rfl, rfl⟩
  have e : (fun vs' L' => ∃ m vs2 L2, m < n - i ∧ FzS vs' L' vs2 L2 ∧ ∃ j, j ≤ n ∧ G j ∧ m = n - j ∧ vs2 = (S j).1 ∧ L2 = (S j).2) = fun vs' L' => ∃ j, i < j ∧ j ≤ n ∧ G j ∧ FzS vs' L' (S j).1 (S j).2 := by
    funext vs' L'
    apply propext
    constructor
    · rintro ⟨m, vs2, L2, h1, h2, j, h3, h4, rfl, rfl, rfl⟩; exact ⟨j, by omega, h3, h4, h2⟩
    · rintro ⟨j, h1, h2, h3, h4⟩; exact ⟨n - j, _, _, by omega, h4, j, h2, h3, rfl, rfl, rfl⟩
  rw [e]
  exact h i hi hG
def inB (i : Int) (n : Nat) : Bool := decide (0 ≤ i) && decide (i < (n : Int))
theorem inB_iff {i : Int} {n : Nat} : inB i n = true ↔ 0 ≤ i ∧ i < n := by simp [inB]
theorem nn_inB {i : Int} {n : Nat} (h : inB i n = true) : 0 ≤ i := (inB_iff.1 h).1
theorem at_inB {α : Type} [Inhabited α] {f : α → List AV} {l : List α} {i : Int} (h : inB i l.length = true) : (l.map f)[i.toNat]? = some (f (l.getD i.toNat default)) := by
  obtain ⟨h1, h2⟩ := inB_iff.1 h
  have : i.toNat < l.length := by omega
  simp [this]
end Go.Proofs.Ytadjimfkfmojkaa.Am

end
section
namespace Go.Proofs.Ytadjimfkfmojkaa.Am
set_option maxRecDepth 100000
set_option linter.unusedSimpArgs false
set_option linter.unusedVariables false
/-- a slice that reads as a list -/
theorem Fz.slm {α : Type} {K : SH} {b n size : Nat} {l : List α} {f g : α → List AV} {rows : List (List AV)} (hm : (b, ⟨size, rows⟩) ∈ K) (hr : rows = l.map f) (hs : 0 < size) (hn : n = l.length) (hl : ∀ y ∈ l, (f y).length = (g y).length)
    (hc : ∀ y ∈ l, ∀ (q : Nat) (a a2 : AV), (f y)[q]? = some a → (g y)[q]? = some a2 → Fz K a a2) : Fz K (.sl b 0 n) (.lst (l.map g)) := by
  subst hr
  subst hn
  cases l with
  | nil => exact .sl0 b 0
  | cons x l =>
    have get : ∀ (j : Nat) (r r2 : List AV), ((x :: l).map f)[0 + j]? = some r → ((x :: l).map g)[j]? = some r2 → ∃ y ∈ x :: l, r = f y ∧ r2 = g y := fun j r r2 h1 h2 => by
      rw [Nat.zero_add, List.getElem?_map] at h1
      rw [List.getElem?_map] at h2
      cases hj : (x :: l)[j]? with
      | none => rw [hj] at h1; cases h1
      | some y =>
        rw [hj] at h1 h2
        cases h1; cases h2
        exact ⟨y, List.mem_of_getElem? hj, rfl, rfl⟩
    refine .sl b 0 _ ⟨size, (x :: l).map f⟩ _ hm hs (by simp) (by simp) (by simp) (fun j r r2 h1 h2 => ?_) (fun j r r2 q a a2 h1 h2 h3 h4 => ?_)
    · obtain ⟨y, hy, rfl, rfl⟩ := get j r r2 h1 h2; exact hl y hy
    · obtain ⟨y, hy, rfl, rfl⟩ := get j r r2 h1 h2; exact hc y hy q a a2 h3 h4
theorem Fz.sls {α : Type} {K : SH} {b n size : Nat} {l : List α} {f : α → List AV} {rows : List (List AV)} (hm : (b, ⟨size, rows⟩) ∈ K) (hr : rows = l.map f) (hs : 0 < size) (hn : n = l.length) : Fz K (.sl b 0 n) (.lst (l.map f)) :=
  Fz.slm hm hr hs hn (fun _ _ => rfl) fun y _ q a a2 h1 h2 => by rw [h1] at h2; cases h2; exact .refl _
/-- cell by cell -/
inductive FzL (K : SH) : List AV → List AV → Prop where
  | nil : FzL K [] []
  | cons {a b : AV} {l m : List AV} : Fz K a b → FzL K l m → FzL K (a :: l) (b :: m)
theorem FzL.at_ {K : SH} {l m : List AV} (h : FzL K l m) : l.length = m.length ∧ ∀ (i : Nat) (a b : AV), l[i]? = some a → m[i]? = some b → Fz K a b := by
  induction h with
  | nil => exact ⟨rfl, fun i a b h => by simp at h⟩
  | cons h1 h2 ih =>
    refine ⟨by simp [ih.1], fun i a b ha hb => ?_⟩
    match i with
    | 0 => cases ha; cases hb; exact h1
    | i + 1 => exact ih.2 i a b (by simpa using ha) (by simpa using hb)
theorem Fz.aggs {K : SH} {l m : List AV} (h : FzL K l m) : Fz K (.agg l) (.agg m) := .agg l m h.at_.1 h.at_.2
theorem Fz.tups {K : SH} {l m : List AV} (h : FzL K l m) : Fz K (.tup l) (.tup m) := .tup l m h.at_.1 h.at_.2
theorem FzS.all {L : SH} {v v2 : AV} (h : Fz L v v2) : FzS [v] L [v2] [] := .drop (K := L) (R := []) (by simp) rfl fun i a a2 h1 h2 => by
  match i with
  | 0 => cases h1; cases h2; exact h
  | i + 1 => simp at h1
/-- a slice that has no room as long as nothing was appended to it -/
def slotV : Option Nat → Nat → AV
  | none, _ => .emp
  | some b, n => .sl b 0 n
def slotB (o : Option Nat) (size : Nat) (rows : List (List AV)) : SH := match o with
  | none => []
  | some b => [(b, ⟨size, rows⟩)]
theorem Del.app {b : Nat} {x : Blk} {L L' : SH} (h : Del b x L L') : ∀ M : SH, Del b x (M ++ L) (M ++ L')
  | [] => h
  | p :: M => .there p (h.app M)
/-- a list of blocks, without some -/
theorem FzS.forget {vs : List AV} {L K R : SH} (hL : L.Perm (K ++ R)) : FzS vs L vs R := .drop hL rfl fun i a a2 h1 h2 => by rw [h1] at h2; cases h2; exact .refl _
/-- the cells of a box are read anew -/
theorem FzS.box {vs : List AV} {L K R : SH} {b n : Nat} {r r' : List AV} (hL : L.Perm (K ++ (b, ⟨n, [r]⟩) :: R)) (hr : FzL K r r') : FzS vs L vs ((b, ⟨n, [r']⟩) :: R) := by
  refine ⟨K, (b, ⟨n, [r]⟩) :: R, hL, ⟨rfl, fun i a a2 h1 h2 => by rw [h1] at h2; cases h2; exact .refl _⟩, rfl, fun i p q h1 h2 => ?_⟩
  match i with
  | 0 =>
    cases h1; cases h2
    refine ⟨rfl, rfl, rfl, fun j s s2 g1 g2 => ?_⟩
    match j with
    | 0 => cases g1; cases g2; exact ⟨hr.at_.1, hr.at_.2⟩
    | j + 1 => simp at g1
  | i + 1 =>
    simp only [List.getElem?_cons_succ] at h1 h2
    rw [h1] at h2; cases h2
    exact ⟨rfl, rfl, rfl, fun j r r2 h3 h4 => by rw [h3] at h4; cases h4; exact ⟨rfl, fun k a a2 h5 h6 => by rw [h5] at h6; cases h6; exact .refl _⟩⟩
theorem Fz.slot {α : Type} {o : Option Nat} {size : Nat} {l : List α} {f g : α → List AV} {rows : List (List AV)} (hr : rows = l.map f) (h0 : o = none → rows = []) (hs : 0 < size) (hl : ∀ y ∈ l, (f y).length = (g y).length)
    (hc : ∀ y ∈ l, ∀ (q : Nat) (a a2 : AV), (f y)[q]? = some a → (g y)[q]? = some a2 → Fz (slotB o size rows) a a2) : Fz (slotB o size rows) (slotV o l.length) (.lst (l.map g)) := by
  cases o with
  | none =>
    have := h0 rfl
    subst hr
    have : l = [] := by simpa using this
    subst this
    exact .emp
  | some b => exact Fz.slm (List.mem_singleton.2 rfl) hr hs rfl hl hc
/-- a loop, over states that are described by a number and something more -/
theorem loop_ex {β : Type} (n : Nat) (S : Nat → β → List AV × SH) (G : Nat → β → Prop) {B : List AV → SH → W.Kn → Prop} {vs : List AV} {L : SH} (b0 : β) (h0 : G 0 b0) (hz : FzS vs L (S 0 b0).1 (S 0 b0).2)
    (h : ∀ i o, i ≤ n → G i o → B (S i o).1 (S i o).2 fun vs' L' => ∃ j o', i < j ∧ j ≤ n ∧ G j o' ∧ FzS vs' L' (S j o').1 (S j o').2) : W.loop B vs L := by
  refine ⟨fun k vs L => ∃ i o, i ≤ n ∧ G i o ∧ k = n - i ∧ vs = (S i o).1 ∧ L = (S i o).2, ⟨n, _, _, hz, 0, b0, Nat.zero_le _, h0, rfl, rfl, rfl⟩, ?_⟩
  rintro k vs L ⟨i, o, hi, hG, rfl, rfl, rfl⟩
  have e : (fun vs' L' => ∃ m vs2 L2, m < n - i ∧ FzS vs' L' vs2 L2 ∧ ∃ j o', j ≤ n ∧ G j o' ∧ m = n - j ∧ vs2 = (S j o').1 ∧ L2 = (S j o').2) = fun vs' L' => ∃ j o', i < j ∧ j ≤ n ∧ G j o' ∧ FzS vs' L' (S j o').1 (S j o').2 := by
    funext vs' L'
    apply propext
    constructor
    · rintro ⟨m, vs2, L2, h1, h2, j, o', h3, h4, rfl, rfl, rfl⟩; exact ⟨j, o', by omega, h3, h4, h2⟩
    · rintro ⟨j, o', h1, h2, h3, h4⟩; exact ⟨n - j, _, _, by omega, h4, j, o', h2, h3, rfl, rfl, rfl⟩
  rw [e]
  exact h i o hi hG
end Go.Proofs.Ytadjimfkfmojkaa.Am

end
