/- AM, part 32: regions over a symbolic heap. -/
import Derived.Test.YtdaejmkoenhbkaaSlc
namespace Go.Proofs.Ytdaejmkoenhbkaa.Am
open Go.RowKit
set_option linter.unusedVariables false
namespace W
structure pick (c x y : AV) (K : AV → Prop) : Prop where
  h : W0.pick c x y K
structure un (op : UnOp) (x : AV) (K : AV → Prop) : Prop where
  h : W0.un op x K
structure bin (P : Program) (F : TypeId → Option (List TypeId)) (op : BinOp) (t : TypeId) (x y : AV) (K : AV → Prop) : Prop where
  h : W0.bin P F op t x y K
structure conv (k : IntKind) (x : AV) (K : AV → Prop) : Prop where
  h : W0.conv k x K
structure convS (x : AV) (K : AV → Prop) : Prop where
  h : W0.convS x K
structure faddr (off : Nat) (x : AV) (K : AV → Prop) : Prop where
  h : W0.faddr off x K
structure fld (ag : Bool) (n off : Nat) (x : AV) (K : AV → Prop) : Prop where
  h : W0.fld ag n off x K
structure load (ag : Bool) (n : Nat) (a : AV) (L : SH) (K : AV → Prop) : Prop where
  h : W0.loadR ag n a L K
structure store (n : Nat) (a v : AV) (L : SH) (K : SH → Prop) : Prop where
  h : W0.storeR n a v L K
structure idx (n : Nat) (x ix : AV) (L : SH) (K : AV → Prop) : Prop where
  h : W0.idxR n x ix L K
structure idxP (len n : Nat) (x ix : AV) (K : AV → Prop) : Prop where
  h : W0.idxP len n x ix K
structure ixS (x ix : AV) (K : AV → Prop) : Prop where
  h : W0.ixS x ix K
structure ixA (ag : Bool) (len n : Nat) (x ix : AV) (K : AV → Prop) : Prop where
  h : W0.ixA ag len n x ix K
structure ext (i : Nat) (x : AV) (K : AV → Prop) : Prop where
  h : W0.ext i x K
structure nilchk (x : AV) (K : AV → Prop) : Prop where
  h : W0.nilchk x K
structure build (z : List AV) (parts : List (Nat × Nat × AV)) (K : AV → Prop) : Prop where
  h : W0.build z parts K
structure alloc (cs : List AV) (L : SH) (K : AV → SH → Prop) : Prop where
  h : W0.alloc cs L K
structure box (x : AV) (L : SH) (K : AV → SH → Prop) : Prop where
  h : W0.box x L K
structure bslice (n : Nat) (z : List AV) (len : Nat) (parts : List (Nat × AV)) (L : SH) (K : AV → SH → Prop) : Prop where
  h : W0.bslice n z len parts L K
structure mslice (n by_ : Nat) (z : List AV) (l c : AV) (L : SH) (K : AV → SH → Prop) : Prop where
  h : W0.mslice n by_ z l c L K
structure append (n by_ : Nat) (s x : AV) (L : SH) (K : AV → SH → Prop) : Prop where
  h : W0.appendR n by_ s x L K
structure clear (n : Nat) (z : List AV) (x : AV) (L : SH) (K : SH → Prop) : Prop where
  h : W0.clearR n z x L K
structure len (x : AV) (K : AV → Prop) : Prop where
  h : W0.len x K
structure lenS (x : AV) (K : AV → Prop) : Prop where
  h : W0.lenS x K
structure mnx (mx : Bool) (x y : AV) (K : AV → Prop) : Prop where
  h : W0.mnx mx x y K
structure slice (n : Nat) (x : AV) (lo hi mx : Option AV) (L : SH) (K : AV → Prop) : Prop where
  h : W0.sliceR n x lo hi mx L K
structure sliceS (x : AV) (lo hi : Option AV) (K : AV → Prop) : Prop where
  h : W0.sliceS x lo hi K
structure call (P : Program) (fv : AV) (args : List AV) (L : SH) (K : AV → SH → Prop) : Prop where
  h : match fv with
    | .fn g cs => CallA P g (args ++ cs) L K
    | _ => False
section
variable (P : Program) (F : TypeId → Option (List TypeId))
/-- What an operation demands; none: it is a call. -/
def op (o : Op) (ρ : Operand → AV) (L : SH) (K : AV → SH → Prop) : Prop :=
  let k := fun v => K v L
  match o with
  | .move x | .assign x => K (ρ x) L
  | .pick c x y => pick (ρ c) (ρ x) (ρ y) k
  | .alloc t => match W0.zof P t with
    | some cs => alloc cs L K
    | none => False
  | .box _ x => box (ρ x) L K
  | .build t parts => match P.underlying t, zeroA P t with
    | some (.struct fs), some (.agg z) => if (fs.toList.all fun f => (sizeA P f.type).isSome) = true then
        (match allSome (parts.toList.map fun p => (placesA P fs p.1).map fun q => (q.1, q.2, ρ p.2)) with
          | some ps => build z ps k
          | none => False)
      else False
    | some (.array _ e), some (.agg z) => (match sizeA P e with
      | some n => build z (parts.toList.map fun p => (p.1 * n, n, ρ p.2)) k
      | none => False)
    | _, _ => False
  | .buildSlice t len parts => match P.underlying t with
    | some (.slice e) => match sizeA P e, W0.zof P e with
      | some n, some z => if z.length = n ∧ 0 < n then bslice n z len (parts.toList.map fun p => (p.1, ρ p.2)) L K else False
      | _, _ => False
    | _ => False
  | .load t a => match isAggA P t, sizeA P t with
    | some ag, some n => load ag n (ρ a) L k
    | _, _ => False
  | .store t a x => match sizeA P t with
    | some n => store n (ρ a) (ρ x) L (K (.tup []))
    | none => False
  | .nilCheck x => nilchk (ρ x) k
  | .binOp op t x y _ => bin P F op t (ρ x) (ρ y) k
  | .unOp op _ x => un op (ρ x) k
  | .convert s d x => match P.underlying s, P.underlying d with
    | some (.int _), some (.int kd) => conv kd (ρ x) k
    | some .string, some .string => convS (ρ x) k
    | _, _ => False
  | .makeFunc (.func f) first cap => if first.size = 0 then K (.fn f (cap.toList.map ρ)) L else False
  | .makeSlice t l c => match P.underlying t with
    | some (.slice e) => match sizeA P e, bytesA P e, W0.zof P e with
      | some n, some by_, some z => if z.length = n ∧ 0 < n then mslice n by_ z (ρ l) (ρ c) L K else False
      | _, _, _ => False
    | _ => False
  | .slice t x lo hi mx => if (hi.isNone && mx.isSome) = true then False else match P.underlying t with
    | some (.slice e) => (match sizeA P e with
      | some n => slice n (ρ x) (lo.map ρ) (hi.map ρ) (mx.map ρ) L k
      | none => False)
    | some .string => if mx.isNone = true then sliceS (ρ x) (lo.map ρ) (hi.map ρ) k else False
    | _ => False
  | .fieldAddr s x f => match P.underlying s with
    | some (.struct fs) => match fs[f]? with
      | some f => (match sizeA P f.type with
        | some n => if n = 0 then False else faddr f.offset (ρ x) k
        | none => False)
      | none => False
    | _ => False
  | .field s x f => match P.underlying s with
    | some (.struct fs) => match fs[f]? with
      | some f => (match isAggA P f.type, sizeA P f.type with
        | some ag, some n => fld ag n f.offset (ρ x) k
        | _, _ => False)
      | none => False
    | _ => False
  | .indexAddr t x ix => match P.underlying t with
    | some (.slice e) => (match sizeA P e with
      | some n => idx n (ρ x) (ρ ix) L k
      | none => False)
    | some (.array len e) => (match sizeA P e with
      | some n => idxP len n (ρ x) (ρ ix) k
      | none => False)
    | _ => False
  | .index t x ix => match P.underlying t with
    | some .string => ixS (ρ x) (ρ ix) k
    | some (.array len e) => (match isAggA P e, sizeA P e with
      | some ag, some n => ixA ag len n (ρ x) (ρ ix) k
      | _, _ => False)
    | _ => False
  | .extract x i => ext i (ρ x) k
  | .call c => match c.callee with
    | .builtin .len => (match c.args.toList, (c.argTypes[0]?).bind P.underlying with
      | [x], some (.slice _) => len (ρ x) k
      | [x], some .string => lenS (ρ x) k
      | [x], some (.array n _) => (match ρ x with | .str _ => False | _ => K (.int .i64 n) L)
      | _, _ => False)
    | .builtin .append => (match c.args.toList, c.argTypes.toList with
      | [s, x], [t, tx] => (match P.underlying t, P.underlying tx with
        | some (.slice e), some (.slice _) => (match sizeA P e, bytesA P e, W0.zof P e with
          | some n, some by_, some z => if z.length = n ∧ 0 < n then append n by_ (ρ s) (ρ x) L K else False
          | _, _, _ => False)
        | _, _ => False)
      | _, _ => False)
    | .builtin .min => (match c.args.toList with
      | [x, y] => mnx false (ρ x) (ρ y) k
      | _ => False)
    | .builtin .max => (match c.args.toList with
      | [x, y] => mnx true (ρ x) (ρ y) k
      | _ => False)
    | .builtin .clear => (match c.args.toList, c.argTypes.toList with
      | [x], [t] => (match P.underlying t with
        | some (.slice e) => (match sizeA P e, W0.zof P e with
          | some n, some z => if (z.length = n ∧ 0 < n) ∧ z.all AV.one = true then clear n z (ρ x) L (K (.tup [])) else False
          | _, _ => False)
        | _ => False)
      | _, _ => False)
    | .value f => call P (ρ f) (c.args.toList.map ρ) L K
    | _ => False
  | _ => False
end
theorem op_raw {P : Program} {F : TypeId → Option (List TypeId)} {o : Op} {ρ : Operand → AV} {L : SH} {K : AV → SH → Prop} (h : op P F o ρ L K) : W0.op P F o ρ L K := by
  cases o with
  | makeFunc fn first cap =>
    cases fn with
    | func f =>
      simp only [op] at h
      simp only [W0.op]
      split at h
      · rename_i hc; rw [if_pos hc]; exact h
      · exact h.elim
    | _ => exact h
  | move x => exact h
  | assign x => exact h
  | pick c x y => exact h.h
  | box t x => exact h.h
  | nilCheck x => exact h.h
  | binOp op t x y c => exact h.h
  | unOp op t x => exact h.h
  | extract x i => exact h.h
  | alloc t | build t ps | buildSlice t l ps | load t a | store t a x | convert s d x | makeSlice t l c | slice t x lo hi mx | fieldAddr s x f | field s x f | indexAddr t x ix | index t x ix | call c =>
    simp only [op] at h
    simp only [W0.op]
    repeat' split at h
    all_goals first
      | exact h.elim
      | (have h := h.h; split at h <;> first | exact h.elim | (simp only [*]; exact h))
      | (simp only [*, if_true, and_self]; first | exact h.h | exact h)
      | (simp_all; done)
      | (simp_all; first | exact h.h | exact h)
  | _ => exact h.elim
/-- an operation behind a guard -/
structure grd (x : AV) (want : Bool) (A : (AV → SH → Prop) → Prop) (L : SH) (K : AV → SH → Prop) : Prop where
  h : (x = .bool want ∧ A K) ∨ ((x = .bool (!want) ∨ x = undefA) ∧ K undefA L)
section
variable (P : Program) (F : TypeId → Option (List TypeId)) (ops : Array Oper)
/-- the operations of a region, in the order of the text -/
def sq : List Nat → List AV → SH → (List AV → SH → Prop) → Prop
  | [], τ, L, K => K τ L
  | i :: l, τ, L, K => match ops[i]? with
    | none => False
    | some o => match o.guard with
      | none => op P F o.op (aev τ) L fun v L => sq l (putA τ o.dst v) L K
      | some (j, want) => match (ops[j]?).bind (·.dst) with
        | some d => grd (τ.getD d .junk) want (op P F o.op (aev τ) L) L fun v L => sq l (putA τ o.dst v) L K
        | none => False
/-- what an operation of a drawn region has touched -/
structure WR where
  op : Nat
  reads : List Nat
  writes : List Nat
  made : List Nat
  isCall : Bool
  old : List Nat
def free (x y : WR) : Prop := (∀ c ∈ x.writes, c ∉ y.reads ∧ c ∉ y.writes) ∧ (∀ c ∈ x.reads, c ∉ y.writes) ∧ (∀ c ∈ x.made, c ∉ y.reads ∧ c ∉ y.writes) ∧
  (x.isCall = true → y.isCall = false ∧ y.writes = [] ∧ ∀ c ∈ y.reads, c ∈ x.old) ∧ (y.isCall = true → x.writes = [])
def isMem : Op → Bool
  | .load .. | .store .. | .indexAddr .. | .slice .. | .alloc .. | .box .. | .buildSlice .. | .makeSlice .. => true
  | .call c => match c.callee with
    | .builtin .append => true
    | .builtin .clear => true
    | _ => false
  | _ => false
/-- nothing that is not ordered meets -/
structure calm (us : List WR) (y : WR) (A : Prop) : Prop where
  h : (∀ x ∈ us, free x y) ∧ A
/-- a call in a drawn region: it is handed a part of the heap -/
structure dcall (us : List WR) (i : Nat) (fv : AV) (args : List AV) (L : SH) (K : AV → SH → List Nat → Prop) : Prop where
  h : match fv with
    | .fn g cs => ∃ Kc R : SH, L.Perm (Kc ++ R) ∧ (∀ x ∈ us, free x ⟨i, [], Kc.names, [], true, []⟩) ∧ CallA P g (args ++ cs) Kc fun v K' => K v (K' ++ R) Kc.names
    | _ => False
/-- what an operation touched -/
structure Fp where
  reads : List Nat
  writes : List Nat
  made : List Nat
  old : List Nat
def isCallV : Op → Bool
  | .call c => match c.callee with
    | .value _ => true
    | _ => false
  | _ => false
/-- what was touched, under a name -/
structure note (r0 : Fp) (K : Fp → Prop) : Prop where
  h : ∀ r, r = r0 → K r
/-- an operation of a drawn region; us: those ahead of it in the text that no edge puts ahead of it -/
def dop (us : List WR) (i : Nat) (o : Op) (ρ : Operand → AV) (L : SH) (K : AV → SH → Fp → Prop) : Prop :=
  match o with
  | .call c => match c.callee with
    | .value f => dcall P us i (ρ f) (c.args.toList.map ρ) L fun v L' ks => note ⟨[], ks, [], L.names⟩ fun r => K v L' r
    | .builtin .append => (match c.args.toList with
      | [s, x] => calm us ⟨i, blocksOf (ρ s) ++ blocksOf (ρ x), blocksOf (ρ s), [], false, []⟩ (op P F o ρ L fun v L' => note ⟨blocksOf (ρ s) ++ blocksOf (ρ x), blocksOf (ρ s), blocksOf v, []⟩ fun r => K v L' r)
      | _ => False)
    | .builtin .clear => (match c.args.toList with
      | [x] => calm us ⟨i, blocksOf (ρ x), blocksOf (ρ x), [], false, []⟩ (op P F o ρ L fun v L' => note ⟨blocksOf (ρ x), blocksOf (ρ x), [], []⟩ fun r => K v L' r)
      | _ => False)
    | _ => op P F o ρ L fun v L' => K v L' ⟨[], [], [], []⟩
  | o => if isMem o then calm us ⟨i, readsA o ρ, writesA o ρ, [], false, []⟩ (op P F o ρ L fun v L' => note ⟨readsA o ρ, writesA o ρ, if W0.makes o then blocksOf v else [], []⟩ fun r => K v L' r)
    else op P F o ρ L fun v L' => K v L' ⟨[], [], [], []⟩
def push (i : Nat) (o : Op) (r : Fp) (rs : List WR) : List WR := if isCallV o || isMem o then ⟨i, r.reads, r.writes, r.made, isCallV o, r.old⟩ :: rs else rs
structure dgrd (x : AV) (want : Bool) (A : (AV → SH → Fp → Prop) → Prop) (L : SH) (K : AV → SH → Fp → Prop) : Prop where
  h : (x = .bool want ∧ A K) ∨ ((x = .bool (!want) ∨ x = undefA) ∧ K undefA L ⟨[], [], [], L.names⟩)
def dr (before : List Nat) : List Nat → List AV → SH → List WR → (List AV → SH → Prop) → Prop
  | [], τ, L, _, K => K τ L
  | i :: l, τ, L, rs, K => match ops[i]? with
    | none => False
    | some o => match o.guard with
      | none => dop P F (rs.filter fun x => !(before.getD i 0).testBit x.op) i o.op (aev τ) L fun v L r => dr before l (putA τ o.dst v) L (push i o.op r rs) K
      | some (j, want) => match (ops[j]?).bind (·.dst) with
        | some d => dgrd (τ.getD d .junk) want (dop P F (rs.filter fun x => !(before.getD i 0).testBit x.op) i o.op (aev τ) L) L fun v L r => dr before l (putA τ o.dst v) L (push i o.op r rs) K
        | none => False
end
end W
section
variable {P : Program} {F : TypeId → Option (List TypeId)} {ops : Array Oper} {base : Nat}
open Classical in
/-- one call more -/
noncomputable def ora (g : FuncId) (as_ : List AV) (Hi : Heap) (v : AV) (Ho : Heap) (call : FuncId → List AV → Heap → Option (AV × Heap)) : FuncId → List AV → Heap → Option (AV × Heap) :=
  fun f args H => if f = g ∧ args = as_ ∧ H = Hi then some (v, Ho) else call f args H
def Chgs (call : FuncId → List AV → Heap → Option (AV × Heap)) : Prop := ∀ f args H v H', Bd H → call f args H = some (v, H') → Chg H H'
theorem ora_sound {g : FuncId} {as_ : List AV} {Hi Ho : Heap} {v : AV} {call : FuncId → List AV → Heap → Option (AV × Heap)} (hs : Sound P call) (hc : CallOk P g as_ Hi v Ho) (hn : Hi.next ≤ Ho.next) (hb : ∃ fn c, P.funcs[g]? = some fn ∧ fn.body = some c) : Sound P (ora g as_ Hi v Ho call) := by
  refine ⟨fun f args H u H' h => ?_, fun f args H u H' h => ?_, fun f args H u H' h => ?_⟩ <;>
  · unfold ora at h
    split at h
    · rename_i hk; obtain ⟨rfl, rfl, rfl⟩ := hk; cases h; assumption
    · first | exact hs.ok _ _ _ _ _ h | exact hs.next _ _ _ _ _ h | exact hs.body _ _ _ _ _ h
theorem ora_chg {g : FuncId} {as_ : List AV} {Hi Ho : Heap} {v : AV} {call : FuncId → List AV → Heap → Option (AV × Heap)} (hs : Chgs call) (hc : Bd Hi → Chg Hi Ho) : Chgs (ora g as_ Hi v Ho call) := fun f args H u H' hb h => by
  unfold ora at h
  split at h
  · rename_i hk; obtain ⟨rfl, rfl, rfl⟩ := hk; cases h; exact hc hb
  · exact hs _ _ _ _ _ hb h
theorem ora_hit {g : FuncId} {as_ : List AV} {Hi Ho : Heap} {v : AV} {call : FuncId → List AV → Heap → Option (AV × Heap)} : ora g as_ Hi v Ho call g as_ Hi = some (v, Ho) := by unfold ora; rw [if_pos ⟨rfl, rfl, rfl⟩]
theorem ora_later {g : FuncId} {as_ : List AV} {Hi Ho : Heap} {v : AV} {call : FuncId → List AV → Heap → Option (AV × Heap)} {f : FuncId} {args : List AV} {H : Heap} (h : Hi.next < H.next) : ora g as_ Hi v Ho call f args H = call f args H := by
  unfold ora
  rw [if_neg]
  rintro ⟨_, _, rfl⟩
  omega
theorem stepA_agree {call1 call2 : FuncId → List AV → Heap → Option (AV × Heap)} {i : Nat} {τ : List AV} {H : Heap} (h : ∀ f args, call1 f args H = call2 f args H) : stepA P F call1 ops base i τ H = stepA P F call2 ops base i τ H := by
  unfold stepA
  split
  · rfl
  · split
    · split
      · rfl
      · rw [h]
      · rfl
    · rfl
    · rfl
theorem opsA_agree {call1 call2 : FuncId → List AV → Heap → Option (AV × Heap)} {n : Nat} (hag : ∀ f args H, n < H.next → call1 f args H = call2 f args H) (hs : Sound P call1) : ∀ (l : List Nat) (τ : List AV) (H : Heap) (r : List AV × Heap), n < H.next → opsA P F call1 ops base l τ H = some r → opsA P F call2 ops base l τ H = some r
  | [], τ, H, r, _, h => h
  | i :: l, τ, H, r, hn, h => by
    unfold opsA at h ⊢
    rw [← stepA_agree (call1 := call1) (fun f args => hag f args H hn)]
    split at h
    · rename_i τ1 H1 hst
      exact opsA_agree hag hs l τ1 H1 r (Nat.lt_of_lt_of_le hn (stepA_next hs hst)) h
    · cases h
theorem CallOk.bump {f : FuncId} {args : List AV} {H H1 : Heap} {v : AV} (h : CallOk P f args H v H1) (l : List Nat) : CallOk P f args H v { H1 with next := H1.next + 1, log := l } := by
  intro w σ vs hW hvs
  refine (h w σ vs hW hvs).mono ?_
  rintro e w' ⟨v', σ', rfl, k1, k2, k3, k4⟩
  have ho : Own σ' ({ H1 with next := H1.next + 1, log := l } : Heap) = Own σ' H1 := Own.congr fun _ => rfl
  exact ⟨v', σ', rfl, by rw [ho]; exact k1, k2.congr (fun _ => rfl) (Nat.le_succ _), by rw [ho]; exact k3, k4⟩
theorem CallOk.pre {f : FuncId} {args : List AV} {H H0 H1 : Heap} {v : AV} (h : CallOk P f args H v H1) (hg : ∀ b, H0.get b = H.get b) (hn : H0.next = H.next) : CallOk P f args H0 v H1 := by
  intro w σ vs hW hvs
  have ho : Own σ H0 = Own σ H := Own.congr hg
  rw [ho] at hvs
  refine (h w σ vs (hW.congr (fun b => (hg b).symm) (by omega)) hvs).mono ?_
  rintro e w' ⟨v', σ', rfl, k1, k2, k3, k4⟩
  exact ⟨v', σ', rfl, k1, k2, by rw [ho]; exact k3, by rw [hn]; exact k4⟩
theorem Fr.chg {L L' : SH} {H H' : Heap} (h : Fr H.next L H L' H') (l : List Nat) (hl : ∀ b, b ∈ H.log → b ∈ l) (hL : ∀ b, b ∈ L.names → b ∈ l) (n : Nat) (hn : H'.next ≤ n) : Chg H { H' with next := n, log := l } where
  next := Nat.le_trans h.next hn
  dom := fun b hb h0 => h.dom b hb h0
  keep := fun b hb hnl => by
    show H'.get b = H.get b
    cases hg : H.get b with
    | none => exact h.dom b hb hg
    | some x => exact (h.keep b x hg (fun hm => hnl (hL b hm))).1
  log := hl
  bd := fun _ b hb => h.bd b (Nat.le_trans hn hb)
theorem Bd.bump {H : Heap} (h : Bd H) (l : List Nat) (n : Nat) (hn : H.next ≤ n) : Bd { H with next := n, log := l } := fun b hb => h b (Nat.le_trans hn hb)
theorem OpFr.fr {b : Nat} {L L' : SH} {H H' : Heap} (h : OpFr b L H L' H') (hb : base ≤ b) : Fr base L H L' H' :=
  ⟨Nat.le_of_eq h.next.symm, h.bd, h.sub, h.keep, fun c hc => h.dom c (by omega), fun c hc hlt => by
    rcases h.fresh c hc with rfl | h1
    · omega
    · exact h1⟩
theorem wanted_yes {o : Oper} {τ : List AV} {j d : Nat} {want : Bool} (hg : o.guard = some (j, want)) (hd : (ops[j]?).bind (·.dst) = some d) (h : τ.getD d .junk = .bool want) : wantedA ops o τ = some true := by
  have : τ[d]? = some (.bool want) := by
    cases hx : τ[d]? with
    | none => rw [List.getD, hx] at h; cases h
    | some x => rw [List.getD, hx] at h; exact congrArg some h
  simp [wantedA, hg, hd, this]
theorem wanted_no {o : Oper} {τ : List AV} {j d : Nat} {want : Bool} (hg : o.guard = some (j, want)) (hd : (ops[j]?).bind (·.dst) = some d) (h : τ.getD d .junk = .bool (!want) ∨ τ.getD d .junk = undefA) : wantedA ops o τ = some false := by
  rcases h with h | h
  · have : τ[d]? = some (.bool (!want)) := by
      cases hx : τ[d]? with
      | none => rw [List.getD, hx] at h; cases h
      | some x => rw [List.getD, hx] at h; exact congrArg some h
    simp [wantedA, hg, hd, this]
  · have : τ[d]? = some (.tup []) := by
      cases hx : τ[d]? with
      | none => rw [List.getD, hx] at h; cases h
      | some x => rw [List.getD, hx] at h; exact congrArg some h
    simp [wantedA, hg, hd, this]
theorem wanted_none {o : Oper} {τ : List AV} (hg : o.guard = none) : wantedA ops o τ = some true := by simp [wantedA, hg]
theorem sq_sound : ∀ (l : List Nat) (τ : List AV) (L : SH) (K : List AV → SH → Prop), W.sq P F ops l τ L K → l.Nodup → ∀ H, Bd H → Sub L H → (∀ i ∈ l, base + i < H.next ∧ H.get (base + i) = none) → base ≤ H.next →
    ∃ call τ' H' L', Sound P call ∧ Chgs call ∧ opsA P F call ops base l τ H = some (τ', H') ∧ Fr base L H L' H' ∧ K τ' L'
  | [], τ, L, K, h, _, H, hb, hs, _, _ => ⟨noCall, τ, H, L, noCall_sound P, fun _ _ _ _ _ _ h => (by cases h), rfl, .refl hb hs, h⟩
  | i :: l, τ, L, K, h, hnd, H, hb, hs, hfr, hbase => by
    have hnd' := List.nodup_cons.1 hnd
    have h0 := hfr i (by simp)
    unfold W.sq at h
    split at h
    · exact h.elim
    · rename_i o ho
      -- the operation is carried out
      have go : ∀ (Kc : AV → SH → Prop), wantedA ops o τ = some true → W.op P F o.op (aev τ) L Kc → (∀ v L1, Kc v L1 → W.sq P F ops l (putA τ o.dst v) L1 K) →
          ∃ call τ' H' L', Sound P call ∧ Chgs call ∧ opsA P F call ops base (i :: l) τ H = some (τ', H') ∧ Fr base L H L' H' ∧ K τ' L' := by
        intro Kc hw hop hk
        rcases op_goes (b := base + i) hb hs h0.1 h0.2 (W.op_raw hop) with ⟨v, H1, L1, g1, g2, _, g3⟩ | ⟨g, args, g1, g2⟩
        · obtain ⟨call, τ', H', L', k1, k2, k3, k4, k5⟩ := sq_sound l (putA τ o.dst v) L1 K (hk v L1 g3) hnd'.2 H1 g2.bd g2.sub (fun j hj => by
            have hj0 := hfr j (by simp [hj])
            refine ⟨by rw [g2.next]; exact hj0.1, g2.dom _ (fun e => ?_) hj0.2⟩
            have : j = i := by omega
            exact hnd'.1 (this ▸ hj)) (by rw [g2.next]; exact hbase)
          refine ⟨call, τ', H', L', k1, k2, ?_, (g2.fr (Nat.le_add_right _ _)).trans k4 (Nat.le_refl _), k5⟩
          unfold opsA stepA
          simp only [ho, hw, g1]
          exact k3
        · obtain ⟨bd, g3⟩ := g2
          obtain ⟨v, H1, L1, c1, c2, c3⟩ := g3 H hb hs
          have hH1 : Sub L1 ({ H1 with next := H1.next + 1, log := L.names ++ H.log } : Heap) := c2.sub.congr fun _ => rfl
          obtain ⟨call, τ', H', L', k1, k2, k3, k4, k5⟩ := sq_sound l (putA τ o.dst v) L1 K (hk v L1 c3) hnd'.2 { H1 with next := H1.next + 1, log := L.names ++ H.log } (c2.bd.bump _ _ (Nat.le_succ _)) hH1 (fun j hj => by
            have hj0 := hfr j (by simp [hj])
            have := c2.next
            exact ⟨by show base + j < H1.next + 1; omega, c2.dom _ hj0.1 hj0.2⟩) (by have := c2.next; show base ≤ H1.next + 1; omega)
          refine ⟨ora g args H v _ call, τ', H', L', ora_sound k1 (c1.bump _) (by have := c2.next; show H.next ≤ H1.next + 1; omega) bd, ora_chg k2 fun _ => c2.chg _ (fun b hb => List.mem_append_right _ hb) (fun b hb => List.mem_append_left _ hb) _ (Nat.le_succ _), ?_, ?_, k5⟩
          · unfold opsA stepA
            simp only [ho, hw, g1, ora_hit]
            refine opsA_agree (n := H.next) (fun f args K hK => ?_) k1 l _ _ _ (by have := c2.next; show H.next < H1.next + 1; omega) k3
            exact (ora_later hK).symm
          · refine Fr.trans (H' := { H1 with next := H1.next + 1, log := L.names ++ H.log }) ⟨by have := c2.next; show H.next ≤ H1.next + 1; omega, c2.bd.bump _ _ (Nat.le_succ _), hH1, c2.keep, fun b hb' => c2.dom b (by omega), fun b h1 h2 => c2.fresh b h1 (by omega)⟩ k4 (Nat.le_refl _)
      split at h
      · rename_i hg
        exact go _ (wanted_none hg) h fun v L1 h => h
      · rename_i j want hg
        split at h
        · rename_i d hd
          rcases h.h with ⟨h1, h2⟩ | ⟨h1, h2⟩
          · exact go _ (wanted_yes hg hd h1) h2 fun v L1 h => h
          · obtain ⟨call, τ', H', L', k1, k2, k3, k4, k5⟩ := sq_sound l (putA τ o.dst undefA) L K h2 hnd'.2 H hb hs (fun j hj => hfr j (by simp [hj])) hbase
            refine ⟨call, τ', H', L', k1, k2, ?_, k4, k5⟩
            unfold opsA stepA
            simp only [ho, wanted_no hg hd h1]
            exact k3
        · exact h.elim
/-- a region whose order is that of the text -/
theorem ARun.region {id : Nat} {τ : List AV} {L : SH} {Q : Ex → List AV → SH → Prop} (fit : Fit P F) (h : W.sq P F ops (List.range ops.size) τ L fun τ' L' => Q .normal τ' L') : ARun P (.region id ops false) τ L Q := fun H hb hs => by
  obtain ⟨call, τ', H', L', k1, k2, k3, k4, k5⟩ := sq_sound (base := H.next) (List.range ops.size) τ L _ h List.nodup_range { H with next := H.next + ops.size } (hb.bump _ _ (Nat.le_add_right _ _)) (hs.congr fun _ => rfl)
    (fun i hi => ⟨Nat.add_lt_add_left (List.mem_range.1 hi) _, hb _ (Nat.le_add_right _ _)⟩) (Nat.le_add_right _ _)
  have hr : regionA P F call ops false τ H = some (τ', H') := by simp only [regionA, Bool.false_eq_true, if_false]; exact k3
  exact ⟨.normal, τ', H', L', region_sound fit k1 hr, ⟨Nat.le_trans (Nat.le_add_right _ _) k4.next, k4.bd, k4.sub, k4.keep, k4.dom, k4.fresh⟩, k5⟩
end
end Go.Proofs.Ytdaejmkoenhbkaa.Am
