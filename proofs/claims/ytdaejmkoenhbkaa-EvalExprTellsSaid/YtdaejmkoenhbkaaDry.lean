/- AM, part 20: the run in the order of the text, block by block and temporary by temporary. -/
import Derived.Test.YtdaejmkoenhbkaaFrm
namespace Go.Proofs.Ytdaejmkoenhbkaa.Am
set_option linter.unusedVariables false
/-- the temporaries that an operation names -/
def namesA (ops : Array Oper) (o : Oper) : List Tmp :=
  o.dst.toList ++ (usesA o.op).filterMap (fun | .tmp t => some t | _ => none) ++ (match o.guard with | none => [] | some (j, _) => ((ops[j]?).bind (·.dst)).toList)
/-- two operations of which one writes a temporary that the other one names are ordered by edges -/
def StatOk (ops : Array Oper) : Prop := ∀ (i j : Nat) (oi oj : Oper), j < i → ops[i]? = some oi → ops[j]? = some oj →
  ((masks ops.toList []).getD i 0).testBit j = true ∨ ((∀ t, oj.dst = some t → t ∉ namesA ops oi) ∧ (∀ t, oi.dst = some t → t ∉ namesA ops oj))
def wr (ops : Array Oper) (t : Tmp) (i : Nat) : Bool := match ops[i]? with | some o => o.dst == some t | none => false
def touchB (r : Option Rec) (c : Nat) : Bool := match r with
  | none => false
  | some x => x.writes.contains c || x.made.contains c || (x.isCall && decide (x.lo ≤ c) && decide (c < x.hi))
theorem touchB_iff {r : Option Rec} {c : Nat} : touchB r c = true ↔ touched r c := by
  cases r with
  | none => simp [touchB, touched]
  | some x => simp [touchB, touched, or_assoc, and_assoc]
def callB (r : Option Rec) : Bool := match r with | none => false | some x => x.isCall
section
variable {P : Program} {F : TypeId → Option (List TypeId)} {call : FuncId → List AV → Heap → Option (AV × Heap)} {ops : Array Oper} {base : Nat} {τ0 : List AV} {H0 : Heap}

theorem draw_val {i mask : Nat} {τ τ' : List AV} {H H' : Heap} {r : Option Rec} (h : drawStep P F call ops base i mask τ H = some (τ', H', r)) : ∃ o v, ops[i]? = some o ∧ τ' = putA τ o.dst v := by
  unfold drawStep at h
  split at h
  · cases h
  · rename_i o ho
    refine ⟨o, ?_⟩
    repeat' (first | (cases h; exact ⟨_, ho, rfl⟩) | (cases h; done) | split at h)
/-- facts of the run -/
structure RunFacts (P : Program) (F : TypeId → Option (List TypeId)) (call : FuncId → List AV → Heap → Option (AV × Heap)) (ops : Array Oper) (base : Nat) (τ0 : List AV) (H0 : Heap) : Prop where
  bd : ∀ i, i ≤ ops.size → Bd (itS P F call ops base τ0 H0 i).2
  le : ∀ i, i ≤ ops.size → H0.next ≤ (itS P F call ops base τ0 H0 i).2.next
  fresh : ∀ i j, i ≤ j → j < ops.size → (itS P F call ops base τ0 H0 i).2.get (base + j) = none
  len : ∀ i, i ≤ ops.size → (itS P F call ops base τ0 H0 i).1.length = τ0.length
  chg : ∀ i, i < ops.size → DStep base i (itS P F call ops base τ0 H0 i).2 (itS P F call ops base τ0 H0 (i + 1)).2 (itR P F call ops base τ0 H0 i)
theorem run_facts (hch : ∀ f args H v H', Bd H → call f args H = some (v, H') → Chg H H') (run : RunOk P F call ops base τ0 H0) (hbd : Bd H0) (hn : base + ops.size = H0.next) (hfr : ∀ j, j < ops.size → H0.get (base + j) = none) : RunFacts P F call ops base τ0 H0 := by
  have key : ∀ i, i ≤ ops.size → Bd (itS P F call ops base τ0 H0 i).2 ∧ H0.next ≤ (itS P F call ops base τ0 H0 i).2.next ∧ (∀ j, i ≤ j → j < ops.size → (itS P F call ops base τ0 H0 i).2.get (base + j) = none) ∧ (itS P F call ops base τ0 H0 i).1.length = τ0.length := by
    intro i
    induction i with
    | zero => intro _; exact ⟨hbd, Nat.le_refl _, fun j _ hj => hfr j hj, rfl⟩
    | succ i ih =>
      intro hi
      obtain ⟨a1, a2, a3, a4⟩ := ih (by omega)
      have hst := run.step i (by omega)
      have d := drawStep_chg hch a1 (by omega) hst
      obtain ⟨o, v, _, hv⟩ := draw_val hst
      refine ⟨d.bd a1, Nat.le_trans a2 d.next, fun j h1 h2 => d.dom _ (by omega) (by omega) (a3 j (by omega) h2), ?_⟩
      rw [hv, ← a4]
      cases o.dst <;> simp [putA]
  exact ⟨fun i hi => (key i hi).1, fun i hi => (key i hi).2.1, fun i j h1 h2 => (key i (by omega)).2.2.1 j h1 h2, fun i hi => (key i hi).2.2.2, fun i hi => drawStep_chg hch (key i (by omega)).1 (by have := (key i (by omega)).2.1; omega) (run.step i hi)⟩

def tget (P : Program) (F : TypeId → Option (List TypeId)) (call : FuncId → List AV → Heap → Option (AV × Heap)) (ops : Array Oper) (base : Nat) (τ0 : List AV) (H0 : Heap) (L : Nat → Bool) (t : Tmp) : Option AV :=
  match lastW (fun j => L j && wr ops t j) ops.size with
  | some j => (itS P F call ops base τ0 H0 (j + 1)).1[t]?
  | none => τ0[t]?
def hget (P : Program) (F : TypeId → Option (List TypeId)) (call : FuncId → List AV → Heap → Option (AV × Heap)) (ops : Array Oper) (base : Nat) (τ0 : List AV) (H0 : Heap) (L : Nat → Bool) (c : Nat) : Option Blk :=
  match lastW (fun j => L j && touchB (itR P F call ops base τ0 H0 j) c) ops.size with
  | some j => (itS P F call ops base τ0 H0 (j + 1)).2.get c
  | none => H0.get c
def nget (P : Program) (F : TypeId → Option (List TypeId)) (call : FuncId → List AV → Heap → Option (AV × Heap)) (ops : Array Oper) (base : Nat) (τ0 : List AV) (H0 : Heap) (L : Nat → Bool) : Nat :=
  match lastW (fun j => L j && callB (itR P F call ops base τ0 H0 j)) ops.size with
  | some j => (itS P F call ops base τ0 H0 (j + 1)).2.next
  | none => H0.next
theorem put_get {τ : List AV} {d : Option Tmp} {v : AV} {t : Tmp} (h : (d == some t) = false) : (putA τ d v)[t]? = τ[t]? := by
  cases d with
  | none => rfl
  | some d =>
    have : d ≠ t := by simpa using h
    simp only [putA, List.getElem?_set]
    rw [if_neg this]
theorem text_t (run : RunOk P F call ops base τ0 H0) (t : Tmp) : ∀ k, k ≤ ops.size → (itS P F call ops base τ0 H0 k).1[t]? = match lastW (wr ops t) k with | some j => (itS P F call ops base τ0 H0 (j + 1)).1[t]? | none => τ0[t]?
  | 0, _ => rfl
  | k + 1, hk => by
    unfold lastW
    cases hw : wr ops t k with
    | true => simp
    | false =>
      simp only [Bool.false_eq_true, if_false]
      rw [← text_t run t k (by omega)]
      obtain ⟨o, v, ho, hv⟩ := draw_val (run.step k (by omega))
      rw [hv]
      simp only [wr, ho] at hw
      exact put_get hw
theorem text_h (run : RunOk P F call ops base τ0 H0) (rf : RunFacts P F call ops base τ0 H0) (c : Nat) : ∀ k, k ≤ ops.size → (itS P F call ops base τ0 H0 k).2.get c = match lastW (fun j => touchB (itR P F call ops base τ0 H0 j) c) k with | some j => (itS P F call ops base τ0 H0 (j + 1)).2.get c | none => H0.get c
  | 0, _ => rfl
  | k + 1, hk => by
    unfold lastW
    cases hw : touchB (itR P F call ops base τ0 H0 k) c with
    | true => simp
    | false =>
      simp only [Bool.false_eq_true, if_false]
      rw [← text_h run rf c k (by omega)]
      exact (rf.chg k (by omega)).keep (rf.bd k (by omega)) c (fun ht => by rw [touchB_iff.2 ht] at hw; cases hw)
theorem drawStep_next {i mask : Nat} {τ τ' : List AV} {H H' : Heap} {r : Option Rec} (h : drawStep P F call ops base i mask τ H = some (τ', H', r)) (hc : callB r = false) : H'.next = H.next := by
  unfold drawStep at h
  split at h
  · cases h
  · split at h
    · split at h
      · rename_i hop; cases h; have := aop_next hop; exact this
      · split at h
        · cases h; simp [callB] at hc
        · cases h
      · cases h
    · cases h; rfl
    · cases h
theorem text_n (run : RunOk P F call ops base τ0 H0) : ∀ k, k ≤ ops.size → (itS P F call ops base τ0 H0 k).2.next = match lastW (fun j => callB (itR P F call ops base τ0 H0 j)) k with | some j => (itS P F call ops base τ0 H0 (j + 1)).2.next | none => H0.next
  | 0, _ => rfl
  | k + 1, hk => by
    unfold lastW
    cases hw : callB (itR P F call ops base τ0 H0 k) with
    | true => simp
    | false =>
      simp only [Bool.false_eq_true, if_false]
      rw [← text_n run k (by omega)]
      exact drawStep_next (run.step k (by omega)) hw
/-- a set of operations that have been done, and one that comes next -/
structure Next (ops : Array Oper) (L : Nat → Bool) (i : Nat) : Prop where
  lt : i < ops.size
  not : L i = false
  closed : Closed ops L
  edges : ∀ (o : Oper), ops[i]? = some o → ∀ e ∈ o.after.toList, Region.binds .any e = true → L e.on = true
theorem Next.before {L : Nat → Bool} {i : Nat} (h : Next ops L i) {j : Nat} (hb : ((masks ops.toList []).getD i 0).testBit j = true) : L j = true :=
  h.closed.ahead i _ (Array.getElem?_eq_getElem h.lt) (h.edges _ (Array.getElem?_eq_getElem h.lt)) j hb
theorem Next.behind {L : Nat → Bool} {i : Nat} (h : Next ops L i) {j : Nat} (hj : j < ops.size) (hb : ((masks ops.toList []).getD j 0).testBit i = true) : L j = false := by
  cases hL : L j with
  | false => rfl
  | true =>
    have := h.closed.ahead j _ (Array.getElem?_eq_getElem hj) (h.closed j _ (Array.getElem?_eq_getElem hj) hL) i hb
    rw [h.not] at this; cases this
theorem agree_t (run : RunOk P F call ops base τ0 H0) (hst : StatOk ops) {L : Nat → Bool} {i : Nat} (nx : Next ops L i) {o : Oper} (ho : ops[i]? = some o) {t : Tmp} (ht : t ∈ namesA ops o) :
    tget P F call ops base τ0 H0 L t = (itS P F call ops base τ0 H0 i).1[t]? := by
  have hord : ∀ j, j < ops.size → j ≠ i → wr ops t j = true → (j < i → L j = true) ∧ (i < j → L j = false) := fun j hj hne hw => by
    have hoj : ops[j]? = some ops[j] := Array.getElem?_eq_getElem hj
    simp only [wr, hoj] at hw
    have hd : (ops[j]).dst = some t := by simpa using hw
    refine ⟨fun hlt => ?_, fun hlt => ?_⟩
    · rcases hst i j o _ hlt ho hoj with h1 | ⟨h1, _⟩
      · exact nx.before h1
      · exact absurd ht (h1 t hd)
    · rcases hst j i _ o hlt hoj ho with h1 | ⟨_, h1⟩
      · exact nx.behind hj h1
      · exact absurd ht (h1 t hd)
  rw [text_t run t i (by have := nx.lt; omega), tget, lastW_agree nx.lt nx.not hord]
end
end Go.Proofs.Ytdaejmkoenhbkaa.Am
