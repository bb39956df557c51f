/- AM, part 22: a region whose order is drawn: what holds behind each operation. -/
import Derived.Test.YtdaejmkoenhbkaaDrz
namespace Go.Proofs.Ytdaejmkoenhbkaa.Am
set_option linter.unusedVariables false
def addL (L : Nat → Bool) (i : Nat) : Nat → Bool := fun j => if j = i then true else L j
theorem lastW_lt {p : Nat → Bool} : ∀ {k j : Nat}, lastW p k = some j → j < k
  | 0, j, h => by cases h
  | k + 1, j, h => by
    unfold lastW at h
    split at h
    · cases h; omega
    · have := lastW_lt h; omega
/-- a heap K with the blocks of a list as they are in H -/
def overA (H : Heap) : List Nat → Heap → Heap
  | [], K => K
  | c :: l, K => overA H l { K with tr := K.tr.set c (H.get c) }
theorem over_next (H : Heap) : ∀ (l : List Nat) (K : Heap), (overA H l K).next = K.next
  | [], K => rfl
  | c :: l, K => by rw [overA, over_next H l]
theorem over_get (H : Heap) : ∀ (l : List Nat) (K : Heap) (c : Nat), (overA H l K).get c = if c ∈ l then H.get c else K.get c
  | [], K, c => by simp [overA]
  | d :: l, K, c => by
    rw [overA, over_get H l]
    by_cases h1 : c ∈ l
    · rw [if_pos h1, if_pos (by simp [h1])]
    · rw [if_neg h1]
      show (K.tr.set d (H.get d)).get c = _
      rw [Tr.get_set]
      by_cases h2 : d = c
      · subst h2; rw [if_pos rfl, if_pos (by simp)]
      · rw [if_neg h2, if_neg (by simp [h1]; exact fun e => h2 e.symm)]; rfl
section
variable {P : Program} {F : TypeId → Option (List TypeId)} {call : FuncId → List AV → Heap → Option (AV × Heap)} {ops : Array Oper} {base : Nat} {τ0 : List AV} {H0 : Heap}
def Inv (P : Program) (F : TypeId → Option (List TypeId)) (call : FuncId → List AV → Heap → Option (AV × Heap)) (ops : Array Oper) (base : Nat) (τ0 : List AV) (H0 : Heap) (w0 : World) (σ0 : Sig) (L : Nat → Bool) (a : Act) (w : World) : Prop :=
  ∃ σ K, WRel w σ K ∧ (∀ c, K.get c = hget P F call ops base τ0 H0 L c) ∧ K.next = nget P F call ops base τ0 H0 L ∧ a.tmps.size = τ0.length ∧ a.defers = [] ∧ (∀ t x u, tget P F call ops base τ0 H0 L t = some x → a.tmps[t]? = some u → Rep w σ (Own σ K) x u) ∧
    Ext w0 σ0 (Own σ0 H0) w σ (Own σ K) ∧ (∀ c pl, σ c = some pl → σ0 c = some pl ∨ base ≤ c) ∧ (∀ i, i < ops.size → L i = false → σ (base + i) = none)
def tl (P : Program) (F : TypeId → Option (List TypeId)) (call : FuncId → List AV → Heap → Option (AV × Heap)) (ops : Array Oper) (base : Nat) (τ0 : List AV) (H0 : Heap) (L : Nat → Bool) : List AV :=
  (List.range τ0.length).map fun t => (tget P F call ops base τ0 H0 L t).getD undefA
theorem tget_len (rf : RunFacts P F call ops base τ0 H0) (L : Nat → Bool) (t : Tmp) : (t < τ0.length → ∃ x, tget P F call ops base τ0 H0 L t = some x) ∧ (τ0.length ≤ t → tget P F call ops base τ0 H0 L t = none) := by
  unfold tget
  split
  · rename_i j hj
    have hl := rf.len (j + 1) (lastW_lt hj)
    exact ⟨fun ht => ⟨_, List.getElem?_eq_getElem (by rw [hl]; exact ht)⟩, fun ht => List.getElem?_eq_none (by rw [hl]; exact ht)⟩
  · exact ⟨fun ht => ⟨_, List.getElem?_eq_getElem ht⟩, fun ht => List.getElem?_eq_none ht⟩
theorem tl_get (rf : RunFacts P F call ops base τ0 H0) (L : Nat → Bool) (t : Tmp) : (tl P F call ops base τ0 H0 L)[t]? = tget P F call ops base τ0 H0 L t := by
  unfold tl
  rw [List.getElem?_map]
  rcases Nat.lt_or_ge t τ0.length with h | h
  · rw [List.getElem?_range h]
    obtain ⟨x, hx⟩ := (tget_len rf L t).1 h
    simp [hx]
  · rw [List.getElem?_eq_none (by simpa using h), (tget_len rf L t).2 h]; rfl
theorem tl_ok (rf : RunFacts P F call ops base τ0 H0) {L : Nat → Bool} {a : Act} {w : World} {σ : Sig} {T : Nat → Prop} (h1 : a.tmps.size = τ0.length) (h2 : a.defers = []) (h3 : ∀ t x u, tget P F call ops base τ0 H0 L t = some x → a.tmps[t]? = some u → Rep w σ T x u) :
    TmpsOk w σ T (tl P F call ops base τ0 H0 L) a :=
  ⟨⟨by simp [tl, h1], fun t x u hx hu => h3 t x u (by rw [← tl_get rf]; exact hx) (by rw [← Array.getElem?_toList]; exact hu)⟩, h2⟩
theorem getD_of {l m : List AV} {t : Nat} (h : l[t]? = m[t]?) : l.getD t undefA = m.getD t undefA := by simp [List.getD, h]
theorem same_ops (run : RunOk P F call ops base τ0 H0) (rf : RunFacts P F call ops base τ0 H0) (hst : StatOk ops) {L : Nat → Bool} {i : Nat} (nx : Next ops L i) {o : Oper} (ho : ops[i]? = some o) :
    (∀ x ∈ usesA o.op, aev (itS P F call ops base τ0 H0 i).1 x = aev (tl P F call ops base τ0 H0 L) x) ∧ wantedA ops o (tl P F call ops base τ0 H0 L) = wantedA ops o (itS P F call ops base τ0 H0 i).1 := by
  have ht : ∀ t ∈ namesA ops o, (tl P F call ops base τ0 H0 L)[t]? = (itS P F call ops base τ0 H0 i).1[t]? := fun t h => by rw [tl_get rf, agree_t run hst nx ho h]
  refine ⟨fun x hx => ?_, ?_⟩
  · cases x with
    | tmp t => exact (getD_of (ht t (by
        simp only [namesA, List.mem_append]
        exact .inl (.inr (List.mem_filterMap.2 ⟨.tmp t, hx, rfl⟩))))).symm
    | const v => rfl
    | global g => rfl
    | func f => rfl
  · unfold wantedA
    cases hg : o.guard with
    | none => rfl
    | some q =>
      obtain ⟨j, want⟩ := q
      simp only []
      cases hd : (ops[j]?).bind (·.dst) with
      | none => rfl
      | some d =>
        simp only []
        rw [ht d (by simp only [namesA, List.mem_append, hg, hd]; right; simp)]
/-- the temporaries behind operation i -/
theorem inv_tmps (run : RunOk P F call ops base τ0 H0) (rf : RunFacts P F call ops base τ0 H0) (hst : StatOk ops) {L : Nat → Bool} {i : Nat} (nx : Next ops L i) {o : Oper} (ho : ops[i]? = some o) {v : AV} {v' : Value} {a : Act} {w w' : World} {σ σ' : Sig} {T T' : Nat → Prop}
    (hv : (itS P F call ops base τ0 H0 (i + 1)).1 = putA (itS P F call ops base τ0 H0 i).1 o.dst v) (hr : Rep w' σ' T' v v') (h1 : a.tmps.size = τ0.length) (h3 : ∀ t x u, tget P F call ops base τ0 H0 L t = some x → a.tmps[t]? = some u → Rep w σ T x u) (hE : ∀ x u, Rep w σ T x u → Rep w' σ' T' x u) :
    (a.put o.dst v').tmps.size = τ0.length ∧ ∀ t x u, tget P F call ops base τ0 H0 (addL L i) t = some x → (a.put o.dst v').tmps[t]? = some u → Rep w' σ' T' x u := by
  refine ⟨by cases o.dst <;> simp [Act.put, h1], fun t x u hx hu => ?_⟩
  by_cases hw : wr ops t i = true
  · have hd : o.dst = some t := by simpa [wr, ho] using hw
    have hl : lastW (fun j => addL L i j && wr ops t j) ops.size = some i := by
      refine lastW_add nx.lt nx.not hw fun j hj hne hwj hlt => ?_
      have hoj : ops[j]? = some ops[j] := Array.getElem?_eq_getElem hj
      have hdj : (ops[j]).dst = some t := by simpa [wr, hoj] using hwj
      rcases hst j i _ o hlt hoj ho with h4 | ⟨h4, _⟩
      · exact nx.behind hj h4
      · exact absurd (by simp [namesA, hdj]) (h4 t hd)
    unfold tget at hx
    rw [hl] at hx
    simp only [hv, hd, putA, List.getElem?_set] at hx
    simp only [hd, Act.put, Array.getElem?_setIfInBounds] at hu
    simp only [if_true] at hx hu
    split at hx
    · split at hu
      · cases hx; cases hu; exact hr
      · cases hu
    · cases hx
  · have hw' : wr ops t i = false := by simpa using hw
    have hd : (o.dst == some t) = false := by simpa [wr, ho] using hw'
    have hl : lastW (fun j => addL L i j && wr ops t j) ops.size = lastW (fun j => L j && wr ops t j) ops.size := lastW_skip hw'
    have hx' : tget P F call ops base τ0 H0 L t = some x := by unfold tget at hx ⊢; rw [hl] at hx; exact hx
    refine hE x u (h3 t x u hx' ?_)
    rw [← hu]
    cases hdd : o.dst with
    | none => rfl
    | some d =>
      have : d ≠ t := by rw [hdd] at hd; simpa using hd
      simp [Act.put, this]
end
end Go.Proofs.Ytdaejmkoenhbkaa.Am
