/- A part of the proof; the statement is proved in the last part. -/
import Derived.Test.YtadjimfkfmojkaaQ8a
set_option linter.unusedSimpArgs false
set_option linter.unusedVariables false
section
namespace Go.Proofs.Ytadjimfkfmojkaa.Am
set_option linter.unusedVariables false
section
variable (P : Program) (F : TypeId → Option (List TypeId)) (call : FuncId → List AV → Heap → Option (AV × Heap)) (ops : Array Oper) (base : Nat) (τ0 : List AV) (H0 : Heap)
def itS : Nat → List AV × Heap
  | 0 => (τ0, H0)
  | i + 1 => match drawStep P F call ops base i ((masks ops.toList []).getD i 0) (itS i).1 (itS i).2 with
    | some (τ, H, _) => (τ, H)
    | none => itS i
def itR (i : Nat) : Option Rec :=
  match drawStep P F call ops base i ((masks ops.toList []).getD i 0) (itS P F call ops base τ0 H0 i).1 (itS P F call ops base τ0 H0 i).2 with
  | some (_, _, r) => r
  | none => none
structure RunOk : Prop where
  step : ∀ i, i < ops.size → drawStep P F call ops base i ((masks ops.toList []).getD i 0) (itS P F call ops base τ0 H0 i).1 (itS P F call ops base τ0 H0 i).2 =
    some ((itS P F call ops base τ0 H0 (i + 1)).1, (itS P F call ops base τ0 H0 (i + 1)).2, itR P F call ops base τ0 H0 i)
  free : ∀ i j x r, j < i → i < ops.size → itR P F call ops base τ0 H0 j = some x → itR P F call ops base τ0 H0 i = some r → ((masks ops.toList []).getD i 0).testBit j = true ∨ meets x r = false
end
section
variable {P : Program} {F : TypeId → Option (List TypeId)} {call : FuncId → List AV → Heap → Option (AV × Heap)} {ops : Array Oper} {base : Nat} {τ0 : List AV} {H0 : Heap}
theorem drawStep_op {i mask : Nat} {τ τ' : List AV} {H H' : Heap} {x : Rec} (h : drawStep P F call ops base i mask τ H = some (τ', H', some x)) : x.op = i := by
  unfold drawStep at h
  repeat' (first | (cases h; rfl) | (cases h; done) | split at h)
theorem run_ok : ∀ (m k : Nat) (rs rs' : List Rec) (τ' : List AV) (K : Heap),
    drawA P F call ops base (masks ops.toList []) (List.range' k m) (itS P F call ops base τ0 H0 k).1 (itS P F call ops base τ0 H0 k).2 rs = some (τ', K, rs') → (∀ j x, j < k → itR P F call ops base τ0 H0 j = some x → x ∈ rs ∧ x.op = j) →
    (∀ i, k ≤ i → i < k + m → drawStep P F call ops base i ((masks ops.toList []).getD i 0) (itS P F call ops base τ0 H0 i).1 (itS P F call ops base τ0 H0 i).2 =
      some ((itS P F call ops base τ0 H0 (i + 1)).1, (itS P F call ops base τ0 H0 (i + 1)).2, itR P F call ops base τ0 H0 i)) ∧
    (∀ i j x r, k ≤ i → i < k + m → j < i → itR P F call ops base τ0 H0 j = some x → itR P F call ops base τ0 H0 i = some r → ((masks ops.toList []).getD i 0).testBit j = true ∨ meets x r = false) ∧
    (τ', K) = itS P F call ops base τ0 H0 (k + m)
  | 0, k, rs, rs', τ', K, h, _ => by
    simp only [List.range'_zero, drawA, Option.some.injEq, Prod.mk.injEq] at h
    obtain ⟨rfl, rfl, rfl⟩ := h
    exact ⟨fun i h1 h2 => by omega, fun i j x r h1 h2 => by omega, rfl⟩
  | m + 1, k, rs, rs', τ', K, h, hrs => by
    rw [List.range'_succ] at h
    unfold drawA at h
    cases hd : drawStep P F call ops base k ((masks ops.toList []).getD k 0) (itS P F call ops base τ0 H0 k).1 (itS P F call ops base τ0 H0 k).2 with
    | none => rw [hd] at h; cases h
    | some q =>
      obtain ⟨τ1, H1, r⟩ := q
      rw [hd] at h
      have e1 : itS P F call ops base τ0 H0 (k + 1) = (τ1, H1) := by rw [itS, hd]
      have e2 : itR P F call ops base τ0 H0 k = r := by rw [itR, hd]
      have next : ∀ rs2, drawA P F call ops base (masks ops.toList []) (List.range' (k + 1) m) τ1 H1 rs2 = some (τ', K, rs') → (∀ x, r = some x → x ∈ rs2) → (∀ x ∈ rs, x ∈ rs2) →
          (∀ j x, j < k → itR P F call ops base τ0 H0 j = some x → ∀ y, r = some y → ((masks ops.toList []).getD k 0).testBit j = true ∨ meets x y = false) → _ := fun rs2 h2 hr2 hsub hfree => by
        obtain ⟨a1, a2, a3⟩ := run_ok m (k + 1) rs2 rs' τ' K (by rw [e1]; exact h2) (fun j x hj hx => by
          rcases Nat.eq_or_lt_of_le (Nat.le_of_lt_succ hj) with rfl | hlt
          · rw [e2] at hx
            refine ⟨hr2 x hx, ?_⟩
            rw [hx] at hd
            exact drawStep_op hd
          · obtain ⟨b1, b2⟩ := hrs j x hlt hx
            exact ⟨hsub x b1, b2⟩)
        refine (⟨fun i h1 h2 => ?_, fun i j x y h1 h2 hji hx hy => ?_, by rw [a3]; congr 1; omega⟩ : (∀ i, k ≤ i → i < k + (m + 1) → drawStep P F call ops base i ((masks ops.toList []).getD i 0) (itS P F call ops base τ0 H0 i).1 (itS P F call ops base τ0 H0 i).2 =
          some ((itS P F call ops base τ0 H0 (i + 1)).1, (itS P F call ops base τ0 H0 (i + 1)).2, itR P F call ops base τ0 H0 i)) ∧
          (∀ i j x r, k ≤ i → i < k + (m + 1) → j < i → itR P F call ops base τ0 H0 j = some x → itR P F call ops base τ0 H0 i = some r → ((masks ops.toList []).getD i 0).testBit j = true ∨ meets x r = false) ∧
          (τ', K) = itS P F call ops base τ0 H0 (k + (m + 1)))
        · rcases Nat.eq_or_lt_of_le h1 with rfl | hlt
          · rw [hd, e1, e2]
          · exact a1 i hlt (by omega)
        · rcases Nat.eq_or_lt_of_le h1 with rfl | hlt
          · rw [e2] at hy; exact hfree j x hji hx y hy
          · exact a2 i j x y hlt (by omega) hji hx hy
      cases r with
      | none => exact next rs h (by simp) (fun x hx => hx) (by simp)
      | some y =>
        simp only [] at h
        split at h
        · rename_i hall
          refine next (y :: rs) h (by simp) (fun x hx => by simp [hx]) (fun j x hj hx y' hy' => ?_)
          cases hy'
          rw [List.all_eq_true] at hall
          obtain ⟨b1, b2⟩ := hrs j x hj hx
          have := hall x b1
          rw [b2] at this
          simpa using this
        · cases h
end
end Go.Proofs.Ytadjimfkfmojkaa.Am

end
section
namespace Go.Proofs.Ytadjimfkfmojkaa.Am
set_option linter.unusedVariables false
theorem Rep.sig {w : World} {σ σ' : Sig} {T : Nat → Prop} (hm : σ'.map = σ.map) {a : AV} {v : Value} (h : Rep w σ T a v) : Rep w σ' T a v := by
  have e : ∀ {b pl}, σ.map b = some pl → σ'.map b = some pl := fun hb => by rw [hm]; exact hb
  induction h with
  | int k n => exact .int k n
  | bool b => exact .bool b
  | str s => exact .str s
  | nilp => exact .nilp
  | ptr b i off pl h => exact .ptr b i off pl (e h)
  | pptr rows i off b o sz hl h ih => exact .pptr rows i off b o sz hl ih
  | nils => exact .nils
  | emp a => exact .emp a
  | sl b i n pl a cap h hn hm' ha => exact .sl b i n pl a cap (e h) hn hm' ha
  | lst0 a cap hm' => exact .lst0 a cap hm'
  | lst rows b o sz cap hl hn hm' h ih => exact .lst rows b o sz cap hl hn hm' ih
  | agg cs vs hl h ih => exact .agg cs vs hl ih
  | tup cs vs hl h ih => exact .tup cs vs hl ih
  | fn f cs vs hl h ih => exact .fn f cs vs hl ih
  | nilf => exact .nilf
  | junk v => exact .junk v
theorem Held.sig {w : World} {σ σ' : Sig} {T : Nat → Prop} (hm : σ'.map = σ.map) {x : Blk} {pl : Place} {cs : Array Value} {e : TypeId} (h : Held w σ T x pl cs e) : Held w σ' T x pl cs e :=
  ⟨h.size, h.block, h.even, h.room, fun i r j a u h1 h2 h3 => (h.rep i r j a u h1 h2 h3).sig hm⟩
/-- what a call sees of the owner's map: all that it does not see belongs to somebody else -/
def Sig.part (σ : Sig) (K Hc : Heap) : Sig := ⟨σ.map, fun c => Own σ K c ∧ ¬ Tok σ Hc c⟩
section
variable {w w' : World} {σ σ' : Sig} {K Hc H1 K' : Heap}
theorem Tok.sub (hsub : ∀ c x, Hc.get c = some x → K.get c = some x) {d : Nat} (h : Tok σ Hc d) : Tok σ K d := by
  obtain ⟨b, x, pl, h1, h2, h3⟩ := h
  exact ⟨b, x, pl, hsub b x h1, h2, h3⟩
theorem own_part (hsub : ∀ c x, Hc.get c = some x → K.get c = some x) : Own (σ.part K Hc) Hc = Own σ K := by
  funext d
  apply propext
  constructor
  · rintro (h | h)
    · exact h.1
    · exact .inr (Tok.sub hsub h)
  · intro h
    by_cases ht : Tok σ Hc d
    · exact .inr ht
    · exact .inl ⟨h, ht⟩
theorem WRel.part (hW : WRel w σ K) (hsub : ∀ c x, Hc.get c = some x → K.get c = some x) (hn : K.next ≤ Hc.next) : WRel w (σ.part K Hc) Hc := by
  refine ⟨fun b pl hb => Nat.lt_of_lt_of_le (hW.named b pl hb) hn, hW.lt, fun b x hb => ?_, fun c hc => ⟨?_, hc.2⟩, fun b b' x x' pl pl' h1 h2 h3 h4 h5 => hW.inj b b' x x' pl pl' (hsub _ _ h1) (hsub _ _ h2) h3 h4 h5⟩
  · obtain ⟨pl, cs, e, h1, h2⟩ := hW.live b x (hsub b x hb)
    rw [own_part hsub]
    exact ⟨pl, cs, e, h1, Held.sig (σ := σ) (σ' := σ.part K Hc) rfl h2⟩
  · rcases hc.1 with h | ⟨b, x, pl, h1, h2, rfl⟩
    · exact (hW.apart c h).1
    · exact hW.lt b pl h2
theorem WRel.whole (hW : WRel w σ K) (hsub : ∀ c x, Hc.get c = some x → K.get c = some x) (hn : Hc.next = K.next) (hW1 : WRel w' σ' H1) (hE : Ext w (σ.part K Hc) (Own (σ.part K Hc) Hc) w' σ' (Own σ' H1))
    (hdom : ∀ c, c < Hc.next → Hc.get c = none → H1.get c = none) (hK' : ∀ c, K'.get c = if Hc.get c = none ∧ c < K.next then K.get c else H1.get c) (hn' : H1.next ≤ K'.next) :
    WRel w' ⟨σ'.map, σ.fr⟩ K' ∧ Ext w σ (Own σ K) w' ⟨σ'.map, σ.fr⟩ (Own ⟨σ'.map, σ.fr⟩ K') ∧ Own ⟨σ'.map, σ.fr⟩ K' = Own σ' H1 := by
  have hfr : ∀ c, σ'.fr c ↔ (Own σ K c ∧ ¬ Tok σ Hc c) := fun c => by rw [hE.eqfr]; exact Iff.rfl
  have hmap : ∀ b pl, σ.map b = some pl → σ'.map b = some pl := fun b pl h => hE.sig b pl h
  -- a block of the rest
  have rest : ∀ b x, Hc.get b = none → K.get b = some x → ∃ pl, σ.map b = some pl ∧ σ'.fr pl.block := fun b x h0 hx => by
    obtain ⟨pl, cs, e, h1, h2⟩ := hW.live b x hx
    refine ⟨pl, h1, (hfr _).2 ⟨.inr ⟨b, x, pl, hx, h1, rfl⟩, ?_⟩⟩
    rintro ⟨b2, x2, pl2, g1, g2, g3⟩
    have := hW.inj b2 b x2 x pl2 pl (hsub _ _ g1) hx g2 h1 g3
    subst this
    rw [h0] at g1; cases g1
  have get' : ∀ b x, K'.get b = some x → (Hc.get b = none ∧ b < K.next ∧ K.get b = some x) ∨ H1.get b = some x := fun b x hx => by
    rw [hK'] at hx
    split at hx
    · rename_i hc; exact .inl ⟨hc.1, hc.2, hx⟩
    · exact .inr hx
  have frK : ∀ c, σ.fr c → σ'.fr c := fun c hc => (hfr c).2 ⟨.inl hc, fun ht => (hW.apart c hc).2 (Tok.sub hsub ht)⟩
  have howns : Own ⟨σ'.map, σ.fr⟩ K' = Own σ' H1 := by
    funext d
    apply propext
    constructor
    · rintro (h | ⟨b, x, pl, h1, h2, rfl⟩)
      · exact .inl (frK d h)
      · rcases get' b x h1 with ⟨g1, g2, g3⟩ | g1
        · obtain ⟨pl0, e1, e2⟩ := rest b x g1 g3
          have h2' : σ'.map b = some pl := h2
          rw [hmap b pl0 e1] at h2'
          cases h2'
          exact .inl e2
        · exact .inr ⟨b, x, pl, g1, h2, rfl⟩
    · rintro (h | ⟨b, x, pl, h1, h2, rfl⟩)
      · obtain ⟨h3, h4⟩ := (hfr d).1 h
        rcases h3 with h3 | ⟨b, x, pl, g1, g2, g3⟩
        · exact .inl h3
        · have h0 : Hc.get b = none := by
            cases hg : Hc.get b with
            | none => rfl
            | some y => exact absurd ⟨b, y, pl, hg, g2, g3⟩ h4
          exact .inr ⟨b, x, pl, by rw [hK', if_pos ⟨h0, hW.named b pl g2⟩]; exact g1, hmap b pl g2, g3⟩
      · refine .inr ⟨b, x, pl, ?_, h2, rfl⟩
        rw [hK', if_neg]
        · exact h1
        · rintro ⟨h3, h4⟩
          rw [hdom b (by omega) h3] at h1; cases h1
  have hE2 : Ext w σ (Own σ K) w' ⟨σ'.map, σ.fr⟩ (Own ⟨σ'.map, σ.fr⟩ K') := by
    rw [howns]
    have ho := own_part (σ := σ) hsub
    exact ⟨hE.os, hE.tape, hE.output, hE.size, fun c hc hT => hE.keep c hc (by rw [ho]; exact hT), hE.shape, hmap, rfl, fun c hc => hE.frame c ((hfr c).1 (frK c hc)), fun c hc => by have := hE.own c hc; rwa [ho] at this⟩
  refine ⟨⟨fun b pl hb => Nat.lt_of_lt_of_le (hW1.named b pl hb) hn', hW1.lt, fun b x hx => ?_, fun c hc => ⟨?_, ?_⟩, ?_⟩, hE2, howns⟩
  · rcases get' b x hx with ⟨g1, g2, g3⟩ | g1
    · obtain ⟨pl, cs, e, h1, h2⟩ := hW.live b x g3
      obtain ⟨pl0, e1, e2⟩ := rest b x g1 g3
      have h1' : σ.map b = some pl := h1
      rw [e1] at h1'
      cases h1'
      refine ⟨pl, cs, e, hmap b pl e1, ?_⟩
      exact h2.mono hE2 (hE.frame _ ((hfr _).1 e2))
    · obtain ⟨pl, cs, e, h1, h2⟩ := hW1.live b x g1
      rw [howns]
      exact ⟨pl, cs, e, h1, Held.sig (σ := σ') (σ' := ⟨σ'.map, σ.fr⟩) rfl h2⟩
  · have := (hW.apart c hc).1
    have := hE.size
    omega
  · rintro ⟨b, x, pl, h1, h2, h3⟩
    rcases get' b x h1 with ⟨g1, g2, g3⟩ | g1
    · obtain ⟨pl0, e1, e2⟩ := rest b x g1 g3
      have h2' : σ'.map b = some pl := h2
      rw [hmap b pl0 e1] at h2'
      cases h2'
      exact (hW.apart c hc).2 ⟨b, x, pl, g3, e1, h3⟩
    · exact (hW1.apart c (frK c hc)).2 ⟨b, x, pl, g1, h2, h3⟩
  · intro b b' x x' pl pl' h1 h2 h3 h4 h5
    have h3' : σ'.map b = some pl := h3
    have h4' : σ'.map b' = some pl' := h4
    rcases get' b x h1 with ⟨g1, g2, g3⟩ | g1
    · obtain ⟨pl0, e1, e2⟩ := rest b x g1 g3
      rw [hmap b pl0 e1] at h3'
      cases h3'
      rcases get' b' x' h2 with ⟨k1, k2, k3⟩ | k1
      · obtain ⟨pl1, f1, f2⟩ := rest b' x' k1 k3
        rw [hmap b' pl1 f1] at h4'
        cases h4'
        exact hW.inj b b' x x' pl pl' g3 k3 e1 f1 h5
      · exact absurd ⟨b', x', pl', k1, h4, h5.symm⟩ (hW1.apart _ e2).2
    · rcases get' b' x' h2 with ⟨k1, k2, k3⟩ | k1
      · obtain ⟨pl1, f1, f2⟩ := rest b' x' k1 k3
        rw [hmap b' pl1 f1] at h4'
        cases h4'
        exact absurd ⟨b, x, pl, g1, h3, h5⟩ (hW1.apart _ f2).2
      · exact hW1.inj b b' x x' pl pl' g1 k1 h3 h4 h5
end
end Go.Proofs.Ytadjimfkfmojkaa.Am

end
section
namespace Go.Proofs.Ytadjimfkfmojkaa.Am
set_option linter.unusedVariables false
/-- the temporaries that an operation names -/
def namesA (ops : Array Oper) (o : Oper) : List Tmp :=
  o.dst.toList ++ (usesA o.op).filterMap (fun | .tmp t => some t | _ => none) ++ (match o.guard with | none => [] | some (j, _) => ((ops[j]?).bind (·.dst)).toList)
/-- two operations of which one writes a temporary that the other one names are ordered by edges -/
def StatOk (ops : Array Oper) : Prop := ∀ (i j : Nat) (oi oj : Oper), j < i → ops[i]? = some oi → ops[j]? = some oj →
  ((masks ops.toList []).getD i 0).testBit j = true ∨ ((∀ t, oj.dst = some t → t ∉ namesA ops oi) ∧ (∀ t, oi.dst = some t → t ∉ namesA ops oj))
def wr (ops : Array Oper) (t : Tmp) (i : Nat) : Bool := match ops[i]? with | some o => o.dst == some t | none => false
def touchB (r : Option Rec) (c : Nat) : Bool := match r with
  | none => false
  | some x => x.writes.contains c || x.made.contains c || (x.isCall && decide (x.lo ≤ c) && decide (c < x.hi))
theorem touchB_iff {r : Option Rec} {c : Nat} : touchB r c = true ↔ touched r c := by
  cases r with
  | none => simp [touchB, touched]
  | some x => simp [touchB, touched, or_assoc, and_assoc]
def callB (r : Option Rec) : Bool := match r with | none => false | some x => x.isCall
section
variable {P : Program} {F : TypeId → Option (List TypeId)} {call : FuncId → List AV → Heap → Option (AV × Heap)} {ops : Array Oper} {base : Nat} {τ0 : List AV} {H0 : Heap}

theorem draw_val {i mask : Nat} {τ τ' : List AV} {H H' : Heap} {r : Option Rec} (h : drawStep P F call ops base i mask τ H = some (τ', H', r)) : ∃ o v, ops[i]? = some o ∧ τ' = putA τ o.dst v := by
  unfold drawStep at h
  split at h
  · cases h
  · rename_i o ho
    refine ⟨o, ?_⟩
    repeat' (first | (cases h; exact ⟨_, ho, rfl⟩) | (cases h; done) | split at h)
/-- facts of the run -/
structure RunFacts (P : Program) (F : TypeId → Option (List TypeId)) (call : FuncId → List AV → Heap → Option (AV × Heap)) (ops : Array Oper) (base : Nat) (τ0 : List AV) (H0 : Heap) : Prop where
  bd : ∀ i, i ≤ ops.size → Bd (itS P F call ops base τ0 H0 i).2
  le : ∀ i, i ≤ ops.size → H0.next ≤ (itS P F call ops base τ0 H0 i).2.next
  fresh : ∀ i j, i ≤ j → j < ops.size → (itS P F call ops base τ0 H0 i).2.get (base + j) = none
  len : ∀ i, i ≤ ops.size → (itS P F call ops base τ0 H0 i).1.length = τ0.length
  chg : ∀ i, i < ops.size → DStep base i (itS P F call ops base τ0 H0 i).2 (itS P F call ops base τ0 H0 (i + 1)).2 (itR P F call ops base τ0 H0 i)
theorem run_facts (hch : ∀ f args H v H', Bd H → call f args H = some (v, H') → Chg H H') (run : RunOk P F call ops base τ0 H0) (hbd : Bd H0) (hn : base + ops.size = H0.next) (hfr : ∀ j, j < ops.size → H0.get (base + j) = none) : RunFacts P F call ops base τ0 H0 := by
  have key : ∀ i, i ≤ ops.size → Bd (itS P F call ops base τ0 H0 i).2 ∧ H0.next ≤ (itS P F call ops base τ0 H0 i).2.next ∧ (∀ j, i ≤ j → j < ops.size → (itS P F call ops base τ0 H0 i).2.get (base + j) = none) ∧ (itS P F call ops base τ0 H0 i).1.length = τ0.length := by
    intro i
    induction i with
    | zero => intro _; exact ⟨hbd, Nat.le_refl _, fun j _ hj => hfr j hj, rfl⟩
    | succ i ih =>
      intro hi
      obtain ⟨a1, a2, a3, a4⟩ := ih (by omega)
      have hst := run.step i (by omega)
      have d := drawStep_chg hch a1 (by omega) hst
      obtain ⟨o, v, _, hv⟩ := draw_val hst
      refine ⟨d.bd a1, Nat.le_trans a2 d.next, fun j h1 h2 => d.dom _ (by omega) (by omega) (a3 j (by omega) h2), ?_⟩
      rw [hv, ← a4]
      cases o.dst <;> simp [putA]
  exact ⟨fun i hi => (key i hi).1, fun i hi => (key i hi).2.1, fun i j h1 h2 => (key i (by omega)).2.2.1 j h1 h2, fun i hi => (key i hi).2.2.2, fun i hi => drawStep_chg hch (key i (by omega)).1 (by have := (key i (by omega)).2.1; omega) (run.step i hi)⟩

def tget (P : Program) (F : TypeId → Option (List TypeId)) (call : FuncId → List AV → Heap → Option (AV × Heap)) (ops : Array Oper) (base : Nat) (τ0 : List AV) (H0 : Heap) (L : Nat → Bool) (t : Tmp) : Option AV :=
  match lastW (fun j => L j && wr ops t j) ops.size with
  | some j => (itS P F call ops base τ0 H0 (j + 1)).1[t]?
  | none => τ0[t]?
def hget (P : Program) (F : TypeId → Option (List TypeId)) (call : FuncId → List AV → Heap → Option (AV × Heap)) (ops : Array Oper) (base : Nat) (τ0 : List AV) (H0 : Heap) (L : Nat → Bool) (c : Nat) : Option Blk :=
  match lastW (fun j => L j && touchB (itR P F call ops base τ0 H0 j) c) ops.size with
  | some j => (itS P F call ops base τ0 H0 (j + 1)).2.get c
  | none => H0.get c
def nget (P : Program) (F : TypeId → Option (List TypeId)) (call : FuncId → List AV → Heap → Option (AV × Heap)) (ops : Array Oper) (base : Nat) (τ0 : List AV) (H0 : Heap) (L : Nat → Bool) : Nat :=
  match lastW (fun j => L j && callB (itR P F call ops base τ0 H0 j)) ops.size with
  | some j => (itS P F call ops base τ0 H0 (j + 1)).2.next
  | none => H0.next
theorem put_get {τ : List AV} {d : Option Tmp} {v : AV} {t : Tmp} (h : (d == some t) = false) : (putA τ d v)[t]? = τ[t]? := by
  cases d with
  | none => rfl
  | some d =>
    have : d ≠ t := by simpa using h
    simp only [putA, List.getElem?_set]
    rw [if_neg this]
theorem text_t (run : RunOk P F call ops base τ0 H0) (t : Tmp) : ∀ k, k ≤ ops.size → (itS P F call ops base τ0 H0 k).1[t]? = match lastW (wr ops t) k with | some j => (itS P F call ops base τ0 H0 (j + 1)).1[t]? | none => τ0[t]?
  | 0, _ => rfl
  | k + 1, hk => by
    unfold lastW
    cases hw : wr ops t k with
    | true => simp
    | false =>
      simp only [Bool.false_eq_true, if_false]
      rw [← text_t run t k (by omega)]
      obtain ⟨o, v, ho, hv⟩ := draw_val (run.step k (by omega))
      rw [hv]
      simp only [wr, ho] at hw
      exact put_get hw
theorem text_h (run : RunOk P F call ops base τ0 H0) (rf : RunFacts P F call ops base τ0 H0) (c : Nat) : ∀ k, k ≤ ops.size → (itS P F call ops base τ0 H0 k).2.get c = match lastW (fun j => touchB (itR P F call ops base τ0 H0 j) c) k with | some j => (itS P F call ops base τ0 H0 (j + 1)).2.get c | none => H0.get c
  | 0, _ => rfl
  | k + 1, hk => by
    unfold lastW
    cases hw : touchB (itR P F call ops base τ0 H0 k) c with
    | true => simp
    | false =>
      simp only [Bool.false_eq_true, if_false]
      rw [← text_h run rf c k (by omega)]
      exact (rf.chg k (by omega)).keep (rf.bd k (by omega)) c (fun ht => by rw [touchB_iff.2 ht] at hw; cases hw)
theorem drawStep_next {i mask : Nat} {τ τ' : List AV} {H H' : Heap} {r : Option Rec} (h : drawStep P F call ops base i mask τ H = some (τ', H', r)) (hc : callB r = false) : H'.next = H.next := by
  unfold drawStep at h
  split at h
  · cases h
  · split at h
    · split at h
      · rename_i hop; cases h; have := aop_next hop; exact this
      · split at h
        · cases h; simp [callB] at hc
        · cases h
      · cases h
    · cases h; rfl
    · cases h
theorem text_n (run : RunOk P F call ops base τ0 H0) : ∀ k, k ≤ ops.size → (itS P F call ops base τ0 H0 k).2.next = match lastW (fun j => callB (itR P F call ops base τ0 H0 j)) k with | some j => (itS P F call ops base τ0 H0 (j + 1)).2.next | none => H0.next
  | 0, _ => rfl
  | k + 1, hk => by
    unfold lastW
    cases hw : callB (itR P F call ops base τ0 H0 k) with
    | true => simp
    | false =>
      simp only [Bool.false_eq_true, if_false]
      rw [← text_n run k (by omega)]
      exact drawStep_next (run.step k (by omega)) hw
/-- a set of operations that have been done, and one that comes next -/
structure Next (ops : Array Oper) (L : Nat → Bool) (i : Nat) : Prop where
  lt : i < ops.size
  not : L i = false
  closed : Closed ops L
  edges : ∀ (o : Oper), ops[i]? = some o → ∀ e ∈ o.after.toList, Region.binds .any e = true → L e.on = true
theorem Next.before {L : Nat → Bool} {i : Nat} (h : Next ops L i) {j : Nat} (hb : ((masks ops.toList []).getD i 0).testBit j = true) : L j = true :=
  h.closed.ahead i _ (Array.getElem?_eq_getElem h.lt) (h.edges _ (Array.getElem?_eq_getElem h.lt)) j hb
theorem Next.behind {L : Nat → Bool} {i : Nat} (h : Next ops L i) {j : Nat} (hj : j < ops.size) (hb : ((masks ops.toList []).getD j 0).testBit i = true) : L j = false := by
  cases hL : L j with
  | false => rfl
  | true =>
    have := h.closed.ahead j _ (Array.getElem?_eq_getElem hj) (h.closed j _ (Array.getElem?_eq_getElem hj) hL) i hb
    rw [h.not] at this; cases this
theorem agree_t (run : RunOk P F call ops base τ0 H0) (hst : StatOk ops) {L : Nat → Bool} {i : Nat} (nx : Next ops L i) {o : Oper} (ho : ops[i]? = some o) {t : Tmp} (ht : t ∈ namesA ops o) :
    tget P F call ops base τ0 H0 L t = (itS P F call ops base τ0 H0 i).1[t]? := by
  have hord : ∀ j, j < ops.size → j ≠ i → wr ops t j = true → (j < i → L j = true) ∧ (i < j → L j = false) := fun j hj hne hw => by
    have hoj : ops[j]? = some ops[j] := Array.getElem?_eq_getElem hj
    simp only [wr, hoj] at hw
    have hd : (ops[j]).dst = some t := by simpa using hw
    refine ⟨fun hlt => ?_, fun hlt => ?_⟩
    · rcases hst i j o _ hlt ho hoj with h1 | ⟨h1, _⟩
      · exact nx.before h1
      · exact absurd ht (h1 t hd)
    · rcases hst j i _ o hlt hoj ho with h1 | ⟨_, h1⟩
      · exact nx.behind hj h1
      · exact absurd ht (h1 t hd)
  rw [text_t run t i (by have := nx.lt; omega), tget, lastW_agree nx.lt nx.not hord]
end
end Go.Proofs.Ytadjimfkfmojkaa.Am

end
section
namespace Go.Proofs.Ytadjimfkfmojkaa.Am
set_option linter.unusedVariables false
theorem apart_not {l m : List Nat} (h : apart l m = true) {x : Nat} (hx : x ∈ l) : x ∉ m := by
  unfold apart at h
  rw [List.all_eq_true] at h
  have := h x hx
  simpa using this
structure Free (x y : Rec) : Prop where
  wr : ∀ c ∈ x.writes, c ∉ y.reads
  ww : ∀ c ∈ x.writes, c ∉ y.writes
  rw : ∀ c ∈ x.reads, c ∉ y.writes
  mr : ∀ c ∈ x.made, c ∉ y.reads
  mw : ∀ c ∈ x.made, c ∉ y.writes
  cc : x.isCall = true → y.isCall = false
  cw : x.isCall = true → ∀ c, c ∉ y.writes
  cr : x.isCall = true → ∀ c ∈ y.reads, ¬ (x.lo ≤ c ∧ c < x.hi)
  wc : y.isCall = true → ∀ c, c ∉ x.writes
theorem meets_free {x y : Rec} (h : meets x y = false) : Free x y := by
  unfold meets at h
  simp only [Bool.or_eq_false_iff, Bool.not_eq_false', Bool.and_eq_true, Bool.and_eq_false_iff] at h
  obtain ⟨⟨⟨⟨⟨⟨h1, h2⟩, h3⟩, h4⟩, h5⟩, h6⟩, h7⟩ := h
  refine ⟨fun c hc => apart_not h1 hc, fun c hc => apart_not h2 hc, fun c hc => apart_not h3 hc, fun c hc => apart_not h4 hc, fun c hc => apart_not h5 hc, fun hx => ?_, fun hx c hc => ?_, fun hx c hc hr => ?_, fun hy c hc => ?_⟩
  · rcases h6 with h6 | ⟨⟨h6, _⟩, _⟩
    · rw [hx] at h6; cases h6
    · exact h6
  · rcases h6 with h6 | ⟨⟨_, h6⟩, _⟩
    · rw [hx] at h6; cases h6
    · simp at h6; rw [h6] at hc; simp at hc
  · rcases h6 with h6 | ⟨_, h6⟩
    · rw [hx] at h6; cases h6
    · rw [List.any_eq_false] at h6
      exact h6 c hc (by simpa using hr)
  · rcases h7 with h7 | h7
    · rw [hy] at h7; cases h7
    · simp at h7; rw [h7] at hc; simp at hc
section
variable {P : Program} {F : TypeId → Option (List TypeId)} {call : FuncId → List AV → Heap → Option (AV × Heap)} {ops : Array Oper} {base : Nat} {τ0 : List AV} {H0 : Heap}
theorem next_mono (rf : RunFacts P F call ops base τ0 H0) {i : Nat} : ∀ {j : Nat}, i ≤ j → j ≤ ops.size → (itS P F call ops base τ0 H0 i).2.next ≤ (itS P F call ops base τ0 H0 j).2.next
  | 0, h1, _ => by rw [show i = 0 by omega]; exact Nat.le_refl _
  | j + 1, h1, h2 => by
    rcases Nat.eq_or_lt_of_le h1 with rfl | hlt
    · exact Nat.le_refl _
    · exact Nat.le_trans (next_mono rf (show i ≤ j by omega) (by omega)) (rf.chg j (by omega)).next
/-- a later operation that touches a block that lives at operation i -/
theorem later (run : RunOk P F call ops base τ0 H0) (rf : RunFacts P F call ops base τ0 H0) {i j c : Nat} {r y : Rec} {b : Blk} (hij : i < j) (hj : j < ops.size) (hi : itR P F call ops base τ0 H0 i = some r) (hy : itR P F call ops base τ0 H0 j = some y) (ht : touched (itR P F call ops base τ0 H0 j) c)
    (hl : (itS P F call ops base τ0 H0 i).2.get c = some b) : ((masks ops.toList []).getD j 0).testBit i = true ∨ (Free r y ∧ (c ∈ y.writes ∨ (y.isCall = true ∧ False))) := by
  rcases run.free j i r y hij hj hi hy with h1 | h1
  · exact .inl h1
  · right
    refine ⟨meets_free h1, ?_⟩
    obtain ⟨x, hx, ht⟩ := ht
    rw [hy] at hx
    cases hx
    rcases ht with ht | ht | ⟨t1, t2, _⟩
    · exact .inl ht
    · have := ((rf.chg j hj).made y hy).1 c ht
      subst this
      rw [rf.fresh i j (by omega) hj] at hl; cases hl
    · have h2 := ((rf.chg j hj).made y hy).2 t1
      have h3 := next_mono rf (show i ≤ j by omega) (by omega)
      rw [rf.bd i (by omega) c (by omega)] at hl; cases hl
theorem agree_h (run : RunOk P F call ops base τ0 H0) (rf : RunFacts P F call ops base τ0 H0) {L : Nat → Bool} {i : Nat} (nx : Next ops L i) {c : Nat}
    (hord : ∀ j, j < ops.size → j ≠ i → touched (itR P F call ops base τ0 H0 j) c → (j < i → ((masks ops.toList []).getD i 0).testBit j = true) ∧ (i < j → ((masks ops.toList []).getD j 0).testBit i = true)) :
    hget P F call ops base τ0 H0 L c = (itS P F call ops base τ0 H0 i).2.get c := by
  rw [text_h run rf c i (by have := nx.lt; omega), hget, lastW_agree (p := fun j => touchB (itR P F call ops base τ0 H0 j) c) nx.lt nx.not]
  intro j hj hne ht
  obtain ⟨h1, h2⟩ := hord j hj hne (touchB_iff.1 ht)
  exact ⟨fun hlt => nx.before (h1 hlt), fun hlt => nx.behind hj (h2 hlt)⟩
theorem ord_read (run : RunOk P F call ops base τ0 H0) (rf : RunFacts P F call ops base τ0 H0) {i c : Nat} {r : Rec} {b : Blk} (hi : i < ops.size) (hr : itR P F call ops base τ0 H0 i = some r) (hc : c ∈ r.reads) (hl : (itS P F call ops base τ0 H0 i).2.get c = some b) :
    ∀ j, j < ops.size → j ≠ i → touched (itR P F call ops base τ0 H0 j) c → (j < i → ((masks ops.toList []).getD i 0).testBit j = true) ∧ (i < j → ((masks ops.toList []).getD j 0).testBit i = true) := by
  intro j hj hne ht
  obtain ⟨x, hx, ht'⟩ := ht
  refine ⟨fun hlt => ?_, fun hlt => ?_⟩
  · rcases run.free i j x r hlt hi hx hr with h1 | h1
    · exact h1
    · exfalso
      have fr := meets_free h1
      rcases ht' with t | t | ⟨t1, t2, t3⟩
      · exact fr.wr c t hc
      · exact fr.mr c t hc
      · exact fr.cr t1 c hc ⟨t2, t3⟩
  · rcases later run rf hlt hj hr hx ⟨x, hx, ht'⟩ hl with h1 | ⟨h1, h2 | ⟨_, h2⟩⟩
    · exact h1
    · exact absurd h2 (h1.rw c hc)
    · exact h2.elim
theorem reads_alive {o : Op} {ρ : Operand → AV} {b c : Nat} {v : AV} {H H' : Heap} (h : aop P F o ρ b H = some (.val v H')) (hc : c ∈ readsA o ρ) : ∃ x, H.get c = some x := by
  cases o with
  | load t a =>
    simp only [aop] at h
    obtain ⟨h1, _⟩ := vOpt h
    simp only [readsA] at hc
    generalize ρ a = y at h1 hc
    cases y <;> simp [blocksOf] at hc <;> simp [loadA] at h1
    subst hc
    cases hg : H.get _ with
    | none => rw [hg] at h1; simp at h1
    | some x => exact ⟨x, rfl⟩
  | store t a x =>
    simp only [aop] at h
    cases hst : storeA P H t (ρ a) (ρ x) with
    | none => rw [hst] at h; cases h
    | some K =>
      simp only [readsA] at hc
      unfold storeA at hst
      split at hst
      · rename_i d i off cs n ha hcs hn
        rw [ha] at hc
        simp [blocksOf] at hc
        subst hc
        split at hst
        · rename_i y hy; exact ⟨y, hy⟩
        · cases hst
      · cases hst
  | indexAddr t x ix =>
    simp only [aop] at h
    obtain ⟨h1, _⟩ := vOpt h
    simp only [readsA] at hc
    generalize ρ x = y at h1 hc
    cases y <;> simp [slOf] at hc
    subst hc
    cases hg : H.get c with
    | some x => exact ⟨x, rfl⟩
    | none =>
      exfalso
      simp only [indexAddrA, szOf, hg, Option.map_none, Option.isSome_none, Bool.false_eq_true, false_and, and_false, if_false] at h1
      split at h1
      · split at h1
        · cases h1
        · split at h1 <;> simp_all
      · cases h1
  | slice t x lo hi mx =>
    simp only [aop] at h
    split at h
    · cases h
    · obtain ⟨h1, _⟩ := vOpt h
      simp only [readsA] at hc
      generalize ρ x = y at h1 hc
      cases y <;> simp [slOf] at hc
      subst hc
      cases hg : H.get c with
      | some x => exact ⟨x, rfl⟩
      | none =>
        exfalso
        simp only [sliceA, szOf, hg, Option.map_none, Option.isSome_none, Bool.false_eq_true, false_and, if_false] at h1
        split at h1
        · split at h1
          · split at h1 <;> cases h1
          · cases h1
        · cases h1
        · cases h1
  | call k =>
    simp only [readsA] at hc
    split at hc
    · rename_i hk
      simp only [aop, hk] at h
      cases hbi : builtinA P H b .append k.argTypes (k.args.toList.map ρ) with
      | none => rw [hbi] at h; cases h
      | some q =>
        unfold builtinA at hbi
        split at hbi
        · rename_i e _; cases e
        · rename_i _ e _; cases e
        · rename_i s x e heq
          obtain ⟨a0, a1, hargs, h0, h1⟩ := map_two heq
          rw [hargs] at hc
          simp only [List.flatMap_cons, List.flatMap_nil, List.append_nil, h0, h1, List.mem_append] at hc
          split at hbi
          · split at hbi
            · unfold appendA at hbi
              split at hbi
              · split at hbi
                · split at hbi
                  · rename_i l m hl hm
                    have aux : ∀ {y : AV} {q n}, rowsOf H n y = some q → c ∈ blocksOf y → ∃ x, H.get c = some x := fun {y} {q} {n} hy hcy => by
                      cases y <;> simp [blocksOf] at hcy <;> simp [rowsOf] at hy
                      subst hcy
                      split at hy
                      · rename_i x hx; exact ⟨x, hx⟩
                      · cases hy
                    rcases hc with hc | hc
                    · exact aux hl hc
                    · exact aux hm hc
                  · cases hbi
                · cases hbi
              · cases hbi
            · cases hbi
          · cases hbi
        · rename_i e _; cases e
        · rename_i e _; cases e
        · rename_i e _; cases e
        · cases hbi
    · rename_i hk
      simp only [aop, hk] at h
      cases hbi : builtinA P H b .clear k.argTypes (k.args.toList.map ρ) with
      | none => rw [hbi] at h; cases h
      | some q =>
        unfold builtinA at hbi
        split at hbi
        · rename_i e _; cases e
        · rename_i _ e _; cases e
        · rename_i e _; cases e
        · rename_i e _; cases e
        · rename_i e _; cases e
        · rename_i x e heq
          obtain ⟨a0, hargs, h0⟩ := map_one heq
          rw [hargs] at hc
          simp only [List.flatMap_cons, List.flatMap_nil, List.append_nil, h0] at hc
          split at hbi
          · rw [Option.map_eq_some_iff] at hbi
            obtain ⟨K1, hk1, _⟩ := hbi
            unfold clearA at hk1
            split at hk1
            · split at hk1
              · split at hk1
                · simp [blocksOf] at hc
                · simp [blocksOf] at hc
                  subst hc
                  split at hk1
                  · rename_i y hy; exact ⟨y, hy⟩
                  · cases hk1
                · cases hk1
              · cases hk1
            · cases hk1
          · cases hbi
        · cases hbi
    · simp at hc
  | _ => simp [readsA] at hc
theorem writes_reads {o : Op} {ρ : Operand → AV} {c : Nat} (hc : c ∈ writesA o ρ) : c ∈ readsA o ρ := by
  cases o with
  | store t a x => exact hc
  | call k =>
    simp only [writesA] at hc
    simp only [readsA]
    split at hc
    · rename_i hk
      rw [List.mem_flatMap] at hc ⊢
      obtain ⟨x, h1, h2⟩ := hc
      exact ⟨x, List.mem_of_mem_take h1, h2⟩
    · exact hc
    · simp at hc
  | _ => simp [writesA] at hc
end
end Go.Proofs.Ytadjimfkfmojkaa.Am

end
section
namespace Go.Proofs.Ytadjimfkfmojkaa.Am
set_option linter.unusedVariables false
def addL (L : Nat → Bool) (i : Nat) : Nat → Bool := fun j => if j = i then true else L j
theorem lastW_lt {p : Nat → Bool} : ∀ {k j : Nat}, lastW p k = some j → j < k
  | 0, j, h => by cases h
  | k + 1, j, h => by
    unfold lastW at h
    split at h
    · cases h; omega
    · have := lastW_lt h; omega
/-- a heap K with the blocks of a list as they are in H -/
def overA (H : Heap) : List Nat → Heap → Heap
  | [], K => K
  | c :: l, K => overA H l { K with tr := K.tr.set c (H.get c) }
theorem over_get (H : Heap) : ∀ (l : List Nat) (K : Heap) (c : Nat), (overA H l K).get c = if c ∈ l then H.get c else K.get c
  | [], K, c => by simp [overA]
  | d :: l, K, c => by
    rw [overA, over_get H l]
    by_cases h1 : c ∈ l
    · rw [if_pos h1, if_pos (by simp [h1])]
    · rw [if_neg h1]
      show (K.tr.set d (H.get d)).get c = _
      rw [Tr.get_set]
      by_cases h2 : d = c
      · subst h2; rw [if_pos rfl, if_pos (by simp)]
      · rw [if_neg h2, if_neg (by simp [h1]; exact fun e => h2 e.symm)]; rfl
section
variable {P : Program} {F : TypeId → Option (List TypeId)} {call : FuncId → List AV → Heap → Option (AV × Heap)} {ops : Array Oper} {base : Nat} {τ0 : List AV} {H0 : Heap}
def Inv (P : Program) (F : TypeId → Option (List TypeId)) (call : FuncId → List AV → Heap → Option (AV × Heap)) (ops : Array Oper) (base : Nat) (τ0 : List AV) (H0 : Heap) (w0 : World) (σ0 : Sig) (L : Nat → Bool) (a : Act) (w : World) : Prop :=
  ∃ σ K, WRel w σ K ∧ (∀ c, K.get c = hget P F call ops base τ0 H0 L c) ∧ K.next = nget P F call ops base τ0 H0 L ∧ a.tmps.size = τ0.length ∧ a.defers = [] ∧ (∀ t x u, tget P F call ops base τ0 H0 L t = some x → a.tmps[t]? = some u → Rep w σ (Own σ K) x u) ∧
    Ext w0 σ0 (Own σ0 H0) w σ (Own σ K) ∧ (∀ c pl, σ c = some pl → σ0 c = some pl ∨ base ≤ c) ∧ (∀ i, i < ops.size → L i = false → σ (base + i) = none)
def tl (P : Program) (F : TypeId → Option (List TypeId)) (call : FuncId → List AV → Heap → Option (AV × Heap)) (ops : Array Oper) (base : Nat) (τ0 : List AV) (H0 : Heap) (L : Nat → Bool) : List AV :=
  (List.range τ0.length).map fun t => (tget P F call ops base τ0 H0 L t).getD undefA
theorem tget_len (rf : RunFacts P F call ops base τ0 H0) (L : Nat → Bool) (t : Tmp) : (t < τ0.length → ∃ x, tget P F call ops base τ0 H0 L t = some x) ∧ (τ0.length ≤ t → tget P F call ops base τ0 H0 L t = none) := by
  unfold tget
  split
  · rename_i j hj
    have hl := rf.len (j + 1) (lastW_lt hj)
    exact ⟨fun ht => ⟨_, List.getElem?_eq_getElem (by rw [hl]; exact ht)⟩, fun ht => List.getElem?_eq_none (by rw [hl]; exact ht)⟩
  · exact ⟨fun ht => ⟨_, List.getElem?_eq_getElem ht⟩, fun ht => List.getElem?_eq_none ht⟩
theorem tl_get (rf : RunFacts P F call ops base τ0 H0) (L : Nat → Bool) (t : Tmp) : (tl P F call ops base τ0 H0 L)[t]? = tget P F call ops base τ0 H0 L t := by
  unfold tl
  rw [List.getElem?_map]
  rcases Nat.lt_or_ge t τ0.length with h | h
  · rw [List.getElem?_range h]
    obtain ⟨x, hx⟩ := (tget_len rf L t).1 h
    simp [hx]
  · rw [List.getElem?_eq_none (by simpa using h), (tget_len rf L t).2 h]; rfl
theorem tl_ok (rf : RunFacts P F call ops base τ0 H0) {L : Nat → Bool} {a : Act} {w : World} {σ : Sig} {T : Nat → Prop} (h1 : a.tmps.size = τ0.length) (h2 : a.defers = []) (h3 : ∀ t x u, tget P F call ops base τ0 H0 L t = some x → a.tmps[t]? = some u → Rep w σ T x u) :
    TmpsOk w σ T (tl P F call ops base τ0 H0 L) a :=
  ⟨⟨by simp [tl, h1], fun t x u hx hu => h3 t x u (by rw [← tl_get rf]; exact hx) (by rw [← Array.getElem?_toList]; exact hu)⟩, h2⟩
theorem getD_of {l m : List AV} {t : Nat} (h : l[t]? = m[t]?) : l.getD t undefA = m.getD t undefA := by simp [List.getD, h]
theorem same_ops (run : RunOk P F call ops base τ0 H0) (rf : RunFacts P F call ops base τ0 H0) (hst : StatOk ops) {L : Nat → Bool} {i : Nat} (nx : Next ops L i) {o : Oper} (ho : ops[i]? = some o) :
    (∀ x ∈ usesA o.op, aev (itS P F call ops base τ0 H0 i).1 x = aev (tl P F call ops base τ0 H0 L) x) ∧ wantedA ops o (tl P F call ops base τ0 H0 L) = wantedA ops o (itS P F call ops base τ0 H0 i).1 := by
  have ht : ∀ t ∈ namesA ops o, (tl P F call ops base τ0 H0 L)[t]? = (itS P F call ops base τ0 H0 i).1[t]? := fun t h => by rw [tl_get rf, agree_t run hst nx ho h]
  refine ⟨fun x hx => ?_, ?_⟩
  · cases x with
    | tmp t => exact (getD_of (ht t (by
        simp only [namesA, List.mem_append]
        exact .inl (.inr (List.mem_filterMap.2 ⟨.tmp t, hx, rfl⟩))))).symm
    | const v => rfl
    | global g => rfl
    | func f => rfl
  · unfold wantedA
    cases hg : o.guard with
    | none => rfl
    | some q =>
      obtain ⟨j, want⟩ := q
      simp only []
      cases hd : (ops[j]?).bind (·.dst) with
      | none => rfl
      | some d =>
        simp only []
        rw [ht d (by simp only [namesA, List.mem_append, hg, hd]; right; simp)]
/-- the temporaries behind operation i -/
theorem inv_tmps (run : RunOk P F call ops base τ0 H0) (rf : RunFacts P F call ops base τ0 H0) (hst : StatOk ops) {L : Nat → Bool} {i : Nat} (nx : Next ops L i) {o : Oper} (ho : ops[i]? = some o) {v : AV} {v' : Value} {a : Act} {w w' : World} {σ σ' : Sig} {T T' : Nat → Prop}
    (hv : (itS P F call ops base τ0 H0 (i + 1)).1 = putA (itS P F call ops base τ0 H0 i).1 o.dst v) (hr : Rep w' σ' T' v v') (h1 : a.tmps.size = τ0.length) (h3 : ∀ t x u, tget P F call ops base τ0 H0 L t = some x → a.tmps[t]? = some u → Rep w σ T x u) (hE : ∀ x u, Rep w σ T x u → Rep w' σ' T' x u) :
    (a.put o.dst v').tmps.size = τ0.length ∧ ∀ t x u, tget P F call ops base τ0 H0 (addL L i) t = some x → (a.put o.dst v').tmps[t]? = some u → Rep w' σ' T' x u := by
  refine ⟨by cases o.dst <;> simp [Act.put, h1], fun t x u hx hu => ?_⟩
  by_cases hw : wr ops t i = true
  · have hd : o.dst = some t := by simpa [wr, ho] using hw
    have hl : lastW (fun j => addL L i j && wr ops t j) ops.size = some i := by
      refine lastW_add nx.lt nx.not hw fun j hj hne hwj hlt => ?_
      have hoj : ops[j]? = some ops[j] := Array.getElem?_eq_getElem hj
      have hdj : (ops[j]).dst = some t := by simpa [wr, hoj] using hwj
      rcases hst j i _ o hlt hoj ho with h4 | ⟨h4, _⟩
      · exact nx.behind hj h4
      · exact absurd (by simp [namesA, hdj]) (h4 t hd)
    unfold tget at hx
    rw [hl] at hx
    simp only [hv, hd, putA, List.getElem?_set] at hx
    simp only [hd, Act.put, Array.getElem?_setIfInBounds] at hu
    simp only [if_true] at hx hu
    split at hx
    · split at hu
      · cases hx; cases hu; exact hr
      · cases hu
    · cases hx
  · have hw' : wr ops t i = false := by simpa using hw
    have hd : (o.dst == some t) = false := by simpa [wr, ho] using hw'
    have hl : lastW (fun j => addL L i j && wr ops t j) ops.size = lastW (fun j => L j && wr ops t j) ops.size := lastW_skip hw'
    have hx' : tget P F call ops base τ0 H0 L t = some x := by unfold tget at hx ⊢; rw [hl] at hx; exact hx
    refine hE x u (h3 t x u hx' ?_)
    rw [← hu]
    cases hdd : o.dst with
    | none => rfl
    | some d =>
      have : d ≠ t := by rw [hdd] at hd; simpa using hd
      simp [Act.put, this]
end
end Go.Proofs.Ytadjimfkfmojkaa.Am

end
section
namespace Go.Proofs.Ytadjimfkfmojkaa.Am
set_option linter.unusedVariables false
section
variable {P : Program} {F : TypeId → Option (List TypeId)} {call : FuncId → List AV → Heap → Option (AV × Heap)} {ops : Array Oper} {base : Nat} {τ0 : List AV} {H0 : Heap}
theorem nget_ge (rf : RunFacts P F call ops base τ0 H0) (L : Nat → Bool) : H0.next ≤ nget P F call ops base τ0 H0 L := by
  unfold nget
  split
  · rename_i j hj; exact rf.le (j + 1) (lastW_lt hj)
  · exact Nat.le_refl _
theorem hget_skip {L : Nat → Bool} {i c : Nat} (h : touchB (itR P F call ops base τ0 H0 i) c = false) : hget P F call ops base τ0 H0 (addL L i) c = hget P F call ops base τ0 H0 L c := by
  have hl : lastW (fun j => addL L i j && touchB (itR P F call ops base τ0 H0 j) c) ops.size = lastW (fun j => L j && touchB (itR P F call ops base τ0 H0 j) c) ops.size := lastW_skip (p := fun j => touchB (itR P F call ops base τ0 H0 j) c) h
  unfold hget
  rw [hl]
theorem hget_add {L : Nat → Bool} {i c : Nat} (nx : Next ops L i) (h : touchB (itR P F call ops base τ0 H0 i) c = true) (hl : ∀ j, j < ops.size → j ≠ i → touched (itR P F call ops base τ0 H0 j) c → i < j → ((masks ops.toList []).getD j 0).testBit i = true) : hget P F call ops base τ0 H0 (addL L i) c = (itS P F call ops base τ0 H0 (i + 1)).2.get c := by
  have hw : lastW (fun j => addL L i j && touchB (itR P F call ops base τ0 H0 j) c) ops.size = some i := lastW_add (p := fun j => touchB (itR P F call ops base τ0 H0 j) c) nx.lt nx.not h fun j hj hne ht hlt => nx.behind hj (hl j hj hne (touchB_iff.1 ht) hlt)
  unfold hget
  rw [hw]
theorem inv_step (fit : Fit P F) (hs : Sound P call) (hch : ∀ f args H v H', Bd H → call f args H = some (v, H') → Chg H H') (run : RunOk P F call ops base τ0 H0) (rf : RunFacts P F call ops base τ0 H0) (hst : StatOk ops) (hb : base + ops.size = H0.next)
    {w0 : World} {σ0 : Sig} {L : Nat → Bool} {i : Nat} {a : Act} {w : World} (nx : Next ops L i) (h : Inv P F call ops base τ0 H0 w0 σ0 L a w) {Q : Exit → Act → World → Prop} : wpOp P ops Q i (Inv P F call ops base τ0 H0 w0 σ0 (addL L i)) a w := by
  obtain ⟨σ, K, hW, hK, hn, hsz, hdf, hrep, hE0, hnm, hfr⟩ := h
  have hi := nx.lt
  obtain ⟨o, ho⟩ : ∃ o, ops[i]? = some o := ⟨_, Array.getElem?_eq_getElem hi⟩
  obtain ⟨hu, hwt⟩ := same_ops run rf hst nx ho
  have htm := tl_ok rf hsz hdf hrep
  have hbi : σ (base + i) = none := hfr i hi nx.not
  have hKb : K.get (base + i) = none := by
    cases hg : K.get (base + i) with
    | none => rfl
    | some x => obtain ⟨pl, _, _, h1, _⟩ := hW.live _ x hg; rw [hbi] at h1; cases h1
  have hSb : (itS P F call ops base τ0 H0 i).2.get (base + i) = none := rf.fresh i i (Nat.le_refl _) hi
  have hlt : base + i < K.next := by have := nget_ge rf L; rw [hn]; omega
  have hfresh : ∀ {σ' : Sig}, (∀ c pl, σ' c = some pl → σ c = some pl ∨ c = base + i ∨ K.next ≤ c) → ∀ j, j < ops.size → addL L i j = false → σ' (base + j) = none := fun {σ'} hσ j hj hLj => by
    have hji : j ≠ i := by rintro rfl; simp [addL] at hLj
    have hL : L j = false := by simpa [addL, hji] using hLj
    cases hg : σ' (base + j) with
    | none => rfl
    | some pl =>
      have hge := nget_ge rf L
      rcases hσ _ pl hg with h1 | h1 | h1
      · rw [hfr j hj hL] at h1; cases h1
      · omega
      · omega
  have hstep := run.step i hi
  unfold drawStep at hstep
  rw [ho] at hstep
  simp only [] at hstep
  unfold wpOp
  rw [ho]
  simp only []
  split at hstep
  · rename_i hwant
    rw [← hwt] at hwant
    rw [if_pos (wanted_sound htm hwant)]
    left
    unfold Oper.wp
    split at hstep
    · rename_i v H' hop
      simp only [Option.some.injEq, Prod.mk.injEq] at hstep
      obtain ⟨e1, e2, e3⟩ := hstep
      obtain ⟨q1, q2, q3⟩ := aop_rho (P := P) (F := F) hu (base + i) (itS P F call ops base τ0 H0 i).2
      have hop2 : aop P F o.op (aev (tl P F call ops base τ0 H0 L)) (base + i) (itS P F call ops base τ0 H0 i).2 = some (.val v H') := by rw [← q1]; exact hop
      have hreads : ∀ c, c ∈ readsA o.op (aev (tl P F call ops base τ0 H0 L)) → ∃ x, (itS P F call ops base τ0 H0 i).2.get c = some x ∧ ∀ j, j < ops.size → j ≠ i → touched (itR P F call ops base τ0 H0 j) c → (j < i → ((masks ops.toList []).getD i 0).testBit j = true) ∧ (i < j → ((masks ops.toList []).getD j 0).testBit i = true) := fun c hc => by
        obtain ⟨x, hx⟩ := reads_alive hop2 hc
        exact ⟨x, hx, ord_read run rf hi e3.symm (by show c ∈ readsA o.op (aev (itS P F call ops base τ0 H0 i).1); rw [q2]; exact hc) hx⟩
      have hr : ∀ c ∈ readsA o.op (aev (tl P F call ops base τ0 H0 L)), K.get c = (itS P F call ops base τ0 H0 i).2.get c := fun c hc => by
        obtain ⟨x, _, h1⟩ := hreads c hc
        rw [hK]
        exact agree_h run rf nx h1
      obtain ⟨K', l1, l2, l3⟩ := aop_local hop2 K hr (by rw [hKb, hSb])
      obtain ⟨v', w', σ', h1, h2, h3, h4, h5⟩ := aop_sound fit hW hbi hlt (o := o) htm.eval l1
      have htouch : ∀ c, touchB (itR P F call ops base τ0 H0 i) c = true ↔ (c ∈ writesA o.op (aev (tl P F call ops base τ0 H0 L)) ∨ c = base + i) := fun c => by
        rw [← e3, ← q3]
        simp [touchB]
      have hinv : Inv P F call ops base τ0 H0 w0 σ0 (addL L i) (a.put o.dst v') w' := by
        obtain ⟨t1, t2⟩ := inv_tmps run rf hst nx ho e1.symm h2 hsz hrep (fun x u hxu => hxu.mono h4)
        refine ⟨σ', K', h3, fun c => ?_, ?_, t1, by cases o.dst <;> exact hdf, t2, hE0.trans h4, fun c pl hc => ?_, hfresh (fun c pl hc => ?_)⟩
        · rw [l3]
          cases ht : touchB (itR P F call ops base τ0 H0 i) c with
          | true =>
            have hc := (htouch c).1 ht
            rw [if_pos hc, hget_add nx ht, ← e2]
            · rfl
            · intro j hj hne hjt hlt'
              rcases hc with hc | hc
              · obtain ⟨x, _, h6⟩ := hreads c (writes_reads hc)
                exact (h6 j hj hne hjt).2 hlt'
              · obtain ⟨y, hy, hyt⟩ := hjt
                rcases run.free j i _ y hlt' hj e3.symm hy with h6 | h6
                · exact h6
                · exfalso
                  have fr := meets_free h6
                  rcases hyt with t | t | ⟨t3, t4, _⟩
                  · exact fr.mw c (by simp [hc]) t
                  · have := ((rf.chg j hj).made y hy).1 c t; omega
                  · have := ((rf.chg j hj).made y hy).2 t3
                    have := rf.le j (by omega)
                    omega
          | false =>
            rw [if_neg (fun hc => by rw [(htouch c).2 hc] at ht; cases ht), hget_skip ht, hK]
        · rw [l2, hn]
          have : callB (itR P F call ops base τ0 H0 i) = false := by rw [← e3]; rfl
          have hl : lastW (fun j => addL L i j && callB (itR P F call ops base τ0 H0 j)) ops.size = lastW (fun j => L j && callB (itR P F call ops base τ0 H0 j)) ops.size := lastW_skip (p := fun j => callB (itR P F call ops base τ0 H0 j)) this
          unfold nget
          rw [hl]
        · rcases h5 c pl hc with h6 | h6
          · exact hnm c pl h6
          · exact .inr (by omega)
        · rcases h5 c pl hc with h6 | h6
          · exact .inl h6
          · exact .inr (.inl h6)
      rcases h1 with h1 | ⟨h1, rfl⟩
      · rw [h1]; exact hinv
      · rw [h1]; exact hinv
    · rename_i f args hop
      split at hstep
      · rename_i v H1 hcall
        simp only [Option.some.injEq, Prod.mk.injEq] at hstep
        obtain ⟨e1, e2, e3⟩ := hstep
        obtain ⟨q1, q2, q3⟩ := aop_rho (P := P) (F := F) hu (base + i) (itS P F call ops base τ0 H0 i).2
        have hop2 : aop P F o.op (aev (tl P F call ops base τ0 H0 L)) (base + i) (itS P F call ops base τ0 H0 i).2 = some (.call f args) := by rw [← q1]; exact hop
        have hopK := aop_local_call hop2 K
        obtain ⟨fn, cd, hf, hbd⟩ := hs.body _ _ _ _ _ hcall
        obtain ⟨vs, g1, g2⟩ := aop_call fit (o := o) (b := base + i) htm.eval hopK hf hbd
        have hHg := hide_get base ((masks ops.toList []).getD i 0) i (itS P F call ops base τ0 H0 i).2
        have hHn := (hide_next base ((masks ops.toList []).getD i 0) i (itS P F call ops base τ0 H0 i).2).1
        generalize hHc : hideA base ((masks ops.toList []).getD i 0) i (itS P F call ops base τ0 H0 i).2 = Hh at hcall e3 hHg hHn
        have hbdc : Bd ({ Hh with log := [] } : Heap) := fun d hd => by
          show Hh.get d = none
          rw [hHg]
          split
          · rfl
          · exact rf.bd i (by omega) d (by rw [← hHn]; exact hd)
        have hcg : Chg ({ Hh with log := [] } : Heap) H1 := hch _ _ _ _ _ hbdc hcall
        generalize hHc2 : ({ Hh with log := [] } : Heap) = Hc at hcall hcg hbdc
        have hHg : ∀ c, Hc.get c = if (∃ j, j < i ∧ ((masks ops.toList []).getD i 0).testBit j = false ∧ c = base + j) then none else (itS P F call ops base τ0 H0 i).2.get c := fun c => by rw [← hHc2]; exact hHg c
        have hHn : Hc.next = (itS P F call ops base τ0 H0 i).2.next := by rw [← hHc2]; exact hHn
        have hHh : ∀ c, Hh.get c = Hc.get c := fun c => by rw [← hHc2]; rfl
        have htouch : ∀ c, touchB (itR P F call ops base τ0 H0 i) c = true ↔ ((c ∈ H1.log ∧ (Hc.get c).isSome = true) ∨ ((itS P F call ops base τ0 H0 i).2.next ≤ c ∧ c < H1.next)) := fun c => by
          rw [← e3]
          simp [touchB, hHh]
        have hKn : K.next = (itS P F call ops base τ0 H0 i).2.next := by
          rw [hn, text_n run i (by omega), nget, lastW_agree (p := fun j => callB (itR P F call ops base τ0 H0 j)) hi nx.not]
          intro j hj hne hcj
          cases hx : itR P F call ops base τ0 H0 j with
          | none => rw [hx] at hcj; cases hcj
          | some x =>
            rw [hx] at hcj
            refine ⟨fun hl => ?_, fun hl => ?_⟩
            · rcases run.free i j x _ hl hi hx e3.symm with h6 | h6
              · exact nx.before h6
              · have := (meets_free h6).cc hcj; cases this
            · rcases run.free j i _ x hl hj e3.symm hx with h6 | h6
              · exact nx.behind hj h6
              · have := (meets_free h6).cc rfl
                have h7 : x.isCall = true := hcj
                rw [h7] at this; cases this
        have hsub : ∀ c x, Hc.get c = some x → K.get c = some x := fun c x hx => by
          rw [hHg] at hx
          split at hx
          · cases hx
          · rename_i hnh
            rw [hK, agree_h run rf nx ?_]
            · exact hx
            · intro j hj hne ht
              obtain ⟨y, hy, hyt⟩ := ht
              refine ⟨fun hl => ?_, fun hl => ?_⟩
              · cases hbit : ((masks ops.toList []).getD i 0).testBit j with
                | true => rfl
                | false =>
                  exfalso
                  rcases run.free i j y _ hl hi hy e3.symm with h6 | h6
                  · rw [hbit] at h6; cases h6
                  · have fr := meets_free h6
                    rcases hyt with t | t | ⟨t3, _, _⟩
                    · exact fr.wc rfl c t
                    · exact hnh ⟨j, hl, hbit, ((rf.chg j hj).made y hy).1 c t⟩
                    · have := fr.cc t3; cases this
              · rcases later run rf hl hj e3.symm hy ⟨y, hy, hyt⟩ hx with h6 | ⟨fr, h6 | ⟨_, h6⟩⟩
                · exact h6
                · exact absurd h6 (fr.cw rfl c)
                · exact h6.elim
        have hnK : Hc.next = K.next := by rw [hHn, hKn]
        have hWc := hW.part hsub (by rw [hnK]; exact Nat.le_refl _)
        rw [g1]
        refine (hs.ok _ _ _ _ _ hcall w (σ.part K Hc) vs hWc ⟨g2.1, fun q x u hx hu => by rw [own_part hsub]; exact Rep.sig (σ := σ) (σ' := σ.part K Hc) rfl (g2.2 q x u hx hu)⟩).mono ?_
        rintro e w' ⟨v', σ', rfl, k1, k2, k3, k4⟩
        have hK1 := hcg.next
        obtain ⟨K', hK'n, hK'g⟩ : ∃ K' : Heap, K'.next = H1.next ∧ ∀ c, K'.get c = if touchB (itR P F call ops base τ0 H0 i) c = true then H1.get c else K.get c := by
          refine ⟨{ overA H1 (H1.log.filter (fun c => (Hc.get c).isSome) ++ List.range' K.next (H1.next - K.next)) K with next := H1.next }, rfl, fun c => ?_⟩
          show (overA H1 _ K).get c = _
          rw [over_get]
          have : c ∈ (H1.log.filter (fun c => (Hc.get c).isSome) ++ List.range' K.next (H1.next - K.next)) ↔ touchB (itR P F call ops base τ0 H0 i) c = true := by
            rw [htouch, List.mem_append, List.mem_filter, List.mem_range'_1, hKn]
            constructor
            · rintro (h6 | h6)
              · exact .inl h6
              · exact .inr (by omega)
            · rintro (h6 | h6)
              · exact .inl h6
              · exact .inr (by omega)
          by_cases ht : touchB (itR P F call ops base τ0 H0 i) c = true
          · rw [if_pos (this.2 ht), if_pos ht]
          · rw [if_neg (fun h6 => ht (this.1 h6)), if_neg ht]
        have hbd1 : Bd H1 := hcg.bd hbdc
        have hform : ∀ c, K'.get c = if Hc.get c = none ∧ c < K.next then K.get c else H1.get c := fun c => by
          rw [hK'g]
          by_cases ht : touchB (itR P F call ops base τ0 H0 i) c = true
          · rw [if_pos ht, if_neg]
            rintro ⟨h6, h7⟩
            rcases (htouch c).1 ht with ⟨_, h8⟩ | ⟨h8, _⟩
            · rw [h6] at h8; cases h8
            · omega
          · rw [if_neg ht]
            split
            · rfl
            · rename_i hnn
              cases hg : Hc.get c with
              | some x =>
                have hcl : c ∉ H1.log := fun h6 => ht ((htouch c).2 (.inl ⟨h6, by rw [hg]; rfl⟩))
                have hcn : c < Hc.next := by
                  rcases Nat.lt_or_ge c Hc.next with h6 | h6
                  · exact h6
                  · rw [hbdc c h6] at hg; cases hg
                rw [hcg.keep c hcn hcl, hg]
                exact hsub c x hg
              | none =>
                have hcn : K.next ≤ c := by
                  rcases Nat.lt_or_ge c K.next with h6 | h6
                  · exact absurd ⟨hg, h6⟩ hnn
                  · exact h6
                have hc1 : H1.next ≤ c := by
                  rcases Nat.lt_or_ge c H1.next with h6 | h6
                  · exact absurd ((htouch c).2 (.inr ⟨by rw [← hKn]; exact hcn, h6⟩)) ht
                  · exact h6
                rw [hbd1 c hc1]
                cases hg2 : K.get c with
                | none => rfl
                | some x =>
                  obtain ⟨pl, _, _, h6, _⟩ := hW.live c x hg2
                  have := hW.named c pl h6
                  omega
        obtain ⟨z1, z2, z3⟩ := hW.whole hsub hnK k2 k3 hcg.dom hform (by rw [hK'n]; exact Nat.le_refl _)
        obtain ⟨t1, t2⟩ := inv_tmps run rf hst nx ho (v := v) (v' := v') (w' := w') (σ' := ⟨σ'.map, σ.fr⟩) (T' := Own ⟨σ'.map, σ.fr⟩ K') e1.symm (by rw [z3]; exact Rep.sig (σ := σ') (σ' := ⟨σ'.map, σ.fr⟩) rfl k1) hsz hrep (fun x u hxu => hxu.mono z2)
        refine (⟨⟨σ'.map, σ.fr⟩, K', z1, fun c => ?_, ?_, t1, by cases o.dst <;> exact hdf, t2, hE0.trans z2, fun c pl hc => ?_, hfresh (fun c pl hc => ?_)⟩ : Inv P F call ops base τ0 H0 w0 σ0 (addL L i) (a.put o.dst v') w')
        · rw [hK'g]
          cases ht : touchB (itR P F call ops base τ0 H0 i) c with
          | true =>
            have hnhid : ¬ ∃ j, j < i ∧ ((masks ops.toList []).getD i 0).testBit j = false ∧ c = base + j := by
              intro hh
              rcases (htouch c).1 ht with ⟨_, h8⟩ | ⟨h8, _⟩
              · rw [hHg, if_pos hh] at h8; cases h8
              · obtain ⟨j, hj, _, rfl⟩ := hh
                have := rf.le i (by omega)
                omega
            rw [if_pos rfl, hget_add nx ht, ← e2]
            · show H1.get c = (showA _ _ _ _ _).get c
              rw [show_get, if_neg hnhid]
            · intro j hj hne hjt hl
              obtain ⟨y, hy, hyt⟩ := hjt
              rcases run.free j i _ y hl hj e3.symm hy with h6 | h6
              · exact h6
              · exfalso
                have fr := meets_free h6
                rcases hyt with t | t | ⟨t3, _, _⟩
                · exact fr.cw rfl c t
                · have hcj := ((rf.chg j hj).made y hy).1 c t
                  rcases (htouch c).1 ht with ⟨_, h8⟩ | ⟨h8, _⟩
                  · rw [hHg, if_neg hnhid, hcj, rf.fresh i j (by omega) hj] at h8; cases h8
                  · have := rf.le i (by omega)
                    omega
                · have h7 := fr.cc rfl
                  rw [t3] at h7; cases h7
          | false => rw [if_neg (by simp), hget_skip ht, hK]
        · rw [hK'n]
          have hcb : callB (itR P F call ops base τ0 H0 i) = true := by rw [← e3]; rfl
          have hl : lastW (fun j => addL L i j && callB (itR P F call ops base τ0 H0 j)) ops.size = some i := lastW_add (p := fun j => callB (itR P F call ops base τ0 H0 j)) hi nx.not hcb (fun j hj hne hcj hl => by
            cases hx : itR P F call ops base τ0 H0 j with
            | none => rw [hx] at hcj; cases hcj
            | some x =>
              rw [hx] at hcj
              rcases run.free j i _ x hl hj e3.symm hx with h6 | h6
              · exact nx.behind hj h6
              · have := (meets_free h6).cc rfl
                have h7 : x.isCall = true := hcj
                rw [h7] at this; cases this)
          unfold nget
          rw [hl]
          simp only []
          rw [← e2]
          exact (show_next _ _ _ _ _).1.symm
        · rcases k4 c pl hc with h6 | h6
          · exact hnm c pl h6
          · exact .inr (by have := rf.le i (by omega); omega)
        · rcases k4 c pl hc with h6 | h6
          · exact .inl h6
          · exact .inr (.inr (by omega))
      · cases hstep
    · cases hstep
  · rename_i hwant
    rw [← hwt] at hwant
    rw [if_neg (by rw [wanted_sound htm hwant]; simp)]
    simp only [Option.some.injEq, Prod.mk.injEq] at hstep
    obtain ⟨e1, e2, e3⟩ := hstep
    obtain ⟨t1, t2⟩ := inv_tmps run rf hst nx ho e1.symm undef_rep hsz hrep (fun x u hxu => hxu)
    have ht : ∀ c, touchB (itR P F call ops base τ0 H0 i) c = false := fun c => by rw [← e3]; rfl
    refine ⟨σ, K, hW, fun c => by rw [hget_skip (ht c), hK], ?_, t1, by cases o.dst <;> exact hdf, t2, hE0, hnm, hfresh (fun c pl hc => .inl hc)⟩
    rw [hn]
    have : callB (itR P F call ops base τ0 H0 i) = false := by rw [← e3]; rfl
    have hl : lastW (fun j => addL L i j && callB (itR P F call ops base τ0 H0 j)) ops.size = lastW (fun j => L j && callB (itR P F call ops base τ0 H0 j)) ops.size := lastW_skip (p := fun j => callB (itR P F call ops base τ0 H0 j)) this
    unfold nget
    rw [hl]
  · cases hstep
end
end Go.Proofs.Ytadjimfkfmojkaa.Am

end
section
namespace Go.Proofs.Ytadjimfkfmojkaa.Am
set_option linter.unusedVariables false
/-- edges come from earlier operations -/
def EdgesOk (ops : Array Oper) : Prop := ∀ (i : Nat) (o : Oper), ops[i]? = some o → ∀ e ∈ o.after.toList, Region.binds .any e = true → e.on < i
/-- every region of a code whose order is drawn has its temporaries in order -/
def Draws : Code → Prop
  | .region _ ops draw => draw = true → StatOk ops ∧ EdgesOk ops
  | .seq a b => Draws a ∧ Draws b
  | .cond _ a b => Draws a ∧ Draws b
  | .block _ b => Draws b
  | .loop b => Draws b
  | _ => True
section
variable {P : Program} {F : TypeId → Option (List TypeId)} {call : FuncId → List AV → Heap → Option (AV × Heap)} {ops : Array Oper} {base : Nat} {τ0 : List AV} {H0 : Heap}
theorem drawA_next (hs : Sound P call) {before : List Nat} : ∀ (l : List Nat) (τ τ' : List AV) (H K : Heap) (rs rs' : List Rec), drawA P F call ops base before l τ H rs = some (τ', K, rs') → H.next ≤ K.next
  | [], τ, τ', H, K, rs, rs', h => by cases h; exact Nat.le_refl _
  | i :: l, τ, τ', H, K, rs, rs', h => by
    have key : ∀ {mask τ1 H1 r}, drawStep P F call ops base i mask τ H = some (τ1, H1, r) → H.next ≤ H1.next := fun {mask τ1 H1 r} hd => by
      unfold drawStep at hd
      split at hd
      · cases hd
      · split at hd
        · split at hd
          · rename_i hop; cases hd; have := aop_next hop; exact Nat.le_of_eq this.symm
          · split at hd
            · rename_i hcall
              cases hd
              have := hs.next _ _ _ _ _ hcall
              show H.next ≤ (showA _ _ _ _ _).next
              rw [(show_next _ _ _ _ _).1]
              have h2 := (hide_next base mask i H).1
              simp only [] at this
              omega
            · cases hd
          · cases hd
        · cases hd; exact Nat.le_refl _
        · cases hd
    unfold drawA at h
    split at h
    · rename_i hd; exact Nat.le_trans (key hd) (drawA_next hs l _ _ _ _ _ _ h)
    · rename_i hd
      split at h
      · exact Nat.le_trans (key hd) (drawA_next hs l _ _ _ _ _ _ h)
      · cases h
    · cases h
def cnt (L : Nat → Bool) : Nat → Nat
  | 0 => 0
  | k + 1 => cnt L k + (if L k then 0 else 1)
theorem cnt_zero {L : Nat → Bool} : ∀ {n : Nat}, cnt L n = 0 → ∀ i, i < n → L i = true
  | n + 1, h, i, hi => by
    unfold cnt at h
    rcases Nat.eq_or_lt_of_le (Nat.le_of_lt_succ hi) with rfl | hlt
    · cases hL : L i with
      | true => rfl
      | false => rw [hL] at h; simp at h
    · exact cnt_zero (by omega) i hlt
theorem cnt_congr {L M : Nat → Bool} : ∀ {n : Nat}, (∀ i, i < n → L i = M i) → cnt L n = cnt M n
  | 0, _ => rfl
  | n + 1, h => by rw [cnt, cnt, cnt_congr fun i hi => h i (by omega), h n (by omega)]
theorem cnt_add {L : Nat → Bool} {i : Nat} (hL : L i = false) : ∀ {n : Nat}, i < n → cnt (addL L i) n + 1 = cnt L n
  | n + 1, hi => by
    unfold cnt
    rcases Nat.eq_or_lt_of_le (Nat.le_of_lt_succ hi) with rfl | hlt
    · rw [cnt_congr (M := L) fun j hj => by simp [addL, show ¬ j = i by omega]]
      simp [addL, hL]
    · have := cnt_add hL hlt
      have e : addL L i n = L n := by simp [addL, show ¬ n = i by omega]
      rw [e]
      omega
theorem cnt_false : ∀ n, cnt (fun _ => false) n = n
  | 0 => rfl
  | n + 1 => by simp [cnt, cnt_false n]
theorem least_not {L : Nat → Bool} : ∀ n, (∀ i, i < n → L i = true) ∨ ∃ i, i < n ∧ L i = false ∧ ∀ j, j < i → L j = true
  | 0 => .inl fun i hi => by omega
  | n + 1 => by
    rcases least_not (L := L) n with h | ⟨i, h1, h2, h3⟩
    · by_cases hL : L n = true
      · left
        intro i hi
        rcases Nat.eq_or_lt_of_le (Nat.le_of_lt_succ hi) with rfl | hlt
        · exact hL
        · exact h i hlt
      · exact .inr ⟨n, by omega, by simpa using hL, h⟩
    · exact .inr ⟨i, by omega, h2, h3⟩
theorem getD_dflt {l : Array Bool} {i : Nat} (hi : i < l.size) : l.getD i true = l.getD i false := by simp [Array.getD, hi]
theorem any_sound (fit : Fit P F) (hs : Sound P call) (hch : ∀ f args H v H', Bd H → call f args H = some (v, H') → Chg H H') (run : RunOk P F call ops base τ0 H0) (rf : RunFacts P F call ops base τ0 H0) (hst : StatOk ops) (hed : EdgesOk ops) (hb : base + ops.size = H0.next)
    {w0 : World} {σ0 : Sig} {Q : Exit → Act → World → Prop} (hQ : ∀ a w, Inv P F call ops base τ0 H0 w0 σ0 (fun i => decide (i < ops.size)) a w → Q .normal a w) :
    ∀ (fuel : Nat) (listed : Array Bool) (a : Act) (w : World), listed.size = ops.size → Closed ops (fun i => listed.getD i false) → cnt (fun i => listed.getD i false) ops.size ≤ fuel →
      Inv P F call ops base τ0 H0 w0 σ0 (fun i => listed.getD i false) a w → wpAny P .any ops Q fuel listed a w := by
  intro fuel
  induction fuel with
  | zero =>
    intro listed a w hsz hcl hf hI
    have hall := cnt_zero (by omega : cnt (fun i => listed.getD i false) ops.size = 0)
    unfold wpAny
    refine ⟨?_, ?_⟩
    · unfold Region.ready
      rw [List.filter_eq_nil_iff]
      intro i hi
      rw [List.mem_range] at hi
      have := hall i hi
      rw [getD_dflt (by omega), this]
      simp
    · refine hQ a w ?_
      have e : (fun i => listed.getD i false) = fun i => decide (i < ops.size) := by
        funext i
        by_cases hi : i < ops.size
        · rw [hall i hi]; simp [hi]
        · simp [Array.getD, hsz, hi]
      rw [← e]; exact hI
  | succ fuel ih =>
    intro listed a w hsz hcl hf hI
    unfold wpAny
    refine ⟨fun hr => ?_, fun i hi => ?_⟩
    · rcases least_not (L := fun i => listed.getD i false) ops.size with hall | ⟨i, h1, h2, h3⟩
      · refine hQ a w ?_
        have e : (fun i => listed.getD i false) = fun i => decide (i < ops.size) := by
          funext i
          by_cases hi : i < ops.size
          · rw [hall i hi]; simp [hi]
          · simp [Array.getD, hsz, hi]
        rw [← e]; exact hI
      · exfalso
        unfold Region.ready at hr
        rw [List.filter_eq_nil_iff] at hr
        have ho : ops[i]? = some ops[i] := Array.getElem?_eq_getElem h1
        refine hr i (by rw [List.mem_range]; exact h1) ?_
        rw [getD_dflt (by omega), ho]
        rw [h2]
        simp only [Bool.not_false, Bool.true_and, Option.map_some, Option.getD_some]
        rw [Array.all_eq_true_iff_forall_mem]
        intro e he
        cases hbn : Region.binds .any e with
        | false => rfl
        | true =>
          have := h3 e.on (hed i _ ho e (by rw [Array.mem_toList_iff]; exact he) hbn)
          rw [this]; rfl
    · unfold Region.ready at hi
      rw [List.mem_filter, List.mem_range] at hi
      obtain ⟨hi1, hi2⟩ := hi
      obtain ⟨o, ho⟩ : ∃ o, ops[i]? = some o := ⟨_, Array.getElem?_eq_getElem hi1⟩
      rw [Bool.and_eq_true, ho] at hi2
      obtain ⟨hi2, hi3⟩ := hi2
      have hnot : listed.getD i false = false := by
        rw [← getD_dflt (by omega)]
        simpa using hi2
      simp only [Option.map_some, Option.getD_some] at hi3
      rw [Array.all_eq_true_iff_forall_mem] at hi3
      have nx : Next ops (fun i => listed.getD i false) i := ⟨hi1, hnot, hcl, fun o' ho' e he hbn => by
        rw [ho] at ho'
        cases ho'
        have := hi3 e (by rw [← Array.mem_toList_iff]; exact he)
        rw [hbn] at this
        simpa using this⟩
      have eL : (fun j => (listed.setIfInBounds i true).getD j false) = addL (fun j => listed.getD j false) i := by
        funext j
        unfold addL
        by_cases hj : j = i
        · subst hj
          rw [if_pos rfl]
          simp [Array.getD, show j < listed.size by omega]
        · rw [if_neg hj]
          by_cases hjl : j < listed.size
          · simp [Array.getD, hjl, show ¬ i = j by omega]
          · simp [Array.getD, hjl]
      refine wpOp_mono (fun a' w' hI' => ?_) (inv_step fit hs hch run rf hst hb nx hI)
      refine ih _ a' w' (by simpa using hsz) ?_ ?_ (by rw [eL]; exact hI')
      · rw [eL]
        intro j oj hoj hLj e he hbn
        unfold addL at hLj ⊢
        split
        · rfl
        · split at hLj
          · rename_i _ hji
            subst hji
            exact nx.edges oj hoj e he hbn
          · exact hcl j oj hoj hLj e he hbn
      · rw [eL]
        have := cnt_add (L := fun j => listed.getD j false) hnot hi1
        omega
theorem draw_sound (fit : Fit P F) (hs : Sound P call) (hch : ∀ f args H v H', Bd H → call f args H = some (v, H') → Chg H H') (hst : StatOk ops) (hed : EdgesOk ops) {τ τ' : List AV} {H H' : Heap} (h : regionA P F call ops true τ H = some (τ', H')) :
    H.next ≤ H'.next ∧ ∀ (id : Nat) (w : World) (σ : Sig) (a : Act), WRel w σ H → TmpsOk w σ (Own σ H) τ a → ∀ Q : Exit → Act → World → Prop, (∀ a' w', After w σ H τ' H' a' w' → Q .normal a' w') → (Code.region id ops true).wp P Q a w := by
  simp only [regionA, if_true] at h
  split at h
  · rename_i τq K rs hd
    cases h
    refine ⟨Nat.le_trans (Nat.le_add_right _ _) (drawA_next hs _ _ _ _ _ _ _ hd), fun id w σ a hW hτ Q hQ => ?_⟩
    have hbd : Bd H := fun b hb => by
      cases hg : H.get b with
      | none => rfl
      | some x =>
        obtain ⟨pl, _, _, h1, _⟩ := hW.live b x hg
        have := hW.named b pl h1
        omega
    have hn : H.next + ops.size = ({ H with next := H.next + ops.size } : Heap).next := rfl
    have hg0 : ∀ b, ({ H with next := H.next + ops.size } : Heap).get b = H.get b := fun _ => rfl
    have hW0 : WRel w σ { H with next := H.next + ops.size } := hW.congr hg0 (Nat.le_add_right _ _)
    have ho0 : Own σ { H with next := H.next + ops.size } = Own σ H := Own.congr hg0
    generalize hH0 : ({ H with next := H.next + ops.size } : Heap) = H0 at hd hn hg0 hW0 ho0
    have hbd0 : Bd H0 := fun b hb => by rw [hg0]; exact hbd b (by omega)
    rw [List.range_eq_range'] at hd
    obtain ⟨a1, a2, a3⟩ := run_ok (P := P) (F := F) (call := call) (ops := ops) (base := H.next) (τ0 := τ) (H0 := H0) ops.size 0 [] rs τ' K hd (fun j x hj => by omega)
    simp only [Nat.zero_add] at a1 a2 a3
    have run : RunOk P F call ops H.next τ H0 := ⟨fun i hi => a1 i (Nat.zero_le _) hi, fun i j x r hji hi hx hr => a2 i j x r (Nat.zero_le _) hi hji hx hr⟩
    have rf := run_facts hch run hbd0 hn (fun j hj => by rw [hg0]; exact hbd _ (Nat.le_add_right _ _))
    have hnone : ∀ (p : Nat → Bool) n, lastW (fun j => false && p j) n = none := fun p n => by
      rw [lastW_none (k := 0) (Nat.zero_le _) (fun i _ _ => by simp)]; rfl
    have hall : ∀ (p : Nat → Bool) n, lastW (fun j => decide (j < n) && p j) n = lastW p n := fun p n => lastW_congr fun i hi => by simp [hi]
    refine wp_region_any fit.order (any_sound (w0 := w) (σ0 := σ) fit hs hch run rf hst hed hn ?_ ops.size _ a _ (by simp) ?_ ?_ ?_)
    · intro a' w' hI
      obtain ⟨σ', K', k1, k2, k3, k4, k5, k6, k7, k8, _⟩ := hI
      have eS : (itS P F call ops H.next τ H0 ops.size) = (τ', K) := a3.symm
      have hget' : ∀ c, K'.get c = K.get c := fun c => by
        have := text_h run rf c ops.size (Nat.le_refl _)
        rw [eS] at this
        rw [k2, hget, hall]
        exact this.symm
      have hnx : K'.next = K.next := by
        have := text_n run ops.size (Nat.le_refl _)
        rw [eS] at this
        rw [k3, nget, hall]
        exact this.symm
      have htg : ∀ t, tget P F call ops H.next τ H0 (fun i => decide (i < ops.size)) t = τ'[t]? := fun t => by
        have := text_t run t ops.size (Nat.le_refl _)
        rw [eS] at this
        rw [tget, hall]
        exact this.symm
      have hlen : τ'.length = τ.length := by have := rf.len ops.size (Nat.le_refl _); rw [eS] at this; exact this
      have hoK : Own σ' ({ K with log := rs.flatMap (·.writes) ++ K.log } : Heap) = Own σ' K' := Own.congr fun b => (hget' b).symm
      refine hQ a' w' ⟨σ', ⟨⟨by simp [hlen, k4], fun t x u hx hu => ?_⟩, k5⟩, k1.congr (fun b => (hget' b).symm) (by rw [hnx]; exact Nat.le_refl _), by rw [hoK, ← ho0]; exact k7, fun c pl hc => k8 c pl hc⟩
      rw [hoK]
      exact k6 t x u (by rw [htg]; exact hx) (by rw [← Array.getElem?_toList]; exact hu)
    · intro i o ho hL
      simp [Array.getD] at hL
    · have : (fun i => (Array.replicate ops.size false).getD i false) = fun _ => false := by funext i; simp [Array.getD]
      rw [this, cnt_false]
      exact Nat.le_refl _
    · have : (fun i => (Array.replicate ops.size false).getD i false) = fun _ => false := by funext i; simp [Array.getD]
      rw [this]
      refine ⟨σ, H0, hW0.same rfl rfl rfl rfl, fun c => by rw [hget, hnone], by rw [nget, hnone], by have := hτ.1.1; simpa using this.symm, hτ.2, fun t x u hx hu => ?_, Ext.same σ _ rfl rfl rfl rfl, fun c pl hc => .inl hc, fun i hi _ => ?_⟩
      · rw [tget, hnone] at hx
        have := hτ.1.2 t x u hx (by rw [Array.getElem?_toList]; exact hu)
        rw [← ho0] at this
        have e : Ext w σ (Own σ H0) { w with drawn := w.drawn + 1 } σ (Own σ H0) := Ext.same σ _ rfl rfl rfl rfl
        exact this.mono e
      · cases hg : σ (H.next + i) with
        | none => rfl
        | some pl => have := hW.named _ pl hg; omega
  · cases h
def LoopOk (P : Program) (n : Nat) (c : Code) (τ : List AV) (H : Heap) (e : Ex) (τ' : List AV) (H' : Heap) : Prop :=
  H.next ≤ H'.next ∧ ∀ (w : World) (σ : Sig) (a : Act), WRel w σ H → TmpsOk w σ (Own σ H) τ a → ∀ Q : Exit → Act → World → Prop, (∀ a' w', After w σ H τ' H' a' w' → Q (exOf e) a' w') → Code.rounds P c Q n a w
theorem exec_sound' (fit : Fit P F) (hgood : ∀ (g : Nat) (fn : Func) (c : Code), P.funcs[g]? = some fn → fn.body = some c → Draws c) (f : Nat) : (∀ (c : Code) (τ : List AV) (H : Heap) (e : Ex) (τ' : List AV) (H' : Heap), Draws c → exec P F f c τ H = some (e, τ', H') → CodeOk P c τ H e τ' H') ∧
    (∀ (c : Code) (τ : List AV) (H : Heap) (e : Ex) (τ' : List AV) (H' : Heap), Draws c → exec P F f (.loop c) τ H = some (e, τ', H') → LoopOk P f c τ H e τ' H') := by
  induction f with
  | zero => exact ⟨fun c τ H e τ' H' _ h => (by cases h), fun c τ H e τ' H' _ h => (by cases h)⟩
  | succ f ih0 =>
    obtain ⟨ih, ihl⟩ := ih0
    have hs := callBy_sound (P := P) hgood ih
    have hch : ∀ g args H v H', Bd H → callBy P (exec P F f) g args H = some (v, H') → Chg H H' := fun g args H v H' hb hc => callBy_chg (exec_chg f) hb hc
    have hloop : ∀ (c : Code) (τ : List AV) (H : Heap) (e : Ex) (τ' : List AV) (H' : Heap), Draws c → exec P F (f + 1) (.loop c) τ H = some (e, τ', H') → LoopOk P (f + 1) c τ H e τ' H' := by
      intro c1 τ H e τ' H' dr h
      simp only [exec] at h
      split at h
      · rename_i τ1 H1 h1
        obtain ⟨n1, k1⟩ := ih c1 τ H .normal τ1 H1 dr h1
        obtain ⟨n2, k2⟩ := ihl c1 τ1 H1 e τ' H' dr h
        refine ⟨Nat.le_trans n1 n2, fun w σ a hW hτ Q hQ => ?_⟩
        rw [rounds_succ]
        refine k1 w σ a hW hτ _ fun a' w' haf => ?_
        obtain ⟨σ1, t1, r1, e1, m1⟩ := haf
        exact k2 w' σ1 a' r1 t1 Q fun a2 w2 haf2 => hQ a2 w2 (haf2.trans e1 m1 n1)
      · rename_i hne
        obtain ⟨n1, k1⟩ := ih c1 τ H e τ' H' dr h
        refine ⟨n1, fun w σ a hW hτ Q hQ => ?_⟩
        rw [rounds_succ]
        refine k1 w σ a hW hτ _ fun a' w' haf => ?_
        cases e with
        | normal => exact absurd h (hne _ _)
        | exit id => exact hQ _ _ haf
        | ret => exact hQ _ _ haf
    refine ⟨?_, hloop⟩
    intro c τ H e τ' H' dr h
    cases c with
    | skip => cases h; exact ⟨Nat.le_refl _, fun w σ a hW hτ Q hQ => wp_skip (hQ _ _ (.refl hW hτ))⟩
    | label l => cases h; exact ⟨Nat.le_refl _, fun w σ a hW hτ Q hQ => wp_label (hQ _ _ (.refl hW hτ))⟩
    | exit id => cases h; exact ⟨Nat.le_refl _, fun w σ a hW hτ Q hQ => wp_exit (hQ _ _ (.refl hW hτ))⟩
    | ret => cases h; exact ⟨Nat.le_refl _, fun w σ a hW hτ Q hQ => wp_ret (hQ _ _ (.refl hW hτ))⟩
    | region id ops draw =>
      simp only [exec] at h
      split at h
      · rename_i τ1 H1 hr
        cases h
        cases draw with
        | false => exact region_sound fit hs hr
        | true =>
          obtain ⟨h1, h2⟩ := draw_sound fit hs hch (dr rfl).1 (dr rfl).2 hr
          exact ⟨h1, fun w σ a hW hτ Q hQ => h2 id w σ a hW hτ Q hQ⟩
      · cases h
    | seq x y =>
      simp only [exec] at h
      split at h
      · rename_i τ1 H1 h1
        obtain ⟨n1, k1⟩ := ih x τ H .normal τ1 H1 dr.1 h1
        obtain ⟨n2, k2⟩ := ih y τ1 H1 e τ' H' dr.2 h
        refine ⟨Nat.le_trans n1 n2, fun w σ a hW hτ Q hQ => wp_seq (k1 w σ a hW hτ _ fun a' w' haf => ?_)⟩
        obtain ⟨σ1, t1, r1, e1, m1⟩ := haf
        exact k2 w' σ1 a' r1 t1 Q fun a2 w2 haf2 => hQ a2 w2 (haf2.trans e1 m1 n1)
      · rename_i hne
        obtain ⟨n1, k1⟩ := ih x τ H e τ' H' dr.1 h
        refine ⟨n1, fun w σ a hW hτ Q hQ => wp_seq (k1 w σ a hW hτ _ fun a' w' haf => ?_)⟩
        cases e with
        | normal => exact absurd h (hne _ _)
        | exit id => exact hQ _ _ haf
        | ret => exact hQ _ _ haf
    | cond x c1 c2 =>
      simp only [exec] at h
      split at h
      · rename_i hb
        obtain ⟨n1, k1⟩ := ih c1 τ H e τ' H' dr.1 h
        refine ⟨n1, fun w σ a hW hτ Q hQ => wp_cond_true ?_ (k1 w σ a hW hτ Q hQ)⟩
        have := hτ.eval x
        rw [hb] at this
        generalize a.eval x = u at this
        cases this
        rfl
      · rename_i hb
        obtain ⟨n1, k1⟩ := ih c2 τ H e τ' H' dr.2 h
        refine ⟨n1, fun w σ a hW hτ Q hQ => wp_cond_false ?_ (k1 w σ a hW hτ Q hQ)⟩
        have := hτ.eval x
        rw [hb] at this
        generalize a.eval x = u at this
        cases this
        rfl
      · cases h
    | block id c1 =>
      simp only [exec] at h
      split at h
      · rename_i id' τ1 H1 h1
        obtain ⟨n1, k1⟩ := ih c1 τ H _ τ1 H1 dr h1
        split at h
        · rename_i hid
          cases h
          exact ⟨n1, fun w σ a hW hτ Q hQ => wp_block (k1 w σ a hW hτ _ fun a' w' haf => by simp only [exOf, Exit.inBlock, hid, if_true]; exact hQ _ _ haf)⟩
        · rename_i hid
          cases h
          exact ⟨n1, fun w σ a hW hτ Q hQ => wp_block (k1 w σ a hW hτ _ fun a' w' haf => by simp only [exOf, Exit.inBlock, hid, if_false]; exact hQ _ _ haf)⟩
      · rename_i hne
        obtain ⟨n1, k1⟩ := ih c1 τ H e τ' H' dr h
        refine ⟨n1, fun w σ a hW hτ Q hQ => wp_block (k1 w σ a hW hτ _ fun a' w' haf => ?_)⟩
        cases e with
        | normal => exact hQ _ _ haf
        | exit id => exact absurd h (hne _ _ _)
        | ret => exact hQ _ _ haf
    | loop c1 =>
      obtain ⟨n1, k1⟩ := hloop c1 τ H e τ' H' dr h
      exact ⟨n1, fun w σ a hW hτ Q hQ => wp_loop_rounds (f + 1) (k1 w σ a hW hτ Q hQ)⟩
    | _ => simp [exec] at h
theorem exec_sound (fit : Fit P F) (hgood : ∀ (g : Nat) (fn : Func) (c : Code), P.funcs[g]? = some fn → fn.body = some c → Draws c) (f : Nat) (c : Code) (τ : List AV) (H : Heap) (e : Ex) (τ' : List AV) (H' : Heap) (dr : Draws c) (h : exec P F f c τ H = some (e, τ', H')) : CodeOk P c τ H e τ' H' :=
  (exec_sound' fit hgood f).1 c τ H e τ' H' dr h
end
end Go.Proofs.Ytadjimfkfmojkaa.Am

end
section
namespace Go.Proofs.Ytadjimfkfmojkaa.Am
open Go.RowKit
set_option linter.unusedVariables false
def statB (ops : Array Oper) : Bool :=
  let M := masks ops.toList []
  let N := ops.toList.map fun o => (o.dst, namesA ops o)
  (List.range ops.size).all fun i => (List.range i).all fun j =>
    (M.getD i 0).testBit j ||
    (match N[i]?, N[j]? with
      | some (di, ni), some (dj, nj) => (match dj with | some t => !ni.contains t | none => true) && (match di with | some t => !nj.contains t | none => true)
      | _, _ => true)
def edgesB (ops : Array Oper) : Bool := (List.range ops.size).all fun i => match ops[i]? with
  | some o => o.after.toList.all fun e => !Region.binds .any e || decide (e.on < i)
  | none => true
def drawsB : Code → Bool
  | .region _ ops draw => !draw || (statB ops && edgesB ops)
  | .seq a b => drawsB a && drawsB b
  | .cond _ a b => drawsB a && drawsB b
  | .block _ b => drawsB b
  | .loop b => drawsB b
  | _ => true
theorem statB_ok {ops : Array Oper} (h : statB ops = true) : StatOk ops := by
  intro i j oi oj hji hoi hoj
  have hi : i < ops.size := (Array.getElem?_eq_some_iff.1 hoi).1
  unfold statB at h
  simp only [List.all_eq_true, List.mem_range] at h
  have h1 := h i hi j hji
  have ei : (ops.toList.map fun o => (o.dst, namesA ops o))[i]? = some (oi.dst, namesA ops oi) := by rw [List.getElem?_map, Array.getElem?_toList, hoi]; rfl
  have ej : (ops.toList.map fun o => (o.dst, namesA ops o))[j]? = some (oj.dst, namesA ops oj) := by rw [List.getElem?_map, Array.getElem?_toList, hoj]; rfl
  rw [ei, ej] at h1
  simp only [Bool.or_eq_true, Bool.and_eq_true] at h1
  rcases h1 with h1 | ⟨h1, h2⟩
  · exact .inl h1
  · right
    refine ⟨fun t ht => ?_, fun t ht => ?_⟩
    · rw [ht] at h1; simpa using h1
    · rw [ht] at h2; simpa using h2
theorem edgesB_ok {ops : Array Oper} (h : edgesB ops = true) : EdgesOk ops := by
  intro i o ho e he hb
  have hi : i < ops.size := (Array.getElem?_eq_some_iff.1 ho).1
  unfold edgesB at h
  simp only [List.all_eq_true, List.mem_range] at h
  have h1 := h i hi
  rw [ho] at h1
  simp only [List.all_eq_true] at h1
  have := h1 e he
  rw [hb] at this
  simpa using this
theorem drawsB_ok : ∀ (c : Code), drawsB c = true → Draws c
  | .region _ ops draw, h => fun hd => by
    subst hd
    simp only [drawsB, Bool.not_true, Bool.false_or, Bool.and_eq_true] at h
    exact ⟨statB_ok h.1, edgesB_ok h.2⟩
  | .seq a b, h => by simp only [drawsB, Bool.and_eq_true] at h; exact ⟨drawsB_ok a h.1, drawsB_ok b h.2⟩
  | .cond _ a b, h => by simp only [drawsB, Bool.and_eq_true] at h; exact ⟨drawsB_ok a h.1, drawsB_ok b h.2⟩
  | .block _ b, h => drawsB_ok b h
  | .loop b, h => drawsB_ok b h
  | .skip, _ => trivial
  | .rangeFunc .., _ => trivial
  | .exit _, _ => trivial
  | .scope _, _ => trivial
  | .label _, _ => trivial
  | .goto _, _ => trivial
  | .ret, _ => trivial
  | .refuse _, _ => trivial
/-- what is checked of every function -/
def funcB (fn : Func) : Bool := (fn.name != "runtime.NumGoroutine") && (match fn.body with | some c => drawsB c | none => true)
theorem goods {P : Program} (h : P.funcs.toList.all funcB = true) : (∀ (g : Nat) (fn : Func), P.funcs[g]? = some fn → fn.name ≠ "runtime.NumGoroutine") ∧ ∀ (g : Nat) (fn : Func) (c : Code), P.funcs[g]? = some fn → fn.body = some c → Draws c := by
  rw [List.all_eq_true] at h
  have key : ∀ (g : Nat) (fn : Func), P.funcs[g]? = some fn → funcB fn = true := fun g fn hg => h fn (by rw [Array.mem_toList_iff]; exact Array.mem_of_getElem? hg)
  refine ⟨fun g fn hg => ?_, fun g fn c hg hc => ?_⟩
  · have := key g fn hg
    simp only [funcB, Bool.and_eq_true] at this
    simpa using this.1
  · have := key g fn hg
    simp only [funcB, Bool.and_eq_true, hc] at this
    exact drawsB_ok c this.2
def isTrue : Option (AV × Heap) → Bool
  | some (.bool true, _) => true
  | _ => false
end Go.Proofs.Ytadjimfkfmojkaa.Am

end
section
namespace Go.Proofs.Ytadjimfkfmojkaa.Am
open Go.RowKit
set_option linter.unusedVariables false
/-- values without names of the abstract heap -/
inductive PureV : AV → Prop where
  | int (k : IntKind) (n : Int) : PureV (.int k n)
  | bool (b : Bool) : PureV (.bool b)
  | str (s : List UInt8) : PureV (.str s)
  | nilp : PureV .nilp
  | nils : PureV .nils
  | emp : PureV .emp
  | nilf : PureV .nilf
  | junk : PureV .junk
  | lst (rows : List (List AV)) (h : ∀ (i : Nat) (r : List AV) (j : Nat) (a : AV), rows[i]? = some r → r[j]? = some a → PureV a) : PureV (.lst rows)
  | agg (cs : List AV) (h : ∀ (i : Nat) (a : AV), cs[i]? = some a → PureV a) : PureV (.agg cs)
  | tup (cs : List AV) (h : ∀ (i : Nat) (a : AV), cs[i]? = some a → PureV a) : PureV (.tup cs)
  | fn (f : FuncId) (cs : List AV) (h : ∀ (i : Nat) (a : AV), cs[i]? = some a → PureV a) : PureV (.fn f cs)
section
variable {P : Program} {F : TypeId → Option (List TypeId)} {w w' : World} {σ σ' : Sig} {T T' : Nat → Prop}
theorem Lies.shrink {rows : List (List AV)} {b o sz : Nat} (h : Lies w T rows b o sz) (hT : ∀ c, T' c → T c) : Lies w T' rows b o sz := ⟨fun ht => h.out (hT b ht), h.even, h.cell, h.pos, h.ne⟩
theorem PureV.rep {a : AV} (hp : PureV a) : ∀ {v : Value}, Rep w σ T a v → (∀ c, T' c → T c) → Rep w σ' T' a v := by
  induction hp with
  | int k n => intro v h _; cases h; exact .int k n
  | bool b => intro v h _; cases h; exact .bool b
  | str s => intro v h _; cases h; exact .str _
  | nilp => intro v h _; cases h; exact .nilp
  | nils => intro v h _; cases h; exact .nils
  | emp => intro v h _; cases h; exact .emp _
  | nilf => intro v h _; cases h; exact .nilf
  | junk => intro v h _; exact .junk v
  | lst rows h ih =>
    intro v hr hT
    cases hr with
    | lst0 a cap hm => exact .lst0 a cap hm
    | lst _ b o sz cap hl hn hm hc => exact .lst rows b o sz cap (hl.shrink hT) hn hm fun i r j a u h1 h2 h3 => ih i r j a h1 h2 (hc i r j a u h1 h2 h3) hT
  | agg cs h ih =>
    intro v hr hT
    cases hr with
    | agg _ vs hl hc => exact .agg cs vs hl fun i a v h1 h2 => ih i a h1 (hc i a v h1 h2) hT
  | tup cs h ih =>
    intro v hr hT
    cases hr with
    | tup _ vs hl hc => exact .tup cs vs hl fun i a v h1 h2 => ih i a h1 (hc i a v h1 h2) hT
  | fn f cs h ih =>
    intro v hr hT
    cases hr with
    | fn _ _ vs hl hc => exact .fn f cs vs hl fun i a v h1 h2 => ih i a h1 (hc i a v h1 h2) hT
theorem empty_get (b : Nat) : Heap.empty.get b = none := Tr.get_leaf b
/-- over the empty heap a call returns v, whatever it leaves in the heap -/
def CallV (P : Program) (f : FuncId) (args : List AV) (v : AV) : Prop :=
  ∀ (w : World) (σ : Sig) (vs : List Value), WRel w σ Heap.empty → Reps w σ (Own σ Heap.empty) args vs → Calls P f vs.toArray w fun e w' =>
    ∃ v' σ' H', e = .returned v' ∧ Rep w' σ' (Own σ' H') v v' ∧ Ext w σ (Own σ Heap.empty) w' σ' (Own σ' H')
/-- a function that was looked at over the empty heap does the same over every heap, and leaves it alone -/
theorem lift {f : FuncId} {args : List AV} {v : AV} (hv : PureV v) (ha : ∀ (i : Nat) (a : AV), args[i]? = some a → PureV a) (h : CallV P f args v) (H : Heap) : CallOk P f args H v H := by
  intro w σ vs hW hvs
  have hown : Own ⟨fun _ => none, Own σ H⟩ Heap.empty = Own σ H := by
    funext c
    apply propext
    constructor
    · rintro (h1 | ⟨b, x, pl, h1, _, _⟩)
      · exact h1
      · rw [empty_get] at h1; cases h1
    · exact .inl
  have hlt : ∀ c, Own σ H c → c < w.heap.size := fun c hc => by
    rcases hc with hc | ⟨b, x, pl, h1, h2, rfl⟩
    · exact (hW.apart c hc).1
    · exact hW.lt b pl h2
  have hWe : WRel w ⟨fun _ => none, Own σ H⟩ Heap.empty := ⟨fun b pl hb => (by cases hb), fun b pl hb => (by cases hb), fun b x hb => (by rw [empty_get] at hb; cases hb),
    fun c hc => ⟨hlt c hc, fun ⟨b, x, pl, h1, _, _⟩ => (by rw [empty_get] at h1; cases h1)⟩, fun b b' x x' pl pl' hb => (by rw [empty_get] at hb; cases hb)⟩
  refine (h w _ vs hWe ⟨hvs.1, fun i a u h1 h2 => (ha i a h1).rep (hvs.2 i a u h1 h2) (fun c hc => by rw [hown] at hc; exact hc)⟩).mono ?_
  rintro e w' ⟨v', σ', H1, rfl, k1, k3⟩
  have hE : Ext w σ (Own σ H) w' σ (Own σ H) :=
    ⟨k3.os, k3.tape, k3.output, k3.size, fun c hc hT => k3.keep c hc (by rw [hown]; exact hT), k3.shape, fun _ _ h => h, rfl, fun c hc => k3.frame c (.inl hc), fun c hc => .inl hc⟩
  refine ⟨v', σ, rfl, hv.rep k1 (fun c hc => .inl (by rw [k3.eqfr]; exact hc)), ⟨hW.named, fun b pl hb => Nat.lt_of_lt_of_le (hW.lt b pl hb) k3.size, fun b x hb => ?_, fun c hc => ⟨Nat.lt_of_lt_of_le (hW.apart c hc).1 k3.size, (hW.apart c hc).2⟩, hW.inj⟩, hE, fun c pl hc => .inl hc⟩
  obtain ⟨pl, cs, e, h1, h2⟩ := hW.live b x hb
  exact ⟨pl, cs, e, h1, h2.mono hE (k3.frame _ (.inr ⟨b, x, pl, hb, h1, rfl⟩))⟩

def AWp (P : Program) (c : Code) (Q : Ex → List AV → Heap → Prop) (τ : List AV) (H : Heap) : Prop :=
  ∀ (w : World) (σ : Sig) (a : Act), WRel w σ H → TmpsOk w σ (Own σ H) τ a → ∀ Q' : Exit → Act → World → Prop,
    (∀ e τ' H' a' w', Q e τ' H' → H.next ≤ H'.next → After w σ H τ' H' a' w' → Q' (exOf e) a' w') → c.wp P Q' a w
variable {c c1 c2 : Code} {Q Q2 : Ex → List AV → Heap → Prop} {τ : List AV} {H : Heap}
theorem AWp.of_ok {e : Ex} {τ' : List AV} {H' : Heap} (h : CodeOk P c τ H e τ' H') (hQ : Q e τ' H') : AWp P c Q τ H :=
  fun w σ a hW hτ Q' hQ' => h.2 w σ a hW hτ Q' fun a' w' haf => hQ' e τ' H' a' w' hQ h.1 haf
theorem AWp.mono (h : AWp P c Q τ H) (hq : ∀ e τ' H', Q e τ' H' → Q2 e τ' H') : AWp P c Q2 τ H :=
  fun w σ a hW hτ Q' hQ' => h w σ a hW hτ Q' fun e τ' H' a' w' hq1 => hQ' e τ' H' a' w' (hq e τ' H' hq1)
def Ex.then (next : List AV → Heap → Prop) (Q : Ex → List AV → Heap → Prop) : Ex → List AV → Heap → Prop
  | .normal, τ, H => next τ H
  | e, τ, H => Q e τ H
theorem AWp.seq (h : AWp P c1 (Ex.then (AWp P c2 Q) Q) τ H) : AWp P (.seq c1 c2) Q τ H := by
  intro w σ a hW hτ Q' hQ'
  refine wp_seq (h w σ a hW hτ _ fun e τ1 H1 a1 w1 hq hn haf => ?_)
  cases e with
  | normal =>
    obtain ⟨σ1, t1, r1, e1, m1⟩ := haf
    exact hq w1 σ1 a1 r1 t1 Q' fun e2 τ2 H2 a2 w2 q2 n2 haf2 => hQ' e2 τ2 H2 a2 w2 q2 (Nat.le_trans hn n2) (haf2.trans e1 m1 hn)
  | exit id => exact hQ' _ _ _ _ _ hq hn haf
  | ret => exact hQ' _ _ _ _ _ hq hn haf
theorem AWp.cond {x : Operand} {t : Bool} (hx : aev τ x = .bool t) (h : AWp P (if t then c1 else c2) Q τ H) : AWp P (.cond x c1 c2) Q τ H := by
  intro w σ a hW hτ Q' hQ'
  have hr := hτ.eval x
  rw [hx] at hr
  refine wp_cond (t := t) ?_ (h w σ a hW hτ Q' hQ')
  generalize a.eval x = u at hr
  cases hr
  rfl
theorem AWp.skip (h : Q .normal τ H) : AWp P .skip Q τ H := fun w σ a hW hτ Q' hQ' => wp_skip (hQ' .normal τ H _ _ h (Nat.le_refl _) (.refl hW hτ))
theorem AWp.exit {id : Nat} (h : Q (.exit id) τ H) : AWp P (.exit id) Q τ H := fun w σ a hW hτ Q' hQ' => wp_exit (hQ' (.exit id) τ H _ _ h (Nat.le_refl _) (.refl hW hτ))
theorem AWp.ret (h : Q .ret τ H) : AWp P .ret Q τ H := fun w σ a hW hτ Q' hQ' => wp_ret (hQ' .ret τ H _ _ h (Nat.le_refl _) (.refl hW hτ))
def Ex.inBlock (id : Nat) (Q : Ex → List AV → Heap → Prop) : Ex → List AV → Heap → Prop
  | .exit id', τ, H => if id' = id then Q .normal τ H else Q (.exit id') τ H
  | e, τ, H => Q e τ H
theorem AWp.block {id : Nat} (h : AWp P c (Ex.inBlock id Q) τ H) : AWp P (.block id c) Q τ H := by
  intro w σ a hW hτ Q' hQ'
  refine wp_block (h w σ a hW hτ _ fun e τ1 H1 a1 w1 hq hn haf => ?_)
  cases e with
  | normal => exact hQ' _ _ _ _ _ hq hn haf
  | ret => exact hQ' _ _ _ _ _ hq hn haf
  | exit id' =>
    simp only [Ex.inBlock] at hq
    simp only [exOf, Exit.inBlock]
    split
    · rename_i he; rw [if_pos he] at hq; exact hQ' .normal _ _ _ _ hq hn haf
    · rename_i he; rw [if_neg he] at hq; exact hQ' (.exit id') _ _ _ _ hq hn haf
theorem rounds_mono {Q' : Exit → Act → World → Prop} : ∀ {n m : Nat} {a : Act} {w : World}, n ≤ m → Code.rounds P c Q' n a w → Code.rounds P c Q' m a w
  | 0, m, a, w, _, h => h.elim
  | n + 1, m, a, w, hm, h => by
    obtain ⟨k, rfl⟩ : ∃ k, m = k + 1 := ⟨m - 1, by omega⟩
    rw [rounds_succ] at h ⊢
    refine wp_mono h fun e a' w' he => ?_
    cases e with
    | normal => exact rounds_mono (by omega) he
    | _ => exact he
theorem AWp.loop (I : Nat → List AV → Heap → Prop) (hs : ∀ n τ H, I n τ H → AWp P c (Ex.then (fun τ' H' => ∃ m, m < n ∧ I m τ' H') Q) τ H) (n : Nat) (h0 : I n τ H) : AWp P (.loop c) Q τ H := by
  have key : ∀ n τ H, I n τ H → ∀ (w : World) (σ : Sig) (a : Act), WRel w σ H → TmpsOk w σ (Own σ H) τ a → ∀ Q' : Exit → Act → World → Prop,
      (∀ e τ' H' a' w', Q e τ' H' → H.next ≤ H'.next → After w σ H τ' H' a' w' → Q' (exOf e) a' w') → Code.rounds P c Q' (n + 1) a w := by
    intro n
    induction n using Nat.strongRecOn with
    | _ n ih =>
      intro τ H hI w σ a hW hτ Q' hQ'
      rw [rounds_succ]
      refine hs n τ H hI w σ a hW hτ _ fun e τ1 H1 a1 w1 hq hn haf => ?_
      cases e with
      | normal =>
        obtain ⟨m, hm, hI1⟩ := hq
        obtain ⟨σ1, t1, r1, e1, m1⟩ := haf
        exact rounds_mono (by omega) (ih m hm τ1 H1 hI1 w1 σ1 a1 r1 t1 Q' fun e2 τ2 H2 a2 w2 q2 n2 haf2 => hQ' e2 τ2 H2 a2 w2 q2 (Nat.le_trans hn n2) (haf2.trans e1 m1 hn))
      | exit id => exact hQ' _ _ _ _ _ hq hn haf
      | ret => exact hQ' _ _ _ _ _ hq hn haf
  intro w σ a hW hτ Q' hQ'
  exact wp_loop_rounds (n + 1) (key n τ H h0 w σ a hW hτ Q' hQ')
end
def noCall : FuncId → List AV → Heap → Option (AV × Heap) := fun _ _ _ => none
theorem noCall_sound (P : Program) : Sound P noCall := ⟨fun _ _ _ _ _ h => (by cases h), fun _ _ _ _ _ h => (by cases h), fun _ _ _ _ _ h => (by cases h)⟩
theorem AWp.reg {P : Program} {F : TypeId → Option (List TypeId)} {call : FuncId → List AV → Heap → Option (AV × Heap)} (fit : Fit P F) (hs : Sound P call) {ops : Array Oper} {id : Nat} {Q : Ex → List AV → Heap → Prop} {τ : List AV} {H : Heap} {τ' : List AV} {H' : Heap} (h : regionA P F call ops false τ H = some (τ', H')) (hQ : Q .normal τ' H') : AWp P (.region id ops false) Q τ H :=
  .of_ok (region_sound fit hs h) hQ
theorem AWp.ops {P : Program} {F : TypeId → Option (List TypeId)} {call : FuncId → List AV → Heap → Option (AV × Heap)} (fit : Fit P F) (hs : Sound P call) {ops : Array Oper} {id : Nat} {Q : Ex → List AV → Heap → Prop} {τ : List AV} {H : Heap} {τ' : List AV} {H' : Heap} (h : opsA P F call ops H.next (List.range ops.size) τ { H with next := H.next + ops.size } = some (τ', H')) (hQ : Q .normal τ' H') : AWp P (.region id ops false) Q τ H :=
  .of_ok (region_sound fit hs (by simp only [regionA, Bool.false_eq_true, if_false]; exact h)) hQ
end Go.Proofs.Ytadjimfkfmojkaa.Am

end
section
namespace Go.Proofs.Ytadjimfkfmojkaa.Am
set_option linter.unusedVariables false
def frzRows (f : AV → Option AV) (rows : List (List AV)) : Option (List (List AV)) := allSome (rows.map fun r => allSome (r.map f))
/-- a value as it reads, without names of the heap -/
def frz (K : Heap) : Nat → AV → Option AV
  | 0, _ => none
  | d + 1, a => match a with
    | .sl b i n => if n = 0 then some (.lst []) else match K.get b with
      | some x => if 0 < x.size ∧ i + n ≤ x.rows.length then (frzRows (frz K d) ((x.rows.drop i).take n)).map .lst else none
      | none => none
    | .nils => some (.lst [])
    | .lst rows => (frzRows (frz K d) rows).map .lst
    | .agg cs => (allSome (cs.map (frz K d))).map .agg
    | .tup cs => (allSome (cs.map (frz K d))).map .tup
    | .ptr .. => none
    | .pptr .. => none
    | .fn .. => none
    | a => some a
end Go.Proofs.Ytadjimfkfmojkaa.Am

end
section
namespace Go.Proofs.Ytadjimfkfmojkaa.Am
open Go.RowKit
set_option linter.unusedVariables false
abbrev SH := List (Nat × Blk)
abbrev SH.names (L : SH) : List Nat := L.map Prod.fst
/-- the heap has these blocks -/
structure Sub (L : SH) (H : Heap) : Prop where
  nd : L.names.Nodup
  get : ∀ p ∈ L, H.get p.1 = some p.2
/-- what a piece of code that was told of L leaves; names below B are old -/
structure Fr (B : Nat) (L : SH) (H : Heap) (L' : SH) (H' : Heap) : Prop where
  next : H.next ≤ H'.next
  bd : Bd H'
  sub : Sub L' H'
  keep : ∀ b x, H.get b = some x → b ∉ L.names → H'.get b = some x ∧ b ∉ L'.names
  dom : ∀ b, b < B → H.get b = none → H'.get b = none
  fresh : ∀ b, b ∈ L'.names → b < B → b ∈ L.names
theorem Sub.mem {L : SH} {H : Heap} (h : Sub L H) {b : Nat} (hb : b ∈ L.names) : ∃ x, (b, x) ∈ L ∧ H.get b = some x := by
  obtain ⟨p, hp, rfl⟩ := List.mem_map.1 hb
  exact ⟨p.2, hp, h.get p hp⟩
theorem Sub.congr {L : SH} {H H' : Heap} (h : Sub L H) (hg : ∀ b, H'.get b = H.get b) : Sub L H' := ⟨h.nd, fun p hp => by rw [hg]; exact h.get p hp⟩
theorem Fr.refl {B : Nat} {L : SH} {H : Heap} (hb : Bd H) (h : Sub L H) : Fr B L H L H := ⟨Nat.le_refl _, hb, h, fun _ _ h1 h2 => ⟨h1, h2⟩, fun _ _ h => h, fun _ h _ => h⟩
theorem Fr.trans {B B' : Nat} {L L' L'' : SH} {H H' H'' : Heap} (h : Fr B L H L' H') (k : Fr B' L' H' L'' H'') (hB : B ≤ B') : Fr B L H L'' H'' where
  next := Nat.le_trans h.next k.next
  bd := k.bd
  sub := k.sub
  keep := fun b x h1 h2 => by obtain ⟨a1, a2⟩ := h.keep b x h1 h2; exact k.keep b x a1 a2
  dom := fun b hb h0 => k.dom b (Nat.lt_of_lt_of_le hb hB) (h.dom b hb h0)
  fresh := fun b h1 h2 => h.fresh b (k.fresh b h1 (Nat.lt_of_lt_of_le h2 hB)) h2
theorem Fr.low {B B' : Nat} {L L' : SH} {H H' : Heap} (h : Fr B' L H L' H') (hB : B ≤ B') : Fr B L H L' H' :=
  ⟨h.next, h.bd, h.sub, h.keep, fun b hb => h.dom b (Nat.lt_of_lt_of_le hb hB), fun b h1 h2 => h.fresh b h1 (Nat.lt_of_lt_of_le h2 hB)⟩
/-- a part of what is there may be handed on; the rest stays -/
theorem Sub.perm {L L' : SH} {H : Heap} (h : Sub L H) (hp : L.Perm L') : Sub L' H := ⟨(hp.map Prod.fst).nodup_iff.1 h.nd, fun p hq => h.get p (hp.mem_iff.2 hq)⟩
theorem Sub.left {K R : SH} {H : Heap} (h : Sub (K ++ R) H) : Sub K H := ⟨by have := h.nd; unfold SH.names at *; rw [List.map_append] at this; exact (List.nodup_append.1 this).1, fun p hp => h.get p (List.mem_append_left _ hp)⟩
theorem Sub.right {K R : SH} {H : Heap} (h : Sub (K ++ R) H) : Sub R H := ⟨by have := h.nd; unfold SH.names at *; rw [List.map_append] at this; exact (List.nodup_append.1 this).2.1, fun p hp => h.get p (List.mem_append_right _ hp)⟩
theorem Sub.disj {K R : SH} {H : Heap} (h : Sub (K ++ R) H) {b : Nat} (h1 : b ∈ K.names) (h2 : b ∈ R.names) : False := by
  have := h.nd
  unfold SH.names at *
  rw [List.map_append] at this
  exact (List.nodup_append.1 this).2.2 b h1 b h2 rfl
theorem Fr.frame {B : Nat} {K K' R L : SH} {H H' : Heap} (h : Fr B K H K' H') (hL : L.Perm (K ++ R)) (hs : Sub L H) : Fr B L H (K' ++ R) H' := by
  have hs' := hs.perm hL
  have hr : ∀ p ∈ R, H'.get p.1 = some p.2 ∧ p.1 ∉ K'.names := fun p hp =>
    h.keep p.1 p.2 (hs'.right.get p hp) (fun hk => hs'.disj hk (List.mem_map_of_mem hp))
  have hn : ∀ b, b ∈ L.names ↔ b ∈ K.names ∨ b ∈ R.names := fun b => by
    rw [(hL.map Prod.fst).mem_iff, List.map_append, List.mem_append]
  refine ⟨h.next, h.bd, ⟨?_, fun p hp => ?_⟩, fun b x h1 h2 => ?_, h.dom, fun b h1 h2 => ?_⟩
  · unfold SH.names
    rw [List.map_append, List.nodup_append]
    refine ⟨h.sub.nd, hs'.right.nd, fun a ha b hb he => ?_⟩
    subst he
    obtain ⟨p, hp, rfl⟩ := List.mem_map.1 hb
    exact (hr p hp).2 ha
  · rcases List.mem_append.1 hp with hp | hp
    · exact h.sub.get p hp
    · exact (hr p hp).1
  · rw [hn] at h2
    have h3 : b ∉ K.names := fun hk => h2 (.inl hk)
    obtain ⟨a1, a2⟩ := h.keep b x h1 h3
    refine ⟨a1, fun hk => ?_⟩
    unfold SH.names at hk
    rw [List.map_append, List.mem_append] at hk
    rcases hk with hk | hk
    · exact a2 hk
    · exact h2 (.inr hk)
  · unfold SH.names at h1
    rw [List.map_append, List.mem_append] at h1
    rw [hn]
    rcases h1 with h1 | h1
    · exact .inl (h.fresh b h1 h2)
    · exact .inr h1

section
variable {P : Program} {F : TypeId → Option (List TypeId)} {w w' : World} {σ σ' : Sig} {T T' : Nat → Prop}
theorem Rep.shrink {a : AV} {v : Value} (h : Rep w σ T a v) (hT : ∀ c, T' c → T c) : Rep w σ T' a v := by
  induction h with
  | int k n => exact .int k n
  | bool b => exact .bool b
  | str s => exact .str s
  | nilp => exact .nilp
  | ptr b i off pl h => exact .ptr b i off pl h
  | pptr rows i off b o sz hl h ih => exact .pptr rows i off b o sz (hl.shrink hT) ih
  | nils => exact .nils
  | emp a => exact .emp a
  | sl b i n pl a cap h hn hm ha => exact .sl b i n pl a cap h hn hm ha
  | lst0 a cap hm => exact .lst0 a cap hm
  | lst rows b o sz cap hl hn hm h ih => exact .lst rows b o sz cap (hl.shrink hT) hn hm ih
  | agg cs vs hl h ih => exact .agg cs vs hl ih
  | tup cs vs hl h ih => exact .tup cs vs hl ih
  | fn f cs vs hl h ih => exact .fn f cs vs hl ih
  | nilf => exact .nilf
  | junk v => exact .junk v
theorem Held.shrink {x : Blk} {pl : Place} {cs : Array Value} {e : TypeId} (h : Held w σ T x pl cs e) (hT : ∀ c, T' c → T c) : Held w σ T' x pl cs e :=
  ⟨h.size, h.block, h.even, h.room, fun i r j a u h1 h2 h3 => (h.rep i r j a u h1 h2 h3).shrink hT⟩
/-- fewer blocks -/
theorem Own.less {H H' : Heap} (h : ∀ b x, H'.get b = some x → H.get b = some x) (c : Nat) (hc : Own σ H' c) : Own σ H c := by
  rcases hc with hc | ⟨b, x, pl, h1, h2, h3⟩
  · exact .inl hc
  · exact .inr ⟨b, x, pl, h b x h1, h2, h3⟩
theorem WRel.less {H H' : Heap} (hW : WRel w σ H) (h : ∀ b x, H'.get b = some x → H.get b = some x) (hn : H.next ≤ H'.next) : WRel w σ H' where
  named := fun b pl hb => Nat.lt_of_lt_of_le (hW.named b pl hb) hn
  lt := hW.lt
  live := fun b x hb => by
    obtain ⟨pl, cs, e, h1, h2⟩ := hW.live b x (h b x hb)
    exact ⟨pl, cs, e, h1, h2.shrink (Own.less h)⟩
  apart := fun c hc => ⟨(hW.apart c hc).1, fun ⟨b, x, pl, h1, h2, h3⟩ => (hW.apart c hc).2 ⟨b, x, pl, h b x h1, h2, h3⟩⟩
  inj := fun b b' x x' pl pl' h1 h2 => hW.inj b b' x x' pl pl' (h b x h1) (h b' x' h2)
/-- every state that is told by the first is told by the second -/
def Shift (τ : List AV) (H : Heap) (τ1 : List AV) (H1 : Heap) : Prop :=
  H.next ≤ H1.next ∧ (∀ b x, H1.get b = some x → H.get b = some x) ∧ ∀ (w : World) (σ : Sig) (a : Act), WRel w σ H → TmpsOk w σ (Own σ H) τ a → TmpsOk w σ (Own σ H1) τ1 a
variable {c c1 c2 : Code} {τ τ1 τ2 : List AV} {H H1 H2 : Heap} {e : Ex}
theorem CodeOk.shift (h : CodeOk P c τ H e τ1 H1) (k : Shift τ1 H1 τ2 H2) : CodeOk P c τ H e τ2 H2 := by
  refine ⟨Nat.le_trans h.1 k.1, fun w σ a hW hτ Q hQ => h.2 w σ a hW hτ Q fun a' w' haf => hQ a' w' ?_⟩
  obtain ⟨σ', t, r, e1, m⟩ := haf
  exact ⟨σ', k.2.2 w' σ' a' r t, r.less k.2.1 k.1, ⟨e1.os, e1.tape, e1.output, e1.size, e1.keep, e1.shape, e1.sig, e1.eqfr, e1.frame, fun c hc => e1.own c (Own.less k.2.1 c hc)⟩, m⟩
theorem CodeOk.seq (h : CodeOk P c1 τ H .normal τ1 H1) (k : CodeOk P c2 τ1 H1 e τ2 H2) : CodeOk P (.seq c1 c2) τ H e τ2 H2 := by
  refine ⟨Nat.le_trans h.1 k.1, fun w σ a hW hτ Q hQ => wp_seq (h.2 w σ a hW hτ _ fun a' w' haf => ?_)⟩
  obtain ⟨σ1, t1, r1, e1, m1⟩ := haf
  exact k.2 w' σ1 a' r1 t1 Q fun a2 w2 haf2 => hQ a2 w2 (haf2.trans e1 m1 h.1)
theorem CodeOk.seq_out (h : CodeOk P c1 τ H e τ1 H1) (he : e ≠ .normal) : CodeOk P (.seq c1 c2) τ H e τ1 H1 := by
  refine ⟨h.1, fun w σ a hW hτ Q hQ => wp_seq (h.2 w σ a hW hτ _ fun a' w' haf => ?_)⟩
  cases e with
  | normal => exact absurd rfl he
  | exit id => exact hQ _ _ haf
  | ret => exact hQ _ _ haf
theorem CodeOk.cond {x : Operand} {t : Bool} (hb : aev τ x = .bool t) (h : CodeOk P (if t then c1 else c2) τ H e τ1 H1) : CodeOk P (.cond x c1 c2) τ H e τ1 H1 := by
  refine ⟨h.1, fun w σ a hW hτ Q hQ => wp_cond (t := t) ?_ (h.2 w σ a hW hτ Q hQ)⟩
  have := hτ.eval x
  rw [hb] at this
  generalize a.eval x = u at this
  cases this
  rfl
/-- how a block is left -/
def Ex.leave (id : Nat) : Ex → Ex
  | .exit id' => if id' = id then .normal else .exit id'
  | e => e
theorem CodeOk.block {id : Nat} (h : CodeOk P c τ H e τ1 H1) : CodeOk P (.block id c) τ H (e.leave id) τ1 H1 := by
  refine ⟨h.1, fun w σ a hW hτ Q hQ => wp_block (h.2 w σ a hW hτ _ fun a' w' haf => ?_)⟩
  have := hQ a' w' haf
  cases e with
  | normal => exact this
  | ret => exact this
  | exit id' =>
    simp only [exOf, Exit.inBlock]
    simp only [Ex.leave] at this
    by_cases hid : id' = id
    · simp only [hid, if_true] at this ⊢; exact this
    · simp only [hid, if_false] at this ⊢; exact this
theorem LoopOk.next {n : Nat} (h : CodeOk P c τ H .normal τ1 H1) (k : LoopOk P n c τ1 H1 e τ2 H2) : LoopOk P (n + 1) c τ H e τ2 H2 := by
  refine ⟨Nat.le_trans h.1 k.1, fun w σ a hW hτ Q hQ => ?_⟩
  rw [rounds_succ]
  refine h.2 w σ a hW hτ _ fun a' w' haf => ?_
  obtain ⟨σ1, t1, r1, e1, m1⟩ := haf
  exact k.2 w' σ1 a' r1 t1 Q fun a2 w2 haf2 => hQ a2 w2 (haf2.trans e1 m1 h.1)
theorem LoopOk.out (h : CodeOk P c τ H e τ1 H1) (he : e ≠ .normal) : LoopOk P 1 c τ H e τ1 H1 := by
  refine ⟨h.1, fun w σ a hW hτ Q hQ => ?_⟩
  rw [rounds_succ]
  refine h.2 w σ a hW hτ _ fun a' w' haf => ?_
  cases e with
  | normal => exact absurd rfl he
  | exit id => exact hQ _ _ haf
  | ret => exact hQ _ _ haf
theorem LoopOk.code {n : Nat} (h : LoopOk P n c τ H e τ1 H1) : CodeOk P (.loop c) τ H e τ1 H1 :=
  ⟨h.1, fun w σ a hW hτ Q hQ => wp_loop_rounds n (h.2 w σ a hW hτ Q hQ)⟩

def ARun (P : Program) (c : Code) (τ : List AV) (L : SH) (Q : Ex → List AV → SH → Prop) : Prop :=
  ∀ H, Bd H → Sub L H → ∃ e τ' H' L', CodeOk P c τ H e τ' H' ∧ Fr H.next L H L' H' ∧ Q e τ' L'
def CallA (P : Program) (f : FuncId) (args : List AV) (L : SH) (Q : AV → SH → Prop) : Prop :=
  (∃ fn c, P.funcs[f]? = some fn ∧ fn.body = some c) ∧ ∀ H, Bd H → Sub L H → ∃ v H' L', CallOk P f args H v H' ∧ Fr H.next L H L' H' ∧ Q v L'
variable {L : SH} {Q Q2 : Ex → List AV → SH → Prop}
theorem ARun.mono (h : ARun P c τ L Q) (hq : ∀ e τ' L', Q e τ' L' → Q2 e τ' L') : ARun P c τ L Q2 := fun H hb hs => by
  obtain ⟨e, τ', H', L', h1, h2, h3⟩ := h H hb hs
  exact ⟨e, τ', H', L', h1, h2, hq _ _ _ h3⟩
theorem CallA.mono {f : FuncId} {args : List AV} {R R2 : AV → SH → Prop} (h : CallA P f args L R) (hq : ∀ v L', R v L' → R2 v L') : CallA P f args L R2 := ⟨h.1, fun H hb hs => by
  obtain ⟨v, H', L', h1, h2, h3⟩ := h.2 H hb hs
  exact ⟨v, H', L', h1, h2, hq _ _ h3⟩⟩
theorem CallA.frame {f : FuncId} {args : List AV} {K R : SH} {R1 R2 : AV → SH → Prop} (h : CallA P f args K R1) (hL : L.Perm (K ++ R)) (hq : ∀ v K', R1 v K' → R2 v (K' ++ R)) : CallA P f args L R2 := ⟨h.1, fun H hb hs => by
  obtain ⟨v, H', K', h1, h2, h3⟩ := h.2 H hb (hs.perm hL).left
  exact ⟨v, H', K' ++ R, h1, h2.frame hL hs, hq _ _ h3⟩⟩
theorem ARun.stop (e : Ex) (hc : ∀ H, CodeOk P c τ H e τ H) (h : Q e τ L) : ARun P c τ L Q := fun H hb hs => ⟨e, τ, H, L, hc H, .refl hb hs, h⟩
theorem ARun.skip (h : Q .normal τ L) : ARun P .skip τ L Q := .stop .normal (fun H => ⟨Nat.le_refl _, fun w σ a hW hτ Q hQ => wp_skip (hQ _ _ (.refl hW hτ))⟩) h
theorem ARun.exit {id : Nat} (h : Q (.exit id) τ L) : ARun P (.exit id) τ L Q := .stop (.exit id) (fun H => ⟨Nat.le_refl _, fun w σ a hW hτ Q hQ => wp_exit (hQ _ _ (.refl hW hτ))⟩) h
theorem ARun.ret (h : Q .ret τ L) : ARun P .ret τ L Q := .stop .ret (fun H => ⟨Nat.le_refl _, fun w σ a hW hτ Q hQ => wp_ret (hQ _ _ (.refl hW hτ))⟩) h
theorem ARun.label {l : Nat} (h : Q .normal τ L) : ARun P (.label l) τ L Q := .stop .normal (fun H => ⟨Nat.le_refl _, fun w σ a hW hτ Q hQ => wp_label (hQ _ _ (.refl hW hτ))⟩) h
theorem ARun.seq (h : ARun P c1 τ L fun e τ' L' => match e with | .normal => ARun P c2 τ' L' Q | e => Q e τ' L') : ARun P (.seq c1 c2) τ L Q := fun H hb hs => by
  obtain ⟨e, τ1, H1, L1, h1, h2, h3⟩ := h H hb hs
  cases e with
  | normal =>
    obtain ⟨e, τ2, H2, L2, k1, k2, k3⟩ := h3 H1 h2.bd h2.sub
    exact ⟨e, τ2, H2, L2, h1.seq k1, h2.trans k2 h2.next, k3⟩
  | exit id => exact ⟨_, τ1, H1, L1, h1.seq_out (by simp), h2, h3⟩
  | ret => exact ⟨_, τ1, H1, L1, h1.seq_out (by simp), h2, h3⟩
theorem ARun.cond {x : Operand} {t : Bool} (hb : aev τ x = .bool t) (h : ARun P (if t then c1 else c2) τ L Q) : ARun P (.cond x c1 c2) τ L Q := fun H hB hs => by
  obtain ⟨e, τ1, H1, L1, h1, h2, h3⟩ := h H hB hs
  exact ⟨e, τ1, H1, L1, h1.cond hb, h2, h3⟩
theorem ARun.block {id : Nat} (h : ARun P c τ L fun e τ' L' => Q (e.leave id) τ' L') : ARun P (.block id c) τ L Q := fun H hB hs => by
  obtain ⟨e, τ1, H1, L1, h1, h2, h3⟩ := h H hB hs
  exact ⟨_, τ1, H1, L1, h1.block, h2, h3⟩
theorem ARun.loop (I : Nat → List AV → SH → Prop) (hs : ∀ n τ L, I n τ L → ARun P c τ L fun e τ' L' => match e with | .normal => ∃ m, m < n ∧ I m τ' L' | e => Q e τ' L') (n : Nat) (h0 : I n τ L) : ARun P (.loop c) τ L Q := by
  have key : ∀ n τ L, I n τ L → ∀ H, Bd H → Sub L H → ∃ k e τ' H' L', LoopOk P k c τ H e τ' H' ∧ Fr H.next L H L' H' ∧ Q e τ' L' := by
    intro n
    induction n using Nat.strongRecOn with
    | _ n ih =>
      intro τ L hI H hB hS
      obtain ⟨e, τ1, H1, L1, h1, h2, h3⟩ := hs n τ L hI H hB hS
      cases e with
      | normal =>
        obtain ⟨m, hm, hI1⟩ := h3
        obtain ⟨k, e, τ2, H2, L2, k1, k2, k3⟩ := ih m hm τ1 L1 hI1 H1 h2.bd h2.sub
        exact ⟨k + 1, e, τ2, H2, L2, .next h1 k1, h2.trans k2 h2.next, k3⟩
      | exit id => exact ⟨1, _, τ1, H1, L1, .out h1 (by simp), h2, h3⟩
      | ret => exact ⟨1, _, τ1, H1, L1, .out h1 (by simp), h2, h3⟩
  intro H hB hS
  obtain ⟨k, e, τ', H', L', h1, h2, h3⟩ := key n τ L h0 H hB hS
  exact ⟨e, τ', H', L', h1.code, h2, h3⟩
/-- slots of which nothing is said any more -/
def Dim (τ τ1 : List AV) : Prop := τ1.length = τ.length ∧ ∀ (i : Nat) (x : AV), τ1[i]? = some x → x = .junk ∨ τ[i]? = some x
theorem Dim.tmps {T : Nat → Prop} {a : Act} (h : Dim τ τ1) (ht : TmpsOk w σ T τ a) : TmpsOk w σ T τ1 a := by
  refine ⟨⟨by rw [h.1]; exact ht.1.1, fun i x u h1 h2 => ?_⟩, ht.2⟩
  rcases h.2 i x h1 with rfl | h3
  · exact .junk _
  · exact ht.1.2 i x u h3 h2
theorem ARun.dim (hd : Dim τ τ1) (h : ARun P c τ1 L Q) : ARun P c τ L Q := fun H hB hs => by
  obtain ⟨e, τ', H', L', h1, h2, h3⟩ := h H hB hs
  exact ⟨e, τ', H', L', ⟨h1.1, fun w σ a hW hτ Q hQ => h1.2 w σ a hW (hd.tmps hτ) Q hQ⟩, h2, h3⟩
end
end Go.Proofs.Ytadjimfkfmojkaa.Am

end
section
namespace Go.Proofs.Ytadjimfkfmojkaa.Am
open Go.RowKit
set_option linter.unusedVariables false
/-- block b becomes x' -/
inductive Upd (b : Nat) (x x' : Blk) : SH → SH → Prop where
  | here (L : SH) : Upd b x x' ((b, x) :: L) ((b, x') :: L)
  | there (p : Nat × Blk) {L L' : SH} : Upd b x x' L L' → Upd b x x' (p :: L) (p :: L')
/-- block b is given up -/
inductive Del (b : Nat) (x : Blk) : SH → SH → Prop where
  | here (L : SH) : Del b x ((b, x) :: L) L
  | there (p : Nat × Blk) {L L' : SH} : Del b x L L' → Del b x (p :: L) (p :: L')
theorem Upd.mem {b : Nat} {x x' : Blk} {L L' : SH} (h : Upd b x x' L L') : (b, x) ∈ L := by
  induction h with
  | here L => simp
  | there p h ih => simp [ih]
theorem Upd.names {b : Nat} {x x' : Blk} {L L' : SH} (h : Upd b x x' L L') : L'.names = L.names := by
  induction h with
  | here L => rfl
  | there p h ih => simp only [List.map_cons, ih]
theorem Upd.get {b : Nat} {x x' : Blk} {L L' : SH} (h : Upd b x x' L L') (hn : L.names.Nodup) : ∀ p ∈ L', p = (b, x') ∨ (p ∈ L ∧ p.1 ≠ b) := by
  induction h with
  | here L =>
    intro p hp
    rcases List.mem_cons.1 hp with rfl | hp
    · exact .inl rfl
    · refine .inr ⟨by simp [hp], fun he => ?_⟩
      simp only [List.map_cons, List.nodup_cons] at hn
      exact hn.1 (he ▸ List.mem_map_of_mem hp)
  | there q h ih =>
    intro p hp
    simp only [List.map_cons, List.nodup_cons] at hn
    rcases List.mem_cons.1 hp with rfl | hp
    · refine .inr ⟨by simp, fun he => hn.1 ?_⟩
      rw [he]
      exact List.mem_map_of_mem (f := Prod.fst) h.mem
    · rcases ih hn.2 p hp with rfl | ⟨h1, h2⟩
      · exact .inl rfl
      · exact .inr ⟨by simp [h1], h2⟩
theorem Del.perm {b : Nat} {x : Blk} {L L' : SH} (h : Del b x L L') : L.Perm ((b, x) :: L') := by
  induction h with
  | here L => exact .refl _
  | there p h ih => exact (ih.cons p).trans (.swap _ _ _)

def getB : SH → Nat → Option Blk
  | [], _ => none
  | (c, x) :: L, b => if c = b then some x else getB L b
def setB : SH → Nat → Blk → SH
  | [], _, _ => []
  | (c, x) :: L, b, y => if c = b then (c, y) :: L else (c, x) :: setB L b y
def delB : SH → Nat → SH
  | [], _ => []
  | (c, x) :: L, b => if c = b then L else (c, x) :: delB L b
/-- what one operation leaves; b: the name of the block that it may make -/
structure OpFr (b : Nat) (L : SH) (H : Heap) (L' : SH) (H' : Heap) : Prop where
  next : H'.next = H.next
  bd : Bd H'
  sub : Sub L' H'
  keep : ∀ c x, H.get c = some x → c ∉ L.names → H'.get c = some x ∧ c ∉ L'.names
  dom : ∀ c, c ≠ b → H.get c = none → H'.get c = none
  fresh : ∀ c, c ∈ L'.names → c = b ∨ c ∈ L.names
theorem OpFr.refl {b : Nat} {L : SH} {H : Heap} (hb : Bd H) (hs : Sub L H) : OpFr b L H L H := ⟨rfl, hb, hs, fun _ _ h1 h2 => ⟨h1, h2⟩, fun _ _ h => h, fun _ h => .inr h⟩
theorem Sub.not_mem {L : SH} {H : Heap} (hs : Sub L H) {b : Nat} (h : H.get b = none) : b ∉ L.names := fun hb => by
  obtain ⟨x, _, hx⟩ := hs.mem hb
  rw [h] at hx; cases hx
theorem OpFr.new {b : Nat} {L : SH} {H : Heap} (hb : Bd H) (hs : Sub L H) (hlt : b < H.next) (h0 : H.get b = none) (x : Blk) : OpFr b L H ((b, x) :: L) (H.new b x) where
  next := rfl
  bd := fun c hc => by
    have hc' : H.next ≤ c := hc
    rw [Heap.get_new, if_neg (by omega)]; exact hb c hc'
  sub := ⟨by simp only [List.map_cons, List.nodup_cons]; exact ⟨hs.not_mem h0, hs.nd⟩, fun p hp => by
    rcases List.mem_cons.1 hp with rfl | hp
    · rw [Heap.get_new, if_pos rfl]
    · have := hs.get p hp
      rw [Heap.get_new, if_neg]
      · exact this
      · intro he; rw [← he, h0] at this; cases this⟩
  keep := fun c y h1 h2 => by
    have hne : b ≠ c := fun he => by rw [← he, h0] at h1; cases h1
    refine ⟨by rw [Heap.get_new, if_neg hne]; exact h1, fun hm => ?_⟩
    simp only [List.map_cons, List.mem_cons] at hm
    rcases hm with hm | hm
    · exact hne hm.symm
    · exact h2 hm
  dom := fun c hc h => by rw [Heap.get_new, if_neg (fun e => hc e.symm)]; exact h
  fresh := fun c hc => by simpa using hc
theorem OpFr.put {b c : Nat} {L L' : SH} {H : Heap} {x x' : Blk} (hb : Bd H) (hs : Sub L H) (hu : Upd c x x' L L') : OpFr b L H L' (H.put c (some x')) where
  next := rfl
  bd := fun d hd => by
    have hd' : H.next ≤ d := hd
    have h1 := hs.get _ hu.mem
    rw [Heap.get_put, if_neg (fun e => by subst e; rw [hb _ hd'] at h1; cases h1)]
    exact hb d hd'
  sub := ⟨by rw [hu.names]; exact hs.nd, fun p hp => by
    rcases hu.get hs.nd p hp with rfl | ⟨h1, h2⟩
    · rw [Heap.get_put, if_pos rfl]
    · rw [Heap.get_put, if_neg (fun e => h2 e.symm)]; exact hs.get p h1⟩
  keep := fun d y h1 h2 => by
    have hne : c ≠ d := fun e => h2 (e ▸ List.mem_map_of_mem (f := Prod.fst) hu.mem)
    exact ⟨by rw [Heap.get_put, if_neg hne]; exact h1, by rw [hu.names]; exact h2⟩
  dom := fun d _ h => by
    rw [Heap.get_put, if_neg]
    · exact h
    · intro e
      have h1 := hs.get _ hu.mem
      rw [e, h] at h1; cases h1
  fresh := fun d hd => by rw [hu.names] at hd; exact .inr hd
theorem OpFr.del {b c : Nat} {L L' : SH} {H : Heap} {x : Blk} (hb : Bd H) (hs : Sub L H) (hu : Del c x L L') : OpFr b L H L' (H.put c none) := by
  have hs' : Sub ((c, x) :: L') H := hs.perm hu.perm
  have hn : ∀ d, d ∈ L.names ↔ d = c ∨ d ∈ L'.names := fun d => by rw [(hu.perm.map Prod.fst).mem_iff]; simp
  have hnd := hs'.nd
  simp only [List.map_cons, List.nodup_cons] at hnd
  refine ⟨rfl, fun d hd => ?_, ⟨hnd.2, fun p hp => ?_⟩, fun d y h1 h2 => ?_, fun d _ h => ?_, fun d hd => .inr ((hn d).2 (.inr hd))⟩
  · have hd' : H.next ≤ d := hd
    rw [Heap.get_put]
    split
    · rfl
    · exact hb d hd'
  · rw [Heap.get_put, if_neg (fun (e : c = p.1) => hnd.1 (e ▸ List.mem_map_of_mem (f := Prod.fst) hp))]
    exact hs'.get p (by simp [hp])
  · rw [hn] at h2
    refine ⟨by rw [Heap.get_put, if_neg (fun e => h2 (.inl e.symm))]; exact h1, fun h => h2 (.inr h)⟩
  · rw [Heap.get_put]
    split
    · rfl
    · exact h
theorem OpFr.trans {b : Nat} {L L' L'' : SH} {H H' H'' : Heap} (h : OpFr b L H L' H') (k : OpFr b L' H' L'' H'') : OpFr b L H L'' H'' where
  next := k.next.trans h.next
  bd := k.bd
  sub := k.sub
  keep := fun c x h1 h2 => by obtain ⟨a1, a2⟩ := h.keep c x h1 h2; exact k.keep c x a1 a2
  dom := fun c hc h0 => k.dom c hc (h.dom c hc h0)
  fresh := fun c hc => by
    rcases k.fresh c hc with h1 | h1
    · exact .inl h1
    · exact h.fresh c h1

namespace W0
def rowLd (ag : Bool) (n : Nat) (row : List AV) (off : Nat) : Option AV :=
  if ag then (if off + n ≤ row.length then some (.agg ((row.drop off).take n)) else none) else row[off]?
def fillR (cells : List AV) : List (Nat × Nat × AV) → Option (List AV)
  | [] => some cells
  | (off, size, v) :: rest => match v.cells? with
    | some cs => if cs.length = size ∧ off + size ≤ cells.length ∧ cs.all AV.one then fillR (rowStore cells off cs) rest else none
    | none => none
section
variable (P : Program) (F : TypeId → Option (List TypeId))
def opt (x : Option AV) (K : AV → Prop) : Prop := ∃ v, x = some v ∧ K v
def pick (c x y : AV) (K : AV → Prop) : Prop := ∃ t, c = .bool t ∧ K (if t then x else y)
def un (op : UnOp) (x : AV) (K : AV → Prop) : Prop := opt (unA op x) K
def bin (op : BinOp) (t : TypeId) (x y : AV) (K : AV → Prop) : Prop := opt (binA P F op t x y) K
def conv (k : IntKind) (x : AV) (K : AV → Prop) : Prop := ∃ k' n, x = .int k' n ∧ K (.int k (k.wrap n))
def convS (x : AV) (K : AV → Prop) : Prop := ∃ s, x = .str s ∧ K (.str s)
def faddr (off : Nat) (x : AV) (K : AV → Prop) : Prop := match x with
  | .ptr b i o => K (.ptr b i (o + off))
  | .pptr rows i o => K (.pptr rows i (o + off))
  | _ => False
def fld (ag : Bool) (n off : Nat) (x : AV) (K : AV → Prop) : Prop := ∃ cs v, x = .agg cs ∧ rowLd ag n cs off = some v ∧ K v
def loadR (ag : Bool) (n : Nat) (a : AV) (L : SH) (K : AV → Prop) : Prop := match a with
  | .ptr b i off => ∃ x r v, (b, x) ∈ L ∧ x.rows[i]? = some r ∧ rowLd ag n r off = some v ∧ K v
  | .pptr rows i off => ∃ r v, rows[i]? = some r ∧ rowLd ag n r off = some v ∧ K v
  | _ => False
def storeR (n : Nat) (a v : AV) (L : SH) (K : SH → Prop) : Prop := match a with
  | .ptr b i off => ∃ x r cs L', x.rows[i]? = some r ∧ v.cells? = some cs ∧ cs.length = n ∧ cs.all AV.one = true ∧ off + n ≤ r.length ∧ Upd b x ⟨x.size, x.rows.set i (rowStore r off cs)⟩ L L' ∧ K L'
  | _ => False
def idxR (n : Nat) (x ix : AV) (L : SH) (K : AV → Prop) : Prop := match x with
  | .sl b j m => ∃ k i y, ix = .int k i ∧ 0 ≤ i ∧ i.toNat < m ∧ (b, y) ∈ L ∧ y.size = n ∧ K (.ptr b (j + i.toNat) 0)
  | .lst rows => ∃ k i r, ix = .int k i ∧ 0 ≤ i ∧ rows[i.toNat]? = some r ∧ r.length = n ∧ K (.pptr rows i.toNat 0)
  | _ => False
def idxP (len n : Nat) (x ix : AV) (K : AV → Prop) : Prop := ∃ k i, ix = .int k i ∧ 0 ≤ i ∧ i.toNat < len ∧ (match x with
  | .ptr b j off => K (.ptr b j (off + i.toNat * n))
  | .pptr rows j off => K (.pptr rows j (off + i.toNat * n))
  | _ => False)
def ixS (x ix : AV) (K : AV → Prop) : Prop := ∃ s k i b, x = .str s ∧ ix = .int k i ∧ 0 ≤ i ∧ s[i.toNat]? = some b ∧ K (.int .u8 b.toNat)
def ixA (ag : Bool) (len n : Nat) (x ix : AV) (K : AV → Prop) : Prop := ∃ cs k i v, x = .agg cs ∧ ix = .int k i ∧ 0 ≤ i ∧ i.toNat < len ∧ rowLd ag n cs (i.toNat * n) = some v ∧ K v
def ext (i : Nat) (x : AV) (K : AV → Prop) : Prop := ∃ vs v, x = .tup vs ∧ vs[i]? = some v ∧ K v
def nilchk (x : AV) (K : AV → Prop) : Prop := match x with
  | .ptr b i off => K (.ptr b i off)
  | .pptr rows i off => K (.pptr rows i off)
  | .fn f cs => K (.fn f cs)
  | _ => False
def build (z : List AV) (parts : List (Nat × Nat × AV)) (K : AV → Prop) : Prop := ∃ cs, fillR z parts = some cs ∧ K (.agg cs)
def alloc (cs : List AV) (L : SH) (K : AV → SH → Prop) : Prop := ∀ b, b ∉ L.names → K (.ptr b 0 0) ((b, ⟨cs.length, [cs]⟩) :: L)
def box (x : AV) (L : SH) (K : AV → SH → Prop) : Prop := ∃ cs, x.cells? = some cs ∧ cs.all AV.one = true ∧ ∀ b, b ∉ L.names → K (.ptr b 0 0) ((b, ⟨cs.length, [cs]⟩) :: L)
def bslice (n : Nat) (z : List AV) (len : Nat) (parts : List (Nat × AV)) (L : SH) (K : AV → SH → Prop) : Prop :=
  len * n ≤ 2 ^ 24 ∧ ∃ rows, fillRows n (List.replicate len z) parts = some rows ∧ ∀ b, b ∉ L.names → K (.sl b 0 len) ((b, ⟨n, rows⟩) :: L)
def mslice (n by_ : Nat) (z : List AV) (l c : AV) (L : SH) (K : AV → SH → Prop) : Prop :=
  ∃ (k k' : IntKind) (i j : Nat), l = .int k i ∧ c = .int k' j ∧ i ≤ j ∧ j ≤ 2 ^ 62 ∧ j * by_ ≤ 2 ^ 48 ∧ ∀ b, b ∉ L.names → K (.sl b 0 i) ((b, ⟨n, List.replicate i z⟩) :: L)
/-- the rows of a slice -/
def rowsR (L : SH) (n : Nat) (s : AV) (rows : List (List AV)) : Prop := match s with
  | .nils => rows = []
  | .emp => rows = []
  | .lst l => rows = l ∧ ∀ r, l.head? = some r → r.length = n
  | .sl b i k => ∃ x, (b, x) ∈ L ∧ x.size = n ∧ i + k ≤ x.rows.length ∧ rows = (x.rows.drop i).take k
  | _ => False
def appendR (n by_ : Nat) (s x : AV) (L : SH) (K : AV → SH → Prop) : Prop :=
  ∃ l m, rowsR L n s l ∧ rowsR L n x m ∧ 2 * (l.length + m.length) * by_ ≤ 2 ^ 48 ∧ 2 * (l.length + m.length) ≤ 2 ^ 62 ∧ (m.all fun r => r.all AV.one) = true ∧
  (match s with
    | .nils => (m.length = 0 → K .nils L) ∧ (m.length ≠ 0 → ∀ b, b ∉ L.names → K (.sl b 0 m.length) ((b, ⟨n, m⟩) :: L))
    | .emp => (m.length = 0 → K .emp L) ∧ (m.length ≠ 0 → ∀ b, b ∉ L.names → K (.sl b 0 m.length) ((b, ⟨n, m⟩) :: L))
    | .sl b' _ _ => ∃ y L', Del b' y L L' ∧ ∀ b, b ∉ L.names → K (.sl b 0 (l.length + m.length)) ((b, ⟨n, l ++ m⟩) :: L')
    | _ => False)
def len (x : AV) (K : AV → Prop) : Prop := ∃ n : Nat, lenA x = some n ∧ K (.int .i64 (n : Int))
def lenS (x : AV) (K : AV → Prop) : Prop := ∃ s, x = .str s ∧ K (.int .i64 (s.length : Int))
def mnx (mx : Bool) (x y : AV) (K : AV → Prop) : Prop := ∃ k a c, x = .int k a ∧ y = .int k c ∧ K (.int k (if mx then (if c > a then c else a) else (if c < a then c else a)))
/-- x[lo:hi] of a slice of elements of n cells -/
def sliceR (n : Nat) (x : AV) (lo hi mx : Option AV) (L : SH) (K : AV → Prop) : Prop :=
  ∃ len l h m, lenA x = some len ∧ boundA lo 0 = some l ∧ boundA hi len = some h ∧ boundA mx len = some m ∧ l ≤ h ∧ h ≤ m ∧ m ≤ len ∧
  (match x with
    | .nils => K .nils
    | .sl b i _ => (∃ y, (b, y) ∈ L ∧ y.size = n) ∧ K (.sl b (i + l) (h - l))
    | .lst rows => (∀ r, rows.head? = some r → r.length = n) ∧ K (.lst ((rows.drop l).take (h - l)))
    | _ => False)
def sliceS (x : AV) (lo hi : Option AV) (K : AV → Prop) : Prop :=
  ∃ s l h, x = .str s ∧ boundA lo 0 = some l ∧ boundA hi s.length = some h ∧ l ≤ h ∧ h ≤ s.length ∧ K (.str ((s.drop l).take (h - l)))
def load (ag : Bool) (n : Nat) (a : AV) (L : SH) (K : AV → Prop) : Prop := match a with
  | .ptr b i off => (match getB L b with
    | some x => opt ((x.rows[i]?).bind fun r => rowLd ag n r off) K
    | none => False)
  | .pptr rows i off => opt ((rows[i]?).bind fun r => rowLd ag n r off) K
  | _ => False
def store (n : Nat) (a v : AV) (L : SH) (K : SH → Prop) : Prop := match a with
  | .ptr b i off => (match getB L b with
    | some x => (match x.rows[i]?, v.cells? with
      | some r, some cs => (cs.length = n ∧ cs.all AV.one = true ∧ off + n ≤ r.length) ∧ K (setB L b ⟨x.size, x.rows.set i (rowStore r off cs)⟩)
      | _, _ => False)
    | none => False)
  | _ => False
def idx (n : Nat) (x ix : AV) (L : SH) (K : AV → Prop) : Prop := match x, ix with
  | .sl b j m, .int _ i => (match getB L b with
    | some y => (0 ≤ i ∧ i.toNat < m ∧ y.size = n) ∧ K (.ptr b (j + i.toNat) 0)
    | none => False)
  | .lst rows, .int _ i => 0 ≤ i ∧ (match rows[i.toNat]? with
    | some r => r.length = n ∧ K (.pptr rows i.toNat 0)
    | none => False)
  | _, _ => False
def rowsF (L : SH) (n : Nat) (s : AV) (K : List (List AV) → Prop) : Prop := match s with
  | .nils => K []
  | .emp => K []
  | .lst l => (∀ r, l.head? = some r → r.length = n) ∧ K l
  | .sl b i k => (match getB L b with
    | some x => (x.size = n ∧ i + k ≤ x.rows.length) ∧ K ((x.rows.drop i).take k)
    | none => False)
  | _ => False
def append (n by_ : Nat) (s x : AV) (L : SH) (K : AV → SH → Prop) : Prop :=
  rowsF L n s fun l => rowsF L n x fun m => (2 * (l.length + m.length) * by_ ≤ 2 ^ 48 ∧ 2 * (l.length + m.length) ≤ 2 ^ 62 ∧ (m.all fun r => r.all AV.one) = true) ∧
  (match s with
    | .nils => (m.length = 0 → K .nils L) ∧ (m.length ≠ 0 → ∀ b, b ∉ L.names → K (.sl b 0 m.length) ((b, ⟨n, m⟩) :: L))
    | .emp => (m.length = 0 → K .emp L) ∧ (m.length ≠ 0 → ∀ b, b ∉ L.names → K (.sl b 0 m.length) ((b, ⟨n, m⟩) :: L))
    | .sl b' _ _ => ∀ b, b ∉ L.names → K (.sl b 0 (l.length + m.length)) ((b, ⟨n, l ++ m⟩) :: delB L b')
    | _ => False)
/-- x[lo:hi] of a slice of elements of n cells -/
def slice (n : Nat) (x : AV) (lo hi mx : Option AV) (L : SH) (K : AV → Prop) : Prop := match lenA x with
  | some len => (match boundA lo 0, boundA hi len, boundA mx len with
    | some l, some h, some m => (l ≤ h ∧ h ≤ m ∧ m ≤ len) ∧ (match x with
      | .nils => K .nils
      | .sl b i _ => (match getB L b with
        | some y => y.size = n ∧ K (.sl b (i + l) (h - l))
        | none => False)
      | .lst rows => (∀ r, rows.head? = some r → r.length = n) ∧ K (.lst ((rows.drop l).take (h - l)))
      | _ => False)
    | _, _, _ => False)
  | none => False
/-- clear of a slice of elements of n cells, whose zero is z -/
def clearR (n : Nat) (z : List AV) (x : AV) (L : SH) (K : SH → Prop) : Prop := match x with
  | .nils => K L
  | .sl b i k => ∃ y L', y.size = n ∧ i + k ≤ y.rows.length ∧ Upd b y ⟨y.size, y.rows.take i ++ List.replicate k z ++ y.rows.drop (i + k)⟩ L L' ∧ K L'
  | _ => False
def zof (t : TypeId) : Option (List AV) := (zeroA P t).bind AV.cells?
/-- What an operation demands; none: it is a call. -/
def op (o : Op) (ρ : Operand → AV) (L : SH) (K : AV → SH → Prop) : Prop :=
  let k := fun v => K v L
  match o with
  | .move x | .assign x => K (ρ x) L
  | .pick c x y => pick (ρ c) (ρ x) (ρ y) k
  | .alloc t => match zof P t with
    | some cs => alloc cs L K
    | none => False
  | .box _ x => box (ρ x) L K
  | .build t parts => match P.underlying t, zeroA P t with
    | some (.struct fs), some (.agg z) => if (fs.toList.all fun f => (sizeA P f.type).isSome) = true then
        (match allSome (parts.toList.map fun p => (placesA P fs p.1).map fun q => (q.1, q.2, ρ p.2)) with
          | some ps => build z ps k
          | none => False)
      else False
    | some (.array _ e), some (.agg z) => (match sizeA P e with
      | some n => build z (parts.toList.map fun p => (p.1 * n, n, ρ p.2)) k
      | none => False)
    | _, _ => False
  | .buildSlice t len parts => match P.underlying t with
    | some (.slice e) => match sizeA P e, zof P e with
      | some n, some z => if z.length = n ∧ 0 < n then bslice n z len (parts.toList.map fun p => (p.1, ρ p.2)) L K else False
      | _, _ => False
    | _ => False
  | .load t a => match isAggA P t, sizeA P t with
    | some ag, some n => loadR ag n (ρ a) L k
    | _, _ => False
  | .store t a x => match sizeA P t with
    | some n => storeR n (ρ a) (ρ x) L (K (.tup []))
    | none => False
  | .nilCheck x => nilchk (ρ x) k
  | .binOp op t x y _ => bin P F op t (ρ x) (ρ y) k
  | .unOp op _ x => un op (ρ x) k
  | .convert s d x => match P.underlying s, P.underlying d with
    | some (.int _), some (.int kd) => conv kd (ρ x) k
    | some .string, some .string => convS (ρ x) k
    | _, _ => False
  | .makeFunc (.func f) first cap => if first.size = 0 then K (.fn f (cap.toList.map ρ)) L else False
  | .makeSlice t l c => match P.underlying t with
    | some (.slice e) => match sizeA P e, bytesA P e, zof P e with
      | some n, some by_, some z => if z.length = n ∧ 0 < n then mslice n by_ z (ρ l) (ρ c) L K else False
      | _, _, _ => False
    | _ => False
  | .slice t x lo hi mx => if (hi.isNone && mx.isSome) = true then False else match P.underlying t with
    | some (.slice e) => (match sizeA P e with
      | some n => sliceR n (ρ x) (lo.map ρ) (hi.map ρ) (mx.map ρ) L k
      | none => False)
    | some .string => if mx.isNone = true then sliceS (ρ x) (lo.map ρ) (hi.map ρ) k else False
    | _ => False
  | .fieldAddr s x f => match P.underlying s with
    | some (.struct fs) => match fs[f]? with
      | some f => (match sizeA P f.type with
        | some n => if n = 0 then False else faddr f.offset (ρ x) k
        | none => False)
      | none => False
    | _ => False
  | .field s x f => match P.underlying s with
    | some (.struct fs) => match fs[f]? with
      | some f => (match isAggA P f.type, sizeA P f.type with
        | some ag, some n => fld ag n f.offset (ρ x) k
        | _, _ => False)
      | none => False
    | _ => False
  | .indexAddr t x ix => match P.underlying t with
    | some (.slice e) => (match sizeA P e with
      | some n => idxR n (ρ x) (ρ ix) L k
      | none => False)
    | some (.array len e) => (match sizeA P e with
      | some n => idxP len n (ρ x) (ρ ix) k
      | none => False)
    | _ => False
  | .index t x ix => match P.underlying t with
    | some .string => ixS (ρ x) (ρ ix) k
    | some (.array len e) => (match isAggA P e, sizeA P e with
      | some ag, some n => ixA ag len n (ρ x) (ρ ix) k
      | _, _ => False)
    | _ => False
  | .extract x i => ext i (ρ x) k
  | .call c => match c.callee with
    | .builtin .len => (match c.args.toList, (c.argTypes[0]?).bind P.underlying with
      | [x], some (.slice _) => len (ρ x) k
      | [x], some .string => lenS (ρ x) k
      | [x], some (.array n _) => (match ρ x with | .str _ => False | _ => K (.int .i64 n) L)
      | _, _ => False)
    | .builtin .append => (match c.args.toList, c.argTypes.toList with
      | [s, x], [t, tx] => (match P.underlying t, P.underlying tx with
        | some (.slice e), some (.slice _) => (match sizeA P e, bytesA P e, zof P e with
          | some n, some by_, some z => if z.length = n ∧ 0 < n then appendR n by_ (ρ s) (ρ x) L K else False
          | _, _, _ => False)
        | _, _ => False)
      | _, _ => False)
    | .builtin .min => (match c.args.toList with
      | [x, y] => mnx false (ρ x) (ρ y) k
      | _ => False)
    | .builtin .max => (match c.args.toList with
      | [x, y] => mnx true (ρ x) (ρ y) k
      | _ => False)
    | .builtin .clear => (match c.args.toList, c.argTypes.toList with
      | [x], [t] => (match P.underlying t with
        | some (.slice e) => (match sizeA P e, zof P e with
          | some n, some z => if (z.length = n ∧ 0 < n) ∧ z.all AV.one = true then clearR n z (ρ x) L (K (.tup [])) else False
          | _, _ => False)
        | _ => False)
      | _, _ => False)
    | .value f => (match ρ f with
      | .fn g cs => CallA P g (c.args.toList.map ρ ++ cs) L K
      | _ => False)
    | _ => False
  | _ => False
end
end W0
end Go.Proofs.Ytadjimfkfmojkaa.Am

end
section
namespace Go.Proofs.Ytadjimfkfmojkaa.Am
open Go.RowKit
set_option linter.unusedVariables false
section
variable {P : Program} {F : TypeId → Option (List TypeId)} {ρ : Operand → AV} {L : SH} {K : AV → SH → Prop} {b : Nat} {H : Heap}
theorem rowLd_ok {t : TypeId} {ag : Bool} {n off : Nat} {row : List AV} {v : AV} (h1 : isAggA P t = some ag) (h2 : sizeA P t = some n) (h : W0.rowLd ag n row off = some v) : rowLoad P t row off = some v := by
  unfold rowLoad
  rw [h1, h2]
  cases ag with
  | true => simpa [W0.rowLd] using h
  | false => simpa [W0.rowLd] using h
theorem fillR_ok {place : Nat → Option (Nat × Nat)} : ∀ (parts : List (Nat × AV)) (ps : List (Nat × Nat × AV)) (z cs : List AV), allSome (parts.map fun p => (place p.1).map fun q => (q.1, q.2, p.2)) = some ps → W0.fillR z ps = some cs → fillA place z parts = some cs
  | [], ps, z, cs, h1, h2 => by cases h1; exact h2
  | (i, v) :: parts, ps, z, cs, h1, h2 => by
    simp only [List.map_cons] at h1
    cases hp : place i with
    | none => rw [hp] at h1; cases h1
    | some q =>
      rw [hp] at h1
      simp only [Option.map_some, allSome] at h1
      split at h1
      · rename_i l hl
        cases h1
        simp only [W0.fillR] at h2
        simp only [fillA, hp]
        split at h2
        · rename_i cs' hc
          rw [hc]
          simp only []
          split at h2
          · rename_i hcond
            rw [if_pos hcond]
            exact fillR_ok parts l _ cs hl h2
          · cases h2
        · cases h2
      · cases h1
theorem allSome_some {α β : Type} (f : α → β) : ∀ l : List α, allSome (l.map fun x => some (f x)) = some (l.map f)
  | [] => rfl
  | x :: l => by simp only [List.map_cons, allSome, allSome_some f l]
theorem rowsR_ok {n : Nat} {s : AV} {rows : List (List AV)} (hs : Sub L H) (h : W0.rowsR L n s rows) : rowsOf H n s = some rows := by
  unfold W0.rowsR at h
  split at h
  · subst h; rfl
  · subst h; rfl
  · rename_i l
    obtain ⟨hl, h1⟩ := h
    subst hl
    cases rows with
    | nil => rfl
    | cons r l => simp [rowsOf, h1 r rfl]
  · obtain ⟨x, h1, h2, h3, rfl⟩ := h
    simp [rowsOf, hs.get _ h1, h2, h3]
  · exact h.elim
/-- operations that make a block -/
def W0.makes : Op → Bool
  | .alloc .. | .box .. | .buildSlice .. | .makeSlice .. => true
  | .call c => match c.callee with
    | .builtin .append => true
    | _ => false
  | _ => false
/-- the two ways in which an operation goes on -/
def Goes (P : Program) (F : TypeId → Option (List TypeId)) (o : Op) (ρ : Operand → AV) (b : Nat) (L : SH) (H : Heap) (K : AV → SH → Prop) : Prop :=
  (∃ v H' L', aop P F o ρ b H = some (.val v H') ∧ OpFr b L H L' H' ∧ (b ∈ L'.names → W0.makes o = true ∧ b ∈ blocksOf v) ∧ K v L') ∨ ∃ g args, aop P F o ρ b H = some (.call g args) ∧ CallA P g args L K
theorem goes_val' {o : Op} {v : AV} (hb : Bd H) (hs : Sub L H) (h0 : H.get b = none) (h : aop P F o ρ b H = some (.val v H)) (hk : K v L) : Goes P F o ρ b L H K := .inl ⟨v, H, L, h, .refl hb hs, fun hm => absurd hm (hs.not_mem h0), hk⟩
theorem goes_new {o : Op} {v : AV} {x : Blk} (hb : Bd H) (hs : Sub L H) (hlt : b < H.next) (h0 : H.get b = none) (hv : W0.makes o = true ∧ b ∈ blocksOf v) (h : aop P F o ρ b H = some (.val v (H.new b x))) (hk : K v ((b, x) :: L)) : Goes P F o ρ b L H K := .inl ⟨v, _, _, h, .new hb hs hlt h0 x, fun _ => hv, hk⟩
theorem load_ok {t : TypeId} {ag : Bool} {n : Nat} {a : AV} {k : AV → Prop} (hs : Sub L H) (h1 : isAggA P t = some ag) (h2 : sizeA P t = some n) (h : W0.loadR ag n a L k) : ∃ v, loadA P H t a = some v ∧ k v := by
  unfold W0.loadR at h
  split at h
  · obtain ⟨x, r, v, g1, g2, g3, g4⟩ := h
    exact ⟨v, by simp [loadA, hs.get _ g1, g2, rowLd_ok h1 h2 g3], g4⟩
  · obtain ⟨r, v, g2, g3, g4⟩ := h
    exact ⟨v, by simp [loadA, g2, rowLd_ok h1 h2 g3], g4⟩
  · exact h.elim
theorem op_goes {o : Op} (hb : Bd H) (hs : Sub L H) (hlt : b < H.next) (h0 : H.get b = none) (h : W0.op P F o ρ L K) : Goes P F o ρ b L H K := by
  have hnb := hs.not_mem h0
  have goes_val : ∀ {o : Op} {v : AV} (_ : Bd H) (_ : Sub L H) (_ : aop P F o ρ b H = some (.val v H)) (_ : K v L), Goes P F o ρ b L H K := fun hb hs h hk => goes_val' hb hs h0 h hk
  cases o with
  | move x => exact goes_val hb hs rfl h
  | assign x => exact goes_val hb hs rfl h
  | pick c x y =>
    obtain ⟨t, h1, h2⟩ := h
    exact goes_val hb hs (by simp [aop, h1]) h2
  | alloc t =>
    simp only [W0.op, W0.zof] at h
    split at h
    · rename_i cs hc
      exact goes_new hb hs hlt h0 ⟨rfl, by simp [blocksOf]⟩ (by simp only [aop, hc]) (h b hnb)
    · exact h.elim
  | box t x =>
    obtain ⟨cs, h1, h2, h3⟩ := h
    exact goes_new hb hs hlt h0 ⟨rfl, by simp [blocksOf]⟩ (by simp only [aop, h1, h2, if_true]) (h3 b hnb)
  | build t parts =>
    simp only [W0.op] at h
    split at h
    · rename_i fs z hu hz
      split at h
      · rename_i hall
        split at h
        · rename_i ps hps
          obtain ⟨cs, h1, h2⟩ := h
          refine goes_val hb hs ?_ h2
          have := fillR_ok (place := placesA P fs) (parts.toList.map fun p => (p.1, ρ p.2)) ps z cs (by rw [List.map_map]; exact hps) h1
          simp only [aop, buildA, hu, hz]
          rw [if_pos hall, this]
          rfl
        · exact h.elim
      · exact h.elim
    · rename_i len e z hu hz
      split at h
      · rename_i n hn
        obtain ⟨cs, h1, h2⟩ := h
        refine goes_val hb hs ?_ h2
        have := fillR_ok (place := fun i => some (i * n, n)) (parts.toList.map fun p => (p.1, ρ p.2)) (parts.toList.map fun p => (p.1 * n, n, ρ p.2)) z cs (by
          rw [List.map_map]
          exact allSome_some (fun p : Nat × Operand => (p.1 * n, n, ρ p.2)) parts.toList) h1
        simp only [aop, buildA, hu, hz, hn, Option.bind_some, this]
        rfl
      · exact h.elim
    · exact h.elim
  | buildSlice t len parts =>
    simp only [W0.op, W0.zof] at h
    split at h
    · rename_i e hu
      split at h
      · rename_i n z hn hz
        split at h
        · rename_i hc
          obtain ⟨h1, rows, h2, h3⟩ := h
          exact goes_new hb hs hlt h0 ⟨rfl, by simp [blocksOf]⟩ (by simp only [aop, hu, hn, hz]; rw [if_pos ⟨hc.1, hc.2, h1⟩, h2]; rfl) (h3 b hnb)
        · exact h.elim
      · exact h.elim
    · exact h.elim
  | load t a =>
    simp only [W0.op] at h
    split at h
    · rename_i ag n hag hn
      obtain ⟨v, g1, g2⟩ := load_ok hs hag hn h
      exact goes_val hb hs (by simp [aop, g1]) g2
    · exact h.elim
  | store t a x =>
    simp only [W0.op] at h
    split at h
    · rename_i n hn
      unfold W0.storeR at h
      split at h
      · rename_i c i off ha
        obtain ⟨y, r, cs, L', g1, g2, g3, g4, g5, g6, g7⟩ := h
        have hg := hs.get _ g6.mem
        simp only at hg
        refine .inl ⟨_, _, L', ?_, .put hb hs g6, fun hm => absurd (g6.names ▸ hm) hnb, g7⟩
        simp only [aop, storeA, ha, g2, hn, hg, g1]
        rw [if_pos ⟨g3, g4, g5⟩]
        rfl
      · exact h.elim
    · exact h.elim
  | nilCheck x =>
    simp only [W0.op, W0.nilchk] at h
    split at h
    · rename_i hx; exact goes_val hb hs (by simp [aop, hx]) h
    · rename_i hx; exact goes_val hb hs (by simp [aop, hx]) h
    · rename_i hx; exact goes_val hb hs (by simp [aop, hx]) h
    · exact h.elim
  | binOp op t x y c =>
    obtain ⟨v, h1, h2⟩ := h
    exact goes_val hb hs (by simp [aop, h1]) h2
  | unOp op t x =>
    obtain ⟨v, h1, h2⟩ := h
    exact goes_val hb hs (by simp [aop, h1]) h2
  | convert s d x =>
    simp only [W0.op] at h
    split at h
    · rename_i h1 h2
      obtain ⟨k', n, h3, h4⟩ := h
      exact goes_val hb hs (by simp [aop, convA, h1, h2, h3]) h4
    · rename_i h1 h2
      obtain ⟨s, h3, h4⟩ := h
      exact goes_val hb hs (by simp [aop, convA, h1, h2, h3]) h4
    · exact h.elim
  | makeFunc fn first cap =>
    cases fn with
    | func f =>
      simp only [W0.op] at h
      split at h
      · rename_i h1; exact goes_val hb hs (by simp only [aop]; rw [if_pos h1]) h
      · exact h.elim
    | _ => exact h.elim
  | makeSlice t l c =>
    simp only [W0.op, W0.zof] at h
    split at h
    · rename_i e hu
      split at h
      · rename_i n by_ z hn hby hz
        split at h
        · rename_i hc
          obtain ⟨k, k', i, j, h1, h2, h3, h4, h5, h6⟩ := h
          refine goes_new hb hs hlt h0 ⟨rfl, by simp [blocksOf]⟩ ?_ (h6 b hnb)
          simp only [aop, hu, hn, hby, hz, h1, h2, natOf]
          simp only [Int.natCast_nonneg, if_true, Int.toNat_natCast]
          rw [if_pos ⟨hc.1, hc.2, h3, h4, h5⟩]
        · exact h.elim
      · exact h.elim
    · exact h.elim
  | slice t x lo hi mx =>
    simp only [W0.op] at h
    split at h
    · exact h.elim
    · rename_i hhm
      split at h
      · rename_i e hu
        split at h
        · rename_i n hn
          obtain ⟨len, l, hh, m, g1, g2, g3, g4, g5, g6, g7, g8⟩ := h
          have key : ∀ v, sliceA P (szOf H (ρ x)) t (ρ x) (lo.map ρ) (hi.map ρ) (mx.map ρ) = some v → K v L → Goes P F (.slice t x lo hi mx) ρ b L H K := fun v hv hk =>
            goes_val hb hs (by simp only [aop]; rw [if_neg hhm, hv]; rfl) hk
          split at g8
          · rename_i hx
            refine key _ ?_ g8
            rw [hx] at g1
            simp only [sliceA, hu, hx, g1, g2, g3, g4]
            rw [if_pos ⟨⟨g5, g6, g7⟩, by rw [hn]; rfl⟩]
          · rename_i c i q hx
            obtain ⟨⟨y, k1, k2⟩, k3⟩ := g8
            refine key _ ?_ k3
            have hg := hs.get _ k1
            simp only at hg
            rw [hx] at g1
            simp only [sliceA, hu, hx, g1, g2, g3, g4]
            rw [if_pos ⟨⟨g5, g6, g7⟩, by rw [hn]; rfl⟩]
            simp only [szOf, hg, Option.map_some, k2]
            rw [if_pos ⟨rfl, hn⟩]
          · rename_i rows hx
            obtain ⟨k2, k3⟩ := g8
            refine key _ ?_ k3
            rw [hx] at g1
            simp only [sliceA, hu, hx, g1, g2, g3, g4]
            rw [if_pos ⟨⟨g5, g6, g7⟩, by rw [hn]; rfl⟩]
            cases rows with
            | nil => simp
            | cons r rs => simp only [hn, k2 r rfl, if_true]
          · exact g8.elim
        · exact h.elim
      · rename_i hu
        split at h
        · rename_i hmx
          obtain ⟨s, l, hh, g1, g2, g3, g4, g5, g6⟩ := h
          refine goes_val hb hs ?_ g6
          have : mx = none := by simpa using hmx
          subst this
          simp only [aop]
          rw [if_neg hhm]
          simp only [sliceA, hu, g1, Option.map_none]
          rw [show boundA (Option.map ρ lo) 0 = some l from g2, show boundA (Option.map ρ hi) s.length = some hh from g3]
          simp [g4, g5]
        · exact h.elim
      · exact h.elim
  | fieldAddr s x f =>
    simp only [W0.op] at h
    split at h
    · rename_i fs hu
      split at h
      · rename_i fl hf
        split at h
        · rename_i n hn
          split at h
          · exact h.elim
          · rename_i hn0
            unfold W0.faddr at h
            split at h
            · rename_i hx
              exact goes_val hb hs (by simp [aop, fieldAddrA, hu, hf, hn, hn0, hx]) h
            · rename_i hx
              exact goes_val hb hs (by simp [aop, fieldAddrA, hu, hf, hn, hn0, hx]) h
            · exact h.elim
        · exact h.elim
      · exact h.elim
    · exact h.elim
  | field s x f =>
    simp only [W0.op] at h
    split at h
    · rename_i fs hu
      split at h
      · rename_i fl hf
        split at h
        · rename_i ag n hag hn
          obtain ⟨cs, v, g1, g2, g3⟩ := h
          exact goes_val hb hs (by simp [aop, fieldA, hu, hf, g1, rowLd_ok hag hn g2]) g3
        · exact h.elim
      · exact h.elim
    · exact h.elim
  | indexAddr t x ix =>
    simp only [W0.op] at h
    split at h
    · rename_i e hu
      split at h
      · rename_i n hn
        unfold W0.idxR at h
        split at h
        · rename_i c j m hx
          obtain ⟨k, i, y, g1, g2, g3, g4, g5, g6⟩ := h
          have hg := hs.get _ g4
          simp only at hg
          refine goes_val hb hs ?_ g6
          have hneg : ¬ i < 0 := by omega
          simp [aop, indexAddrA, hx, g1, hneg, hu, szOf, hg, g3, g5, hn]
        · rename_i rows hx
          obtain ⟨k, i, r, g1, g2, g3, g4, g5⟩ := h
          refine goes_val hb hs ?_ g5
          have hneg : ¬ i < 0 := by omega
          simp [aop, indexAddrA, hx, g1, hneg, hu, g3, g4, hn]
        · exact h.elim
      · exact h.elim
    · rename_i len e hu
      split at h
      · rename_i n hn
        obtain ⟨k, i, g1, g2, g3, g4⟩ := h
        have hneg : ¬ i < 0 := by omega
        split at g4
        · rename_i hx
          exact goes_val hb hs (by simp [aop, indexAddrA, hx, g1, hneg, hu, g3, hn]) g4
        · rename_i hx
          exact goes_val hb hs (by simp [aop, indexAddrA, hx, g1, hneg, hu, g3, hn]) g4
        · exact g4.elim
      · exact h.elim
    · exact h.elim
  | index t x ix =>
    simp only [W0.op] at h
    split at h
    · rename_i hu
      obtain ⟨s, k, i, y, g1, g2, g3, g4, g5⟩ := h
      have hneg : ¬ i < 0 := by omega
      exact goes_val hb hs (by simp [aop, indexA, hu, g1, g2, hneg, g4]) g5
    · rename_i len e hu
      split at h
      · rename_i ag n hag hn
        obtain ⟨cs, k, i, v, g1, g2, g3, g4, g5, g6⟩ := h
        refine goes_val hb hs ?_ g6
        simp only [aop, indexA, hu, g1, g2]
        rw [if_pos ⟨g3, g4⟩, hn]
        simp only [Option.bind_some, rowLd_ok hag hn g5]
        rfl
      · exact h.elim
    · exact h.elim
  | extract x i =>
    obtain ⟨vs, v, g1, g2, g3⟩ := h
    exact goes_val hb hs (by simp [aop, g1, g2]) g3
  | call c =>
    simp only [W0.op] at h
    split at h
    · rename_i hc
      split at h
      · rename_i x e ha ht
        obtain ⟨n, g1, g2⟩ := h
        refine goes_val hb hs ?_ g2
        cases hx : ρ x <;> rw [hx] at g1 <;> first | (cases g1; done) | simp [aop, hc, ha, builtinA, hx, ht, g1]
      · rename_i x ha ht
        obtain ⟨s, g1, g2⟩ := h
        exact goes_val hb hs (by simp [aop, hc, ha, builtinA, g1, ht]) g2
      · rename_i x n e ha ht
        split at h
        · exact h.elim
        · rename_i hne
          refine goes_val hb hs ?_ h
          cases hx : ρ x <;> first | (exact absurd hx (hne _)) | simp [aop, hc, ha, builtinA, hx, ht]
      · exact h.elim
    · rename_i hc
      split at h
      · rename_i s x t tx ha ht
        split at h
        · rename_i e e' hu hux
          split at h
          · rename_i n by_ z hn hby hz
            split at h
            · rename_i hcn
              obtain ⟨l, m, g1, g2, g3, g4, g5, g6⟩ := h
              have r1 := rowsR_ok hs g1
              have r2 := rowsR_ok hs g2
              have key : ∀ v H', appendA P H b t (ρ s) (ρ x) = some (v, H') → aop P F (.call c) ρ b H = some (.val v H') := fun v H' hv => by
                simp only [aop, hc, ha, List.map_cons, List.map_nil, builtinA, ht, hux, hv]
                rfl
              have hz' : (zeroA P e).bind AV.cells? = some z := hz
              split at g6
              · rename_i hx
                by_cases hm : m.length = 0
                · exact goes_val hb hs (key _ _ (by rw [hx] at r1 ⊢; simp only [appendA, hu, hn, hby, hz', r1, r2]; rw [if_pos ⟨g3, g4, hcn.2, hcn.1, g5⟩, if_pos hm])) (g6.1 hm)
                · exact goes_new hb hs hlt h0 ⟨by simp [W0.makes, hc], by simp [blocksOf]⟩ (key _ _ (by rw [hx] at r1 ⊢; simp only [appendA, hu, hn, hby, hz', r1, r2]; rw [if_pos ⟨g3, g4, hcn.2, hcn.1, g5⟩, if_neg hm])) (g6.2 hm b hnb)
              · rename_i hx
                by_cases hm : m.length = 0
                · exact goes_val hb hs (key _ _ (by rw [hx] at r1 ⊢; simp only [appendA, hu, hn, hby, hz', r1, r2]; rw [if_pos ⟨g3, g4, hcn.2, hcn.1, g5⟩, if_pos hm])) (g6.1 hm)
                · exact goes_new hb hs hlt h0 ⟨by simp [W0.makes, hc], by simp [blocksOf]⟩ (key _ _ (by rw [hx] at r1 ⊢; simp only [appendA, hu, hn, hby, hz', r1, r2]; rw [if_pos ⟨g3, g4, hcn.2, hcn.1, g5⟩, if_neg hm])) (g6.2 hm b hnb)
              · rename_i b' i' k' hx
                obtain ⟨y, L', k1, k2⟩ := g6
                have f1 := OpFr.del (b := b) hb hs k1
                have hb' : b ≠ b' := fun e => by
                  have := hs.get _ (k1.perm.mem_iff.2 List.mem_cons_self)
                  rw [← e, h0] at this; cases this
                have f2 : OpFr b L' (H.put b' none) ((b, ⟨n, l ++ m⟩) :: L') ((H.put b' none).new b ⟨n, l ++ m⟩) := .new f1.bd f1.sub hlt (by rw [Heap.get_put, if_neg (fun e => hb' e.symm)]; exact h0) _
                exact .inl ⟨_, _, _, key _ _ (by rw [hx] at r1 ⊢; simp only [appendA, hu, hn, hby, hz', r1, r2]; rw [if_pos ⟨g3, g4, hcn.2, hcn.1, g5⟩]), f1.trans f2, fun _ => ⟨by simp [W0.makes, hc], by simp [blocksOf]⟩, k2 b hnb⟩
              · exact g6.elim
            · exact h.elim
          · exact h.elim
        · exact h.elim
      · exact h.elim
    · rename_i hc
      split at h
      · rename_i x y ha
        obtain ⟨k, a, d, g1, g2, g3⟩ := h
        exact goes_val hb hs (by simp [aop, hc, ha, builtinA, g1, g2]) g3
      · exact h.elim
    · rename_i hc
      split at h
      · rename_i x y ha
        obtain ⟨k, a, d, g1, g2, g3⟩ := h
        exact goes_val hb hs (by simp [aop, hc, ha, builtinA, g1, g2]) g3
      · exact h.elim
    · rename_i hc
      split at h
      · rename_i x t ha ht
        split at h
        · rename_i e hu
          split at h
          · rename_i n z hn hz
            have hz' : (zeroA P e).bind AV.cells? = some z := hz
            split at h
            · rename_i hcn
              have key : ∀ H', clearA P H t (ρ x) = some H' → aop P F (.call c) ρ b H = some (.val (.tup []) H') := fun H' hv => by
                simp only [aop, hc, ha, List.map_cons, List.map_nil, builtinA, ht, hv]
                rfl
              unfold W0.clearR at h
              split at h
              · rename_i hx
                exact goes_val hb hs (key _ (by rw [hx]; simp only [clearA, hu, hn, hz'])) h
              · rename_i d i k hx
                obtain ⟨y, L', g1, g2, g3, g4⟩ := h
                have hg := hs.get _ g3.mem
                simp only at hg
                refine .inl ⟨_, _, L', key _ ?_, .put hb hs g3, fun hm => absurd (g3.names ▸ hm) hnb, g4⟩
                rw [hx]
                simp only [clearA, hu, hn, hz', hg]
                rw [if_pos ⟨⟨g1, hcn.1.1⟩, ⟨hcn.1.2, g2⟩, hcn.2⟩]
              · exact h.elim
            · exact h.elim
          · exact h.elim
        · exact h.elim
      · exact h.elim
    · rename_i f hc
      split at h
      · rename_i g cs hf
        exact .inr ⟨g, _, by simp [aop, hc, hf], h⟩
      · exact h.elim
    · exact h.elim
  | _ => exact h.elim
end
end Go.Proofs.Ytadjimfkfmojkaa.Am

end
