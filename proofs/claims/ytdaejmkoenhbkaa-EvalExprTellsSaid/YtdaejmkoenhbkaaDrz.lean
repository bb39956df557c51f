/- AM, part 21: a region whose order is drawn: one operation, whatever has been done before it. -/
import Derived.Test.YtdaejmkoenhbkaaDry
namespace Go.Proofs.Ytdaejmkoenhbkaa.Am
set_option linter.unusedVariables false
theorem apart_not {l m : List Nat} (h : apart l m = true) {x : Nat} (hx : x ∈ l) : x ∉ m := by
  unfold apart at h
  rw [List.all_eq_true] at h
  have := h x hx
  simpa using this
structure Free (x y : Rec) : Prop where
  wr : ∀ c ∈ x.writes, c ∉ y.reads
  ww : ∀ c ∈ x.writes, c ∉ y.writes
  rw : ∀ c ∈ x.reads, c ∉ y.writes
  mr : ∀ c ∈ x.made, c ∉ y.reads
  mw : ∀ c ∈ x.made, c ∉ y.writes
  cc : x.isCall = true → y.isCall = false
  cw : x.isCall = true → ∀ c, c ∉ y.writes
  cr : x.isCall = true → ∀ c ∈ y.reads, ¬ (x.lo ≤ c ∧ c < x.hi)
  wc : y.isCall = true → ∀ c, c ∉ x.writes
theorem meets_free {x y : Rec} (h : meets x y = false) : Free x y := by
  unfold meets at h
  simp only [Bool.or_eq_false_iff, Bool.not_eq_false', Bool.and_eq_true, Bool.and_eq_false_iff] at h
  obtain ⟨⟨⟨⟨⟨⟨h1, h2⟩, h3⟩, h4⟩, h5⟩, h6⟩, h7⟩ := h
  refine ⟨fun c hc => apart_not h1 hc, fun c hc => apart_not h2 hc, fun c hc => apart_not h3 hc, fun c hc => apart_not h4 hc, fun c hc => apart_not h5 hc, fun hx => ?_, fun hx c hc => ?_, fun hx c hc hr => ?_, fun hy c hc => ?_⟩
  · rcases h6 with h6 | ⟨⟨h6, _⟩, _⟩
    · rw [hx] at h6; cases h6
    · exact h6
  · rcases h6 with h6 | ⟨⟨_, h6⟩, _⟩
    · rw [hx] at h6; cases h6
    · simp at h6; rw [h6] at hc; simp at hc
  · rcases h6 with h6 | ⟨_, h6⟩
    · rw [hx] at h6; cases h6
    · rw [List.any_eq_false] at h6
      exact h6 c hc (by simpa using hr)
  · rcases h7 with h7 | h7
    · rw [hy] at h7; cases h7
    · simp at h7; rw [h7] at hc; simp at hc
section
variable {P : Program} {F : TypeId → Option (List TypeId)} {call : FuncId → List AV → Heap → Option (AV × Heap)} {ops : Array Oper} {base : Nat} {τ0 : List AV} {H0 : Heap}
theorem next_mono (rf : RunFacts P F call ops base τ0 H0) {i : Nat} : ∀ {j : Nat}, i ≤ j → j ≤ ops.size → (itS P F call ops base τ0 H0 i).2.next ≤ (itS P F call ops base τ0 H0 j).2.next
  | 0, h1, _ => by rw [show i = 0 by omega]; exact Nat.le_refl _
  | j + 1, h1, h2 => by
    rcases Nat.eq_or_lt_of_le h1 with rfl | hlt
    · exact Nat.le_refl _
    · exact Nat.le_trans (next_mono rf (show i ≤ j by omega) (by omega)) (rf.chg j (by omega)).next
/-- a later operation that touches a block that lives at operation i -/
theorem later (run : RunOk P F call ops base τ0 H0) (rf : RunFacts P F call ops base τ0 H0) {i j c : Nat} {r y : Rec} {b : Blk} (hij : i < j) (hj : j < ops.size) (hi : itR P F call ops base τ0 H0 i = some r) (hy : itR P F call ops base τ0 H0 j = some y) (ht : touched (itR P F call ops base τ0 H0 j) c)
    (hl : (itS P F call ops base τ0 H0 i).2.get c = some b) : ((masks ops.toList []).getD j 0).testBit i = true ∨ (Free r y ∧ (c ∈ y.writes ∨ (y.isCall = true ∧ False))) := by
  rcases run.free j i r y hij hj hi hy with h1 | h1
  · exact .inl h1
  · right
    refine ⟨meets_free h1, ?_⟩
    obtain ⟨x, hx, ht⟩ := ht
    rw [hy] at hx
    cases hx
    rcases ht with ht | ht | ⟨t1, t2, _⟩
    · exact .inl ht
    · have := ((rf.chg j hj).made y hy).1 c ht
      subst this
      rw [rf.fresh i j (by omega) hj] at hl; cases hl
    · have h2 := ((rf.chg j hj).made y hy).2 t1
      have h3 := next_mono rf (show i ≤ j by omega) (by omega)
      rw [rf.bd i (by omega) c (by omega)] at hl; cases hl
theorem agree_h (run : RunOk P F call ops base τ0 H0) (rf : RunFacts P F call ops base τ0 H0) {L : Nat → Bool} {i : Nat} (nx : Next ops L i) {c : Nat}
    (hord : ∀ j, j < ops.size → j ≠ i → touched (itR P F call ops base τ0 H0 j) c → (j < i → ((masks ops.toList []).getD i 0).testBit j = true) ∧ (i < j → ((masks ops.toList []).getD j 0).testBit i = true)) :
    hget P F call ops base τ0 H0 L c = (itS P F call ops base τ0 H0 i).2.get c := by
  rw [text_h run rf c i (by have := nx.lt; omega), hget, lastW_agree (p := fun j => touchB (itR P F call ops base τ0 H0 j) c) nx.lt nx.not]
  intro j hj hne ht
  obtain ⟨h1, h2⟩ := hord j hj hne (touchB_iff.1 ht)
  exact ⟨fun hlt => nx.before (h1 hlt), fun hlt => nx.behind hj (h2 hlt)⟩
theorem ord_read (run : RunOk P F call ops base τ0 H0) (rf : RunFacts P F call ops base τ0 H0) {i c : Nat} {r : Rec} {b : Blk} (hi : i < ops.size) (hr : itR P F call ops base τ0 H0 i = some r) (hc : c ∈ r.reads) (hl : (itS P F call ops base τ0 H0 i).2.get c = some b) :
    ∀ j, j < ops.size → j ≠ i → touched (itR P F call ops base τ0 H0 j) c → (j < i → ((masks ops.toList []).getD i 0).testBit j = true) ∧ (i < j → ((masks ops.toList []).getD j 0).testBit i = true) := by
  intro j hj hne ht
  obtain ⟨x, hx, ht'⟩ := ht
  refine ⟨fun hlt => ?_, fun hlt => ?_⟩
  · rcases run.free i j x r hlt hi hx hr with h1 | h1
    · exact h1
    · exfalso
      have fr := meets_free h1
      rcases ht' with t | t | ⟨t1, t2, t3⟩
      · exact fr.wr c t hc
      · exact fr.mr c t hc
      · exact fr.cr t1 c hc ⟨t2, t3⟩
  · rcases later run rf hlt hj hr hx ⟨x, hx, ht'⟩ hl with h1 | ⟨h1, h2 | ⟨_, h2⟩⟩
    · exact h1
    · exact absurd h2 (h1.rw c hc)
    · exact h2.elim
theorem reads_alive {o : Op} {ρ : Operand → AV} {b c : Nat} {v : AV} {H H' : Heap} (h : aop P F o ρ b H = some (.val v H')) (hc : c ∈ readsA o ρ) : ∃ x, H.get c = some x := by
  cases o with
  | load t a =>
    simp only [aop] at h
    obtain ⟨h1, _⟩ := vOpt h
    simp only [readsA] at hc
    generalize ρ a = y at h1 hc
    cases y <;> simp [blocksOf] at hc <;> simp [loadA] at h1
    subst hc
    cases hg : H.get _ with
    | none => rw [hg] at h1; simp at h1
    | some x => exact ⟨x, rfl⟩
  | store t a x =>
    simp only [aop] at h
    cases hst : storeA P H t (ρ a) (ρ x) with
    | none => rw [hst] at h; cases h
    | some K =>
      simp only [readsA] at hc
      unfold storeA at hst
      split at hst
      · rename_i d i off cs n ha hcs hn
        rw [ha] at hc
        simp [blocksOf] at hc
        subst hc
        split at hst
        · rename_i y hy; exact ⟨y, hy⟩
        · cases hst
      · cases hst
  | indexAddr t x ix =>
    simp only [aop] at h
    obtain ⟨h1, _⟩ := vOpt h
    simp only [readsA] at hc
    generalize ρ x = y at h1 hc
    cases y <;> simp [slOf] at hc
    subst hc
    cases hg : H.get c with
    | some x => exact ⟨x, rfl⟩
    | none =>
      exfalso
      simp only [indexAddrA, szOf, hg, Option.map_none, Option.isSome_none, Bool.false_eq_true, false_and, and_false, if_false] at h1
      split at h1
      · split at h1
        · cases h1
        · split at h1 <;> simp_all
      · cases h1
  | slice t x lo hi mx =>
    simp only [aop] at h
    split at h
    · cases h
    · obtain ⟨h1, _⟩ := vOpt h
      simp only [readsA] at hc
      generalize ρ x = y at h1 hc
      cases y <;> simp [slOf] at hc
      subst hc
      cases hg : H.get c with
      | some x => exact ⟨x, rfl⟩
      | none =>
        exfalso
        simp only [sliceA, szOf, hg, Option.map_none, Option.isSome_none, Bool.false_eq_true, false_and, if_false] at h1
        split at h1
        · split at h1
          · split at h1 <;> cases h1
          · cases h1
        · cases h1
        · cases h1
  | call k =>
    simp only [readsA] at hc
    split at hc
    · rename_i hk
      simp only [aop, hk] at h
      cases hbi : builtinA P H b .append k.argTypes (k.args.toList.map ρ) with
      | none => rw [hbi] at h; cases h
      | some q =>
        unfold builtinA at hbi
        split at hbi
        · rename_i e _; cases e
        · rename_i _ e _; cases e
        · rename_i s x e heq
          obtain ⟨a0, a1, hargs, h0, h1⟩ := map_two heq
          rw [hargs] at hc
          simp only [List.flatMap_cons, List.flatMap_nil, List.append_nil, h0, h1, List.mem_append] at hc
          split at hbi
          · split at hbi
            · unfold appendA at hbi
              split at hbi
              · split at hbi
                · split at hbi
                  · rename_i l m hl hm
                    have aux : ∀ {y : AV} {q n}, rowsOf H n y = some q → c ∈ blocksOf y → ∃ x, H.get c = some x := fun {y} {q} {n} hy hcy => by
                      cases y <;> simp [blocksOf] at hcy <;> simp [rowsOf] at hy
                      subst hcy
                      split at hy
                      · rename_i x hx; exact ⟨x, hx⟩
                      · cases hy
                    rcases hc with hc | hc
                    · exact aux hl hc
                    · exact aux hm hc
                  · cases hbi
                · cases hbi
              · cases hbi
            · cases hbi
          · cases hbi
        · rename_i e _; cases e
        · rename_i e _; cases e
        · rename_i e _; cases e
        · cases hbi
    · rename_i hk
      simp only [aop, hk] at h
      cases hbi : builtinA P H b .clear k.argTypes (k.args.toList.map ρ) with
      | none => rw [hbi] at h; cases h
      | some q =>
        unfold builtinA at hbi
        split at hbi
        · rename_i e _; cases e
        · rename_i _ e _; cases e
        · rename_i e _; cases e
        · rename_i e _; cases e
        · rename_i e _; cases e
        · rename_i x e heq
          obtain ⟨a0, hargs, h0⟩ := map_one heq
          rw [hargs] at hc
          simp only [List.flatMap_cons, List.flatMap_nil, List.append_nil, h0] at hc
          split at hbi
          · rw [Option.map_eq_some_iff] at hbi
            obtain ⟨K1, hk1, _⟩ := hbi
            unfold clearA at hk1
            split at hk1
            · split at hk1
              · split at hk1
                · simp [blocksOf] at hc
                · simp [blocksOf] at hc
                  subst hc
                  split at hk1
                  · rename_i y hy; exact ⟨y, hy⟩
                  · cases hk1
                · cases hk1
              · cases hk1
            · cases hk1
          · cases hbi
        · cases hbi
    · simp at hc
  | _ => simp [readsA] at hc
theorem writes_reads {o : Op} {ρ : Operand → AV} {c : Nat} (hc : c ∈ writesA o ρ) : c ∈ readsA o ρ := by
  cases o with
  | store t a x => exact hc
  | call k =>
    simp only [writesA] at hc
    simp only [readsA]
    split at hc
    · rename_i hk
      rw [List.mem_flatMap] at hc ⊢
      obtain ⟨x, h1, h2⟩ := hc
      exact ⟨x, List.mem_of_mem_take h1, h2⟩
    · exact hc
    · simp at hc
  | _ => simp [writesA] at hc
end
end Go.Proofs.Ytdaejmkoenhbkaa.Am
