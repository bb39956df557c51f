/- AM, part 15: what the evaluator leaves alone in the abstract heap. -/
import Derived.Test.YtdaejmkoenhbkaaExS
namespace Go.Proofs.Ytdaejmkoenhbkaa.Am
set_option linter.unusedVariables false
/-- blocks from next on are not there -/
def Bd (H : Heap) : Prop := ∀ b, H.next ≤ b → H.get b = none
structure Chg (H H' : Heap) : Prop where
  next : H.next ≤ H'.next
  dom : ∀ b, b < H.next → H.get b = none → H'.get b = none
  keep : ∀ b, b < H.next → b ∉ H'.log → H'.get b = H.get b
  log : ∀ b, b ∈ H.log → b ∈ H'.log
  bd : Bd H → Bd H'
theorem Chg.refl (H : Heap) : Chg H H := ⟨Nat.le_refl _, fun _ _ h => h, fun _ _ _ => rfl, fun _ h => h, fun h => h⟩
theorem Chg.trans {H H' H'' : Heap} (h : Chg H H') (k : Chg H' H'') : Chg H H'' :=
  ⟨Nat.le_trans h.next k.next, fun b hb h0 => k.dom b (Nat.lt_of_lt_of_le hb h.next) (h.dom b hb h0),
   fun b hb hl => (k.keep b (Nat.lt_of_lt_of_le hb h.next) hl).trans (h.keep b hb (fun h1 => hl (k.log b h1))), fun b hb => k.log b (h.log b hb), fun hb => k.bd (h.bd hb)⟩
section
variable {P : Program} {F : TypeId → Option (List TypeId)}

theorem get_log (H : Heap) (l : List Nat) (b : Nat) : ({ H with log := l } : Heap).get b = H.get b := rfl
/-- what one operation does to the heap -/
structure OpChg (o : Op) (ρ : Operand → AV) (b : Nat) (H H' : Heap) : Prop where
  next : H'.next = H.next
  keep : ∀ c, c ≠ b → c ∉ writesA o ρ → H'.get c = H.get c
  keepL : ∀ c, c ≠ b → c ∉ H'.log → H'.get c = H.get c
  dom : ∀ c, c ≠ b → H.get c = none → H'.get c = none
  log : ∀ c, c ∈ H.log → c ∈ H'.log
theorem OpChg.same (o : Op) (ρ : Operand → AV) (b : Nat) (H : Heap) : OpChg o ρ b H H := ⟨rfl, fun _ _ _ => rfl, fun _ _ _ => rfl, fun _ _ h => h, fun _ h => h⟩
theorem OpChg.new (o : Op) (ρ : Operand → AV) (b : Nat) (H : Heap) (x : Blk) : OpChg o ρ b H (H.new b x) :=
  ⟨rfl, fun c hc _ => by rw [Heap.get_new, if_neg (fun e => hc e.symm)], fun c hc _ => by rw [Heap.get_new, if_neg (fun e => hc e.symm)], fun c hc h => by rw [Heap.get_new, if_neg (fun e => hc e.symm)]; exact h, fun _ h => h⟩
theorem aop_chg {o : Op} {ρ : Operand → AV} {b : Nat} {H H' : Heap} {v : AV} (h : aop P F o ρ b H = some (.val v H')) : OpChg o ρ b H H' := by
  cases o with
  | store t a x =>
    simp only [aop] at h
    cases hs : storeA P H t (ρ a) (ρ x) with
    | none => rw [hs] at h; cases h
    | some K =>
      rw [hs] at h
      cases h
      unfold storeA at hs
      split at hs
      · rename_i c i off cs n ha hcs hn
        split at hs
        · rename_i y hy
          split at hs
          · rename_i r hr
            split at hs
            · cases hs
              have hw : writesA (.store t a x) ρ = [c] := by simp [writesA, ha, blocksOf]
              refine ⟨rfl, fun d hd hn => ?_, fun d hd hl => ?_, fun d hd h0 => ?_, fun d hl => List.mem_cons_of_mem _ hl⟩
              · rw [Heap.get_put, if_neg (by rintro rfl; exact hn (by rw [hw]; simp))]
              · rw [Heap.get_put, if_neg (by rintro rfl; exact hl (by simp [Heap.put]))]
              · rw [Heap.get_put]
                split
                · rename_i e; subst e; rw [hy] at h0; cases h0
                · exact h0
            · cases hs
          · cases hs
        · cases hs
      · cases hs
  | call c =>
    simp only [aop] at h
    split at h
    · rename_i bi hcal
      cases hbi : builtinA P H b bi c.argTypes (c.args.toList.map ρ) with
      | none => rw [hbi] at h; cases h
      | some r =>
        obtain ⟨v0, K⟩ := r
        rw [hbi] at h
        cases h
        unfold builtinA at hbi
        split at hbi
        · split at hbi
          · cases hbi; exact .same _ _ _ _
          · cases hbi
        · split at hbi
          · rw [Option.map_eq_some_iff] at hbi
            obtain ⟨n, _, hn⟩ := hbi
            cases hn
            exact .same _ _ _ _
          · cases hbi; exact .same _ _ _ _
          · cases hbi
        · rename_i s x heq
          split at hbi
          · split at hbi
            · obtain ⟨a0, a1, hargs, h0, h1⟩ := map_two heq
              unfold appendA at hbi
              split at hbi
              · split at hbi
                · split at hbi
                  · rename_i l m hl hm
                    split at hbi
                    · split at hbi
                      · split at hbi
                        · cases hbi; exact .same _ _ _ _
                        · cases hbi; exact .new _ _ _ _ _
                      · split at hbi
                        · cases hbi; exact .same _ _ _ _
                        · cases hbi; exact .new _ _ _ _ _
                      · rename_i b' i k
                        cases hbi
                        have hw : writesA (.call c) ρ = [b'] := by simp [writesA, hcal, hargs, h0, blocksOf]
                        refine ⟨rfl, fun d hd hn => ?_, fun d hd hl => ?_, fun d hd h0 => ?_, fun d hl => List.mem_cons_of_mem _ hl⟩
                        · rw [Heap.get_new, if_neg (fun e => hd e.symm), Heap.get_put, if_neg (by rintro rfl; exact hn (by rw [hw]; simp))]
                        · rw [Heap.get_new, if_neg (fun e => hd e.symm), Heap.get_put, if_neg (by rintro rfl; exact hl (by simp [Heap.put, Heap.new]))]
                        · rw [Heap.get_new, if_neg (fun e => hd e.symm), Heap.get_put]
                          split
                          · rfl
                          · exact h0
                      · cases hbi
                    · cases hbi
                  · cases hbi
                · cases hbi
              · cases hbi
            · cases hbi
          · cases hbi
        · split at hbi
          · cases hbi; exact .same _ _ _ _
          · cases hbi
        · split at hbi
          · cases hbi; exact .same _ _ _ _
          · cases hbi
        · rename_i x heq
          split at hbi
          · rename_i t htt
            cases hcl : clearA P H t x with
            | none => rw [hcl] at hbi; cases hbi
            | some K1 =>
              rw [hcl] at hbi
              cases hbi
              obtain ⟨a0, hargs, h0⟩ := map_one heq
              unfold clearA at hcl
              split at hcl
              · split at hcl
                · split at hcl
                  · cases hcl; exact .same _ _ _ _
                  · rename_i d i k
                    split at hcl
                    · rename_i y hy
                      split at hcl
                      · cases hcl
                        have hw : writesA (.call c) ρ = [d] := by simp [writesA, hcal, hargs, h0, blocksOf]
                        refine ⟨rfl, fun d' hd hn => ?_, fun d' hd hl => ?_, fun d' hd h0 => ?_, fun d' hl => List.mem_cons_of_mem _ hl⟩
                        · rw [Heap.get_put, if_neg (by rintro rfl; exact hn (by rw [hw]; simp))]
                        · rw [Heap.get_put, if_neg (by rintro rfl; exact hl (by simp [Heap.put]))]
                        · rw [Heap.get_put]
                          split
                          · rename_i e; subst e; rw [hy] at h0; cases h0
                          · exact h0
                      · cases hcl
                    · cases hcl
                  · cases hcl
                · cases hcl
              · cases hcl
          · cases hbi
        · cases hbi
    · split at h <;> cases h
    · cases h
  | makeFunc fn first cap => cases fn <;> simp only [aop] at h <;> (try split at h) <;> cases h <;> exact .same _ _ _ _
  | buildSlice t len parts =>
    simp only [aop] at h
    split at h
    · split at h
      · split at h
        · rename_i n z _ _ _
          cases hf : fillRows n (List.replicate len z) (parts.toList.map fun p => (p.1, ρ p.2)) with
          | none => rw [hf] at h; cases h
          | some rows => rw [hf] at h; cases h; exact .new _ _ _ _ _
        · cases h
      · cases h
    · cases h
  | _ =>
    simp only [aop] at h
    first
      | (obtain ⟨_, rfl⟩ := vOpt h; exact .same _ _ _ _)
      | (repeat' (first | (cases h; exact .same _ _ _ _) | (cases h; exact .new _ _ _ _ _) | (cases h; done) | (obtain ⟨_, rfl⟩ := vOpt h; exact .same _ _ _ _) | split at h))

theorem hide_next (base mask : Nat) : ∀ (k : Nat) (H : Heap), (hideA base mask k H).next = H.next ∧ (hideA base mask k H).log = H.log
  | 0, H => ⟨rfl, rfl⟩
  | k + 1, H => by
    unfold hideA
    split
    · exact hide_next base mask k H
    · exact hide_next base mask k _
theorem hide_get (base mask : Nat) : ∀ (k : Nat) (H : Heap) (c : Nat), (hideA base mask k H).get c = if (∃ j, j < k ∧ mask.testBit j = false ∧ c = base + j) then none else H.get c
  | 0, H, c => by simp [hideA]
  | k + 1, H, c => by
    unfold hideA
    rw [hide_get base mask k]
    by_cases h1 : ∃ j, j < k ∧ mask.testBit j = false ∧ c = base + j
    · obtain ⟨j, hj⟩ := h1
      rw [if_pos ⟨j, hj⟩, if_pos ⟨j, by omega, hj.2⟩]
    · rw [if_neg h1]
      by_cases hm : mask.testBit k = true
      · rw [if_pos hm, if_neg]
        rintro ⟨j, hj, hb, hc⟩
        by_cases hjk : j = k
        · subst hjk; rw [hm] at hb; cases hb
        · exact h1 ⟨j, by omega, hb, hc⟩
      · rw [if_neg hm]
        show (H.tr.set (base + k) none).get c = _
        rw [Tr.get_set]
        by_cases hc : base + k = c
        · rw [if_pos hc, if_pos ⟨k, by omega, by simpa using hm, hc.symm⟩]
        · rw [if_neg hc, if_neg]
          · rfl
          rintro ⟨j, hj, hb, hc'⟩
          by_cases hjk : j = k
          · subst hjk; exact hc hc'.symm
          · exact h1 ⟨j, by omega, hb, hc'⟩
theorem show_next (base mask : Nat) (H : Heap) : ∀ (k : Nat) (K : Heap), (showA base mask H k K).next = K.next ∧ (showA base mask H k K).log = K.log
  | 0, K => ⟨rfl, rfl⟩
  | k + 1, K => by
    unfold showA
    split
    · exact show_next base mask H k K
    · exact show_next base mask H k _
theorem show_get (base mask : Nat) (H : Heap) : ∀ (k : Nat) (K : Heap) (c : Nat), (showA base mask H k K).get c = if (∃ j, j < k ∧ mask.testBit j = false ∧ c = base + j) then H.get c else K.get c
  | 0, K, c => by simp [showA]
  | k + 1, K, c => by
    unfold showA
    rw [show_get base mask H k]
    by_cases h1 : ∃ j, j < k ∧ mask.testBit j = false ∧ c = base + j
    · obtain ⟨j, hj⟩ := h1
      rw [if_pos ⟨j, hj⟩, if_pos ⟨j, by omega, hj.2⟩]
    · rw [if_neg h1]
      by_cases hm : mask.testBit k = true
      · rw [if_pos hm, if_neg]
        rintro ⟨j, hj, hb, hc⟩
        by_cases hjk : j = k
        · subst hjk; rw [hm] at hb; cases hb
        · exact h1 ⟨j, by omega, hb, hc⟩
      · rw [if_neg hm]
        show (K.tr.set (base + k) (H.tr.get (base + k))).get c = _
        rw [Tr.get_set]
        by_cases hc : base + k = c
        · rw [if_pos hc, if_pos ⟨k, by omega, by simpa using hm, hc.symm⟩, ← hc]; rfl
        · rw [if_neg hc, if_neg]
          · rfl
          rintro ⟨j, hj, hb, hc'⟩
          by_cases hjk : j = k
          · subst hjk; exact hc hc'.symm
          · exact h1 ⟨j, by omega, hb, hc'⟩

/-- the same, of blocks older than B; W: what was written -/
structure Old (B : Nat) (W : Nat → Prop) (H H' : Heap) : Prop where
  next : H.next ≤ H'.next
  dom : ∀ b, b < B → H.get b = none → H'.get b = none
  keep : ∀ b, b < B → ¬ W b → H'.get b = H.get b
  bd : Bd H → Bd H'
theorem Old.refl (B : Nat) (W : Nat → Prop) (H : Heap) : Old B W H H := ⟨Nat.le_refl _, fun _ _ h => h, fun _ _ _ => rfl, fun h => h⟩
theorem Old.trans {B : Nat} {W W' : Nat → Prop} {H H' H'' : Heap} (h : Old B W H H') (k : Old B W' H' H'') (hW : ∀ b, W b → W' b) : Old B W' H H'' :=
  ⟨Nat.le_trans h.next k.next, fun b hb h0 => k.dom b hb (h.dom b hb h0), fun b hb hn => (k.keep b hb hn).trans (h.keep b hb (fun hw => hn (hW b hw))), fun hb => k.bd (h.bd hb)⟩
variable {call : FuncId → List AV → Heap → Option (AV × Heap)} {ops : Array Oper} {base : Nat}
theorem aop_bd {o : Op} {ρ : Operand → AV} {b : Nat} {H H' : Heap} {v : AV} (h : aop P F o ρ b H = some (.val v H')) (hb : b < H.next) (h0 : Bd H) : Bd H' := by
  have hc := aop_chg h
  intro c hcn
  rw [hc.next] at hcn
  exact hc.dom c (by omega) (h0 c hcn)
theorem stepA_old (hc : ∀ f args H v H', Bd H → call f args H = some (v, H') → Chg H H') {B i : Nat} {τ τ' : List AV} {H H' : Heap} (hbd : Bd H) (hB : B ≤ base) (hlt : base + i < H.next) (h : stepA P F call ops base i τ H = some (τ', H')) : Old B (· ∈ H'.log) H H' ∧ ∀ c, c ∈ H.log → c ∈ H'.log := by
  unfold stepA at h
  split at h
  · cases h
  · split at h
    · split at h
      · rename_i hop
        cases h
        have hcg := aop_chg hop
        exact ⟨⟨by rw [hcg.next]; exact Nat.le_refl _, fun c hcb h0 => hcg.dom c (by omega) h0, fun c hcb hn => hcg.keepL c (by omega) hn, aop_bd hop hlt⟩, hcg.log⟩
      · split at h
        · rename_i hcall
          cases h
          have hcg := hc _ _ _ _ _ hbd hcall
          exact ⟨⟨hcg.next, fun c hcb h0 => hcg.dom c (by omega) h0, fun c hcb hn => hcg.keep c (by omega) hn, hcg.bd⟩, hcg.log⟩
        · cases h
      · cases h
    · cases h; exact ⟨.refl _ _ _, fun _ h => h⟩
    · cases h
theorem opsA_old (hc : ∀ f args H v H', Bd H → call f args H = some (v, H') → Chg H H') {B : Nat} (hB : B ≤ base) : ∀ (l : List Nat) (τ τ' : List AV) (H H' : Heap), Bd H → (∀ i ∈ l, base + i < H.next) → opsA P F call ops base l τ H = some (τ', H') →
    Old B (· ∈ H'.log) H H' ∧ ∀ c, c ∈ H.log → c ∈ H'.log
  | [], τ, τ', H, H', _, _, h => by cases h; exact ⟨.refl _ _ _, fun _ h => h⟩
  | i :: l, τ, τ', H, H', hbd, hl, h => by
    unfold opsA at h
    split at h
    · rename_i τ1 H1 hs
      obtain ⟨h1, l1⟩ := stepA_old hc hbd hB (hl i (by simp)) hs
      obtain ⟨h2, l2⟩ := opsA_old hc hB l _ _ _ _ (h1.bd hbd) (fun j hj => Nat.lt_of_lt_of_le (hl j (by simp [hj])) h1.next) h
      exact ⟨h1.trans h2 l2, fun c hcl => l2 c (l1 c hcl)⟩
    · cases h

def touched (r : Option Rec) (c : Nat) : Prop := ∃ x, r = some x ∧ (c ∈ x.writes ∨ c ∈ x.made ∨ (x.isCall = true ∧ x.lo ≤ c ∧ c < x.hi))
structure DStep (base i : Nat) (H H' : Heap) (r : Option Rec) : Prop where
  next : H.next ≤ H'.next
  log : H'.log = H.log
  keep : Bd H → ∀ c, ¬ touched r c → H'.get c = H.get c
  dom : ∀ c, c < H.next → c ≠ base + i → H.get c = none → H'.get c = none
  bd : Bd H → Bd H'
  made : ∀ x, r = some x → (∀ c ∈ x.made, c = base + i) ∧ (x.isCall = true → x.lo = H.next)
theorem drawStep_chg (hc : ∀ f args H v H', Bd H → call f args H = some (v, H') → Chg H H') {i mask : Nat} {τ τ' : List AV} {H H' : Heap} {r : Option Rec} (hbd : Bd H) (hlt : base + i < H.next) (h : drawStep P F call ops base i mask τ H = some (τ', H', r)) : DStep base i H H' r := by
  unfold drawStep at h
  split at h
  · cases h
  · rename_i o ho
    split at h
    · split at h
      · rename_i v K hop
        cases h
        have hcg := aop_chg hop
        refine ⟨by show H.next ≤ K.next; rw [hcg.next]; exact Nat.le_refl _, rfl, fun _ c hn => ?_, fun c _ hcb h0 => hcg.dom c hcb h0, fun h0 c hcn => aop_bd hop hlt h0 c hcn, fun x hx => ?_⟩
        · refine hcg.keep c (fun e => hn ⟨_, rfl, .inr (.inl (by simp [e]))⟩) (fun hw => hn ⟨_, rfl, .inl hw⟩)
        · cases hx; exact ⟨by simp, by simp⟩
      · rename_i f args hop
        split at h
        · rename_i v K hcall
          cases h
          have hn1 : (hideA base mask i H).next = H.next := (hide_next base mask i H).1
          have hbd1 : Bd ({ hideA base mask i H with log := [] } : Heap) := fun d hd => by
            show (hideA base mask i H).get d = none
            rw [hide_get]
            split
            · rfl
            · exact hbd d (by simp only [hn1] at hd; exact hd)
          have hcg := hc _ _ _ _ _ hbd1 hcall
          have hn2 := hcg.next
          simp only [hn1] at hn2
          refine ⟨by show H.next ≤ (showA base mask H i K).next; rw [(show_next base mask H i K).1]; exact hn2, rfl, fun h0 c hn => ?_, fun c hcn hcb h0 => ?_, fun h0 c hcn => ?_, fun x hx => ?_⟩
          · show (showA base mask H i K).get c = H.get c
            rw [show_get]
            split
            · rfl
            · rename_i hh
              have hg : ({ hideA base mask i H with log := [] } : Heap).get c = H.get c := by
                show (hideA base mask i H).get c = _
                rw [hide_get, if_neg hh]
              rcases Nat.lt_or_ge c H.next with hcn | hcn
              · by_cases hl : c ∈ K.log
                · cases hgc : (hideA base mask i H).get c with
                  | none =>
                    have h1 : ({ hideA base mask i H with log := [] } : Heap).get c = none := hgc
                    rw [hcg.dom c (by simp only [hn1]; exact hcn) h1, ← hg, h1]
                  | some y => exact absurd ⟨_, rfl, .inl (List.mem_filter.2 ⟨hl, by simp [hgc]⟩)⟩ hn
                · rw [hcg.keep c (by simp only [hn1]; exact hcn) hl]; exact hg
              · rcases Nat.lt_or_ge c K.next with hck | hck
                · exact absurd ⟨_, rfl, .inr (.inr ⟨rfl, hcn, hck⟩)⟩ hn
                · have hbd : Bd ({ hideA base mask i H with log := [] } : Heap) := fun d hd => by
                    show (hideA base mask i H).get d = none
                    rw [hide_get]
                    split
                    · rfl
                    · exact h0 d (by simp only [hn1] at hd; exact hd)
                  rw [hcg.bd hbd c hck, h0 c hcn]
          · show (showA base mask H i K).get c = none
            rw [show_get]
            split
            · exact h0
            · rename_i hh
              refine hcg.dom c (by simp only [hn1]; exact hcn) ?_
              show (hideA base mask i H).get c = none
              rw [hide_get, if_neg hh]
              exact h0
          · show (showA base mask H i K).get c = none
            have hcn' : K.next ≤ c := by
              have : (showA base mask H i K).next ≤ c := hcn
              rwa [(show_next base mask H i K).1] at this
            rw [show_get]
            split
            · exact h0 c (by omega)
            · have hbd : Bd ({ hideA base mask i H with log := [] } : Heap) := fun d hd => by
                show (hideA base mask i H).get d = none
                rw [hide_get]
                split
                · rfl
                · exact h0 d (by simp only [hn1] at hd; exact hd)
              exact hcg.bd hbd c hcn'
          · cases hx; exact ⟨by simp, fun _ => rfl⟩
        · cases h
      · cases h
    · cases h
      exact ⟨Nat.le_refl _, rfl, fun _ _ _ => rfl, fun _ _ _ h => h, fun h => h, fun x hx => by cases hx⟩
    · cases h
theorem drawA_old (hc : ∀ f args H v H', Bd H → call f args H = some (v, H') → Chg H H') {B : Nat} (hB : B ≤ base) {before : List Nat} : ∀ (l : List Nat) (τ τ' : List AV) (H K : Heap) (rs rs' : List Rec), Bd H → (∀ i ∈ l, base + i < H.next) → B ≤ H.next →
    drawA P F call ops base before l τ H rs = some (τ', K, rs') → H.next ≤ K.next ∧ K.log = H.log ∧ Bd K ∧ (∀ b, b < B → H.get b = none → K.get b = none) ∧ (∀ b, b < B → b ∉ rs'.flatMap (·.writes) → K.get b = H.get b) ∧ (∀ x ∈ rs, x ∈ rs')
  | [], τ, τ', H, K, rs, rs', hbd, _, _, h => by cases h; exact ⟨Nat.le_refl _, rfl, hbd, fun _ _ h => h, fun _ _ _ => rfl, fun _ h => h⟩
  | i :: l, τ, τ', H, K, rs, rs', hbd, hl, hBn, h => by
    unfold drawA at h
    split at h
    · rename_i τ1 H1 hs
      have d := drawStep_chg hc hbd (hl i (by simp)) hs
      obtain ⟨a1, a2, a3, a4, a5, a6⟩ := drawA_old hc hB l _ _ _ _ _ _ (d.bd hbd) (fun j hj => Nat.lt_of_lt_of_le (hl j (by simp [hj])) d.next) (Nat.le_trans hBn d.next) h
      refine ⟨Nat.le_trans d.next a1, a2.trans d.log, a3, fun b hb h0 => a4 b hb (d.dom b (by omega) (by omega) h0), fun b hb hn => (a5 b hb hn).trans (d.keep hbd b ?_), a6⟩
      rintro ⟨x, hx, _⟩
      cases hx
    · rename_i τ1 H1 r hs
      split at h
      · have d := drawStep_chg hc hbd (hl i (by simp)) hs
        obtain ⟨a1, a2, a3, a4, a5, a6⟩ := drawA_old hc hB l _ _ _ _ _ _ (d.bd hbd) (fun j hj => Nat.lt_of_lt_of_le (hl j (by simp [hj])) d.next) (Nat.le_trans hBn d.next) h
        refine ⟨Nat.le_trans d.next a1, a2.trans d.log, a3, fun b hb h0 => a4 b hb (d.dom b (by omega) (by omega) h0), fun b hb hn => (a5 b hb hn).trans (d.keep hbd b ?_), fun x hx => a6 x (by simp [hx])⟩
        rintro ⟨x, hx, h1 | h1 | ⟨h1, h2, _⟩⟩
        · cases hx
          exact hn (List.mem_flatMap.2 ⟨r, a6 r (by simp), h1⟩)
        · have := (d.made x hx).1 b h1; omega
        · have := (d.made x hx).2 h1; omega
      · cases h
    · cases h
theorem region_chg (hc : ∀ f args H v H', Bd H → call f args H = some (v, H') → Chg H H') {draw : Bool} {τ τ' : List AV} {H H' : Heap} (hbd : Bd H) (h : regionA P F call ops draw τ H = some (τ', H')) : Chg H H' := by
  have hbd0 : Bd { H with next := H.next + ops.size } := fun b hb => hbd b (Nat.le_trans (Nat.le_add_right _ _) hb)
  cases draw with
  | false =>
    simp only [regionA, Bool.false_eq_true, if_false] at h
    obtain ⟨o, l⟩ := opsA_old hc (Nat.le_refl H.next) _ _ _ _ _ hbd0 (fun i hi => by rw [List.mem_range] at hi; exact Nat.add_lt_add_left hi _) h
    exact ⟨Nat.le_trans (Nat.le_add_right _ _) o.next, o.dom, o.keep, l, fun _ => o.bd hbd0⟩
  | true =>
    simp only [regionA, if_true] at h
    split at h
    · rename_i τ1 K rs hd
      cases h
      obtain ⟨a1, a2, a3, a4, a5, _⟩ := drawA_old hc (Nat.le_refl H.next) _ _ _ _ _ _ _ hbd0 (fun i hi => by rw [List.mem_range] at hi; exact Nat.add_lt_add_left hi _) (Nat.le_add_right _ _) hd
      refine ⟨Nat.le_trans (Nat.le_add_right _ _) a1, a4, fun b hb hn => a5 b hb (fun hw => hn ?_), fun b hb => ?_, fun _ => a3⟩
      · simp only [List.mem_append]; exact .inl hw
      · simp only [List.mem_append]; right; rw [a2]; exact hb
    · cases h

theorem callBy_chg {ex : Code → List AV → Heap → Option (Ex × List AV × Heap)} (h : ∀ c τ H e τ' H', Bd H → ex c τ H = some (e, τ', H') → Chg H H') {f : FuncId} {args : List AV} {H : Heap} {v : AV} {H' : Heap} (hbd : Bd H)
    (hc : callBy P ex f args H = some (v, H')) : Chg H H' := by
  unfold callBy at hc
  split at hc
  · split at hc
    · split at hc
      · cases hc
      · rename_i e τ' K hne hex
        split at hc
        · cases hc
          have hk := h _ _ { H with log := [] } _ _ _ hbd hex
          refine ⟨hk.next, hk.dom, fun b hb hn => hk.keep b hb (fun hl => hn ?_), fun b hb => ?_, fun _ => hk.bd hbd⟩
          · simp only [List.mem_append, List.mem_filter, decide_eq_true_eq]; exact .inl ⟨hl, hb⟩
          · simp only [List.mem_append]; exact .inr hb
        · cases hc
      · cases hc
    · cases hc
  · cases hc
theorem exec_chg (f : Nat) : ∀ (c : Code) (τ : List AV) (H : Heap) (e : Ex) (τ' : List AV) (H' : Heap), Bd H → exec P F f c τ H = some (e, τ', H') → Chg H H' := by
  induction f with
  | zero => intro c τ H e τ' H' _ h; cases h
  | succ f ih =>
    intro c τ H e τ' H' hbd h
    cases c with
    | skip => cases h; exact .refl _
    | label l => cases h; exact .refl _
    | exit id => cases h; exact .refl _
    | ret => cases h; exact .refl _
    | region id ops draw =>
      simp only [exec] at h
      split at h
      · rename_i hr; cases h; exact region_chg (fun f args H v H' hb hcall => callBy_chg ih hb hcall) hbd hr
      · cases h
    | seq x y =>
      simp only [exec] at h
      split at h
      · rename_i h1
        have k1 := ih _ _ _ _ _ _ hbd h1
        exact k1.trans (ih _ _ _ _ _ _ (k1.bd hbd) h)
      · exact ih _ _ _ _ _ _ hbd h
    | cond x c1 c2 =>
      simp only [exec] at h
      split at h
      · exact ih _ _ _ _ _ _ hbd h
      · exact ih _ _ _ _ _ _ hbd h
      · cases h
    | block id c1 =>
      simp only [exec] at h
      split at h
      · rename_i h1
        split at h
        · cases h; exact ih _ _ _ _ _ _ hbd h1
        · cases h; exact ih _ _ _ _ _ _ hbd h1
      · exact ih _ _ _ _ _ _ hbd h
    | loop c1 =>
      simp only [exec] at h
      split at h
      · rename_i h1
        have k1 := ih _ _ _ _ _ _ hbd h1
        exact k1.trans (ih _ _ _ _ _ _ (k1.bd hbd) h)
      · exact ih _ _ _ _ _ _ hbd h
    | _ => simp [exec] at h
end
end Go.Proofs.Ytdaejmkoenhbkaa.Am
