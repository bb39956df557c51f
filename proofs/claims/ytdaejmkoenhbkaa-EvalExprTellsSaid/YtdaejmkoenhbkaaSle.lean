/- AM, part 33: drawn regions over a symbolic heap. -/
import Derived.Test.YtdaejmkoenhbkaaSld
namespace Go.Proofs.Ytdaejmkoenhbkaa.Am
open Go.RowKit
set_option linter.unusedVariables false
section
variable {P : Program} {F : TypeId → Option (List TypeId)} {ops : Array Oper} {base : Nat} {ρ : Operand → AV} {L : SH}
theorem call_inv {o : Op} {b : Nat} {g : FuncId} {args : List AV} {H : Heap} (h : aop P F o ρ b H = some (.call g args)) : ∃ c f, o = .call c ∧ c.callee = .value f := by
  cases o with
  | call c =>
    simp only [aop] at h
    split at h
    · rename_i bi _
      cases hbi : builtinA P H b bi c.argTypes (c.args.toList.map ρ) with
      | none => rw [hbi] at h; cases h
      | some r => rw [hbi] at h; cases h
    · rename_i f hf; exact ⟨c, f, rfl, hf⟩
    · cases h
  | makeFunc fn first cap => cases fn <;> simp only [aop] at h <;> (try split at h) <;> simp at h
  | _ =>
    exfalso
    simp only [aop] at h
    repeat' (first | (cases h; done) | (simp at h; done) | split at h)
theorem nonmem_reads {o : Op} (h : W.isMem o = false) : readsA o ρ = [] ∧ writesA o ρ = [] := by
  cases o with
  | call c =>
    simp only [W.isMem] at h
    simp only [readsA, writesA]
    split at h
    · cases h
    · cases h
    · rename_i hn hn2
      constructor <;> · split
                        · rename_i he; exact absurd he hn
                        · rename_i he; exact absurd he hn2
                        · rfl
  | _ => first | (cases h; done) | exact ⟨rfl, rfl⟩
theorem rowsR_reads {n : Nat} {s : AV} {rows : List (List AV)} (h : W0.rowsR L n s rows) : ∀ c ∈ blocksOf s, c ∈ L.names := by
  intro c hc
  unfold W0.rowsR at h
  split at h
  · simp [blocksOf] at hc
  · simp [blocksOf] at hc
  · simp [blocksOf] at hc
  · obtain ⟨x, h1, _⟩ := h
    simp only [blocksOf, List.mem_singleton] at hc
    subst hc
    exact List.mem_map_of_mem (f := Prod.fst) h1
  · exact h.elim
theorem op_reads {o : Op} {K : AV → SH → Prop} (h : W0.op P F o ρ L K) : ∀ c ∈ readsA o ρ, c ∈ L.names := by
  intro c hc
  cases o with
  | load t a =>
    simp only [W0.op] at h
    split at h
    · simp only [readsA] at hc
      unfold W0.loadR at h
      split at h
      · rename_i ha
        obtain ⟨x, r, v, g1, _⟩ := h
        rw [ha] at hc
        simp only [blocksOf, List.mem_singleton] at hc
        subst hc
        exact List.mem_map_of_mem (f := Prod.fst) g1
      · rename_i ha; rw [ha] at hc; simp [blocksOf] at hc
      · exact h.elim
    · exact h.elim
  | store t a x =>
    simp only [W0.op] at h
    split at h
    · simp only [readsA] at hc
      unfold W0.storeR at h
      split at h
      · rename_i ha
        obtain ⟨x, r, cs, L', _, _, _, _, _, g1, _⟩ := h
        rw [ha] at hc
        simp only [blocksOf, List.mem_singleton] at hc
        subst hc
        exact List.mem_map_of_mem (f := Prod.fst) g1.mem
      · exact h.elim
    · exact h.elim
  | indexAddr t x ix =>
    simp only [W0.op] at h
    simp only [readsA] at hc
    split at h
    · split at h
      · unfold W0.idxR at h
        split at h
        · rename_i hx
          obtain ⟨k, i, y, _, _, _, g1, _⟩ := h
          rw [hx] at hc
          simp only [slOf, List.mem_singleton] at hc
          subst hc
          exact List.mem_map_of_mem (f := Prod.fst) g1
        · rename_i hx; rw [hx] at hc; simp [slOf] at hc
        · exact h.elim
      · exact h.elim
    · split at h
      · obtain ⟨k, i, _, _, _, g⟩ := h
        split at g
        · rename_i hx; rw [hx] at hc; simp [slOf] at hc
        · rename_i hx; rw [hx] at hc; simp [slOf] at hc
        · exact g.elim
      · exact h.elim
    · exact h.elim
  | slice t x lo hi mx =>
    simp only [W0.op] at h
    simp only [readsA] at hc
    split at h
    · exact h.elim
    · split at h
      · split at h
        · obtain ⟨len, l, hh, m, _, _, _, _, _, _, _, g⟩ := h
          split at g
          · rename_i hx; rw [hx] at hc; simp [slOf] at hc
          · rename_i hx
            obtain ⟨⟨y, g1, _⟩, _⟩ := g
            rw [hx] at hc
            simp only [slOf, List.mem_singleton] at hc
            subst hc
            exact List.mem_map_of_mem (f := Prod.fst) g1
          · rename_i hx; rw [hx] at hc; simp [slOf] at hc
          · exact g.elim
        · exact h.elim
      · split at h
        · obtain ⟨s, l, hh, hx, _⟩ := h
          rw [hx] at hc; simp [slOf] at hc
        · exact h.elim
      · exact h.elim
  | call k =>
    simp only [readsA] at hc
    split at hc
    · rename_i hcal
      simp only [W0.op, hcal] at h
      split at h
      · rename_i s x t tx ha ht
        split at h
        · split at h
          · split at h
            · obtain ⟨l, m, g1, g2, _⟩ := h
              simp only [ha, List.flatMap_cons, List.flatMap_nil, List.append_nil, List.mem_append] at hc
              rcases hc with hc | hc
              · exact rowsR_reads g1 c hc
              · exact rowsR_reads g2 c hc
            · exact h.elim
          · exact h.elim
        · exact h.elim
      · exact h.elim
    · rename_i hcal
      simp only [W0.op, hcal] at h
      split at h
      · rename_i x t ha ht
        split at h
        · split at h
          · split at h
            · simp only [ha, List.flatMap_cons, List.flatMap_nil, List.append_nil] at hc
              unfold W0.clearR at h
              split at h
              · rename_i hx; rw [hx] at hc; simp [blocksOf] at hc
              · rename_i hx
                obtain ⟨y, L', _, _, g1, _⟩ := h
                rw [hx] at hc
                simp only [blocksOf, List.mem_singleton] at hc
                subst hc
                exact List.mem_map_of_mem (f := Prod.fst) g1.mem
              · exact h.elim
            · exact h.elim
          · exact h.elim
        · exact h.elim
      · exact h.elim
    · simp at hc
  | _ => simp [readsA] at hc
/-- operations that make and change no memory -/
theorem op_calm {o : Op} {K K2 : AV → SH → Prop} (hK : ∀ v, K v L → K2 v L) (hm : W.isMem o = false) (hv : ∀ c f, o = .call c → c.callee ≠ .value f) (h : W0.op P F o ρ L K) : W0.op P F o ρ L K2 := by
  cases o with
  | call c =>
    simp only [W0.op] at h ⊢
    split at h
    · split at h
      · obtain ⟨n, g1, g2⟩ := h; exact ⟨n, g1, hK _ g2⟩
      · obtain ⟨n, g1, g2⟩ := h; exact ⟨n, g1, hK _ g2⟩
      · split at h
        · exact h
        · exact hK _ h
      · exact h
    · rename_i hc; simp [W.isMem, hc] at hm
    · split at h
      · obtain ⟨k, a, c, g1, g2, g3⟩ := h; exact ⟨k, a, c, g1, g2, hK _ g3⟩
      · exact h
    · split at h
      · obtain ⟨k, a, c, g1, g2, g3⟩ := h; exact ⟨k, a, c, g1, g2, hK _ g3⟩
      · exact h
    · rename_i hc; simp [W.isMem, hc] at hm
    · rename_i f hc; exact absurd hc (hv c f rfl)
    · exact h
  | move x => exact hK _ h
  | assign x => exact hK _ h
  | pick c x y => obtain ⟨t, g1, g2⟩ := h; exact ⟨t, g1, hK _ g2⟩
  | build t parts =>
    simp only [W0.op] at h ⊢
    split at h
    · split at h
      · rename_i hall
        rw [if_pos hall]
        split at h
        · obtain ⟨cs, g1, g2⟩ := h; exact ⟨cs, g1, hK _ g2⟩
        · exact h
      · exact h.elim
    · split at h
      · obtain ⟨cs, g1, g2⟩ := h; exact ⟨cs, g1, hK _ g2⟩
      · exact h
    · exact h
  | nilCheck x =>
    simp only [W0.op, W0.nilchk] at h ⊢
    split at h <;> first | exact hK _ h | exact h
  | binOp op t x y c => obtain ⟨v, g1, g2⟩ := h; exact ⟨v, g1, hK _ g2⟩
  | unOp op t x => obtain ⟨v, g1, g2⟩ := h; exact ⟨v, g1, hK _ g2⟩
  | convert s d x =>
    simp only [W0.op] at h ⊢
    split at h
    · obtain ⟨k, n, g1, g2⟩ := h; exact ⟨k, n, g1, hK _ g2⟩
    · obtain ⟨s, g1, g2⟩ := h; exact ⟨s, g1, hK _ g2⟩
    · exact h
  | makeFunc fn first cap =>
    cases fn with
    | func f =>
      simp only [W0.op] at h ⊢
      split at h
      · rename_i h0; rw [if_pos h0]; exact hK _ h
      · exact h.elim
    | _ => exact h
  | fieldAddr s x f =>
    simp only [W0.op] at h ⊢
    split at h
    · split at h
      · split at h
        · split at h
          · exact h.elim
          · rename_i h0
            rw [if_neg h0]
            unfold W0.faddr at h ⊢
            split at h <;> first | exact hK _ h | exact h
        · exact h
      · exact h
    · exact h
  | field s x f =>
    simp only [W0.op] at h ⊢
    split at h
    · split at h
      · split at h
        · obtain ⟨cs, v, g1, g2, g3⟩ := h; exact ⟨cs, v, g1, g2, hK _ g3⟩
        · exact h
      · exact h
    · exact h
  | index t x ix =>
    simp only [W0.op] at h ⊢
    split at h
    · obtain ⟨s, k, i, y, g1, g2, g3, g4, g5⟩ := h; exact ⟨s, k, i, y, g1, g2, g3, g4, hK _ g5⟩
    · split at h
      · obtain ⟨cs, k, i, v, g1, g2, g3, g4, g5, g6⟩ := h; exact ⟨cs, k, i, v, g1, g2, g3, g4, g5, hK _ g6⟩
      · exact h
    · exact h
  | extract x i => obtain ⟨vs, v, g1, g2, g3⟩ := h; exact ⟨vs, v, g1, g2, hK _ g3⟩
  | _ => first | (cases hm; done) | exact h
theorem meets_free' {x y : Rec} (hw : ∀ c ∈ x.writes, c ∉ y.reads ∧ c ∉ y.writes) (hr : ∀ c ∈ x.reads, c ∉ y.writes) (hm : ∀ c ∈ x.made, c ∉ y.reads ∧ c ∉ y.writes)
    (hc : x.isCall = true → y.isCall = false ∧ y.writes = [] ∧ ∀ c ∈ y.reads, c < x.lo) (hy : y.isCall = true → x.writes = []) : meets x y = false := by
  have ap : ∀ l m : List Nat, (∀ c ∈ l, c ∉ m) → apart l m = true := fun l m h => by simpa [apart] using h
  unfold meets
  rw [ap _ _ fun c h => (hw c h).1, ap _ _ fun c h => (hw c h).2, ap _ _ hr, ap _ _ fun c h => (hm c h).1, ap _ _ fun c h => (hm c h).2]
  cases hx : x.isCall with
  | true =>
    obtain ⟨h1, h2, h3⟩ := hc hx
    simp only [h1, h2, List.isEmpty_nil, Bool.not_true, Bool.false_or, Bool.and_true, Bool.true_and, Bool.false_and, Bool.or_false]
    rw [List.any_eq_false]
    intro c hcm
    have := h3 c hcm
    simp; omega
  | false =>
    cases hyc : y.isCall with
    | true => simp [hy hyc]
    | false => simp
theorem dop_cases {us : List W.WR} {i : Nat} {o : Op} {K : AV → SH → W.Fp → Prop} (h : W.dop P F us i o ρ L K) :
    (∃ c f g cs, o = .call c ∧ c.callee = .value f ∧ ρ f = .fn g cs ∧ ∃ Kc R : SH, L.Perm (Kc ++ R) ∧ (∀ x ∈ us, W.free x ⟨i, [], Kc.names, [], true, []⟩) ∧ CallA P g (c.args.toList.map ρ ++ cs) Kc fun v K' => W.note ⟨[], Kc.names, [], L.names⟩ fun r => K v (K' ++ R) r) ∨
    (W.isMem o = true ∧ W.isCallV o = false ∧ (∀ x ∈ us, W.free x ⟨i, readsA o ρ, writesA o ρ, [], false, []⟩) ∧ W0.op P F o ρ L fun v L' => W.note ⟨readsA o ρ, writesA o ρ, if W0.makes o then blocksOf v else [], []⟩ fun r => K v L' r) ∨
    (W.isMem o = false ∧ W.isCallV o = false ∧ (∀ c f, o = .call c → c.callee ≠ .value f) ∧ W0.op P F o ρ L fun v L' => K v L' ⟨[], [], [], []⟩) := by
  cases o with
  | call c =>
    simp only [W.dop] at h
    split at h
    · rename_i f hf
      have h := h.h
      split at h
      · rename_i g cs hg; exact .inl ⟨c, f, g, cs, rfl, hf, hg, h⟩
      · exact h.elim
    · rename_i hc
      split at h
      · rename_i s x ha
        have h1 : readsA (.call c) ρ = blocksOf (ρ s) ++ blocksOf (ρ x) := by simp [readsA, hc, ha]
        have h2 : writesA (.call c) ρ = blocksOf (ρ s) := by simp [writesA, hc, ha]
        refine .inr (.inl ⟨by simp [W.isMem, hc], by simp [W.isCallV, hc], ?_⟩)
        rw [h1, h2, show W0.makes (.call c) = true by simp [W0.makes, hc]]
        exact ⟨h.h.1, W.op_raw h.h.2⟩
      · exact h.elim
    · rename_i hc
      split at h
      · rename_i x ha
        have h1 : readsA (.call c) ρ = blocksOf (ρ x) := by simp [readsA, hc, ha]
        have h2 : writesA (.call c) ρ = blocksOf (ρ x) := by simp [writesA, hc, ha]
        refine .inr (.inl ⟨by simp [W.isMem, hc], by simp [W.isCallV, hc], ?_⟩)
        rw [h1, h2, show W0.makes (.call c) = false by simp [W0.makes, hc]]
        exact ⟨h.h.1, W.op_raw h.h.2⟩
      · exact h.elim
    · rename_i h1 h2 h3
      refine .inr (.inr ⟨?_, ?_, fun c' f hc' => ?_, W.op_raw h⟩)
      · simp only [W.isMem]
      · simp only [W.isCallV]
      · cases hc'; exact h1 f
  | _ => first | exact .inr (.inl ⟨rfl, rfl, h.h.1, W.op_raw h.h.2⟩) | exact .inr (.inr ⟨rfl, rfl, fun c f hc => (by cases hc), W.op_raw h⟩)
/-- the records of the evaluator and those of W -/
def Rel1 (base k : Nat) (ws : List W.WR) (r : Rec) : Prop := r.op < k ∧
  ((r.isCall = false ∧ r.reads = [] ∧ r.writes = [] ∧ r.made = [base + r.op]) ∨
   ∃ x ∈ ws, x.op = r.op ∧ r.reads = x.reads ∧ (∀ c ∈ r.writes, c ∈ x.writes) ∧ r.isCall = x.isCall ∧ (r.isCall = true → r.made = [] ∧ ∀ c ∈ x.old, c < r.lo) ∧ (r.isCall = false → r.made = [base + r.op]))
theorem Rel1.more {k k' : Nat} {ws ws' : List W.WR} {r : Rec} (h : Rel1 base k ws r) (hk : k ≤ k') (hw : ∀ x ∈ ws, x ∈ ws') : Rel1 base k' ws' r := by
  refine ⟨Nat.lt_of_lt_of_le h.1 hk, ?_⟩
  rcases h.2 with h1 | ⟨x, h1, h2⟩
  · exact .inl h1
  · exact .inr ⟨x, hw x h1, h2⟩
/-- names of the region's own blocks are recorded -/
def Made (base k : Nat) (L : SH) (ws : List W.WR) : Prop := ∀ j, j < k → base + j ∈ L.names → ∃ x ∈ ws, x.op = j ∧ base + j ∈ x.made
/-- an operation that is free of W's records is free of the evaluator's -/
theorem free_meets {k : Nat} {ws : List W.WR} {mask : Nat} {r y : Rec} {wy : W.WR} (hr : Rel1 base k ws r) (hma : Made base k L ws) (hun : mask.testBit r.op = false)
    (hf : ∀ x ∈ ws.filter (fun x => !mask.testBit x.op), W.free x wy) (h1 : ∀ c ∈ y.reads, c ∈ wy.reads) (h2 : ∀ c ∈ y.writes, c ∈ wy.writes) (h3 : y.isCall = wy.isCall) (h4 : wy.writes = [] → y.writes = [])
    (hL1 : ∀ c ∈ wy.reads, c ∈ L.names) (hL2 : ∀ c ∈ wy.writes, c ∈ L.names) : meets r y = false := by
  have mem : ∀ x ∈ ws, x.op = r.op → W.free x wy := fun x hx he => hf x (by rw [List.mem_filter]; exact ⟨hx, by rw [he, hun]; rfl⟩)
  have made : ∀ c ∈ [base + r.op], c ∉ y.reads ∧ c ∉ y.writes := fun c hc => by
    rw [List.mem_singleton] at hc
    subst hc
    constructor
    · intro hy
      obtain ⟨x, g1, g2, g3⟩ := hma r.op hr.1 (hL1 _ (h1 _ hy))
      exact ((mem x g1 g2).2.2.1 _ g3).1 (h1 _ hy)
    · intro hy
      obtain ⟨x, g1, g2, g3⟩ := hma r.op hr.1 (hL2 _ (h2 _ hy))
      exact ((mem x g1 g2).2.2.1 _ g3).2 (h2 _ hy)
  rcases hr.2 with ⟨g1, g2, g3, g4⟩ | ⟨x, g1, g2, g3, g4, g5, g6, g7⟩
  · exact meets_free' (by simp [g3]) (by simp [g2]) (by rw [g4]; exact made) (by simp [g1]) (fun _ => g3)
  · obtain ⟨f1, f2, f3, f4, f5⟩ := mem x g1 g2
    refine meets_free' (fun c hc => ⟨fun h => (f1 c (g4 c hc)).1 (h1 c h), fun h => (f1 c (g4 c hc)).2 (h2 c h)⟩) (fun c hc h => f2 c (g3 ▸ hc) (h2 c h)) ?_ (fun hc => ?_) (fun hc => ?_)
    · cases hrc : r.isCall with
      | true => rw [(g6 hrc).1]; simp
      | false => rw [g7 hrc]; exact made
    · obtain ⟨e1, e2, e3⟩ := f4 (g5 ▸ hc)
      exact ⟨h3.trans e1, h4 e2, fun c h => (g6 hc).2 c (e3 c (h1 c h))⟩
    · have := f5 (h3 ▸ hc)
      cases hw : r.writes with
      | nil => rfl
      | cons c l => have h := g4 c (by rw [hw]; simp); rw [this] at h; simp at h
theorem drawStep_agree {call1 call2 : FuncId → List AV → Heap → Option (AV × Heap)} {n i mask : Nat} {τ : List AV} {H : Heap} (hag : ∀ f args H, n < H.next → call1 f args H = call2 f args H) (hn : n < H.next) : drawStep P F call1 ops base i mask τ H = drawStep P F call2 ops base i mask τ H := by
  unfold drawStep
  split
  · rfl
  · split
    · split
      · rfl
      · rw [hag _ _ _ (by show n < (hideA base mask i H).next; rw [(hide_next base mask i H).1]; exact hn)]
      · rfl
    · rfl
    · rfl
theorem drawA_agree {call1 call2 : FuncId → List AV → Heap → Option (AV × Heap)} {n : Nat} {before : List Nat} (hag : ∀ f args H, n < H.next → call1 f args H = call2 f args H) (hs : Sound P call1) : ∀ (l : List Nat) (τ : List AV) (H : Heap) (rs : List Rec) (r : List AV × Heap × List Rec), n < H.next → drawA P F call1 ops base before l τ H rs = some r → drawA P F call2 ops base before l τ H rs = some r
  | [], τ, H, rs, r, _, h => h
  | i :: l, τ, H, rs, r, hn, h => by
    have key : ∀ {τ1 H1 x}, drawStep P F call1 ops base i (before.getD i 0) τ H = some (τ1, H1, x) → H.next ≤ H1.next := fun {τ1 H1 x} hd => by
      have : ∃ l, drawA P F call1 ops base before [i] τ H [] = some (τ1, H1, l) := by
        unfold drawA
        rw [hd]
        cases x
        · exact ⟨_, rfl⟩
        · exact ⟨_, rfl⟩
      obtain ⟨l, this⟩ := this
      exact drawA_next hs [i] _ _ _ _ _ _ this
    unfold drawA at h ⊢
    rw [← drawStep_agree (call1 := call1) hag hn]
    split at h
    · rename_i hd; exact drawA_agree hag hs l _ _ _ r (Nat.lt_of_lt_of_le hn (key hd)) h
    · rename_i hd
      split at h
      · rename_i hc; rw [if_pos hc]; exact drawA_agree hag hs l _ _ _ r (Nat.lt_of_lt_of_le hn (key hd)) h
      · cases h
    · cases h
theorem range'_succ (k m : Nat) : List.range' k (m + 1) = k :: List.range' (k + 1) m := rfl
theorem dr_sound {before : List Nat} : ∀ (m k : Nat) (τ : List AV) (L : SH) (ws : List W.WR) (K : List AV → SH → Prop), W.dr P F ops before (List.range' k m) τ L ws K → ∀ (H : Heap) (rs : List Rec), Bd H → Sub L H →
    (∀ j, k ≤ j → j < k + m → base + j < H.next ∧ H.get (base + j) = none) → base + k ≤ H.next → (∀ r ∈ rs, Rel1 base k ws r) → Made base k L ws →
    ∃ call τ' H' L' rs', Sound P call ∧ Chgs call ∧ drawA P F call ops base before (List.range' k m) τ H rs = some (τ', H', rs') ∧ Fr base L H L' H' ∧ K τ' L'
  | 0, k, τ, L, ws, K, h, H, rs, hb, hs, _, _, _, _ => ⟨noCall, τ, H, L, rs, noCall_sound P, fun _ _ _ _ _ _ h => (by cases h), rfl, .refl hb hs, h⟩
  | m + 1, k, τ, L, ws, K, h, H, rs, hb, hs, hfr, hbase, hrel, hma => by
    rw [range'_succ] at h ⊢
    have h0 := hfr k (Nat.le_refl _) (by omega)
    have hlt : ∀ c, c ∈ L.names → c < H.next := fun c hc => by
      obtain ⟨x, _, hx⟩ := hs.mem hc
      rcases Nat.lt_or_ge c H.next with h1 | h1
      · exact h1
      · rw [hb c h1] at hx; cases hx
    unfold W.dr at h
    split at h
    · exact h.elim
    · rename_i o ho
      have go : ∀ (Kc : AV → SH → W.Fp → Prop), wantedA ops o τ = some true → W.dop P F (ws.filter fun x => !(before.getD k 0).testBit x.op) k o.op (aev τ) L Kc → (∀ v L1 r, Kc v L1 r → W.dr P F ops before (List.range' (k + 1) m) (putA τ o.dst v) L1 (W.push k o.op r ws) K) →
          ∃ call τ' H' L' rs', Sound P call ∧ Chgs call ∧ drawA P F call ops base before (k :: List.range' (k + 1) m) τ H rs = some (τ', H', rs') ∧ Fr base L H L' H' ∧ K τ' L' := by
        intro Kc hw hop hk
        -- a simple operation
        have val : ∀ (v : AV) (H1 : Heap) (L1 : SH) (wr : W.Fp), aop P F o.op (aev τ) (base + k) H = some (.val v H1) → OpFr (base + k) L H L1 H1 → Kc v L1 wr →
            (∀ r ∈ rs, (before.getD k 0).testBit r.op = false → meets r ⟨k, readsA o.op (aev τ), writesA o.op (aev τ), [base + k], false, 0, 0⟩ = false) →
            Rel1 base (k + 1) (W.push k o.op wr ws) ⟨k, readsA o.op (aev τ), writesA o.op (aev τ), [base + k], false, 0, 0⟩ → (∀ x ∈ ws, x ∈ W.push k o.op wr ws) → (base + k ∈ L1.names → ∃ x ∈ W.push k o.op wr ws, x.op = k ∧ base + k ∈ x.made) →
            ∃ call τ' H' L' rs', Sound P call ∧ Chgs call ∧ drawA P F call ops base before (k :: List.range' (k + 1) m) τ H rs = some (τ', H', rs') ∧ Fr base L H L' H' ∧ K τ' L' := by
          intro v H1 L1 wr g1 g2 g3 g4 g5 g6 g7
          obtain ⟨call, τ', H', L', rs', k1, k2, k3, k4, k5⟩ := dr_sound m (k + 1) (putA τ o.dst v) L1 (W.push k o.op wr ws) K (hk v L1 wr g3) { H1 with log := H.log } (⟨k, readsA o.op (aev τ), writesA o.op (aev τ), [base + k], false, 0, 0⟩ :: rs) g2.bd (g2.sub.congr fun _ => rfl) (fun j h1 h2 => by
              have hj0 := hfr j (by omega) (by omega)
              exact ⟨by show base + j < H1.next; rw [g2.next]; exact hj0.1, g2.dom _ (by omega) hj0.2⟩) (by show base + (k + 1) ≤ H1.next; rw [g2.next]; omega) (fun r hr => by
              rcases List.mem_cons.1 hr with rfl | hr
              · exact g5
              · exact (hrel r hr).more (Nat.le_succ _) g6) (fun j hj hm => by
              rcases g2.fresh _ hm with h1 | h1
              · have : j = k := by omega
                subst this
                exact g7 hm
              · have hjk : j ≠ k := fun e => by subst e; exact hs.not_mem h0.2 h1
                obtain ⟨x, e1, e2⟩ := hma j (by omega) h1
                exact ⟨x, g6 x e1, e2⟩)
          refine ⟨call, τ', H', L', rs', k1, k2, ?_, Fr.trans (H' := { H1 with log := H.log }) ⟨Nat.le_of_eq g2.next.symm, g2.bd, g2.sub.congr fun _ => rfl, g2.keep, fun c hc => g2.dom c (by omega), fun c hc hlt => (g2.fresh c hc).resolve_left (by omega)⟩ k4 (Nat.le_refl _), k5⟩
          unfold drawA drawStep
          simp only [ho, hw, g1]
          rw [if_pos]
          · exact k3
          · rw [List.all_eq_true]
            intro r hr
            cases hm : (before.getD k 0).testBit r.op with
            | true => rfl
            | false => rw [g4 r hr hm]; rfl
        rcases dop_cases hop with ⟨c, f, g, cs, e1, e2, e3, hd⟩ | ⟨hm, hcv, hfree, hop⟩ | ⟨hm, hcv, hv, hop⟩
        · -- a call
          obtain ⟨Kp, R, hL, hfree, bd, hcall⟩ := hd
          have hs' := hs.perm hL
          have hn : ∀ b, b ∈ L.names ↔ b ∈ Kp.names ∨ b ∈ R.names := fun b => by rw [(hL.map Prod.fst).mem_iff, List.map_append, List.mem_append]
          generalize hmask : before.getD k 0 = mask at hfree hop
          let Hid : Nat → Prop := fun c => ∃ j, j < k ∧ mask.testBit j = false ∧ c = base + j
          have hHid : ∀ c, Hid c → c < H.next ∧ base ≤ c := fun c ⟨j, hj, _, hc⟩ => by omega
          have hKp : ∀ c, c ∈ Kp.names → ¬ Hid c := fun c hc ⟨j, hj, hmj, hcj⟩ => by
            subst hcj
            obtain ⟨x, f1, f2, f3⟩ := hma j hj ((hn _).2 (.inl hc))
            exact ((hfree x (by rw [List.mem_filter]; exact ⟨f1, by rw [f2, hmj]; rfl⟩)).2.2.1 _ f3).2 hc
          have hhg : ∀ c, ({ hideA base mask k H with log := [] } : Heap).get c = if Hid c then none else H.get c := fun c => hide_get base mask k H c
          have hhn : ({ hideA base mask k H with log := [] } : Heap).next = H.next := (hide_next base mask k H).1
          generalize hHh : ({ hideA base mask k H with log := [] } : Heap) = Hh at hhg hhn
          have hhl : Hh.log = [] := by rw [← hHh]
          have hbh : Bd Hh := fun c hc => by
            rw [hhg]
            split
            · rfl
            · exact hb c (by omega)
          have hsh : Sub Kp Hh := ⟨hs'.left.nd, fun p hp => by rw [hhg, if_neg (hKp _ (List.mem_map_of_mem hp))]; exact hs'.left.get p hp⟩
          obtain ⟨v, H1, K1, c1, c2, c3⟩ := hcall Hh hbh hsh
          have hnx := c2.next
          let Ho : Heap := { H1 with next := H1.next + 1, log := Kp.names }
          let Hn : Heap := { showA base mask H k Ho with log := H.log }
          have hng : ∀ c, Hn.get c = if Hid c then H.get c else H1.get c := fun c => show_get base mask H k Ho c
          have hnn : Hn.next = H1.next + 1 := (show_next base mask H k Ho).1
          have hK1 : ∀ c, c ∈ K1.names → ¬ Hid c := fun c hc hh => hKp c (c2.fresh c hc (by have := (hHid c hh).1; omega)) hh
          have hR : ∀ p ∈ R, Hn.get p.1 = some p.2 ∧ p.1 ∉ K1.names := fun p hp => by
            rw [hng]
            by_cases hh : Hid p.1
            · rw [if_pos hh]; exact ⟨hs'.right.get p hp, fun hc => hK1 _ hc hh⟩
            · rw [if_neg hh]
              exact c2.keep p.1 p.2 (by rw [hhg, if_neg hh]; exact hs'.right.get p hp) (fun hk => hs'.disj hk (List.mem_map_of_mem hp))
          have frn : Fr base L H (K1 ++ R) Hn := by
            refine ⟨by rw [hnn]; omega, fun c hc => ?_, ⟨?_, fun p hp => ?_⟩, fun b x h1 h2 => ?_, fun b hb' h1 => ?_, fun b h1 h2 => ?_⟩
            · rw [hnn] at hc
              rw [hng, if_neg (fun hh => by have := (hHid c hh).1; omega)]
              exact c2.bd c (by omega)
            · unfold SH.names
              rw [List.map_append, List.nodup_append]
              refine ⟨c2.sub.nd, hs'.right.nd, fun a ha b hb he => ?_⟩
              subst he
              obtain ⟨p, hp, rfl⟩ := List.mem_map.1 hb
              exact (hR p hp).2 ha
            · rcases List.mem_append.1 hp with hp | hp
              · rw [hng, if_neg (hK1 _ (List.mem_map_of_mem hp))]; exact c2.sub.get p hp
              · exact (hR p hp).1
            · rw [hn] at h2
              have : Hn.get b = some x ∧ b ∉ K1.names := by
                rw [hng]
                by_cases hh : Hid b
                · rw [if_pos hh]; exact ⟨h1, fun hc => hK1 _ hc hh⟩
                · rw [if_neg hh]
                  exact c2.keep b x (by rw [hhg, if_neg hh]; exact h1) (fun hk => h2 (.inl hk))
              refine ⟨this.1, fun hk => ?_⟩
              unfold SH.names at hk
              rw [List.map_append, List.mem_append] at hk
              rcases hk with hk | hk
              · exact this.2 hk
              · exact h2 (.inr hk)
            · have hh : ¬ Hid b := fun hh => by have := (hHid b hh).2; omega
              rw [hng, if_neg hh]
              exact c2.dom b (by omega) (by rw [hhg, if_neg hh]; exact h1)
            · unfold SH.names at h1
              rw [List.map_append, List.mem_append] at h1
              rw [hn]
              rcases h1 with h1 | h1
              · exact .inl (c2.fresh b h1 (by omega))
              · exact .inr h1
          let r : Rec := ⟨k, [], Ho.log.filter (fun c => (Hh.get c).isSome), [], true, H.next, Ho.next⟩
          obtain ⟨call, τ', H', L', rs', k1, k2, k3, k4, k5⟩ := dr_sound m (k + 1) (putA τ o.dst v) (K1 ++ R) ((⟨k, [], Kp.names, [], true, L.names⟩ : W.WR) :: ws) K (by have := hk v _ _ (c3.h _ rfl); rw [show W.push k o.op ⟨[], Kp.names, [], L.names⟩ ws = (⟨k, [], Kp.names, [], true, L.names⟩ : W.WR) :: ws from by simp [W.push, W.isCallV, e1, e2]] at this; exact this) Hn (r :: rs) frn.bd frn.sub (fun j h1 h2 => by
              have hj0 := hfr j (by omega) (by omega)
              have hh : ¬ Hid (base + j) := fun ⟨q, hq, _, he⟩ => by omega
              refine ⟨by rw [hnn]; omega, ?_⟩
              rw [hng, if_neg hh]
              exact c2.dom _ (by omega) (by rw [hhg, if_neg hh]; exact hj0.2)) (by rw [hnn]; omega) (fun q hq => by
              rcases List.mem_cons.1 hq with rfl | hq
              · exact ⟨Nat.lt_succ_self _, .inr ⟨_, List.mem_cons_self, rfl, rfl, fun c hc => (List.mem_filter.1 hc).1, rfl, fun _ => ⟨rfl, hlt⟩, fun h => (by cases h)⟩⟩
              · exact (hrel q hq).more (Nat.le_succ _) fun x hx => List.mem_cons_of_mem _ hx) (fun j hj hm => by
              have hjk : base + j ∈ L.names := by
                rw [hn]
                unfold SH.names at hm
                rw [List.map_append, List.mem_append] at hm
                rcases hm with hm | hm
                · exact .inl (c2.fresh _ hm (by omega))
                · exact .inr hm
              have hne : j ≠ k := fun e => by subst e; exact hs.not_mem h0.2 hjk
              obtain ⟨x, f1, f2⟩ := hma j (by omega) hjk
              exact ⟨x, List.mem_cons_of_mem _ f1, f2⟩)
          refine ⟨ora g (c.args.toList.map (aev τ) ++ cs) Hh v Ho call, τ', H', L', rs', ora_sound k1 (c1.bump _) (by show Hh.next ≤ H1.next + 1; omega) bd, ora_chg k2 fun _ => c2.chg _ (by rw [hhl]; simp) (fun b hb => hb) _ (Nat.le_succ _), ?_, frn.trans k4 (Nat.le_refl _), k5⟩
          have ha : aop P F o.op (aev τ) (base + k) H = some (.call g (c.args.toList.map (aev τ) ++ cs)) := by rw [e1]; simp [aop, e2, e3]
          have hbm : before.getD k 0 = mask := hmask
          have hs1 : drawStep P F (ora g (c.args.toList.map (aev τ) ++ cs) Hh v Ho call) ops base k mask τ H = some (putA τ o.dst v, Hn, some r) := by
            unfold drawStep
            simp only [ho, hw, ha, hHh, ora_hit]
            rw [show (hideA base mask k H) = { Hh with log := H.log } from by rw [← hHh]; exact (congrArg (fun l => ({ hideA base mask k H with log := l } : Heap)) (hide_next base mask k H).2)]
            rfl
          unfold drawA
          rw [hbm, hs1]
          simp only []
          rw [if_pos]
          · refine drawA_agree (n := Hh.next) (fun f args K hK => ?_) k1 _ _ _ _ _ (by rw [hnn]; omega) k3
            exact (ora_later hK).symm
          · rw [List.all_eq_true]
            intro q hq
            cases hmq : mask.testBit q.op with
            | true => rfl
            | false =>
              rw [free_meets (wy := ⟨k, [], Kp.names, [], true, []⟩) (hrel q hq) hma hmq hfree (by simp [r]) (fun c hc => (List.mem_filter.1 hc).1) rfl (fun he => by show List.filter _ Kp.names = []; rw [show Kp.names = [] from he]; rfl) (by simp) (fun c hc => (hn c).2 (.inl hc))]
              rfl
        · -- memory
          rcases op_goes (b := base + k) hb hs h0.1 h0.2 hop with ⟨v, H1, L1, g1, g2, g3, g4⟩ | ⟨g, args, g1, g2⟩
          · have hp : W.push k o.op ⟨readsA o.op (aev τ), writesA o.op (aev τ), if W0.makes o.op then blocksOf v else [], []⟩ ws = (⟨k, readsA o.op (aev τ), writesA o.op (aev τ), if W0.makes o.op then blocksOf v else [], false, []⟩ : W.WR) :: ws := by simp [W.push, hm, hcv]
            refine val v H1 L1 _ g1 g2 (g4.h _ rfl) (fun r hr hun => ?_) (by rw [hp]; exact ⟨Nat.lt_succ_self _, .inr ⟨_, List.mem_cons_self, rfl, rfl, fun c h => h, rfl, fun h => (by cases h), fun _ => rfl⟩⟩) (fun x hx => by rw [hp]; exact List.mem_cons_of_mem _ hx) (fun hm => by rw [hp]; exact ⟨_, List.mem_cons_self, rfl, by show _ ∈ (if W0.makes o.op = true then blocksOf v else []); rw [if_pos (g3 hm).1]; exact (g3 hm).2⟩)
            exact free_meets (wy := ⟨k, readsA o.op (aev τ), writesA o.op (aev τ), [], false, []⟩) (hrel r hr) hma hun hfree (fun c h => h) (fun c h => h) rfl (fun h => h) (op_reads hop) (fun c hc => op_reads hop c (writes_reads hc))
          · obtain ⟨c, f, e1, e2⟩ := call_inv g1
            rw [e1] at hm
            simp [W.isMem, e2] at hm
        · -- no memory
          have hop' := op_calm (K2 := fun v L' => Kc v L' ⟨[], [], [], []⟩ ∧ L' = L) (fun v h => ⟨h, rfl⟩) hm hv hop
          rcases op_goes (b := base + k) hb hs h0.1 h0.2 hop' with ⟨v, H1, L1, g1, g2, g3, g4, g5⟩ | ⟨g, args, g1, g2⟩
          · obtain ⟨n1, n2⟩ := nonmem_reads (ρ := aev τ) hm
            subst g5
            have hp : W.push k o.op ⟨[], [], [], []⟩ ws = ws := by simp [W.push, hm, hcv]
            refine val v H1 _ ⟨[], [], [], []⟩ g1 g2 g4 (fun r hr hun => ?_) ⟨Nat.lt_succ_self _, .inl ⟨rfl, n1, n2, rfl⟩⟩ (fun x hx => by rw [hp]; exact hx) (fun h => absurd h (hs.not_mem h0.2))
            rw [n1, n2]
            refine meets_free' (by simp) (by simp) (by simp) (by simp) (by simp)
          · obtain ⟨c, f, e1, e2⟩ := call_inv g1
            exact absurd e2 (hv c f e1)
      split at h
      · rename_i hg
        exact go _ (wanted_none hg) h fun v L1 r h => h
      · rename_i j want hg
        split at h
        · rename_i d hd
          rcases h.h with ⟨h1, h2⟩ | ⟨h1, h2⟩
          · exact go _ (wanted_yes hg hd h1) h2 fun v L1 r h => h
          · have hps : ∀ x ∈ ws, x ∈ W.push k o.op ⟨[], [], [], L.names⟩ ws := fun x hx => by
              unfold W.push
              split
              · exact List.mem_cons_of_mem _ hx
              · exact hx
            obtain ⟨call, τ', H', L', rs', k1, k2, k3, k4, k5⟩ := dr_sound m (k + 1) (putA τ o.dst undefA) L _ K h2 H rs hb hs (fun j h1 h2 => hfr j (by omega) (by omega)) (by omega) (fun r hr => (hrel r hr).more (Nat.le_succ _) hps) (fun j hj hm => by
              have hne : j ≠ k := fun e => by subst e; exact hs.not_mem h0.2 hm
              obtain ⟨x, e1, e2⟩ := hma j (by omega) hm
              exact ⟨x, hps x e1, e2⟩)
            refine ⟨call, τ', H', L', rs', k1, k2, ?_, k4, k5⟩
            unfold drawA drawStep
            simp only [ho, wanted_no hg hd h1]
            exact k3
        · exact h.elim
/-- a region whose order is drawn -/
theorem ARun.draw {id : Nat} {τ : List AV} {L : SH} {Q : Ex → List AV → SH → Prop} (fit : Fit P F) (hst : StatOk ops) (hed : EdgesOk ops) (h : W.dr P F ops (masks ops.toList []) (List.range' 0 ops.size) τ L [] fun τ' L' => Q .normal τ' L') : ARun P (.region id ops true) τ L Q := fun H hb hs => by
  obtain ⟨call, τ', H', L', rs', k1, k2, k3, k4, k5⟩ := dr_sound (base := H.next) ops.size 0 τ L [] _ h { H with next := H.next + ops.size } [] (hb.bump _ _ (Nat.le_add_right _ _)) (hs.congr fun _ => rfl)
    (fun i _ hi => ⟨by show H.next + i < H.next + ops.size; omega, hb _ (Nat.le_add_right _ _)⟩) (by show H.next + 0 ≤ H.next + ops.size; omega) (by simp) (fun j hj => by omega)
  have hr : regionA P F call ops true τ H = some (τ', { H' with log := rs'.flatMap (·.writes) ++ H'.log }) := by
    simp only [regionA, if_true]
    rw [List.range_eq_range', k3]
  obtain ⟨n1, n2⟩ := draw_sound fit k1 k2 hst hed hr
  exact ⟨.normal, τ', _, L', ⟨n1, fun w σ a hW hτ Q hQ => n2 id w σ a hW hτ Q hQ⟩, ⟨Nat.le_trans (Nat.le_add_right _ _) k4.next, k4.bd, k4.sub.congr fun _ => rfl, k4.keep, k4.dom, k4.fresh⟩, k5⟩
end
end Go.Proofs.Ytdaejmkoenhbkaa.Am
