/- AM, part 31: an operation does what W0.op says. -/
import Derived.Test.YtdaejmkoenhbkaaSlb
namespace Go.Proofs.Ytdaejmkoenhbkaa.Am
open Go.RowKit
set_option linter.unusedVariables false
section
variable {P : Program} {F : TypeId → Option (List TypeId)} {ρ : Operand → AV} {L : SH} {K : AV → SH → Prop} {b : Nat} {H : Heap}
theorem rowLd_ok {t : TypeId} {ag : Bool} {n off : Nat} {row : List AV} {v : AV} (h1 : isAggA P t = some ag) (h2 : sizeA P t = some n) (h : W0.rowLd ag n row off = some v) : rowLoad P t row off = some v := by
  unfold rowLoad
  rw [h1, h2]
  cases ag with
  | true => simpa [W0.rowLd] using h
  | false => simpa [W0.rowLd] using h
theorem fillR_ok {place : Nat → Option (Nat × Nat)} : ∀ (parts : List (Nat × AV)) (ps : List (Nat × Nat × AV)) (z cs : List AV), allSome (parts.map fun p => (place p.1).map fun q => (q.1, q.2, p.2)) = some ps → W0.fillR z ps = some cs → fillA place z parts = some cs
  | [], ps, z, cs, h1, h2 => by cases h1; exact h2
  | (i, v) :: parts, ps, z, cs, h1, h2 => by
    simp only [List.map_cons] at h1
    cases hp : place i with
    | none => rw [hp] at h1; cases h1
    | some q =>
      rw [hp] at h1
      simp only [Option.map_some, allSome] at h1
      split at h1
      · rename_i l hl
        cases h1
        simp only [W0.fillR] at h2
        simp only [fillA, hp]
        split at h2
        · rename_i cs' hc
          rw [hc]
          simp only []
          split at h2
          · rename_i hcond
            rw [if_pos hcond]
            exact fillR_ok parts l _ cs hl h2
          · cases h2
        · cases h2
      · cases h1
theorem allSome_some {α β : Type} (f : α → β) : ∀ l : List α, allSome (l.map fun x => some (f x)) = some (l.map f)
  | [] => rfl
  | x :: l => by simp only [List.map_cons, allSome, allSome_some f l]
theorem rowsR_ok {n : Nat} {s : AV} {rows : List (List AV)} (hs : Sub L H) (h : W0.rowsR L n s rows) : rowsOf H n s = some rows := by
  unfold W0.rowsR at h
  split at h
  · subst h; rfl
  · subst h; rfl
  · rename_i l
    obtain ⟨hl, h1⟩ := h
    subst hl
    cases rows with
    | nil => rfl
    | cons r l => simp [rowsOf, h1 r rfl]
  · obtain ⟨x, h1, h2, h3, rfl⟩ := h
    simp [rowsOf, hs.get _ h1, h2, h3]
  · exact h.elim
/-- operations that make a block -/
def W0.makes : Op → Bool
  | .alloc .. | .box .. | .buildSlice .. | .makeSlice .. => true
  | .call c => match c.callee with
    | .builtin .append => true
    | _ => false
  | _ => false
/-- the two ways in which an operation goes on -/
def Goes (P : Program) (F : TypeId → Option (List TypeId)) (o : Op) (ρ : Operand → AV) (b : Nat) (L : SH) (H : Heap) (K : AV → SH → Prop) : Prop :=
  (∃ v H' L', aop P F o ρ b H = some (.val v H') ∧ OpFr b L H L' H' ∧ (b ∈ L'.names → W0.makes o = true ∧ b ∈ blocksOf v) ∧ K v L') ∨ ∃ g args, aop P F o ρ b H = some (.call g args) ∧ CallA P g args L K
theorem goes_val' {o : Op} {v : AV} (hb : Bd H) (hs : Sub L H) (h0 : H.get b = none) (h : aop P F o ρ b H = some (.val v H)) (hk : K v L) : Goes P F o ρ b L H K := .inl ⟨v, H, L, h, .refl hb hs, fun hm => absurd hm (hs.not_mem h0), hk⟩
theorem goes_new {o : Op} {v : AV} {x : Blk} (hb : Bd H) (hs : Sub L H) (hlt : b < H.next) (h0 : H.get b = none) (hv : W0.makes o = true ∧ b ∈ blocksOf v) (h : aop P F o ρ b H = some (.val v (H.new b x))) (hk : K v ((b, x) :: L)) : Goes P F o ρ b L H K := .inl ⟨v, _, _, h, .new hb hs hlt h0 x, fun _ => hv, hk⟩
theorem load_ok {t : TypeId} {ag : Bool} {n : Nat} {a : AV} {k : AV → Prop} (hs : Sub L H) (h1 : isAggA P t = some ag) (h2 : sizeA P t = some n) (h : W0.loadR ag n a L k) : ∃ v, loadA P H t a = some v ∧ k v := by
  unfold W0.loadR at h
  split at h
  · obtain ⟨x, r, v, g1, g2, g3, g4⟩ := h
    exact ⟨v, by simp [loadA, hs.get _ g1, g2, rowLd_ok h1 h2 g3], g4⟩
  · obtain ⟨r, v, g2, g3, g4⟩ := h
    exact ⟨v, by simp [loadA, g2, rowLd_ok h1 h2 g3], g4⟩
  · exact h.elim
theorem op_goes {o : Op} (hb : Bd H) (hs : Sub L H) (hlt : b < H.next) (h0 : H.get b = none) (h : W0.op P F o ρ L K) : Goes P F o ρ b L H K := by
  have hnb := hs.not_mem h0
  have goes_val : ∀ {o : Op} {v : AV} (_ : Bd H) (_ : Sub L H) (_ : aop P F o ρ b H = some (.val v H)) (_ : K v L), Goes P F o ρ b L H K := fun hb hs h hk => goes_val' hb hs h0 h hk
  cases o with
  | move x => exact goes_val hb hs rfl h
  | assign x => exact goes_val hb hs rfl h
  | pick c x y =>
    obtain ⟨t, h1, h2⟩ := h
    exact goes_val hb hs (by simp [aop, h1]) h2
  | alloc t =>
    simp only [W0.op, W0.zof] at h
    split at h
    · rename_i cs hc
      exact goes_new hb hs hlt h0 ⟨rfl, by simp [blocksOf]⟩ (by simp only [aop, hc]) (h b hnb)
    · exact h.elim
  | box t x =>
    obtain ⟨cs, h1, h2, h3⟩ := h
    exact goes_new hb hs hlt h0 ⟨rfl, by simp [blocksOf]⟩ (by simp only [aop, h1, h2, if_true]) (h3 b hnb)
  | build t parts =>
    simp only [W0.op] at h
    split at h
    · rename_i fs z hu hz
      split at h
      · rename_i hall
        split at h
        · rename_i ps hps
          obtain ⟨cs, h1, h2⟩ := h
          refine goes_val hb hs ?_ h2
          have := fillR_ok (place := placesA P fs) (parts.toList.map fun p => (p.1, ρ p.2)) ps z cs (by rw [List.map_map]; exact hps) h1
          simp only [aop, buildA, hu, hz]
          rw [if_pos hall, this]
          rfl
        · exact h.elim
      · exact h.elim
    · rename_i len e z hu hz
      split at h
      · rename_i n hn
        obtain ⟨cs, h1, h2⟩ := h
        refine goes_val hb hs ?_ h2
        have := fillR_ok (place := fun i => some (i * n, n)) (parts.toList.map fun p => (p.1, ρ p.2)) (parts.toList.map fun p => (p.1 * n, n, ρ p.2)) z cs (by
          rw [List.map_map]
          exact allSome_some (fun p : Nat × Operand => (p.1 * n, n, ρ p.2)) parts.toList) h1
        simp only [aop, buildA, hu, hz, hn, Option.bind_some, this]
        rfl
      · exact h.elim
    · exact h.elim
  | buildSlice t len parts =>
    simp only [W0.op, W0.zof] at h
    split at h
    · rename_i e hu
      split at h
      · rename_i n z hn hz
        split at h
        · rename_i hc
          obtain ⟨h1, rows, h2, h3⟩ := h
          exact goes_new hb hs hlt h0 ⟨rfl, by simp [blocksOf]⟩ (by simp only [aop, hu, hn, hz]; rw [if_pos ⟨hc.1, hc.2, h1⟩, h2]; rfl) (h3 b hnb)
        · exact h.elim
      · exact h.elim
    · exact h.elim
  | load t a =>
    simp only [W0.op] at h
    split at h
    · rename_i ag n hag hn
      obtain ⟨v, g1, g2⟩ := load_ok hs hag hn h
      exact goes_val hb hs (by simp [aop, g1]) g2
    · exact h.elim
  | store t a x =>
    simp only [W0.op] at h
    split at h
    · rename_i n hn
      unfold W0.storeR at h
      split at h
      · rename_i c i off ha
        obtain ⟨y, r, cs, L', g1, g2, g3, g4, g5, g6, g7⟩ := h
        have hg := hs.get _ g6.mem
        simp only at hg
        refine .inl ⟨_, _, L', ?_, .put hb hs g6, fun hm => absurd (g6.names ▸ hm) hnb, g7⟩
        simp only [aop, storeA, ha, g2, hn, hg, g1]
        rw [if_pos ⟨g3, g4, g5⟩]
        rfl
      · exact h.elim
    · exact h.elim
  | nilCheck x =>
    simp only [W0.op, W0.nilchk] at h
    split at h
    · rename_i hx; exact goes_val hb hs (by simp [aop, hx]) h
    · rename_i hx; exact goes_val hb hs (by simp [aop, hx]) h
    · rename_i hx; exact goes_val hb hs (by simp [aop, hx]) h
    · exact h.elim
  | binOp op t x y c =>
    obtain ⟨v, h1, h2⟩ := h
    exact goes_val hb hs (by simp [aop, h1]) h2
  | unOp op t x =>
    obtain ⟨v, h1, h2⟩ := h
    exact goes_val hb hs (by simp [aop, h1]) h2
  | convert s d x =>
    simp only [W0.op] at h
    split at h
    · rename_i h1 h2
      obtain ⟨k', n, h3, h4⟩ := h
      exact goes_val hb hs (by simp [aop, convA, h1, h2, h3]) h4
    · rename_i h1 h2
      obtain ⟨s, h3, h4⟩ := h
      exact goes_val hb hs (by simp [aop, convA, h1, h2, h3]) h4
    · exact h.elim
  | makeFunc fn first cap =>
    cases fn with
    | func f =>
      simp only [W0.op] at h
      split at h
      · rename_i h1; exact goes_val hb hs (by simp only [aop]; rw [if_pos h1]) h
      · exact h.elim
    | _ => exact h.elim
  | makeSlice t l c =>
    simp only [W0.op, W0.zof] at h
    split at h
    · rename_i e hu
      split at h
      · rename_i n by_ z hn hby hz
        split at h
        · rename_i hc
          obtain ⟨k, k', i, j, h1, h2, h3, h4, h5, h6⟩ := h
          refine goes_new hb hs hlt h0 ⟨rfl, by simp [blocksOf]⟩ ?_ (h6 b hnb)
          simp only [aop, hu, hn, hby, hz, h1, h2, natOf]
          simp only [Int.natCast_nonneg, if_true, Int.toNat_natCast]
          rw [if_pos ⟨hc.1, hc.2, h3, h4, h5⟩]
        · exact h.elim
      · exact h.elim
    · exact h.elim
  | slice t x lo hi mx =>
    simp only [W0.op] at h
    split at h
    · exact h.elim
    · rename_i hhm
      split at h
      · rename_i e hu
        split at h
        · rename_i n hn
          obtain ⟨len, l, hh, m, g1, g2, g3, g4, g5, g6, g7, g8⟩ := h
          have key : ∀ v, sliceA P (szOf H (ρ x)) t (ρ x) (lo.map ρ) (hi.map ρ) (mx.map ρ) = some v → K v L → Goes P F (.slice t x lo hi mx) ρ b L H K := fun v hv hk =>
            goes_val hb hs (by simp only [aop]; rw [if_neg hhm, hv]; rfl) hk
          split at g8
          · rename_i hx
            refine key _ ?_ g8
            rw [hx] at g1
            simp only [sliceA, hu, hx, g1, g2, g3, g4]
            rw [if_pos ⟨⟨g5, g6, g7⟩, by rw [hn]; rfl⟩]
          · rename_i c i q hx
            obtain ⟨⟨y, k1, k2⟩, k3⟩ := g8
            refine key _ ?_ k3
            have hg := hs.get _ k1
            simp only at hg
            rw [hx] at g1
            simp only [sliceA, hu, hx, g1, g2, g3, g4]
            rw [if_pos ⟨⟨g5, g6, g7⟩, by rw [hn]; rfl⟩]
            simp only [szOf, hg, Option.map_some, k2]
            rw [if_pos ⟨rfl, hn⟩]
          · rename_i rows hx
            obtain ⟨k2, k3⟩ := g8
            refine key _ ?_ k3
            rw [hx] at g1
            simp only [sliceA, hu, hx, g1, g2, g3, g4]
            rw [if_pos ⟨⟨g5, g6, g7⟩, by rw [hn]; rfl⟩]
            cases rows with
            | nil => simp
            | cons r rs => simp only [hn, k2 r rfl, if_true]
          · exact g8.elim
        · exact h.elim
      · rename_i hu
        split at h
        · rename_i hmx
          obtain ⟨s, l, hh, g1, g2, g3, g4, g5, g6⟩ := h
          refine goes_val hb hs ?_ g6
          have : mx = none := by simpa using hmx
          subst this
          simp only [aop]
          rw [if_neg hhm]
          simp only [sliceA, hu, g1, Option.map_none]
          rw [show boundA (Option.map ρ lo) 0 = some l from g2, show boundA (Option.map ρ hi) s.length = some hh from g3]
          simp [g4, g5]
        · exact h.elim
      · exact h.elim
  | fieldAddr s x f =>
    simp only [W0.op] at h
    split at h
    · rename_i fs hu
      split at h
      · rename_i fl hf
        split at h
        · rename_i n hn
          split at h
          · exact h.elim
          · rename_i hn0
            unfold W0.faddr at h
            split at h
            · rename_i hx
              exact goes_val hb hs (by simp [aop, fieldAddrA, hu, hf, hn, hn0, hx]) h
            · rename_i hx
              exact goes_val hb hs (by simp [aop, fieldAddrA, hu, hf, hn, hn0, hx]) h
            · exact h.elim
        · exact h.elim
      · exact h.elim
    · exact h.elim
  | field s x f =>
    simp only [W0.op] at h
    split at h
    · rename_i fs hu
      split at h
      · rename_i fl hf
        split at h
        · rename_i ag n hag hn
          obtain ⟨cs, v, g1, g2, g3⟩ := h
          exact goes_val hb hs (by simp [aop, fieldA, hu, hf, g1, rowLd_ok hag hn g2]) g3
        · exact h.elim
      · exact h.elim
    · exact h.elim
  | indexAddr t x ix =>
    simp only [W0.op] at h
    split at h
    · rename_i e hu
      split at h
      · rename_i n hn
        unfold W0.idxR at h
        split at h
        · rename_i c j m hx
          obtain ⟨k, i, y, g1, g2, g3, g4, g5, g6⟩ := h
          have hg := hs.get _ g4
          simp only at hg
          refine goes_val hb hs ?_ g6
          have hneg : ¬ i < 0 := by omega
          simp [aop, indexAddrA, hx, g1, hneg, hu, szOf, hg, g3, g5, hn]
        · rename_i rows hx
          obtain ⟨k, i, r, g1, g2, g3, g4, g5⟩ := h
          refine goes_val hb hs ?_ g5
          have hneg : ¬ i < 0 := by omega
          simp [aop, indexAddrA, hx, g1, hneg, hu, g3, g4, hn]
        · exact h.elim
      · exact h.elim
    · rename_i len e hu
      split at h
      · rename_i n hn
        obtain ⟨k, i, g1, g2, g3, g4⟩ := h
        have hneg : ¬ i < 0 := by omega
        split at g4
        · rename_i hx
          exact goes_val hb hs (by simp [aop, indexAddrA, hx, g1, hneg, hu, g3, hn]) g4
        · rename_i hx
          exact goes_val hb hs (by simp [aop, indexAddrA, hx, g1, hneg, hu, g3, hn]) g4
        · exact g4.elim
      · exact h.elim
    · exact h.elim
  | index t x ix =>
    simp only [W0.op] at h
    split at h
    · rename_i hu
      obtain ⟨s, k, i, y, g1, g2, g3, g4, g5⟩ := h
      have hneg : ¬ i < 0 := by omega
      exact goes_val hb hs (by simp [aop, indexA, hu, g1, g2, hneg, g4]) g5
    · rename_i len e hu
      split at h
      · rename_i ag n hag hn
        obtain ⟨cs, k, i, v, g1, g2, g3, g4, g5, g6⟩ := h
        refine goes_val hb hs ?_ g6
        simp only [aop, indexA, hu, g1, g2]
        rw [if_pos ⟨g3, g4⟩, hn]
        simp only [Option.bind_some, rowLd_ok hag hn g5]
        rfl
      · exact h.elim
    · exact h.elim
  | extract x i =>
    obtain ⟨vs, v, g1, g2, g3⟩ := h
    exact goes_val hb hs (by simp [aop, g1, g2]) g3
  | call c =>
    simp only [W0.op] at h
    split at h
    · rename_i hc
      split at h
      · rename_i x e ha ht
        obtain ⟨n, g1, g2⟩ := h
        refine goes_val hb hs ?_ g2
        cases hx : ρ x <;> rw [hx] at g1 <;> first | (cases g1; done) | simp [aop, hc, ha, builtinA, hx, ht, g1]
      · rename_i x ha ht
        obtain ⟨s, g1, g2⟩ := h
        exact goes_val hb hs (by simp [aop, hc, ha, builtinA, g1, ht]) g2
      · rename_i x n e ha ht
        split at h
        · exact h.elim
        · rename_i hne
          refine goes_val hb hs ?_ h
          cases hx : ρ x <;> first | (exact absurd hx (hne _)) | simp [aop, hc, ha, builtinA, hx, ht]
      · exact h.elim
    · rename_i hc
      split at h
      · rename_i s x t tx ha ht
        split at h
        · rename_i e e' hu hux
          split at h
          · rename_i n by_ z hn hby hz
            split at h
            · rename_i hcn
              obtain ⟨l, m, g1, g2, g3, g4, g5, g6⟩ := h
              have r1 := rowsR_ok hs g1
              have r2 := rowsR_ok hs g2
              have key : ∀ v H', appendA P H b t (ρ s) (ρ x) = some (v, H') → aop P F (.call c) ρ b H = some (.val v H') := fun v H' hv => by
                simp only [aop, hc, ha, List.map_cons, List.map_nil, builtinA, ht, hux, hv]
                rfl
              have hz' : (zeroA P e).bind AV.cells? = some z := hz
              split at g6
              · rename_i hx
                by_cases hm : m.length = 0
                · exact goes_val hb hs (key _ _ (by rw [hx] at r1 ⊢; simp only [appendA, hu, hn, hby, hz', r1, r2]; rw [if_pos ⟨g3, g4, hcn.2, hcn.1, g5⟩, if_pos hm])) (g6.1 hm)
                · exact goes_new hb hs hlt h0 ⟨by simp [W0.makes, hc], by simp [blocksOf]⟩ (key _ _ (by rw [hx] at r1 ⊢; simp only [appendA, hu, hn, hby, hz', r1, r2]; rw [if_pos ⟨g3, g4, hcn.2, hcn.1, g5⟩, if_neg hm])) (g6.2 hm b hnb)
              · rename_i hx
                by_cases hm : m.length = 0
                · exact goes_val hb hs (key _ _ (by rw [hx] at r1 ⊢; simp only [appendA, hu, hn, hby, hz', r1, r2]; rw [if_pos ⟨g3, g4, hcn.2, hcn.1, g5⟩, if_pos hm])) (g6.1 hm)
                · exact goes_new hb hs hlt h0 ⟨by simp [W0.makes, hc], by simp [blocksOf]⟩ (key _ _ (by rw [hx] at r1 ⊢; simp only [appendA, hu, hn, hby, hz', r1, r2]; rw [if_pos ⟨g3, g4, hcn.2, hcn.1, g5⟩, if_neg hm])) (g6.2 hm b hnb)
              · rename_i b' i' k' hx
                obtain ⟨y, L', k1, k2⟩ := g6
                have f1 := OpFr.del (b := b) hb hs k1
                have hb' : b ≠ b' := fun e => by
                  have := hs.get _ (k1.perm.mem_iff.2 List.mem_cons_self)
                  rw [← e, h0] at this; cases this
                have f2 : OpFr b L' (H.put b' none) ((b, ⟨n, l ++ m⟩) :: L') ((H.put b' none).new b ⟨n, l ++ m⟩) := .new f1.bd f1.sub hlt (by rw [Heap.get_put, if_neg (fun e => hb' e.symm)]; exact h0) _
                exact .inl ⟨_, _, _, key _ _ (by rw [hx] at r1 ⊢; simp only [appendA, hu, hn, hby, hz', r1, r2]; rw [if_pos ⟨g3, g4, hcn.2, hcn.1, g5⟩]), f1.trans f2, fun _ => ⟨by simp [W0.makes, hc], by simp [blocksOf]⟩, k2 b hnb⟩
              · exact g6.elim
            · exact h.elim
          · exact h.elim
        · exact h.elim
      · exact h.elim
    · rename_i hc
      split at h
      · rename_i x y ha
        obtain ⟨k, a, d, g1, g2, g3⟩ := h
        exact goes_val hb hs (by simp [aop, hc, ha, builtinA, g1, g2]) g3
      · exact h.elim
    · rename_i hc
      split at h
      · rename_i x y ha
        obtain ⟨k, a, d, g1, g2, g3⟩ := h
        exact goes_val hb hs (by simp [aop, hc, ha, builtinA, g1, g2]) g3
      · exact h.elim
    · rename_i hc
      split at h
      · rename_i x t ha ht
        split at h
        · rename_i e hu
          split at h
          · rename_i n z hn hz
            have hz' : (zeroA P e).bind AV.cells? = some z := hz
            split at h
            · rename_i hcn
              have key : ∀ H', clearA P H t (ρ x) = some H' → aop P F (.call c) ρ b H = some (.val (.tup []) H') := fun H' hv => by
                simp only [aop, hc, ha, List.map_cons, List.map_nil, builtinA, ht, hv]
                rfl
              unfold W0.clearR at h
              split at h
              · rename_i hx
                exact goes_val hb hs (key _ (by rw [hx]; simp only [clearA, hu, hn, hz'])) h
              · rename_i d i k hx
                obtain ⟨y, L', g1, g2, g3, g4⟩ := h
                have hg := hs.get _ g3.mem
                simp only at hg
                refine .inl ⟨_, _, L', key _ ?_, .put hb hs g3, fun hm => absurd (g3.names ▸ hm) hnb, g4⟩
                rw [hx]
                simp only [clearA, hu, hn, hz', hg]
                rw [if_pos ⟨⟨g1, hcn.1.1⟩, ⟨hcn.1.2, g2⟩, hcn.2⟩]
              · exact h.elim
            · exact h.elim
          · exact h.elim
        · exact h.elim
      · exact h.elim
    · rename_i f hc
      split at h
      · rename_i g cs hf
        exact .inr ⟨g, _, by simp [aop, hc, hf], h⟩
      · exact h.elim
    · exact h.elim
  | _ => exact h.elim
end
end Go.Proofs.Ytdaejmkoenhbkaa.Am
