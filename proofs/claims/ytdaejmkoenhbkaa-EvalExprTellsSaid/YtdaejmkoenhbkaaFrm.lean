/- AM, part 19: a call over a part of the heap; the rest stays as it is. -/
import Derived.Test.YtdaejmkoenhbkaaDrx
namespace Go.Proofs.Ytdaejmkoenhbkaa.Am
set_option linter.unusedVariables false
theorem Rep.sig {w : World} {σ σ' : Sig} {T : Nat → Prop} (hm : σ'.map = σ.map) {a : AV} {v : Value} (h : Rep w σ T a v) : Rep w σ' T a v := by
  have e : ∀ {b pl}, σ.map b = some pl → σ'.map b = some pl := fun hb => by rw [hm]; exact hb
  induction h with
  | int k n => exact .int k n
  | bool b => exact .bool b
  | str s => exact .str s
  | nilp => exact .nilp
  | ptr b i off pl h => exact .ptr b i off pl (e h)
  | pptr rows i off b o sz hl h ih => exact .pptr rows i off b o sz hl ih
  | nils => exact .nils
  | emp a => exact .emp a
  | sl b i n pl a cap h hn hm' ha => exact .sl b i n pl a cap (e h) hn hm' ha
  | lst0 a cap hm' => exact .lst0 a cap hm'
  | lst rows b o sz cap hl hn hm' h ih => exact .lst rows b o sz cap hl hn hm' ih
  | agg cs vs hl h ih => exact .agg cs vs hl ih
  | tup cs vs hl h ih => exact .tup cs vs hl ih
  | fn f cs vs hl h ih => exact .fn f cs vs hl ih
  | nilf => exact .nilf
  | junk v => exact .junk v
theorem Held.sig {w : World} {σ σ' : Sig} {T : Nat → Prop} (hm : σ'.map = σ.map) {x : Blk} {pl : Place} {cs : Array Value} {e : TypeId} (h : Held w σ T x pl cs e) : Held w σ' T x pl cs e :=
  ⟨h.size, h.block, h.even, h.room, fun i r j a u h1 h2 h3 => (h.rep i r j a u h1 h2 h3).sig hm⟩
/-- what a call sees of the owner's map: all that it does not see belongs to somebody else -/
def Sig.part (σ : Sig) (K Hc : Heap) : Sig := ⟨σ.map, fun c => Own σ K c ∧ ¬ Tok σ Hc c⟩
section
variable {w w' : World} {σ σ' : Sig} {K Hc H1 K' : Heap}
theorem Tok.sub (hsub : ∀ c x, Hc.get c = some x → K.get c = some x) {d : Nat} (h : Tok σ Hc d) : Tok σ K d := by
  obtain ⟨b, x, pl, h1, h2, h3⟩ := h
  exact ⟨b, x, pl, hsub b x h1, h2, h3⟩
theorem own_part (hsub : ∀ c x, Hc.get c = some x → K.get c = some x) : Own (σ.part K Hc) Hc = Own σ K := by
  funext d
  apply propext
  constructor
  · rintro (h | h)
    · exact h.1
    · exact .inr (Tok.sub hsub h)
  · intro h
    by_cases ht : Tok σ Hc d
    · exact .inr ht
    · exact .inl ⟨h, ht⟩
theorem WRel.part (hW : WRel w σ K) (hsub : ∀ c x, Hc.get c = some x → K.get c = some x) (hn : K.next ≤ Hc.next) : WRel w (σ.part K Hc) Hc := by
  refine ⟨fun b pl hb => Nat.lt_of_lt_of_le (hW.named b pl hb) hn, hW.lt, fun b x hb => ?_, fun c hc => ⟨?_, hc.2⟩, fun b b' x x' pl pl' h1 h2 h3 h4 h5 => hW.inj b b' x x' pl pl' (hsub _ _ h1) (hsub _ _ h2) h3 h4 h5⟩
  · obtain ⟨pl, cs, e, h1, h2⟩ := hW.live b x (hsub b x hb)
    rw [own_part hsub]
    exact ⟨pl, cs, e, h1, Held.sig (σ := σ) (σ' := σ.part K Hc) rfl h2⟩
  · rcases hc.1 with h | ⟨b, x, pl, h1, h2, rfl⟩
    · exact (hW.apart c h).1
    · exact hW.lt b pl h2
theorem WRel.whole (hW : WRel w σ K) (hsub : ∀ c x, Hc.get c = some x → K.get c = some x) (hn : Hc.next = K.next) (hW1 : WRel w' σ' H1) (hE : Ext w (σ.part K Hc) (Own (σ.part K Hc) Hc) w' σ' (Own σ' H1))
    (hdom : ∀ c, c < Hc.next → Hc.get c = none → H1.get c = none) (hK' : ∀ c, K'.get c = if Hc.get c = none ∧ c < K.next then K.get c else H1.get c) (hn' : H1.next ≤ K'.next) :
    WRel w' ⟨σ'.map, σ.fr⟩ K' ∧ Ext w σ (Own σ K) w' ⟨σ'.map, σ.fr⟩ (Own ⟨σ'.map, σ.fr⟩ K') ∧ Own ⟨σ'.map, σ.fr⟩ K' = Own σ' H1 := by
  have hfr : ∀ c, σ'.fr c ↔ (Own σ K c ∧ ¬ Tok σ Hc c) := fun c => by rw [hE.eqfr]; exact Iff.rfl
  have hmap : ∀ b pl, σ.map b = some pl → σ'.map b = some pl := fun b pl h => hE.sig b pl h
  -- a block of the rest
  have rest : ∀ b x, Hc.get b = none → K.get b = some x → ∃ pl, σ.map b = some pl ∧ σ'.fr pl.block := fun b x h0 hx => by
    obtain ⟨pl, cs, e, h1, h2⟩ := hW.live b x hx
    refine ⟨pl, h1, (hfr _).2 ⟨.inr ⟨b, x, pl, hx, h1, rfl⟩, ?_⟩⟩
    rintro ⟨b2, x2, pl2, g1, g2, g3⟩
    have := hW.inj b2 b x2 x pl2 pl (hsub _ _ g1) hx g2 h1 g3
    subst this
    rw [h0] at g1; cases g1
  have get' : ∀ b x, K'.get b = some x → (Hc.get b = none ∧ b < K.next ∧ K.get b = some x) ∨ H1.get b = some x := fun b x hx => by
    rw [hK'] at hx
    split at hx
    · rename_i hc; exact .inl ⟨hc.1, hc.2, hx⟩
    · exact .inr hx
  have frK : ∀ c, σ.fr c → σ'.fr c := fun c hc => (hfr c).2 ⟨.inl hc, fun ht => (hW.apart c hc).2 (Tok.sub hsub ht)⟩
  have howns : Own ⟨σ'.map, σ.fr⟩ K' = Own σ' H1 := by
    funext d
    apply propext
    constructor
    · rintro (h | ⟨b, x, pl, h1, h2, rfl⟩)
      · exact .inl (frK d h)
      · rcases get' b x h1 with ⟨g1, g2, g3⟩ | g1
        · obtain ⟨pl0, e1, e2⟩ := rest b x g1 g3
          have h2' : σ'.map b = some pl := h2
          rw [hmap b pl0 e1] at h2'
          cases h2'
          exact .inl e2
        · exact .inr ⟨b, x, pl, g1, h2, rfl⟩
    · rintro (h | ⟨b, x, pl, h1, h2, rfl⟩)
      · obtain ⟨h3, h4⟩ := (hfr d).1 h
        rcases h3 with h3 | ⟨b, x, pl, g1, g2, g3⟩
        · exact .inl h3
        · have h0 : Hc.get b = none := by
            cases hg : Hc.get b with
            | none => rfl
            | some y => exact absurd ⟨b, y, pl, hg, g2, g3⟩ h4
          exact .inr ⟨b, x, pl, by rw [hK', if_pos ⟨h0, hW.named b pl g2⟩]; exact g1, hmap b pl g2, g3⟩
      · refine .inr ⟨b, x, pl, ?_, h2, rfl⟩
        rw [hK', if_neg]
        · exact h1
        · rintro ⟨h3, h4⟩
          rw [hdom b (by omega) h3] at h1; cases h1
  have hE2 : Ext w σ (Own σ K) w' ⟨σ'.map, σ.fr⟩ (Own ⟨σ'.map, σ.fr⟩ K') := by
    rw [howns]
    have ho := own_part (σ := σ) hsub
    exact ⟨hE.os, hE.tape, hE.output, hE.size, fun c hc hT => hE.keep c hc (by rw [ho]; exact hT), hE.shape, hmap, rfl, fun c hc => hE.frame c ((hfr c).1 (frK c hc)), fun c hc => by have := hE.own c hc; rwa [ho] at this⟩
  refine ⟨⟨fun b pl hb => Nat.lt_of_lt_of_le (hW1.named b pl hb) hn', hW1.lt, fun b x hx => ?_, fun c hc => ⟨?_, ?_⟩, ?_⟩, hE2, howns⟩
  · rcases get' b x hx with ⟨g1, g2, g3⟩ | g1
    · obtain ⟨pl, cs, e, h1, h2⟩ := hW.live b x g3
      obtain ⟨pl0, e1, e2⟩ := rest b x g1 g3
      have h1' : σ.map b = some pl := h1
      rw [e1] at h1'
      cases h1'
      refine ⟨pl, cs, e, hmap b pl e1, ?_⟩
      exact h2.mono hE2 (hE.frame _ ((hfr _).1 e2))
    · obtain ⟨pl, cs, e, h1, h2⟩ := hW1.live b x g1
      rw [howns]
      exact ⟨pl, cs, e, h1, Held.sig (σ := σ') (σ' := ⟨σ'.map, σ.fr⟩) rfl h2⟩
  · have := (hW.apart c hc).1
    have := hE.size
    omega
  · rintro ⟨b, x, pl, h1, h2, h3⟩
    rcases get' b x h1 with ⟨g1, g2, g3⟩ | g1
    · obtain ⟨pl0, e1, e2⟩ := rest b x g1 g3
      have h2' : σ'.map b = some pl := h2
      rw [hmap b pl0 e1] at h2'
      cases h2'
      exact (hW.apart c hc).2 ⟨b, x, pl, g3, e1, h3⟩
    · exact (hW1.apart c (frK c hc)).2 ⟨b, x, pl, g1, h2, h3⟩
  · intro b b' x x' pl pl' h1 h2 h3 h4 h5
    have h3' : σ'.map b = some pl := h3
    have h4' : σ'.map b' = some pl' := h4
    rcases get' b x h1 with ⟨g1, g2, g3⟩ | g1
    · obtain ⟨pl0, e1, e2⟩ := rest b x g1 g3
      rw [hmap b pl0 e1] at h3'
      cases h3'
      rcases get' b' x' h2 with ⟨k1, k2, k3⟩ | k1
      · obtain ⟨pl1, f1, f2⟩ := rest b' x' k1 k3
        rw [hmap b' pl1 f1] at h4'
        cases h4'
        exact hW.inj b b' x x' pl pl' g3 k3 e1 f1 h5
      · exact absurd ⟨b', x', pl', k1, h4, h5.symm⟩ (hW1.apart _ e2).2
    · rcases get' b' x' h2 with ⟨k1, k2, k3⟩ | k1
      · obtain ⟨pl1, f1, f2⟩ := rest b' x' k1 k3
        rw [hmap b' pl1 f1] at h4'
        cases h4'
        exact absurd ⟨b, x, pl, g1, h3, h5⟩ (hW1.apart _ f2).2
      · exact hW1.inj b b' x x' pl pl' g1 k1 h3 h4 h5
end
end Go.Proofs.Ytdaejmkoenhbkaa.Am
