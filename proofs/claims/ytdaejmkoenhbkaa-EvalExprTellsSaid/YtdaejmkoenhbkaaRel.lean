/- AM, part 5: the relation between a world and an abstract heap, kept by new blocks, by writes and by giving blocks up. -/
import Derived.Test.YtdaejmkoenhbkaaRep
namespace Go.Proofs.Ytdaejmkoenhbkaa.Am

theorem Heap.get_new (H : Heap) (b c : Nat) (x : Blk) : (H.new b x).get c = if b = c then some x else H.get c := Tr.get_set _ _ _ _
theorem Heap.get_put (H : Heap) (b c : Nat) (x : Option Blk) : (H.put b x).get c = if b = c then x else H.get c := Tr.get_set _ _ _ _

theorem Held.mono {w w' : World} {σ σ' : Sig} {T T' : Nat → Prop} {x : Blk} {pl : Place} {cs : Array Value} {e : TypeId} (h : Held w σ T x pl cs e) (ex : Ext w σ T w' σ' T')
    (hb : w'.heap[pl.block]? = w.heap[pl.block]?) : Held w' σ' T' x pl cs e :=
  ⟨h.size, hb.trans h.block, h.even, h.room, fun i r j a u h1 h2 h3 => (h.rep i r j a u h1 h2 h3).mono ex⟩

/-- only counts of the world have changed -/
theorem Ext.same {w w' : World} (σ : Sig) (T : Nat → Prop) (hh : w'.heap = w.heap) (ho : w'.os = w.os) (ht : w'.tape = w.tape) (hp : w'.output = w.output) : Ext w σ T w' σ T :=
  ⟨ho, ht, hp, by rw [hh]; exact Nat.le_refl _, fun _ _ _ => by rw [hh], fun _ cs _ h => ⟨cs, by rw [hh]; exact h, rfl⟩, fun _ _ h => h, rfl, fun _ _ => by rw [hh], fun _ h => .inl h⟩
theorem WRel.same {w w' : World} {σ : Sig} {H : Heap} (h : WRel w σ H) (hh : w'.heap = w.heap) (ho : w'.os = w.os) (ht : w'.tape = w.tape) (hp : w'.output = w.output) : WRel w' σ H :=
  ⟨h.named, fun b pl hb => by rw [hh]; exact h.lt b pl hb, fun b x hb => by
    obtain ⟨pl, cs, e, h1, h2⟩ := h.live b x hb
    exact ⟨pl, cs, e, h1, h2.mono (Ext.same σ _ hh ho ht hp) (by rw [hh])⟩, fun c hc => by rw [hh]; exact h.apart c hc, h.inj⟩
/-- another heap of the same blocks -/
theorem WRel.congr {w : World} {σ : Sig} {H K : Heap} (h : WRel w σ H) (hg : ∀ b, K.get b = H.get b) (hn : H.next ≤ K.next) : WRel w σ K := by
  have ht : Tok σ K = Tok σ H := by funext c; simp [Tok, hg]
  have ho : Own σ K = Own σ H := by funext c; simp [Own, ht]
  refine ⟨fun b pl hb => Nat.lt_of_lt_of_le (h.named b pl hb) hn, h.lt, fun b x hb => ?_, by rw [ht]; exact h.apart, fun b b' x x' pl pl' h1 h2 => h.inj b b' x x' pl pl' (by rwa [hg] at h1) (by rwa [hg] at h2)⟩
  rw [ho]
  exact h.live b x (by rwa [hg] at hb)
theorem Own.congr {σ : Sig} {H K : Heap} (hg : ∀ b, K.get b = H.get b) : Own σ K = Own σ H := by funext c; simp [Own, Tok, hg]
/-- fewer blocks -/
theorem Own.sub {σ : Sig} {H K : Heap} (hg : ∀ b x, K.get b = some x → H.get b = some x) {c : Nat} (h : Own σ K c) : Own σ H c := by
  rcases h with h | ⟨b, x, pl, h1, h2, h3⟩
  · exact .inl h
  · exact .inr ⟨b, x, pl, hg b x h1, h2, h3⟩
theorem Ext.sub {w : World} {σ : Sig} {H K : Heap} (hg : ∀ b x, K.get b = some x → H.get b = some x) : Ext w σ (Own σ H) w σ (Own σ K) :=
  ⟨rfl, rfl, rfl, Nat.le_refl _, fun _ _ _ => rfl, fun _ cs _ h => ⟨cs, h, rfl⟩, fun _ _ h => h, rfl, fun _ _ => rfl, fun _ h => .inl (Own.sub hg h)⟩
theorem WRel.sub {w : World} {σ : Sig} {H K : Heap} (h : WRel w σ H) (hg : ∀ b x, K.get b = some x → H.get b = some x) (hn : H.next ≤ K.next) : WRel w σ K :=
  ⟨fun b pl hb => Nat.lt_of_lt_of_le (h.named b pl hb) hn, h.lt, fun b x hb => by
    obtain ⟨pl, cs, e, h1, h2⟩ := h.live b x (hg b x hb)
    exact ⟨pl, cs, e, h1, h2.mono (Ext.sub hg) rfl⟩, fun c hc => ⟨(h.apart c hc).1, fun ⟨b, x, pl, h1, h2, h3⟩ => (h.apart c hc).2 ⟨b, x, pl, hg b x h1, h2, h3⟩⟩, fun b b' x x' pl pl' h1 h2 => h.inj b b' x x' pl pl' (hg _ _ h1) (hg _ _ h2)⟩

def Sig.set (σ : Sig) (b : Nat) (pl : Place) : Sig := { σ with map := fun c => if b = c then some pl else σ c }
theorem Sig.set_eq (σ : Sig) (b : Nat) (pl : Place) : σ.set b pl b = some pl := by simp [Sig.set]
theorem Sig.set_ne (σ : Sig) {b c : Nat} (pl : Place) (h : b ≠ c) : σ.set b pl c = σ c := by simp [Sig.set, h]
theorem Sig.set_old {σ : Sig} {b c : Nat} {pl q : Place} (hb : σ b = none) (h : σ c = some q) : σ.set b pl c = some q := by
  rw [Sig.set_ne _ _ (by rintro rfl; rw [hb] at h; cases h)]; exact h

def World.push (w : World) (o : Obj) : World := { w with heap := w.heap.push o }

/-- a new block -/
theorem WRel.new {w : World} {σ : Sig} {H : Heap} (h : WRel w σ H) {b : Nat} (hb : σ b = none) (hlt : b < H.next) {x : Blk} {cs : Array Value} {e : TypeId}
    (even : ∀ (i : Nat) (r : List AV), x.rows[i]? = some r → r.length = x.size) (room : x.rows.length * x.size ≤ cs.size)
    (rep : ∀ (i : Nat) (r : List AV) (j : Nat) (a : AV) (u : Value), x.rows[i]? = some r → r[j]? = some a → cs[i * x.size + j]? = some u → Rep w σ (Own σ H) a u) :
    WRel (World.push w (.cells cs e (0, 0))) (σ.set b ⟨w.heap.size, 0, x.size⟩) (H.new b x) ∧
    Ext w σ (Own σ H) (World.push w (.cells cs e (0, 0))) (σ.set b ⟨w.heap.size, 0, x.size⟩) (Own (σ.set b ⟨w.heap.size, 0, x.size⟩) (H.new b x)) := by
  have hnone : H.get b = none := by
    cases hg : H.get b with
    | none => rfl
    | some y => obtain ⟨pl, _, _, h1, _⟩ := h.live b y hg; rw [hb] at h1; cases h1
  have hold : ∀ c, c < w.heap.size → (World.push w (.cells cs e (0, 0))).heap[c]? = w.heap[c]? := fun c hc => by
    show (w.heap.push _)[c]? = _
    rw [Array.getElem?_push, if_neg (Nat.ne_of_lt hc)]
  have ext : Ext w σ (Own σ H) (World.push w (.cells cs e (0, 0))) (σ.set b ⟨w.heap.size, 0, x.size⟩) (Own (σ.set b ⟨w.heap.size, 0, x.size⟩) (H.new b x)) := by
    refine ⟨rfl, rfl, rfl, by simp [World.push], fun c hc _ => hold c hc, fun c cs' e' hc => ⟨cs', ?_, rfl⟩, fun c q hq => Sig.set_old hb hq, rfl, fun c hc => hold c (h.apart c hc).1, ?_⟩
    · rcases Nat.lt_or_ge c w.heap.size with hlt | hge
      · rw [hold c hlt]; exact hc
      · rw [Array.getElem?_eq_none hge] at hc; cases hc
    · rintro c (hfr | ⟨b', y, pl, h1, h2, h3⟩)
      · exact .inl (.inl hfr)
      rw [Heap.get_new] at h1
      by_cases hbb : b = b'
      · subst hbb
        rw [Sig.set_eq] at h2
        cases h2
        exact .inr (by simp only [] at h3; omega)
      · rw [if_neg hbb] at h1
        rw [Sig.set_ne _ _ hbb] at h2
        exact .inl (.inr ⟨b', y, pl, h1, h2, h3⟩)
  have hap : ∀ c, (σ.set b ⟨w.heap.size, 0, x.size⟩).fr c → c < (World.push w (.cells cs e (0, 0))).heap.size ∧ ¬ Tok (σ.set b ⟨w.heap.size, 0, x.size⟩) (H.new b x) c := fun c hc => by
    have hlt' := (h.apart c hc).1
    refine ⟨by simp [World.push]; omega, ?_⟩
    rintro ⟨b', y, pl, h1, h2, h3⟩
    rw [Heap.get_new] at h1
    by_cases hbb : b = b'
    · subst hbb
      rw [Sig.set_eq] at h2
      cases h2
      simp only [] at h3; omega
    · rw [if_neg hbb] at h1
      rw [Sig.set_ne _ _ hbb] at h2
      exact (h.apart c hc).2 ⟨b', y, pl, h1, h2, h3⟩
  refine ⟨⟨?_, ?_, ?_, hap, ?_⟩, ext⟩
  · intro c pl hc
    by_cases hbc : b = c
    · subst hbc; exact hlt
    · rw [Sig.set_ne _ _ hbc] at hc; exact h.named c pl hc
  · intro c pl hc
    by_cases hbc : b = c
    · subst hbc; rw [Sig.set_eq] at hc; cases hc; simp [World.push]
    · rw [Sig.set_ne _ _ hbc] at hc; have := h.lt c pl hc; simp [World.push]; omega
  · intro c y hy
    rw [Heap.get_new] at hy
    by_cases hbc : b = c
    · subst hbc
      rw [if_pos rfl] at hy
      cases hy
      refine ⟨_, cs, e, Sig.set_eq _ _ _, ⟨rfl, by show (w.heap.push _)[w.heap.size]? = _; simp, even, by simpa using room, fun i r j a u h1 h2 h3 => (rep i r j a u h1 h2 (by simpa using h3)).mono ext⟩⟩
    · rw [if_neg hbc] at hy
      obtain ⟨pl, cs', e', h1, h2⟩ := h.live c y hy
      exact ⟨pl, cs', e', by rw [Sig.set_ne _ _ hbc]; exact h1, h2.mono ext (hold _ (h.lt c pl h1))⟩
  · intro c c' y y' pl pl' h1 h2 h3 h4 h5
    rw [Heap.get_new] at h1 h2
    by_cases hbc : b = c
    · by_cases hbc' : b = c'
      · exact hbc.symm.trans hbc'
      · subst hbc
        rw [Sig.set_eq] at h3; cases h3
        rw [Sig.set_ne _ _ hbc'] at h4
        have := h.lt c' pl' h4
        simp only [] at h5; omega
    · by_cases hbc' : b = c'
      · subst hbc'
        rw [Sig.set_eq] at h4; cases h4
        rw [Sig.set_ne _ _ hbc] at h3
        have := h.lt c pl h3
        simp only [] at h5; omega
      · rw [if_neg hbc] at h1
        rw [if_neg hbc'] at h2
        rw [Sig.set_ne _ _ hbc] at h3
        rw [Sig.set_ne _ _ hbc'] at h4
        exact h.inj c c' y y' pl pl' h1 h2 h3 h4 h5

/-- one block of cells has been written -/
structure Wrote (w w' : World) (c : Nat) (cs cs' : Array Value) (e : TypeId) : Prop where
  os : w'.os = w.os
  tape : w'.tape = w.tape
  output : w'.output = w.output
  size : w'.heap.size = w.heap.size
  old : w.heap[c]? = some (.cells cs e (0, 0))
  new : w'.heap[c]? = some (.cells cs' e (0, 0))
  len : cs'.size = cs.size
  rest : ∀ d, d ≠ c → w'.heap[d]? = w.heap[d]?
theorem Wrote.refl {w : World} {c : Nat} {cs : Array Value} {e : TypeId} (h : w.heap[c]? = some (.cells cs e (0, 0))) : Wrote w w c cs cs e :=
  ⟨rfl, rfl, rfl, rfl, h, h, rfl, fun _ _ => rfl⟩
theorem Wrote.ext {w w' : World} {c : Nat} {cs cs' : Array Value} {e : TypeId} (h : Wrote w w' c cs cs' e) {σ σ' : Sig} {T T' : Nat → Prop} (hc : T c) (hσ : ∀ b pl, σ b = some pl → σ' b = some pl)
    (hfr : σ'.fr = σ.fr) (hn : ¬ σ.fr c) (hT : ∀ d, T' d → T d) : Ext w σ T w' σ' T' := by
  refine ⟨h.os, h.tape, h.output, by rw [h.size]; exact Nat.le_refl _, fun d _ hd => h.rest d (by rintro rfl; exact hd hc), fun d ds e' hd => ?_, hσ, hfr, fun d hd => h.rest d (by rintro rfl; exact hn hd), fun d hd => .inl (hT d hd)⟩
  by_cases hdc : d = c
  · subst hdc
    rw [h.old] at hd
    cases hd
    exact ⟨cs', h.new, h.len⟩
  · exact ⟨ds, by rw [h.rest d hdc]; exact hd, rfl⟩

/-- a living block has been written -/
theorem WRel.put {w w' : World} {σ : Sig} {H : Heap} (h : WRel w σ H) {b : Nat} {x x' : Blk} {pl : Place} {cs cs' : Array Value} {e : TypeId} (hg : H.get b = some x) (hs : σ b = some pl)
    (hw : Wrote w w' pl.block cs cs' e) (hx : x'.size = pl.size)
    (even : ∀ (i : Nat) (r : List AV), x'.rows[i]? = some r → r.length = x'.size) (room : pl.base + x'.rows.length * x'.size ≤ cs.size)
    (rep : ∀ (i : Nat) (r : List AV) (j : Nat) (a : AV) (u : Value), x'.rows[i]? = some r → r[j]? = some a → cs'[pl.base + i * x'.size + j]? = some u → Rep w σ (Own σ H) a u) :
    WRel w' σ (H.put b (some x')) ∧ Ext w σ (Own σ H) w' σ (Own σ (H.put b (some x'))) := by
  have htok : Tok σ (H.put b (some x')) = Tok σ H := by
    funext c
    apply propext
    constructor
    · rintro ⟨b', y, q, h1, h2, h3⟩
      rw [Heap.get_put] at h1
      by_cases hbb : b = b'
      · subst hbb; exact ⟨b, x, q, hg, h2, h3⟩
      · rw [if_neg hbb] at h1; exact ⟨b', y, q, h1, h2, h3⟩
    · rintro ⟨b', y, q, h1, h2, h3⟩
      by_cases hbb : b = b'
      · subst hbb; exact ⟨b, x', q, by rw [Heap.get_put, if_pos rfl], h2, h3⟩
      · exact ⟨b', y, q, by rw [Heap.get_put, if_neg hbb]; exact h1, h2, h3⟩
  have hown : Own σ (H.put b (some x')) = Own σ H := by funext c; simp [Own, htok]
  have ext : Ext w σ (Own σ H) w' σ (Own σ (H.put b (some x'))) := by
    rw [hown]
    exact hw.ext (.inr ⟨b, x, pl, hg, hs, rfl⟩) (fun _ _ h => h) rfl (fun hf => (h.apart _ hf).2 ⟨b, x, pl, hg, hs, rfl⟩) (fun _ h => h)
  refine ⟨⟨h.named, fun c q hc => by rw [hw.size]; exact h.lt c q hc, ?_, fun c hc => by rw [hw.size, htok]; exact h.apart c hc, ?_⟩, ext⟩
  · intro c y hy
    rw [Heap.get_put] at hy
    by_cases hbc : b = c
    · subst hbc
      rw [if_pos rfl] at hy
      cases hy
      exact ⟨pl, cs', e, hs, ⟨hx.symm, hw.new, even, by rw [hw.len]; exact room, fun i r j a u h1 h2 h3 => (rep i r j a u h1 h2 h3).mono ext⟩⟩
    · rw [if_neg hbc] at hy
      obtain ⟨q, ds, e', h1, h2⟩ := h.live c y hy
      exact ⟨q, ds, e', h1, h2.mono ext (hw.rest _ fun he => hbc (h.inj b c x y pl q hg hy hs h1 he.symm))⟩
  · intro c c' y y' q q' h1 h2
    have aux : ∀ c y, (H.put b (some x')).get c = some y → ∃ z, H.get c = some z := fun c y hy => by
      rw [Heap.get_put] at hy
      by_cases hbc : b = c
      · subst hbc; exact ⟨x, hg⟩
      · rw [if_neg hbc] at hy; exact ⟨y, hy⟩
    obtain ⟨z, hz⟩ := aux c y h1
    obtain ⟨z', hz'⟩ := aux c' y' h2
    exact h.inj c c' z z' q q' hz hz'

/-- block b is given up, and a new block of number b' takes its place, from its row k on -/
theorem WRel.over {w w' : World} {σ : Sig} {H : Heap} (h : WRel w σ H) {b b' : Nat} {x x' : Blk} {pl : Place} {cs cs' : Array Value} {e : TypeId} {k : Nat} (hg : H.get b = some x) (hs : σ b = some pl)
    (hb : σ b' = none) (hlt : b' < H.next) (hw : Wrote w w' pl.block cs cs' e) (hx : x'.size = pl.size)
    (even : ∀ (i : Nat) (r : List AV), x'.rows[i]? = some r → r.length = x'.size) (room : pl.base + k * pl.size + x'.rows.length * x'.size ≤ cs.size)
    (rep : ∀ (i : Nat) (r : List AV) (j : Nat) (a : AV) (u : Value), x'.rows[i]? = some r → r[j]? = some a → cs'[pl.base + k * pl.size + i * x'.size + j]? = some u → Rep w σ (Own σ H) a u) :
    WRel w' (σ.set b' ⟨pl.block, pl.base + k * pl.size, pl.size⟩) ((H.put b none).new b' x') ∧
    Ext w σ (Own σ H) w' (σ.set b' ⟨pl.block, pl.base + k * pl.size, pl.size⟩) (Own (σ.set b' ⟨pl.block, pl.base + k * pl.size, pl.size⟩) ((H.put b none).new b' x')) := by
  have hne : b' ≠ b := by rintro rfl; rw [hb] at hs; cases hs
  have get' : ∀ c y, ((H.put b none).new b' x').get c = some y → (c = b' ∧ y = x') ∨ (c ≠ b' ∧ c ≠ b ∧ H.get c = some y) := fun c y hy => by
    rw [Heap.get_new] at hy
    by_cases h1 : b' = c
    · rw [if_pos h1] at hy; cases hy; exact .inl ⟨h1.symm, rfl⟩
    · rw [if_neg h1, Heap.get_put] at hy
      by_cases h2 : b = c
      · rw [if_pos h2] at hy; cases hy
      · rw [if_neg h2] at hy; exact .inr ⟨fun e => h1 e.symm, fun e => h2 e.symm, hy⟩
  have htok : ∀ d, Tok (σ.set b' ⟨pl.block, pl.base + k * pl.size, pl.size⟩) ((H.put b none).new b' x') d → Tok σ H d := by
    rintro d ⟨c, y, q, h1, h2, h3⟩
    rcases get' c y h1 with ⟨rfl, rfl⟩ | ⟨h4, _, h5⟩
    · rw [Sig.set_eq] at h2; cases h2; exact ⟨b, x, pl, hg, hs, h3⟩
    · rw [Sig.set_ne _ _ (fun e => h4 e.symm)] at h2; exact ⟨c, y, q, h5, h2, h3⟩
  have ext : Ext w σ (Own σ H) w' (σ.set b' ⟨pl.block, pl.base + k * pl.size, pl.size⟩) (Own (σ.set b' ⟨pl.block, pl.base + k * pl.size, pl.size⟩) ((H.put b none).new b' x')) := by
    refine hw.ext (.inr ⟨b, x, pl, hg, hs, rfl⟩) (fun c q hq => Sig.set_old hb hq) rfl (fun hf => (h.apart _ hf).2 ⟨b, x, pl, hg, hs, rfl⟩) ?_
    rintro d (hfr | hd)
    · exact .inl hfr
    · exact .inr (htok d hd)
  refine ⟨⟨?_, ?_, ?_, fun c hc => ⟨by rw [hw.size]; exact (h.apart c hc).1, fun ht => (h.apart c hc).2 (htok c ht)⟩, ?_⟩, ext⟩
  · intro c q hc
    by_cases hbc : b' = c
    · subst hbc; exact hlt
    · rw [Sig.set_ne _ _ hbc] at hc; exact h.named c q hc
  · intro c q hc
    rw [hw.size]
    by_cases hbc : b' = c
    · subst hbc; rw [Sig.set_eq] at hc; cases hc; exact h.lt b pl hs
    · rw [Sig.set_ne _ _ hbc] at hc; exact h.lt c q hc
  · intro c y hy
    rcases get' c y hy with ⟨rfl, rfl⟩ | ⟨h4, h6, h5⟩
    · exact ⟨_, cs', e, Sig.set_eq _ _ _, ⟨hx.symm, hw.new, even, by rw [hw.len]; exact room, fun i r j a u h1 h2 h3 => (rep i r j a u h1 h2 h3).mono ext⟩⟩
    · obtain ⟨q, ds, e', h1, h2⟩ := h.live c y h5
      exact ⟨q, ds, e', by rw [Sig.set_ne _ _ (fun e => h4 e.symm)]; exact h1, h2.mono ext (hw.rest _ fun he => h6 (h.inj c b y x q pl h5 hg h1 hs he))⟩
  · intro c c' y y' q q' h1 h2 h3 h4 h5
    rcases get' c y h1 with ⟨rfl, rfl⟩ | ⟨a1, a2, a3⟩
    · rcases get' c' y' h2 with ⟨rfl, rfl⟩ | ⟨b1, b2, b3⟩
      · rfl
      · rw [Sig.set_eq] at h3; cases h3
        rw [Sig.set_ne _ _ (fun e => b1 e.symm)] at h4
        exact absurd (h.inj b c' x y' pl q' hg b3 hs h4 h5) (fun e => b2 e.symm)
    · rcases get' c' y' h2 with ⟨rfl, rfl⟩ | ⟨b1, b2, b3⟩
      · rw [Sig.set_eq] at h4; cases h4
        rw [Sig.set_ne _ _ (fun e => a1 e.symm)] at h3
        exact absurd (h.inj c b y x q pl a3 hg h3 hs h5) a2
      · rw [Sig.set_ne _ _ (fun e => a1 e.symm)] at h3
        rw [Sig.set_ne _ _ (fun e => b1 e.symm)] at h4
        exact h.inj c c' y y' q q' a3 b3 h3 h4 h5
end Go.Proofs.Ytdaejmkoenhbkaa.Am
