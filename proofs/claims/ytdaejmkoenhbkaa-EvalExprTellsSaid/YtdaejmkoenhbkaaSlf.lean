/- AM, part 34: memory that nobody writes any more, over a symbolic heap. -/
import Derived.Test.YtdaejmkoenhbkaaSle
namespace Go.Proofs.Ytdaejmkoenhbkaa.Am
open Go.RowKit
set_option linter.unusedVariables false
/-- a value as it reads; the blocks K are never written again -/
inductive Fz (K : SH) : AV → AV → Prop where
  | refl (v : AV) : Fz K v v
  | nils : Fz K .nils (.lst [])
  | nile : Fz K .nils .emp
  | emp : Fz K .emp (.lst [])
  | sl0 (b i : Nat) : Fz K (.sl b i 0) (.lst [])
  | sl (b i n : Nat) (x : Blk) (rows : List (List AV)) (hm : (b, x) ∈ K) (hs : 0 < x.size) (hn : 0 < n) (hl : rows.length = n) (hle : i + n ≤ x.rows.length)
      (hr : ∀ (j : Nat) (r r2 : List AV), x.rows[i + j]? = some r → rows[j]? = some r2 → r.length = r2.length)
      (hc : ∀ (j : Nat) (r r2 : List AV) (q : Nat) (a a2 : AV), x.rows[i + j]? = some r → rows[j]? = some r2 → r[q]? = some a → r2[q]? = some a2 → Fz K a a2) : Fz K (.sl b i n) (.lst rows)
  | ptr (b i off : Nat) (x : Blk) (rows : List (List AV)) (hm : (b, x) ∈ K) (hs : 0 < x.size) (hl : rows.length = x.rows.length) (hn : 0 < rows.length)
      (hr : ∀ (j : Nat) (r r2 : List AV), x.rows[j]? = some r → rows[j]? = some r2 → r.length = r2.length)
      (hc : ∀ (j : Nat) (r r2 : List AV) (q : Nat) (a a2 : AV), x.rows[j]? = some r → rows[j]? = some r2 → r[q]? = some a → r2[q]? = some a2 → Fz K a a2) : Fz K (.ptr b i off) (.pptr rows i off)
  | agg (cs cs2 : List AV) (hl : cs.length = cs2.length) (h : ∀ (i : Nat) (a a2 : AV), cs[i]? = some a → cs2[i]? = some a2 → Fz K a a2) : Fz K (.agg cs) (.agg cs2)
  | tup (cs cs2 : List AV) (hl : cs.length = cs2.length) (h : ∀ (i : Nat) (a a2 : AV), cs[i]? = some a → cs2[i]? = some a2 → Fz K a a2) : Fz K (.tup cs) (.tup cs2)
section
variable {P : Program} {F : TypeId → Option (List TypeId)} {w : World} {σ : Sig} {H H2 : Heap} {K : SH}
theorem fz_rep (hW : WRel w σ H) (hK : Sub K H) (hown : ∀ c, Own σ H2 c → Own σ H c) (hout : ∀ b ∈ K.names, ∀ pl, σ b = some pl → ¬ Own σ H2 pl.block) {a a2 : AV} (hz : Fz K a a2) : ∀ {v : Value}, Rep w σ (Own σ H) a v → Rep w σ (Own σ H2) a2 v := by
  induction hz with
  | refl v => intro u h; exact h.shrink hown
  | nils => intro u h; cases h; exact .lst0 _ _ (by unfold maxLen; omega)
  | nile => intro u h; cases h; exact .emp _
  | emp => intro u h; cases h; exact .lst0 _ _ (by unfold maxLen; omega)
  | sl0 b i =>
    intro u h
    obtain ⟨pl, ad, cap, rfl, hs, hn, hm, ha⟩ := h.sl_inv
    exact .lst0 _ _ hm
  | sl b i n x rows hm hs hn hl hle hr hc ih =>
    intro u h
    obtain ⟨pl, ad, cap, rfl, hsg, hn', hmx, ha⟩ := h.sl_inv
    obtain ⟨rfl, cs, ty, hcs, hroom⟩ := ha (by omega)
    obtain ⟨pl', cs', e', g1, g2⟩ := hW.live b x (hK.get _ hm)
    rw [hsg] at g1
    cases g1
    have row : ∀ (j : Nat) (r2 : List AV), rows[j]? = some r2 → ∃ r, x.rows[i + j]? = some r ∧ r.length = r2.length := fun j r2 h2 => by
      have hj := lt_of_some h2
      have : i + j < x.rows.length := by omega
      exact ⟨_, List.getElem?_eq_getElem this, hr j _ r2 (List.getElem?_eq_getElem this) h2⟩
    have := Rep.lst (w := w) (σ := σ) (T := Own σ H2) rows pl.block (pl.base + i * pl.size) pl.size cap
      ⟨hout b (List.mem_map_of_mem hm) pl hsg, fun q r2 h2 => by
        obtain ⟨r, k1, k2⟩ := row q r2 h2
        rw [← k2, g2.even _ r k1, g2.size], fun q j hq hj => by
        obtain ⟨r, k1, k2⟩ := row q rows[q] (List.getElem?_eq_getElem hq)
        have hj' : j < r.length := by rw [g2.even _ r k1, ← g2.size]; exact hj
        obtain ⟨u, hu, _⟩ := g2.row k1 j _ (List.getElem?_eq_getElem hj')
        rw [Nat.add_mul, ← Nat.add_assoc] at hu
        exact ⟨u, hu⟩, by rw [g2.size]; exact hs, by omega⟩ (by omega) hmx
      (fun q r2 j y u h2 hy hu => by
        obtain ⟨r, k1, k2⟩ := row q r2 h2
        have hj' : j < r.length := by rw [k2]; exact lt_of_some hy
        obtain ⟨u', hu', hz⟩ := g2.row k1 j _ (List.getElem?_eq_getElem hj')
        rw [Nat.add_mul, ← Nat.add_assoc] at hu'
        rw [hu] at hu'
        cases hu'
        exact ih q r r2 j _ y k1 h2 (List.getElem?_eq_getElem hj') hy hz)
    rw [hl] at this
    exact this
  | ptr b i off x rows hm hs hl hn hr hc ih =>
    intro u h
    cases h with
    | ptr _ _ _ pl hsg =>
    obtain ⟨pl', cs', e', g1, g2⟩ := hW.live b x (hK.get _ hm)
    rw [hsg] at g1
    cases g1
    have row : ∀ (j : Nat) (r2 : List AV), rows[j]? = some r2 → ∃ r, x.rows[j]? = some r ∧ r.length = r2.length := fun j r2 h2 => by
      have hj := lt_of_some h2
      have : j < x.rows.length := by omega
      exact ⟨_, List.getElem?_eq_getElem this, hr j _ r2 (List.getElem?_eq_getElem this) h2⟩
    exact Rep.pptr (w := w) (σ := σ) (T := Own σ H2) rows i off pl.block pl.base pl.size
      ⟨hout b (List.mem_map_of_mem hm) pl hsg, fun q r2 h2 => by
        obtain ⟨r, k1, k2⟩ := row q r2 h2
        rw [← k2, g2.even _ r k1, g2.size], fun q j hq hj => by
        obtain ⟨r, k1, k2⟩ := row q rows[q] (List.getElem?_eq_getElem hq)
        have hj' : j < r.length := by rw [g2.even _ r k1, ← g2.size]; exact hj
        obtain ⟨u, hu, _⟩ := g2.row k1 j _ (List.getElem?_eq_getElem hj')
        exact ⟨u, hu⟩, by rw [g2.size]; exact hs, by omega⟩
      (fun q r2 j y u h2 hy hu => by
        obtain ⟨r, k1, k2⟩ := row q r2 h2
        have hj' : j < r.length := by rw [k2]; exact lt_of_some hy
        obtain ⟨u', hu', hz⟩ := g2.row k1 j _ (List.getElem?_eq_getElem hj')
        rw [hu] at hu'
        cases hu'
        exact ih q r r2 j _ y k1 h2 (List.getElem?_eq_getElem hj') hy hz)
  | agg cs cs2 hl h ih =>
    intro u hu
    cases hu with
    | agg _ vs hlv hc =>
      refine .agg cs2 vs (by omega) fun q y z hy hz => ?_
      have hq : q < cs.length := by rw [hl]; exact lt_of_some hy
      exact ih q _ y (List.getElem?_eq_getElem hq) hy (hc q _ z (List.getElem?_eq_getElem hq) hz)
  | tup cs cs2 hl h ih =>
    intro u hu
    cases hu with
    | tup _ vs hlv hc =>
      refine .tup cs2 vs (by omega) fun q y z hy hz => ?_
      have hq : q < cs.length := by rw [hl]; exact lt_of_some hy
      exact ih q _ y (List.getElem?_eq_getElem hq) hy (hc q _ z (List.getElem?_eq_getElem hq) hz)
/-- values and blocks as they read; what was K is never written again -/
structure FzS (vs : List AV) (L : SH) (vs2 : List AV) (L2 : SH) : Prop where
  ex : ∃ K R : SH, L.Perm (K ++ R) ∧ (vs.length = vs2.length ∧ ∀ (i : Nat) (a a2 : AV), vs[i]? = some a → vs2[i]? = some a2 → Fz K a a2) ∧ R.length = L2.length ∧
    ∀ (i : Nat) (p q : Nat × Blk), R[i]? = some p → L2[i]? = some q → p.1 = q.1 ∧ p.2.size = q.2.size ∧ p.2.rows.length = q.2.rows.length ∧
      ∀ (j : Nat) (r r2 : List AV), p.2.rows[j]? = some r → q.2.rows[j]? = some r2 → r.length = r2.length ∧ ∀ (k : Nat) (a a2 : AV), r[k]? = some a → r2[k]? = some a2 → Fz K a a2
theorem FzS.refl (vs : List AV) (L : SH) : FzS vs L vs L := ⟨[], L, .refl _, ⟨rfl, fun i a a2 h1 h2 => by rw [h1] at h2; cases h2; exact .refl _⟩, rfl, fun i p q h1 h2 => by
  rw [h1] at h2; cases h2
  exact ⟨rfl, rfl, rfl, fun j r r2 h3 h4 => by rw [h3] at h4; cases h4; exact ⟨rfl, fun k a a2 h5 h6 => by rw [h5] at h6; cases h6; exact .refl _⟩⟩⟩
/-- the blocks K are dropped -/
theorem FzS.drop {vs vs2 : List AV} {L K R : SH} (hL : L.Perm (K ++ R)) (hl : vs.length = vs2.length) (h : ∀ (i : Nat) (a a2 : AV), vs[i]? = some a → vs2[i]? = some a2 → Fz K a a2) : FzS vs L vs2 R := ⟨K, R, hL, ⟨hl, h⟩, rfl, fun i p q h1 h2 => by
  rw [h1] at h2; cases h2
  exact ⟨rfl, rfl, rfl, fun j r r2 h3 h4 => by rw [h3] at h4; cases h4; exact ⟨rfl, fun k a a2 h5 h6 => by rw [h5] at h6; cases h6; exact .refl _⟩⟩⟩
/-- a heap with other blocks -/
def Heap.repl (H : Heap) (K : List Nat) (L2 : SH) : Heap := L2.foldl (fun H p => { H with tr := H.tr.set p.1 (some p.2) }) (K.foldl (fun H b => { H with tr := H.tr.set b none }) H)
theorem foldl_none (K : List Nat) : ∀ (H : Heap) (c : Nat), (K.foldl (fun H b => ({ H with tr := H.tr.set b none } : Heap)) H).get c = (if c ∈ K then none else H.get c) ∧ (K.foldl (fun H b => ({ H with tr := H.tr.set b none } : Heap)) H).next = H.next := by
  induction K with
  | nil => intro H c; simp
  | cons b K ih =>
    intro H c
    simp only [List.foldl_cons]
    obtain ⟨h1, h2⟩ := ih { H with tr := H.tr.set b none } c
    refine ⟨?_, h2⟩
    rw [h1]
    by_cases hc : c ∈ K
    · simp [hc]
    · have : ({ H with tr := H.tr.set b none } : Heap).get c = if b = c then none else H.get c := Tr.get_set _ _ _ _
      rw [if_neg hc, this]
      by_cases hb : b = c
      · subst hb; simp
      · rw [if_neg hb, if_neg]
        simp only [List.mem_cons, not_or]
        exact ⟨fun e => hb e.symm, hc⟩
theorem foldl_some : ∀ (L2 : SH), L2.names.Nodup → ∀ (H : Heap) (c : Nat), ((∀ x, (c, x) ∈ L2 → (L2.foldl (fun H p => ({ H with tr := H.tr.set p.1 (some p.2) } : Heap)) H).get c = some x) ∧ (c ∉ L2.names → (L2.foldl (fun H p => ({ H with tr := H.tr.set p.1 (some p.2) } : Heap)) H).get c = H.get c)) ∧ (L2.foldl (fun H p => ({ H with tr := H.tr.set p.1 (some p.2) } : Heap)) H).next = H.next := by
  intro L2
  induction L2 with
  | nil => intro _ H c; simp
  | cons p L ih =>
    intro hn H c
    simp only [List.map_cons, List.nodup_cons] at hn
    obtain ⟨⟨h1, h2⟩, h3⟩ := ih hn.2 { H with tr := H.tr.set p.1 (some p.2) } c
    have hg : ({ H with tr := H.tr.set p.1 (some p.2) } : Heap).get c = if p.1 = c then some p.2 else H.get c := Tr.get_set _ _ _ _
    refine ⟨⟨fun x hx => ?_, fun hc => ?_⟩, h3⟩
    · simp only [List.foldl_cons]
      rcases List.mem_cons.1 hx with hx | hx
      · subst hx
        rw [h2 hn.1, hg, if_pos rfl]
      · exact h1 x hx
    · simp only [List.foldl_cons]
      simp only [List.map_cons, List.mem_cons, not_or] at hc
      rw [h2 hc.2, hg, if_neg (fun e => hc.1 e.symm)]
theorem fzs_sound {vs vs2 : List AV} {L L2 : SH} (h : FzS vs L vs2 L2) (hs : Sub L H) (hb : Bd H) : ∃ H2 : Heap, Fr H.next L H L2 H2 ∧ H2.next = H.next ∧
    (∀ (w : World) (σ : Sig), WRel w σ H → WRel w σ H2 ∧ (∀ c, Own σ H2 c → Own σ H c) ∧ ∀ (us : List Value), Reps w σ (Own σ H) vs us → Reps w σ (Own σ H2) vs2 us) ∧ ∀ b, b ∉ L.names → H2.get b = H.get b := by
  obtain ⟨K, R, hL, ⟨hl, hv⟩, hlen, hR⟩ := h.ex
  have hs' := hs.perm hL
  have hn : ∀ b, b ∈ L.names ↔ b ∈ K.names ∨ b ∈ R.names := fun b => by rw [(hL.map Prod.fst).mem_iff, List.map_append, List.mem_append]
  have hnames : L2.names = R.names := by
    apply List.ext_getElem?
    intro i
    unfold SH.names
    rw [List.getElem?_map, List.getElem?_map]
    rcases Nat.lt_or_ge i R.length with hi | hi
    · have hi2 : i < L2.length := by omega
      rw [List.getElem?_eq_getElem hi, List.getElem?_eq_getElem hi2]
      simp only [Option.map_some, Option.some.injEq]
      exact (hR i _ _ (List.getElem?_eq_getElem hi) (List.getElem?_eq_getElem hi2)).1.symm
    · rw [List.getElem?_eq_none hi, List.getElem?_eq_none (by omega)]
  have hnd2 : L2.names.Nodup := by rw [hnames]; exact hs'.right.nd
  let H2 := H.repl K.names L2
  have hget : ∀ c, (∀ x, (c, x) ∈ L2 → H2.get c = some x) ∧ (c ∉ L2.names → H2.get c = if c ∈ K.names then none else H.get c) := fun c => by
    obtain ⟨⟨h1, h2⟩, _⟩ := foldl_some L2 hnd2 (K.names.foldl (fun H b => { H with tr := H.tr.set b none }) H) c
    exact ⟨h1, fun hc => (h2 hc).trans (foldl_none K.names H c).1⟩
  have hnext : H2.next = H.next := (foldl_some L2 hnd2 _ 0).2.trans (foldl_none K.names H 0).2
  -- every block of H2 is one of H
  have hold : ∀ b y, H2.get b = some y → ∃ x, H.get b = some x ∧ b ∉ K.names ∧ x.size = y.size ∧ x.rows.length = y.rows.length ∧ ∀ (j : Nat) (r r2 : List AV), x.rows[j]? = some r → y.rows[j]? = some r2 → r.length = r2.length ∧ ∀ (k : Nat) (a a2 : AV), r[k]? = some a → r2[k]? = some a2 → Fz K a a2 := fun b y hy => by
    by_cases hb2 : b ∈ L2.names
    · obtain ⟨q, hq, rfl⟩ := List.mem_map.1 hb2
      have hqy : H2.get q.1 = some q.2 := (hget q.1).1 q.2 hq
      rw [hy] at hqy
      cases hqy
      obtain ⟨i, hi, hqi⟩ := List.getElem_of_mem hq
      have hi' : i < R.length := by omega
      obtain ⟨e1, e2, e3, e4⟩ := hR i R[i] q (List.getElem?_eq_getElem hi') (by rw [List.getElem?_eq_getElem hi, hqi])
      refine ⟨R[i].2, ?_, fun hk => hs'.disj hk (hnames ▸ hb2), e2, e3, e4⟩
      rw [← e1]
      exact hs'.right.get _ (List.getElem_mem hi')
    · rw [(hget b).2 hb2] at hy
      split at hy
      · cases hy
      · rename_i hk
        exact ⟨y, hy, hk, rfl, rfl, fun j r r2 h1 h2 => by rw [h1] at h2; cases h2; exact ⟨rfl, fun k a a2 h3 h4 => by rw [h3] at h4; cases h4; exact .refl _⟩⟩
  have hout : ∀ b, b ∉ L.names → H2.get b = H.get b := fun b hbn => by
    rw [hn, not_or] at hbn
    rw [(hget b).2 (by rw [hnames]; exact hbn.2), if_neg hbn.1]
  refine ⟨H2, ⟨by rw [hnext]; exact Nat.le_refl _, fun b hb' => ?_, ⟨hnd2, fun p hp => (hget p.1).1 p.2 hp⟩, fun b x h1 h2 => ⟨by rw [hout b h2]; exact h1, fun h3 => h2 ((hn b).2 (.inr (hnames ▸ h3)))⟩, fun b _ h1 => ?_, fun b h1 _ => (hn b).2 (.inr (hnames ▸ h1))⟩, hnext, fun w σ hW => ?_, hout⟩
  · rw [hnext] at hb'
    cases hg : H2.get b with
    | none => rfl
    | some y => obtain ⟨x, hx, _⟩ := hold b y hg; rw [hb b hb'] at hx; cases hx
  · cases hg : H2.get b with
    | none => rfl
    | some y => obtain ⟨x, hx, _⟩ := hold b y hg; rw [h1] at hx; cases hx
  · have hown : ∀ c, Own σ H2 c → Own σ H c := fun c hc => by
      rcases hc with hc | ⟨b, y, pl, h1, h2, h3⟩
      · exact .inl hc
      · obtain ⟨x, hx, _⟩ := hold b y h1
        exact .inr ⟨b, x, pl, hx, h2, h3⟩
    have hnot : ∀ b ∈ K.names, ∀ pl, σ b = some pl → ¬ Own σ H2 pl.block := fun b hbK pl hpl ho => by
      obtain ⟨x, _, hx⟩ := hs'.left.mem hbK
      rcases ho with ho | ⟨b', y, pl', h1, h2, h3⟩
      · exact (hW.apart _ ho).2 ⟨b, x, pl, hx, hpl, rfl⟩
      · obtain ⟨x', hx', hk', _⟩ := hold b' y h1
        have := hW.inj b' b x' x pl' pl hx' hx h2 hpl h3
        subst this
        exact hk' hbK
    refine ⟨⟨fun b pl hb => by rw [hnext]; exact hW.named b pl hb, hW.lt, fun b y hy => ?_, fun c hc => ⟨(hW.apart c hc).1, fun ⟨b, y, pl, h1, h2, h3⟩ => ?_⟩, fun b b' y y' pl pl' h1 h2 h3 h4 h5 => ?_⟩, hown, fun us hus => ⟨by rw [← hl]; exact hus.1, fun i a2 u h1 h2 => ?_⟩⟩
    · obtain ⟨x, hx, hk, e1, e2, e3⟩ := hold b y hy
      obtain ⟨pl, cs, e, g1, g2⟩ := hW.live b x hx
      have row : ∀ (j : Nat) (r2 : List AV), y.rows[j]? = some r2 → ∃ r, x.rows[j]? = some r := fun j r2 h2 => ⟨_, List.getElem?_eq_getElem (by rw [e2]; exact lt_of_some h2)⟩
      refine ⟨pl, cs, e, g1, ⟨g2.size.trans e1, g2.block, fun i r2 h2 => ?_, by rw [← e2, ← e1]; exact g2.room, fun i r2 j a2 u h2 h3 h4 => ?_⟩⟩
      · obtain ⟨r, h1⟩ := row i r2 h2
        rw [← (e3 i r r2 h1 h2).1, g2.even i r h1, e1]
      · obtain ⟨r, h1⟩ := row i r2 h2
        obtain ⟨e4, e5⟩ := e3 i r r2 h1 h2
        have hj : j < r.length := by rw [e4]; exact lt_of_some h3
        exact fz_rep hW hs'.left hown hnot (e5 j _ a2 (List.getElem?_eq_getElem hj) h3) (g2.rep i r j _ u h1 (List.getElem?_eq_getElem hj) (by rw [e1]; exact h4))
    · obtain ⟨x, hx, _⟩ := hold b y h1
      exact (hW.apart c hc).2 ⟨b, x, pl, hx, h2, h3⟩
    · obtain ⟨x, hx, _⟩ := hold b y h1
      obtain ⟨x', hx', _⟩ := hold b' y' h2
      exact hW.inj b b' x x' pl pl' hx hx' h3 h4 h5
    · have hi : i < vs.length := by rw [hl]; exact lt_of_some h1
      exact fz_rep hW hs'.left hown hnot (hv i _ a2 (List.getElem?_eq_getElem hi) h1) (hus.2 i _ u (List.getElem?_eq_getElem hi) h2)
/-- in a piece of code -/
theorem ARun.fz {c : Code} {τ τ2 : List AV} {L L2 : SH} {Q : Ex → List AV → SH → Prop} (hz : FzS τ L τ2 L2) (h : ARun P c τ2 L2 Q) : ARun P c τ L Q := fun H hb hs => by
  obtain ⟨H2, f1, f2, f3, f4⟩ := fzs_sound hz hs hb
  obtain ⟨e, τ', H', L', h1, h2, h3⟩ := h H2 f1.bd f1.sub
  refine ⟨e, τ', H', L', ⟨by rw [← f2]; exact h1.1, fun w σ a hW hτ Q hQ => ?_⟩, f1.trans (h2.low (by rw [f2]; exact Nat.le_refl _)) (Nat.le_refl _), h3⟩
  obtain ⟨g1, g2, g3⟩ := f3 w σ hW
  refine h1.2 w σ a g1 ⟨g3 _ hτ.1, hτ.2⟩ Q fun a' w' ⟨σ', t, r, e1, m⟩ => hQ a' w' ⟨σ', t, r, ?_, fun c pl hc => by rw [← f2]; exact m c pl hc⟩
  exact ⟨e1.os, e1.tape, e1.output, e1.size, fun c hc hT => e1.keep c hc (fun h => hT (g2 c h)), e1.shape, e1.sig, e1.eqfr, e1.frame, fun c hc => (e1.own c hc).imp (g2 c) id⟩
/-- behind a call -/
theorem CallA.fz {f : FuncId} {args : List AV} {L0 : SH} {Q : AV → SH → Prop} (h : CallA P f args L0 fun v L => ∃ v2 L2, FzS [v] L [v2] L2 ∧ Q v2 L2) : CallA P f args L0 Q := ⟨h.1, fun H hb hs => by
  obtain ⟨v, H', L', h1, h2, v2, L2, hz, h3⟩ := h.2 H hb hs
  obtain ⟨H2, f1, f2, f3, f4⟩ := fzs_sound hz h2.sub h2.bd
  refine ⟨v2, H2, L2, fun w σ vs hW hvs => (h1 w σ vs hW hvs).mono ?_, h2.trans (f1.low h2.next) (Nat.le_refl _), h3⟩
  rintro e w' ⟨v', σ', rfl, k1, k2, k3, k4⟩
  obtain ⟨g1, g2, g3⟩ := f3 w' σ' k2
  have := g3 [v'] ⟨rfl, fun i a u h1 h2 => by
    match i with
    | 0 => cases h1; cases h2; exact k1
    | i + 1 => cases h1⟩
  exact ⟨v', σ', rfl, this.2 0 v2 v' rfl rfl, g1, ⟨k3.os, k3.tape, k3.output, k3.size, k3.keep, k3.shape, k3.sig, k3.eqfr, k3.frame, fun c hc => k3.own c (g2 c hc)⟩, k4⟩⟩
end
end Go.Proofs.Ytdaejmkoenhbkaa.Am
