/- AM, part 28: results that nobody writes any more. -/
import Derived.Test.YtdaejmkoenhbkaaTab
namespace Go.Proofs.Ytdaejmkoenhbkaa.Am
set_option linter.unusedVariables false
def frzRows (f : AV → Option AV) (rows : List (List AV)) : Option (List (List AV)) := allSome (rows.map fun r => allSome (r.map f))
/-- a value as it reads, without names of the heap -/
def frz (K : Heap) : Nat → AV → Option AV
  | 0, _ => none
  | d + 1, a => match a with
    | .sl b i n => if n = 0 then some (.lst []) else match K.get b with
      | some x => if 0 < x.size ∧ i + n ≤ x.rows.length then (frzRows (frz K d) ((x.rows.drop i).take n)).map .lst else none
      | none => none
    | .nils => some (.lst [])
    | .lst rows => (frzRows (frz K d) rows).map .lst
    | .agg cs => (allSome (cs.map (frz K d))).map .agg
    | .tup cs => (allSome (cs.map (frz K d))).map .tup
    | .ptr .. => none
    | .pptr .. => none
    | .fn .. => none
    | a => some a
theorem allSome_get {f : AV → Option AV} {l m : List AV} (h : allSome (l.map f) = some m) : l.length = m.length ∧ ∀ (i : Nat) (y : AV), m[i]? = some y → ∃ x, l[i]? = some x ∧ f x = some y := by
  obtain ⟨h1, h2⟩ := allSome_spec _ _ h
  refine ⟨by simpa using h1, fun i y hy => ?_⟩
  have := h2 i y hy
  rw [List.getElem?_map] at this
  cases hx : l[i]? with
  | none => rw [hx] at this; cases this
  | some x => rw [hx] at this; exact ⟨x, rfl, by simpa using this⟩
theorem frzRows_get {f : AV → Option AV} {l m : List (List AV)} (h : frzRows f l = some m) : l.length = m.length ∧ ∀ (i : Nat) (r' : List AV), m[i]? = some r' → ∃ r, l[i]? = some r ∧ r.length = r'.length ∧ ∀ (j : Nat) (y : AV), r'[j]? = some y → ∃ x, r[j]? = some x ∧ f x = some y := by
  obtain ⟨h1, h2⟩ := allSome_spec _ _ h
  refine ⟨by simpa using h1, fun i r' hr' => ?_⟩
  have := h2 i r' hr'
  rw [List.getElem?_map] at this
  cases hx : l[i]? with
  | none => rw [hx] at this; cases this
  | some r =>
    rw [hx] at this
    simp only [Option.map_some, Option.some.injEq] at this
    obtain ⟨h3, h4⟩ := allSome_get this
    exact ⟨r, rfl, h3, h4⟩
theorem frz_rep {w : World} {σ : Sig} {K : Heap} (hW : WRel w σ K) : ∀ (d : Nat) (a a' : AV) (v : Value), frz K d a = some a' → Rep w σ (Own σ K) a v → Rep w σ (Own σ Heap.empty) a' v
  | 0, a, a', v, h, _ => by cases h
  | d + 1, a, a', v, h, hr => by
    have hout : ∀ c, ¬ Own σ K c → ¬ Own σ Heap.empty c := fun c hc ho => by
      rcases ho with ho | ⟨b, x, pl, h1, _, _⟩
      · exact hc (.inl ho)
      · rw [empty_get] at h1; cases h1
    cases a with
    | sl b i n =>
      simp only [frz] at h
      obtain ⟨pl, ad, cap, rfl, hs, hn, hm, ha⟩ := hr.sl_inv
      split at h
      · rename_i h0; cases h; rw [h0]; exact .lst0 _ _ hm
      · rename_i h0
        split at h
        · rename_i x hx
          split at h
          · rename_i hc
            cases hf : frzRows (frz K d) ((x.rows.drop i).take n) with
            | none => rw [hf] at h; cases h
            | some m =>
              rw [hf] at h
              cases h
              obtain ⟨rfl, cs, ty, hcs, hroom⟩ := ha (by omega)
              obtain ⟨pl', cs', e', g1, g2⟩ := hW.live b x hx
              rw [hs] at g1
              cases g1
              obtain ⟨f1, f2⟩ := frzRows_get hf
              have hlen : m.length = n := by rw [← f1]; simp; omega
              have get : ∀ (q : Nat) (r : List AV), ((x.rows.drop i).take n)[q]? = some r → q < n ∧ x.rows[i + q]? = some r := fun q r hq => by
                have hq' := lt_of_some hq
                rw [← f1] at hlen
                rw [hlen] at hq'
                rw [List.getElem?_take_of_lt hq', List.getElem?_drop] at hq
                exact ⟨hq', hq⟩
              have hnot : ¬ Own σ Heap.empty pl.block := fun ho => by
                rcases ho with ho | ⟨b', x', pl'', h1, _, _⟩
                · exact (hW.apart _ ho).2 ⟨b, x, pl, hx, hs, rfl⟩
                · rw [empty_get] at h1; cases h1
              have := Rep.lst (w := w) (σ := σ) (T := Own σ Heap.empty) m pl.block (pl.base + i * pl.size) pl.size cap
                ⟨hnot, fun q r' hr' => by
                  obtain ⟨r, k1, k2, _⟩ := f2 q r' hr'
                  rw [← k2, g2.even _ r (get q r k1).2, g2.size], fun q j hq hj => by
                  obtain ⟨r, k1, k2, _⟩ := f2 q m[q] (List.getElem?_eq_getElem hq)
                  have hrow := g2.row (get q r k1).2
                  have hj' : j < r.length := by rw [g2.even _ r (get q r k1).2, ← g2.size]; exact hj
                  obtain ⟨u, hu, _⟩ := hrow j _ (List.getElem?_eq_getElem hj')
                  rw [Nat.add_mul, ← Nat.add_assoc] at hu
                  exact ⟨u, hu⟩, by rw [g2.size]; exact hc.1, by omega⟩ (by omega) hm
                (fun q r' j y u hr' hy hu => by
                  obtain ⟨r, k1, k2, k3⟩ := f2 q r' hr'
                  obtain ⟨z, k4, k5⟩ := k3 j y hy
                  obtain ⟨u', hu', hz⟩ := g2.row (get q r k1).2 j z k4
                  rw [Nat.add_mul, ← Nat.add_assoc] at hu'
                  rw [hu] at hu'
                  cases hu'
                  exact frz_rep hW d z y u k5 hz)
              rw [hlen] at this
              exact this
          · cases h
        · cases h
    | nils => simp only [frz] at h; cases h; cases hr; exact .lst0 _ _ (by unfold maxLen; omega)
    | lst rows =>
      simp only [frz] at h
      cases hf : frzRows (frz K d) rows with
      | none => rw [hf] at h; cases h
      | some m =>
        rw [hf] at h
        cases h
        obtain ⟨f1, f2⟩ := frzRows_get hf
        cases hr with
        | lst0 a cap hm =>
          have : m = [] := by cases m with
            | nil => rfl
            | cons x m => simp at f1
          subst this
          exact .lst0 a cap hm
        | lst _ b o sz cap hl hn hm hc =>
          have := Rep.lst (w := w) (σ := σ) (T := Own σ Heap.empty) m b o sz cap
            ⟨hout b hl.out, fun q r' hr' => by
              obtain ⟨r, k1, k2, _⟩ := f2 q r' hr'
              rw [← k2, hl.even q r k1], fun q j hq hj => hl.cell q j (by omega) hj, hl.pos, by rw [← f1]; exact hl.ne⟩ (by omega) hm
            (fun q r' j y u hr' hy hu => by
              obtain ⟨r, k1, k2, k3⟩ := f2 q r' hr'
              obtain ⟨z, k4, k5⟩ := k3 j y hy
              exact frz_rep hW d z y u k5 (hc q r j z u k1 k4 hu))
          rw [← f1] at this
          exact this
    | agg cs =>
      simp only [frz] at h
      cases hf : allSome (cs.map (frz K d)) with
      | none => rw [hf] at h; cases h
      | some m =>
        rw [hf] at h
        cases h
        obtain ⟨f1, f2⟩ := allSome_get hf
        cases hr with
        | agg _ vs hl hc =>
          refine .agg m vs (by omega) fun q y u hy hu => ?_
          obtain ⟨x, k1, k2⟩ := f2 q y hy
          exact frz_rep hW d x y u k2 (hc q x u k1 hu)
    | tup cs =>
      simp only [frz] at h
      cases hf : allSome (cs.map (frz K d)) with
      | none => rw [hf] at h; cases h
      | some m =>
        rw [hf] at h
        cases h
        obtain ⟨f1, f2⟩ := allSome_get hf
        cases hr with
        | tup _ vs hl hc =>
          refine .tup m vs (by omega) fun q y u hy hu => ?_
          obtain ⟨x, k1, k2⟩ := f2 q y hy
          exact frz_rep hW d x y u k2 (hc q x u k1 hu)
    | int k n => simp only [frz] at h; cases h; cases hr; exact .int k n
    | bool b => simp only [frz] at h; cases h; cases hr; exact .bool b
    | str s => simp only [frz] at h; cases h; cases hr; exact .str _
    | nilp => simp only [frz] at h; cases h; cases hr; exact .nilp
    | emp => simp only [frz] at h; cases h; cases hr; exact .emp _
    | nilf => simp only [frz] at h; cases h; cases hr; exact .nilf
    | junk => simp only [frz] at h; cases h; exact .junk v
    | ptr b i off => simp [frz] at h
    | pptr rows i off => simp [frz] at h
    | fn f cs => simp [frz] at h
/-- a function whose result is read as it stands at the end, from its body -/
theorem call_f {P : Program} {g : FuncId} {fn : Func} {c : Code} {args : List AV} {v : AV} (hf : P.funcs[g]? = some fn) (hb : fn.body = some c)
    (h : AWp P c (fun e τ' K => (e = .normal ∨ e = .ret) ∧ ∃ d v1, resultsA P τ' K fn.results.toList = some v1 ∧ frz K d v1 = some v) (args ++ List.replicate (fn.ntmps - args.length) undefA) Heap.empty) : CallV P g args v := by
  intro w σ vs hW hvs
  refine calls_of_wp hf hb (h w σ _ hW ⟨⟨by simp [hvs.1], fun i x u h1 h2 => ?_⟩, rfl⟩ _ fun e τ' K a' w' hq hn haf => ?_)
  · simp only [Array.toList_append, Array.toList_replicate] at h2
    rcases Nat.lt_or_ge i args.length with hi | hi
    · rw [List.getElem?_append_left hi] at h1
      rw [List.getElem?_append_left (by rw [← hvs.1]; exact hi)] at h2
      exact hvs.2 i x u h1 h2
    · rw [List.getElem?_append_right hi, List.getElem?_replicate] at h1
      rw [List.getElem?_append_right (by rw [← hvs.1]; exact hi), List.getElem?_replicate] at h2
      split at h1
      · split at h2
        · cases h1; cases h2; exact undef_rep
        · cases h2
      · cases h1
  · obtain ⟨he, d, v1, hr, hz⟩ := hq
    obtain ⟨σ', t1, r1, e1, m1⟩ := haf
    obtain ⟨v', g1, g2⟩ := results_sound (P := P) r1 t1 hr
    have hsub : ∀ b x, Heap.empty.get b = some x → K.get b = some x := fun b x hb => by rw [empty_get] at hb; cases hb
    have hpost : a'.defers = [] ∧ ∃ v, (results fn a'.tmps).run P w' = .ok v w' ∧ ∃ v' σ' H', Ending.returned v = .returned v' ∧ Rep w' σ' (Own σ' H') _ v' ∧ Ext w σ (Own σ Heap.empty) w' σ' (Own σ' H') :=
      ⟨t1.2, v', g1, v', σ', Heap.empty, rfl, frz_rep r1 d v1 _ v' hz g2, e1.trans (Ext.sub hsub)⟩
    rcases he with rfl | rfl
    · exact hpost
    · exact hpost
end Go.Proofs.Ytdaejmkoenhbkaa.Am
