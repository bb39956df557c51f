/- AM, part 23: a region whose order is drawn: one operation keeps what holds. -/
import Derived.Test.YtdaejmkoenhbkaaDru
namespace Go.Proofs.Ytdaejmkoenhbkaa.Am
set_option linter.unusedVariables false
section
variable {P : Program} {F : TypeId → Option (List TypeId)} {call : FuncId → List AV → Heap → Option (AV × Heap)} {ops : Array Oper} {base : Nat} {τ0 : List AV} {H0 : Heap}
theorem nget_ge (rf : RunFacts P F call ops base τ0 H0) (L : Nat → Bool) : H0.next ≤ nget P F call ops base τ0 H0 L := by
  unfold nget
  split
  · rename_i j hj; exact rf.le (j + 1) (lastW_lt hj)
  · exact Nat.le_refl _
theorem hget_skip {L : Nat → Bool} {i c : Nat} (h : touchB (itR P F call ops base τ0 H0 i) c = false) : hget P F call ops base τ0 H0 (addL L i) c = hget P F call ops base τ0 H0 L c := by
  have hl : lastW (fun j => addL L i j && touchB (itR P F call ops base τ0 H0 j) c) ops.size = lastW (fun j => L j && touchB (itR P F call ops base τ0 H0 j) c) ops.size := lastW_skip (p := fun j => touchB (itR P F call ops base τ0 H0 j) c) h
  unfold hget
  rw [hl]
theorem hget_add {L : Nat → Bool} {i c : Nat} (nx : Next ops L i) (h : touchB (itR P F call ops base τ0 H0 i) c = true) (hl : ∀ j, j < ops.size → j ≠ i → touched (itR P F call ops base τ0 H0 j) c → i < j → ((masks ops.toList []).getD j 0).testBit i = true) : hget P F call ops base τ0 H0 (addL L i) c = (itS P F call ops base τ0 H0 (i + 1)).2.get c := by
  have hw : lastW (fun j => addL L i j && touchB (itR P F call ops base τ0 H0 j) c) ops.size = some i := lastW_add (p := fun j => touchB (itR P F call ops base τ0 H0 j) c) nx.lt nx.not h fun j hj hne ht hlt => nx.behind hj (hl j hj hne (touchB_iff.1 ht) hlt)
  unfold hget
  rw [hw]
theorem inv_step (fit : Fit P F) (hs : Sound P call) (hch : ∀ f args H v H', Bd H → call f args H = some (v, H') → Chg H H') (run : RunOk P F call ops base τ0 H0) (rf : RunFacts P F call ops base τ0 H0) (hst : StatOk ops) (hb : base + ops.size = H0.next)
    {w0 : World} {σ0 : Sig} {L : Nat → Bool} {i : Nat} {a : Act} {w : World} (nx : Next ops L i) (h : Inv P F call ops base τ0 H0 w0 σ0 L a w) {Q : Exit → Act → World → Prop} : wpOp P ops Q i (Inv P F call ops base τ0 H0 w0 σ0 (addL L i)) a w := by
  obtain ⟨σ, K, hW, hK, hn, hsz, hdf, hrep, hE0, hnm, hfr⟩ := h
  have hi := nx.lt
  obtain ⟨o, ho⟩ : ∃ o, ops[i]? = some o := ⟨_, Array.getElem?_eq_getElem hi⟩
  obtain ⟨hu, hwt⟩ := same_ops run rf hst nx ho
  have htm := tl_ok rf hsz hdf hrep
  have hbi : σ (base + i) = none := hfr i hi nx.not
  have hKb : K.get (base + i) = none := by
    cases hg : K.get (base + i) with
    | none => rfl
    | some x => obtain ⟨pl, _, _, h1, _⟩ := hW.live _ x hg; rw [hbi] at h1; cases h1
  have hSb : (itS P F call ops base τ0 H0 i).2.get (base + i) = none := rf.fresh i i (Nat.le_refl _) hi
  have hlt : base + i < K.next := by have := nget_ge rf L; rw [hn]; omega
  have hfresh : ∀ {σ' : Sig}, (∀ c pl, σ' c = some pl → σ c = some pl ∨ c = base + i ∨ K.next ≤ c) → ∀ j, j < ops.size → addL L i j = false → σ' (base + j) = none := fun {σ'} hσ j hj hLj => by
    have hji : j ≠ i := by rintro rfl; simp [addL] at hLj
    have hL : L j = false := by simpa [addL, hji] using hLj
    cases hg : σ' (base + j) with
    | none => rfl
    | some pl =>
      have hge := nget_ge rf L
      rcases hσ _ pl hg with h1 | h1 | h1
      · rw [hfr j hj hL] at h1; cases h1
      · omega
      · omega
  have hstep := run.step i hi
  unfold drawStep at hstep
  rw [ho] at hstep
  simp only [] at hstep
  unfold wpOp
  rw [ho]
  simp only []
  split at hstep
  · rename_i hwant
    rw [← hwt] at hwant
    rw [if_pos (wanted_sound htm hwant)]
    left
    unfold Oper.wp
    split at hstep
    · rename_i v H' hop
      simp only [Option.some.injEq, Prod.mk.injEq] at hstep
      obtain ⟨e1, e2, e3⟩ := hstep
      obtain ⟨q1, q2, q3⟩ := aop_rho (P := P) (F := F) hu (base + i) (itS P F call ops base τ0 H0 i).2
      have hop2 : aop P F o.op (aev (tl P F call ops base τ0 H0 L)) (base + i) (itS P F call ops base τ0 H0 i).2 = some (.val v H') := by rw [← q1]; exact hop
      have hreads : ∀ c, c ∈ readsA o.op (aev (tl P F call ops base τ0 H0 L)) → ∃ x, (itS P F call ops base τ0 H0 i).2.get c = some x ∧ ∀ j, j < ops.size → j ≠ i → touched (itR P F call ops base τ0 H0 j) c → (j < i → ((masks ops.toList []).getD i 0).testBit j = true) ∧ (i < j → ((masks ops.toList []).getD j 0).testBit i = true) := fun c hc => by
        obtain ⟨x, hx⟩ := reads_alive hop2 hc
        exact ⟨x, hx, ord_read run rf hi e3.symm (by show c ∈ readsA o.op (aev (itS P F call ops base τ0 H0 i).1); rw [q2]; exact hc) hx⟩
      have hr : ∀ c ∈ readsA o.op (aev (tl P F call ops base τ0 H0 L)), K.get c = (itS P F call ops base τ0 H0 i).2.get c := fun c hc => by
        obtain ⟨x, _, h1⟩ := hreads c hc
        rw [hK]
        exact agree_h run rf nx h1
      obtain ⟨K', l1, l2, l3⟩ := aop_local hop2 K hr (by rw [hKb, hSb])
      obtain ⟨v', w', σ', h1, h2, h3, h4, h5⟩ := aop_sound fit hW hbi hlt (o := o) htm.eval l1
      have htouch : ∀ c, touchB (itR P F call ops base τ0 H0 i) c = true ↔ (c ∈ writesA o.op (aev (tl P F call ops base τ0 H0 L)) ∨ c = base + i) := fun c => by
        rw [← e3, ← q3]
        simp [touchB]
      have hinv : Inv P F call ops base τ0 H0 w0 σ0 (addL L i) (a.put o.dst v') w' := by
        obtain ⟨t1, t2⟩ := inv_tmps run rf hst nx ho e1.symm h2 hsz hrep (fun x u hxu => hxu.mono h4)
        refine ⟨σ', K', h3, fun c => ?_, ?_, t1, by cases o.dst <;> exact hdf, t2, hE0.trans h4, fun c pl hc => ?_, hfresh (fun c pl hc => ?_)⟩
        · rw [l3]
          cases ht : touchB (itR P F call ops base τ0 H0 i) c with
          | true =>
            have hc := (htouch c).1 ht
            rw [if_pos hc, hget_add nx ht, ← e2]
            · rfl
            · intro j hj hne hjt hlt'
              rcases hc with hc | hc
              · obtain ⟨x, _, h6⟩ := hreads c (writes_reads hc)
                exact (h6 j hj hne hjt).2 hlt'
              · obtain ⟨y, hy, hyt⟩ := hjt
                rcases run.free j i _ y hlt' hj e3.symm hy with h6 | h6
                · exact h6
                · exfalso
                  have fr := meets_free h6
                  rcases hyt with t | t | ⟨t3, t4, _⟩
                  · exact fr.mw c (by simp [hc]) t
                  · have := ((rf.chg j hj).made y hy).1 c t; omega
                  · have := ((rf.chg j hj).made y hy).2 t3
                    have := rf.le j (by omega)
                    omega
          | false =>
            rw [if_neg (fun hc => by rw [(htouch c).2 hc] at ht; cases ht), hget_skip ht, hK]
        · rw [l2, hn]
          have : callB (itR P F call ops base τ0 H0 i) = false := by rw [← e3]; rfl
          have hl : lastW (fun j => addL L i j && callB (itR P F call ops base τ0 H0 j)) ops.size = lastW (fun j => L j && callB (itR P F call ops base τ0 H0 j)) ops.size := lastW_skip (p := fun j => callB (itR P F call ops base τ0 H0 j)) this
          unfold nget
          rw [hl]
        · rcases h5 c pl hc with h6 | h6
          · exact hnm c pl h6
          · exact .inr (by omega)
        · rcases h5 c pl hc with h6 | h6
          · exact .inl h6
          · exact .inr (.inl h6)
      rcases h1 with h1 | ⟨h1, rfl⟩
      · rw [h1]; exact hinv
      · rw [h1]; exact hinv
    · rename_i f args hop
      split at hstep
      · rename_i v H1 hcall
        simp only [Option.some.injEq, Prod.mk.injEq] at hstep
        obtain ⟨e1, e2, e3⟩ := hstep
        obtain ⟨q1, q2, q3⟩ := aop_rho (P := P) (F := F) hu (base + i) (itS P F call ops base τ0 H0 i).2
        have hop2 : aop P F o.op (aev (tl P F call ops base τ0 H0 L)) (base + i) (itS P F call ops base τ0 H0 i).2 = some (.call f args) := by rw [← q1]; exact hop
        have hopK := aop_local_call hop2 K
        obtain ⟨fn, cd, hf, hbd⟩ := hs.body _ _ _ _ _ hcall
        obtain ⟨vs, g1, g2⟩ := aop_call fit (o := o) (b := base + i) htm.eval hopK hf hbd
        have hHg := hide_get base ((masks ops.toList []).getD i 0) i (itS P F call ops base τ0 H0 i).2
        have hHn := (hide_next base ((masks ops.toList []).getD i 0) i (itS P F call ops base τ0 H0 i).2).1
        generalize hHc : hideA base ((masks ops.toList []).getD i 0) i (itS P F call ops base τ0 H0 i).2 = Hh at hcall e3 hHg hHn
        have hbdc : Bd ({ Hh with log := [] } : Heap) := fun d hd => by
          show Hh.get d = none
          rw [hHg]
          split
          · rfl
          · exact rf.bd i (by omega) d (by rw [← hHn]; exact hd)
        have hcg : Chg ({ Hh with log := [] } : Heap) H1 := hch _ _ _ _ _ hbdc hcall
        generalize hHc2 : ({ Hh with log := [] } : Heap) = Hc at hcall hcg hbdc
        have hHg : ∀ c, Hc.get c = if (∃ j, j < i ∧ ((masks ops.toList []).getD i 0).testBit j = false ∧ c = base + j) then none else (itS P F call ops base τ0 H0 i).2.get c := fun c => by rw [← hHc2]; exact hHg c
        have hHn : Hc.next = (itS P F call ops base τ0 H0 i).2.next := by rw [← hHc2]; exact hHn
        have hHh : ∀ c, Hh.get c = Hc.get c := fun c => by rw [← hHc2]; rfl
        have htouch : ∀ c, touchB (itR P F call ops base τ0 H0 i) c = true ↔ ((c ∈ H1.log ∧ (Hc.get c).isSome = true) ∨ ((itS P F call ops base τ0 H0 i).2.next ≤ c ∧ c < H1.next)) := fun c => by
          rw [← e3]
          simp [touchB, hHh]
        have hKn : K.next = (itS P F call ops base τ0 H0 i).2.next := by
          rw [hn, text_n run i (by omega), nget, lastW_agree (p := fun j => callB (itR P F call ops base τ0 H0 j)) hi nx.not]
          intro j hj hne hcj
          cases hx : itR P F call ops base τ0 H0 j with
          | none => rw [hx] at hcj; cases hcj
          | some x =>
            rw [hx] at hcj
            refine ⟨fun hl => ?_, fun hl => ?_⟩
            · rcases run.free i j x _ hl hi hx e3.symm with h6 | h6
              · exact nx.before h6
              · have := (meets_free h6).cc hcj; cases this
            · rcases run.free j i _ x hl hj e3.symm hx with h6 | h6
              · exact nx.behind hj h6
              · have := (meets_free h6).cc rfl
                have h7 : x.isCall = true := hcj
                rw [h7] at this; cases this
        have hsub : ∀ c x, Hc.get c = some x → K.get c = some x := fun c x hx => by
          rw [hHg] at hx
          split at hx
          · cases hx
          · rename_i hnh
            rw [hK, agree_h run rf nx ?_]
            · exact hx
            · intro j hj hne ht
              obtain ⟨y, hy, hyt⟩ := ht
              refine ⟨fun hl => ?_, fun hl => ?_⟩
              · cases hbit : ((masks ops.toList []).getD i 0).testBit j with
                | true => rfl
                | false =>
                  exfalso
                  rcases run.free i j y _ hl hi hy e3.symm with h6 | h6
                  · rw [hbit] at h6; cases h6
                  · have fr := meets_free h6
                    rcases hyt with t | t | ⟨t3, _, _⟩
                    · exact fr.wc rfl c t
                    · exact hnh ⟨j, hl, hbit, ((rf.chg j hj).made y hy).1 c t⟩
                    · have := fr.cc t3; cases this
              · rcases later run rf hl hj e3.symm hy ⟨y, hy, hyt⟩ hx with h6 | ⟨fr, h6 | ⟨_, h6⟩⟩
                · exact h6
                · exact absurd h6 (fr.cw rfl c)
                · exact h6.elim
        have hnK : Hc.next = K.next := by rw [hHn, hKn]
        have hWc := hW.part hsub (by rw [hnK]; exact Nat.le_refl _)
        rw [g1]
        refine (hs.ok _ _ _ _ _ hcall w (σ.part K Hc) vs hWc ⟨g2.1, fun q x u hx hu => by rw [own_part hsub]; exact Rep.sig (σ := σ) (σ' := σ.part K Hc) rfl (g2.2 q x u hx hu)⟩).mono ?_
        rintro e w' ⟨v', σ', rfl, k1, k2, k3, k4⟩
        have hK1 := hcg.next
        obtain ⟨K', hK'n, hK'g⟩ : ∃ K' : Heap, K'.next = H1.next ∧ ∀ c, K'.get c = if touchB (itR P F call ops base τ0 H0 i) c = true then H1.get c else K.get c := by
          refine ⟨{ overA H1 (H1.log.filter (fun c => (Hc.get c).isSome) ++ List.range' K.next (H1.next - K.next)) K with next := H1.next }, rfl, fun c => ?_⟩
          show (overA H1 _ K).get c = _
          rw [over_get]
          have : c ∈ (H1.log.filter (fun c => (Hc.get c).isSome) ++ List.range' K.next (H1.next - K.next)) ↔ touchB (itR P F call ops base τ0 H0 i) c = true := by
            rw [htouch, List.mem_append, List.mem_filter, List.mem_range'_1, hKn]
            constructor
            · rintro (h6 | h6)
              · exact .inl h6
              · exact .inr (by omega)
            · rintro (h6 | h6)
              · exact .inl h6
              · exact .inr (by omega)
          by_cases ht : touchB (itR P F call ops base τ0 H0 i) c = true
          · rw [if_pos (this.2 ht), if_pos ht]
          · rw [if_neg (fun h6 => ht (this.1 h6)), if_neg ht]
        have hbd1 : Bd H1 := hcg.bd hbdc
        have hform : ∀ c, K'.get c = if Hc.get c = none ∧ c < K.next then K.get c else H1.get c := fun c => by
          rw [hK'g]
          by_cases ht : touchB (itR P F call ops base τ0 H0 i) c = true
          · rw [if_pos ht, if_neg]
            rintro ⟨h6, h7⟩
            rcases (htouch c).1 ht with ⟨_, h8⟩ | ⟨h8, _⟩
            · rw [h6] at h8; cases h8
            · omega
          · rw [if_neg ht]
            split
            · rfl
            · rename_i hnn
              cases hg : Hc.get c with
              | some x =>
                have hcl : c ∉ H1.log := fun h6 => ht ((htouch c).2 (.inl ⟨h6, by rw [hg]; rfl⟩))
                have hcn : c < Hc.next := by
                  rcases Nat.lt_or_ge c Hc.next with h6 | h6
                  · exact h6
                  · rw [hbdc c h6] at hg; cases hg
                rw [hcg.keep c hcn hcl, hg]
                exact hsub c x hg
              | none =>
                have hcn : K.next ≤ c := by
                  rcases Nat.lt_or_ge c K.next with h6 | h6
                  · exact absurd ⟨hg, h6⟩ hnn
                  · exact h6
                have hc1 : H1.next ≤ c := by
                  rcases Nat.lt_or_ge c H1.next with h6 | h6
                  · exact absurd ((htouch c).2 (.inr ⟨by rw [← hKn]; exact hcn, h6⟩)) ht
                  · exact h6
                rw [hbd1 c hc1]
                cases hg2 : K.get c with
                | none => rfl
                | some x =>
                  obtain ⟨pl, _, _, h6, _⟩ := hW.live c x hg2
                  have := hW.named c pl h6
                  omega
        obtain ⟨z1, z2, z3⟩ := hW.whole hsub hnK k2 k3 hcg.dom hform (by rw [hK'n]; exact Nat.le_refl _)
        obtain ⟨t1, t2⟩ := inv_tmps run rf hst nx ho (v := v) (v' := v') (w' := w') (σ' := ⟨σ'.map, σ.fr⟩) (T' := Own ⟨σ'.map, σ.fr⟩ K') e1.symm (by rw [z3]; exact Rep.sig (σ := σ') (σ' := ⟨σ'.map, σ.fr⟩) rfl k1) hsz hrep (fun x u hxu => hxu.mono z2)
        refine (⟨⟨σ'.map, σ.fr⟩, K', z1, fun c => ?_, ?_, t1, by cases o.dst <;> exact hdf, t2, hE0.trans z2, fun c pl hc => ?_, hfresh (fun c pl hc => ?_)⟩ : Inv P F call ops base τ0 H0 w0 σ0 (addL L i) (a.put o.dst v') w')
        · rw [hK'g]
          cases ht : touchB (itR P F call ops base τ0 H0 i) c with
          | true =>
            have hnhid : ¬ ∃ j, j < i ∧ ((masks ops.toList []).getD i 0).testBit j = false ∧ c = base + j := by
              intro hh
              rcases (htouch c).1 ht with ⟨_, h8⟩ | ⟨h8, _⟩
              · rw [hHg, if_pos hh] at h8; cases h8
              · obtain ⟨j, hj, _, rfl⟩ := hh
                have := rf.le i (by omega)
                omega
            rw [if_pos rfl, hget_add nx ht, ← e2]
            · show H1.get c = (showA _ _ _ _ _).get c
              rw [show_get, if_neg hnhid]
            · intro j hj hne hjt hl
              obtain ⟨y, hy, hyt⟩ := hjt
              rcases run.free j i _ y hl hj e3.symm hy with h6 | h6
              · exact h6
              · exfalso
                have fr := meets_free h6
                rcases hyt with t | t | ⟨t3, _, _⟩
                · exact fr.cw rfl c t
                · have hcj := ((rf.chg j hj).made y hy).1 c t
                  rcases (htouch c).1 ht with ⟨_, h8⟩ | ⟨h8, _⟩
                  · rw [hHg, if_neg hnhid, hcj, rf.fresh i j (by omega) hj] at h8; cases h8
                  · have := rf.le i (by omega)
                    omega
                · have h7 := fr.cc rfl
                  rw [t3] at h7; cases h7
          | false => rw [if_neg (by simp), hget_skip ht, hK]
        · rw [hK'n]
          have hcb : callB (itR P F call ops base τ0 H0 i) = true := by rw [← e3]; rfl
          have hl : lastW (fun j => addL L i j && callB (itR P F call ops base τ0 H0 j)) ops.size = some i := lastW_add (p := fun j => callB (itR P F call ops base τ0 H0 j)) hi nx.not hcb (fun j hj hne hcj hl => by
            cases hx : itR P F call ops base τ0 H0 j with
            | none => rw [hx] at hcj; cases hcj
            | some x =>
              rw [hx] at hcj
              rcases run.free j i _ x hl hj e3.symm hx with h6 | h6
              · exact nx.behind hj h6
              · have := (meets_free h6).cc rfl
                have h7 : x.isCall = true := hcj
                rw [h7] at this; cases this)
          unfold nget
          rw [hl]
          simp only []
          rw [← e2]
          exact (show_next _ _ _ _ _).1.symm
        · rcases k4 c pl hc with h6 | h6
          · exact hnm c pl h6
          · exact .inr (by have := rf.le i (by omega); omega)
        · rcases k4 c pl hc with h6 | h6
          · exact .inl h6
          · exact .inr (.inr (by omega))
      · cases hstep
    · cases hstep
  · rename_i hwant
    rw [← hwt] at hwant
    rw [if_neg (by rw [wanted_sound htm hwant]; simp)]
    simp only [Option.some.injEq, Prod.mk.injEq] at hstep
    obtain ⟨e1, e2, e3⟩ := hstep
    obtain ⟨t1, t2⟩ := inv_tmps run rf hst nx ho e1.symm undef_rep hsz hrep (fun x u hxu => hxu)
    have ht : ∀ c, touchB (itR P F call ops base τ0 H0 i) c = false := fun c => by rw [← e3]; rfl
    refine ⟨σ, K, hW, fun c => by rw [hget_skip (ht c), hK], ?_, t1, by cases o.dst <;> exact hdf, t2, hE0, hnm, hfresh (fun c pl hc => .inl hc)⟩
    rw [hn]
    have : callB (itR P F call ops base τ0 H0 i) = false := by rw [← e3]; rfl
    have hl : lastW (fun j => addL L i j && callB (itR P F call ops base τ0 H0 j)) ops.size = lastW (fun j => L j && callB (itR P F call ops base τ0 H0 j)) ops.size := lastW_skip (p := fun j => callB (itR P F call ops base τ0 H0 j)) this
    unfold nget
    rw [hl]
  · cases hstep
end
end Go.Proofs.Ytdaejmkoenhbkaa.Am
