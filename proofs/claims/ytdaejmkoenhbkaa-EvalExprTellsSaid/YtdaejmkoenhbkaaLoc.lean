/- AM, part 16: an operation depends on its operands and on the blocks that it reads alone. -/
import Derived.Test.YtdaejmkoenhbkaaChg
namespace Go.Proofs.Ytdaejmkoenhbkaa.Am
set_option linter.unusedVariables false
def usesA : Op → List Operand
  | .move x | .assign x | .box _ x | .load _ x | .nilCheck x | .unOp _ _ x | .convert _ _ x | .fieldAddr _ x _ | .field _ x _ | .extract x _ => [x]
  | .pick c a b => [c, a, b]
  | .build _ ps | .buildSlice _ _ ps => ps.toList.map (·.2)
  | .store _ a v | .binOp _ _ a v _ | .makeSlice _ a v | .indexAddr _ a v | .index _ a v => [a, v]
  | .makeFunc _ _ c => c.toList
  | .slice _ x l h m => x :: (l.toList ++ h.toList ++ m.toList)
  | .call c => (match c.callee with | .value f => [f] | _ => []) ++ c.args.toList
  | _ => []
section
variable {P : Program} {F : TypeId → Option (List TypeId)}
theorem map_rho {ρ ρ2 : Operand → AV} {l : List Operand} (h : ∀ x ∈ l, ρ x = ρ2 x) : l.map ρ = l.map ρ2 := List.map_congr_left h
theorem parts_rho {ρ ρ2 : Operand → AV} {ps : List (Nat × Operand)} (h : ∀ x ∈ ps.map (·.2), ρ x = ρ2 x) : (ps.map fun p => (p.1, ρ p.2)) = ps.map fun p => (p.1, ρ2 p.2) :=
  List.map_congr_left fun p hp => by rw [h p.2 (List.mem_map.2 ⟨p, hp, rfl⟩)]
theorem flat_rho {ρ ρ2 : Operand → AV} : ∀ {l : List Operand}, (∀ x ∈ l, ρ x = ρ2 x) → (l.flatMap fun x => blocksOf (ρ x)) = l.flatMap fun x => blocksOf (ρ2 x)
  | [], _ => rfl
  | a :: l, h => by simp only [List.flatMap_cons]; rw [h a (by simp), flat_rho fun x hx => h x (by simp [hx])]
theorem aop_rho {o : Op} {ρ ρ2 : Operand → AV} (h : ∀ x ∈ usesA o, ρ x = ρ2 x) (b : Nat) (H : Heap) : aop P F o ρ b H = aop P F o ρ2 b H ∧ readsA o ρ = readsA o ρ2 ∧ writesA o ρ = writesA o ρ2 := by
  cases o with
  | build t ps => refine ⟨?_, rfl, rfl⟩; simp only [aop]; rw [parts_rho h]
  | buildSlice t n ps => refine ⟨?_, rfl, rfl⟩; simp only [aop]; rw [parts_rho h]
  | makeFunc fn first c =>
    refine ⟨?_, rfl, rfl⟩
    cases fn <;> simp only [aop]
    rw [map_rho (l := c.toList) h]
  | slice t x l hi m =>
    have hx := h x (by simp [usesA])
    have hl : l.map ρ = l.map ρ2 := by cases l with
      | none => rfl
      | some y => simp [h y (by simp [usesA])]
    have hh : hi.map ρ = hi.map ρ2 := by cases hi with
      | none => rfl
      | some y => simp [h y (by simp [usesA])]
    have hm : m.map ρ = m.map ρ2 := by cases m with
      | none => rfl
      | some y => simp [h y (by simp [usesA])]
    exact ⟨by simp only [aop]; rw [hx, hl, hh, hm], by simp only [readsA]; rw [hx], rfl⟩
  | call c =>
    have ha : c.args.toList.map ρ = c.args.toList.map ρ2 := map_rho fun x hx => h x (by simp only [usesA, List.mem_append]; exact .inr hx)
    have hm : ∀ x ∈ c.args.toList, ρ x = ρ2 x := fun x hx => h x (by simp only [usesA, List.mem_append]; exact .inr hx)
    have hr : readsA (.call c) ρ = readsA (.call c) ρ2 := by
      simp only [readsA]
      split
      · exact flat_rho hm
      · exact flat_rho hm
      · rfl
    have hk : writesA (.call c) ρ = writesA (.call c) ρ2 := by
      simp only [writesA]
      split
      · exact flat_rho fun x hx => hm x (List.mem_of_mem_take hx)
      · exact flat_rho hm
      · rfl
    refine ⟨?_, hr, hk⟩
    simp only [aop]
    split
    · rw [ha]
    · rename_i f hf
      rw [h f (by simp only [usesA, hf]; simp), ha]
    · rfl
  | store t a v => refine ⟨by simp only [aop]; rw [h a (by simp [usesA]), h v (by simp [usesA])], by simp only [readsA]; rw [h a (by simp [usesA])], by simp only [writesA]; rw [h a (by simp [usesA])]⟩
  | load t a => refine ⟨by simp only [aop]; rw [h a (by simp [usesA])], by simp only [readsA]; rw [h a (by simp [usesA])], rfl⟩
  | indexAddr t a v => refine ⟨by simp only [aop]; rw [h a (by simp [usesA]), h v (by simp [usesA])], by simp only [readsA]; rw [h a (by simp [usesA])], rfl⟩
  | pick c x y => refine ⟨by simp only [aop]; rw [h c (by simp [usesA]), h x (by simp [usesA]), h y (by simp [usesA])], rfl, rfl⟩
  | binOp op t x y u => refine ⟨by simp only [aop]; rw [h x (by simp [usesA]), h y (by simp [usesA])], rfl, rfl⟩
  | makeSlice t x y => refine ⟨by simp only [aop]; rw [h x (by simp [usesA]), h y (by simp [usesA])], rfl, rfl⟩
  | index t x y => refine ⟨by simp only [aop]; rw [h x (by simp [usesA]), h y (by simp [usesA])], rfl, rfl⟩
  | move x => refine ⟨by simp only [aop]; rw [h x (by simp [usesA])], rfl, rfl⟩
  | assign x => refine ⟨by simp only [aop]; rw [h x (by simp [usesA])], rfl, rfl⟩
  | box t x => refine ⟨by simp only [aop]; rw [h x (by simp [usesA])], rfl, rfl⟩
  | nilCheck x => refine ⟨by simp only [aop]; rw [h x (by simp [usesA])], rfl, rfl⟩
  | unOp op t x => refine ⟨by simp only [aop]; rw [h x (by simp [usesA])], rfl, rfl⟩
  | convert s d x => refine ⟨by simp only [aop]; rw [h x (by simp [usesA])], rfl, rfl⟩
  | fieldAddr s x f => refine ⟨by simp only [aop]; rw [h x (by simp [usesA])], rfl, rfl⟩
  | field s x f => refine ⟨by simp only [aop]; rw [h x (by simp [usesA])], rfl, rfl⟩
  | extract x i => refine ⟨by simp only [aop]; rw [h x (by simp [usesA])], rfl, rfl⟩
  | _ => exact ⟨rfl, rfl, rfl⟩

/-- the same operation over another heap -/
def Local (P : Program) (F : TypeId → Option (List TypeId)) (o : Op) (ρ : Operand → AV) (b : Nat) (v : AV) (H' K : Heap) : Prop :=
  ∃ K', aop P F o ρ b K = some (.val v K') ∧ K'.next = K.next ∧ ∀ c, K'.get c = if c ∈ writesA o ρ ∨ c = b then H'.get c else K.get c
theorem Local.same {o : Op} {ρ : Operand → AV} {b : Nat} {v : AV} {H K : Heap} (hb : K.get b = H.get b) (hw : writesA o ρ = []) (h : aop P F o ρ b K = some (.val v K)) : Local P F o ρ b v H K := by
  refine ⟨K, h, rfl, fun c => ?_⟩
  rw [hw]
  split
  · rename_i hc
    rcases hc with hc | hc
    · simp at hc
    · rw [hc]; exact hb
  · rfl
theorem Local.new {o : Op} {ρ : Operand → AV} {b : Nat} {v : AV} {H K : Heap} {x : Blk} (hw : writesA o ρ = []) (h : aop P F o ρ b K = some (.val v (K.new b x))) : Local P F o ρ b v (H.new b x) K := by
  refine ⟨_, h, rfl, fun c => ?_⟩
  rw [hw, Heap.get_new, Heap.get_new]
  by_cases hc : b = c
  · rw [if_pos hc, if_pos hc, if_pos (.inr hc.symm)]
  · rw [if_neg hc, if_neg]
    rintro (h1 | h1)
    · simp at h1
    · exact hc h1.symm
theorem rowsOf_local {H K : Heap} {n : Nat} {x : AV} (hr : ∀ c ∈ blocksOf x, K.get c = H.get c) : rowsOf K n x = rowsOf H n x := by
  cases x <;> simp only [rowsOf]
  rw [hr _ (by simp [blocksOf])]
theorem sz_local {H K : Heap} {x : AV} (hr : ∀ c ∈ slOf x, K.get c = H.get c) : szOf K x = szOf H x := by
  cases x <;> simp only [szOf]
  rw [hr _ (by simp [slOf])]
theorem aop_local {o : Op} {ρ : Operand → AV} {b : Nat} {v : AV} {H H' : Heap} (h : aop P F o ρ b H = some (.val v H')) (K : Heap) (hr : ∀ c ∈ readsA o ρ, K.get c = H.get c) (hb : K.get b = H.get b) : Local P F o ρ b v H' K := by
  cases o with
  | load t a =>
    simp only [aop] at h
    obtain ⟨h1, rfl⟩ := vOpt h
    refine .same hb rfl ?_
    have : loadA P K t (ρ a) = loadA P H' t (ρ a) := by
      simp only [readsA] at hr
      generalize ρ a = x at hr
      cases x <;> simp only [loadA]
      rw [hr _ (by simp [blocksOf])]
    simp only [aop, this, h1, Option.map_some]
  | indexAddr t x ix =>
    simp only [aop] at h
    obtain ⟨h1, rfl⟩ := vOpt h
    refine .same hb rfl ?_
    have : indexAddrA P (szOf K (ρ x)) t (ρ x) (ρ ix) = some v := by
      rw [sz_local hr]
      exact h1
    simp only [aop, this, Option.map_some]
  | slice t x lo hi mx =>
    simp only [aop] at h
    split at h
    · cases h
    · rename_i hcnd
      obtain ⟨h1, rfl⟩ := vOpt h
      refine .same hb rfl ?_
      have : sliceA P (szOf K (ρ x)) t (ρ x) (lo.map ρ) (hi.map ρ) (mx.map ρ) = some v := by
        rw [sz_local hr]
        exact h1
      simp only [aop, this, Option.map_some]
      rw [if_neg hcnd]
  | store t a x =>
    simp only [aop] at h
    cases hst : storeA P H t (ρ a) (ρ x) with
    | none => rw [hst] at h; cases h
    | some H1 =>
      rw [hst] at h
      cases h
      simp only [readsA] at hr
      have hst2 := hst
      unfold storeA at hst
      split at hst
      · rename_i c i off cs n ha hcs hn
        rw [ha] at hr
        have hkc := hr c (by simp [blocksOf])
        split at hst
        · rename_i y hy
          split at hst
          · rename_i r hrw
            split at hst
            · rename_i hcond
              cases hst
              refine ⟨K.put c (some { y with rows := y.rows.set i (rowStore r off cs) }), ?_, rfl, fun d => ?_⟩
              · simp only [aop, storeA, ha, hcs, hn, hkc, hy, hrw]
                rw [if_pos hcond]
                rfl
              · have hw : writesA (.store t a x) ρ = [c] := by simp [writesA, ha, blocksOf]
                rw [hw, Heap.get_put, Heap.get_put]
                by_cases hd : c = d
                · rw [if_pos hd, if_pos hd, if_pos (.inl (by simp [hd]))]
                · rw [if_neg hd, if_neg hd]
                  split
                  · rename_i hc
                    rcases hc with hc | hc
                    · simp at hc; exact absurd hc.symm hd
                    · rw [hc]; exact hb
                  · rfl
            · cases hst
          · cases hst
        · cases hst
      · cases hst
  | call c =>
    simp only [aop] at h
    split at h
    · rename_i bi hcal
      cases hbi : builtinA P H b bi c.argTypes (c.args.toList.map ρ) with
      | none => rw [hbi] at h; cases h
      | some r =>
        obtain ⟨v0, H1⟩ := r
        rw [hbi] at h
        cases h
        have fin : ∀ {K' : Heap} {u : AV}, builtinA P K b bi c.argTypes (c.args.toList.map ρ) = some (u, K') → aop P F (.call c) ρ b K = some (.val u K') := fun hk => by
          simp only [aop, hcal, hk, Option.map_some]
        have wnil : bi ≠ .append ∧ bi ≠ .clear → writesA (.call c) ρ = [] := fun hne => by
          simp only [writesA, hcal]
          cases bi <;> first | rfl | exact absurd rfl hne.1 | exact absurd rfl hne.2
        have hbi0 := hbi
        unfold builtinA at hbi
        split at hbi
        · rename_i s heq
          split at hbi
          · rename_i hty
            cases hbi
            exact .same hb (wnil (by simp)) (fin (by rw [heq]; simp only [builtinA, hty]))
          · cases hbi
        · rename_i x hne heq
          have e : H1 = H := by
            split at hbi
            · rw [Option.map_eq_some_iff] at hbi
              obtain ⟨n, _, hn⟩ := hbi
              cases hn
              rfl
            · cases hbi; rfl
            · cases hbi
          subst e
          refine .same hb (wnil (by simp)) (fin ?_)
          rw [heq]
          unfold builtinA
          split
          · rename_i s e1 e2; cases e2; exact absurd rfl (hne s)
          · rename_i x' hne' e1 e2
            cases e2
            split at hbi
            · rw [Option.map_eq_some_iff] at hbi
              obtain ⟨n, hl, hn⟩ := hbi
              cases hn
              simp only [hl, Option.map_some]
            · cases hbi; rfl
            · cases hbi
          · rename_i e1 e2; cases e2
          · rename_i e1 e2; cases e2
          · rename_i e1 e2; cases e2
          · rename_i e1 e2; cases e1
          · rename_i e1 e2 e3 e4 e5 e6; simp_all
        · rename_i s x heq
          obtain ⟨a0, a1, hargs, h0, h1⟩ := map_two heq
          split at hbi
          · rename_i t tx htt
            split at hbi
            · rename_i e' hu'
              have hrs : ∀ c' ∈ blocksOf s, K.get c' = H.get c' := fun c' hc' => hr c' (by simp [readsA, hcal, hargs, h0, hc'])
              have hrx : ∀ c' ∈ blocksOf x, K.get c' = H.get c' := fun c' hc' => hr c' (by simp [readsA, hcal, hargs, h1, hc'])
              have red : ∀ {K' : Heap} {u : AV}, appendA P K b t s x = some (u, K') → builtinA P K b .append c.argTypes (c.args.toList.map ρ) = some (u, K') := fun hk => by
                rw [heq]
                simp only [builtinA, htt, hu', hk]
              unfold appendA at hbi
              split at hbi
              · rename_i e hu
                split at hbi
                · rename_i n by_ z hn hby hz
                  split at hbi
                  · rename_i l m hl hm
                    have hl' : rowsOf K n s = some l := by rw [rowsOf_local hrs]; exact hl
                    have hm' : rowsOf K n x = some m := by rw [rowsOf_local hrx]; exact hm
                    split at hbi
                    · rename_i hcond
                      split at hbi
                      · split at hbi
                        · rename_i hm0
                          cases hbi
                          refine .same hb (by simp [writesA, hcal, hargs, h0, blocksOf]) (fin (red ?_))
                          simp only [appendA, hu, hn, hby, hz, hl', hm']
                          rw [if_pos hcond, if_pos hm0]
                        · rename_i hm0
                          cases hbi
                          refine .new (by simp [writesA, hcal, hargs, h0, blocksOf]) (fin (red ?_))
                          simp only [appendA, hu, hn, hby, hz, hl', hm']
                          rw [if_pos hcond, if_neg hm0]
                      · split at hbi
                        · rename_i hm0
                          cases hbi
                          refine .same hb (by simp [writesA, hcal, hargs, h0, blocksOf]) (fin (red ?_))
                          simp only [appendA, hu, hn, hby, hz, hl', hm']
                          rw [if_pos hcond, if_pos hm0]
                        · rename_i hm0
                          cases hbi
                          refine .new (by simp [writesA, hcal, hargs, h0, blocksOf]) (fin (red ?_))
                          simp only [appendA, hu, hn, hby, hz, hl', hm']
                          rw [if_pos hcond, if_neg hm0]
                      · rename_i b' i k
                        cases hbi
                        have hw : writesA (.call c) ρ = [b'] := by simp [writesA, hcal, hargs, h0, blocksOf]
                        refine ⟨(K.put b' none).new b ⟨n, l ++ m⟩, fin (red ?_), rfl, fun d => ?_⟩
                        · simp only [appendA, hu, hn, hby, hz, hl', hm']
                          rw [if_pos hcond]
                        · rw [hw, Heap.get_new, Heap.get_new, Heap.get_put, Heap.get_put]
                          by_cases hd : b = d
                          · rw [if_pos hd, if_pos hd, if_pos (.inr hd.symm)]
                          · rw [if_neg hd, if_neg hd]
                            by_cases hd' : b' = d
                            · rw [if_pos hd', if_pos hd', if_pos (.inl (by simp [hd']))]
                            · rw [if_neg hd', if_neg hd', if_neg]
                              rintro (h1 | h1)
                              · simp at h1; exact hd' h1.symm
                              · exact hd h1.symm
                      · cases hbi
                    · cases hbi
                  · cases hbi
                · cases hbi
              · cases hbi
            · cases hbi
          · cases hbi
        · rename_i k a k' c' heq
          split at hbi
          · rename_i hk; cases hbi; exact .same hb (wnil (by simp)) (fin (by rw [heq]; simp only [builtinA]; rw [if_pos hk]))
          · cases hbi
        · rename_i k a k' c' heq
          split at hbi
          · rename_i hk; cases hbi; exact .same hb (wnil (by simp)) (fin (by rw [heq]; simp only [builtinA]; rw [if_pos hk]))
          · cases hbi
        · rename_i x heq
          split at hbi
          · rename_i t htt
            cases hcl : clearA P H t x with
            | none => rw [hcl] at hbi; cases hbi
            | some K1 =>
              rw [hcl] at hbi
              cases hbi
              obtain ⟨a0, hargs, h0⟩ := map_one heq
              have red : ∀ {K' : Heap}, clearA P K t x = some K' → builtinA P K b .clear c.argTypes (c.args.toList.map ρ) = some (.tup [], K') := fun hk => by
                rw [heq]
                simp only [builtinA, htt, hk, Option.map_some]
              unfold clearA at hcl
              split at hcl
              · rename_i e hu
                split at hcl
                · rename_i n z hn hz
                  split at hcl
                  · cases hcl
                    exact .same hb (by simp [writesA, hcal, hargs, h0, blocksOf]) (fin (red (by simp only [clearA, hu, hn, hz])))
                  · rename_i d i k
                    split at hcl
                    · rename_i y hy
                      split at hcl
                      · rename_i hcond
                        cases hcl
                        have hkd : K.get d = some y := by rw [hr d (by simp [readsA, hcal, hargs, h0, blocksOf])]; exact hy
                        have hw : writesA (.call c) ρ = [d] := by simp [writesA, hcal, hargs, h0, blocksOf]
                        refine ⟨K.put d (some { y with rows := y.rows.take i ++ List.replicate k z ++ y.rows.drop (i + k) }), fin (red ?_), rfl, fun q => ?_⟩
                        · simp only [clearA, hu, hn, hz, hkd]
                          rw [if_pos hcond]
                        · rw [hw, Heap.get_put, Heap.get_put]
                          by_cases hd : d = q
                          · rw [if_pos hd, if_pos hd, if_pos (.inl (by simp [hd]))]
                          · rw [if_neg hd, if_neg hd]
                            split
                            · rename_i hc
                              rcases hc with hc | hc
                              · simp at hc; exact absurd hc.symm hd
                              · rw [hc]; exact hb
                            · rfl
                      · cases hcl
                    · cases hcl
                  · cases hcl
                · cases hcl
              · cases hcl
          · cases hbi
        · cases hbi
    · split at h <;> cases h
    · cases h
  | alloc t =>
    simp only [aop] at h
    split at h
    · rename_i cs hcs; cases h; exact .new rfl (by simp only [aop, hcs])
    · cases h
  | box t x =>
    simp only [aop] at h
    split at h
    · rename_i cs hcs
      split at h
      · rename_i ho; cases h; exact .new rfl (by simp only [aop, hcs]; rw [if_pos ho])
      · cases h
    · cases h
  | buildSlice t len parts =>
    simp only [aop] at h
    split at h
    · rename_i e hu
      split at h
      · rename_i n z hn hz
        split at h
        · rename_i hc
          cases hf : fillRows n (List.replicate len z) (parts.toList.map fun p => (p.1, ρ p.2)) with
          | none => rw [hf] at h; cases h
          | some rows => rw [hf] at h; cases h; exact .new rfl (by simp only [aop, hu, hn, hz]; rw [if_pos hc, hf]; rfl)
        · cases h
      · cases h
    · cases h
  | makeSlice t l c =>
    simp only [aop] at h
    split at h
    · rename_i e hu
      split at h
      · rename_i n by_ z l' c' hn hby hz hl hc
        split at h
        · rename_i hcond; cases h; exact .new rfl (by simp only [aop, hu, hn, hby, hz, hl, hc]; rw [if_pos hcond])
        · cases h
      · cases h
    · cases h
  | makeFunc fn first cap =>
    cases fn <;> simp only [aop] at h <;> (try (cases h; done))
    split at h
    · rename_i hf; cases h; exact .same hb rfl (by simp only [aop]; rw [if_pos hf])
    · cases h
  | pick c x y =>
    simp only [aop] at h
    split at h
    · rename_i t hc; cases h; exact .same hb rfl (by simp only [aop, hc])
    · cases h
  | nilCheck x =>
    simp only [aop] at h
    split at h <;> (try (cases h; done)) <;> (rename_i heq; cases h; exact .same hb rfl (by simp only [aop, heq]))
  | extract x i =>
    simp only [aop] at h
    split at h
    · rename_i vs hx
      obtain ⟨h1, rfl⟩ := vOpt h
      exact .same hb rfl (by simp only [aop, hx, h1]; rfl)
    · cases h
  | move x => simp only [aop] at h; cases h; exact .same hb rfl (by simp only [aop])
  | assign x => simp only [aop] at h; cases h; exact .same hb rfl (by simp only [aop])
  | build t ps => simp only [aop] at h; obtain ⟨h1, rfl⟩ := vOpt h; exact .same hb rfl (by simp only [aop, h1]; rfl)
  | binOp op t x y u => simp only [aop] at h; obtain ⟨h1, rfl⟩ := vOpt h; exact .same hb rfl (by simp only [aop, h1]; rfl)
  | unOp op t x => simp only [aop] at h; obtain ⟨h1, rfl⟩ := vOpt h; exact .same hb rfl (by simp only [aop, h1]; rfl)
  | convert s d x => simp only [aop] at h; obtain ⟨h1, rfl⟩ := vOpt h; exact .same hb rfl (by simp only [aop, h1]; rfl)
  | fieldAddr s x f => simp only [aop] at h; obtain ⟨h1, rfl⟩ := vOpt h; exact .same hb rfl (by simp only [aop, h1]; rfl)
  | field s x f => simp only [aop] at h; obtain ⟨h1, rfl⟩ := vOpt h; exact .same hb rfl (by simp only [aop, h1]; rfl)
  | index t x y => simp only [aop] at h; obtain ⟨h1, rfl⟩ := vOpt h; exact .same hb rfl (by simp only [aop, h1]; rfl)
  | _ => simp [aop] at h
theorem aop_local_call {o : Op} {ρ : Operand → AV} {b : Nat} {g : FuncId} {args : List AV} {H : Heap} (h : aop P F o ρ b H = some (.call g args)) (K : Heap) : aop P F o ρ b K = some (.call g args) := by
  cases o with
  | call c =>
    simp only [aop] at h ⊢
    split at h
    · rename_i bi _
      cases hbi : builtinA P H b bi c.argTypes (c.args.toList.map ρ) with
      | none => rw [hbi] at h; cases h
      | some r => rw [hbi] at h; cases h
    · rename_i f hf
      exact h
    · cases h
  | makeFunc fn first cap => cases fn <;> simp only [aop] at h <;> (try split at h) <;> simp at h
  | _ =>
    exfalso
    simp only [aop] at h
    repeat' (first | (cases h; done) | (simp at h; done) | split at h)
end
end Go.Proofs.Ytdaejmkoenhbkaa.Am
