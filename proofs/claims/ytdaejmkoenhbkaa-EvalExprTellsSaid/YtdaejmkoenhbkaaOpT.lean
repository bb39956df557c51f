/- AM, part 10: struct literals and slice literals. -/
import Derived.Test.YtdaejmkoenhbkaaOpS
namespace Go.Proofs.Ytdaejmkoenhbkaa.Am
section
variable {P : Program} {w : World} {σ : Sig} {T : Nat → Prop}

theorem foldl_set : ∀ (vs : List Value) (k off : Nat) (cs : Array Value), off + k + vs.length ≤ cs.size →
    ((vs.zipIdx k).foldl (fun (cs : Array Value) (p : Value × Nat) => cs.setIfInBounds (off + p.2) p.1) cs).toList = cs.toList.take (off + k) ++ vs ++ cs.toList.drop (off + k + vs.length)
  | [], k, off, cs, _ => by simp
  | v :: vs, k, off, cs, h => by
    simp only [List.length_cons] at h
    rw [List.zipIdx_cons, List.foldl_cons, foldl_set vs (k + 1) off _ (by simp; omega)]
    have e := list_seg_step cs.toList (off + k) v vs (by simp; omega)
    simpa [Array.toList_setIfInBounds, Nat.add_assoc] using e
theorem Reps.splice {cells cs : List AV} {vs us : List Value} {off : Nat} (h : Reps w σ T cells vs) (k : Reps w σ T cs us) (hl : off + cs.length ≤ cells.length) :
    Reps w σ T (rowStore cells off cs) (vs.take off ++ us ++ vs.drop (off + us.length)) := by
  refine ⟨by simp [rowStore, h.1, k.1], fun i a v h1 h2 => ?_⟩
  unfold rowStore at h1
  have e1 := h.1
  have e2 := k.1
  rcases Nat.lt_or_ge i off with hi | hi
  · rw [List.append_assoc, List.getElem?_append_left (by simp; omega), List.getElem?_take_of_lt hi] at h1 h2
    exact h.2 i a v h1 h2
  · rcases Nat.lt_or_ge i (off + cs.length) with hj | hj
    · rw [List.getElem?_append_left (by simp; omega), List.getElem?_append_right (by simp; omega)] at h1 h2
      simp only [List.length_take] at h1 h2
      rw [Nat.min_eq_left (by omega)] at h1 h2
      exact k.2 _ a v h1 h2
    · rw [List.getElem?_append_right (by simp; omega)] at h1 h2
      simp only [List.length_append, List.length_take, List.getElem?_drop] at h1 h2
      rw [Nat.min_eq_left (by omega)] at h1 h2
      rw [← e2] at h2
      exact h.2 _ a v h1 h2
theorem fill_sound {place : Nat → Option (Nat × Nat)} {ρ : Operand → AV} {ρ' : Operand → Value} (hρ : ∀ x, Rep w σ T (ρ x) (ρ' x)) : ∀ (ps : List (Nat × Operand)) (cells r : List AV) (cells' : Array Value),
    Reps w σ T cells cells'.toList → fillA place cells (ps.map fun p => (p.1, ρ p.2)) = some r → ∃ r', Instr.fill place cells' (ps.map fun p => (p.1, ρ' p.2)) = some r' ∧ Reps w σ T r r'.toList
  | [], cells, r, cells', hc, h => by cases h; exact ⟨cells', rfl, hc⟩
  | (i, x) :: ps, cells, r, cells', hc, h => by
    simp only [List.map_cons, fillA] at h
    split at h
    · rename_i off size cs hp hcs
      split at h
      · rename_i hl
        obtain ⟨hl1, hl2, _⟩ := hl
        have hx := (hρ x).cells hcs
        have e1 : (ρ' x).cells.size = size := by rw [← Array.length_toList, ← hx.1, hl1]
        have e2 : cells'.size = cells.length := by rw [← Array.length_toList, ← hc.1]
        have hfold : ((ρ' x).cells.zipIdx.foldl (fun (cs : Array Value) (p : Value × Nat) => cs.setIfInBounds (off + p.2) p.1) cells').toList = cells'.toList.take off ++ (ρ' x).cells.toList ++ cells'.toList.drop (off + (ρ' x).cells.toList.length) := by
          have := foldl_set (ρ' x).cells.toList 0 off cells' (by simp; omega)
          rw [← Array.foldl_toList, Array.toList_zipIdx]
          simpa using this
        obtain ⟨r', h1, h2⟩ := fill_sound hρ ps (rowStore cells off cs) r _ (by rw [hfold]; exact hc.splice hx (by omega)) h
        refine ⟨r', ?_, h2⟩
        have hcond : (decide ((ρ' x).cells.size ≠ size) || decide (off + (ρ' x).cells.size > cells'.size)) = false := by simp [e1, e2]; omega
        simp only [List.map_cons, Instr.fill, hp, hcond, Bool.false_eq_true, if_false]
        exact h1
      · cases h
    · cases h
theorem run_mapMList {α β : Type} (f : α → Sem β) (g : α → β) : ∀ (l : List α), (∀ x ∈ l, (f x).run P w = .ok (g x) w) → (l.mapM f).run P w = .ok (l.map g) w
  | [], _ => by simp
  | x :: l, h => by
    rw [List.mapM_cons]
    simp only [Sem.run_bind, h x (by simp), Result.andThen_ok, run_mapMList f g l (fun y hy => h y (by simp [hy])), Sem.run_pure, List.map_cons]
theorem run_mapMArray {α β : Type} (f : α → Sem β) (g : α → β) (l : Array α) (h : ∀ x ∈ l.toList, (f x).run P w = .ok (g x) w) : (l.mapM f).run P w = .ok (l.toList.map g).toArray w := by
  rw [Array.mapM_eq_mapM_toList]
  simp only [Sem.run_map, run_mapMList f g l.toList h, Result.andThen_ok]

/-- closed facts of a program -/
structure Fit (P : Program) (F : TypeId → Option (List TypeId)) : Prop where
  flat : ∀ t ts, F t = some ts → FlatT P t ts
  names : ∀ (g : Nat) (fn : Func), P.funcs[g]? = some fn → fn.name ≠ "runtime.NumGoroutine"
  order : P.follows .mixedOrders = true

theorem build_sound {t : TypeId} {ps : Array (Nat × Operand)} {v : AV} {ρ : Operand → AV} {ρ' : Operand → Value} (hρ : ∀ x, Rep w σ T (ρ x) (ρ' x)) (h : buildA P t (ps.toList.map fun p => (p.1, ρ p.2)) = some v) :
    ∃ v', (Instr.build t (ps.map fun (i, x) => (i, ρ' x))).run P w = .ok v' w ∧ Rep w σ T v v' := by
  have hps : (ps.map fun (i, x) => (i, ρ' x)).toList = ps.toList.map fun p => (p.1, ρ' p.2) := by simp
  unfold buildA at h
  split at h
  · rename_i fs z hu hz
    split at h
    · rename_i hall
      have hf : ∀ f ∈ fs.toList, ∃ n, sizeA P f.type = some n := fun f hfm => by
        rw [List.all_eq_true] at hall
        exact Option.isSome_iff_exists.1 (hall f hfm)
      obtain ⟨z', hz1, hz2⟩ := zero_sound (P := P) (w := w) (σ := σ) (T := T) hz
      cases hr : fillA (placesA P fs) z (ps.toList.map fun p => (p.1, ρ p.2)) with
      | none => rw [hr] at h; cases h
      | some r =>
        rw [hr] at h
        cases h
        have hcells := hz2.cells (cs := z) rfl
        have hm := run_mapMArray (P := P) (w := w) (fun f : Field => (do pure (f.offset, ← sizeOf f.type) : Sem (Nat × Nat))) (fun f => (f.offset, (sizeA P f.type).getD 0)) fs (fun f hfm => by
          obtain ⟨n, hn⟩ := hf f hfm
          simp [run_size hn, hn])
        have hpl : (fun i => ((fs.toList.map fun f : Field => (f.offset, (sizeA P f.type).getD 0)).toArray)[i]?) = placesA P fs := by
          funext i
          unfold placesA
          rw [List.getElem?_toArray, List.getElem?_map, Array.getElem?_toList]
          cases hfi : fs[i]? with
          | none => rfl
          | some f =>
            obtain ⟨n, hn⟩ := hf f (by rw [Array.mem_toList_iff]; exact Array.mem_of_getElem? hfi)
            simp [hn]
        rw [← hpl] at hr
        obtain ⟨r', h1, h2⟩ := fill_sound hρ ps.toList z r z'.cells hcells hr
        refine ⟨.agg r', ?_, by have := Rep.agg (w := w) (σ := σ) (T := T) r r'.toList h2.1 h2.2; simpa using this⟩
        simp only [Instr.build, Sem.run_bind, hz1, Result.andThen_ok, run_underlying hu, hm, hps, h1, Sem.run_pure]
    · cases h
  · rename_i n e z hu hz
    obtain ⟨z', hz1, hz2⟩ := zero_sound (P := P) (w := w) (σ := σ) (T := T) hz
    cases hn : sizeA P e with
    | none => rw [hn] at h; cases h
    | some sz =>
      rw [hn] at h
      simp only [Option.bind_some] at h
      cases hr : fillA (fun i => some (i * sz, sz)) z (ps.toList.map fun p => (p.1, ρ p.2)) with
      | none => rw [hr] at h; cases h
      | some r =>
        rw [hr] at h
        cases h
        have hcells := hz2.cells (cs := z) rfl
        obtain ⟨r', h1, h2⟩ := fill_sound hρ ps.toList z r z'.cells hcells hr
        refine ⟨.agg r', ?_, by have := Rep.agg (w := w) (σ := σ) (T := T) r r'.toList h2.1 h2.2; simpa using this⟩
        simp only [Instr.build, Sem.run_bind, hz1, Result.andThen_ok, run_underlying hu, run_size hn, hps, h1, Sem.run_pure]
  · cases h
end
end Go.Proofs.Ytdaejmkoenhbkaa.Am
