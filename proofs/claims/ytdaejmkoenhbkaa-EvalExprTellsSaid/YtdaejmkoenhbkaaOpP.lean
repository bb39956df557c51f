/- AM, part 6: the operations that only compute or read are as the abstract ones say. -/
import Derived.Test.YtdaejmkoenhbkaaRel
import Derived.Laws.Cells
import Derived.Laws.CopyRow
import Derived.Laws.Entries
namespace Go.Proofs.Ytdaejmkoenhbkaa.Am
section
variable {P : Program} {w : World} {σ : Sig} {T : Nat → Prop}

theorem run_info {t : TypeId} {i : TypeInfo} (h : P.info? t = some i) (w : World) : (typeInfo t).run P w = .ok i w := by
  simp [typeInfo, h]
theorem run_size {t : TypeId} {n : Nat} (h : sizeA P t = some n) (w : World) : (sizeOf t).run P w = .ok n w := by
  unfold sizeA at h
  cases hi : P.info? t with
  | none => rw [hi] at h; cases h
  | some i => rw [hi] at h; cases h; simp [sizeOf, run_info hi]
theorem run_isAgg {t : TypeId} {r : Bool} (h : isAggA P t = some r) (w : World) : (isAgg t).run P w = .ok r w := by
  unfold isAggA at h
  cases hi : P.underlying t with
  | none => rw [hi] at h; cases h
  | some d =>
    rw [hi] at h
    simp only [Option.map_some, Option.some.injEq] at h
    subst h
    simp only [isAgg, Sem.run_bind, run_underlying hi, Result.andThen_ok]
    cases d <;> rfl
theorem Rep.cells {a : AV} {v : Value} {cs : List AV} (h : Rep w σ T a v) (hc : a.cells? = some cs) : Reps w σ T cs v.cells.toList := by
  have one : ∀ {a v}, Rep w σ T a v → (v.cells = #[v]) → Reps w σ T [a] v.cells.toList := fun {a v} h e => by
    rw [e]
    refine ⟨rfl, fun i a' v' h1 h2 => ?_⟩
    match i with
    | 0 => cases h1; cases h2; exact h
    | i + 1 => simp at h1
  cases h <;> simp only [AV.cells?, Option.some.injEq, reduceCtorEq] at hc <;> subst hc
  case agg vs hl h => exact ⟨by simpa [Value.cells] using hl, by simpa [Value.cells] using h⟩
  all_goals exact one (by constructor <;> assumption) rfl
theorem Rep.one {a : AV} {v : Value} (h : Rep w σ T a v) (ho : a.one = true) : v.oneCell' = true := by
  cases h <;> first | rfl | (simp [AV.one] at ho)
theorem Reps.one {cs : List AV} {vs : List Value} (h : Reps w σ T cs vs) (ho : cs.all AV.one = true) : ∀ v ∈ vs, v.oneCell' = true := by
  intro v hv
  obtain ⟨i, hi, rfl⟩ := List.getElem_of_mem hv
  have hi' : i < cs.length := by rw [h.1]; exact hi
  exact (h.2 i cs[i] vs[i] (List.getElem?_eq_getElem hi') (List.getElem?_eq_getElem hi)).one (by rw [List.all_eq_true] at ho; exact ho _ (List.getElem_mem hi'))

/-- a row of cells that can be read -/
def RowAt (w : World) (σ : Sig) (T : Nat → Prop) (row : List AV) (b start : Nat) : Prop :=
  ∀ (j : Nat) (a : AV), row[j]? = some a → ∃ u, w.cell? ⟨b, start + j, none⟩ = some u ∧ Rep w σ T a u
theorem addr_add (b o n : Nat) : (⟨b, o, none⟩ : Addr).add n = ⟨b, o + n, none⟩ := by unfold Addr.add; split <;> simp_all

theorem rowCells {row : List AV} {b start : Nat} (h : RowAt w σ T row b start) (n off : Nat) (hn : off + n ≤ row.length) :
    ∃ vs : List Value, vs.length = n ∧ (loadCells ⟨b, start + off, none⟩ n).run P w = .ok vs.toArray w ∧ Reps w σ T ((row.drop off).take n) vs := by
  have key : ∀ j, ∃ u, j < n → ∃ a, row[off + j]? = some a ∧ w.cell? ⟨b, start + off + j, none⟩ = some u ∧ Rep w σ T a u := fun j => by
    by_cases hj : j < n
    · obtain ⟨u, h1, h2⟩ := h (off + j) row[off + j] (List.getElem?_eq_getElem (by omega))
      exact ⟨u, fun _ => ⟨_, List.getElem?_eq_getElem (by omega), by rw [Nat.add_assoc]; exact h1, h2⟩⟩
    · exact ⟨undef, fun h => absurd h hj⟩
  let f := fun j => Classical.choose (key j)
  have hf : ∀ j, j < n → ∃ a, row[off + j]? = some a ∧ w.cell? ⟨b, start + off + j, none⟩ = some (f j) ∧ Rep w σ T a (f j) := fun j => Classical.choose_spec (key j)
  refine ⟨(List.range n).map f, by simp, run_loadCells w _ n f (fun j hj => by rw [addr_add]; obtain ⟨a, _, h2, _⟩ := hf j hj; exact h2), by simp; omega, ?_⟩
  intro i a v h1 h2
  rw [List.getElem?_map] at h2
  have hi : i < n := by
    rcases Nat.lt_or_ge i n with h3 | h3
    · exact h3
    · rw [List.getElem?_eq_none (by simpa using h3)] at h2; cases h2
  rw [List.getElem?_range hi] at h2
  cases h2
  obtain ⟨a', h3, _, h5⟩ := hf i hi
  rw [List.getElem?_take_of_lt hi, List.getElem?_drop, h3] at h1
  cases h1
  exact h5
theorem rowLoad_sound {t : TypeId} {row : List AV} {b start off : Nat} {v : AV} (h : RowAt w σ T row b start) (hl : rowLoad P t row off = some v) :
    ∃ v', (loadVar t ⟨b, start + off, none⟩).run P w = .ok v' w ∧ Rep w σ T v v' := by
  unfold rowLoad at hl
  split at hl
  · rename_i n h1 h2
    split at hl
    · rename_i hn
      cases hl
      obtain ⟨vs, _, h4, h5⟩ := rowCells (P := P) h n off hn
      exact ⟨.agg vs.toArray, by simp only [loadVar, Sem.run_bind, run_isAgg h1, Result.andThen_ok, Sem.run_ite, if_true, run_size h2, h4, Sem.run_pure], .agg _ _ h5.1 h5.2⟩
    · cases hl
  · rename_i n h1 h2
    obtain ⟨u, h3, h4⟩ := h off v hl
    exact ⟨u, by simp [loadVar, run_isAgg h1, h3], h4⟩
  · cases hl
theorem rowPart_sound {t : TypeId} {row : List AV} {vs : List Value} {off : Nat} {v : AV} (h : Reps w σ T row vs) (hl : rowLoad P t row off = some v) :
    ∃ v', (part t vs.toArray off).run P w = .ok v' w ∧ Rep w σ T v v' := by
  unfold rowLoad at hl
  split at hl
  · rename_i n h1 h2
    split at hl
    · rename_i hn
      cases hl
      refine ⟨.agg (vs.toArray.extract off (off + n)), by simp only [part, Sem.run_bind, run_isAgg h1, Result.andThen_ok, Sem.run_ite, if_true, run_size h2, Sem.run_pure], ?_⟩
      have e : vs.toArray.extract off (off + n) = ((vs.drop off).take n).toArray := by simp
      rw [e]
      refine .agg _ _ (by simp [h.1]) fun i a v h3 h4 => ?_
      have hi : i < n := by
        rcases Nat.lt_or_ge i n with h5 | h5
        · exact h5
        · rw [List.getElem?_eq_none (by simp; omega)] at h3; cases h3
      rw [List.getElem?_take_of_lt hi, List.getElem?_drop] at h3 h4
      exact h.2 _ a v h3 h4
    · cases hl
  · rename_i n h1 h2
    have ho : off < row.length := by
      rcases Nat.lt_or_ge off row.length with h5 | h5
      · exact h5
      · rw [List.getElem?_eq_none h5] at hl; cases hl
    have ho' : off < vs.length := by rw [← h.1]; exact ho
    exact ⟨vs[off], by simp [part, run_isAgg h1, ho'], h.2 off v _ hl (List.getElem?_eq_getElem ho')⟩
  · cases hl

theorem Held.row {x : Blk} {pl : Place} {cs : Array Value} {e : TypeId} (h : Held w σ T x pl cs e) {i : Nat} {r : List AV} (hr : x.rows[i]? = some r) :
    RowAt w σ T r pl.block (pl.base + i * pl.size) := by
  intro j a ha
  have hi : i < x.rows.length := by
    rcases Nat.lt_or_ge i x.rows.length with h5 | h5
    · exact h5
    · rw [List.getElem?_eq_none h5] at hr; cases hr
  have hj : j < x.size := by
    rw [← h.even i r hr]
    rcases Nat.lt_or_ge j r.length with h5 | h5
    · exact h5
    · rw [List.getElem?_eq_none h5] at ha; cases ha
  have hb : pl.base + i * x.size + j < cs.size := by
    have := h.room
    have : (i + 1) * x.size ≤ x.rows.length * x.size := Nat.mul_le_mul_right _ hi
    rw [Nat.add_mul] at this
    omega
  refine ⟨cs[pl.base + i * x.size + j], ?_, h.rep i r j a _ hr ha (Array.getElem?_eq_getElem hb)⟩
  rw [h.size]
  simp [World.cell?, h.block, hb]
theorem Lies.row {rows : List (List AV)} {b o sz : Nat} (hl : Lies w T rows b o sz)
    (h : ∀ (i : Nat) (r : List AV) (j : Nat) (a : AV) (u : Value), rows[i]? = some r → r[j]? = some a → w.cell? ⟨b, o + i * sz + j, none⟩ = some u → Rep w σ T a u)
    {i : Nat} {r : List AV} (hr : rows[i]? = some r) : RowAt w σ T r b (o + i * sz) := by
  intro j a ha
  have hi : i < rows.length := by
    rcases Nat.lt_or_ge i rows.length with h5 | h5
    · exact h5
    · rw [List.getElem?_eq_none h5] at hr; cases hr
  have hj : j < sz := by
    rw [← hl.even i r hr]
    rcases Nat.lt_or_ge j r.length with h5 | h5
    · exact h5
    · rw [List.getElem?_eq_none h5] at ha; cases ha
  obtain ⟨u, hu⟩ := hl.cell i j hi hj
  exact ⟨u, hu, h i r j a u hr ha hu⟩

theorem load_sound {H : Heap} (hW : WRel w σ H) {t : TypeId} {a v : AV} {a' : Value} (ha : Rep w σ (Own σ H) a a') (hl : loadA P H t a = some v) :
    ∃ v', (Instr.loadAt t a').run P w = .ok v' w ∧ Rep w σ (Own σ H) v v' := by
  unfold loadA at hl
  split at hl
  · rename_i b i off
    cases ha
    rename_i pl hs
    cases hx : H.get b with
    | none => rw [hx] at hl; cases hl
    | some x =>
      rw [hx] at hl
      simp only [Option.bind_some] at hl
      cases hr : x.rows[i]? with
      | none => rw [hr] at hl; cases hl
      | some r =>
        rw [hr] at hl
        simp only [Option.bind_some] at hl
        obtain ⟨pl', cs, e, h1, h2⟩ := hW.live b x hx
        rw [hs] at h1
        cases h1
        obtain ⟨v', h3, h4⟩ := rowLoad_sound (P := P) (h2.row hr) hl
        exact ⟨v', by simpa [Instr.loadAt, Instr.sureAddr] using h3, h4⟩
  · rename_i rows i off
    cases ha
    rename_i b o sz hl' h
    cases hr : rows[i]? with
    | none => rw [hr] at hl; cases hl
    | some r =>
      rw [hr] at hl
      simp only [Option.bind_some] at hl
      obtain ⟨v', h3, h4⟩ := rowLoad_sound (P := P) (hl'.row h hr) hl
      exact ⟨v', by simpa [Instr.loadAt, Instr.sureAddr] using h3, h4⟩
  · cases hl
end
end Go.Proofs.Ytdaejmkoenhbkaa.Am
