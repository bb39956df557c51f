/- The plain law of Union: the numbers of both lists, in ascending order, each once. -/
import Derived.Test.YtadjimfkfmojkaaUnion
namespace Go.Proofs.Ytadjimfkfmojkaa
set_option linter.unusedVariables false
theorem compactUpTo_asc (d : Array Int) (hs : ∀ i j, i < j → j < d.size → d[i]! ≤ d[j]!) : ∀ m, m ≤ d.size →
    (Lib.compactUpTo d m).Pairwise (· < ·) ∧ (∀ x ∈ Lib.compactUpTo d m, ∃ j, j < m ∧ x = d[j]!) ∧ (∀ j, j < m → d[j]! ∈ Lib.compactUpTo d m)
  | 0, _ => ⟨by simp [Lib.compactUpTo], by simp [Lib.compactUpTo], by intro j hj; omega⟩
  | m + 1, hm => by
    obtain ⟨h1, h2, h3⟩ := compactUpTo_asc d hs m (by omega)
    rw [Lib.compactUpTo_succ]
    by_cases hk : Lib.keeps d m = true
    · rw [if_pos hk]
      refine ⟨?_, ?_, ?_⟩
      · rw [List.pairwise_append]
        refine ⟨h1, by simp, ?_⟩
        intro x hx y hy
        obtain ⟨j, hj, rfl⟩ := h2 x hx
        simp at hy
        subst hy
        have hle := hs j m hj (by omega)
        have hne : d[j]! ≠ d[m]! := by
          intro he
          have hm0 : 0 < m := by omega
          have h4 : d[m]! ≠ d[m - 1]! := by
            intro h5
            rw [Lib.keeps_neg hm0 h5] at hk
            cases hk
          have h5 : d[j]! ≤ d[m - 1]! := by
            rcases Nat.lt_or_ge j (m - 1) with h | h
            · exact hs j (m - 1) h (by omega)
            · rw [show j = m - 1 from by omega]
              exact Int.le_refl _
          have h6 : d[m - 1]! ≤ d[m]! := hs (m - 1) m (by omega) (by omega)
          exact h4 (by omega)
        omega
      · intro x hx
        rw [List.mem_append] at hx
        rcases hx with hx | hx
        · obtain ⟨j, hj, e⟩ := h2 x hx
          exact ⟨j, by omega, e⟩
        · simp at hx
          exact ⟨m, by omega, hx⟩
      · intro j hj
        rw [List.mem_append]
        rcases Nat.lt_or_ge j m with h | h
        · exact .inl (h3 j h)
        · rw [show j = m from by omega]
          exact .inr (by simp)
    · rw [if_neg hk, List.append_nil]
      have hm0 : 0 < m := by
        rcases Nat.eq_zero_or_pos m with h | h
        · subst h
          exact absurd (Lib.keeps_lt_one d 0 (by omega)) hk
        · exact h
      have he : d[m]! = d[m - 1]! := by
        apply Classical.byContradiction
        intro h
        exact hk (Lib.keeps_pos h)
      refine ⟨h1, fun x hx => ?_, fun j hj => ?_⟩
      · obtain ⟨j, hj, e⟩ := h2 x hx
        exact ⟨j, by omega, e⟩
      · rcases Nat.lt_or_ge j m with h | h
        · exact h3 j h
        · rw [show j = m from by omega, he]
          exact h3 (m - 1) (by omega)
theorem getI (l : List Int) (j : Nat) (hj : j < l.length) : l.toArray[j]! = l[j] := by
  rw [getElem!_pos _ _ (by simpa using hj)]
  simp
theorem srt_sorted (l : List Int) : ∀ i j, i < j → j < (srt l).toArray.size → (srt l).toArray[i]! ≤ (srt l).toArray[j]! := by
  intro i j hij hj
  have hj' : j < (srt l).length := by simpa using hj
  rw [getI _ i (by omega), getI _ j hj']
  have hp : (srt l).Pairwise (fun x y => (decide (x ≤ y)) = true) := List.pairwise_mergeSort (fun a b c => by simp; omega) (fun a b => by simp; omega) l
  have := (List.pairwise_iff_getElem.1 hp) i j (by omega) hj' hij
  simpa using this
theorem uni_mem (a b : List Int) (x : Int) : x ∈ uni a b ↔ x ∈ a ∨ x ∈ b := by
  obtain ⟨h1, h2, h3⟩ := compactUpTo_asc (srt (a ++ b)).toArray (srt_sorted _) (srt (a ++ b)).length (by simp)
  have hm : ∀ y, y ∈ srt (a ++ b) ↔ y ∈ a ∨ y ∈ b := fun y => by simp [srt, List.mem_mergeSort]
  unfold uni Lib.compact
  constructor
  · intro hx
    obtain ⟨j, hj, rfl⟩ := h2 x hx
    rw [getI _ j hj]
    exact (hm _).1 (List.getElem_mem _)
  · intro hx
    obtain ⟨j, hj, rfl⟩ := List.getElem_of_mem ((hm x).2 hx)
    rw [← getI _ j hj]
    exact h3 j hj
theorem uni_asc (a b : List Int) : (uni a b).Pairwise (· < ·) :=
  (compactUpTo_asc (srt (a ++ b)).toArray (srt_sorted _) (srt (a ++ b)).length (by simp)).1
theorem uni_fit {a b : List Int} (ha : Fit a) (hb : Fit b) : Fit (uni a b) := fun x hx => by
  rcases (uni_mem a b x).1 hx with h | h
  · exact ha x h
  · exact hb x h
theorem uni21 : uni [2] [1] = [1, 2] := by
  have h : srt ([2] ++ [1]) = [1, 2] := by simp [srt, List.mergeSort, List.MergeSort.Internal.splitInTwo]
  unfold uni
  rw [h]
  decide +kernel
end Go.Proofs.Ytadjimfkfmojkaa
