/- AM, part 18: a region whose order is drawn does what the evaluator says, in whatever order. -/
import Derived.Test.YtdaejmkoenhbkaaDrw
namespace Go.Proofs.Ytdaejmkoenhbkaa.Am
set_option linter.unusedVariables false
section
variable (P : Program) (F : TypeId → Option (List TypeId)) (call : FuncId → List AV → Heap → Option (AV × Heap)) (ops : Array Oper) (base : Nat) (τ0 : List AV) (H0 : Heap)
def itS : Nat → List AV × Heap
  | 0 => (τ0, H0)
  | i + 1 => match drawStep P F call ops base i ((masks ops.toList []).getD i 0) (itS i).1 (itS i).2 with
    | some (τ, H, _) => (τ, H)
    | none => itS i
def itR (i : Nat) : Option Rec :=
  match drawStep P F call ops base i ((masks ops.toList []).getD i 0) (itS P F call ops base τ0 H0 i).1 (itS P F call ops base τ0 H0 i).2 with
  | some (_, _, r) => r
  | none => none
structure RunOk : Prop where
  step : ∀ i, i < ops.size → drawStep P F call ops base i ((masks ops.toList []).getD i 0) (itS P F call ops base τ0 H0 i).1 (itS P F call ops base τ0 H0 i).2 =
    some ((itS P F call ops base τ0 H0 (i + 1)).1, (itS P F call ops base τ0 H0 (i + 1)).2, itR P F call ops base τ0 H0 i)
  free : ∀ i j x r, j < i → i < ops.size → itR P F call ops base τ0 H0 j = some x → itR P F call ops base τ0 H0 i = some r → ((masks ops.toList []).getD i 0).testBit j = true ∨ meets x r = false
end
section
variable {P : Program} {F : TypeId → Option (List TypeId)} {call : FuncId → List AV → Heap → Option (AV × Heap)} {ops : Array Oper} {base : Nat} {τ0 : List AV} {H0 : Heap}
theorem drawStep_op {i mask : Nat} {τ τ' : List AV} {H H' : Heap} {x : Rec} (h : drawStep P F call ops base i mask τ H = some (τ', H', some x)) : x.op = i := by
  unfold drawStep at h
  repeat' (first | (cases h; rfl) | (cases h; done) | split at h)
theorem run_ok : ∀ (m k : Nat) (rs rs' : List Rec) (τ' : List AV) (K : Heap),
    drawA P F call ops base (masks ops.toList []) (List.range' k m) (itS P F call ops base τ0 H0 k).1 (itS P F call ops base τ0 H0 k).2 rs = some (τ', K, rs') → (∀ j x, j < k → itR P F call ops base τ0 H0 j = some x → x ∈ rs ∧ x.op = j) →
    (∀ i, k ≤ i → i < k + m → drawStep P F call ops base i ((masks ops.toList []).getD i 0) (itS P F call ops base τ0 H0 i).1 (itS P F call ops base τ0 H0 i).2 =
      some ((itS P F call ops base τ0 H0 (i + 1)).1, (itS P F call ops base τ0 H0 (i + 1)).2, itR P F call ops base τ0 H0 i)) ∧
    (∀ i j x r, k ≤ i → i < k + m → j < i → itR P F call ops base τ0 H0 j = some x → itR P F call ops base τ0 H0 i = some r → ((masks ops.toList []).getD i 0).testBit j = true ∨ meets x r = false) ∧
    (τ', K) = itS P F call ops base τ0 H0 (k + m)
  | 0, k, rs, rs', τ', K, h, _ => by
    simp only [List.range'_zero, drawA, Option.some.injEq, Prod.mk.injEq] at h
    obtain ⟨rfl, rfl, rfl⟩ := h
    exact ⟨fun i h1 h2 => by omega, fun i j x r h1 h2 => by omega, rfl⟩
  | m + 1, k, rs, rs', τ', K, h, hrs => by
    rw [List.range'_succ] at h
    unfold drawA at h
    cases hd : drawStep P F call ops base k ((masks ops.toList []).getD k 0) (itS P F call ops base τ0 H0 k).1 (itS P F call ops base τ0 H0 k).2 with
    | none => rw [hd] at h; cases h
    | some q =>
      obtain ⟨τ1, H1, r⟩ := q
      rw [hd] at h
      have e1 : itS P F call ops base τ0 H0 (k + 1) = (τ1, H1) := by rw [itS, hd]
      have e2 : itR P F call ops base τ0 H0 k = r := by rw [itR, hd]
      have next : ∀ rs2, drawA P F call ops base (masks ops.toList []) (List.range' (k + 1) m) τ1 H1 rs2 = some (τ', K, rs') → (∀ x, r = some x → x ∈ rs2) → (∀ x ∈ rs, x ∈ rs2) →
          (∀ j x, j < k → itR P F call ops base τ0 H0 j = some x → ∀ y, r = some y → ((masks ops.toList []).getD k 0).testBit j = true ∨ meets x y = false) → _ := fun rs2 h2 hr2 hsub hfree => by
        obtain ⟨a1, a2, a3⟩ := run_ok m (k + 1) rs2 rs' τ' K (by rw [e1]; exact h2) (fun j x hj hx => by
          rcases Nat.eq_or_lt_of_le (Nat.le_of_lt_succ hj) with rfl | hlt
          · rw [e2] at hx
            refine ⟨hr2 x hx, ?_⟩
            rw [hx] at hd
            exact drawStep_op hd
          · obtain ⟨b1, b2⟩ := hrs j x hlt hx
            exact ⟨hsub x b1, b2⟩)
        refine (⟨fun i h1 h2 => ?_, fun i j x y h1 h2 hji hx hy => ?_, by rw [a3]; congr 1; omega⟩ : (∀ i, k ≤ i → i < k + (m + 1) → drawStep P F call ops base i ((masks ops.toList []).getD i 0) (itS P F call ops base τ0 H0 i).1 (itS P F call ops base τ0 H0 i).2 =
          some ((itS P F call ops base τ0 H0 (i + 1)).1, (itS P F call ops base τ0 H0 (i + 1)).2, itR P F call ops base τ0 H0 i)) ∧
          (∀ i j x r, k ≤ i → i < k + (m + 1) → j < i → itR P F call ops base τ0 H0 j = some x → itR P F call ops base τ0 H0 i = some r → ((masks ops.toList []).getD i 0).testBit j = true ∨ meets x r = false) ∧
          (τ', K) = itS P F call ops base τ0 H0 (k + (m + 1)))
        · rcases Nat.eq_or_lt_of_le h1 with rfl | hlt
          · rw [hd, e1, e2]
          · exact a1 i hlt (by omega)
        · rcases Nat.eq_or_lt_of_le h1 with rfl | hlt
          · rw [e2] at hy; exact hfree j x hji hx y hy
          · exact a2 i j x y hlt (by omega) hji hx hy
      cases r with
      | none => exact next rs h (by simp) (fun x hx => hx) (by simp)
      | some y =>
        simp only [] at h
        split at h
        · rename_i hall
          refine next (y :: rs) h (by simp) (fun x hx => by simp [hx]) (fun j x hj hx y' hy' => ?_)
          cases hy'
          rw [List.all_eq_true] at hall
          obtain ⟨b1, b2⟩ := hrs j x hj hx
          have := hall x b1
          rw [b2] at this
          simpa using this
        · cases h
end
end Go.Proofs.Ytdaejmkoenhbkaa.Am
