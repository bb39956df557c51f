/- AM, part 17: a region whose order is drawn: the evaluator's run in the order of the text. -/
import Derived.Test.YtdaejmkoenhbkaaLoc
namespace Go.Proofs.Ytdaejmkoenhbkaa.Am
set_option linter.unusedVariables false

/-! ### The sets of operations ahead -/
theorem fold_bit (f : Edge → Nat) (p : Edge → Bool) (k : Nat) : ∀ (l : List Edge) (s : Nat), (l.foldl (fun s e => if p e then s ||| f e else s) s).testBit k = true → s.testBit k = true ∨ ∃ e ∈ l, p e = true ∧ (f e).testBit k = true
  | [], s, h => .inl h
  | e :: l, s, h => by
    rw [List.foldl_cons] at h
    rcases fold_bit f p k l _ h with h1 | ⟨e', h1, h2⟩
    · split at h1
      · rename_i hp
        rw [Nat.testBit_or, Bool.or_eq_true] at h1
        rcases h1 with h1 | h1
        · exact .inl h1
        · exact .inr ⟨e, by simp, hp, h1⟩
      · exact .inl h1
    · exact .inr ⟨e', by simp [h1], h2⟩
def maskOf (acc : List Nat) (o : Oper) : Nat := o.after.toList.foldl (fun s e => if Region.binds .any e then s ||| 2 ^ e.on ||| acc.getD e.on 0 else s) 0
theorem maskOf_bit {acc : List Nat} {o : Oper} {k : Nat} (h : (maskOf acc o).testBit k = true) : ∃ e ∈ o.after.toList, Region.binds .any e = true ∧ (k = e.on ∨ (acc.getD e.on 0).testBit k = true) := by
  have hf : maskOf acc o = o.after.toList.foldl (fun s e => if Region.binds .any e then s ||| (2 ^ e.on ||| acc.getD e.on 0) else s) 0 := by
    unfold maskOf
    congr 1
    funext s e
    split
    · rw [Nat.or_assoc]
    · rfl
  rw [hf] at h
  rcases fold_bit (fun e => 2 ^ e.on ||| acc.getD e.on 0) (Region.binds .any) k _ _ h with h1 | ⟨e, h1, h2, h3⟩
  · simp at h1
  · refine ⟨e, h1, h2, ?_⟩
    rw [Nat.testBit_or, Bool.or_eq_true] at h3
    rcases h3 with h3 | h3
    · rw [Nat.testBit_two_pow] at h3
      exact .inl (by have h4 := h3; simp at h4; exact h4.symm)
    · exact .inr h3
theorem masks_spec : ∀ (l : List Oper) (acc : List Nat), acc.length + l.length = (masks l acc).length ∧ (∀ i, i < acc.length → (masks l acc).getD i 0 = acc.getD i 0) ∧
    ∀ (i : Nat) (o : Oper), l[i]? = some o → ∃ acc', (masks l acc).getD (acc.length + i) 0 = maskOf acc' o ∧ (∀ j, acc'.getD j 0 = (masks l acc).getD j 0 ∨ acc'.getD j 0 = 0) ∧ (∀ j, acc.length + i ≤ j → acc'.getD j 0 = 0)
  | [], acc => by simp [masks]
  | o :: l, acc => by
    obtain ⟨h1, h2, h3⟩ := masks_spec l (acc ++ [maskOf acc o])
    have hm : masks (o :: l) acc = masks l (acc ++ [maskOf acc o]) := rfl
    rw [hm]
    simp only [List.length_append, List.length_singleton] at h1 h2 h3
    have keep : ∀ i, i < acc.length → (masks l (acc ++ [maskOf acc o])).getD i 0 = acc.getD i 0 := fun i hi => by
      rw [h2 i (by omega)]
      simp [List.getD, List.getElem?_append_left hi]
    refine ⟨by simp; omega, keep, fun i q hq => ?_⟩
    match i with
    | 0 =>
      simp only [List.getElem?_cons_zero, Option.some.injEq] at hq
      subst hq
      refine ⟨acc, ?_, fun j => ?_, fun j hj => ?_⟩
      · rw [Nat.add_zero, h2 acc.length (by omega)]
        simp [List.getD]
      · rcases Nat.lt_or_ge j acc.length with hj | hj
        · exact .inl (keep j hj).symm
        · exact .inr (by simp [List.getD, List.getElem?_eq_none hj])
      · simp [List.getD, List.getElem?_eq_none (show acc.length ≤ j by omega)]
    | i + 1 =>
      simp only [List.getElem?_cons_succ] at hq
      obtain ⟨acc', g1, g2, g3⟩ := h3 i q hq
      exact ⟨acc', by rw [← g1]; congr 1; omega, g2, fun j hj => g3 j (by omega)⟩
/-- what is ahead comes along an edge -/
theorem ahead_bit {ops : Array Oper} {i : Nat} {o : Oper} (ho : ops[i]? = some o) {k : Nat} (h : ((masks ops.toList []).getD i 0).testBit k = true) :
    ∃ e ∈ o.after.toList, Region.binds .any e = true ∧ (k = e.on ∨ (e.on < i ∧ ((masks ops.toList []).getD e.on 0).testBit k = true)) := by
  obtain ⟨_, _, h3⟩ := masks_spec ops.toList []
  obtain ⟨acc', g1, g2, g3⟩ := h3 i o (by rw [Array.getElem?_toList]; exact ho)
  simp only [List.length_nil, Nat.zero_add] at g1 g3
  rw [g1] at h
  obtain ⟨e, e1, e2, e3⟩ := maskOf_bit h
  refine ⟨e, e1, e2, ?_⟩
  rcases e3 with e3 | e3
  · exact .inl e3
  · right
    rcases Nat.lt_or_ge e.on i with hlt | hge
    · refine ⟨hlt, ?_⟩
      rcases g2 e.on with h4 | h4
      · rw [h4] at e3; exact e3
      · rw [h4] at e3; simp at e3
    · rw [g3 e.on hge] at e3; simp at e3
/-- a set of operations that is closed under edges -/
def Closed (ops : Array Oper) (L : Nat → Bool) : Prop := ∀ (i : Nat) (o : Oper), ops[i]? = some o → L i = true → ∀ e ∈ o.after.toList, Region.binds .any e = true → L e.on = true
theorem Closed.ahead {ops : Array Oper} {L : Nat → Bool} (hL : Closed ops L) : ∀ (i : Nat) (o : Oper), ops[i]? = some o → (∀ e ∈ o.after.toList, Region.binds .any e = true → L e.on = true) → ∀ k, ((masks ops.toList []).getD i 0).testBit k = true → L k = true := by
  intro i
  induction i using Nat.strongRecOn with
  | _ i ih =>
    intro o ho he k hk
    obtain ⟨e, e1, e2, e3⟩ := ahead_bit ho hk
    have hLe := he e e1 e2
    rcases e3 with rfl | ⟨hlt, h4⟩
    · exact hLe
    · have hlt' : e.on < ops.size := by
        have : i < ops.size := (Array.getElem?_eq_some_iff.1 ho).1
        omega
      have ho' : ops[e.on]? = some ops[e.on] := Array.getElem?_eq_getElem hlt'
      exact ih e.on hlt _ ho' (fun e' h5 h6 => hL e.on _ ho' hLe e' h5 h6) k h4

/-! ### The last of those that did something -/
def lastW (p : Nat → Bool) : Nat → Option Nat
  | 0 => none
  | k + 1 => if p k then some k else lastW p k
theorem lastW_congr {p q : Nat → Bool} : ∀ {k : Nat}, (∀ i, i < k → p i = q i) → lastW p k = lastW q k
  | 0, _ => rfl
  | k + 1, h => by
    unfold lastW
    rw [h k (by omega), lastW_congr fun i hi => h i (by omega)]
theorem lastW_none {p : Nat → Bool} {k m : Nat} (hkm : k ≤ m) (h : ∀ i, k ≤ i → i < m → p i = false) : lastW p m = lastW p k := by
  induction m with
  | zero => rw [show k = 0 by omega]
  | succ m ih =>
    rcases Nat.eq_or_lt_of_le hkm with rfl | hlt
    · rfl
    · rw [lastW, h m (by omega) (by omega), if_neg (by simp)]
      exact ih (by omega) fun i h1 h2 => h i h1 (by omega)
/-- the order in which a set was done does not matter to operation i -/
theorem lastW_agree {p L : Nat → Bool} {n i : Nat} (hi : i < n) (hLi : L i = false) (h : ∀ j, j < n → j ≠ i → p j = true → (j < i → L j = true) ∧ (i < j → L j = false)) :
    lastW (fun j => L j && p j) n = lastW p i := by
  rw [lastW_none (k := i) (by omega)]
  · refine lastW_congr fun j hj => ?_
    cases hp : p j with
    | false => simp
    | true => simp [(h j (by omega) (by omega) hp).1 hj]
  · intro j h1 h2
    rcases Nat.eq_or_lt_of_le h1 with rfl | hlt
    · simp [hLi]
    · cases hp : p j with
      | false => simp
      | true => simp [(h j h2 (by omega) hp).2 hlt]
theorem lastW_add {p L : Nat → Bool} {n i : Nat} (hi : i < n) (hLi : L i = false) (hpi : p i = true) (h : ∀ j, j < n → j ≠ i → p j = true → (i < j → L j = false)) :
    lastW (fun j => (if j = i then true else L j) && p j) n = some i := by
  rw [lastW_none (k := i + 1) (by omega)]
  · simp [lastW, hpi]
  · intro j h1 h2
    cases hp : p j with
    | false => simp
    | true => simp [h j h2 (by omega) hp (by omega), show ¬ j = i by omega]
theorem lastW_skip {p L : Nat → Bool} {n i : Nat} (hpi : p i = false) : lastW (fun j => (if j = i then true else L j) && p j) n = lastW (fun j => L j && p j) n := by
  refine lastW_congr fun j _ => ?_
  by_cases hj : j = i
  · subst hj; simp [hpi]
  · simp [hj]
end Go.Proofs.Ytdaejmkoenhbkaa.Am
