/- Expressions as Lean values; their value; put. -/
import Derived.Test.YtdaejmkoenhbkaaSlk
namespace Go.Proofs.Ytdaejmkoenhbkaa.Am
set_option linter.unusedVariables false
inductive ExprD where
  | mk (op n : Int) (name : Str) (l : List ExprD)
mutual
def ExprD.enc : ExprD → List AV
  | .mk op n name l => [.int .i64 op, .int .i64 n, .str name, .lst (encs l)]
def encs : List ExprD → List (List AV)
  | [] => []
  | e :: l => e.enc :: encs l
end
mutual
/-- at most two parts everywhere -/
def ExprD.thin : ExprD → Prop
  | .mk _ _ _ l => l.length ≤ 2 ∧ thins l
def thins : List ExprD → Prop
  | [] => True
  | e :: l => e.thin ∧ thins l
end
theorem thin_at {e : ExprD} : ∀ {l : List ExprD}, thins l → e ∈ l → e.thin
  | [], _, h => by cases h
  | a :: l, h, he => by
    rcases List.mem_cons.1 he with g | g
    · rw [g]; exact h.1
    · exact thin_at h.2 g
theorem encs_map (l : List ExprD) : encs l = l.map ExprD.enc := by
  induction l with
  | nil => rfl
  | cons e l ih => rw [encs, ih]; rfl
theorem encs_len (l : List ExprD) : (encs l).length = l.length := by rw [encs_map]; simp
theorem enc_len (e : ExprD) : e.enc.length = 4 := by cases e; rfl
def truthS (b : Bool) : Int := if b then 1 else 0
def unS (op a : Int) : Int × Bool := if op = 4 then (IntKind.i64.wrap (0 - a), true) else if op = 5 then (truthS (decide (a = 0)), true) else (0, false)
def binS (op a b : Int) : Int × Bool :=
  if op = 6 then (IntKind.i64.wrap (a + b), true) else
  if op = 7 then (IntKind.i64.wrap (a - b), true) else
  if op = 8 then (IntKind.i64.wrap (a * b), true) else
  if op = 9 then (if b = 0 then 0 else IntKind.i64.wrap (a.tdiv b), true) else
  if op = 10 then (if b = 0 then 0 else a.tmod b, true) else
  if op = 11 then (truthS (decide (a = b)), true) else
  if op = 12 then (truthS (decide (a ≠ b)), true) else
  if op = 13 then (truthS (decide (a < b)), true) else
  if op = 14 then (truthS (decide (a ≤ b)), true) else
  if op = 15 then (truthS (decide (b < a)), true) else
  if op = 16 then (truthS (decide (b ≤ a)), true) else
  if op = 17 then (truthS (decide (a ≠ 0) && decide (b ≠ 0)), true) else
  if op = 18 then (truthS (decide (a ≠ 0) || decide (b ≠ 0)), true) else (0, false)
/-- the value of the first variable with a name -/
def lookS (name : Str) : List Str → List Int → Int × Bool
  | [], _ => (0, false)
  | n :: nm, vl => if n = name then (match vl with | [] => (0, false) | v :: _ => (v, true)) else lookS name nm vl.tail
def nodeS (nm : List Str) (vl : List Int) (op n : Int) (name : Str) : List (Int × Bool) → Int × Bool
  | [] => if op = 1 then (n, true) else if op = 2 then lookS name nm vl else (0, false)
  | [a] => if a.2 then unS op a.1 else (0, false)
  | [a, b] => if a.2 && b.2 then binS op a.1 b.1 else (0, false)
  | _ => (0, false)
mutual
def ExprD.val (nm : List Str) (vl : List Int) : ExprD → Int × Bool
  | .mk op n name l => nodeS nm vl op n name (valsOf nm vl l)
def valsOf (nm : List Str) (vl : List Int) : List ExprD → List (Int × Bool)
  | [] => []
  | e :: l => e.val nm vl :: valsOf nm vl l
end
mutual
def ExprD.put (nm : List Str) (vl : List Int) : ExprD → ExprD
  | .mk op n name l => if op = 2 ∧ l.length = 0 then (if (lookS name nm vl).2 then .mk 1 (lookS name nm vl).1 [] [] else .mk op n name l) else .mk op n name (puts nm vl l)
def puts (nm : List Str) (vl : List Int) : List ExprD → List ExprD
  | [] => []
  | e :: l => e.put nm vl :: puts nm vl l
end
theorem puts_map (nm : List Str) (vl : List Int) (l : List ExprD) : puts nm vl l = l.map (ExprD.put nm vl) := by
  induction l with
  | nil => rfl
  | cons e l ih => rw [puts, ih]; rfl
theorem lookS_low (name : Str) : ∀ (nm : List Str) (vl : List Int), (lookS name nm vl).2 = false → lookS name nm vl = (0, false)
  | [], vl, h => rfl
  | n :: nm, vl, h => by
    unfold lookS at h ⊢
    split
    · rename_i hn
      rw [if_pos hn] at h
      cases vl with
      | nil => rfl
      | cons v vl => cases h
    · rename_i hn
      rw [if_neg hn] at h
      exact lookS_low name nm vl.tail h
mutual
theorem val_put (nm : List Str) (vl : List Int) : ∀ e : ExprD, (e.put nm vl).val [] [] = e.val nm vl
  | .mk op n name l => by
    unfold ExprD.put
    split
    · rename_i h
      obtain ⟨rfl, hl⟩ := h
      have hl0 : l = [] := List.length_eq_zero_iff.1 hl
      subst hl0
      have h1 : (ExprD.mk 2 n name []).val nm vl = lookS name nm vl := by simp [ExprD.val, valsOf, nodeS]
      rw [h1]
      cases hk : (lookS name nm vl).2 with
      | true =>
        rw [if_pos rfl]
        have : (ExprD.mk 1 (lookS name nm vl).1 [] []).val [] [] = ((lookS name nm vl).1, true) := by simp [ExprD.val, valsOf, nodeS]
        rw [this, ← hk]
      | false =>
        rw [if_neg (by simp), lookS_low _ _ _ hk]
        simp [ExprD.val, valsOf, nodeS, lookS]
    · rename_i h
      rw [ExprD.val, ExprD.val, vals_put nm vl l]
      cases l with
      | nil =>
        have h2 : ¬ op = 2 := fun e => h ⟨e, rfl⟩
        simp [valsOf, nodeS, h2]
      | cons a l => cases l with
        | nil => rfl
        | cons b l => cases l with
          | nil => rfl
          | cons c l => rfl
theorem vals_put (nm : List Str) (vl : List Int) : ∀ l : List ExprD, valsOf [] [] (puts nm vl l) = valsOf nm vl l
  | [] => rfl
  | e :: l => by rw [puts, valsOf, valsOf, val_put nm vl e, vals_put nm vl l]
end
end Go.Proofs.Ytdaejmkoenhbkaa.Am
