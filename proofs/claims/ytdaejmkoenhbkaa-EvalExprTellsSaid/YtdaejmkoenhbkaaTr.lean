/- AM, part 1: a heap of numbered blocks (a trie), abstract values. -/
import Derived.Calls
import Derived.Orders
import Derived.Below
namespace Go.Proofs.Ytdaejmkoenhbkaa.Am
inductive Tr (α : Type) where
  | leaf
  | node (v : Option α) (l r : Tr α)
namespace Tr
variable {α : Type}
def bitsF : Nat → Nat → List Bool
  | 0, _ => []
  | _ + 1, 0 => []
  | f + 1, n + 1 => ((n + 1) % 2 == 1) :: bitsF f ((n + 1) / 2)
def bits (n : Nat) : List Bool := bitsF n n
def getP : Tr α → List Bool → Option α
  | leaf, _ => none
  | node v _ _, [] => v
  | node _ l r, b :: p => if b then l.getP p else r.getP p
def setP : List Bool → Option α → Tr α → Tr α
  | [], x, leaf => node x leaf leaf
  | [], x, node _ l r => node x l r
  | b :: p, x, leaf => if b then node none (setP p x leaf) leaf else node none leaf (setP p x leaf)
  | b :: p, x, node v l r => if b then node v (setP p x l) r else node v l (setP p x r)
theorem getP_leaf (p : List Bool) : (leaf : Tr α).getP p = none := by cases p <;> rfl
theorem getP_setP (p q : List Bool) (x : Option α) (t : Tr α) : (setP p x t).getP q = if p = q then x else t.getP q := by
  induction p generalizing q t with
  | nil => cases t <;> cases q <;> simp [setP, getP]
  | cons b p ih =>
    cases t <;> cases q <;> cases b <;> simp [setP, getP]
    all_goals (rename_i c q; cases c <;> simp [ih, getP_leaf])
def val : List Bool → Nat
  | [] => 0
  | b :: p => (if b then 1 else 0) + 2 * val p
theorem val_bitsF (f n : Nat) (h : n ≤ f) : val (bitsF f n) = n := by
  induction f generalizing n with
  | zero => simp [bitsF, val]; omega
  | succ f ih =>
    cases n with
    | zero => rfl
    | succ n =>
      simp only [bitsF, val]
      rw [ih ((n + 1) / 2) (by omega)]
      by_cases h1 : (n + 1) % 2 = 1 <;> simp [h1] <;> omega
theorem bits_inj {a b : Nat} (h : bits a = bits b) : a = b := by
  have := congrArg val h
  rwa [bits, bits, val_bitsF _ _ (Nat.le_refl _), val_bitsF _ _ (Nat.le_refl _)] at this
def get (t : Tr α) (n : Nat) : Option α := t.getP (bits n)
def set (t : Tr α) (n : Nat) (x : Option α) : Tr α := setP (bits n) x t
theorem get_set (t : Tr α) (n m : Nat) (x : Option α) : (t.set n x).get m = if n = m then x else t.get m := by
  unfold get set
  rw [getP_setP]
  by_cases h : n = m
  · subst h; simp
  · rw [if_neg h, if_neg (fun e => h (bits_inj e))]
theorem get_leaf (m : Nat) : (leaf : Tr α).get m = none := getP_leaf _
end Tr
end Go.Proofs.Ytdaejmkoenhbkaa.Am
