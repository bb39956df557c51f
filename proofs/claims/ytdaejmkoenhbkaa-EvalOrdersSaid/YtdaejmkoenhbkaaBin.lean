/- The contracts of eval.truth, eval.Binary, eval.Unary and of the reference's, for every operator and all numbers. -/
import Derived.Test.YtdaejmkoenhbkaaRows
import Derived.WalkKit
import Derived.ProofKit
import Derived.OpenShut
namespace Go.Proofs.Ytdaejmkoenhbkaa
open Go.ChangeShapes Go.WideShapes Go.ChangeAt Go.RowKit

def tru (b : Bool) : Int := if b then 1 else 0
def binS (op a b : Int) : Int × Bool :=
  if op = 6 then (wrap64 (a + b), true) else if op = 7 then (wrap64 (a - b), true) else if op = 8 then (wrap64 (a * b), true)
  else if op = 9 then (if b = 0 then 0 else wrap64 (a.tdiv b), true) else if op = 10 then (if b = 0 then 0 else a.tmod b, true)
  else if op = 11 then (tru (a == b), true) else if op = 12 then (tru (a != b), true) else if op = 13 then (tru (decide (a < b)), true)
  else if op = 14 then (tru (decide (a ≤ b)), true) else if op = 15 then (tru (decide (b < a)), true) else if op = 16 then (tru (decide (b ≤ a)), true)
  else if op = 17 then (tru (a != 0 && b != 0), true) else if op = 18 then (tru (a != 0 || b != 0), true) else (0, false)
def unS (op a : Int) : Int × Bool := if op = 4 then (wrap64 (-a), true) else if op = 5 then (tru (a == 0), true) else (0, false)
theorem ret_pair {n m : Int} {b c : Bool} (h : (n, b) = (m, c)) : Ending.returned (.tuple #[.int .i64 n, .bool b]) = .returned (.tuple #[.int .i64 m, .bool c]) := by cases h; rfl


theorem truth_any (b : Bool) (w : World) : Calls Try.prog 25 #[.bool b] w fun e w' => e = .returned (.int .i64 (tru b)) ∧ w = w' := by
  cases b
  all_goals
    go_enter Try.func25, Try.ntmps25
    go_wp2
    go_ret
    exact ⟨rfl, rfl⟩

set_option maxRecDepth 100000 in
theorem bin_6 (a b : Int) (w : World) : Calls Try.prog 14 #[.int .i64 6, .int .i64 a, .int .i64 b] w fun e w' => e = .returned (.tuple #[.int .i64 (binS 6 a b).1, .bool (binS 6 a b).2]) ∧ w = w' := by
  go_enter Try.func14, Try.ntmps14
  go_wp2_with (go_at_call 25; refine (truth_any _ _).mono ?_; rintro e w' ⟨rfl, rfl⟩)
  go_ret2
  exact ⟨rfl, rfl⟩

set_option maxRecDepth 100000 in
theorem bin_7 (a b : Int) (w : World) : Calls Try.prog 14 #[.int .i64 7, .int .i64 a, .int .i64 b] w fun e w' => e = .returned (.tuple #[.int .i64 (binS 7 a b).1, .bool (binS 7 a b).2]) ∧ w = w' := by
  go_enter Try.func14, Try.ntmps14
  go_wp2_with (go_at_call 25; refine (truth_any _ _).mono ?_; rintro e w' ⟨rfl, rfl⟩)
  go_ret2
  exact ⟨rfl, rfl⟩

set_option maxRecDepth 100000 in
theorem bin_8 (a b : Int) (w : World) : Calls Try.prog 14 #[.int .i64 8, .int .i64 a, .int .i64 b] w fun e w' => e = .returned (.tuple #[.int .i64 (binS 8 a b).1, .bool (binS 8 a b).2]) ∧ w = w' := by
  go_enter Try.func14, Try.ntmps14
  go_wp2_with (go_at_call 25; refine (truth_any _ _).mono ?_; rintro e w' ⟨rfl, rfl⟩)
  go_ret2
  exact ⟨rfl, rfl⟩

set_option maxRecDepth 100000 in
theorem bin_9 (a b : Int) (w : World) : Calls Try.prog 14 #[.int .i64 9, .int .i64 a, .int .i64 b] w fun e w' => e = .returned (.tuple #[.int .i64 (binS 9 a b).1, .bool (binS 9 a b).2]) ∧ w = w' := by
  by_cases h : b = 0
  · subst h
    go_enter Try.func14, Try.ntmps14
    go_wp2_with (go_at_call 25; refine (truth_any _ _).mono ?_; rintro e w' ⟨rfl, rfl⟩)
    go_ret2
    exact ⟨rfl, rfl⟩
  · have h1 : (b == 0) = false := by simpa using h
    have e : binS 9 a b = (wrap64 (a.tdiv b), true) := by simp [binS, h]
    rw [e]
    clear e
    go_enter Try.func14, Try.ntmps14
    go_wp2_with (go_at_call 25; refine (truth_any _ _).mono ?_; rintro e w' ⟨rfl, rfl⟩)
    go_ret2
    exact ⟨rfl, rfl⟩

set_option maxRecDepth 100000 in
theorem bin_10 (a b : Int) (w : World) : Calls Try.prog 14 #[.int .i64 10, .int .i64 a, .int .i64 b] w fun e w' => e = .returned (.tuple #[.int .i64 (binS 10 a b).1, .bool (binS 10 a b).2]) ∧ w = w' := by
  by_cases h : b = 0
  · subst h
    go_enter Try.func14, Try.ntmps14
    go_wp2_with (go_at_call 25; refine (truth_any _ _).mono ?_; rintro e w' ⟨rfl, rfl⟩)
    go_ret2
    exact ⟨rfl, rfl⟩
  · have h1 : (b == 0) = false := by simpa using h
    have e : binS 10 a b = (a.tmod b, true) := by simp [binS, h]
    rw [e]
    clear e
    go_enter Try.func14, Try.ntmps14
    go_wp2_with (go_at_call 25; refine (truth_any _ _).mono ?_; rintro e w' ⟨rfl, rfl⟩)
    go_ret2
    exact ⟨rfl, rfl⟩

set_option maxRecDepth 100000 in
theorem bin_11 (a b : Int) (w : World) : Calls Try.prog 14 #[.int .i64 11, .int .i64 a, .int .i64 b] w fun e w' => e = .returned (.tuple #[.int .i64 (binS 11 a b).1, .bool (binS 11 a b).2]) ∧ w = w' := by
  go_enter Try.func14, Try.ntmps14
  go_wp2_with (go_at_call 25; refine (truth_any _ _).mono ?_; rintro e w' ⟨rfl, rfl⟩)
  go_ret2
  exact ⟨rfl, rfl⟩

set_option maxRecDepth 100000 in
theorem bin_12 (a b : Int) (w : World) : Calls Try.prog 14 #[.int .i64 12, .int .i64 a, .int .i64 b] w fun e w' => e = .returned (.tuple #[.int .i64 (binS 12 a b).1, .bool (binS 12 a b).2]) ∧ w = w' := by
  go_enter Try.func14, Try.ntmps14
  go_wp2_with (go_at_call 25; refine (truth_any _ _).mono ?_; rintro e w' ⟨rfl, rfl⟩)
  go_ret2
  exact ⟨rfl, rfl⟩

set_option maxRecDepth 100000 in
theorem bin_13 (a b : Int) (w : World) : Calls Try.prog 14 #[.int .i64 13, .int .i64 a, .int .i64 b] w fun e w' => e = .returned (.tuple #[.int .i64 (binS 13 a b).1, .bool (binS 13 a b).2]) ∧ w = w' := by
  go_enter Try.func14, Try.ntmps14
  go_wp2_with (go_at_call 25; refine (truth_any _ _).mono ?_; rintro e w' ⟨rfl, rfl⟩)
  go_ret2
  exact ⟨rfl, rfl⟩

set_option maxRecDepth 100000 in
theorem bin_14 (a b : Int) (w : World) : Calls Try.prog 14 #[.int .i64 14, .int .i64 a, .int .i64 b] w fun e w' => e = .returned (.tuple #[.int .i64 (binS 14 a b).1, .bool (binS 14 a b).2]) ∧ w = w' := by
  go_enter Try.func14, Try.ntmps14
  go_wp2_with (go_at_call 25; refine (truth_any _ _).mono ?_; rintro e w' ⟨rfl, rfl⟩)
  go_ret2
  exact ⟨rfl, rfl⟩

set_option maxRecDepth 100000 in
theorem bin_15 (a b : Int) (w : World) : Calls Try.prog 14 #[.int .i64 15, .int .i64 a, .int .i64 b] w fun e w' => e = .returned (.tuple #[.int .i64 (binS 15 a b).1, .bool (binS 15 a b).2]) ∧ w = w' := by
  go_enter Try.func14, Try.ntmps14
  go_wp2_with (go_at_call 25; refine (truth_any _ _).mono ?_; rintro e w' ⟨rfl, rfl⟩)
  go_ret2
  exact ⟨rfl, rfl⟩

set_option maxRecDepth 100000 in
theorem bin_16 (a b : Int) (w : World) : Calls Try.prog 14 #[.int .i64 16, .int .i64 a, .int .i64 b] w fun e w' => e = .returned (.tuple #[.int .i64 (binS 16 a b).1, .bool (binS 16 a b).2]) ∧ w = w' := by
  go_enter Try.func14, Try.ntmps14
  go_wp2_with (go_at_call 25; refine (truth_any _ _).mono ?_; rintro e w' ⟨rfl, rfl⟩)
  go_ret2
  exact ⟨rfl, rfl⟩

set_option maxRecDepth 100000 in
theorem bin_17 (a b : Int) (w : World) : Calls Try.prog 14 #[.int .i64 17, .int .i64 a, .int .i64 b] w fun e w' => e = .returned (.tuple #[.int .i64 (binS 17 a b).1, .bool (binS 17 a b).2]) ∧ w = w' := by
  by_cases h : a = 0
  · subst h
    go_enter Try.func14, Try.ntmps14
    go_wp2_with (go_at_call 25; refine (truth_any _ _).mono ?_; rintro e w' ⟨rfl, rfl⟩)
    go_ret2
    exact ⟨rfl, rfl⟩
  · have h1 : (a != 0) = true := by simpa using h
    have e : binS 17 a b = (tru (b != 0), true) := by simp [binS, h1]
    rw [e]
    clear e
    go_enter Try.func14, Try.ntmps14
    go_wp2_with (go_at_call 25; refine (truth_any _ _).mono ?_; rintro e w' ⟨rfl, rfl⟩)
    go_ret2
    exact ⟨rfl, rfl⟩

set_option maxRecDepth 100000 in
theorem bin_18 (a b : Int) (w : World) : Calls Try.prog 14 #[.int .i64 18, .int .i64 a, .int .i64 b] w fun e w' => e = .returned (.tuple #[.int .i64 (binS 18 a b).1, .bool (binS 18 a b).2]) ∧ w = w' := by
  by_cases h : a = 0
  · subst h
    go_enter Try.func14, Try.ntmps14
    go_wp2_with (go_at_call 25; refine (truth_any _ _).mono ?_; rintro e w' ⟨rfl, rfl⟩)
    go_ret2
    exact ⟨rfl, rfl⟩
  · have h1 : (a != 0) = true := by simpa using h
    have e : binS 18 a b = (tru (true), true) := by simp [binS, h1]
    rw [e]
    clear e
    go_enter Try.func14, Try.ntmps14
    go_wp2_with (go_at_call 25; refine (truth_any _ _).mono ?_; rintro e w' ⟨rfl, rfl⟩)
    go_ret2
    exact ⟨rfl, rfl⟩

set_option maxRecDepth 100000 in
theorem bin_no (op a b : Int) (h : op < 6 ∨ 18 < op) (w : World) : Calls Try.prog 14 #[.int .i64 op, .int .i64 a, .int .i64 b] w fun e w' => e = .returned (.tuple #[.int .i64 0, .bool false]) ∧ w = w' := by
  have k6 : (op == 6) = false := by simp; omega
  have k7 : (op == 7) = false := by simp; omega
  have k8 : (op == 8) = false := by simp; omega
  have k9 : (op == 9) = false := by simp; omega
  have k10 : (op == 10) = false := by simp; omega
  have k11 : (op == 11) = false := by simp; omega
  have k12 : (op == 12) = false := by simp; omega
  have k13 : (op == 13) = false := by simp; omega
  have k14 : (op == 14) = false := by simp; omega
  have k15 : (op == 15) = false := by simp; omega
  have k16 : (op == 16) = false := by simp; omega
  have k17 : (op == 17) = false := by simp; omega
  have k18 : (op == 18) = false := by simp; omega
  clear h
  go_enter Try.func14, Try.ntmps14
  go_wp2_with (go_at_call 25; refine (truth_any _ _).mono ?_; rintro e w' ⟨rfl, rfl⟩)
  go_ret2
  exact ⟨rfl, rfl⟩
theorem bin_any (op a b : Int) (w : World) : Calls Try.prog 14 #[.int .i64 op, .int .i64 a, .int .i64 b] w fun e w' => e = .returned (.tuple #[.int .i64 (binS op a b).1, .bool (binS op a b).2]) ∧ w = w' := by
  by_cases h : op < 6 ∨ 18 < op
  · have e : binS op a b = (0, false) := by unfold binS; repeat rw [if_neg (by omega)]
    rw [e]
    exact bin_no op a b h w
  · have h' : op = 6 ∨ op = 7 ∨ op = 8 ∨ op = 9 ∨ op = 10 ∨ op = 11 ∨ op = 12 ∨ op = 13 ∨ op = 14 ∨ op = 15 ∨ op = 16 ∨ op = 17 ∨ op = 18 := by omega
    rcases h' with rfl | rfl | rfl | rfl | rfl | rfl | rfl | rfl | rfl | rfl | rfl | rfl | rfl
    · exact bin_6 a b w
    · exact bin_7 a b w
    · exact bin_8 a b w
    · exact bin_9 a b w
    · exact bin_10 a b w
    · exact bin_11 a b w
    · exact bin_12 a b w
    · exact bin_13 a b w
    · exact bin_14 a b w
    · exact bin_15 a b w
    · exact bin_16 a b w
    · exact bin_17 a b w
    · exact bin_18 a b w
theorem un_any (op a : Int) (w : World) : Calls Try.prog 16 #[.int .i64 op, .int .i64 a] w fun e w' => e = .returned (.tuple #[.int .i64 (unS op a).1, .bool (unS op a).2]) ∧ w = w' := by
  by_cases h4 : op = 4
  · subst h4
    go_enter Try.func16, Try.ntmps16
    go_wp2_with (go_at_call 25; refine (truth_any _ _).mono ?_; rintro e w' ⟨rfl, rfl⟩)
    go_ret2
    exact ⟨rfl, rfl⟩
  by_cases h5 : op = 5
  · subst h5
    go_enter Try.func16, Try.ntmps16
    go_wp2_with (go_at_call 25; refine (truth_any _ _).mono ?_; rintro e w' ⟨rfl, rfl⟩)
    go_ret2
    exact ⟨rfl, rfl⟩
  have e : unS op a = (0, false) := by simp [unS, h4, h5]
  rw [e]
  clear e
  have k4 : (op == 4) = false := by simpa using h4
  have k5 : (op == 5) = false := by simpa using h5
  clear h4 h5
  go_enter Try.func16, Try.ntmps16
  go_wp2_with (go_at_call 25; refine (truth_any _ _).mono ?_; rintro e w' ⟨rfl, rfl⟩)
  go_ret2
  exact ⟨rfl, rfl⟩


theorem truthR_any (b : Bool) (w : World) : Calls Try.prog 30 #[.bool b] w fun e w' => e = .returned (.int .i64 (tru b)) ∧ w = w' := by
  cases b
  all_goals
    go_enter Try.func30, Try.ntmps30
    go_wp2
    go_ret
    exact ⟨rfl, rfl⟩

set_option maxRecDepth 100000 in
theorem binR_6 (a b : Int) (w : World) : Calls Try.prog 27 #[.int .i64 6, .int .i64 a, .int .i64 b] w fun e w' => e = .returned (.tuple #[.int .i64 (binS 6 a b).1, .bool (binS 6 a b).2]) ∧ w = w' := by
  go_enter Try.func27, Try.ntmps27
  go_wp2_with (go_at_call 30; refine (truthR_any _ _).mono ?_; rintro e w' ⟨rfl, rfl⟩)
  go_ret2
  exact ⟨rfl, rfl⟩

set_option maxRecDepth 100000 in
theorem binR_7 (a b : Int) (w : World) : Calls Try.prog 27 #[.int .i64 7, .int .i64 a, .int .i64 b] w fun e w' => e = .returned (.tuple #[.int .i64 (binS 7 a b).1, .bool (binS 7 a b).2]) ∧ w = w' := by
  go_enter Try.func27, Try.ntmps27
  go_wp2_with (go_at_call 30; refine (truthR_any _ _).mono ?_; rintro e w' ⟨rfl, rfl⟩)
  go_ret2
  exact ⟨rfl, rfl⟩

set_option maxRecDepth 100000 in
theorem binR_8 (a b : Int) (w : World) : Calls Try.prog 27 #[.int .i64 8, .int .i64 a, .int .i64 b] w fun e w' => e = .returned (.tuple #[.int .i64 (binS 8 a b).1, .bool (binS 8 a b).2]) ∧ w = w' := by
  go_enter Try.func27, Try.ntmps27
  go_wp2_with (go_at_call 30; refine (truthR_any _ _).mono ?_; rintro e w' ⟨rfl, rfl⟩)
  go_ret2
  exact ⟨rfl, rfl⟩

set_option maxRecDepth 100000 in
theorem binR_9 (a b : Int) (w : World) : Calls Try.prog 27 #[.int .i64 9, .int .i64 a, .int .i64 b] w fun e w' => e = .returned (.tuple #[.int .i64 (binS 9 a b).1, .bool (binS 9 a b).2]) ∧ w = w' := by
  by_cases h : b = 0
  · subst h
    go_enter Try.func27, Try.ntmps27
    go_wp2_with (go_at_call 30; refine (truthR_any _ _).mono ?_; rintro e w' ⟨rfl, rfl⟩)
    go_ret2
    exact ⟨rfl, rfl⟩
  · have h1 : (b == 0) = false := by simpa using h
    have e : binS 9 a b = (wrap64 (a.tdiv b), true) := by simp [binS, h]
    rw [e]
    clear e
    go_enter Try.func27, Try.ntmps27
    go_wp2_with (go_at_call 30; refine (truthR_any _ _).mono ?_; rintro e w' ⟨rfl, rfl⟩)
    go_ret2
    exact ⟨rfl, rfl⟩

set_option maxRecDepth 100000 in
theorem binR_10 (a b : Int) (w : World) : Calls Try.prog 27 #[.int .i64 10, .int .i64 a, .int .i64 b] w fun e w' => e = .returned (.tuple #[.int .i64 (binS 10 a b).1, .bool (binS 10 a b).2]) ∧ w = w' := by
  by_cases h : b = 0
  · subst h
    go_enter Try.func27, Try.ntmps27
    go_wp2_with (go_at_call 30; refine (truthR_any _ _).mono ?_; rintro e w' ⟨rfl, rfl⟩)
    go_ret2
    exact ⟨rfl, rfl⟩
  · have h1 : (b == 0) = false := by simpa using h
    have e : binS 10 a b = (a.tmod b, true) := by simp [binS, h]
    rw [e]
    clear e
    go_enter Try.func27, Try.ntmps27
    go_wp2_with (go_at_call 30; refine (truthR_any _ _).mono ?_; rintro e w' ⟨rfl, rfl⟩)
    go_ret2
    exact ⟨rfl, rfl⟩

set_option maxRecDepth 100000 in
theorem binR_11 (a b : Int) (w : World) : Calls Try.prog 27 #[.int .i64 11, .int .i64 a, .int .i64 b] w fun e w' => e = .returned (.tuple #[.int .i64 (binS 11 a b).1, .bool (binS 11 a b).2]) ∧ w = w' := by
  go_enter Try.func27, Try.ntmps27
  go_wp2_with (go_at_call 30; refine (truthR_any _ _).mono ?_; rintro e w' ⟨rfl, rfl⟩)
  go_ret2
  exact ⟨rfl, rfl⟩

set_option maxRecDepth 100000 in
theorem binR_12 (a b : Int) (w : World) : Calls Try.prog 27 #[.int .i64 12, .int .i64 a, .int .i64 b] w fun e w' => e = .returned (.tuple #[.int .i64 (binS 12 a b).1, .bool (binS 12 a b).2]) ∧ w = w' := by
  go_enter Try.func27, Try.ntmps27
  go_wp2_with (go_at_call 30; refine (truthR_any _ _).mono ?_; rintro e w' ⟨rfl, rfl⟩)
  go_ret2
  exact ⟨rfl, rfl⟩

set_option maxRecDepth 100000 in
theorem binR_13 (a b : Int) (w : World) : Calls Try.prog 27 #[.int .i64 13, .int .i64 a, .int .i64 b] w fun e w' => e = .returned (.tuple #[.int .i64 (binS 13 a b).1, .bool (binS 13 a b).2]) ∧ w = w' := by
  go_enter Try.func27, Try.ntmps27
  go_wp2_with (go_at_call 30; refine (truthR_any _ _).mono ?_; rintro e w' ⟨rfl, rfl⟩)
  go_ret2
  exact ⟨rfl, rfl⟩

set_option maxRecDepth 100000 in
theorem binR_14 (a b : Int) (w : World) : Calls Try.prog 27 #[.int .i64 14, .int .i64 a, .int .i64 b] w fun e w' => e = .returned (.tuple #[.int .i64 (binS 14 a b).1, .bool (binS 14 a b).2]) ∧ w = w' := by
  go_enter Try.func27, Try.ntmps27
  go_wp2_with (go_at_call 30; refine (truthR_any _ _).mono ?_; rintro e w' ⟨rfl, rfl⟩)
  go_ret2
  exact ⟨rfl, rfl⟩

set_option maxRecDepth 100000 in
theorem binR_15 (a b : Int) (w : World) : Calls Try.prog 27 #[.int .i64 15, .int .i64 a, .int .i64 b] w fun e w' => e = .returned (.tuple #[.int .i64 (binS 15 a b).1, .bool (binS 15 a b).2]) ∧ w = w' := by
  go_enter Try.func27, Try.ntmps27
  go_wp2_with (go_at_call 30; refine (truthR_any _ _).mono ?_; rintro e w' ⟨rfl, rfl⟩)
  go_ret2
  exact ⟨rfl, rfl⟩

set_option maxRecDepth 100000 in
theorem binR_16 (a b : Int) (w : World) : Calls Try.prog 27 #[.int .i64 16, .int .i64 a, .int .i64 b] w fun e w' => e = .returned (.tuple #[.int .i64 (binS 16 a b).1, .bool (binS 16 a b).2]) ∧ w = w' := by
  go_enter Try.func27, Try.ntmps27
  go_wp2_with (go_at_call 30; refine (truthR_any _ _).mono ?_; rintro e w' ⟨rfl, rfl⟩)
  go_ret2
  exact ⟨rfl, rfl⟩

set_option maxRecDepth 100000 in
theorem binR_17 (a b : Int) (w : World) : Calls Try.prog 27 #[.int .i64 17, .int .i64 a, .int .i64 b] w fun e w' => e = .returned (.tuple #[.int .i64 (binS 17 a b).1, .bool (binS 17 a b).2]) ∧ w = w' := by
  by_cases h : a = 0
  · subst h
    go_enter Try.func27, Try.ntmps27
    go_wp2_with (go_at_call 30; refine (truthR_any _ _).mono ?_; rintro e w' ⟨rfl, rfl⟩)
    go_ret2
    exact ⟨rfl, rfl⟩
  · have h1 : (a != 0) = true := by simpa using h
    have e : binS 17 a b = (tru (b != 0), true) := by simp [binS, h1]
    rw [e]
    clear e
    go_enter Try.func27, Try.ntmps27
    go_wp2_with (go_at_call 30; refine (truthR_any _ _).mono ?_; rintro e w' ⟨rfl, rfl⟩)
    go_ret2
    exact ⟨rfl, rfl⟩

set_option maxRecDepth 100000 in
theorem binR_18 (a b : Int) (w : World) : Calls Try.prog 27 #[.int .i64 18, .int .i64 a, .int .i64 b] w fun e w' => e = .returned (.tuple #[.int .i64 (binS 18 a b).1, .bool (binS 18 a b).2]) ∧ w = w' := by
  by_cases h : a = 0
  · subst h
    go_enter Try.func27, Try.ntmps27
    go_wp2_with (go_at_call 30; refine (truthR_any _ _).mono ?_; rintro e w' ⟨rfl, rfl⟩)
    go_ret2
    exact ⟨rfl, rfl⟩
  · have h1 : (a != 0) = true := by simpa using h
    have e : binS 18 a b = (tru (true), true) := by simp [binS, h1]
    rw [e]
    clear e
    go_enter Try.func27, Try.ntmps27
    go_wp2_with (go_at_call 30; refine (truthR_any _ _).mono ?_; rintro e w' ⟨rfl, rfl⟩)
    go_ret2
    exact ⟨rfl, rfl⟩

set_option maxRecDepth 100000 in
theorem binR_no (op a b : Int) (h : op < 6 ∨ 18 < op) (w : World) : Calls Try.prog 27 #[.int .i64 op, .int .i64 a, .int .i64 b] w fun e w' => e = .returned (.tuple #[.int .i64 0, .bool false]) ∧ w = w' := by
  have k6 : (op == 6) = false := by simp; omega
  have k7 : (op == 7) = false := by simp; omega
  have k8 : (op == 8) = false := by simp; omega
  have k9 : (op == 9) = false := by simp; omega
  have k10 : (op == 10) = false := by simp; omega
  have k11 : (op == 11) = false := by simp; omega
  have k12 : (op == 12) = false := by simp; omega
  have k13 : (op == 13) = false := by simp; omega
  have k14 : (op == 14) = false := by simp; omega
  have k15 : (op == 15) = false := by simp; omega
  have k16 : (op == 16) = false := by simp; omega
  have k17 : (op == 17) = false := by simp; omega
  have k18 : (op == 18) = false := by simp; omega
  clear h
  go_enter Try.func27, Try.ntmps27
  go_wp2_with (go_at_call 30; refine (truthR_any _ _).mono ?_; rintro e w' ⟨rfl, rfl⟩)
  go_ret2
  exact ⟨rfl, rfl⟩
theorem binR_any (op a b : Int) (w : World) : Calls Try.prog 27 #[.int .i64 op, .int .i64 a, .int .i64 b] w fun e w' => e = .returned (.tuple #[.int .i64 (binS op a b).1, .bool (binS op a b).2]) ∧ w = w' := by
  by_cases h : op < 6 ∨ 18 < op
  · have e : binS op a b = (0, false) := by unfold binS; repeat rw [if_neg (by omega)]
    rw [e]
    exact binR_no op a b h w
  · have h' : op = 6 ∨ op = 7 ∨ op = 8 ∨ op = 9 ∨ op = 10 ∨ op = 11 ∨ op = 12 ∨ op = 13 ∨ op = 14 ∨ op = 15 ∨ op = 16 ∨ op = 17 ∨ op = 18 := by omega
    rcases h' with rfl | rfl | rfl | rfl | rfl | rfl | rfl | rfl | rfl | rfl | rfl | rfl | rfl
    · exact binR_6 a b w
    · exact binR_7 a b w
    · exact binR_8 a b w
    · exact binR_9 a b w
    · exact binR_10 a b w
    · exact binR_11 a b w
    · exact binR_12 a b w
    · exact binR_13 a b w
    · exact binR_14 a b w
    · exact binR_15 a b w
    · exact binR_16 a b w
    · exact binR_17 a b w
    · exact binR_18 a b w
theorem unR_any (op a : Int) (w : World) : Calls Try.prog 26 #[.int .i64 op, .int .i64 a] w fun e w' => e = .returned (.tuple #[.int .i64 (unS op a).1, .bool (unS op a).2]) ∧ w = w' := by
  by_cases h4 : op = 4
  · subst h4
    go_enter Try.func26, Try.ntmps26
    go_wp2_with (go_at_call 30; refine (truthR_any _ _).mono ?_; rintro e w' ⟨rfl, rfl⟩)
    go_ret2
    exact ⟨rfl, rfl⟩
  by_cases h5 : op = 5
  · subst h5
    go_enter Try.func26, Try.ntmps26
    go_wp2_with (go_at_call 30; refine (truthR_any _ _).mono ?_; rintro e w' ⟨rfl, rfl⟩)
    go_ret2
    exact ⟨rfl, rfl⟩
  have e : unS op a = (0, false) := by simp [unS, h4, h5]
  rw [e]
  clear e
  have k4 : (op == 4) = false := by simpa using h4
  have k5 : (op == 5) = false := by simpa using h5
  clear h4 h5
  go_enter Try.func26, Try.ntmps26
  go_wp2_with (go_at_call 30; refine (truthR_any _ _).mono ?_; rintro e w' ⟨rfl, rfl⟩)
  go_ret2
  exact ⟨rfl, rfl⟩

end Go.Proofs.Ytdaejmkoenhbkaa
