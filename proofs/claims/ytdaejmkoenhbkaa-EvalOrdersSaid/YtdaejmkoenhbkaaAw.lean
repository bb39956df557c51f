/- The contracts of awake and of Index, the program's and the reference's. -/
import Derived.Test.YtdaejmkoenhbkaaBin
import Derived.Lib.Hide
namespace Go.Proofs.Ytdaejmkoenhbkaa
open Go.ChangeShapes Go.WideShapes Go.ChangeAt Go.RowKit
set_option linter.unusedVariables false

theorem awake_any (w : World) : Calls Try.prog 17 #[] w fun e w' => e = .returned (.bool true) ∧ w = w' := by
  go_enter Try.func17, Try.ntmps17
  go_wp2_with fail
  refine (bin_any _ _ _ _).mono ?_; rintro e w' ⟨rfl, rfl⟩
  rw [show binS 6 2 3 = (5, true) from by rw [show binS 6 2 3 = (wrap64 (2 + 3), true) from rfl, IntWalk.wrap64_in _ (by omega)]; rfl]
  go_wp2_with fail
  go_ret
  exact ⟨rfl, rfl⟩
theorem wf64 {a : Int} (h : (Lit.int .i64 a).wf = true) : -9223372036854775808 ≤ a ∧ a ≤ 9223372036854775807 := by
  simpa [Lit.wf, IntKind.min, IntKind.max, IntKind.signed, IntKind.bits] using h
def idxS (i n : Int) : Int := if n < 1 then 0 else i % n
theorem ret_i {k : IntKind} {a b : Int} (h : a = b) : Ending.returned (.int k a) = .returned (.int k b) := by rw [h]
theorem tmod_neg {i n : Int} (h : 0 < n) (hr : i.tmod n < 0) : i % n = i.tmod n + n := by
  rw [Int.tmod_eq_emod] at hr ⊢
  split at hr
  · have := Int.emod_nonneg i (b := n) (by omega); omega
  · rename_i hc; rw [if_neg hc]; omega
theorem tmod_pos {i n : Int} (h : 0 < n) (hr : 0 ≤ i.tmod n) : i % n = i.tmod n := by
  rw [Int.tmod_eq_emod] at hr ⊢
  split at hr
  · rename_i hc; rw [if_pos hc]; omega
  · have := Int.emod_lt_of_pos i h; omega
theorem tmod_bd (i n : Int) (h : 0 < n) : -n < i.tmod n ∧ i.tmod n < n := by
  have h1 := Int.natAbs_tmod i n
  have h2 := Nat.mod_lt i.natAbs (y := n.natAbs) (by omega)
  omega

theorem index_any (i n : Int) (hn : n ≤ 9223372036854775807) (w : World) : Calls Try.prog 18 #[.int .i64 i, .int .i64 n] w fun e w' => e = .returned (.int .i64 (idxS i n)) ∧ w = w' := by
  by_cases h : n < 1
  · go_enter Try.func18, Try.ntmps18
    go_wp2_with fail
    go_ret
    exact ⟨ret_i (by unfold idxS; rw [if_pos h]), rfl⟩
  · have hb := tmod_bd i n (by omega)
    have hz : (n == 0) = false := by simp; omega
    by_cases hr : i.tmod n < 0
    · have e := tmod_neg (by omega) hr
      have H : Hid (idxS i n = i.tmod n + n) := Lib.hid (by unfold idxS; rw [if_neg h]; exact e)
      clear e
      go_enter Try.func18, Try.ntmps18
      go_wp2_with fail
      go_ret
      exact ⟨ret_i (by rw [H.out]), rfl⟩
    · have e := tmod_pos (i := i) (n := n) (by omega) (by omega)
      have H : Hid (idxS i n = i.tmod n) := Lib.hid (by unfold idxS; rw [if_neg h]; exact e)
      clear e
      go_enter Try.func18, Try.ntmps18
      go_wp2_with fail
      go_ret
      exact ⟨ret_i (by rw [H.out]), rfl⟩

theorem indexR_any (i n : Int) (hn : n ≤ 9223372036854775807) (w : World) : Calls Try.prog 19 #[.int .i64 i, .int .i64 n] w fun e w' => e = .returned (.int .i64 (idxS i n)) ∧ w = w' := by
  by_cases h : n < 1
  · go_enter Try.func19, Try.ntmps19
    go_wp2_with fail
    go_ret
    exact ⟨ret_i (by unfold idxS; rw [if_pos h]), rfl⟩
  · have hb := tmod_bd i n (by omega)
    have hz : (n == 0) = false := by simp; omega
    by_cases hr : i.tmod n < 0
    · have e := tmod_neg (by omega) hr
      have H : Hid (idxS i n = i.tmod n + n) := Lib.hid (by unfold idxS; rw [if_neg h]; exact e)
      clear e
      go_enter Try.func19, Try.ntmps19
      go_wp2_with fail
      go_ret
      exact ⟨ret_i (by rw [H.out]), rfl⟩
    · have e := tmod_pos (i := i) (n := n) (by omega) (by omega)
      have H : Hid (idxS i n = i.tmod n) := Lib.hid (by unfold idxS; rw [if_neg h]; exact e)
      clear e
      go_enter Try.func19, Try.ntmps19
      go_wp2_with fail
      go_ret
      exact ⟨ret_i (by rw [H.out]), rfl⟩
end Go.Proofs.Ytdaejmkoenhbkaa
