/- EvalRing: addition and multiplication are commutative and distributive, subtraction is the addition of the negated number, modulo 2^64. -/
import Derived.Test.YtdaejmkoenhbkaaAw
namespace Go.Proofs.Ytdaejmkoenhbkaa.evalRing
open Go.ChangeShapes Go.WideShapes Go.ChangeAt Go.RowKit
set_option linter.unusedVariables false

set_option maxRecDepth 100000 in
theorem core (a b c ab m x y d ng : Int) (h1 : Hid (binS 6 a b = (ab, true))) (h2 : Hid (binS 6 b a = (ab, true))) (h3 : Hid (binS 8 ab c = (m, true)))
    (h4 : Hid (binS 8 c a = (x, true))) (h5 : Hid (binS 8 c b = (y, true))) (h6 : Hid (binS 6 x y = (m, true))) (h7 : Hid (binS 7 a b = (d, true)))
    (h8 : Hid (unS 4 b = (ng, true))) (h9 : Hid (binS 6 a ng = (d, true))) (w : World) :
    Calls Try.prog 7 #[.int .i64 a, .int .i64 b, .int .i64 c] w fun e w' => e = .returned (.bool true) ∧ w = w' := by
  go_enter Try.func7, Try.ntmps7
  go_wp2_with fail
  refine (bin_any _ _ _ _).mono ?_; rintro e w' ⟨rfl, rfl⟩
  rw [h1.out]
  go_wp2_with fail
  refine (bin_any _ _ _ _).mono ?_; rintro e w' ⟨rfl, rfl⟩
  rw [h2.out]
  go_wp2_with fail
  refine (bin_any _ _ _ _).mono ?_; rintro e w' ⟨rfl, rfl⟩
  rw [h3.out]
  go_wp2_with fail
  refine (bin_any _ _ _ _).mono ?_; rintro e w' ⟨rfl, rfl⟩
  rw [h4.out]
  go_wp2_with fail
  refine (bin_any _ _ _ _).mono ?_; rintro e w' ⟨rfl, rfl⟩
  rw [h5.out]
  go_wp2_with fail
  refine (bin_any _ _ _ _).mono ?_; rintro e w' ⟨rfl, rfl⟩
  rw [h6.out]
  go_wp2_with fail
  refine (bin_any _ _ _ _).mono ?_; rintro e w' ⟨rfl, rfl⟩
  rw [h7.out]
  go_wp2_with fail
  refine (un_any _ _ _).mono ?_; rintro e w' ⟨rfl, rfl⟩
  rw [h8.out]
  go_wp2_with fail
  refine (bin_any _ _ _ _).mono ?_; rintro e w' ⟨rfl, rfl⟩
  rw [h9.out]
  go_wp2_with fail
  refine (awake_any _).mono ?_; rintro e w' ⟨rfl, rfl⟩
  go_wp2_with fail
  go_ret
  exact ⟨rfl, rfl⟩
theorem wrap_eq (x : Int) : ∃ k, wrap64 x = x + 18446744073709551616 * k := ⟨-((x + 9223372036854775808) / 18446744073709551616), by unfold wrap64; omega⟩
theorem wrap_cong (x y : Int) (h : ∃ k, x = y + 18446744073709551616 * k) : wrap64 x = wrap64 y := by
  obtain ⟨k, rfl⟩ := h
  unfold wrap64
  omega
theorem dist (a b c : Int) : wrap64 (wrap64 (a + b) * c) = wrap64 (wrap64 (c * a) + wrap64 (c * b)) := by
  obtain ⟨k1, e1⟩ := wrap_eq (a + b)
  obtain ⟨k2, e2⟩ := wrap_eq (c * a)
  obtain ⟨k3, e3⟩ := wrap_eq (c * b)
  refine wrap_cong _ _ ⟨k1 * c - k2 - k3, ?_⟩
  rw [e1, e2, e3, Int.add_mul, Int.add_mul, Int.mul_comm c a, Int.mul_comm c b, Int.mul_assoc]
  omega
theorem subs (a b : Int) : wrap64 (a + wrap64 (-b)) = wrap64 (a - b) := by
  obtain ⟨k1, e1⟩ := wrap_eq (-b)
  refine wrap_cong _ _ ⟨k1, ?_⟩
  rw [e1]
  omega
theorem walk (a0 : Int) (a1 : Int) (a2 : Int) (w0 : (Lit.int .i64 a0).wf = true) (w1 : (Lit.int .i64 a1).wf = true) (w2 : (Lit.int .i64 a2).wf = true) (w : World) :
    Calls Try.prog 7 #[.int .i64 a0, .int .i64 a1, .int .i64 a2] w fun e w' => e = .returned (.bool true) ∧ Grown w w' := by
  refine (core a0 a1 a2 (wrap64 (a0 + a1)) (wrap64 (wrap64 (a0 + a1) * a2)) (wrap64 (a2 * a0)) (wrap64 (a2 * a1)) (wrap64 (a0 - a1)) (wrap64 (-a1)) ?_ ?_ ?_ ?_ ?_ ?_ ?_ ?_ ?_ w).mono (by rintro e w' ⟨rfl, rfl⟩; exact ⟨rfl, Grown.refl _⟩)
  all_goals refine Lib.hid ?_
  · simp [binS]
  · simp [binS, Int.add_comm]
  · simp [binS]
  · simp [binS]
  · simp [binS]
  · rw [dist]; simp [binS]
  · simp [binS]
  · simp [unS]
  · rw [← subs]; simp [binS]
theorem own : ownKnob Try.prog.godebug = none := by kernel_rfl
/-! ### THE ROW's STEP: WRITTEN OUT: LEAVE IT -/
set_option maxRecDepth 100000 in
theorem lifted (os : Os) (started : os.Started) (H : Type) (enc : TypeId × Value → H) :
    ReturnsInHanded {} Try.checked os 7 .any (Rows.evalRingSpec.pre6 enc Try.prog Try.f7 Rows.evalRingRow.domain false) (Rows.evalRingSpec.post enc Try.prog Try.f7 false true false false) := by
  refine returnsInHanded_of_change (C := Try.checked) own started (by kernel_rfl) Try.func7
    (ChangeSpec.witness6 (enc := enc) (C := Try.checked) false ⟨#[], #[.int .i64 0, .int .i64 0, .int .i64 0], []⟩ 8 (by kernel_rfl) (by kernel_rfl) (by kernel_rfl) (by kernel_rfl)) ?_
  intro W base args ds gs before hval0 hW hcnd _
  have hval : ∀ (j : Nat) t v, Try.f7.params[j]? = some t → args[j]? = some v → Value.okWide Try.prog W .any base t v := hval0
  have hW' := hW
  obtain ⟨p, q, hA0, hV, rfl, hfz, hnd⟩ := hW
  have hA : DataW.TrodAll enc Try.prog W 0 (fun _ => true) true Try.f7.params.toList args.toList ds p := hA0
  rw [Try.params7] at hA hval
  obtain ⟨v0, vs0, d0, ds0, p0, q0, hargs, rfl, rfl, h0, r0⟩ := trodAll_cons hA
  obtain ⟨v1, vs1, d1, ds1, p1, q1, rfl, rfl, rfl, h1, r1⟩ := trodAll_cons r0
  obtain ⟨v2, vs2, d2, ds2, p2, q2, rfl, rfl, rfl, h2, r2⟩ := trodAll_cons r1
  obtain ⟨rfl, rfl, rfl⟩ := trodAll_nil r2
  obtain rfl : args = #[v0, v1, v2] := by cases args; simp_all
  obtain ⟨rfl, rfl⟩ := trodVars_none hV
  obtain ⟨a0, rfl, rfl, rfl, w0⟩ := open_int Try.underlying2 (hval 0 2 v0 rfl rfl) h0
  obtain ⟨a1, rfl, rfl, rfl, w1⟩ := open_int Try.underlying2 (hval 1 2 v1 rfl rfl) h1
  obtain ⟨a2, rfl, rfl, rfl, w2⟩ := open_int Try.underlying2 (hval 2 2 v2 rfl rfl) h2
  clear hA0 hval0
  simp only [List.append_nil] at hW'
  refine (walk a0 a1 a2 w0 w1 w2 W).mono fun e W' ⟨he, hg⟩ => ?_
  subst he
  exact ⟨_, rfl, post_of_same (pa := []) (pv := []) hW' (fun _ _ _ => (trodAll_cons_mk (shut_bool Try.underlying4 _) trodAll_mk0)) (fun sp _ => (trodAll_cons_mk (shut_int Try.underlying2 w0) (trodAll_cons_mk (shut_int Try.underlying2 w1) (trodAll_cons_mk (shut_int Try.underlying2 w2) trodAll_mk0)))) (fun _ _ => rfl) rfl
    (hg.frame _) hg.2.1 (ok_one (by kernel_rfl) rfl (okWide_bool_mk Try.underlying4 _))⟩

theorem over : Rows.evalRingRow.holds Try.pinned (OpenSpec.ofChange Rows.evalRingSpec) :=
  OpenClaim.holds_of_wide 7 Try.f7 rfl rfl rfl rfl rfl rfl rfl ⟨rfl, rfl, rfl, rfl, rfl⟩ rfl rfl rfl rfl rfl (by kernel_rfl) Try.func7 (by kernel_rfl)
    (of_decide_eq_true (by kernel_rfl)) (by unfold Func.isWrapper; first | (rw [if_pos (by decide +kernel)]; kernel_rfl) | (rw [if_neg (by decide +kernel)]; exact ⟨rfl, rfl⟩))
    (fun os started H enc _ => lifted os started H enc)

/-- ████ THE STATEMENT ████ -/
theorem proved : Rows.EvalRingSaid :=
  over
#print axioms proved
end Go.Proofs.Ytdaejmkoenhbkaa.evalRing
