/- EvalQuotients: the quotient times b plus the remainder is a; the remainder has the sign of a and is smaller than b: for all numbers of 64 bits. -/
import Derived.Test.YtdaejmkoenhbkaaBin
import Derived.Lib.Hide
namespace Go.Proofs.Ytdaejmkoenhbkaa.evalQuotients
open Go.ChangeShapes Go.WideShapes Go.ChangeAt Go.RowKit
set_option linter.unusedVariables false
set_option maxRecDepth 100000 in
theorem walk0 (a : Int) (w : World) :
    Calls Try.prog 4 #[.int .i64 a, .int .i64 0] w fun e w' => e = .returned (.bool true) ∧ w = w' := by
  go_enter Try.func4, Try.ntmps4
  go_wp2_with fail
  refine (bin_any _ _ _ _).mono ?_; rintro e w' ⟨rfl, rfl⟩
  rw [show binS 9 a 0 = (0, true) from rfl]
  go_wp2_with fail
  refine (bin_any _ _ _ _).mono ?_; rintro e w' ⟨rfl, rfl⟩
  rw [show binS 10 a 0 = (0, true) from rfl]
  go_wp2_with fail
  go_ret
  exact ⟨rfl, rfl⟩
set_option maxRecDepth 100000 in
theorem walkP (a b q r : Int) (h9 : Hid (binS 9 a b = (q, true))) (h10 : Hid (binS 10 a b = (r, true))) (h : (b == 0) = false) (hm : (b == -9223372036854775808) = false) (hp : 0 < b) (g1 : -b < r) (g2 : r < b) (hn : IntKind.i64.wrap (-b) = -b)
    (hq : Hid (wrap64 (wrap64 (q * b) + r) = a)) (hr : Hid ((r == 0 || decide (r < 0) == decide (a < 0)) = true)) (w : World) :
    Calls Try.prog 4 #[.int .i64 a, .int .i64 b] w fun e w' => e = .returned (.bool true) ∧ w = w' := by
  go_enter Try.func4, Try.ntmps4
  go_wp2_with fail
  refine (bin_any _ _ _ _).mono ?_; rintro e w' ⟨rfl, rfl⟩
  rw [h9.out]
  go_wp2_with fail
  refine (bin_any _ _ _ _).mono ?_; rintro e w' ⟨rfl, rfl⟩
  rw [h10.out]
  go_wp2_with fail
  all_goals first
    | (exfalso; have x := hq.out; contradiction)
    | (go_ret; refine ⟨?_, rfl⟩; first | rfl | exact congrArg (fun x => Ending.returned (Value.bool x)) hr.out)
set_option maxRecDepth 100000 in
theorem walkN (a b q r : Int) (h9 : Hid (binS 9 a b = (q, true))) (h10 : Hid (binS 10 a b = (r, true))) (h : (b == 0) = false) (hm : (b == -9223372036854775808) = false) (hp : b < 0) (hl : -9223372036854775808 < b) (g1 : b < r) (g2 : r < -b) (hn : IntKind.i64.wrap (-b) = -b)
    (hq : Hid (wrap64 (wrap64 (q * b) + r) = a)) (hr : Hid ((r == 0 || decide (r < 0) == decide (a < 0)) = true)) (w : World) :
    Calls Try.prog 4 #[.int .i64 a, .int .i64 b] w fun e w' => e = .returned (.bool true) ∧ w = w' := by
  go_enter Try.func4, Try.ntmps4
  go_wp2_with fail
  refine (bin_any _ _ _ _).mono ?_; rintro e w' ⟨rfl, rfl⟩
  rw [h9.out]
  go_wp2_with fail
  refine (bin_any _ _ _ _).mono ?_; rintro e w' ⟨rfl, rfl⟩
  rw [h10.out]
  go_wp2_with fail
  all_goals first
    | (exfalso; have x := hq.out; contradiction)
    | (go_ret; refine ⟨?_, rfl⟩; first | rfl | exact congrArg (fun x => Ending.returned (Value.bool x)) hr.out)
set_option maxRecDepth 100000 in
theorem walkM (a b q r : Int) (h9 : Hid (binS 9 a b = (q, true))) (h10 : Hid (binS 10 a b = (r, true))) (h : (b == 0) = false) (hm : (b == -9223372036854775808) = true) (hl : b ≤ -9223372036854775808)
    (hq : Hid (wrap64 (wrap64 (q * b) + r) = a)) (hr : Hid ((r == 0 || decide (r < 0) == decide (a < 0)) = true)) (w : World) :
    Calls Try.prog 4 #[.int .i64 a, .int .i64 b] w fun e w' => e = .returned (.bool true) ∧ w = w' := by
  go_enter Try.func4, Try.ntmps4
  go_wp2_with fail
  refine (bin_any _ _ _ _).mono ?_; rintro e w' ⟨rfl, rfl⟩
  rw [h9.out]
  go_wp2_with fail
  refine (bin_any _ _ _ _).mono ?_; rintro e w' ⟨rfl, rfl⟩
  rw [h10.out]
  go_wp2_with fail
  all_goals first
    | (exfalso; have x := hq.out; contradiction)
    | (go_ret; refine ⟨?_, rfl⟩; first | rfl | exact congrArg (fun x => Ending.returned (Value.bool x)) hr.out)

theorem wrap_cong (x y : Int) (h : ∃ k, x = y + 18446744073709551616 * k) (hy : -9223372036854775808 ≤ y ∧ y ≤ 9223372036854775807) : wrap64 x = y := by
  obtain ⟨k, rfl⟩ := h
  unfold wrap64
  omega
theorem wrap_eq (x : Int) : ∃ k, wrap64 x = x + 18446744073709551616 * k := ⟨-((x + 9223372036854775808) / 18446744073709551616), by unfold wrap64; omega⟩
theorem wf64 {a : Int} (h : (Lit.int .i64 a).wf = true) : -9223372036854775808 ≤ a ∧ a ≤ 9223372036854775807 := by
  simpa [Lit.wf, IntKind.min, IntKind.max, IntKind.signed, IntKind.bits] using h
theorem quo_rem (a b : Int) (ha : -9223372036854775808 ≤ a ∧ a ≤ 9223372036854775807) : wrap64 (wrap64 (wrap64 (a.tdiv b) * b) + a.tmod b) = a := by
  obtain ⟨k1, e1⟩ := wrap_eq (a.tdiv b)
  obtain ⟨k2, e2⟩ := wrap_eq (wrap64 (a.tdiv b) * b)
  refine wrap_cong _ _ ⟨k1 * b + k2, ?_⟩ ha
  rw [e2, e1]
  have e := Int.tmod_add_mul_tdiv a b
  have f : (a.tdiv b + 18446744073709551616 * k1) * b = b * a.tdiv b + 18446744073709551616 * (k1 * b) := by rw [Int.add_mul, Int.mul_comm b, Int.mul_assoc]
  rw [f, Int.mul_add]
  omega
theorem sign_rem (a b : Int) : (a.tmod b == 0 || decide (a.tmod b < 0) == decide (a < 0)) = true := by
  by_cases h : a.tmod b = 0
  · simp [h]
  have h' : (a.tmod b == 0) = false := by simpa using h
  rw [h', Bool.false_or]
  by_cases ha : a < 0
  · have h1 : a.tmod b ≤ 0 := by
      have := Int.tmod_nonneg (a := -a) b (by omega)
      rw [Int.neg_tmod] at this
      omega
    have h2 : a.tmod b < 0 := by omega
    simp [ha, h2]
  · have h1 : 0 ≤ a.tmod b := Int.tmod_nonneg b (by omega)
    have h2 : ¬ a.tmod b < 0 := by omega
    simp [ha, h2]
theorem walk (a0 : Int) (a1 : Int) (w0 : (Lit.int .i64 a0).wf = true) (w1 : (Lit.int .i64 a1).wf = true) (w : World) :
    Calls Try.prog 4 #[.int .i64 a0, .int .i64 a1] w fun e w' => e = .returned (.bool true) ∧ Grown w w' := by
  have ha := wf64 w0
  have hb := wf64 w1
  by_cases h : a1 = 0
  · subst h
    exact (walk0 a0 w).mono (by rintro e w' ⟨rfl, rfl⟩; exact ⟨rfl, Grown.refl _⟩)
  have e9 : binS 9 a0 a1 = (wrap64 (a0.tdiv a1), true) := by simp [binS, h]
  have e10 : binS 10 a0 a1 = (a0.tmod a1, true) := by simp [binS, h]
  have hq := quo_rem a0 a1 ha
  have hr := sign_rem a0 a1
  have h0 : (a1 == 0) = false := by simpa using h
  have hlt : a0.tmod a1 < a1.natAbs ∧ -(a1.natAbs : Int) < a0.tmod a1 := by
    have := Int.natAbs_tmod a0 a1
    have h2 := Nat.mod_lt a0.natAbs (y := a1.natAbs) (by omega)
    omega
  by_cases hm : a1 = -9223372036854775808
  · exact (walkM a0 a1 _ _ (Lib.hid e9) (Lib.hid e10) h0 (by simpa using hm) (by omega) (Lib.hid hq) (Lib.hid hr) w).mono (by rintro e w' ⟨rfl, rfl⟩; exact ⟨rfl, Grown.refl _⟩)
  have hm' : (a1 == -9223372036854775808) = false := by simpa using hm
  by_cases hp : 0 < a1
  · exact (walkP a0 a1 _ _ (Lib.hid e9) (Lib.hid e10) h0 hm' hp (by omega) (by omega) (IntWalk.i64_in _ (by omega)) (Lib.hid hq) (Lib.hid hr) w).mono (by rintro e w' ⟨rfl, rfl⟩; exact ⟨rfl, Grown.refl _⟩)
  · exact (walkN a0 a1 _ _ (Lib.hid e9) (Lib.hid e10) h0 hm' (by omega) (by omega) (by omega) (by omega) (IntWalk.i64_in _ (by omega)) (Lib.hid hq) (Lib.hid hr) w).mono (by rintro e w' ⟨rfl, rfl⟩; exact ⟨rfl, Grown.refl _⟩)

theorem own : ownKnob Try.prog.godebug = none := by kernel_rfl
/-! ### THE ROW's STEP: WRITTEN OUT: LEAVE IT -/
set_option maxRecDepth 100000 in
theorem lifted (os : Os) (started : os.Started) (H : Type) (enc : TypeId × Value → H) :
    ReturnsInHanded {} Try.checked os 4 .any (Rows.evalQuotientsSpec.pre6 enc Try.prog Try.f4 Rows.evalQuotientsRow.domain false) (Rows.evalQuotientsSpec.post enc Try.prog Try.f4 false true false false) := by
  refine returnsInHanded_of_change (C := Try.checked) own started (by kernel_rfl) Try.func4
    (ChangeSpec.witness6 (enc := enc) (C := Try.checked) false ⟨#[], #[.int .i64 0, .int .i64 0], []⟩ 8 (by kernel_rfl) (by kernel_rfl) (by kernel_rfl) (by kernel_rfl)) ?_
  intro W base args ds gs before hval0 hW hcnd _
  have hval : ∀ (j : Nat) t v, Try.f4.params[j]? = some t → args[j]? = some v → Value.okWide Try.prog W .any base t v := hval0
  have hW' := hW
  obtain ⟨p, q, hA0, hV, rfl, hfz, hnd⟩ := hW
  have hA : DataW.TrodAll enc Try.prog W 0 (fun _ => true) true Try.f4.params.toList args.toList ds p := hA0
  rw [Try.params4] at hA hval
  obtain ⟨v0, vs0, d0, ds0, p0, q0, hargs, rfl, rfl, h0, r0⟩ := trodAll_cons hA
  obtain ⟨v1, vs1, d1, ds1, p1, q1, rfl, rfl, rfl, h1, r1⟩ := trodAll_cons r0
  obtain ⟨rfl, rfl, rfl⟩ := trodAll_nil r1
  obtain rfl : args = #[v0, v1] := by cases args; simp_all
  obtain ⟨rfl, rfl⟩ := trodVars_none hV
  obtain ⟨a0, rfl, rfl, rfl, w0⟩ := open_int Try.underlying2 (hval 0 2 v0 rfl rfl) h0
  obtain ⟨a1, rfl, rfl, rfl, w1⟩ := open_int Try.underlying2 (hval 1 2 v1 rfl rfl) h1
  clear hA0 hval0
  simp only [List.append_nil] at hW'
  refine (walk a0 a1 w0 w1 W).mono fun e W' ⟨he, hg⟩ => ?_
  subst he
  exact ⟨_, rfl, post_of_same (pa := []) (pv := []) hW' (fun _ _ _ => (trodAll_cons_mk (shut_bool Try.underlying4 _) trodAll_mk0)) (fun sp _ => (trodAll_cons_mk (shut_int Try.underlying2 w0) (trodAll_cons_mk (shut_int Try.underlying2 w1) trodAll_mk0))) (fun _ _ => rfl) rfl
    (hg.frame _) hg.2.1 (ok_one (by kernel_rfl) rfl (okWide_bool_mk Try.underlying4 _))⟩

theorem over : Rows.evalQuotientsRow.holds Try.pinned (OpenSpec.ofChange Rows.evalQuotientsSpec) :=
  OpenClaim.holds_of_wide 4 Try.f4 rfl rfl rfl rfl rfl rfl rfl ⟨rfl, rfl, rfl, rfl, rfl⟩ rfl rfl rfl rfl rfl (by kernel_rfl) Try.func4 (by kernel_rfl)
    (of_decide_eq_true (by kernel_rfl)) (by unfold Func.isWrapper; first | (rw [if_pos (by decide +kernel)]; kernel_rfl) | (rw [if_neg (by decide +kernel)]; exact ⟨rfl, rfl⟩))
    (fun os started H enc _ => lifted os started H enc)

/-- ████ THE STATEMENT ████ -/
theorem proved : Rows.EvalQuotientsSaid :=
  over
#print axioms proved
end Go.Proofs.Ytdaejmkoenhbkaa.evalQuotients
