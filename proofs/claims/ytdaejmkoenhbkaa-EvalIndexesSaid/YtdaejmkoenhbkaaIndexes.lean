/- EvalIndexes: Index returns the specified remainder, from 0 to n - 1, the same for i and i + n. -/
import Derived.Test.YtdaejmkoenhbkaaAw
namespace Go.Proofs.Ytdaejmkoenhbkaa.evalIndexes
open Go.ChangeShapes Go.WideShapes Go.ChangeAt Go.RowKit
set_option linter.unusedVariables false

theorem walk0 (i n : Int) (h : n < 1) (w : World) : Calls Try.prog 8 #[.int .i64 i, .int .i64 n] w fun e w' => e = .returned (.bool true) ∧ w = w' := by
  have H : Hid (idxS i n = 0) := Lib.hid (by unfold idxS; rw [if_pos h])
  go_enter Try.func8, Try.ntmps8
  go_wp2_with fail
  refine (index_any _ _ (by omega) _).mono ?_; rintro e w' ⟨rfl, rfl⟩
  rw [H.out]
  go_wp2_with fail
  refine (awake_any _).mono ?_; rintro e w' ⟨rfl, rfl⟩
  go_wp2_with fail
  go_ret
  exact ⟨rfl, rfl⟩
theorem walk1 (i n r : Int) (H : Hid (idxS i n = r)) (h : 1 ≤ n) (hn : n ≤ 9223372036854775807) (hr0 : 0 ≤ r) (hrn : r < n) (hbig : 4611686018427387904 ≤ i ∨ 4611686018427387904 ≤ n) (w : World) : Calls Try.prog 8 #[.int .i64 i, .int .i64 n] w fun e w' => e = .returned (.bool true) ∧ w = w' := by
  rcases Int.lt_or_le i 4611686018427387904 with hc | hc
  · have hd : decide (4611686018427387904 ≤ i) = false := by simp; omega
    have hd2 : decide (4611686018427387904 ≤ n) = true := by simp; omega
    go_enter Try.func8, Try.ntmps8
    go_wp2_with fail
    refine (index_any _ _ (by omega) _).mono ?_; rintro e w' ⟨rfl, rfl⟩
    rw [H.out]
    go_wp2_with fail
    refine (indexR_any _ _ (by omega) _).mono ?_; rintro e w' ⟨rfl, rfl⟩
    rw [H.out]
    go_wp2_with fail
    refine (awake_any _).mono ?_; rintro e w' ⟨rfl, rfl⟩
    go_wp2_with fail
    go_ret
    exact ⟨rfl, rfl⟩
  · have hd : decide (4611686018427387904 ≤ i) = true := by simp; omega
    go_enter Try.func8, Try.ntmps8
    go_wp2_with fail
    refine (index_any _ _ (by omega) _).mono ?_; rintro e w' ⟨rfl, rfl⟩
    rw [H.out]
    go_wp2_with fail
    refine (indexR_any _ _ (by omega) _).mono ?_; rintro e w' ⟨rfl, rfl⟩
    rw [H.out]
    go_wp2_with fail
    refine (awake_any _).mono ?_; rintro e w' ⟨rfl, rfl⟩
    go_wp2_with fail
    go_ret
    exact ⟨rfl, rfl⟩
theorem walk2 (i n r : Int) (H : Hid (idxS i n = r)) (H2 : Hid (idxS (i + n) n = r)) (h : 1 ≤ n) (hi0 : -9223372036854775808 ≤ i) (hr0 : 0 ≤ r) (hrn : r < n) (hi : i < 4611686018427387904) (hn : n < 4611686018427387904) (w : World) : Calls Try.prog 8 #[.int .i64 i, .int .i64 n] w fun e w' => e = .returned (.bool true) ∧ w = w' := by
  have hd : decide (4611686018427387904 ≤ i) = false := by simp; omega
  have hd2 : decide (4611686018427387904 ≤ n) = false := by simp; omega
  go_enter Try.func8, Try.ntmps8
  go_wp2_with fail
  refine (index_any _ _ (by omega) _).mono ?_; rintro e w' ⟨rfl, rfl⟩
  rw [H.out]
  go_wp2_with fail
  refine (indexR_any _ _ (by omega) _).mono ?_; rintro e w' ⟨rfl, rfl⟩
  rw [H.out]
  go_wp2_with fail
  refine (index_any _ _ (by omega) _).mono ?_; rintro e w' ⟨rfl, rfl⟩
  rw [H2.out]
  go_wp2_with fail
  refine (awake_any _).mono ?_; rintro e w' ⟨rfl, rfl⟩
  go_wp2_with fail
  go_ret
  exact ⟨rfl, rfl⟩
theorem walk (a0 : Int) (a1 : Int) (w0 : (Lit.int .i64 a0).wf = true) (w1 : (Lit.int .i64 a1).wf = true) (w : World) :
    Calls Try.prog 8 #[.int .i64 a0, .int .i64 a1] w fun e w' => e = .returned (.bool true) ∧ Grown w w' := by
  have ha := wf64 w0
  have hb := wf64 w1
  suffices h : Calls Try.prog 8 #[.int .i64 a0, .int .i64 a1] w fun e w' => e = .returned (.bool true) ∧ w = w' from
    h.mono (by rintro e w' ⟨rfl, rfl⟩; exact ⟨rfl, Grown.refl _⟩)
  by_cases h : a1 < 1
  · exact walk0 a0 a1 h w
  have e : idxS a0 a1 = a0 % a1 := by unfold idxS; rw [if_neg h]
  have e2 : idxS (a0 + a1) a1 = a0 % a1 := by unfold idxS; rw [if_neg h, Int.add_emod_right]
  have h1 := Int.emod_nonneg a0 (b := a1) (by omega)
  have h2 := Int.emod_lt_of_pos a0 (b := a1) (by omega)
  by_cases hbig : 4611686018427387904 ≤ a0 ∨ 4611686018427387904 ≤ a1
  · exact walk1 a0 a1 _ (Lib.hid e) (by omega) (by omega) h1 h2 hbig w
  · exact walk2 a0 a1 _ (Lib.hid e) (Lib.hid e2) (by omega) (by omega) h1 h2 (by omega) (by omega) w
theorem own : ownKnob Try.prog.godebug = none := by kernel_rfl
/-! ### THE ROW's STEP: WRITTEN OUT: LEAVE IT -/
set_option maxRecDepth 100000 in
theorem lifted (os : Os) (started : os.Started) (H : Type) (enc : TypeId × Value → H) :
    ReturnsInHanded {} Try.checked os 8 .any (Rows.evalIndexesSpec.pre6 enc Try.prog Try.f8 Rows.evalIndexesRow.domain false) (Rows.evalIndexesSpec.post enc Try.prog Try.f8 false true false false) := by
  refine returnsInHanded_of_change (C := Try.checked) own started (by kernel_rfl) Try.func8
    (ChangeSpec.witness6 (enc := enc) (C := Try.checked) false ⟨#[], #[.int .i64 0, .int .i64 0], []⟩ 8 (by kernel_rfl) (by kernel_rfl) (by kernel_rfl) (by kernel_rfl)) ?_
  intro W base args ds gs before hval0 hW hcnd _
  have hval : ∀ (j : Nat) t v, Try.f8.params[j]? = some t → args[j]? = some v → Value.okWide Try.prog W .any base t v := hval0
  have hW' := hW
  obtain ⟨p, q, hA0, hV, rfl, hfz, hnd⟩ := hW
  have hA : DataW.TrodAll enc Try.prog W 0 (fun _ => true) true Try.f8.params.toList args.toList ds p := hA0
  rw [Try.params8] at hA hval
  obtain ⟨v0, vs0, d0, ds0, p0, q0, hargs, rfl, rfl, h0, r0⟩ := trodAll_cons hA
  obtain ⟨v1, vs1, d1, ds1, p1, q1, rfl, rfl, rfl, h1, r1⟩ := trodAll_cons r0
  obtain ⟨rfl, rfl, rfl⟩ := trodAll_nil r1
  obtain rfl : args = #[v0, v1] := by cases args; simp_all
  obtain ⟨rfl, rfl⟩ := trodVars_none hV
  obtain ⟨a0, rfl, rfl, rfl, w0⟩ := open_int Try.underlying2 (hval 0 2 v0 rfl rfl) h0
  obtain ⟨a1, rfl, rfl, rfl, w1⟩ := open_int Try.underlying3 (hval 1 3 v1 rfl rfl) h1
  clear hA0 hval0
  simp only [List.append_nil] at hW'
  refine (walk a0 a1 w0 w1 W).mono fun e W' ⟨he, hg⟩ => ?_
  subst he
  exact ⟨_, rfl, post_of_same (pa := []) (pv := []) hW' (fun _ _ _ => (trodAll_cons_mk (shut_bool Try.underlying4 _) trodAll_mk0)) (fun sp _ => (trodAll_cons_mk (shut_int Try.underlying2 w0) (trodAll_cons_mk (shut_int Try.underlying3 w1) trodAll_mk0))) (fun _ _ => rfl) rfl
    (hg.frame _) hg.2.1 (ok_one (by kernel_rfl) rfl (okWide_bool_mk Try.underlying4 _))⟩

theorem over : Rows.evalIndexesRow.holds Try.pinned (OpenSpec.ofChange Rows.evalIndexesSpec) :=
  OpenClaim.holds_of_wide 8 Try.f8 rfl rfl rfl rfl rfl rfl rfl ⟨rfl, rfl, rfl, rfl, rfl⟩ rfl rfl rfl rfl rfl (by kernel_rfl) Try.func8 (by kernel_rfl)
    (of_decide_eq_true (by kernel_rfl)) (by unfold Func.isWrapper; first | (rw [if_pos (by decide +kernel)]; kernel_rfl) | (rw [if_neg (by decide +kernel)]; exact ⟨rfl, rfl⟩))
    (fun os started H enc _ => lifted os started H enc)

/-- ████ THE STATEMENT ████ -/
theorem proved : Rows.EvalIndexesSaid :=
  over
#print axioms proved
end Go.Proofs.Ytdaejmkoenhbkaa.evalIndexes
