/- EvalOrders: of two numbers exactly one of less, equal, greater holds; the other comparisons are their negations; and, or are their combinations. -/
import Derived.Test.YtdaejmkoenhbkaaAw
import Derived.Handy
import Derived.Outline
import Derived.Deep.QuietTactic
import Derived.BigQuiet
namespace Go.Proofs.Ytdaejmkoenhbkaa.evalOrders
open Go.ChangeShapes Go.WideShapes Go.ChangeAt Go.RowKit
set_option linter.unusedVariables false

def arr (v : Nat → Int) : Nat → Array Value
  | 0 => #[.int .i64 0, .int .i64 0, .int .i64 0, .int .i64 0, .int .i64 0, .int .i64 0, .int .i64 0, .int .i64 0]
  | 1 => #[.int .i64 (v 0), .int .i64 0, .int .i64 0, .int .i64 0, .int .i64 0, .int .i64 0, .int .i64 0, .int .i64 0]
  | 2 => #[.int .i64 (v 0), .int .i64 (v 1), .int .i64 0, .int .i64 0, .int .i64 0, .int .i64 0, .int .i64 0, .int .i64 0]
  | 3 => #[.int .i64 (v 0), .int .i64 (v 1), .int .i64 (v 2), .int .i64 0, .int .i64 0, .int .i64 0, .int .i64 0, .int .i64 0]
  | 4 => #[.int .i64 (v 0), .int .i64 (v 1), .int .i64 (v 2), .int .i64 (v 3), .int .i64 0, .int .i64 0, .int .i64 0, .int .i64 0]
  | 5 => #[.int .i64 (v 0), .int .i64 (v 1), .int .i64 (v 2), .int .i64 (v 3), .int .i64 (v 4), .int .i64 0, .int .i64 0, .int .i64 0]
  | 6 => #[.int .i64 (v 0), .int .i64 (v 1), .int .i64 (v 2), .int .i64 (v 3), .int .i64 (v 4), .int .i64 (v 5), .int .i64 0, .int .i64 0]
  | 7 => #[.int .i64 (v 0), .int .i64 (v 1), .int .i64 (v 2), .int .i64 (v 3), .int .i64 (v 4), .int .i64 (v 5), .int .i64 (v 6), .int .i64 0]
  | _ => #[.int .i64 (v 0), .int .i64 (v 1), .int .i64 (v 2), .int .i64 (v 3), .int .i64 (v 4), .int .i64 (v 5), .int .i64 (v 6), .int .i64 (v 7)]

def W (w : World) (v : Nat → Int) (k : Nat) : World := (w.alloc (.cells #[.int .i64 13, .int .i64 11, .int .i64 15, .int .i64 16, .int .i64 12, .int .i64 14, .int .i64 17, .int .i64 18] 3)).alloc (.cells (arr v k) 2)
def At (w : World) (v : Nat → Int) (i : Value) (wr : World) : Prop := ∃ k : Nat, k ≤ 8 ∧ i = .int .i64 k ∧ wr = W w v k

theorem grown_drewN {W w' : World} (h : Grown W w') (n : Nat) : Grown W (w'.drewN n) := h
set_option maxHeartbeats 1000000 in
set_option maxRecDepth 100000 in
theorem core (a b : Int) (v : Nat → Int) (x y : Int) (w : World)
    (h0 : Hid (binS 13 a b = (v 0, true))) (c0 : Hid (v 0 = 0 ∨ v 0 = 1))
    (h1 : Hid (binS 11 a b = (v 1, true))) (c1 : Hid (v 1 = 0 ∨ v 1 = 1))
    (h2 : Hid (binS 15 a b = (v 2, true))) (c2 : Hid (v 2 = 0 ∨ v 2 = 1))
    (h3 : Hid (binS 16 a b = (v 3, true))) (c3 : Hid (v 3 = 0 ∨ v 3 = 1))
    (h4 : Hid (binS 12 a b = (v 4, true))) (c4 : Hid (v 4 = 0 ∨ v 4 = 1))
    (h5 : Hid (binS 14 a b = (v 5, true))) (c5 : Hid (v 5 = 0 ∨ v 5 = 1))
    (h6 : Hid (binS 17 a b = (v 6, true))) (c6 : Hid (v 6 = 0 ∨ v 6 = 1))
    (h7 : Hid (binS 18 a b = (v 7, true))) (c7 : Hid (v 7 = 0 ∨ v 7 = 1))
    (hx : Hid (unS 5 a = (x, true))) (hy : Hid (unS 5 b = (y, true))) (cx : 0 ≤ x ∧ x ≤ 1) (cy : 0 ≤ y ∧ y ≤ 1)
    (t0 : Hid (v 0 + v 1 + v 2 = 1)) (t3 : Hid (v 3 = 1 - v 0)) (t4 : Hid (v 4 = 1 - v 1)) (t5 : Hid (v 5 = 1 - v 2)) (t6 : Hid (v 6 = (1 - x) * (1 - y))) (t7 : Hid (v 7 = 1 - x * y)) :
    Calls Try.prog 6 #[.int .i64 a, .int .i64 b] w fun e w' => e = .returned (.bool true) ∧ Grown w w' := by
  have hmk : ∀ w : World, (Instr.makeSlice 34 (.int .i64 8) (.int .i64 8)).run Try.prog w = .ok (.slice (some ⟨w.heap.size, 0, none⟩) 8 8) (w.alloc (.cells #[.int .i64 0, .int .i64 0, .int .i64 0, .int .i64 0, .int .i64 0, .int .i64 0, .int .i64 0, .int .i64 0] 2)) := fun _ => by kernel_rfl
  go_enter Try.func6, Try.ntmps6
  go_wp2_with fail
  go_loopw [7] (fun i wr => At w v i wr) (fun i _ => 8 - (intOf i).toNat)
  case atStart => exact ⟨0, by omega, rfl, rfl⟩
  case round =>
    obtain ⟨k, hk, rfl, rfl⟩ := hrel
    clear hmk
    have hk' : k = 0 ∨ k = 1 ∨ k = 2 ∨ k = 3 ∨ k = 4 ∨ k = 5 ∨ k = 6 ∨ k = 7 ∨ k = 8 := by omega
    clear hk
    rcases hk' with rfl | rfl | rfl | rfl | rfl | rfl | rfl | rfl | rfl
    · simp only [W, arr]
      rcases c0.out with hv | hv
      all_goals
        have HV := Lib.hid hv
        clear hv
        go_wp2_with fail
        refine (bin_any _ _ _ _).mono ?_; rintro e w' ⟨rfl, rfl⟩
        rw [h0.out, HV.out]
        go_wp2_with fail
        go_roundw
        case rel => exact ⟨1, by omega, rfl, by simp [W, arr, HV.out]⟩
        case measure => simp [intOf]
    · simp only [W, arr]
      rcases c1.out with hv | hv
      all_goals
        have HV := Lib.hid hv
        clear hv
        go_wp2_with fail
        refine (bin_any _ _ _ _).mono ?_; rintro e w' ⟨rfl, rfl⟩
        rw [h1.out, HV.out]
        go_wp2_with fail
        go_roundw
        case rel => exact ⟨2, by omega, rfl, by simp [W, arr, HV.out]⟩
        case measure => simp [intOf]
    · simp only [W, arr]
      rcases c2.out with hv | hv
      all_goals
        have HV := Lib.hid hv
        clear hv
        go_wp2_with fail
        refine (bin_any _ _ _ _).mono ?_; rintro e w' ⟨rfl, rfl⟩
        rw [h2.out, HV.out]
        go_wp2_with fail
        go_roundw
        case rel => exact ⟨3, by omega, rfl, by simp [W, arr, HV.out]⟩
        case measure => simp [intOf]
    · simp only [W, arr]
      rcases c3.out with hv | hv
      all_goals
        have HV := Lib.hid hv
        clear hv
        go_wp2_with fail
        refine (bin_any _ _ _ _).mono ?_; rintro e w' ⟨rfl, rfl⟩
        rw [h3.out, HV.out]
        go_wp2_with fail
        go_roundw
        case rel => exact ⟨4, by omega, rfl, by simp [W, arr, HV.out]⟩
        case measure => simp [intOf]
    · simp only [W, arr]
      rcases c4.out with hv | hv
      all_goals
        have HV := Lib.hid hv
        clear hv
        go_wp2_with fail
        refine (bin_any _ _ _ _).mono ?_; rintro e w' ⟨rfl, rfl⟩
        rw [h4.out, HV.out]
        go_wp2_with fail
        go_roundw
        case rel => exact ⟨5, by omega, rfl, by simp [W, arr, HV.out]⟩
        case measure => simp [intOf]
    · simp only [W, arr]
      rcases c5.out with hv | hv
      all_goals
        have HV := Lib.hid hv
        clear hv
        go_wp2_with fail
        refine (bin_any _ _ _ _).mono ?_; rintro e w' ⟨rfl, rfl⟩
        rw [h5.out, HV.out]
        go_wp2_with fail
        go_roundw
        case rel => exact ⟨6, by omega, rfl, by simp [W, arr, HV.out]⟩
        case measure => simp [intOf]
    · simp only [W, arr]
      rcases c6.out with hv | hv
      all_goals
        have HV := Lib.hid hv
        clear hv
        go_wp2_with fail
        refine (bin_any _ _ _ _).mono ?_; rintro e w' ⟨rfl, rfl⟩
        rw [h6.out, HV.out]
        go_wp2_with fail
        go_roundw
        case rel => exact ⟨7, by omega, rfl, by simp [W, arr, HV.out]⟩
        case measure => simp [intOf]
    · simp only [W, arr]
      rcases c7.out with hv | hv
      all_goals
        have HV := Lib.hid hv
        clear hv
        go_wp2_with fail
        refine (bin_any _ _ _ _).mono ?_; rintro e w' ⟨rfl, rfl⟩
        rw [h7.out, HV.out]
        go_wp2_with fail
        go_roundw
        case rel => exact ⟨8, by omega, rfl, by simp [W, arr, HV.out]⟩
        case measure => simp [intOf]
    · simp only [W, arr]
      have b0 := c0.out; have b1 := c1.out; have b2 := c2.out; have b3 := c3.out; have b4 := c4.out; have b5 := c5.out
      have e0 := t0.out; have e3 := t3.out; have e4 := t4.out; have e5 := t5.out
      clear h0 h1 h2 h3 h4 h5 h6 h7 c0 c1 c2 c3 c4 c5 c6 c7 t0 t3 t4 t5
      generalize v 0 = x0 at *; generalize v 1 = x1 at *; generalize v 2 = x2 at *; generalize v 3 = x3 at *
      generalize v 4 = x4 at *; generalize v 5 = x5 at *; generalize v 6 = x6 at *; generalize v 7 = x7 at *
      have s1 : IntKind.i64.wrap (x0 + x1) = x0 + x1 := IntWalk.i64_in _ (by omega)
      have s2 : IntKind.i64.wrap (x0 + x1 + x2) = x0 + x1 + x2 := IntWalk.i64_in _ (by omega)
      have s3 : (x0 + x1 + x2 != 1) = false := by simp [e0]
      have s4 : IntKind.i64.wrap (1 - x0) = 1 - x0 := IntWalk.i64_in _ (by omega)
      have s5 : IntKind.i64.wrap (1 - x1) = 1 - x1 := IntWalk.i64_in _ (by omega)
      have s6 : IntKind.i64.wrap (1 - x2) = 1 - x2 := IntWalk.i64_in _ (by omega)
      have s7 : (x3 != 1 - x0) = false := by simp [e3]
      have s8 : (x4 != 1 - x1) = false := by simp [e4]
      have s9 : (x5 != 1 - x2) = false := by simp [e5]
      clear b0 b1 b2 b3 b4 b5 e0 e3 e4 e5
      go_wp2_with fail
      go_quiet (fail)
      clear s1 s2 s3 s4 s5 s6 s7 s8 s9
      go_wp2_with fail
      refine (un_any _ _ _).mono ?_; rintro e w' ⟨rfl, rfl⟩
      rw [hx.out]
      go_wp2_with fail
      refine (un_any _ _ _).mono ?_; rintro e w' ⟨rfl, rfl⟩
      rw [hy.out]
      have hxy : 0 ≤ x * y ∧ x * y ≤ 1 := by
        have hx' : x = 0 ∨ x = 1 := by omega
        rcases hx' with rfl | rfl <;> simp <;> omega
      have hxy2 : 0 ≤ (1 - x) * (1 - y) ∧ (1 - x) * (1 - y) ≤ 1 := by
        have hx' : x = 0 ∨ x = 1 := by omega
        rcases hx' with rfl | rfl <;> simp <;> omega
      have q1 : IntKind.i64.wrap ((1 - x) * (1 - y)) = (1 - x) * (1 - y) := IntWalk.i64_in _ (by omega)
      have q2 : IntKind.i64.wrap (x * y) = x * y := IntWalk.i64_in _ (by omega)
      have q3 : IntKind.i64.wrap (1 - x * y) = 1 - x * y := IntWalk.i64_in _ (by omega)
      have q4 : (x6 == (1 - x) * (1 - y)) = true := by simp [t6.out]
      have q5 : (x7 == 1 - x * y) = true := by simp [t7.out]
      clear hxy hxy2
      go_wp2_with fail

      go_ret
      exact ⟨rfl, grown_drewN (by go_grown) _⟩

theorem tru01 (b : Bool) : tru b = 0 ∨ tru b = 1 := by cases b <;> simp [tru]
theorem walk (a0 : Int) (a1 : Int) (w0 : (Lit.int .i64 a0).wf = true) (w1 : (Lit.int .i64 a1).wf = true) (w : World) :
    Calls Try.prog 6 #[.int .i64 a0, .int .i64 a1] w fun e w' => e = .returned (.bool true) ∧ Grown w w' := by
  clear w0 w1
  refine core a0 a1 (fun k => match k with | 0 => tru (decide (a0 < a1)) | 1 => tru (a0 == a1) | 2 => tru (decide (a1 < a0)) | 3 => tru (decide (a1 ≤ a0)) | 4 => tru (a0 != a1) | 5 => tru (decide (a0 ≤ a1)) | 6 => tru (a0 != 0 && a1 != 0) | _ => tru (a0 != 0 || a1 != 0))
    (tru (a0 == 0)) (tru (a1 == 0)) w (Lib.hid rfl) (Lib.hid (tru01 _)) (Lib.hid rfl) (Lib.hid (tru01 _)) (Lib.hid rfl) (Lib.hid (tru01 _)) (Lib.hid rfl) (Lib.hid (tru01 _)) (Lib.hid rfl) (Lib.hid (tru01 _)) (Lib.hid rfl) (Lib.hid (tru01 _)) (Lib.hid rfl) (Lib.hid (tru01 _)) (Lib.hid rfl) (Lib.hid (tru01 _))
    (Lib.hid rfl) (Lib.hid rfl) (by have := tru01 (a0 == 0); omega) (by have := tru01 (a1 == 0); omega) (Lib.hid ?_) (Lib.hid ?_) (Lib.hid ?_) (Lib.hid ?_) (Lib.hid ?_) (Lib.hid ?_)
  · rcases Int.lt_trichotomy a0 a1 with h | h | h
    · have : ¬ a1 < a0 := by omega
      have h2 : ¬ a0 = a1 := by omega
      simp [tru, h, this, h2]
    · subst h; simp [tru]
    · have : ¬ a0 < a1 := by omega
      have h2 : ¬ a0 = a1 := by omega
      simp [tru, h, this, h2]
  · by_cases h : a0 < a1
    · have : ¬ a1 ≤ a0 := by omega
      simp [tru, h, this]
    · have : a1 ≤ a0 := by omega
      simp [tru, h, this]
  · by_cases h : a0 = a1 <;> simp [tru, h]
  · by_cases h : a1 < a0
    · have : ¬ a0 ≤ a1 := by omega
      simp [tru, h, this]
    · have : a0 ≤ a1 := by omega
      simp [tru, h, this]
  · by_cases h : a0 = 0 <;> by_cases h2 : a1 = 0 <;> simp [tru, h, h2]
  · by_cases h : a0 = 0 <;> by_cases h2 : a1 = 0 <;> simp [tru, h, h2]
theorem own : ownKnob Try.prog.godebug = none := by kernel_rfl
/-! ### THE ROW's STEP: WRITTEN OUT: LEAVE IT -/
set_option maxRecDepth 100000 in
theorem lifted (os : Os) (started : os.Started) (H : Type) (enc : TypeId × Value → H) :
    ReturnsInHanded {} Try.checked os 6 .any (Rows.evalOrdersSpec.pre6 enc Try.prog Try.f6 Rows.evalOrdersRow.domain false) (Rows.evalOrdersSpec.post enc Try.prog Try.f6 false true false false) := by
  refine returnsInHanded_of_change (C := Try.checked) own started (by kernel_rfl) Try.func6
    (ChangeSpec.witness6 (enc := enc) (C := Try.checked) false ⟨#[], #[.int .i64 0, .int .i64 0], []⟩ 8 (by kernel_rfl) (by kernel_rfl) (by kernel_rfl) (by kernel_rfl)) ?_
  intro W base args ds gs before hval0 hW hcnd _
  have hval : ∀ (j : Nat) t v, Try.f6.params[j]? = some t → args[j]? = some v → Value.okWide Try.prog W .any base t v := hval0
  have hW' := hW
  obtain ⟨p, q, hA0, hV, rfl, hfz, hnd⟩ := hW
  have hA : DataW.TrodAll enc Try.prog W 0 (fun _ => true) true Try.f6.params.toList args.toList ds p := hA0
  rw [Try.params6] at hA hval
  obtain ⟨v0, vs0, d0, ds0, p0, q0, hargs, rfl, rfl, h0, r0⟩ := trodAll_cons hA
  obtain ⟨v1, vs1, d1, ds1, p1, q1, rfl, rfl, rfl, h1, r1⟩ := trodAll_cons r0
  obtain ⟨rfl, rfl, rfl⟩ := trodAll_nil r1
  obtain rfl : args = #[v0, v1] := by cases args; simp_all
  obtain ⟨rfl, rfl⟩ := trodVars_none hV
  obtain ⟨a0, rfl, rfl, rfl, w0⟩ := open_int Try.underlying2 (hval 0 2 v0 rfl rfl) h0
  obtain ⟨a1, rfl, rfl, rfl, w1⟩ := open_int Try.underlying2 (hval 1 2 v1 rfl rfl) h1
  clear hA0 hval0
  simp only [List.append_nil] at hW'
  refine (walk a0 a1 w0 w1 W).mono fun e W' ⟨he, hg⟩ => ?_
  subst he
  exact ⟨_, rfl, post_of_same (pa := []) (pv := []) hW' (fun _ _ _ => (trodAll_cons_mk (shut_bool Try.underlying4 _) trodAll_mk0)) (fun sp _ => (trodAll_cons_mk (shut_int Try.underlying2 w0) (trodAll_cons_mk (shut_int Try.underlying2 w1) trodAll_mk0))) (fun _ _ => rfl) rfl
    (hg.frame _) hg.2.1 (ok_one (by kernel_rfl) rfl (okWide_bool_mk Try.underlying4 _))⟩

theorem over : Rows.evalOrdersRow.holds Try.pinned (OpenSpec.ofChange Rows.evalOrdersSpec) :=
  OpenClaim.holds_of_wide 6 Try.f6 rfl rfl rfl rfl rfl rfl rfl ⟨rfl, rfl, rfl, rfl, rfl⟩ rfl rfl rfl rfl rfl (by kernel_rfl) Try.func6 (by kernel_rfl)
    (of_decide_eq_true (by kernel_rfl)) (by unfold Func.isWrapper; first | (rw [if_pos (by decide +kernel)]; kernel_rfl) | (rw [if_neg (by decide +kernel)]; exact ⟨rfl, rfl⟩))
    (fun os started H enc _ => lifted os started H enc)

/-- ████ THE STATEMENT ████ -/
theorem proved : Rows.EvalOrdersSaid :=
  over
#print axioms proved
end Go.Proofs.Ytdaejmkoenhbkaa.evalOrders
