/- Readings: expressions, bytes, names, numbers; comparisons of like values. -/
import Derived.Test.YtdaejmkoenhbkaaEvo
import Derived.Test.YtdaejmkoenhbkaaGlx
namespace Go.Proofs.Ytdaejmkoenhbkaa.Am
open Go.ChangeShapes Go.WideShapes Go.ChangeAt Go.RowKit
set_option linter.unusedVariables false
section
variable {H : Type} {enc : TypeId × Value → H} {w : World} {base : Nat} {spare : Nat → Bool} {held : Bool}
theorem u_str : Try.prog.underlying 9 = some .string := by kernel_rfl
theorem u_bool : Try.prog.underlying 4 = some .bool := by kernel_rfl
theorem u_int : Try.prog.underlying 3 = some (.int .i64) := by kernel_rfl
theorem u_int64 : Try.prog.underlying 2 = some (.int .i64) := by kernel_rfl
theorem u_uint8 : Try.prog.underlying 5 = some (.int .u8) := by kernel_rfl
theorem am_bytes : Opens H enc Try.prog w base spare held 40 (rAM (fun l : List Int => [.lst (l.map byteE)]) fun l => l.length ≤ maxLen ∧ ∀ x ∈ l, (Lit.int .u8 x).wf = true) :=
  am_slice (size := 1) Try.underlying40 (by kernel_rfl) (by decide) (am_int u_uint8)
theorem am_strs : Opens H enc Try.prog w base spare held 44 (rAM (fun l : List Str => [.lst (l.map strE)]) fun l => l.length ≤ maxLen ∧ ∀ x ∈ l, True) :=
  am_slice (size := 1) Try.underlying44 (by kernel_rfl) (by decide) (am_str u_str)
theorem am_i64s : Opens H enc Try.prog w base spare held 34 (rAM (fun l : List Int => [.lst (l.map intE)]) fun l => l.length ≤ maxLen ∧ ∀ x ∈ l, (Lit.int .i64 x).wf = true) :=
  am_slice (size := 1) Try.underlying34 (by kernel_rfl) (by decide) (am_int u_int64)
theorem am_expr_in : ∀ (N : Nat) (fuel : Nat) (cs : List Value) (x : DataW H × List MemPlace), SizeOf.sizeOf x.1 < N → DataW.trod enc Try.prog w base spare held fuel 43 cs = some x → ∃ e : ExprD, rAM ExprD.enc (fun _ => True) w (· < w.heap.size) e cs
  | 0, _, _, _, h, _ => absurd h (Nat.not_lt_zero _)
  | N + 1, fuel, cs, x, hN, h => by
    obtain ⟨hl, hall⟩ := am_cells_in [3, 2, 9, 41] Try.underlying43 h rfl (by kernel_rfl) (by kernel_rfl)
    obtain ⟨c0, m0, y0, e0, s0, k0⟩ := hall 0 _ rfl
    obtain ⟨d0, _, r0⟩ := am_int u_int _ _ _ k0
    obtain ⟨c1, m1, y1, e1, s1, k1⟩ := hall 1 _ rfl
    obtain ⟨d1, _, r1⟩ := am_int u_int64 _ _ _ k1
    obtain ⟨c2, m2, y2, e2, s2, k2⟩ := hall 2 _ rfl
    obtain ⟨d2, _, r2⟩ := am_str u_str _ _ _ k2
    obtain ⟨c3, m3, y3, e3, s3, k3⟩ := hall 3 _ rfl
    obtain ⟨d3, h3⟩ := opens_slice_in (R := rAM ExprD.enc fun _ => True) Try.underlying41 (show Try.prog.cellsOf 43 = 4 by kernel_rfl) (by decide) k3 fun n cs' y hy hh => am_expr_in N n cs' y (by omega) hh
    obtain ⟨_, r3⟩ := am_of_slice (by decide) h3
    have hcs : cs = [c0, c1, c2, c3] := by
      match cs, hl with
      | [a0, a1, a2, a3], _ => simp only [List.getElem?_cons_zero, List.getElem?_cons_succ, Option.some.injEq] at e0 e1 e2 e3; rw [e0, e1, e2, e3]
    subst hcs
    refine ⟨.mk d0 d1 d2 d3, trivial, ?_⟩
    rw [show (ExprD.mk d0 d1 d2 d3).enc = [.int .i64 d0, .int .i64 d1, .str d2, .lst (encs d3)] from rfl, encs_map]
    exact reps_cons r0 (reps_cons r1 (reps_cons r2 (reps_cons r3 reps_nil)))
theorem am_expr : Opens H enc Try.prog w base spare held 43 (rAM ExprD.enc fun _ => True) := fun fuel cs x h => am_expr_in _ fuel cs x (Nat.lt_succ_self _) h
end
theorem byte_wf {x : Int} (h : (Lit.int .u8 x).wf = true) : 0 ≤ x ∧ x < 256 := by
  simp only [Lit.wf, Bool.and_eq_true, decide_eq_true_eq] at h
  have h1 : IntKind.u8.min = 0 := by decide
  have h2 : IntKind.u8.max = 255 := by decide
  omega
theorem eq_int {P : Program} {F : TypeId → Option (List TypeId)} {t : TypeId} {k : IntKind} {x : Int} {K : AV → Prop} (h : K (.bool true)) : W.bin P F .eql t (.int k x) (.int k x) K := a_eql (by rw [decide_eq_true rfl]; exact h)
theorem eq_bool {x : Bool} {K : AV → Prop} (h : K (.bool true)) : W.bin Try.prog Fl .eql 4 (.bool x) (.bool x) K := by
  rw [eql_b _ u_bool]
  cases x <;> exact h
end Go.Proofs.Ytdaejmkoenhbkaa.Am
