/- The contract of interleaveref09.SameChoices: two lists of choices that read alike are found alike. -/
import Derived.Test.YtdaejmkoenhbkaaChoices
namespace Go.Proofs.Ytdaejmkoenhbkaa.runChoices
open Go.ChangeShapes Go.WideShapes Go.ChangeAt Go.RowKit
set_option linter.unusedVariables false
def rCh : Rel (Int × Int) := fun _ _ p cs => cs = [.int .i64 p.1, .int .i64 p.2]
theorem rCh_stays : rCh.Stays := fun _ _ _ _ _ _ _ _ h => h
theorem ch_cells {A : Option Addr} {n c : Nat} {l : List (Int × Int)} {w : World} {F : Nat → Prop} (h : Sl 2 rCh w F (.slice A n c) l) {k : Nat} (hk : k < n) :
    ∃ b o p q, A = some ⟨b, o, none⟩ ∧ l[k]? = some (p, q) ∧ w.cell? ⟨b, o + k * 2, none⟩ = some (.int .i64 p) ∧ w.cell? ⟨b, o + k * 2 + 1, none⟩ = some (.int .i64 q) := by
  have hl := h.len
  obtain ⟨b, o, cs, hA, hb, _, hR, hc⟩ := h.at_ (i := k) (by omega)
  obtain rfl := hR
  exact ⟨b, o, l[k].1, l[k].2, hA, List.getElem?_eq_getElem _, hc 0 _ rfl, hc 1 _ rfl⟩
theorem ch_under : Try.prog.underlying 52 = some (.struct (Try.prog.fieldsOf 52)) := by kernel_rfl
theorem ch_held : Try.prog.stoodInHeld 52 = false := by kernel_rfl
theorem ch_guard : Try.prog.eqGuardType Try.prog.depth 52 = false := by kernel_rfl
theorem ch_neq (W : World) (a b : Int) : (binOp .neq 52 (.agg #[.int .i64 a, .int .i64 b]) (.agg #[.int .i64 a, .int .i64 b])).run Try.prog W = .ok (.bool false) W := by
  rw [run_neq_struct, run_equalIn_agg W _ _ _ _ ch_under ch_held]
  simp only [Program.fieldsOf, Try.underlying52]
  simp [go_sem, Try.underlying3]

set_option maxHeartbeats 1000000 in
theorem same_any (A B : Option Addr) (n c d : Nat) (l : List (Int × Int)) (w : World) (F G : Nat → Prop) (h : Sl 2 rCh w F (.slice A n c) l) (g : Sl 2 rCh w G (.slice B n d) l) :
    Calls Try.prog 11 #[.slice A n c, .slice B n d] w fun e w' => e = .returned (.bool true) ∧ ∃ m, w' = w.drewN m := by
  have hn : n ≤ 9223372036854775807 := by have := h.len; simp only [maxLen] at this; omega
  have hgd := ch_guard
  have hneq := ch_neq
  go_enter Try.func11, Try.ntmps11
  go_wp2_with fail
  go_loopw [5] (fun i wr => ∃ k m : Nat, k ≤ n ∧ i = .int .i64 k ∧ wr = w.drewN m) (fun i _ => n - (intOf i).toNat)
  case atStart => exact ⟨0, 0, Nat.zero_le _, rfl, rfl⟩
  case round =>
    obtain ⟨k, m, hk, rfl, rfl⟩ := hrel
    by_cases hlt : k < n
    · obtain ⟨b, o, p, q, rfl, hl, h0, h1⟩ := ch_cells h hlt
      obtain ⟨b', o', p', q', rfl, hl', g0, g1⟩ := ch_cells g hlt
      obtain ⟨rfl, rfl⟩ : p = p' ∧ q = q' := by rw [hl] at hl'; simpa using hl'
      clear hl hl'
      go_wp2_with fail
      go_quiet (fail)
      go_wp2_with fail
      go_roundw
      case rel => exact ⟨k + 1, _, by omega, by go_num, rfl⟩
      case measure => simp [intOf]; omega
    · go_wp2_with fail
      go_ret
      exact ⟨rfl, _, rfl⟩
end Go.Proofs.Ytdaejmkoenhbkaa.runChoices
