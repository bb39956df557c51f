/- RunChoices: Choices returns the threads of the events, and the woken thread for notifications only. -/
import Derived.Test.YtdaejmkoenhbkaaOwn
import Derived.Deep.DeepMust
import Derived.Deep.QuietTactic
import Derived.BigQuiet
import Derived.Laws.StructEq
namespace Go.Proofs.Ytdaejmkoenhbkaa.runChoices
open Go.ChangeShapes Go.WideShapes Go.ChangeAt Go.RowKit
set_option linter.unusedVariables false

structure Ev where
  thread : Int
  kind : Int
  obj : Int
  value : Int
  site : Int
  dA : Option Addr
  dn : Nat
  dc : Nat
  fA : Option Addr
  fn : Nat
  fc : Nat
def rEv : Rel Ev := fun _ _ e cs => cs = [.int .i64 e.thread, .int .i64 e.kind, .int .i64 e.obj, .int .i64 e.value, .int .i64 e.site, .slice e.dA e.dn e.dc, .slice e.fA e.fn e.fc]
theorem rEv_stays : rEv.Stays := fun _ _ _ _ _ _ _ _ h => h
def wakeOf (e : Ev) : Int := if e.kind = 18 ∧ 0 ≤ e.value ∧ e.value < 4 then e.value else -1
def chs (l : List Ev) : List Value := l.flatMap fun e => [.int .i64 e.thread, .int .i64 (wakeOf e)]
theorem eChoice : Elem Try.prog 24 52 (.agg #[.int .i64 0, .int .i64 0]) 2 16 := elem_mk Try.underlying24 (by kernel_rfl) rfl (by decide)
theorem sl_cells {A : Option Addr} {n c : Nat} {l : List Ev} {w : World} {B : Nat} (h : Sl 7 rEv w (· < B) (.slice A n c) l) {k : Nat} (hk : k < n) :
    ∃ b o e, A = some ⟨b, o, none⟩ ∧ b < B ∧ l[k]? = some e ∧ w.cell? ⟨b, o + k * 7, none⟩ = some (.int .i64 e.thread) ∧ w.cell? ⟨b, o + k * 7 + 1, none⟩ = some (.int .i64 e.kind) ∧ w.cell? ⟨b, o + k * 7 + 1 + 1, none⟩ = some (.int .i64 e.obj)
      ∧ w.cell? ⟨b, o + k * 7 + 3, none⟩ = some (.int .i64 e.value) ∧ w.cell? ⟨b, o + k * 7 + 4, none⟩ = some (.int .i64 e.site) ∧ w.cell? ⟨b, o + k * 7 + 5, none⟩ = some (.slice e.dA e.dn e.dc) ∧ w.cell? ⟨b, o + k * 7 + 6, none⟩ = some (.slice e.fA e.fn e.fc) := by
  have hl := h.len
  obtain ⟨b, o, cs, hA, hb, _, hR, hc⟩ := h.at_ (i := k) (by omega)
  obtain rfl := hR
  exact ⟨b, o, l[k], hA, hb, List.getElem?_eq_getElem _, hc 0 _ rfl, hc 1 _ rfl, hc 2 _ rfl, hc 3 _ rfl, hc 4 _ rfl, hc 5 _ rfl, hc 6 _ rfl⟩

theorem chs_take {l : List Ev} {k : Nat} {e : Ev} (h : l[k]? = some e) : chs (l.take (k + 1)) = chs (l.take k) ++ [.int .i64 e.thread, .int .i64 (wakeOf e)] := by
  rw [List.take_add_one, h]
  simp [chs]
set_option maxHeartbeats 1000000 in
set_option maxRecDepth 100000 in
theorem choices_any (A : Option Addr) (n c : Nat) (l : List Ev) (w : World) (h : Sl 7 rEv w (· < w.heap.size) (.slice A n c) l) (hn : n ≤ 500) :
    Calls Try.prog 12 #[.slice A n c] w fun e w' => ∃ v, e = .returned v ∧ w'.ownsRow w.heap.size 52 2 v n (chs l) ∧ Below w.heap.size w w' := by
  have hmk : ∀ W : World, (Instr.makeSlice 24 (.int .i64 0) (.int .i64 (n : Int))).run Try.prog W = .ok (.slice (some ⟨W.heap.size, 0, none⟩) 0 n) (W.alloc (.cells (madeCells #[.int .i64 0, .int .i64 0] (n * 2)) 52)) := fun W => run_mk eChoice .i64 .i64 0 n (by omega) (by omega) (by omega) W
  go_enter Try.func12, Try.ntmps12
  go_wp2_with fail
  clear hmk
  go_loopw [3, 12] (fun v i wr => ∃ k : Nat, k ≤ n ∧ i = .int .i64 k ∧ wr.ownsRow w.heap.size 52 2 v k (chs (l.take k)) ∧ Below w.heap.size w wr) (fun _ i _ => n - (intOf i).toNat)
  case atStart => exact ⟨0, Nat.zero_le _, rfl, World.ownsRow_made w _ _ (Nat.le_refl _) (by simp [maxLen]; omega) (by simp [size_madeCells]), (Below.refl _ _).alloc (Nat.le_refl _) _⟩
  case round =>
    obtain ⟨k, hk, rfl, hown, hbl⟩ := hrel
    have Hown := Lib.hid hown
    clear hown
    by_cases hlt : k < n
    · obtain ⟨b, o, e, rfl, hb, he, g0, g1, g2, g3, g4, g5, g6⟩ := sl_cells (h.below (by decide) rEv_stays hbl) hlt
      have hbz : b < wr.heap.size := by have := hbl.size; omega
      have hc := chs_take he
      obtain ⟨th, kd, ob, va, si, dA, dn, dc, fA, fn, fc⟩ := e
      clear he
      simp only at g0 g1 g2 g3 g4 g5 g6 hc
      by_cases hw1 : kd = 18
      · have t1 : (kd == 18) = true := by simpa using hw1
        by_cases hw2 : 0 ≤ va
        · have t2 : decide (0 ≤ va) = true := by simpa using hw2
          by_cases hw3 : va < 4
          · have t3 : decide (va < 4) = true := by simpa using hw3
            rw [show wakeOf ⟨th, kd, ob, va, si, dA, dn, dc, fA, fn, fc⟩ = va from if_pos ⟨hw1, hw2, hw3⟩] at hc
            have Hc := Lib.hid hc
            clear hc hw1
            go_wp2_with (at_builtin; go_must (refine wpList_app rfl (.tmp 35) (.tmp 37) rfl eChoice w.heap.size u3 k _ rfl (((Hown.out.alloc _).alloc _).alloc _) _ 1 1 [.int .i64 th, .int .i64 va] rfl (flat_one (by simp) rfl) (by simp [Value.oneCell']) (by simp only [maxLen]; omega) (by omega) (by have := hbl.size; simp; omega) ?_); intro v1 w1 hown1 hg1)
            have hbl1 := ((((hbl.alloc hbl.size _).alloc (by have := hbl.size; simp; omega) _).alloc (by have := hbl.size; simp; omega) _).grown hg1 (by have := hbl.size; simp; omega) (own_from Hown.out))
            go_roundw
            case rel => exact ⟨k + 1, by omega, by go_num, by rw [Hc.out]; exact hown1, hbl1⟩
            case measure => simp [intOf]; omega

          · have t3 : decide (va < 4) = false := by simpa using hw3
            rw [show wakeOf ⟨th, kd, ob, va, si, dA, dn, dc, fA, fn, fc⟩ = -1 from if_neg (fun x => hw3 x.2.2)] at hc
            have Hc := Lib.hid hc
            clear hc hw1
            go_wp2_with (at_builtin; go_must (refine wpList_app rfl (.tmp 35) (.tmp 37) rfl eChoice w.heap.size u3 k _ rfl (((Hown.out.alloc _).alloc _).alloc _) _ 1 1 [.int .i64 th, .int .i64 (-1)] rfl (flat_one (by simp) rfl) (by simp [Value.oneCell']) (by simp only [maxLen]; omega) (by omega) (by have := hbl.size; simp; omega) ?_); intro v1 w1 hown1 hg1)
            have hbl1 := ((((hbl.alloc hbl.size _).alloc (by have := hbl.size; simp; omega) _).alloc (by have := hbl.size; simp; omega) _).grown hg1 (by have := hbl.size; simp; omega) (own_from Hown.out))
            go_roundw
            case rel => exact ⟨k + 1, by omega, by go_num, by rw [Hc.out]; exact hown1, hbl1⟩
            case measure => simp [intOf]; omega

        · have t2 : decide (0 ≤ va) = false := by simpa using hw2
          rw [show wakeOf ⟨th, kd, ob, va, si, dA, dn, dc, fA, fn, fc⟩ = -1 from if_neg (fun x => hw2 x.2.1)] at hc
          have Hc := Lib.hid hc
          clear hc hw1
          go_wp2_with (at_builtin; go_must (refine wpList_app rfl (.tmp 35) (.tmp 37) rfl eChoice w.heap.size u3 k _ rfl (((Hown.out.alloc _).alloc _).alloc _) _ 1 1 [.int .i64 th, .int .i64 (-1)] rfl (flat_one (by simp) rfl) (by simp [Value.oneCell']) (by simp only [maxLen]; omega) (by omega) (by have := hbl.size; simp; omega) ?_); intro v1 w1 hown1 hg1)
          have hbl1 := ((((hbl.alloc hbl.size _).alloc (by have := hbl.size; simp; omega) _).alloc (by have := hbl.size; simp; omega) _).grown hg1 (by have := hbl.size; simp; omega) (own_from Hown.out))
          go_roundw
          case rel => exact ⟨k + 1, by omega, by go_num, by rw [Hc.out]; exact hown1, hbl1⟩
          case measure => simp [intOf]; omega

      · have t1 : (kd == 18) = false := by simpa using hw1
        rw [show wakeOf ⟨th, kd, ob, va, si, dA, dn, dc, fA, fn, fc⟩ = -1 from if_neg (fun x => hw1 x.1)] at hc
        have Hc := Lib.hid hc
        clear hc hw1
        go_wp2_with (at_builtin; go_must (refine wpList_app rfl (.tmp 35) (.tmp 37) rfl eChoice w.heap.size u3 k _ rfl (((Hown.out.alloc _).alloc _).alloc _) _ 1 1 [.int .i64 th, .int .i64 (-1)] rfl (flat_one (by simp) rfl) (by simp [Value.oneCell']) (by simp only [maxLen]; omega) (by omega) (by have := hbl.size; simp; omega) ?_); intro v1 w1 hown1 hg1)
        have hbl1 := ((((hbl.alloc hbl.size _).alloc (by have := hbl.size; simp; omega) _).alloc (by have := hbl.size; simp; omega) _).grown hg1 (by have := hbl.size; simp; omega) (own_from Hown.out))
        go_roundw
        case rel => exact ⟨k + 1, by omega, by go_num, by rw [Hc.out]; exact hown1, hbl1⟩
        case measure => simp [intOf]; omega

    · have hkn : k = n := by omega
      have Hfin : Hid (wr.ownsRow w.heap.size 52 2 u3 n (chs l)) := Lib.hid (by
        have := Hown.out
        rw [hkn, List.take_of_length_le (by have := h.len; omega)] at this
        exact this)
      clear hkn
      go_wp2_with fail
      go_ret
      exact ⟨_, rfl, Hfin.out, hbl⟩
set_option maxHeartbeats 1000000 in
set_option maxRecDepth 100000 in
theorem choicesR_any (A : Option Addr) (n c : Nat) (l : List Ev) (w : World) (h : Sl 7 rEv w (· < w.heap.size) (.slice A n c) l) (hn : n ≤ 500) :
    Calls Try.prog 13 #[.slice A n c] w fun e w' => ∃ v, e = .returned v ∧ w'.ownsRow w.heap.size 52 2 v n (chs l) ∧ Below w.heap.size w w' := by
  go_enter Try.func13, Try.ntmps13
  go_wp2_with fail
  skip
  go_loopw [3, 4] (fun v i wr => ∃ k : Nat, k ≤ n ∧ i = .int .i64 k ∧ wr.ownsRow w.heap.size 52 2 v k (chs (l.take k)) ∧ Below w.heap.size w wr) (fun _ i _ => n - (intOf i).toNat)
  case atStart => exact ⟨0, Nat.zero_le _, rfl, World.ownsRow_nil _ _ _ _, Below.refl _ _⟩
  case round =>
    obtain ⟨k, hk, rfl, hown, hbl⟩ := hrel
    have Hown := Lib.hid hown
    clear hown
    by_cases hlt : k < n
    · obtain ⟨b, o, e, rfl, hb, he, g0, g1, g2, g3, g4, g5, g6⟩ := sl_cells (h.below (by decide) rEv_stays hbl) hlt
      have hbz : b < wr.heap.size := by have := hbl.size; omega
      have hc := chs_take he
      obtain ⟨th, kd, ob, va, si, dA, dn, dc, fA, fn, fc⟩ := e
      clear he
      simp only at g0 g1 g2 g3 g4 g5 g6 hc
      by_cases hw1 : kd = 18
      · have t1 : (kd == 18) = true := by simpa using hw1
        by_cases hw2 : 0 ≤ va
        · have t2 : decide (0 ≤ va) = true := by simpa using hw2
          by_cases hw3 : va < 4
          · have t3 : decide (va < 4) = true := by simpa using hw3
            rw [show wakeOf ⟨th, kd, ob, va, si, dA, dn, dc, fA, fn, fc⟩ = va from if_pos ⟨hw1, hw2, hw3⟩] at hc
            have Hc := Lib.hid hc
            clear hc hw1
            go_wp2_with (at_builtin; go_must (refine wpList_app rfl (.tmp 46) (.tmp 48) rfl eChoice w.heap.size u3 k _ rfl ((Hown.out.alloc _).alloc _) _ 1 1 [.int .i64 th, .int .i64 va] rfl (flat_one (by simp) rfl) (by simp [Value.oneCell']) (by simp only [maxLen]; omega) (by omega) (by have := hbl.size; simp; omega) ?_); intro v1 w1 hown1 hg1)
            have hbl1 := (((hbl.alloc hbl.size _).alloc (by have := hbl.size; simp; omega) _).grown hg1 (by have := hbl.size; simp; omega) (own_from Hown.out))
            go_roundw
            case rel => exact ⟨k + 1, by omega, by go_num, by rw [Hc.out]; exact hown1, hbl1⟩
            case measure => simp [intOf]; omega

          · have t3 : decide (va < 4) = false := by simpa using hw3
            rw [show wakeOf ⟨th, kd, ob, va, si, dA, dn, dc, fA, fn, fc⟩ = -1 from if_neg (fun x => hw3 x.2.2)] at hc
            have Hc := Lib.hid hc
            clear hc hw1
            go_wp2_with (at_builtin; go_must (refine wpList_app rfl (.tmp 46) (.tmp 48) rfl eChoice w.heap.size u3 k _ rfl ((Hown.out.alloc _).alloc _) _ 1 1 [.int .i64 th, .int .i64 (-1)] rfl (flat_one (by simp) rfl) (by simp [Value.oneCell']) (by simp only [maxLen]; omega) (by omega) (by have := hbl.size; simp; omega) ?_); intro v1 w1 hown1 hg1)
            have hbl1 := (((hbl.alloc hbl.size _).alloc (by have := hbl.size; simp; omega) _).grown hg1 (by have := hbl.size; simp; omega) (own_from Hown.out))
            go_roundw
            case rel => exact ⟨k + 1, by omega, by go_num, by rw [Hc.out]; exact hown1, hbl1⟩
            case measure => simp [intOf]; omega

        · have t2 : decide (0 ≤ va) = false := by simpa using hw2
          rw [show wakeOf ⟨th, kd, ob, va, si, dA, dn, dc, fA, fn, fc⟩ = -1 from if_neg (fun x => hw2 x.2.1)] at hc
          have Hc := Lib.hid hc
          clear hc hw1
          go_wp2_with (at_builtin; go_must (refine wpList_app rfl (.tmp 46) (.tmp 48) rfl eChoice w.heap.size u3 k _ rfl ((Hown.out.alloc _).alloc _) _ 1 1 [.int .i64 th, .int .i64 (-1)] rfl (flat_one (by simp) rfl) (by simp [Value.oneCell']) (by simp only [maxLen]; omega) (by omega) (by have := hbl.size; simp; omega) ?_); intro v1 w1 hown1 hg1)
          have hbl1 := (((hbl.alloc hbl.size _).alloc (by have := hbl.size; simp; omega) _).grown hg1 (by have := hbl.size; simp; omega) (own_from Hown.out))
          go_roundw
          case rel => exact ⟨k + 1, by omega, by go_num, by rw [Hc.out]; exact hown1, hbl1⟩
          case measure => simp [intOf]; omega

      · have t1 : (kd == 18) = false := by simpa using hw1
        rw [show wakeOf ⟨th, kd, ob, va, si, dA, dn, dc, fA, fn, fc⟩ = -1 from if_neg (fun x => hw1 x.1)] at hc
        have Hc := Lib.hid hc
        clear hc hw1
        go_wp2_with (at_builtin; go_must (refine wpList_app rfl (.tmp 46) (.tmp 48) rfl eChoice w.heap.size u3 k _ rfl ((Hown.out.alloc _).alloc _) _ 1 1 [.int .i64 th, .int .i64 (-1)] rfl (flat_one (by simp) rfl) (by simp [Value.oneCell']) (by simp only [maxLen]; omega) (by omega) (by have := hbl.size; simp; omega) ?_); intro v1 w1 hown1 hg1)
        have hbl1 := (((hbl.alloc hbl.size _).alloc (by have := hbl.size; simp; omega) _).grown hg1 (by have := hbl.size; simp; omega) (own_from Hown.out))
        go_roundw
        case rel => exact ⟨k + 1, by omega, by go_num, by rw [Hc.out]; exact hown1, hbl1⟩
        case measure => simp [intOf]; omega

    · have hkn : k = n := by omega
      have Hfin : Hid (wr.ownsRow w.heap.size 52 2 u3 n (chs l)) := Lib.hid (by
        have := Hown.out
        rw [hkn, List.take_of_length_le (by have := h.len; omega)] at this
        exact this)
      clear hkn
      go_wp2_with fail
      go_ret
      exact ⟨_, rfl, Hfin.out, hbl⟩
end Go.Proofs.Ytdaejmkoenhbkaa.runChoices
