/- RunChoices: Choices returns the threads of the events, and the woken thread for notifications only: the law returns true for every list of events. -/
import Derived.Test.YtdaejmkoenhbkaaSameCh
namespace Go.Proofs.Ytdaejmkoenhbkaa.runChoices
open Go.ChangeShapes Go.WideShapes Go.ChangeAt Go.RowKit
set_option linter.unusedVariables false
theorem chs_at (l : List Ev) (i : Nat) (p : Int × Int) (h : (l.map fun e => (e.thread, wakeOf e))[i]? = some p) : cellsAt 2 (chs l) i = [.int .i64 p.1, .int .i64 p.2] := by
  rw [List.getElem?_map] at h
  cases he : l[i]? with
  | none => rw [he] at h; cases h
  | some e =>
    rw [he] at h
    simp only [Option.map_some, Option.some.injEq] at h
    subst h
    exact cellsAt_flatMap (size := 2) (f := fun e : Ev => [.int .i64 e.thread, .int .i64 (wakeOf e)]) (fun _ => rfl) l i e he
theorem sl_chs {w : World} {base : Nat} {v : Value} {n : Nat} {l : List Ev} (h : w.ownsRow base 52 2 v n (chs l)) (hl : l.length = n) : Sl 2 rCh w (base ≤ ·) v (l.map fun e => (e.thread, wakeOf e)) :=
  Sl.of_own h (by simpa using hl) (own_from h) (fun i p hp => chs_at l i p hp)

set_option maxHeartbeats 1000000 in
theorem walk (A : Option Addr) (n c : Nat) (l : List Ev) (w : World) (h : Sl 7 rEv w (· < w.heap.size) (.slice A n c) l) :
    Calls Try.prog 3 #[.slice A n c] w fun e w' => e = .returned (.bool true) ∧ Below w.heap.size w w' := by
  have hl := h.len
  have hn9 : n ≤ 9223372036854775807 := by simp only [maxLen] at hl; omega
  by_cases hn : 500 < n
  · clear hl
    go_enter Try.func3, Try.ntmps3
    go_wp2_with fail
    go_ret
    exact ⟨rfl, Below.refl _ _⟩
  · have Hl := Lib.hid hl
    clear hl
    go_enter Try.func3, Try.ntmps3
    go_wp2_with fail
    refine (choices_any A n c l _ h (by omega)).mono ?_
    rintro e w1 ⟨v1, rfl, ho1, hb1⟩
    have h1 := h.stays (by decide) rEv_stays (F' := (· < w1.heap.size)) (fun b hb _ => hb1.block b hb) (fun b hb _ => by have := hb1.size; omega)
    go_wp2_with fail
    refine (choicesR_any A n c l _ h1 (by omega)).mono ?_
    rintro e w2 ⟨v2, rfl, ho2, hb2⟩
    have s1 := (sl_chs ho1 Hl.out.1.symm).stays (by decide) rCh_stays (F' := fun _ => True) (fun b _ hb => hb2.block b hb) (fun _ _ _ => trivial)
    have s2 := (sl_chs ho2 Hl.out.1.symm).weaken (by decide) rCh_stays (F' := fun _ => True) (fun _ _ _ => trivial)
    have hbb := hb1.trans (hb2.mono hb1.size)
    obtain ⟨A1, c1, rfl, _, _⟩ := s1.form
    obtain ⟨A2, c2, rfl, _, _⟩ := s2.form
    simp only [List.length_map, ← Hl.out.1] at s1 s2 ⊢
    have S1 := Lib.hid s1
    have S2 := Lib.hid s2
    clear s1 s2 ho1 ho2 h1 h
    go_wp2_with fail
    refine (same_any A1 A2 n c1 c2 _ _ _ _ S1.out S2.out).mono ?_
    rintro e w3 ⟨rfl, m, rfl⟩
    go_wp2_with fail
    refine (choices_any _ 1 1 [⟨2, 18, 0, 1, 0, none, 0, 0, none, 0, 0⟩] _ ?_ (by omega)).mono ?_
    · exact Sl.one (cs := [.int .i64 2, .int .i64 18, .int .i64 0, .int .i64 1, .int .i64 0, .slice none 0 0, .slice none 0 0]) (by simp) rfl (by simp) rfl
    rintro e w4 ⟨v4, rfl, ho4, hb4⟩
    obtain ⟨A4, c4, rfl⟩ : ∃ A4 c4, v4 = .slice A4 1 c4 := by
      rcases ho4.2 with ⟨_, h0⟩ | ⟨g, cap, cur, rfl, _⟩
      · omega
      · exact ⟨_, _, rfl⟩
    clear ho4
    go_wp2_with fail
    go_ret
    refine ⟨rfl, ?_⟩
    have hz : w.heap.size ≤ w2.heap.size := Nat.le_trans hb1.size hb2.size
    exact ((below_drewN hbb m).alloc (by simpa using hz) _).trans (hb4.mono (by simp; omega))

theorem own : ownKnob Try.prog.godebug = none := by kernel_rfl
theorem laidOut : laidOutB Try.prog = true := by kernel_rfl
theorem opens_ints {H : Type} {enc : TypeId × Value → H} {w : World} {sp : Nat → Bool} {hd : Bool} : Opens H enc Try.prog w 0 sp hd 26 (rSlice 1 (rInt .i64)) :=
  opens_slice Try.underlying26 (by kernel_rfl) (by decide) (opens_int Try.underlying3)
theorem opens_ev {H : Type} {enc : TypeId × Value → H} {w : World} {sp : Nat → Bool} {hd : Bool} : Opens H enc Try.prog w 0 sp hd 28 rEv := by
  intro fuel cs x h
  obtain ⟨hl, hf⟩ := opens_fields Try.underlying28 h
  have hc : Try.prog.cellsOf 28 = 7 := by kernel_rfl
  rw [hc] at hl
  have c2 : Try.prog.cellsOf 2 = 1 := by kernel_rfl
  have c3 : Try.prog.cellsOf 3 = 1 := by kernel_rfl
  have c26 : Try.prog.cellsOf 26 = 1 := by kernel_rfl
  match cs, hl with
  | [x0, x1, x2, x3, x4, x5, x6], _ =>
    obtain ⟨_, _, f0⟩ := hf 0 3 0 1 [x0] rfl c3 rfl
    obtain ⟨_, _, f1⟩ := hf 1 3 1 1 [x1] rfl c3 rfl
    obtain ⟨_, _, f2⟩ := hf 2 3 2 1 [x2] rfl c3 rfl
    obtain ⟨_, _, f3⟩ := hf 3 2 3 1 [x3] rfl c2 rfl
    obtain ⟨_, _, f4⟩ := hf 4 3 4 1 [x4] rfl c3 rfl
    obtain ⟨_, _, f5⟩ := hf 5 26 5 1 [x5] rfl c26 rfl
    obtain ⟨_, _, f6⟩ := hf 6 26 6 1 [x6] rfl c26 rfl
    obtain ⟨n0, h0, _⟩ := opens_int Try.underlying3 _ _ _ f0
    obtain ⟨n1, h1, _⟩ := opens_int Try.underlying3 _ _ _ f1
    obtain ⟨n2, h2, _⟩ := opens_int Try.underlying3 _ _ _ f2
    obtain ⟨n3, h3, _⟩ := opens_int Try.underlying2 _ _ _ f3
    obtain ⟨n4, h4, _⟩ := opens_int Try.underlying3 _ _ _ f4
    obtain ⟨l5, A5, c5, h5, _⟩ := opens_ints _ _ _ f5
    obtain ⟨l6, A6, c6, h6, _⟩ := opens_ints _ _ _ f6
    injection h0 with h0; injection h1 with h1; injection h2 with h2; injection h3 with h3; injection h4 with h4; injection h5 with h5; injection h6 with h6
    subst h0 h1 h2 h3 h4 h5 h6
    exact ⟨⟨n0, n1, n2, n3, n4, A5, _, c5, A6, _, c6⟩, rfl⟩

set_option maxRecDepth 100000 in
theorem lifted (os : Os) (started : os.Started) (H : Type) (enc : TypeId × Value → H) :
    ReturnsInHanded {} Try.checked os 3 .any (Rows.runChoicesSpec.pre6 enc Try.prog Try.f3 Rows.runChoicesRow.domain false) (Rows.runChoicesSpec.post enc Try.prog Try.f3 false true false false) := by
  refine returnsInHanded_of_change (C := Try.checked) own started (by kernel_rfl) Try.func3
    (ChangeSpec.witness6 (enc := enc) (C := Try.checked) false ⟨#[], #[.slice none 0 0], []⟩ 8 (by kernel_rfl) (by kernel_rfl) (by kernel_rfl) (by kernel_rfl)) ?_
  intro W base args ds gs before hval0 hW hcnd _
  have hW' := hW
  obtain ⟨p, q, hA0, hV, rfl, hfz, hnd⟩ := hW
  have hA : DataW.TrodAll enc Try.prog W 0 (fun _ => true) true Try.f3.params.toList args.toList ds p := hA0
  rw [Try.params3] at hA
  obtain ⟨v0, vs0, d0, ds0, p0, q0, hargs, rfl, rfl, h0, r0⟩ := trodAll_cons hA
  obtain ⟨rfl, rfl, rfl⟩ := trodAll_nil r0
  obtain rfl : args = #[v0] := by cases args; simp_all
  obtain ⟨rfl, rfl⟩ := trodVars_none hV
  obtain ⟨fuel, hf⟩ := h0
  obtain ⟨a, n, c, rfl⟩ := okWide_slice Try.underlying22 (hval0 0 22 v0 rfl rfl)
  obtain ⟨l, hl⟩ := opens_slice (size := 7) Try.underlying22 (by kernel_rfl) (by decide) opens_ev _ _ _ hf
  refine (walk a n c l W hl).mono fun e W' ⟨he, hb⟩ => ⟨.bool true, he, ?_⟩
  exact law_post laidOut (of_decide_eq_true (by kernel_rfl)) rfl rfl Try.underlying4 hW' rfl rfl rfl hb

theorem over : Rows.runChoicesRow.holds Try.pinned (OpenSpec.ofChange Rows.runChoicesSpec) :=
  OpenClaim.holds_of_wide 3 Try.f3 rfl rfl rfl rfl rfl rfl rfl ⟨rfl, rfl, rfl, rfl, rfl⟩ rfl rfl rfl rfl rfl (by kernel_rfl) Try.func3 (by kernel_rfl)
    (of_decide_eq_true (by kernel_rfl)) (by unfold Func.isWrapper; first | (rw [if_pos (by decide +kernel)]; kernel_rfl) | (rw [if_neg (by decide +kernel)]; exact ⟨rfl, rfl⟩))
    (fun os started H enc _ => lifted os started H enc)
theorem proved : Rows.RunChoicesSaid :=
  over
#print axioms proved
end Go.Proofs.Ytdaejmkoenhbkaa.runChoices
