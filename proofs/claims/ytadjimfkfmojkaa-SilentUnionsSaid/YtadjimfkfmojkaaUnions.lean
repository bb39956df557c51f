/- SilentUnions: Union returns the numbers of both lists in ascending order, each once: the law returns true for all lists. -/
import Derived.Test.YtadjimfkfmojkaaUniLaw
namespace Go.Proofs.Ytadjimfkfmojkaa.silentUnions
open Go.ChangeShapes Go.WideShapes Go.ChangeAt Go.RowKit
set_option linter.unusedVariables false
theorem quiet_left {P : Program} {f : FuncId} {args : Array Value} {w : World} {n : Nat} {v : Value}
    (h : Calls P f args (w.drewN n) fun e w' => e = .returned v ∧ w.drewN n = w') : Calls P f args (w.drewN n) fun e w'' => e = .returned v ∧ ∃ m, w'' = w.drewN m :=
  h.mono fun _ _ ⟨he, hm⟩ => ⟨he, n, hm.symm⟩
theorem quiet_add_left {P : Program} {f : FuncId} {args : Array Value} {w : World} {a n : Nat} {v : Value}
    (h : Calls P f args (w.drewN (a + n)) fun e w' => e = .returned v ∧ w.drewN (a + n) = w') :
    Calls P f args (w.drewN (a + n)) fun e w'' => e = .returned v ∧ ∃ m, w'' = w.drewN (a + m) :=
  h.mono fun _ _ ⟨he, hm⟩ => ⟨he, n, hm.symm⟩
theorem Sl.drewN {α : Type} {size : Nat} {R : Rel α} {w : World} {F : Nat → Prop} {v : Value} {l : List α} (hs : 0 < size) (hR : R.Stays) (h : Sl size R w F v l) (n : Nat) : Sl size R (w.drewN n) F v l :=
  h.stays hs hR (fun _ _ _ => rfl) (fun _ h _ => h)
abbrev ID (w : World) (F : Nat → Prop) (v : Value) (l : List Int) (n : Nat) (h : Ints w F v l) : Ints (w.drewN n) F v l := Sl.drewN (by decide) (rInt_stays _) h n

set_option maxHeartbeats 4000000 in
set_option maxRecDepth 100000 in
theorem walk (A B : Option Addr) (n m c d : Nat) (la lb : List Int) (w : World) (hA : Ints w (· < w.heap.size) (.slice A n c) la) (hB : Ints w (· < w.heap.size) (.slice B m d) lb) :
    Calls Try.prog 3 #[.slice A n c, .slice B m d] w fun e w' => e = .returned (.bool true) ∧ Below w.heap.size w w' := by
  have hn9 : n ≤ 9223372036854775807 := by have := hA.len; simp only [maxLen] at this; omega
  have hm9 : m ≤ 9223372036854775807 := by have := hB.len; simp only [maxLen] at this; omega
  by_cases hn : 300 < n
  · go_enter Try.func3, Try.ntmps3
    go_wp2_with fail
    go_ret
    exact ⟨rfl, Below.refl _ _⟩
  by_cases hm : 300 < m
  · go_enter Try.func3, Try.ntmps3
    go_wp2_with fail
    go_ret
    exact ⟨rfl, Below.refl _ _⟩
  have HA := Lib.hid hA
  have HB := Lib.hid hB
  clear hA hB
  go_enter Try.func3, Try.ntmps3
  go_wp2_with fail
  refine (union_any A B n m c d la lb w HA.out HB.out (by omega)).mono ?_
  rintro e w1 ⟨v, rfl, ho, hb⟩
  have hI : Ints w1 (· < w1.heap.size) v (uni la lb) := Ints.of_own ho (uni_fit HA.out.form_fit HB.out.form_fit) (fun b hb => (ho.lt b hb).2)
  have HA1 := Lib.hid (HA.out.up (by decide) (rInt_stays _) hb)
  have HB1 := Lib.hid (HB.out.up (by decide) (rInt_stays _) hb)
  obtain ⟨V, vc, rfl, hvc, hvm⟩ := hI.form
  have hu9 : (uni la lb).length ≤ 9223372036854775807 := by simp only [maxLen] at hvm; omega
  have HI := Lib.hid hI
  have Hb := Lib.hid hb
  clear ho hb hI HA HB hvc hvm
  generalize hun : (uni la lb).length = un at *
  have Hun := Lib.hid hun
  clear hun
  go_wp2_with fail
  go_loopw [6] (fun i wr => ∃ k q : Nat, k ≤ un ∧ i = .int .i64 k ∧ wr = w1.drewN q) (fun i _ => un - (intOf i).toNat)
  case atStart => exact ⟨0, 0, Nat.zero_le _, rfl, rfl⟩
  case round =>
    obtain ⟨k, q, hk, rfl, rfl⟩ := hrel
    by_cases hlt : k < un
    · obtain ⟨b, o, y, rfl, hF, hbz, hy, hc⟩ := int_at (HI.out) hlt
      clear hF
      by_cases hk0 : k = 0
      · have t0 : decide ((0 : Int) < (k : Int)) = false := by simp; omega
        have t1 : decide (0 < k) = false := by simp; omega
        clear hk0
        by_cases ha : y ∈ la
        · have th : hasB la y = true := by simpa [hasB] using ha
          clear ha hy
          go_wp2_with fail
          go_quiet ((first | (go_at_call 15; with_reducible exact quiet_add_left (has_any A n c la y _ _ (ID _ _ _ _ _ HA1.out))) | (go_at_call 15; with_reducible exact quiet_add_left (has_any B m d lb y _ _ (ID _ _ _ _ _ HB1.out)))))
          go_wp2_with fail
          go_roundw
          case rel => exact ⟨k + 1, _, by omega, by go_num, rfl⟩
          case measure => simp [intOf]; omega
        · have th : hasB la y = false := by simpa [hasB] using ha
          have th2 : hasB lb y = true := by
            have := (uni_mem la lb y).1 (List.mem_of_getElem? hy)
            simp only [hasB, decide_eq_true_eq]
            exact this.resolve_left ha
          clear ha hy
          go_wp2_with fail
          go_quiet ((first | (go_at_call 15; with_reducible exact quiet_add_left (has_any A n c la y _ _ (ID _ _ _ _ _ HA1.out))) | (go_at_call 15; with_reducible exact quiet_add_left (has_any B m d lb y _ _ (ID _ _ _ _ _ HB1.out)))))
          go_wp2_with fail
          go_roundw
          case rel => exact ⟨k + 1, _, by omega, by go_num, rfl⟩
          case measure => simp [intOf]; omega
      · have t0 : decide ((0 : Int) < (k : Int)) = true := by simp; omega
        have t1 : decide (0 < k) = true := by simp; omega
        obtain ⟨b', o', z, hAA, hF', hbz', hz, hc'⟩ := int_at (HI.out) (k := k - 1) (by omega)
        obtain ⟨rfl, rfl⟩ : b = b' ∧ o = o' := by simpa using hAA
        have tle : decide (y ≤ z) = false := by
          have hp := uni_asc la lb
          obtain ⟨hk1, e1⟩ := List.getElem?_eq_some_iff.1 hz
          obtain ⟨hk2, e2⟩ := List.getElem?_eq_some_iff.1 hy
          have := (List.pairwise_iff_getElem.1 hp) (k - 1) k hk1 hk2 (by omega)
          rw [e1, e2] at this
          simp
          omega
        have i1 : IntKind.i64.wrap ((k : Int) - 1) = (k : Int) - 1 := IntWalk.i64_in _ (by omega)
        have i2 : ((k : Int) - 1).toNat = k - 1 := by omega
        have i3 : (0 : Int) ≤ (k : Int) - 1 := by omega
        have i4 : (k : Int) - 1 < (un : Int) := by omega
        have i5 : (1 : Int) ≤ (k : Int) := by omega
        have i6 : 1 ≤ k := by omega
        have i7 : k - 1 < un := by omega
        clear hAA hF' hz hk0
        by_cases ha : y ∈ la
        · have th : hasB la y = true := by simpa [hasB] using ha
          clear ha hy
          go_wp2_with fail
          go_quiet ((first | (go_at_call 15; with_reducible exact quiet_add_left (has_any A n c la y _ _ (ID _ _ _ _ _ HA1.out))) | (go_at_call 15; with_reducible exact quiet_add_left (has_any B m d lb y _ _ (ID _ _ _ _ _ HB1.out)))))
          go_wp2_with fail
          go_roundw
          case rel => exact ⟨k + 1, _, by omega, by go_num, rfl⟩
          case measure => simp [intOf]; omega
        · have th : hasB la y = false := by simpa [hasB] using ha
          have th2 : hasB lb y = true := by
            have := (uni_mem la lb y).1 (List.mem_of_getElem? hy)
            simp only [hasB, decide_eq_true_eq]
            exact this.resolve_left ha
          clear ha hy
          go_wp2_with fail
          go_quiet ((first | (go_at_call 15; with_reducible exact quiet_add_left (has_any A n c la y _ _ (ID _ _ _ _ _ HA1.out))) | (go_at_call 15; with_reducible exact quiet_add_left (has_any B m d lb y _ _ (ID _ _ _ _ _ HB1.out)))))
          go_wp2_with fail
          go_roundw
          case rel => exact ⟨k + 1, _, by omega, by go_num, rfl⟩
          case measure => simp [intOf]; omega
    · go_wp2_with fail
      go_loop [7] (fun i => ∃ k : Nat, k ≤ n ∧ i = .int .i64 k) (fun i => n - (intOf i).toNat)
      case atStart => exact ⟨0, Nat.zero_le _, rfl⟩
      case round =>
        obtain ⟨j, hj, rfl⟩ := hrel
        by_cases hjl : j < n
        · obtain ⟨b, o, y, rfl, hF, hbz, hy, hc⟩ := int_at (HA1.out) hjl
          have th : hasB (uni la lb) y = true := by
            simp only [hasB, decide_eq_true_eq]
            exact (uni_mem la lb y).2 (.inl (List.mem_of_getElem? hy))
          clear hF hy
          go_wp2_with fail
          refine (has_any V un vc (uni la lb) y _ _ (ID _ _ _ _ _ HI.out)).mono ?_
          rintro e w2 ⟨rfl, rfl⟩
          go_wp2_with fail
          go_round
          case rel => exact ⟨j + 1, by omega, by go_num⟩
          case measure => simp [intOf]; omega
        · go_wp2_with fail
          go_loop [8] (fun i => ∃ k : Nat, k ≤ m ∧ i = .int .i64 k) (fun i => m - (intOf i).toNat)
          case atStart => exact ⟨0, Nat.zero_le _, rfl⟩
          case round =>
            obtain ⟨j, hj, rfl⟩ := hrel
            by_cases hjl : j < m
            · obtain ⟨b, o, y, rfl, hF, hbz, hy, hc⟩ := int_at (HB1.out) hjl
              have th : hasB (uni la lb) y = true := by
                simp only [hasB, decide_eq_true_eq]
                exact (uni_mem la lb y).2 (.inr (List.mem_of_getElem? hy))
              clear hF hy
              go_wp2_with fail
              refine (has_any V un vc (uni la lb) y _ _ (ID _ _ _ _ _ HI.out)).mono ?_
              rintro e w2 ⟨rfl, rfl⟩
              go_wp2_with fail
              go_round
              case rel => exact ⟨j + 1, by omega, by go_num⟩
              case measure => simp [intOf]; omega
            · go_wp2_with fail
              refine (union_any _ _ 1 1 1 1 [2] [1] _ ?ha ?hb (by omega)).mono ?_
              case ha => exact (Sl.one (cs := [.int .i64 2]) (x := (2 : Int)) rfl rfl trivial ⟨rfl, rfl⟩ : Ints _ (fun _ => True) _ _).stays (by decide) (rInt_stays _) (fun b _ hb => Below.heap_alloc _ _ _ hb) (fun b _ hb2 => by have := hb2; simp at this ⊢; omega)
              case hb => exact Sl.one (cs := [.int .i64 1]) (x := (1 : Int)) (by simp) rfl (by simp) ⟨rfl, rfl⟩
              rintro e w2 ⟨v2, rfl, ho2, hb2⟩
              obtain ⟨A4, c4, rfl⟩ : ∃ A4 c4, v2 = .slice A4 2 c4 := by
                have hl : (uni [2] [1]).length = 2 := by rw [uni21]; rfl
                rw [hl] at ho2
                rcases ho2.2 with ⟨_, h0⟩ | ⟨g, cap, cur, rfl, _⟩
                · omega
                · exact ⟨_, _, rfl⟩
              clear ho2
              have HB2 := Lib.hid hb2
              clear hb2
              go_wp2_with fail
              go_ret
              refine ⟨rfl, ?_⟩
              exact (((below_drewN Hb.out q).alloc Hb.out.size _).alloc (by have := Hb.out.size; simp; omega) _).trans (HB2.out.mono (by have := Hb.out.size; simp; omega))

theorem own : ownKnob Try.prog.godebug = none := by kernel_rfl
theorem laidOut : laidOutB Try.prog = true := by kernel_rfl
theorem opens_ints {H : Type} {enc : TypeId × Value → H} {w : World} {sp : Nat → Bool} {hd : Bool} : Opens H enc Try.prog w 0 sp hd 22 (rSlice 1 (rInt .i64)) :=
  opens_slice Try.underlying22 (by kernel_rfl) (by decide) (opens_int Try.underlying3)
set_option maxRecDepth 100000 in
theorem lifted (os : Os) (started : os.Started) (H : Type) (enc : TypeId × Value → H) :
    ReturnsInHanded {} Try.checked os 3 .any (Rows.silentUnionsSpec.pre6 enc Try.prog Try.f3 Rows.silentUnionsRow.domain false) (Rows.silentUnionsSpec.post enc Try.prog Try.f3 false true false false) := by
  refine returnsInHanded_of_change (C := Try.checked) own started (by kernel_rfl) Try.func3
    (ChangeSpec.witness6 (enc := enc) (C := Try.checked) false ⟨#[], #[.slice none 0 0, .slice none 0 0], []⟩ 8 (by kernel_rfl) (by kernel_rfl) (by kernel_rfl) (by kernel_rfl)) ?_
  intro W base args ds gs before hval0 hW hcnd _
  have hW' := hW
  obtain ⟨p, q, hA0, hV, rfl, hfz, hnd⟩ := hW
  have hA : DataW.TrodAll enc Try.prog W 0 (fun _ => true) true Try.f3.params.toList args.toList ds p := hA0
  rw [Try.params3] at hA
  obtain ⟨v0, vs0, d0, ds0, p0, q0, hargs, rfl, rfl, h0, r0⟩ := trodAll_cons hA
  obtain ⟨v1, vs1, d1, ds1, p1, q1, rfl, rfl, rfl, h1, r1⟩ := trodAll_cons r0
  obtain ⟨rfl, rfl, rfl⟩ := trodAll_nil r1
  obtain rfl : args = #[v0, v1] := by cases args; simp_all
  obtain ⟨rfl, rfl⟩ := trodVars_none hV
  obtain ⟨fuel0, hf0⟩ := h0
  obtain ⟨fuel1, hf1⟩ := h1
  obtain ⟨a, n, c, rfl⟩ := okWide_slice Try.underlying22 (hval0 0 22 v0 rfl rfl)
  obtain ⟨b, m, d, rfl⟩ := okWide_slice Try.underlying22 (hval0 1 22 v1 rfl rfl)
  obtain ⟨la, hla⟩ := opens_ints _ _ _ hf0
  obtain ⟨lb, hlb⟩ := opens_ints _ _ _ hf1
  refine (walk a b n m c d la lb W hla hlb).mono fun e W' ⟨he, hb⟩ => ⟨.bool true, he, ?_⟩
  exact law_post laidOut (of_decide_eq_true (by kernel_rfl)) rfl rfl Try.underlying4 hW' rfl rfl rfl hb

theorem over : Rows.silentUnionsRow.holds Try.pinned (OpenSpec.ofChange Rows.silentUnionsSpec) :=
  OpenClaim.holds_of_wide 3 Try.f3 rfl rfl rfl rfl rfl rfl rfl ⟨rfl, rfl, rfl, rfl, rfl⟩ rfl rfl rfl rfl rfl (by kernel_rfl) Try.func3 (by kernel_rfl)
    (of_decide_eq_true (by kernel_rfl)) (by unfold Func.isWrapper; first | (rw [if_pos (by decide +kernel)]; kernel_rfl) | (rw [if_neg (by decide +kernel)]; exact ⟨rfl, rfl⟩))
    (fun os started H enc _ => lifted os started H enc)
theorem proved : Rows.SilentUnionsSaid :=
  over
#print axioms proved
end Go.Proofs.Ytadjimfkfmojkaa.silentUnions
