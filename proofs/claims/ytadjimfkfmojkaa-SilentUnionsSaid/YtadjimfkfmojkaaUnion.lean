/- The contracts of silent.Union, slices.Sort, slices.Compact at rows of the call's own, and of interleaveref07.Has. -/
import Derived.Test.YtadjimfkfmojkaaInts
import Derived.Test.YtadjimfkfmojkaaShelf
import Derived.Sort.OwnSortedInts
import Derived.Deep.DeepMust
import Derived.Deep.QuietTactic
import Derived.BigQuiet
namespace Go.Proofs.Ytadjimfkfmojkaa
open Go.ChangeShapes Go.WideShapes Go.ChangeAt Go.RowKit Go.Sort
set_option linter.unusedVariables false
def srt (l : List Int) : List Int := l.mergeSort fun x y => decide (x ≤ y)
theorem srt_len (l : List Int) : (srt l).length = l.length := by simp [srt]
theorem eInt : Elem Try.prog 22 3 (.int .i64 0) 1 8 := elem_mk Try.underlying22 (by kernel_rfl) rfl (by decide)

theorem sort_own {base n : Nat} {v : Value} {l : List Int} {w : World} (h : w.ownsRow base 3 1 v n (l.map (Value.int .i64))) (hl : n < 4611686018427387904) :
    Calls Try.prog 40 #[v] w fun e w' => e = .returned (.tuple #[]) ∧ w'.ownsRow base 3 1 v n ((srt l).map (Value.int .i64)) ∧ w.grownBy w' v.ownBlock := by
  have hn : l.length = n := by have := h.1; simpa using this
  subst hn
  rcases h.2 with ⟨rfl, h0⟩ | ⟨g, cap, cur, rfl, hb, hg, hnc, hcm, hcs, ht⟩
  · refine (Try.slices_Sort_int_none none 0 w).mono ?_
    rintro e w' ⟨rfl, rfl⟩
    have : l = [] := List.eq_nil_of_length_eq_zero h0
    subst this
    exact ⟨rfl, by simpa [srt] using h, only_refl _ _⟩
  · refine (Try.slices_Sort_int g 0 cap l w (holds_of_blockI hg (by simpa using ht)) (Array.getElem?_eq_some_iff.1 hg).1 hl).mono ?_
    rintro e w' ⟨rfl, k, os, rfl⟩
    exact ⟨rfl, ownsRow_sortedI (srt_len l) hb hg hnc hcm hcs, grownBy_sortedI _⟩

theorem compact_len (l : List Int) : (Lib.compact l).length ≤ l.length := by
  unfold Lib.compact Lib.compactUpTo
  rw [List.length_map]
  exact Nat.le_trans (List.length_filter_le _ _) (by simp)
theorem compact_own {base n : Nat} {v : Value} {l : List Int} {w : World} (h : w.ownsRow base 3 1 v n (l.map (Value.int .i64))) (hl : n ≤ 9223372036854775807) :
    Calls Try.prog 41 #[v] w fun e w' => ∃ v', e = .returned v' ∧ w'.ownsRow base 3 1 v' (Lib.compact l).length ((Lib.compact l).map (Value.int .i64)) ∧ w.grownBy w' v.ownBlock ∧ v'.ownBlock = v.ownBlock := by
  have hn : l.length = n := by have := h.1; simpa using this
  subst hn
  rcases h.2 with ⟨rfl, h0⟩ | ⟨g, cap, cur, rfl, hb, hg, hnc, hcm, hcs, ht⟩
  · refine (Try.slices_Compact_int_empty none 0 w).mono ?_
    rintro e w' ⟨rfl, rfl⟩
    have : l = [] := List.eq_nil_of_length_eq_zero h0
    subst this
    exact ⟨_, rfl, h, only_refl _ _, rfl⟩
  · refine (Try.slices_Compact_int g 0 cap l w (holds_of_blockI hg (by simpa using ht)) hl hnc).mono ?_
    rintro e w' ⟨rfl, k, rfl⟩
    have hc := compact_len l
    have h1 := ownsRow_sortedI (w := w) (n := k) (os := #[]) (ss := l) (ts := Lib.compact l ++ List.replicate (l.length - (Lib.compact l).length) 0) (by simp; omega) hb hg hnc hcm hcs
    rw [grow_empty] at h1
    have h2 := ownsRow_shrink h1 hc
    have h3 := grownBy_sortedI (w := w) (g := g) (n := k) (os := #[]) (Lib.compact l ++ List.replicate (l.length - (Lib.compact l).length) 0).toArray
    rw [grow_empty] at h3
    refine ⟨_, rfl, ?_, h3, rfl⟩
    rw [Nat.mul_one, List.map_append, List.take_left' (by simp)] at h2
    exact h2

def uni (a b : List Int) : List Int := Lib.compact (srt (a ++ b))
theorem all_one (l : List Int) : ∀ u ∈ l.map (Value.int .i64), u.oneCell' = true := by
  intro u hu
  obtain ⟨x, _, rfl⟩ := List.mem_map.1 hu
  rfl
set_option maxHeartbeats 1000000 in
theorem union_any (A B : Option Addr) (n m c d : Nat) (la lb : List Int) (w : World) (hA : Ints w (· < w.heap.size) (.slice A n c) la) (hB : Ints w (· < w.heap.size) (.slice B m d) lb) (hbig : (n + m) * 8 ≤ 140737488355328) :
    Calls Try.prog 14 #[.slice A n c, .slice B m d] w fun e w' => ∃ v, e = .returned v ∧ w'.ownsRow w.heap.size 3 1 v (uni la lb).length ((uni la lb).map (Value.int .i64)) ∧ Below w.heap.size w w' := by
  have FA := Lib.hid hA.flat
  have FB := Lib.hid hB.flat
  have hmk : ∀ W : World, (Instr.makeSlice 22 (.int .i64 0) (.int .i64 ((n : Int) + (m : Int)))).run Try.prog W = .ok (.slice (some ⟨W.heap.size, 0, none⟩) 0 (n + m)) (W.alloc (.cells (madeCells #[.int .i64 0] (n + m)) 3)) := fun W => by
    have := run_mk eInt .i64 .i64 0 (n + m) (by omega) (by omega) (by omega) W
    rw [Nat.mul_one] at this
    exact this
  have M0 : Hid ((w.alloc (.cells (madeCells #[.int .i64 0] (n + m)) 3)).ownsRow w.heap.size 3 1 (.slice (some ⟨w.heap.size, 0, none⟩) 0 (n + m)) 0 []) := Lib.hid (World.ownsRow_made w _ _ (Nat.le_refl _) (by simp [maxLen]; omega) (by simp [size_madeCells]))
  clear hA hB
  go_enter Try.func14, Try.ntmps14
  go_wp2_with (first
    | (at_builtin; (refine wpList_app rfl (.tmp 12) (.tmp 13) rfl eInt w.heap.size _ 0 _ rfl M0.out A n c _ rfl (FA.out.kept ((Below.refl _ _).alloc (Nat.le_refl _) _)) (all_one la) (by simp only [maxLen]; omega) (by omega) (by simp) ?_); intro v1 w1 hown1 hg1; have hb1 := Lib.hid (((Below.refl w.heap.size w).alloc (Nat.le_refl _) _).grown hg1 (by simp) (own_from M0.out)); have H1 := Lib.hid hown1; clear M0 hown1 hg1 FA)
    | (at_builtin; (refine wpList_app rfl (.tmp 15) (.tmp 16) rfl eInt w.heap.size _ _ _ rfl H1.out B m d _ rfl (FB.out.kept hb1.out) (all_one lb) (by simp only [maxLen]; omega) (by omega) hb1.out.size ?_); intro v2 w2 hown2 hg2; have hb2 := Lib.hid (hb1.out.grown hg2 hb1.out.size (own_from H1.out)); have H2 := Lib.hid hown2; clear H1 hown2 hg2 hb1 FB))
  have H3 : Hid (w2.ownsRow w.heap.size 3 1 v2 (n + m) ((la ++ lb).map (Value.int .i64))) := Lib.hid (by have := H2.out; simpa using this)
  clear H2
  refine (sort_own H3.out (by omega)).mono ?_
  rintro e w3 ⟨rfl, ho3, hg3⟩
  have H4 := Lib.hid ho3
  have hb3 := Lib.hid (hb2.out.grown hg3 hb2.out.size (own_from H3.out))
  clear ho3 hg3 H3 hb2
  go_wp2_with fail
  refine (compact_own H4.out (by omega)).mono ?_
  rintro e w4 ⟨v4, rfl, ho4, hg4, hv4⟩
  have hb4 := Lib.hid (hb3.out.grown hg4 hb3.out.size (own_from H4.out))
  have H5 := Lib.hid ho4
  clear ho4 hg4 hv4 H4 hb3
  go_wp2_with fail
  go_ret
  exact ⟨_, rfl, H5.out, hb4.out⟩

def hasB (l : List Int) (x : Int) : Bool := decide (x ∈ l)
theorem has_any (A : Option Addr) (n c : Nat) (l : List Int) (x : Int) (w : World) (F : Nat → Prop) (h : Ints w F (.slice A n c) l) :
    Calls Try.prog 15 #[.slice A n c, .int .i64 x] w fun e w' => e = .returned (.bool (hasB l x)) ∧ w = w' := by
  have hl := Lib.hid h.len
  have hn9 : n ≤ 9223372036854775807 := by have := h.len; simp only [maxLen] at this; omega
  go_enter Try.func15, Try.ntmps15
  go_wp2_with fail
  go_loop [5] (fun i => ∃ k : Nat, k ≤ n ∧ i = .int .i64 k ∧ Hid (∀ j y, j < k → l[j]? = some y → y ≠ x)) (fun i => n - (intOf i).toNat)
  case atStart => exact ⟨0, Nat.zero_le _, rfl, Lib.hid (fun j y hj => by omega)⟩
  case round =>
    obtain ⟨k, hk, rfl, hno⟩ := hrel
    by_cases hlt : k < n
    · obtain ⟨b, o, y, rfl, hF, hbz, hy, hc⟩ := int_at h hlt
      clear hF
      by_cases he : y = x
      · have ht : (y == x) = true := by simpa using he
        have Hf : Hid (hasB l x = true) := Lib.hid (by unfold hasB; rw [decide_eq_true_eq, ← he]; exact List.mem_of_getElem? hy)
        clear hy he
        go_wp2_with fail
        go_ret
        exact ⟨by rw [Hf.out]; rfl, rfl⟩
      · have ht : (y == x) = false := by simpa using he
        have Hn : Hid (∀ j z, j < k + 1 → l[j]? = some z → z ≠ x) := Lib.hid (by
          intro j z hj hz
          rcases Nat.lt_or_ge j k with hjk | hjk
          · exact hno.out j z hjk hz
          · obtain rfl : j = k := by omega
            rw [hy] at hz
            injection hz with hz
            rw [← hz]
            exact he)
        clear hy he hno
        go_wp2_with fail
        go_round
        case rel => exact ⟨k + 1, by omega, by go_num, Hn⟩
        case measure => simp [intOf]; omega
    · have Hf : Hid (hasB l x = false) := Lib.hid (by
        unfold hasB
        rw [decide_eq_false_iff_not]
        intro hc
        obtain ⟨j, hj, hx⟩ := List.getElem_of_mem hc
        exact hno.out j x (by have := hl.out; omega) (by rw [List.getElem?_eq_getElem hj, hx]) rfl)
      clear hno
      go_wp2_with fail
      go_ret
      exact ⟨by rw [Hf.out]; rfl, rfl⟩
end Go.Proofs.Ytadjimfkfmojkaa
