/- ObjectStarts: Start returns the specified state of every world: the law returns true for every world. -/
import Derived.Test.YtadjimfkfmojkaaObu
import Derived.Test.YtadjimfkfmojkaaHlas
import Derived.Test.YtadjimfkfmojkaaGlu
import Derived.Test.YtadjimfkfmojkaaChecked
namespace Go.Proofs.Ytadjimfkfmojkaa.objectStarts
open Go.ChangeShapes Go.WideShapes Go.ChangeAt Go.RowKit Am
set_option linter.unusedVariables false
set_option linter.unusedSimpArgs false
set_option maxRecDepth 1000000 in
theorem awakeRun : Am.isTrue (callBy Try.prog (exec Try.prog (fun _ => none) 1000) 23 [] Heap.empty) = true := by kernel_rfl
theorem fit0 : Fit Try.prog (fun _ => none) := ⟨fun t ts h => (by cases h), fit.names, fit.order⟩
theorem awake_ok : PureA Try.prog 23 [] (.bool true) := by
  have hd := (goods checkedAll).2
  have hs := callBy_sound (P := Try.prog) hd (fun c τ H e τ' H' dr hx => exec_sound fit0 hd 1000 c τ H e τ' H' dr hx)
  cases hc : callBy Try.prog (exec Try.prog (fun _ => none) 1000) 23 [] Heap.empty with
  | none => have := awakeRun; rw [hc] at this; cases this
  | some r =>
    obtain ⟨v, H'⟩ := r
    have h := awakeRun
    rw [hc] at h
    have hv : v = .bool true := by
      unfold Am.isTrue at h
      split at h
      · rename_i heq; cases heq; rfl
      · cases h
    subst hv
    have hV : CallV Try.prog 23 [] (.bool true) := fun w σ vs hW hvs => (hs.ok _ _ _ _ _ hc w σ vs hW hvs).mono fun e w' ⟨v', σ', he, k1, k2, k3, k4⟩ => ⟨v', σ', H', he, k1, k3⟩
    exact ⟨hs.body _ _ _ _ _ hc, fun H hb hS => ⟨.bool true, H, [], lift (.bool true) (fun i a h => by simp at h) hV H, .refl hb hS, rfl, rfl⟩⟩
theorem small_start (w : WorldD) (h1 : w.locks.length ≤ 100) (h2 : w.futures.length ≤ 100) (h3 : w.threads.length ≤ 100) : SmallS (startS w) := by
  refine ⟨by simp [startS]; omega, by simp [startS]; omega, by simp [startS]; omega, fun l hl => ?_⟩
  have : l = ⟨-1, []⟩ := by simp [startS] at hl; exact hl.2
  subst this
  decide
set_option maxRecDepth 100000 in
theorem law (w : WorldD) : PureA Try.prog 6 [.agg w.enc] (.bool true) := by
  refine law08_ObjectStarts_ok _ _ _ ?_
  unfold law08_ObjectStarts_w
  repeat' (first | refine a_load_q (by first | assumption | rfl) rfl ?_ | refine a_load_q (at_inB (by assumption)) rfl ?_ | refine a_faddr_q ?_ | refine a_len_m ?_ | refine a_len_l ?_ | refine a_grd_y (by first | assumption | rfl) ?_ | refine a_grd_n (by first | assumption | rfl) ?_ | refine a_grd_u ?_ | refine a_pick_t (by first | assumption | rfl) ?_ | refine a_pick_f (by first | assumption | rfl) ?_ | refine a_eql ?_ | refine a_lss ?_ | refine a_neq ?_ | refine a_geq ?_ | refine a_gtr ?_ | refine a_leq ?_ | refine a_add ?_ | refine a_sub ?_ | refine a_mul ?_ | refine a_eqs ?_ | refine a_nes ?_ | refine a_not ?_ | refine a_neg ?_ | refine a_conv ?_ | refine a_convS ?_ | refine a_cond_t (by first | assumption | rfl) ?_ | refine a_cond_f (by first | assumption | rfl) ?_ | refine a_box rfl rfl (fun nb_ hnb_ => ?_) | refine a_frz_p (by first | exact .here _ | exact .there _ (.here _) | exact .there _ (.there _ (.here _)) | exact .there _ (.there _ (.there _ (.here _)))) (by first | exact Nat.succ_pos _ | decide | simp) (by first | exact Nat.succ_pos _ | decide | simp) ?_ | refine a_alloc (fun nb_ hnb_ => ?_) | refine a_faddr_p ?_ | refine a_store_box (by first | exact .here _ | exact .there _ (.here _) | exact .there _ (.there _ (.here _)) | exact .there _ (.there _ (.there _ (.here _))) | exact .there _ (.there _ (.there _ (.there _ (.here _))))) rfl rfl rfl rfl ?_ | refine a_store_one (by first | exact .here _ | exact .there _ (.here _) | exact .there _ (.there _ (.here _)) | exact .there _ (.there _ (.there _ (.here _))) | exact .there _ (.there _ (.there _ (.there _ (.here _))))) (by first | assumption | rfl) rfl rfl (by first | decide | exact Nat.lt_of_sub_pos (Nat.succ_pos _) | simp | omega) rfl ?_ | refine a_store_row (by first | exact .here _ | exact .there _ (.here _) | exact .there _ (.there _ (.here _)) | exact .there _ (.there _ (.there _ (.here _))) | exact .there _ (.there _ (.there _ (.there _ (.here _))))) (by first | assumption | rfl) rfl rfl rfl rfl rfl ?_ | refine a_load_p (by first | exact .head _ | exact .tail _ (.head _) | exact .tail _ (.tail _ (.head _)) | exact .tail _ (.tail _ (.tail _ (.head _))) | exact .tail _ (.tail _ (.tail _ (.tail _ (.head _))))) (by first | assumption | rfl) rfl ?_ | refine a_row_q (by first | assumption | rfl) rfl ?_ | refine a_row_q (at_inB (by assumption)) rfl ?_ | refine a_row_p (by first | exact .head _ | exact .tail _ (.head _) | exact .tail _ (.tail _ (.head _)) | exact .tail _ (.tail _ (.tail _ (.head _))) | exact .tail _ (.tail _ (.tail _ (.tail _ (.head _))))) (by first | assumption | rfl) rfl ?_ | refine a_idx_n (by first | assumption | rfl) rfl ?_ | refine a_idx_l (by first | decide | omega) (by first | assumption | rfl) rfl ?_ | refine a_idx_l (nn_inB (by assumption)) (at_inB (by assumption)) rfl ?_ | refine a_idx_sn (by first | assumption | omega) (by first | exact .head _ | exact .tail _ (.head _) | exact .tail _ (.tail _ (.head _)) | exact .tail _ (.tail _ (.tail _ (.head _)))) rfl ?_ | refine a_ext rfl ?_ | refine a_build rfl ?_ | refine a_fld rfl ?_ | refine a_nil_p ?_ | refine a_nil_q ?_ | refine a_nil_f ?_ | refine a_note ?_ | refine a_join ?_ | refine a_len_s ?_ | refine a_len_n ?_ | refine a_lenS ?_ | refine a_tt ?_ | refine a_calm (by simp only [W.free, blocksOf, slOf, List.forall_mem_nil, List.forall_mem_cons, List.not_mem_nil, not_false_eq_true, implies_true, and_true, true_and, and_self, Bool.false_eq_true, reduceCtorEq, forall_const, false_implies, List.mem_singleton, forall_eq, List.append_nil, List.nil_append]) ?_ | refine a_dgrd_y (by first | assumption | rfl) ?_ | refine a_dgrd_n (by first | assumption | rfl) ?_ | refine a_dgrd_u ?_ | refine a_mslice (by omega) (by omega) (by omega) (fun nb_ hnb_ => ?_) | refine a_bslice (by decide) rfl (fun nb_ hnb_ => ?_) | refine a_idx_s (by first | decide | omega) (by first | assumption | omega) (by first | exact .head _ | exact .tail _ (.head _) | exact .tail _ (.tail _ (.head _)) | exact .tail _ (.tail _ (.tail _ (.head _)))) rfl ?_ | refine a_cond (fun h => ?_) (fun h => ?_) | refine a_grd_t (fun h => ?_) (fun h => ?_) | refine a_grd_f (fun h => ?_) (fun h => ?_) | refine a_dgrd_t (fun h => ?_) (fun h => ?_) | refine a_dgrd_f (fun h => ?_) (fun h => ?_))
  · exact ⟨rfl, rfl⟩
  · rename_i q1 q2
    have e1 : w.locks.length ≤ 100 := by have := of_decide_eq_false q1; omega
    have e2 : w.threads.length ≤ 100 := by have := of_decide_eq_false q2; omega
    have e3 : w.futures.length ≤ 100 := by have := of_decide_eq_false h; omega
    have hs : decide (startS w = startS w) = true := decide_eq_true rfl
    repeat' (first | refine a_load_q (by first | assumption | rfl) rfl ?_ | refine a_load_q (at_inB (by assumption)) rfl ?_ | refine a_faddr_q ?_ | refine a_len_m ?_ | refine a_len_l ?_ | refine a_grd_y (by first | assumption | rfl) ?_ | refine a_grd_n (by first | assumption | rfl) ?_ | refine a_grd_u ?_ | refine a_pick_t (by first | assumption | rfl) ?_ | refine a_pick_f (by first | assumption | rfl) ?_ | refine a_eql ?_ | refine a_lss ?_ | refine a_neq ?_ | refine a_geq ?_ | refine a_gtr ?_ | refine a_leq ?_ | refine a_add ?_ | refine a_sub ?_ | refine a_mul ?_ | refine a_eqs ?_ | refine a_nes ?_ | refine a_not ?_ | refine a_neg ?_ | refine a_conv ?_ | refine PureA.dcall (start_ok w e1 e3 e2) (by simp) ?_ | refine PureA.dcall (startR_ok w e1 e3 e2) (by simp) ?_ | refine PureA.dcall (same_ok _ _ (small_start w e1 e3 e2)) (by simp) ?_ | refine PureA.dcall awake_ok (by simp) ?_ | refine a_convS ?_ | refine a_cond_t (by first | assumption | rfl) ?_ | refine a_cond_f (by first | assumption | rfl) ?_ | refine a_box rfl rfl (fun nb_ hnb_ => ?_) | refine a_frz_p (by first | exact .here _ | exact .there _ (.here _) | exact .there _ (.there _ (.here _)) | exact .there _ (.there _ (.there _ (.here _)))) (by first | exact Nat.succ_pos _ | decide | simp) (by first | exact Nat.succ_pos _ | decide | simp) ?_ | refine a_alloc (fun nb_ hnb_ => ?_) | refine a_faddr_p ?_ | refine a_store_box (by first | exact .here _ | exact .there _ (.here _) | exact .there _ (.there _ (.here _)) | exact .there _ (.there _ (.there _ (.here _))) | exact .there _ (.there _ (.there _ (.there _ (.here _))))) rfl rfl rfl rfl ?_ | refine a_store_one (by first | exact .here _ | exact .there _ (.here _) | exact .there _ (.there _ (.here _)) | exact .there _ (.there _ (.there _ (.here _))) | exact .there _ (.there _ (.there _ (.there _ (.here _))))) (by first | assumption | rfl) rfl rfl (by first | decide | exact Nat.lt_of_sub_pos (Nat.succ_pos _) | simp | omega) rfl ?_ | refine a_store_row (by first | exact .here _ | exact .there _ (.here _) | exact .there _ (.there _ (.here _)) | exact .there _ (.there _ (.there _ (.here _))) | exact .there _ (.there _ (.there _ (.there _ (.here _))))) (by first | assumption | rfl) rfl rfl rfl rfl rfl ?_ | refine a_load_p (by first | exact .head _ | exact .tail _ (.head _) | exact .tail _ (.tail _ (.head _)) | exact .tail _ (.tail _ (.tail _ (.head _))) | exact .tail _ (.tail _ (.tail _ (.tail _ (.head _))))) (by first | assumption | rfl) rfl ?_ | refine a_row_q (by first | assumption | rfl) rfl ?_ | refine a_row_q (at_inB (by assumption)) rfl ?_ | refine a_row_p (by first | exact .head _ | exact .tail _ (.head _) | exact .tail _ (.tail _ (.head _)) | exact .tail _ (.tail _ (.tail _ (.head _))) | exact .tail _ (.tail _ (.tail _ (.tail _ (.head _))))) (by first | assumption | rfl) rfl ?_ | refine a_idx_n (by first | assumption | rfl) rfl ?_ | refine a_idx_l (by first | decide | omega) (by first | assumption | rfl) rfl ?_ | refine a_idx_l (nn_inB (by assumption)) (at_inB (by assumption)) rfl ?_ | refine a_idx_sn (by first | assumption | omega) (by first | exact .head _ | exact .tail _ (.head _) | exact .tail _ (.tail _ (.head _)) | exact .tail _ (.tail _ (.tail _ (.head _)))) rfl ?_ | refine a_ext rfl ?_ | refine a_build rfl ?_ | refine a_fld rfl ?_ | refine a_nil_p ?_ | refine a_nil_q ?_ | refine a_nil_f ?_ | refine a_note ?_ | refine a_join ?_ | refine a_len_s ?_ | refine a_len_n ?_ | refine a_lenS ?_ | refine a_tt ?_ | refine a_calm (by simp only [W.free, blocksOf, slOf, List.forall_mem_nil, List.forall_mem_cons, List.not_mem_nil, not_false_eq_true, implies_true, and_true, true_and, and_self, Bool.false_eq_true, reduceCtorEq, forall_const, false_implies, List.mem_singleton, forall_eq, List.append_nil, List.nil_append]) ?_ | refine a_dgrd_y (by first | assumption | rfl) ?_ | refine a_dgrd_n (by first | assumption | rfl) ?_ | refine a_dgrd_u ?_ | refine a_mslice (by omega) (by omega) (by omega) (fun nb_ hnb_ => ?_) | refine a_bslice (by decide) rfl (fun nb_ hnb_ => ?_) | refine a_idx_s (by first | decide | omega) (by first | assumption | omega) (by first | exact .head _ | exact .tail _ (.head _) | exact .tail _ (.tail _ (.head _)) | exact .tail _ (.tail _ (.tail _ (.head _)))) rfl ?_ | refine a_cond (fun h => ?_) (fun h => ?_) | refine a_grd_t (fun h => ?_) (fun h => ?_) | refine a_grd_f (fun h => ?_) (fun h => ?_) | refine a_dgrd_t (fun h => ?_) (fun h => ?_) | refine a_dgrd_f (fun h => ?_) (fun h => ?_))
    exact ⟨rfl, rfl⟩
  · exact ⟨rfl, rfl⟩
  · exact ⟨rfl, rfl⟩
section
variable {H : Type} {enc : TypeId × Value → H} {w : World} {base : Nat} {spare : Nat → Bool} {held : Bool}
theorem u_str : Try.prog.underlying 9 = some .string := by kernel_rfl
theorem u_bool : Try.prog.underlying 4 = some .bool := by kernel_rfl
theorem u_int : Try.prog.underlying 3 = some (.int .i64) := by kernel_rfl
theorem u_int64 : Try.prog.underlying 2 = some (.int .i64) := by kernel_rfl
theorem am_lock : Opens H enc Try.prog w base spare held 100 (rAM LockI.enc fun _ => True) := fun fuel cs x h => by
  obtain ⟨hl, hall⟩ := am_cells [9, 4] Try.underlying100 h rfl (by kernel_rfl) (by kernel_rfl)
  obtain ⟨c0, m0, y0, e0, k0⟩ := hall 0 _ rfl
  obtain ⟨d0, _, r0⟩ := am_str u_str _ _ _ k0
  obtain ⟨c1, m1, y1, e1, k1⟩ := hall 1 _ rfl
  obtain ⟨d1, _, r1⟩ := am_bool u_bool _ _ _ k1
  have hcs : cs = [c0, c1] := by
    match cs, hl with
    | [a0, a1], _ => simp only [List.getElem?_cons_zero, List.getElem?_cons_succ, Option.some.injEq] at e0 e1; rw [e0, e1]
  subst hcs
  exact ⟨⟨d0, d1⟩, trivial, (reps_cons r0 (reps_cons r1 reps_nil))⟩
theorem am_cond : Opens H enc Try.prog w base spare held 102 (rAM CondI.enc fun _ => True) := fun fuel cs x h => by
  obtain ⟨hl, hall⟩ := am_cells [9, 3] Try.underlying102 h rfl (by kernel_rfl) (by kernel_rfl)
  obtain ⟨c0, m0, y0, e0, k0⟩ := hall 0 _ rfl
  obtain ⟨d0, _, r0⟩ := am_str u_str _ _ _ k0
  obtain ⟨c1, m1, y1, e1, k1⟩ := hall 1 _ rfl
  obtain ⟨d1, _, r1⟩ := am_int u_int _ _ _ k1
  have hcs : cs = [c0, c1] := by
    match cs, hl with
    | [a0, a1], _ => simp only [List.getElem?_cons_zero, List.getElem?_cons_succ, Option.some.injEq] at e0 e1; rw [e0, e1]
  subst hcs
  exact ⟨⟨d0, d1⟩, trivial, (reps_cons r0 (reps_cons r1 reps_nil))⟩
theorem am_cell : Opens H enc Try.prog w base spare held 98 (rAM CellD.enc fun _ => True) := fun fuel cs x h => by
  obtain ⟨hl, hall⟩ := am_cells [9, 3, 3, 4, 2] Try.underlying98 h rfl (by kernel_rfl) (by kernel_rfl)
  obtain ⟨c0, m0, y0, e0, k0⟩ := hall 0 _ rfl
  obtain ⟨d0, _, r0⟩ := am_str u_str _ _ _ k0
  obtain ⟨c1, m1, y1, e1, k1⟩ := hall 1 _ rfl
  obtain ⟨d1, _, r1⟩ := am_int u_int _ _ _ k1
  obtain ⟨c2, m2, y2, e2, k2⟩ := hall 2 _ rfl
  obtain ⟨d2, _, r2⟩ := am_int u_int _ _ _ k2
  obtain ⟨c3, m3, y3, e3, k3⟩ := hall 3 _ rfl
  obtain ⟨d3, _, r3⟩ := am_bool u_bool _ _ _ k3
  obtain ⟨c4, m4, y4, e4, k4⟩ := hall 4 _ rfl
  obtain ⟨d4, _, r4⟩ := am_int u_int64 _ _ _ k4
  have hcs : cs = [c0, c1, c2, c3, c4] := by
    match cs, hl with
    | [a0, a1, a2, a3, a4], _ => simp only [List.getElem?_cons_zero, List.getElem?_cons_succ, Option.some.injEq] at e0 e1 e2 e3 e4; rw [e0, e1, e2, e3, e4]
  subst hcs
  exact ⟨⟨d0, d1, d2, d3, d4⟩, trivial, (reps_cons r0 (reps_cons r1 (reps_cons r2 (reps_cons r3 (reps_cons r4 reps_nil)))))⟩
theorem am_site : Opens H enc Try.prog w base spare held 163 (rAM SiteD.enc fun _ => True) := fun fuel cs x h => by
  obtain ⟨hl, hall⟩ := am_cells [3, 3, 3] Try.underlying163 h rfl (by kernel_rfl) (by kernel_rfl)
  obtain ⟨c0, m0, y0, e0, k0⟩ := hall 0 _ rfl
  obtain ⟨d0, _, r0⟩ := am_int u_int _ _ _ k0
  obtain ⟨c1, m1, y1, e1, k1⟩ := hall 1 _ rfl
  obtain ⟨d1, _, r1⟩ := am_int u_int _ _ _ k1
  obtain ⟨c2, m2, y2, e2, k2⟩ := hall 2 _ rfl
  obtain ⟨d2, _, r2⟩ := am_int u_int _ _ _ k2
  have hcs : cs = [c0, c1, c2] := by
    match cs, hl with
    | [a0, a1, a2], _ => simp only [List.getElem?_cons_zero, List.getElem?_cons_succ, Option.some.injEq] at e0 e1 e2; rw [e0, e1, e2]
  subst hcs
  exact ⟨⟨d0, d1, d2⟩, trivial, (reps_cons r0 (reps_cons r1 (reps_cons r2 reps_nil)))⟩
theorem am_world : Opens H enc Try.prog w base spare held 46 (rAM WorldD.enc fun _ => True) := fun fuel cs x h => by
  obtain ⟨hl, hall⟩ := am_cells [40, 41, 42, 43, 43, 44] Try.underlying46 h rfl (by kernel_rfl) (by kernel_rfl)
  obtain ⟨c0, m0, y0, e0, k0⟩ := hall 0 _ rfl
  obtain ⟨d0, _, r0⟩ := (am_slice Try.underlying40 (show Try.prog.cellsOf 98 = 5 by kernel_rfl) (by decide) am_cell) _ _ _ k0
  obtain ⟨c1, m1, y1, e1, k1⟩ := hall 1 _ rfl
  obtain ⟨d1, _, r1⟩ := (am_slice Try.underlying41 (show Try.prog.cellsOf 100 = 2 by kernel_rfl) (by decide) am_lock) _ _ _ k1
  obtain ⟨c2, m2, y2, e2, k2⟩ := hall 2 _ rfl
  obtain ⟨d2, _, r2⟩ := (am_slice Try.underlying42 (show Try.prog.cellsOf 102 = 2 by kernel_rfl) (by decide) am_cond) _ _ _ k2
  obtain ⟨c3, m3, y3, e3, k3⟩ := hall 3 _ rfl
  obtain ⟨d3, _, r3⟩ := (am_slice Try.underlying43 (show Try.prog.cellsOf 9 = 1 by kernel_rfl) (by decide) (am_str u_str)) _ _ _ k3
  obtain ⟨c4, m4, y4, e4, k4⟩ := hall 4 _ rfl
  obtain ⟨d4, _, r4⟩ := (am_slice Try.underlying43 (show Try.prog.cellsOf 9 = 1 by kernel_rfl) (by decide) (am_str u_str)) _ _ _ k4
  obtain ⟨c5, m5, y5, e5, k5⟩ := hall 5 _ rfl
  obtain ⟨d5, _, r5⟩ := (am_slice Try.underlying44 (show Try.prog.cellsOf 163 = 3 by kernel_rfl) (by decide) am_site) _ _ _ k5
  have hcs : cs = [c0, c1, c2, c3, c4, c5] := by
    match cs, hl with
    | [a0, a1, a2, a3, a4, a5], _ => simp only [List.getElem?_cons_zero, List.getElem?_cons_succ, Option.some.injEq] at e0 e1 e2 e3 e4 e5; rw [e0, e1, e2, e3, e4, e5]
  subst hcs
  exact ⟨⟨d0, d1, d2, d3, d4, d5⟩, trivial, (reps_cons r0 (reps_cons r1 (reps_cons r2 (reps_cons r3 (reps_cons r4 (reps_cons r5 reps_nil))))))⟩
end
theorem own : ownKnob Try.prog.godebug = none := by kernel_rfl
theorem laidOut : laidOutB Try.prog = true := by kernel_rfl
theorem agg_of {v : Value} (h : v.cells.toList.length = 6) : ∃ cs : List Value, v = .agg cs.toArray ∧ v.cells.toList = cs := by
  cases v with
  | agg a => exact ⟨a.toList, by simp, rfl⟩
  | _ => simp [Value.cells] at h
theorem walk (v0 : Value) (W : World) {H : Type} {enc : TypeId × Value → H} {d : DataW H} {p : List MemPlace} (h : DataW.Trod enc Try.prog W 0 (fun _ => true) true 46 v0 d p) :
    Calls Try.prog 6 #[v0] W fun e w' => e = .returned (.bool true) ∧ Below W.heap.size W w' := by
  obtain ⟨fuel, hf⟩ := h
  obtain ⟨w, _, hw⟩ := am_world _ _ _ hf
  obtain ⟨cs, rfl, hcs⟩ := agg_of (v := v0) (by rw [← hw.1]; rfl)
  rw [hcs] at hw
  exact law_calls (law w) W (reps_one (.agg _ _ hw.1 hw.2))
set_option maxRecDepth 100000 in
theorem lifted (os : Os) (started : os.Started) (H : Type) (enc : TypeId × Value → H) :
    ReturnsInHanded {} Try.checked os 6 .any (Rows.objectStartsSpec.pre6 enc Try.prog Try.f6 Rows.objectStartsRow.domain false) (Rows.objectStartsSpec.post enc Try.prog Try.f6 false true false false) := by
  refine returnsInHanded_of_change (C := Try.checked) own started (by kernel_rfl) Try.func6
    (ChangeSpec.witness6 (enc := enc) (C := Try.checked) false ⟨#[], #[.agg #[.slice none 0 0, .slice none 0 0, .slice none 0 0, .slice none 0 0, .slice none 0 0, .slice none 0 0]], []⟩ 8 (by kernel_rfl) (by kernel_rfl) (by kernel_rfl) (by kernel_rfl)) ?_
  intro W base args ds gs before hval0 hW hcnd _
  have hW' := hW
  obtain ⟨p, q, hA0, hV, rfl, hfz, hnd⟩ := hW
  have hA : DataW.TrodAll enc Try.prog W 0 (fun _ => true) true Try.f6.params.toList args.toList ds p := hA0
  rw [Try.params6] at hA
  obtain ⟨v0, vs0, d0, ds0, p0, q0, hargs, rfl, rfl, h0, r0⟩ := trodAll_cons hA
  obtain ⟨rfl, rfl, rfl⟩ := trodAll_nil r0
  obtain rfl : args = #[v0] := by cases args; simp_all
  obtain ⟨rfl, rfl⟩ := trodVars_none hV
  refine (walk v0 W h0).mono fun e W' ⟨he, hb⟩ => ⟨.bool true, he, ?_⟩
  exact law_post laidOut (of_decide_eq_true (by kernel_rfl)) rfl rfl Try.underlying4 hW' rfl rfl rfl hb
theorem over : Rows.objectStartsRow.holds Try.pinned (OpenSpec.ofChange Rows.objectStartsSpec) :=
  OpenClaim.holds_of_wide 6 Try.f6 rfl rfl rfl rfl rfl rfl rfl ⟨rfl, rfl, rfl, rfl, rfl⟩ rfl rfl rfl rfl rfl (by kernel_rfl) Try.func6 (by kernel_rfl)
    (of_decide_eq_true (by kernel_rfl)) (by unfold Func.isWrapper; first | (rw [if_pos (by decide +kernel)]; kernel_rfl) | (rw [if_neg (by decide +kernel)]; exact ⟨rfl, rfl⟩))
    (fun os started H enc _ => lifted os started H enc)
theorem proved : Rows.ObjectStartsSaid :=
  over
#print axioms proved
end Go.Proofs.Ytadjimfkfmojkaa.objectStarts
