/- ObjectTells: all functions return what is specified for every world, state and event: the law returns true for every world, state, thread, kind, object and chosen thread. -/
import Derived.Test.YtadjimfkfmojkaaQ7f
import Derived.Test.YtadjimfkfmojkaaChecked
import Derived.SizedLaws
set_option linter.unusedSimpArgs false
set_option linter.unusedVariables false
section
namespace Go.Proofs.Ytadjimfkfmojkaa.Am
set_option maxRecDepth 100000
set_option linter.unusedSimpArgs false
set_option linter.unusedVariables false
set_option linter.unusedSectionVars false
/-- the loop: what is in range is put into the list -/
theorem blr_loop (w : WorldD) (raw : List Int) (hr : raw.length < 2 ^ 41) (v0 : AV) (L : SH) (hz : FzS [.pptr [w.enc] 0 0, v0, .nils, .int .i64 (0 : Nat)] L [.pptr [w.enc] 0 0, .lst (raw.map intE), .lst [], .int .i64 (0 : Nat)] []) (Q : AV → SH → Prop) (hq : ∀ v K, Fz K v (.lst ((asc (raw.filter fun x => inB x w.threads.length)).map intE)) → Q v K) :
    W.loop (ref08_Blockers_l2 Q) [.pptr [w.enc] 0 0, v0, .nils, .int .i64 (0 : Nat)] L := by
  refine loop_ex raw.length (fun i (_ : Unit) => ([.pptr [w.enc] 0 0, .lst (raw.map intE), .lst ((puts [] ((raw.take i).filter fun x => inB x w.threads.length)).map intE), .int .i64 i], [])) (fun _ _ => True) () trivial hz ?_
  rintro i _ hi _
  dsimp only
  unfold ref08_Blockers_l2
  have hpl := puts_len ((raw.take i).filter fun x => inB x w.threads.length) []
  have htl : ((raw.take i).filter fun x => inB x w.threads.length).length ≤ i := Nat.le_trans (List.length_filter_le _ _) (by simp; omega)
  simp only [List.length_nil] at hpl
  rcases Nat.lt_or_ge i raw.length with g1 | g1
  · have hd := dec_lt g1
    have hx := map_at (f := intE) g1
    have hp := put_ok (puts [] ((raw.take i).filter fun x => inB x w.threads.length)) raw[i] (by omega)
    have htk : ((raw.take (i + 1)).filter fun x => inB x w.threads.length) = if inB raw[i] w.threads.length then ((raw.take i).filter fun x => inB x w.threads.length) ++ [raw[i]] else ((raw.take i).filter fun x => inB x w.threads.length) := by
      rw [List.take_succ_eq_append_getElem g1, List.filter_append]
      cases h : inB raw[i] w.threads.length <;> simp [h]
    cases h : inB raw[i] w.threads.length with
    | false =>
      rw [h] at htk
      have hin := in_ok raw[i] w.threads.length
      rw [h] at hin
      repeat' (first | (refine h_load1 ?_; refine b_load_q ?_) | (refine h_faddr ?_; refine a_faddr_q ?_) | (refine h_bin ?_; first | refine a_lss ?_ | refine a_add ?_) | (refine h_cond ?_; first | refine b_cond_t ?_ | refine b_cond_f ?_) | (refine h_idx ?_; refine b_idx_n ?_) | (refine h_len ?_; refine a_len_m ?_) | (refine h_calm ?_; refine b_calm ?_) | (refine h_note ?_; refine a_note ?_) | refine a_dmark ?_ | ((with_reducible refine h_dfn 61 ?_); refine b_dcall (hin) ?_) | refine a_tt ?_)
      exact ⟨i + 1, (), by omega, by omega, trivial, fzs_eq (by rw [i64_succ g1 (by omega), htk]; rfl) rfl⟩
    | true =>
      rw [h] at htk
      have hin := in_ok raw[i] w.threads.length
      rw [h] at hin
      repeat' (first | (refine h_load1 ?_; refine b_load_q ?_) | (refine h_faddr ?_; refine a_faddr_q ?_) | (refine h_bin ?_; first | refine a_lss ?_ | refine a_add ?_) | (refine h_cond ?_; refine b_cond_t ?_) | (refine h_idx ?_; refine b_idx_n ?_) | (refine h_len ?_; refine a_len_m ?_) | (refine h_calm ?_; refine b_calm ?_) | (refine h_note ?_; refine a_note ?_) | refine a_mark ?_ | refine a_dmark ?_ | ((with_reducible refine h_dfn 61 ?_); refine b_dcall (hin) ?_) | ((with_reducible refine h_fn 64 ?_); refine m_call (hp) ?_) | refine a_tt ?_)
      exact ⟨i + 1, (), by omega, by omega, trivial, fzs_eq (by rw [i64_succ g1 (by omega), htk, if_pos rfl, puts_snoc]; rfl) rfl⟩
  · have hd := dec_ge g1
    rw [List.take_of_length_le g1, puts_eq]
    repeat' (first | (refine h_bin ?_; refine a_lss ?_) | (refine h_cond ?_; refine b_cond_f ?_) | (refine h_len ?_; refine a_len_m ?_))
    exact hq _ _ (.refl _)
theorem blr_j3 (w : WorldD) (raw : List Int) (hr : raw.length < 2 ^ 41) (b : Nat) (L L' : SH) (hd : Del b ⟨1, raw.map intE⟩ L L') (Q : AV → SH → Prop) (hq : ∀ v K, Fz K v (.lst ((asc (raw.filter fun x => inB x w.threads.length)).map intE)) → Q v K) : ref08_Blockers_j3 Q [.pptr [w.enc] 0 0, .sl b 0 raw.length] L := by
  unfold ref08_Blockers_j3
  refine blr_loop w raw hr _ _ (FzS.drop (K := L) (R := []) (by simp) rfl (fun i a a2 h1 h2 => ?_)) Q hq
  match i with
  | 0 => cases h1; cases h2; exact .refl _
  | 1 => cases h1; cases h2; exact Fz.sls hd.mem' rfl (by decide) rfl
  | 2 => cases h1; cases h2; exact .nils
  | 3 => cases h1; cases h2; exact .refl _
  | i + 4 => simp at h1
theorem blr_j3n (w : WorldD) (L : SH) (Q : AV → SH → Prop) (hq : ∀ v K, Fz K v (.lst ((asc []).map intE)) → Q v K) : ref08_Blockers_j3 Q [.pptr [w.enc] 0 0, .nils] L := by
  unfold ref08_Blockers_j3
  refine blr_loop w [] (by decide) _ _ (FzS.drop (K := L) (R := []) (by simp) rfl (fun i a a2 h1 h2 => ?_)) Q hq
  match i with
  | 0 => cases h1; cases h2; exact .refl _
  | 1 => cases h1; cases h2; exact .nils
  | 2 => cases h1; cases h2; exact .nils
  | 3 => cases h1; cases h2; exact .refl _
  | i + 4 => simp at h1
theorem h_blrj3 {Q : AV → SH → Prop} {vs : List AV} {L : SH} (h : ref08_Blockers_j3 Q vs L) : ref08_Blockers_j3 Q vs L := h
section
variable (w : WorldD) (s : SyncD) (t o : Int) (hf : FitD w s) (ht : inB t w.threads.length = true) (hr : ∀ l ∈ s.locks, l.readers.length < 2 ^ 40) (Q : AV → SH → Prop)
include hf ht hr
theorem blr_6 (k : Int) (hk : k = 6 ∨ k = 8) (ha : allowedS w k o = true) (hq : ∀ v K, Fz K v (.lst ((asc ((rawB w s t k o).filter fun x => inB x w.threads.length)).map intE)) → Q v K) :
    ref08_Blockers_zt11 Q (.int .i64 k) (.int .i64 t) (.int .i64 o) (.pptr [w.enc] 0 0) (.pptr [s.enc] 0 0) [] := by
  have hl : inB o s.locks.length = true := by rw [hf.locks]; rcases hk with rfl | rfl <;> (simp [allowedS] at ha; exact ha.1)
  have hx := at_inB (f := LockD.enc) hl
  obtain ⟨o0, o1⟩ := inB_iff.1 hl
  unfold ref08_Blockers_zt11
  unfold rawB lockAt at hq
  rw [if_pos hk] at hq
  rcases hk with rfl | rfl
  all_goals
    repeat' (first | ((with_reducible refine h_blrj3 ?_); exact blr_j3 w [_] (by simp) _ _ _ (by repeat constructor) Q hq) | (refine h_load1 ?_; refine b_load_q ?_) | (refine h_faddr ?_; refine a_faddr_q ?_) | (refine h_bin ?_; refine a_eql ?_) | (refine h_cond ?_; first | refine b_cond_t ?_ | refine b_cond_f ?_) | (refine h_idx ?_; refine b_idx_l ?_) | (refine h_bslice ?_; refine b_bslice (fun nb_ hnb_ => ?_)) | refine a_join ?_)
theorem blr_10 (ha : allowedS w 10 o = true) (hq : ∀ v K, Fz K v (.lst ((asc ((rawB w s t 10 o).filter fun x => inB x w.threads.length)).map intE)) → Q v K) :
    ref08_Blockers_zt11 Q (.int .i64 10) (.int .i64 t) (.int .i64 o) (.pptr [w.enc] 0 0) (.pptr [s.enc] 0 0) [] := by
  have hl : inB o s.locks.length = true := by rw [hf.locks]; simp [allowedS] at ha; exact ha.1
  have hx := at_inB (f := LockD.enc) hl
  have hrd : (lockAt s o).readers.length < 2 ^ 40 := by
    obtain ⟨o0, o1⟩ := inB_iff.1 hl
    have hlt : o.toNat < s.locks.length := by omega
    unfold lockAt
    rw [show s.locks.getD o.toNat default = s.locks[o.toNat] by simp [hlt]]
    exact hr _ (List.getElem_mem hlt)
  obtain ⟨o0, o1⟩ := inB_iff.1 hl
  unfold ref08_Blockers_zt11
  unfold rawB at hq
  rw [if_neg (by decide), if_pos rfl] at hq
  unfold lockAt at hq hrd
  have hj : ∀ (b : Nat) (L L' : SH) (hd : Del b ⟨1, [[.int .i64 (s.locks.getD o.toNat default).owner]] ++ (s.locks.getD o.toNat default).readers.map intE⟩ L L'), ref08_Blockers_j3 Q [.pptr [w.enc] 0 0, .sl b 0 (1 + (s.locks.getD o.toNat default).readers.length)] L := fun b L L' hd => by
    have := blr_j3 w ((s.locks.getD o.toNat default).owner :: (s.locks.getD o.toNat default).readers) (by rw [List.length_cons]; omega) b L L' hd Q hq
    rw [List.length_cons, Nat.add_comm] at this
    exact this
  repeat' (first | ((with_reducible refine h_blrj3 ?_); exact hj _ _ _ (by repeat constructor)) | (refine h_load1 ?_; refine b_load_q ?_) | (refine h_faddr ?_; refine a_faddr_q ?_) | (refine h_bin ?_; refine a_eql ?_) | (refine h_cond ?_; first | refine b_cond_t ?_ | refine b_cond_f ?_) | (refine h_idx ?_; refine b_idx_l ?_) | (refine h_calm ?_; refine b_calm ?_) | (refine h_note ?_; refine a_note ?_) | refine a_app_sm (i := 1) (rows := [[.int .i64 (s.locks.getD o.toNat default).owner]]) (.here _) (fun _ => rfl) (by rfl) (by omega) (by omega) (fun _ => rfl) (fun nb_ hnb_ => ?_) | (refine h_bslice ?_; refine b_bslice (fun nb_ hnb_ => ?_)) | refine a_join ?_ | refine a_tt ?_)
theorem blr_17 (ha : allowedS w 17 o = true) (hq : ∀ v K, Fz K v (.lst ((asc ((rawB w s t 17 o).filter fun x => inB x w.threads.length)).map intE)) → Q v K) :
    ref08_Blockers_zt11 Q (.int .i64 17) (.int .i64 t) (.int .i64 o) (.pptr [w.enc] 0 0) (.pptr [s.enc] 0 0) [] := by
  have hc : inB o w.conds.length = true := by simpa [allowedS] using ha
  have hy := at_inB (f := CondI.enc) hc
  have hl := mx_in hf hc
  unfold mxAt at hl
  have hx := at_inB (f := LockD.enc) hl
  unfold ref08_Blockers_zt11
  unfold rawB mxAt lockAt at hq
  rw [if_neg (by decide), if_neg (by decide), if_pos rfl] at hq
  repeat' (first | ((with_reducible refine h_blrj3 ?_); exact blr_j3 w [_] (by simp) _ _ _ (by repeat constructor) Q hq) | (refine h_load1 ?_; refine b_load_q ?_) | (refine h_faddr ?_; refine a_faddr_q ?_) | (refine h_bin ?_; refine a_eql ?_) | (refine h_cond ?_; first | refine b_cond_t ?_ | refine b_cond_f ?_) | (refine h_idx ?_; refine b_idx_i ?_) | (refine h_calm ?_; refine b_calm ?_) | (refine h_note ?_; refine a_note ?_) | (refine h_bslice ?_; refine b_bslice (fun nb_ hnb_ => ?_)) | refine a_join ?_ | refine a_tt ?_)
theorem blr_21 (ha : allowedS w 21 o = true) (hq : ∀ v K, Fz K v (.lst ((asc ((rawB w s t 21 o).filter fun x => inB x w.threads.length)).map intE)) → Q v K) :
    ref08_Blockers_zt11 Q (.int .i64 21) (.int .i64 t) (.int .i64 o) (.pptr [w.enc] 0 0) (.pptr [s.enc] 0 0) [] := by
  have hl : inB o s.threads.length = true := by rw [hf.threads]; simpa [allowedS] using ha
  have hx := at_inB (f := ThrD.enc) hl
  unfold ref08_Blockers_zt11
  unfold rawB thrAt at hq
  rw [if_neg (by decide), if_neg (by decide), if_neg (by decide), if_pos rfl] at hq
  cases h1 : decide (o ≠ t) with
  | false =>
    rw [h1] at hq
    simp only [Bool.false_and, Bool.false_eq_true, if_false, List.filter_nil] at hq
    repeat' (first | ((with_reducible refine h_blrj3 ?_); exact blr_j3n w _ Q hq) | (refine h_bin ?_; first | refine a_eql ?_ | refine a_neq ?_) | (refine h_cond ?_; first | refine b_cond_t ?_ | refine b_cond_f ?_) | (refine h_pick ?_; refine b_pick_f ?_) | (refine h_grd ?_; refine b_grd_n ?_) | refine a_join ?_)
  | true =>
    rw [h1] at hq
    cases h2 : decide ((s.threads.getD o.toNat default).status ≠ 5) with
    | false =>
      rw [h2] at hq
      simp only [Bool.and_false, Bool.false_eq_true, if_false, List.filter_nil] at hq
      repeat' (first | ((with_reducible refine h_blrj3 ?_); exact blr_j3n w _ Q hq) | (refine h_load1 ?_; refine b_load_q ?_) | (refine h_faddr ?_; refine a_faddr_q ?_) | (refine h_bin ?_; first | refine a_eql ?_ | refine a_neq ?_) | (refine h_cond ?_; first | refine b_cond_t ?_ | refine b_cond_f ?_) | (refine h_idx ?_; refine b_idx_i ?_) | (refine h_pick ?_; refine b_pick_t ?_) | (refine h_grd ?_; refine b_grd_y ?_) | refine a_join ?_)
    | true =>
      rw [h2] at hq
      repeat' (first | ((with_reducible refine h_blrj3 ?_); exact blr_j3 w [_] (by simp) _ _ _ (by repeat constructor) Q hq) | (refine h_load1 ?_; refine b_load_q ?_) | (refine h_faddr ?_; refine a_faddr_q ?_) | (refine h_bin ?_; first | refine a_eql ?_ | refine a_neq ?_) | (refine h_cond ?_; first | refine b_cond_t ?_ | refine b_cond_f ?_) | (refine h_idx ?_; refine b_idx_i ?_) | (refine h_pick ?_; refine b_pick_t ?_) | (refine h_grd ?_; refine b_grd_y ?_) | (refine h_bslice ?_; refine b_bslice (fun nb_ hnb_ => ?_)) | refine a_join ?_)
theorem blr_o (k : Int) (h6 : k ≠ 6) (h8 : k ≠ 8) (h10 : k ≠ 10) (h17 : k ≠ 17) (h21 : k ≠ 21) (hq : ∀ v K, Fz K v (.lst ((asc ((rawB w s t k o).filter fun x => inB x w.threads.length)).map intE)) → Q v K) :
    ref08_Blockers_zt11 Q (.int .i64 k) (.int .i64 t) (.int .i64 o) (.pptr [w.enc] 0 0) (.pptr [s.enc] 0 0) [] := by
  unfold ref08_Blockers_zt11
  unfold rawB at hq
  rw [if_neg (by omega), if_neg h10, if_neg h17, if_neg h21, List.filter_nil] at hq
  have d6 : decide (k = 6) = false := decide_eq_false h6
  have d8 : decide (k = 8) = false := decide_eq_false h8
  have d10 : decide (k = 10) = false := decide_eq_false h10
  have d17 : decide (k = 17) = false := decide_eq_false h17
  have d21 : decide (k = 21) = false := decide_eq_false h21
  repeat' (first | ((with_reducible refine h_blrj3 ?_); exact blr_j3n w _ Q hq) | (refine h_bin ?_; refine a_eql ?_) | (refine h_cond ?_; refine b_cond_f ?_) | refine a_join ?_)
end
theorem h_blrzt {Q : AV → SH → Prop} {a b c d e : AV} {L : SH} (h : ref08_Blockers_zt11 Q a b c d e L) : ref08_Blockers_zt11 Q a b c d e L := h
theorem blockersR_ok (w : WorldD) (s : SyncD) (t k o : Int) (hc : w.conds.length < 2 ^ 62) (hr : ∀ l ∈ s.locks, l.readers.length < 2 ^ 40) : PureA Try.prog 36 [.agg w.enc, .agg s.enc, .int .i64 t, .int .i64 k, .int .i64 o] (.lst ((blockersS w s t k o).map intE)) := by
  refine CallA.fz (ref08_Blockers_ok _ _ _ _ _ _ _ ?_)
  generalize hQ : (fun (v : AV) (L : SH) => ∃ v2 L2, FzS [v] L [v2] L2 ∧ v2 = AV.lst ((blockersS w s t k o).map intE) ∧ L2 = []) = Q
  have no : (fitsS w s && inB t w.threads.length && allowedS w k o) = false → ∀ L, Q .nils L := fun h L => by
    subst hQ
    refine ⟨_, [], FzS.all .nils, ?_, rfl⟩
    unfold blockersS; rw [h]; rfl
  have yes : (fitsS w s && inB t w.threads.length && allowedS w k o) = true → ∀ v K, Fz K v (.lst ((asc ((rawB w s t k o).filter fun x => inB x w.threads.length)).map intE)) → Q v K := fun h v K hz => by
    subst hQ
    refine ⟨_, [], FzS.all hz, ?_, rfl⟩
    unfold blockersS; rw [h]; rfl
  clear hQ
  unfold ref08_Blockers_w
  cases h1 : fitsS w s with
  | false =>
    have nh1 : (!fitsS w s) = true := by rw [h1]; rfl
    have no := no (by rw [h1]; rfl)
    repeat' (first | (refine h_cond ?_; refine b_cond_t ?_) | (refine h_row ?_; refine b_row_q ?_) | (refine h_pick ?_; refine b_pick_t ?_) | (refine h_grd ?_; refine b_grd_n ?_) | refine a_mark ?_ | ((with_reducible refine h_fn 38 ?_); refine m_call (fitsR_ok _ _ hc) ?_) | (refine h_un ?_; refine a_not ?_) | (refine h_box ?_; refine b_box (fun nb_ hnb_ => ?_)) | (refine h_frz1 ?_; refine b_frz_p ?_))
    exact no _
  | true =>
    have nh1 : (!fitsS w s) = false := by rw [h1]; rfl
    cases h2 : inB t w.threads.length with
    | false =>
      have nh2 : (!inB t w.threads.length) = true := by rw [h2]; rfl
      have no := no (by rw [h2, h1]; rfl)
      repeat' (first | (refine h_load1 ?_; refine b_load_q ?_) | (refine h_faddr ?_; refine a_faddr_q ?_) | (refine h_cond ?_; refine b_cond_t ?_) | (refine h_row ?_; refine b_row_q ?_) | (refine h_len ?_; refine a_len_m ?_) | (refine h_pick ?_; first | refine b_pick_t ?_ | refine b_pick_f ?_) | (refine h_grd ?_; first | refine b_grd_y ?_ | refine b_grd_n ?_) | refine a_mark ?_ | ((with_reducible refine h_fn 38 ?_); refine m_call (fitsR_ok _ _ hc) ?_) | ((with_reducible refine h_fn 61 ?_); refine m_call (in_ok _ _) ?_) | (refine h_un ?_; refine a_not ?_) | (refine h_box ?_; refine b_box (fun nb_ hnb_ => ?_)) | (refine h_frz1 ?_; refine b_frz_p ?_))
      exact no _
    | true =>
      have nh2 : (!inB t w.threads.length) = false := by rw [h2]; rfl
      cases h3 : allowedS w k o with
      | false =>
        have nh3 : (!allowedS w k o) = true := by rw [h3]; rfl
        have no := no (by rw [h2, h1, h3]; rfl)
        repeat' (first | (refine h_load1 ?_; refine b_load_q ?_) | (refine h_faddr ?_; refine a_faddr_q ?_) | (refine h_cond ?_; refine b_cond_t ?_) | (refine h_row ?_; refine b_row_q ?_) | (refine h_len ?_; refine a_len_m ?_) | (refine h_pick ?_; refine b_pick_f ?_) | (refine h_grd ?_; refine b_grd_y ?_) | refine a_mark ?_ | ((with_reducible refine h_fn 38 ?_); refine m_call (fitsR_ok _ _ hc) ?_) | ((with_reducible refine h_fn 61 ?_); refine m_call (in_ok _ _) ?_) | ((with_reducible refine h_fn 63 ?_); refine m_call (named_ok _ _ _) ?_) | (refine h_un ?_; refine a_not ?_) | (refine h_box ?_; refine b_box (fun nb_ hnb_ => ?_)) | (refine h_frz1 ?_; refine b_frz_p ?_))
        exact no _
      | true =>
        have nh3 : (!allowedS w k o) = false := by rw [h3]; rfl
        have hq := yes (by rw [h2, h1, h3]; rfl)
        have hf := fitsS_iff.1 h1
        have key : ref08_Blockers_zt11 Q (.int .i64 k) (.int .i64 t) (.int .i64 o) (.pptr [w.enc] 0 0) (.pptr [s.enc] 0 0) [] := by
          by_cases k6 : k = 6 ∨ k = 8
          · exact blr_6 w s t o hf h2 hr Q k k6 h3 hq
          by_cases k10 : k = 10
          · subst k10; exact blr_10 w s t o hf h2 hr Q h3 hq
          by_cases k17 : k = 17
          · subst k17; exact blr_17 w s t o hf h2 hr Q h3 hq
          by_cases k21 : k = 21
          · subst k21; exact blr_21 w s t o hf h2 hr Q h3 hq
          exact blr_o w s t o hf h2 hr Q k (by omega) (by omega) k10 k17 k21 hq
        clear yes no
        repeat' (first | ((with_reducible refine h_blrzt ?_); exact key) | (refine h_load1 ?_; refine b_load_q ?_) | (refine h_faddr ?_; refine a_faddr_q ?_) | (refine h_cond ?_; refine b_cond_f ?_) | (refine h_row ?_; refine b_row_q ?_) | (refine h_len ?_; refine a_len_m ?_) | (refine h_pick ?_; refine b_pick_f ?_) | (refine h_grd ?_; refine b_grd_y ?_) | refine a_mark ?_ | ((with_reducible refine h_fn 38 ?_); refine m_call (fitsR_ok _ _ hc) ?_) | ((with_reducible refine h_fn 61 ?_); refine m_call (in_ok _ _) ?_) | ((with_reducible refine h_fn 63 ?_); refine m_call (named_ok _ _ _) ?_) | (refine h_un ?_; refine a_not ?_) | (refine h_box ?_; refine b_box (fun nb_ hnb_ => ?_)) | (refine h_frz1 ?_; refine b_frz_p ?_))
end Go.Proofs.Ytadjimfkfmojkaa.Am

end
section
namespace Go.Proofs.Ytadjimfkfmojkaa.Am
set_option maxRecDepth 100000
set_option linter.unusedSimpArgs false
set_option linter.unusedVariables false
theorem world_ok : PureA Try.prog 24 [] (.agg W0.enc) := by
  refine CallA.fz (law08_world_ok _ _ ?_)
  unfold law08_world_w
  repeat' (first | (refine h_row ?_; refine b_row_p ?_) | (refine h_store ?_; refine b_store_box ?_) | (refine h_bslice ?_; refine b_bslice (fun nb_ hnb_ => ?_)) | refine a_alloc (fun nb_ hnb_ => ?_) | refine b_build ?_)
  exact ⟨_, [], FzS.all (Fz.aggs (.cons (Fz.sls (l := W0.cells) (f := CellD.enc) (by repeat constructor) rfl (by decide) rfl) (.cons (Fz.sls (l := W0.locks) (f := LockI.enc) (by repeat constructor) rfl (by decide) rfl) (.cons (Fz.sls (l := W0.conds) (f := CondI.enc) (by repeat constructor) rfl (by decide) rfl) (.cons (Fz.sls (l := W0.futures) (f := strE) (by repeat constructor) rfl (by decide) rfl) (.cons (Fz.sls (l := W0.threads) (f := strE) (by repeat constructor) rfl (by decide) rfl) (.cons .nils .nil))))))), rfl, rfl⟩
structure EvD where
  thread : Int
  kind : Int
  obj : Int
  wake : Int
def EvD.enc (e : EvD) : List AV := [.int .i8 e.thread, .int .i8 e.kind, .int .i8 e.obj, .int .i8 e.wake]
end Go.Proofs.Ytadjimfkfmojkaa.Am

end
section
namespace Go.Proofs.Ytadjimfkfmojkaa.Am
open Go.ChangeShapes Go.WideShapes Go.ChangeAt Go.RowKit
set_option linter.unusedVariables false
def sig0 : Sig := ⟨fun _ => none, fun _ => False⟩
def tok0 : Nat → Prop := fun _ => False
/-- cells that read as the cells of a datum -/
def rAM {α : Type} (e : α → List AV) (G : α → Prop) : Rel α := fun w _ x cs => G x ∧ Reps w sig0 tok0 (e x) cs
theorem reps_one {w : World} {σ : Sig} {T : Nat → Prop} {a : AV} {v : Value} (h : Rep w σ T a v) : Reps w σ T [a] [v] := ⟨rfl, fun i x u h1 h2 => by
  match i with
  | 0 => cases h1; cases h2; exact h
  | i + 1 => simp at h1⟩
theorem reps_cons {w : World} {σ : Sig} {T : Nat → Prop} {a : AV} {v : Value} {l : List AV} {m : List Value} (h : Reps w σ T [a] [v]) (hl : Reps w σ T l m) : Reps w σ T (a :: l) (v :: m) := ⟨by simp [hl.1], fun i x u h1 h2 => by
  match i with
  | 0 => exact h.2 0 x u h1 h2
  | i + 1 => exact hl.2 i x u (by simpa using h1) (by simpa using h2)⟩
theorem reps_nil {w : World} {σ : Sig} {T : Nat → Prop} : Reps w σ T [] [] := ⟨rfl, fun i x u h1 h2 => by simp at h1⟩
section
variable {H : Type} {enc : TypeId × Value → H} {P : Program} {w : World} {base : Nat} {spare : Nat → Bool} {held : Bool}
theorem am_int {t : TypeId} {k : IntKind} (ht : P.underlying t = some (.int k)) : Opens H enc P w base spare held t (rAM (fun n : Int => [.int k n]) fun n => (Lit.int k n).wf = true) := fun fuel cs x h => by
  obtain ⟨n, rfl, hn⟩ := opens_int ht fuel cs x h
  exact ⟨n, hn, reps_one (.int k n)⟩
theorem am_bool {t : TypeId} (ht : P.underlying t = some .bool) : Opens H enc P w base spare held t (rAM (fun b : Bool => [.bool b]) fun _ => True) := fun fuel cs x h => by
  obtain ⟨n, rfl⟩ := opens_bool ht fuel cs x h
  exact ⟨n, trivial, reps_one (.bool n)⟩
theorem am_str {t : TypeId} (ht : P.underlying t = some .string) : Opens H enc P w base spare held t (rAM (fun s : Str => [.str s]) fun _ => True) := fun fuel cs x h => by
  obtain ⟨s, rfl, _⟩ := opens_str ht fuel cs x h
  exact ⟨s.data.toList, trivial, reps_one (.str s)⟩
theorem am_slice {α : Type} {t e : TypeId} {size : Nat} {f : α → List AV} {G : α → Prop} (ht : P.underlying t = some (.slice e)) (hc : P.cellsOf e = size) (hs : 0 < size) (he : Opens H enc P w base spare held e (rAM f G)) :
    Opens H enc P w base spare held t (rAM (fun l : List α => [.lst (l.map f)]) fun l => l.length ≤ maxLen ∧ ∀ x ∈ l, G x) := fun fuel cs x h => by
  obtain ⟨l, A, c, rfl, h1, h2, h3⟩ := opens_slice ht hc hs he fuel cs x h
  refine ⟨l, ⟨by omega, fun x hx => ?_⟩, reps_one ?_⟩
  · obtain ⟨i, hi, rfl⟩ := List.getElem_of_mem hx
    obtain ⟨b, o, _, _, hall⟩ := h3 (by omega)
    obtain ⟨cs', _, hR, _⟩ := hall i l[i] (List.getElem?_eq_getElem hi)
    exact hR.1
  · rcases Nat.eq_zero_or_pos l.length with h0 | h0
    · have : l = [] := List.length_eq_zero_iff.1 h0
      subst this
      exact .lst0 A c h2
    · obtain ⟨b, o, rfl, hb, hall⟩ := h3 h0
      have := Rep.lst (w := w) (σ := sig0) (T := tok0) (l.map f) b o size c ⟨fun h => h, fun i r hr => ?_, fun i j hi hj => ?_, hs, by simpa using h0⟩ (by simpa using h1) h2 (fun i r j a u hr ha hu => ?_)
      · simpa using this
      · rw [List.getElem?_map] at hr
        cases hx : l[i]? with
        | none => rw [hx] at hr; cases hr
        | some y =>
          rw [hx] at hr; cases hr
          obtain ⟨cs', k1, k2, _⟩ := hall i y hx
          rw [k2.2.1, k1]
      · have hi' : i < l.length := by simpa using hi
        obtain ⟨cs', k1, k2, k3⟩ := hall i l[i] (List.getElem?_eq_getElem hi')
        exact ⟨cs'[j], k3 j _ (List.getElem?_eq_getElem (by omega))⟩
      · rw [List.getElem?_map] at hr
        cases hx : l[i]? with
        | none => rw [hx] at hr; cases hr
        | some y =>
          rw [hx] at hr; cases hr
          obtain ⟨cs', k1, k2, k3⟩ := hall i y hx
          have hj : j < cs'.length := by rw [← k2.2.1]; exact lt_of_some ha
          have hu' := k3 j _ (List.getElem?_eq_getElem hj)
          rw [hu] at hu'
          cases hu'
          exact k2.2.2 j a _ ha (List.getElem?_eq_getElem hj)
/-- a struct of single cells -/
theorem am_cells {t : TypeId} {fs : Array Field} (tys : List TypeId) {fuel : Nat} {cs : List Value} {x : DataW H × List MemPlace} (ht : P.underlying t = some (.struct fs)) (h : DataW.trod enc P w base spare held fuel t cs = some x)
    (hf : fs.toList.map (fun f => (f.type, f.offset)) = tys.zipIdx) (hc : tys.all (fun ty => P.cellsOf ty == 1) = true) (hn : P.cellsOf t = tys.length) :
    cs.length = tys.length ∧ ∀ (i : Nat) (ty : TypeId), tys[i]? = some ty → ∃ c m y, cs[i]? = some c ∧ DataW.trod enc P w base spare held m ty [c] = some y := by
  obtain ⟨hl, hall⟩ := opens_fields ht h
  rw [hn] at hl
  refine ⟨hl, fun i ty hi => ?_⟩
  have hlt := lt_of_some hi
  have hci : i < cs.length := by omega
  obtain ⟨m, y, hy⟩ := hall i ty i 1 [cs[i]] (by
    have := congrArg (fun l => l[i]?) hf
    simp only [List.getElem?_map, List.getElem?_zipIdx, hi, Array.getElem?_toList] at this
    simpa using this) (by rw [List.all_eq_true] at hc; simpa using hc ty (List.mem_of_getElem? hi)) (by rw [List.drop_eq_getElem_cons hci]; rfl)
  exact ⟨cs[i], m, y, List.getElem?_eq_getElem hci, hy⟩
end
/-- A law that is true over the empty heap, in the model. -/
theorem law_calls {P : Program} {f : FuncId} {args : List AV} {vs : List Value} (h : PureA P f args (.bool true)) (w : World) (hv : Reps w sig0 tok0 args vs) : Calls P f vs.toArray w fun e w' => e = .returned (.bool true) ∧ Below w.heap.size w w' := by
  obtain ⟨v, H', L', h1, h2, rfl, rfl⟩ := h.2 Heap.empty (fun b _ => empty_get b) ⟨List.nodup_nil, fun p hp => by simp at hp⟩
  have hown : Own sig0 Heap.empty = tok0 := by
    funext c
    apply propext
    constructor
    · rintro (h | ⟨b, x, pl, h4, _, _⟩)
      · exact h
      · rw [empty_get] at h4; cases h4
    · exact fun h => h.elim
  have hW : WRel w sig0 Heap.empty := ⟨fun b pl hb => (by cases hb), fun b pl hb => (by cases hb), fun b x hb => (by rw [empty_get] at hb; cases hb), fun c hc => hc.elim, fun b b' x x' pl pl' hb => (by rw [empty_get] at hb; cases hb)⟩
  refine (h1 w sig0 vs hW (by rw [hown]; exact hv)).mono ?_
  rintro e w' ⟨v', σ', rfl, k1, k2, k3, _⟩
  cases k1
  rw [hown] at k3
  exact ⟨rfl, k3.os, k3.tape, k3.output, k3.size, fun k hk => k3.keep k hk fun h => h⟩
end Go.Proofs.Ytadjimfkfmojkaa.Am

end
section
namespace Go.Proofs.Ytadjimfkfmojkaa.Am
set_option linter.unusedVariables false
set_option linter.unusedSimpArgs false
set_option maxRecDepth 100000
theorem a_convE {k k' : IntKind} {n m : Int} {K : AV → Prop} (e : k.wrap n = m) (h : K (.int k m)) : W.conv k (.int k' n) K := a_conv (by rw [e]; exact h)
end Go.Proofs.Ytadjimfkfmojkaa.Am

end
section
namespace Go.Proofs.Ytadjimfkfmojkaa.Am
set_option linter.unusedVariables false
set_option linter.unusedSimpArgs false
set_option maxRecDepth 100000
theorem eq_bool2 {x y : Bool} {K : AV → Prop} (e : x = y) (h : K (.bool true)) : W.bin Try.prog Fl .eql 4 (.bool x) (.bool y) K := by
  rw [eql_b _ (show Try.prog.underlying 4 = some .bool by kernel_rfl)]
  subst e
  cases x <;> exact h
end Go.Proofs.Ytadjimfkfmojkaa.Am

end
section
namespace Go.Proofs.Ytadjimfkfmojkaa.Am
set_option linter.unusedVariables false
set_option linter.unusedSimpArgs false
set_option maxRecDepth 100000
set_option linter.unusedSectionVars false
theorem lockX_rd (x : StD) (i : Nat) : (lockX x i).readers.length ≤ 4 := by simp [lockX]; omega
theorem sync_rd (x : StD) : ∀ l ∈ (syncS x).locks, l.readers.length < 2 ^ 40 := fun l hl => by
  obtain ⟨i, _, rfl⟩ := List.mem_map.1 hl
  have := lockX_rd x i
  omega
theorem sync_small (x : StD) : Small W0 (syncS x) := ⟨by decide, by simp [syncS], by simp [syncS], by simp [syncS], sync_rd x⟩
theorem sync_smallS (x : StD) : SmallS (syncS x) := ⟨by simp [syncS], by simp [syncS], by simp [syncS], sync_rd x⟩
structure LenLe (s : SyncD) (a b c d : Nat) : Prop where
  l : s.locks.length ≤ a
  dn : s.done.length ≤ b
  t : s.threads.length ≤ c
  r : ∀ x ∈ s.locks, x.readers.length ≤ d
theorem lock_le {s : SyncD} {a b c d : Nat} (h : LenLe s a b c d) (o : Int) : (lockAt s o).readers.length ≤ d := by
  unfold lockAt
  rcases Nat.lt_or_ge o.toNat s.locks.length with hi | hi
  · rw [show s.locks.getD o.toNat default = s.locks[o.toNat] by simp [hi]]; exact h.r _ (List.getElem_mem hi)
  · rw [show s.locks.getD o.toNat default = default by simp [List.getD, List.getElem?_eq_none hi]]; exact Nat.zero_le _
theorem setLock_le {s : SyncD} {a b c d : Nat} (h : LenLe s a b c d) (o : Int) (f : LockD → LockD) (hf : (f (lockAt s o)).readers.length ≤ d + 1) : ∀ x ∈ setLock s o f, x.readers.length ≤ d + 1 := fun x hx => by
  rcases List.mem_or_eq_of_mem_set hx with h1 | h1
  · have := h.r x h1; omega
  · rw [h1]; exact hf
theorem addRd_len (l : List Int) (t : Int) : (addRd l t).length ≤ l.length + 1 := by
  have := compact_len (srt (l ++ [t]))
  rw [srt_len] at this
  unfold addRd
  simp at this
  exact this
theorem apply_len {w : WorldD} {s : SyncD} {a b c d : Nat} (h : LenLe s a b c d) (t k o wake : Int) : LenLe (applyS w s t k o wake).1 a b c (d + 1) := by
  have same : LenLe s a b c (d + 1) := ⟨h.l, h.dn, h.t, fun x hx => Nat.le_succ_of_le (h.r x hx)⟩
  have thr : ∀ th : List ThrD, th.length = s.threads.length → LenLe { s with threads := th } a b c (d + 1) := fun th e => ⟨h.l, h.dn, by show th.length ≤ c; rw [e]; exact h.t, same.r⟩
  have lk : ∀ (o : Int) (f : LockD → LockD), (f (lockAt s o)).readers.length ≤ d + 1 → LenLe { s with locks := setLock s o f } a b c (d + 1) := fun o f hf => ⟨by show (setLock s o f).length ≤ a; rw [setLock_len]; exact h.l, h.dn, h.t, setLock_le h o f hf⟩
  have lkt : ∀ (o : Int) (f : LockD → LockD) (th : List ThrD), (f (lockAt s o)).readers.length ≤ d + 1 → th.length = s.threads.length → LenLe { s with locks := setLock s o f, threads := th } a b c (d + 1) := fun o f th hf e => ⟨by show (setLock s o f).length ≤ a; rw [setLock_len]; exact h.l, h.dn, by show th.length ≤ c; rw [e]; exact h.t, setLock_le h o f hf⟩
  have le := fun o => Nat.le_succ_of_le (lock_le h o)
  unfold applyS
  refine iteInduction (motive := fun x : SyncD × Int => LenLe x.1 a b c (d + 1)) (fun _ => thr _ setThr_len) (fun _ => ?_)
  refine iteInduction (motive := fun x : SyncD × Int => LenLe x.1 a b c (d + 1)) (fun _ => thr _ setThr_len) (fun _ => ?_)
  refine iteInduction (motive := fun x : SyncD × Int => LenLe x.1 a b c (d + 1)) (fun _ => lk o _ (le o)) (fun _ => ?_)
  refine iteInduction (motive := fun x : SyncD × Int => LenLe x.1 a b c (d + 1)) (fun _ => lk o _ (le o)) (fun _ => ?_)
  refine iteInduction (motive := fun x : SyncD × Int => LenLe x.1 a b c (d + 1)) (fun _ => lk o _ (Nat.le_trans (addRd_len _ _) (Nat.succ_le_succ (lock_le h o)))) (fun _ => ?_)
  refine iteInduction (motive := fun x : SyncD × Int => LenLe x.1 a b c (d + 1)) (fun _ => lk o _ (Nat.le_trans (List.length_filter_le _ _) (le o))) (fun _ => ?_)
  refine iteInduction (motive := fun x : SyncD × Int => LenLe x.1 a b c (d + 1)) (fun _ => ⟨h.l, h.dn, h.t, same.r⟩) (fun _ => ?_)
  refine iteInduction (motive := fun x : SyncD × Int => LenLe x.1 a b c (d + 1)) (fun _ => ⟨h.l, h.dn, h.t, same.r⟩) (fun _ => ?_)
  refine iteInduction (motive := fun x : SyncD × Int => LenLe x.1 a b c (d + 1)) (fun _ => thr _ setThr_len) (fun _ => ?_)
  refine iteInduction (motive := fun x : SyncD × Int => LenLe x.1 a b c (d + 1)) (fun _ => thr _ setThr_len) (fun _ => ?_)
  refine iteInduction (motive := fun x : SyncD × Int => LenLe x.1 a b c (d + 1)) (fun _ => lkt _ _ _ (le _) setThr_len) (fun _ => ?_)
  refine iteInduction (motive := fun x : SyncD × Int => LenLe x.1 a b c (d + 1)) (fun _ => lkt _ _ _ (le _) setThr_len) (fun _ => ?_)
  refine iteInduction (motive := fun x : SyncD × Int => LenLe x.1 a b c (d + 1)) (fun _ => thr _ (woken_len _ _ _)) (fun _ => ?_)
  refine iteInduction (motive := fun x : SyncD × Int => LenLe x.1 a b c (d + 1)) (fun _ => thr _ (wakeAll_len _ _ _)) (fun _ => ?_)
  refine iteInduction (motive := fun x : SyncD × Int => LenLe x.1 a b c (d + 1)) (fun _ => thr _ setThr_len) (fun _ => ?_)
  refine iteInduction (motive := fun x : SyncD × Int => LenLe x.1 a b c (d + 1)) (fun _ => ⟨h.l, by simpa using h.dn, h.t, same.r⟩) (fun _ => same)
theorem res_len {w : WorldD} {s : SyncD} {a b c d : Nat} (h : LenLe s a b c d) (t k o wake : Int) : LenLe (resS w s t k o wake).1 a b c (d + 1) := by
  unfold resS
  split
  · exact apply_len h t k o wake
  · exact ⟨Nat.zero_le _, Nat.zero_le _, Nat.zero_le _, fun x hx => by cases hx⟩
theorem len_small {s : SyncD} {a b c d : Nat} (h : LenLe s a b c d) (ha : a < 2 ^ 40) (hb : b ≤ 140737488351232) (hc : c < 2 ^ 40) (hd : d < 2 ^ 40) : SmallS s := ⟨Nat.lt_of_le_of_lt h.l ha, Nat.le_trans h.dn hb, Nat.lt_of_le_of_lt h.t hc, fun x hx => Nat.lt_of_le_of_lt (h.r x hx) hd⟩
theorem res_en (w : WorldD) (s : SyncD) (t k o wake : Int) : (resS w s t k o wake).2.2 = enabledS w s t k o := by
  unfold resS
  cases enabledS w s t k o <;> rfl
section
variable (x : StD) (wake : Int) (hw0 : IntKind.i64.wrap wake = wake) (Q : AV → SH → Prop)
include hw0
theorem any_l3 (t k : Int) (nx : W.Kn) (hnx : nx [.int .i8 wake, .pptr [x.enc] 0 0, .pptr [W0.enc] 0 0, .pptr [(syncS x).enc] 0 0, .int .i64 t, .int .i64 (IntKind.i64.wrap (k + 1))] []) :
    W.loop (law08_ObjectAny_l3 Q nx) [.int .i8 wake, .pptr [x.enc] 0 0, .pptr [W0.enc] 0 0, .pptr [(syncS x).enc] 0 0, .int .i64 t, .int .i64 k, .int .i64 (-1)] [] := by
  refine for_by 5 (fun i => ([.int .i8 wake, .pptr [x.enc] 0 0, .pptr [W0.enc] 0 0, .pptr [(syncS x).enc] 0 0, .int .i64 t, .int .i64 k, .int .i64 ((i : Int) - 1)], [])) (fun _ => True) trivial rfl rfl ?_
  intro i hi _
  dsimp only
  unfold law08_ObjectAny_l3
  have hi1 : IntKind.i64.wrap ((i : Int) - 1 + 1) = ((i + 1 : Nat) : Int) - 1 := by rw [IntWalk.i64_in _ (by omega)]; omega
  obtain ⟨o, ho⟩ : ∃ o : Int, o = (i : Int) - 1 := ⟨_, rfl⟩
  rw [← ho] at hi1 ⊢
  rcases Nat.lt_or_ge i 5 with g1 | g1
  · have hd : decide (o ≤ 3) = true := decide_eq_true (by omega)
    have fin : ∃ j, i < j ∧ j ≤ 5 ∧ True ∧ FzS [.int .i8 wake, .pptr [x.enc] 0 0, .pptr [W0.enc] 0 0, .pptr [(syncS x).enc] 0 0, .int .i64 t, .int .i64 k, .int .i64 (IntKind.i64.wrap (o + 1))] [] [.int .i8 wake, .pptr [x.enc] 0 0, .pptr [W0.enc] 0 0, .pptr [(syncS x).enc] 0 0, .int .i64 t, .int .i64 k, .int .i64 ((j : Int) - 1)] [] := ⟨i + 1, by omega, by omega, trivial, fzs_eq (by rw [hi1]) rfl⟩
    have hap1 := apply_ok W0 (syncS x) t k o wake (sync_small x)
    have hap2 := applyR_ok W0 (syncS x) t k o wake (sync_small x)
    have hen := enabled_ok W0 (syncS x) t k o (by decide) (sync_rd x)
    have hb1 := blockers_ok W0 (syncS x) t k o (by decide) (sync_rd x)
    have hb2 := blockersR_ok W0 (syncS x) t k o (by decide) (sync_rd x)
    have hle : LenLe (syncS x) 3 1 3 4 := ⟨by simp [syncS], by simp [syncS], by simp [syncS], fun l hl => by obtain ⟨i, _, rfl⟩ := List.mem_map.1 hl; exact lockX_rd x i⟩
    have hsm := same_ok (resS W0 (syncS x) t k o wake).1 (resS W0 (syncS x) t k o wake).1 (len_small (res_len hle t k o wake) (by decide) (by decide) (by decide) (by decide))
    rw [decide_eq_true rfl] at hsm
    have hbl : (blockersS W0 (syncS x) t k o).length < 2 ^ 62 := by
      unfold blockersS
      split
      · have h1 := compact_len (srt ((rawB W0 (syncS x) t k o).filter fun y => inB y W0.threads.length))
        rw [srt_len] at h1
        have h2 : ((rawB W0 (syncS x) t k o).filter fun y => inB y W0.threads.length).length ≤ (rawB W0 (syncS x) t k o).length := List.length_filter_le _ _
        have h3 : (rawB W0 (syncS x) t k o).length ≤ 5 := by
          have := lock_le hle o
          unfold rawB
          split
          · simp
          split
          · simp; omega
          split
          · simp
          split
          · split <;> simp
          · simp
        unfold asc
        omega
      · decide
    have hsi := sameInts_ok (blockersS W0 (syncS x) t k o) (blockersS W0 (syncS x) t k o) hbl
    rw [decide_eq_true rfl] at hsi
    have hrk := res_en W0 (syncS x) t k o wake
    unfold encR at hap1 hap2
    generalize resS W0 (syncS x) t k o wake = r at *
    obtain ⟨a, v, ok⟩ := r
    dsimp only at hap1 hap2 hsm hrk
    rw [← hrk] at hen
    have dv : decide (v ≠ v) = false := decide_eq_false (fun e => e rfl)
    have nf : (!true) = false := rfl
    clear hrk hle hbl
    generalize blockersS W0 (syncS x) t k o = bl at *
    cases ok <;>
    · repeat' (first | refine a_convE hw0 ?_ | refine neq_bool _ _ ?_ | (refine h_bin ?_; first | refine a_neq ?_ | refine a_leq ?_ | refine a_add ?_) | (refine h_cond ?_; first | refine b_cond_t ?_ | refine b_cond_f ?_) | (refine h_row ?_; refine b_row_q ?_) | (refine h_ext ?_; refine b_ext ?_) | (refine h_calm ?_; refine b_calm ?_) | (refine h_note ?_; refine a_note ?_) | (refine h_pick ?_; refine b_pick_f ?_) | (refine h_dgrd ?_; refine b_dgrd_y ?_) | refine a_mark ?_ | refine a_dmark ?_ | ((with_reducible refine h_fn 26 ?_); refine m_call (hap1) ?_) | ((with_reducible refine h_fn 29 ?_); refine m_call (hap2) ?_) | ((with_reducible refine h_dfn 27 ?_); refine b_dcall (hen) ?_) | ((with_reducible refine h_dfn 35 ?_); refine b_dcall (hb1) ?_) | ((with_reducible refine h_dfn 36 ?_); refine b_dcall (hb2) ?_) | ((with_reducible refine h_dfn 20 ?_); refine b_dcall (hsm) ?_) | ((with_reducible refine h_dfn 34 ?_); refine b_dcall (hsi) ?_) | (refine h_un ?_; refine a_not ?_) | (refine h_frz1 ?_; refine b_frz_p ?_) | (refine h_store ?_; refine b_store_box ?_) | refine a_alloc (fun nb_ hnb_ => ?_) | refine a_tt ?_)
      exact fin
  · have hd : decide (o ≤ 3) = false := decide_eq_false (by omega)
    repeat' (first | (refine h_bin ?_; first | refine a_leq ?_ | refine a_add ?_) | (refine h_cond ?_; refine b_cond_f ?_))
    exact hnx
theorem holdsS_len (s : SyncD) (t : Int) (hl : s.locks.length ≤ 40) : (holdsS W0 s t).1.length < 2 ^ 62 ∧ (holdsS W0 s t).2.length < 2 ^ 62 := by
  unfold holdsS
  split
  · have h1 := wh_len (ownsS s t) s.locks.length
    have h2 := wh_len (readsS s t) s.locks.length
    exact ⟨by show (wh (ownsS s t) s.locks.length).length < _; omega, by show (wh (readsS s t) s.locks.length).length < _; omega⟩
  · exact ⟨by decide, by decide⟩
theorem any_l7 (t : Int) (nx : W.Kn) (hnx : nx [.int .i8 wake, .pptr [x.enc] 0 0, .pptr [W0.enc] 0 0, .pptr [(syncS x).enc] 0 0, .int .i64 (IntKind.i64.wrap (t + 1))] []) :
    W.loop (law08_ObjectAny_l7 Q nx) [.int .i8 wake, .pptr [x.enc] 0 0, .pptr [W0.enc] 0 0, .pptr [(syncS x).enc] 0 0, .int .i64 t, .int .i64 (0 : Nat)] [] := by
  refine for_by 25 (fun i => ([.int .i8 wake, .pptr [x.enc] 0 0, .pptr [W0.enc] 0 0, .pptr [(syncS x).enc] 0 0, .int .i64 t, .int .i64 i], [])) (fun _ => True) trivial rfl rfl ?_
  intro i hi _
  dsimp only
  unfold law08_ObjectAny_l7
  rcases Nat.lt_or_ge i 25 with g1 | g1
  · have hd : decide ((i : Int) ≤ 24) = true := decide_eq_true (by omega)
    have hl := any_l3 x wake hw0 Q t i (fun vs' L' => ∃ j : Nat, i < j ∧ j ≤ 25 ∧ True ∧ FzS vs' L' [.int .i8 wake, .pptr [x.enc] 0 0, .pptr [W0.enc] 0 0, .pptr [(syncS x).enc] 0 0, .int .i64 t, .int .i64 j] []) ⟨i + 1, by omega, by omega, trivial, fzs_eq (by rw [i64_succ g1 (by decide)]) rfl⟩
    repeat' (first | (refine h_bin ?_; refine a_leq ?_) | (refine h_cond ?_; refine b_cond_t ?_))
    exact hl
  · have hd : decide ((i : Int) ≤ 24) = false := decide_eq_false (by omega)
    have hh1 := holds_ok W0 (syncS x) t (by decide) (by simp [syncS]) (sync_rd x)
    have hh2 := holdsR_ok W0 (syncS x) t (by decide) (by simp [syncS]) (sync_rd x)
    obtain ⟨l1, l2⟩ := holdsS_len wake hw0 (syncS x) t (by simp [syncS])
    have s1 := sameInts_ok (holdsS W0 (syncS x) t).1 (holdsS W0 (syncS x) t).1 l1
    have s2 := sameInts_ok (holdsS W0 (syncS x) t).2 (holdsS W0 (syncS x) t).2 l2
    rw [decide_eq_true rfl] at s1 s2
    unfold encH at hh1 hh2
    generalize holdsS W0 (syncS x) t = p at *
    have nf : (!true) = false := rfl
    repeat' (first | (refine h_bin ?_; first | refine a_leq ?_ | refine a_add ?_) | (refine h_cond ?_; refine b_cond_f ?_) | (refine h_row ?_; refine b_row_q ?_) | (refine h_ext ?_; refine b_ext ?_) | (refine h_pick ?_; refine b_pick_f ?_) | (refine h_grd ?_; refine b_grd_y ?_) | refine a_mark ?_ | ((with_reducible refine h_fn 32 ?_); refine m_call (hh1) ?_) | ((with_reducible refine h_fn 33 ?_); refine m_call (hh2) ?_) | ((with_reducible refine h_fn 34 ?_); refine m_call (s1) ?_) | ((with_reducible refine h_fn 34 ?_); refine m_call (s2) ?_) | (refine h_un ?_; refine a_not ?_))
    exact hnx
theorem any_l10 (hq : ∀ L, Q (.bool true) L) : W.loop (law08_ObjectAny_l10 Q) [.int .i8 wake, .pptr [x.enc] 0 0, .pptr [W0.enc] 0 0, .pptr [(syncS x).enc] 0 0, .int .i64 (-1)] [] := by
  refine for_by 5 (fun i => ([.int .i8 wake, .pptr [x.enc] 0 0, .pptr [W0.enc] 0 0, .pptr [(syncS x).enc] 0 0, .int .i64 ((i : Int) - 1)], [])) (fun _ => True) trivial rfl rfl ?_
  intro i hi _
  dsimp only
  unfold law08_ObjectAny_l10
  have hi1 : IntKind.i64.wrap ((i : Int) - 1 + 1) = ((i + 1 : Nat) : Int) - 1 := by rw [IntWalk.i64_in _ (by omega)]; omega
  obtain ⟨o, ho⟩ : ∃ o : Int, o = (i : Int) - 1 := ⟨_, rfl⟩
  rw [← ho] at hi1 ⊢
  rcases Nat.lt_or_ge i 5 with g1 | g1
  · have hd : decide (o ≤ 3) = true := decide_eq_true (by omega)
    have hl := any_l7 x wake hw0 Q o (fun vs' L' => ∃ j : Nat, i < j ∧ j ≤ 5 ∧ True ∧ FzS vs' L' [.int .i8 wake, .pptr [x.enc] 0 0, .pptr [W0.enc] 0 0, .pptr [(syncS x).enc] 0 0, .int .i64 ((j : Int) - 1)] []) ⟨i + 1, by omega, by omega, trivial, fzs_eq (by rw [hi1]) rfl⟩
    repeat' (first | (refine h_bin ?_; refine a_leq ?_) | (refine h_cond ?_; refine b_cond_t ?_))
    exact hl
  · have hd : decide (o ≤ 3) = false := decide_eq_false (by omega)
    have hsm := same_ok (syncS x) (syncS x) (sync_smallS x)
    rw [decide_eq_true rfl] at hsm
    repeat' (first | (refine h_bin ?_; refine a_leq ?_) | (refine h_cond ?_; refine b_cond_f ?_) | (refine h_row ?_; refine b_row_q ?_) | (refine h_calm ?_; refine b_calm ?_) | (refine h_note ?_; refine a_note ?_) | (refine h_pick ?_; refine b_pick_t ?_) | (refine h_dgrd ?_; refine b_dgrd_y ?_) | refine a_dmark ?_ | ((with_reducible refine h_dfn 39 ?_); refine b_dcall (sync_ok x) ?_) | ((with_reducible refine h_dfn 20 ?_); refine b_dcall (hsm) ?_) | ((with_reducible refine h_dfn 23 ?_); refine b_dcall (awake08) ?_) | refine a_tt ?_)
    exact hq _
end
theorem any (x : StD) (wake : Int) (hw : -128 ≤ wake ∧ wake < 128) : PureA Try.prog 12 [.agg x.enc, .int .i8 wake] (.bool true) := by
  refine CallA.fz (law08_ObjectAny_ok _ _ _ _ ?_)
  unfold law08_ObjectAny_w
  have hw0 : IntKind.i64.wrap wake = wake := IntWalk.i64_in _ (by omega)
  generalize hQ : (fun (v : AV) (L : SH) => ∃ v2 L2, FzS [v] L [v2] L2 ∧ v2 = AV.bool true ∧ L2 = []) = Q
  have hq : ∀ L, Q (.bool true) L := by subst hQ; exact fun L => ⟨_, [], FzS.all (.refl _), rfl, rfl⟩
  have hl := any_l10 x wake hw0 Q hq
  repeat' (first | (refine h_row ?_; refine b_row_q ?_) | (refine h_calm ?_; refine b_calm ?_) | (refine h_note ?_; refine a_note ?_) | refine a_dmark ?_ | ((with_reducible refine h_dfn 24 ?_); refine b_dcall (world_ok) ?_) | ((with_reducible refine h_dfn 39 ?_); refine b_dcall (sync_ok x) ?_) | (refine h_box ?_; refine b_box (fun nb_ hnb_ => ?_)) | (refine h_frz1 ?_; refine b_frz_p ?_) | (refine h_store ?_; refine b_store_box ?_) | refine a_alloc (fun nb_ hnb_ => ?_) | refine a_tt ?_)
  exact hl
end Go.Proofs.Ytadjimfkfmojkaa.Am

end
section
namespace Go.Proofs.Ytadjimfkfmojkaa.Am
set_option linter.unusedVariables false
set_option linter.unusedSimpArgs false
set_option maxRecDepth 100000
set_option linter.unusedSectionVars false
structure Bnd (w : WorldD) (s : SyncD) : Prop where
  c : w.conds.length ≤ 40
  l : s.locks.length ≤ 40
  t : s.threads.length ≤ 40
  r : ∀ x ∈ s.locks, x.readers.length ≤ 20
theorem small_ok (w : WorldD) (s : SyncD) (hl : s.locks.length < 2 ^ 62) : CallA Try.prog 31 [.agg w.enc, .agg s.enc] [] fun v L => ∃ b, v = .bool b ∧ (b = true → Bnd w s) ∧ L = [] := by
  refine law08_small_ok _ _ _ _ ?_
  unfold law08_small_w
  generalize hQ : (fun (v : AV) (L : SH) => ∃ b, v = AV.bool b ∧ (b = true → Bnd w s) ∧ L = []) = Q
  have no : Q (.bool false) [] := by subst hQ; exact ⟨false, rfl, nofun, rfl⟩
  repeat' (first | (refine h_box ?_; refine b_box (fun nb_ hnb_ => ?_)) | (refine h_frz1 ?_; refine b_frz_p ?_))
  refine for_by s.locks.length (fun i => ([.pptr [w.enc] 0 0, .pptr [s.enc] 0 0, .int .i64 i], [])) (fun i => ∀ x ∈ s.locks.take i, x.readers.length ≤ 20) (by simp) rfl rfl ?_
  intro i hi hG
  dsimp only
  unfold law08_small_l0
  rcases Nat.lt_or_ge i s.locks.length with g1 | g1
  · have hd := dec_lt g1
    have hx := map_at (f := LockD.enc) g1
    cases hc : decide ((20 : Int) < (s.locks[i].readers.length : Int)) with
    | true =>
      repeat' (first | (refine h_load1 ?_; refine b_load_q ?_) | (refine h_faddr ?_; refine a_faddr_q ?_) | (refine h_bin ?_; first | refine a_lss ?_ | refine a_gtr ?_) | (refine h_cond ?_; refine b_cond_t ?_) | (refine h_idx ?_; refine b_idx_n ?_) | (refine h_len ?_; refine a_len_m ?_))
      exact no
    | false =>
      have := of_decide_eq_false hc
      repeat' (first | (refine h_load1 ?_; refine b_load_q ?_) | (refine h_faddr ?_; refine a_faddr_q ?_) | (refine h_bin ?_; first | refine a_lss ?_ | refine a_gtr ?_ | refine a_add ?_) | (refine h_cond ?_; first | refine b_cond_t ?_ | refine b_cond_f ?_) | (refine h_idx ?_; refine b_idx_n ?_) | (refine h_len ?_; refine a_len_m ?_))
      exact ⟨i + 1, by omega, by omega, fun x hx => by
        rw [List.take_succ_eq_append_getElem g1] at hx
        rcases List.mem_append.1 hx with h | h
        · exact hG x h
        · simp at h; subst h; omega, fzs_eq (by rw [i64_succ g1 hl]; rfl) rfl⟩
  · have hd := dec_ge g1
    rw [List.take_of_length_le g1] at hG
    cases h1 : decide ((w.conds.length : Int) ≤ 40) with
    | false =>
      repeat' (first | (refine h_load1 ?_; refine b_load_q ?_) | (refine h_faddr ?_; refine a_faddr_q ?_) | (refine h_bin ?_; first | refine a_lss ?_ | refine a_leq ?_) | (refine h_cond ?_; refine b_cond_f ?_) | (refine h_len ?_; refine a_len_m ?_) | (refine h_pick ?_; refine b_pick_f ?_) | (refine h_grd ?_; refine b_grd_n ?_))
      exact no
    | true =>
      cases h2 : decide ((s.locks.length : Int) ≤ 40) with
      | false =>
        repeat' (first | (refine h_load1 ?_; refine b_load_q ?_) | (refine h_faddr ?_; refine a_faddr_q ?_) | (refine h_bin ?_; first | refine a_lss ?_ | refine a_leq ?_) | (refine h_cond ?_; refine b_cond_f ?_) | (refine h_len ?_; refine a_len_m ?_) | (refine h_pick ?_; first | refine b_pick_t ?_ | refine b_pick_f ?_) | (refine h_grd ?_; first | refine b_grd_y ?_ | refine b_grd_n ?_))
        exact no
      | true =>
        have yes : Q (.bool (decide ((s.threads.length : Int) ≤ 40))) [] := by
          subst hQ
          refine ⟨_, rfl, fun h3 => ?_, rfl⟩
          have e1 := of_decide_eq_true h1
          have e2 := of_decide_eq_true h2
          have e3 := of_decide_eq_true h3
          exact ⟨by omega, by omega, by omega, hG⟩
        repeat' (first | (refine h_load1 ?_; refine b_load_q ?_) | (refine h_faddr ?_; refine a_faddr_q ?_) | (refine h_bin ?_; first | refine a_lss ?_ | refine a_leq ?_) | (refine h_cond ?_; refine b_cond_f ?_) | (refine h_len ?_; refine a_len_m ?_) | (refine h_pick ?_; refine b_pick_t ?_) | (refine h_grd ?_; refine b_grd_y ?_))
        exact yes
theorem holdsW_len (w : WorldD) (s : SyncD) (t : Int) (hl : s.locks.length ≤ 40) : (holdsS w s t).1.length < 2 ^ 62 ∧ (holdsS w s t).2.length < 2 ^ 62 := by
  unfold holdsS
  split
  · have h1 := wh_len (ownsS s t) s.locks.length
    have h2 := wh_len (readsS s t) s.locks.length
    exact ⟨by show (wh (ownsS s t) s.locks.length).length < _; omega, by show (wh (readsS s t) s.locks.length).length < _; omega⟩
  · exact ⟨by decide, by decide⟩
theorem eqb_self {x : Bool} {K : AV → Prop} (h : K (.bool true)) : W.bin Try.prog Fl .eql 4 (.bool x) (.bool x) K := eq_bool2 rfl h
theorem tells (w : WorldD) (s : SyncD) (hsl : s.locks.length ≤ 140737488351232) (hsd : s.done.length ≤ 140737488351232) (t k o wake : Int) :
    PureA Try.prog 11 [.agg w.enc, .agg s.enc, .int .i64 t, .int .i64 k, .int .i64 o, .int .i64 wake] (.bool true) := by
  refine CallA.fz (law08_ObjectTells_ok _ _ _ _ _ _ _ _ ?_)
  unfold law08_ObjectTells_w
  have hsm := small_ok w s (by omega)
  generalize hQ : (fun (v : AV) (L : SH) => ∃ v2 L2, FzS [v] L [v2] L2 ∧ v2 = AV.bool true ∧ L2 = []) = Q
  have hq : ∀ L, Q (.bool true) L := by subst hQ; exact fun L => ⟨_, [], FzS.all (.refl _), rfl, rfl⟩
  clear hQ
  repeat' (first | (refine h_cond ?_; refine a_cond (fun h => ?_) (fun h => ?_)) | (refine h_row ?_; refine b_row_q ?_) | refine a_mark ?_ | ((with_reducible refine h_fn 31 ?_); (refine m_callF (K := []) hsm (.refl _) ?_; rintro _ _ ⟨b, rfl, hb, rfl⟩)) | (refine h_un ?_; refine a_not ?_) | (refine h_box ?_; refine b_box (fun nb_ hnb_ => ?_)) | (refine h_frz1 ?_; refine b_frz_p ?_))
  · exact hq _
  · rename_i h
    have hB := hb (by cases b with | true => rfl | false => cases h)
    have hle : LenLe s 40 140737488351232 40 20 := ⟨hB.l, hsd, hB.t, hB.r⟩
    have hr : ∀ l ∈ s.locks, l.readers.length < 2 ^ 40 := fun l hl => by have := hB.r l hl; omega
    have hc : w.conds.length < 2 ^ 62 := by have := hB.c; omega
    have hs : Small w s := ⟨by have := hB.c; omega, by have := hB.l; omega, hsd, by have := hB.t; omega, hr⟩
    have hap1 := apply_ok w s t k o wake hs
    have hap2 := applyR_ok w s t k o wake hs
    have hen := enabled_ok w s t k o hc hr
    have hb1 := blockers_ok w s t k o hc hr
    have hb2 := blockersR_ok w s t k o hc hr
    have hh1 := holds_ok w s t hc (by have := hB.l; omega) hr
    have hh2 := holdsR_ok w s t hc (by have := hB.l; omega) hr
    have hf1 := fits_ok w s hc
    have hf2 := fitsR_ok w s hc
    have hsame := same_ok (resS w s t k o wake).1 (resS w s t k o wake).1 (len_small (res_len hle t k o wake) (by decide) (Nat.le_refl _) (by decide) (by decide))
    rw [decide_eq_true rfl] at hsame
    have hbl : (blockersS w s t k o).length < 2 ^ 62 := by
      unfold blockersS
      split
      · have h1 := compact_len (srt ((rawB w s t k o).filter fun y => inB y w.threads.length))
        rw [srt_len] at h1
        have h2 : ((rawB w s t k o).filter fun y => inB y w.threads.length).length ≤ (rawB w s t k o).length := List.length_filter_le _ _
        have h3 : (rawB w s t k o).length ≤ 21 := by
          have := lock_le hle o
          unfold rawB
          split
          · simp
          split
          · simp; omega
          split
          · simp
          split
          · split <;> simp
          · simp
        unfold asc
        omega
      · decide
    have hsi := sameInts_ok (blockersS w s t k o) (blockersS w s t k o) hbl
    obtain ⟨l1, l2⟩ := holdsW_len w s t hB.l
    have s1 := sameInts_ok (holdsS w s t).1 (holdsS w s t).1 l1
    have s2 := sameInts_ok (holdsS w s t).2 (holdsS w s t).2 l2
    rw [decide_eq_true rfl] at hsi s1 s2
    have hrk := res_en w s t k o wake
    unfold encR at hap1 hap2
    unfold encH at hh1 hh2
    generalize holdsS w s t = p at *
    generalize resS w s t k o wake = r at *
    obtain ⟨a, v, ok⟩ := r
    dsimp only at hap1 hap2 hsame hrk
    rw [← hrk] at hen
    have dv : decide (v = v) = true := decide_eq_true rfl
    clear hrk hle hbl hr hc hs hB hb h
    generalize blockersS w s t k o = bl at *
    generalize fitsS w s = ff at *
    repeat' (first | refine eqb_self ?_ | (refine h_bin ?_; refine a_eql ?_) | (refine h_row ?_; refine b_row_q ?_) | (refine h_ext ?_; refine b_ext ?_) | (refine h_calm ?_; refine b_calm ?_) | (refine h_note ?_; refine a_note ?_) | (refine h_pick ?_; refine b_pick_t ?_) | (refine h_dgrd ?_; refine b_dgrd_y ?_) | refine a_mark ?_ | refine a_dmark ?_ | ((with_reducible refine h_fn 26 ?_); refine m_call (hap1) ?_) | ((with_reducible refine h_fn 29 ?_); refine m_call (hap2) ?_) | ((with_reducible refine h_dfn 27 ?_); refine b_dcall (hen) ?_) | ((with_reducible refine h_dfn 35 ?_); refine b_dcall (hb1) ?_) | ((with_reducible refine h_dfn 36 ?_); refine b_dcall (hb2) ?_) | ((with_reducible refine h_dfn 20 ?_); refine b_dcall (hsame) ?_) | ((with_reducible refine h_dfn 34 ?_); refine b_dcall (hsi) ?_) | ((with_reducible refine h_dfn 34 ?_); refine b_dcall (s1) ?_) | ((with_reducible refine h_dfn 34 ?_); refine b_dcall (s2) ?_) | ((with_reducible refine h_fn 32 ?_); refine m_call (hh1) ?_) | ((with_reducible refine h_fn 33 ?_); refine m_call (hh2) ?_) | ((with_reducible refine h_dfn 37 ?_); refine b_dcall (hf1) ?_) | ((with_reducible refine h_dfn 38 ?_); refine b_dcall (hf2) ?_) | ((with_reducible refine h_dfn 23 ?_); refine b_dcall (awake08) ?_) | (refine h_frz1 ?_; refine b_frz_p ?_) | (refine h_store ?_; refine b_store_box ?_) | refine a_alloc (fun nb_ hnb_ => ?_) | refine a_tt ?_)
    all_goals exact hq _
end Go.Proofs.Ytadjimfkfmojkaa.Am

end
section
namespace Go.Proofs.Ytadjimfkfmojkaa.Am
open Go.ChangeShapes Go.WideShapes Go.ChangeAt Go.RowKit
set_option linter.unusedVariables false
set_option maxRecDepth 100000
section
variable {H : Type} {enc : TypeId × Value → H} {w : World} {base : Nat} {spare : Nat → Bool} {held : Bool}
theorem uw_str : Try.prog.underlying 9 = some .string := by kernel_rfl
theorem uw_bool : Try.prog.underlying 4 = some .bool := by kernel_rfl
theorem uw_int : Try.prog.underlying 3 = some (.int .i64) := by kernel_rfl
theorem uw_int64 : Try.prog.underlying 2 = some (.int .i64) := by kernel_rfl
theorem am_lock : Opens H enc Try.prog w base spare held 100 (rAM LockI.enc fun _ => True) := fun fuel cs x h => by
  obtain ⟨hl, hall⟩ := am_cells [9, 4] Try.underlying100 h rfl (by kernel_rfl) (by kernel_rfl)
  obtain ⟨c0, m0, y0, e0, k0⟩ := hall 0 _ rfl
  obtain ⟨d0, _, r0⟩ := am_str uw_str _ _ _ k0
  obtain ⟨c1, m1, y1, e1, k1⟩ := hall 1 _ rfl
  obtain ⟨d1, _, r1⟩ := am_bool uw_bool _ _ _ k1
  have hcs : cs = [c0, c1] := by
    match cs, hl with
    | [a0, a1], _ => simp only [List.getElem?_cons_zero, List.getElem?_cons_succ, Option.some.injEq] at e0 e1; rw [e0, e1]
  subst hcs
  exact ⟨⟨d0, d1⟩, trivial, (reps_cons r0 (reps_cons r1 reps_nil))⟩
theorem am_cond : Opens H enc Try.prog w base spare held 102 (rAM CondI.enc fun _ => True) := fun fuel cs x h => by
  obtain ⟨hl, hall⟩ := am_cells [9, 3] Try.underlying102 h rfl (by kernel_rfl) (by kernel_rfl)
  obtain ⟨c0, m0, y0, e0, k0⟩ := hall 0 _ rfl
  obtain ⟨d0, _, r0⟩ := am_str uw_str _ _ _ k0
  obtain ⟨c1, m1, y1, e1, k1⟩ := hall 1 _ rfl
  obtain ⟨d1, _, r1⟩ := am_int uw_int _ _ _ k1
  have hcs : cs = [c0, c1] := by
    match cs, hl with
    | [a0, a1], _ => simp only [List.getElem?_cons_zero, List.getElem?_cons_succ, Option.some.injEq] at e0 e1; rw [e0, e1]
  subst hcs
  exact ⟨⟨d0, d1⟩, trivial, (reps_cons r0 (reps_cons r1 reps_nil))⟩
theorem am_cell : Opens H enc Try.prog w base spare held 98 (rAM CellD.enc fun _ => True) := fun fuel cs x h => by
  obtain ⟨hl, hall⟩ := am_cells [9, 3, 3, 4, 2] Try.underlying98 h rfl (by kernel_rfl) (by kernel_rfl)
  obtain ⟨c0, m0, y0, e0, k0⟩ := hall 0 _ rfl
  obtain ⟨d0, _, r0⟩ := am_str uw_str _ _ _ k0
  obtain ⟨c1, m1, y1, e1, k1⟩ := hall 1 _ rfl
  obtain ⟨d1, _, r1⟩ := am_int uw_int _ _ _ k1
  obtain ⟨c2, m2, y2, e2, k2⟩ := hall 2 _ rfl
  obtain ⟨d2, _, r2⟩ := am_int uw_int _ _ _ k2
  obtain ⟨c3, m3, y3, e3, k3⟩ := hall 3 _ rfl
  obtain ⟨d3, _, r3⟩ := am_bool uw_bool _ _ _ k3
  obtain ⟨c4, m4, y4, e4, k4⟩ := hall 4 _ rfl
  obtain ⟨d4, _, r4⟩ := am_int uw_int64 _ _ _ k4
  have hcs : cs = [c0, c1, c2, c3, c4] := by
    match cs, hl with
    | [a0, a1, a2, a3, a4], _ => simp only [List.getElem?_cons_zero, List.getElem?_cons_succ, Option.some.injEq] at e0 e1 e2 e3 e4; rw [e0, e1, e2, e3, e4]
  subst hcs
  exact ⟨⟨d0, d1, d2, d3, d4⟩, trivial, (reps_cons r0 (reps_cons r1 (reps_cons r2 (reps_cons r3 (reps_cons r4 reps_nil)))))⟩
theorem am_site : Opens H enc Try.prog w base spare held 163 (rAM SiteD.enc fun _ => True) := fun fuel cs x h => by
  obtain ⟨hl, hall⟩ := am_cells [3, 3, 3] Try.underlying163 h rfl (by kernel_rfl) (by kernel_rfl)
  obtain ⟨c0, m0, y0, e0, k0⟩ := hall 0 _ rfl
  obtain ⟨d0, _, r0⟩ := am_int uw_int _ _ _ k0
  obtain ⟨c1, m1, y1, e1, k1⟩ := hall 1 _ rfl
  obtain ⟨d1, _, r1⟩ := am_int uw_int _ _ _ k1
  obtain ⟨c2, m2, y2, e2, k2⟩ := hall 2 _ rfl
  obtain ⟨d2, _, r2⟩ := am_int uw_int _ _ _ k2
  have hcs : cs = [c0, c1, c2] := by
    match cs, hl with
    | [a0, a1, a2], _ => simp only [List.getElem?_cons_zero, List.getElem?_cons_succ, Option.some.injEq] at e0 e1 e2; rw [e0, e1, e2]
  subst hcs
  exact ⟨⟨d0, d1, d2⟩, trivial, (reps_cons r0 (reps_cons r1 (reps_cons r2 reps_nil)))⟩
theorem am_world : Opens H enc Try.prog w base spare held 46 (rAM WorldD.enc fun _ => True) := fun fuel cs x h => by
  obtain ⟨hl, hall⟩ := am_cells [40, 41, 42, 43, 43, 44] Try.underlying46 h rfl (by kernel_rfl) (by kernel_rfl)
  obtain ⟨c0, m0, y0, e0, k0⟩ := hall 0 _ rfl
  obtain ⟨d0, _, r0⟩ := (am_slice Try.underlying40 (show Try.prog.cellsOf 98 = 5 by kernel_rfl) (by decide) am_cell) _ _ _ k0
  obtain ⟨c1, m1, y1, e1, k1⟩ := hall 1 _ rfl
  obtain ⟨d1, _, r1⟩ := (am_slice Try.underlying41 (show Try.prog.cellsOf 100 = 2 by kernel_rfl) (by decide) am_lock) _ _ _ k1
  obtain ⟨c2, m2, y2, e2, k2⟩ := hall 2 _ rfl
  obtain ⟨d2, _, r2⟩ := (am_slice Try.underlying42 (show Try.prog.cellsOf 102 = 2 by kernel_rfl) (by decide) am_cond) _ _ _ k2
  obtain ⟨c3, m3, y3, e3, k3⟩ := hall 3 _ rfl
  obtain ⟨d3, _, r3⟩ := (am_slice Try.underlying43 (show Try.prog.cellsOf 9 = 1 by kernel_rfl) (by decide) (am_str uw_str)) _ _ _ k3
  obtain ⟨c4, m4, y4, e4, k4⟩ := hall 4 _ rfl
  obtain ⟨d4, _, r4⟩ := (am_slice Try.underlying43 (show Try.prog.cellsOf 9 = 1 by kernel_rfl) (by decide) (am_str uw_str)) _ _ _ k4
  obtain ⟨c5, m5, y5, e5, k5⟩ := hall 5 _ rfl
  obtain ⟨d5, _, r5⟩ := (am_slice Try.underlying44 (show Try.prog.cellsOf 163 = 3 by kernel_rfl) (by decide) am_site) _ _ _ k5
  have hcs : cs = [c0, c1, c2, c3, c4, c5] := by
    match cs, hl with
    | [a0, a1, a2, a3, a4, a5], _ => simp only [List.getElem?_cons_zero, List.getElem?_cons_succ, Option.some.injEq] at e0 e1 e2 e3 e4 e5; rw [e0, e1, e2, e3, e4, e5]
  subst hcs
  exact ⟨⟨d0, d1, d2, d3, d4, d5⟩, trivial, (reps_cons r0 (reps_cons r1 (reps_cons r2 (reps_cons r3 (reps_cons r4 (reps_cons r5 reps_nil))))))⟩

theorem am_lockst : Opens H enc Try.prog w base spare held 96 (rAM LockD.enc fun _ => True) := fun fuel cs x h => by
  obtain ⟨hl, hall⟩ := am_cells [3, 22] Try.underlying96 h rfl (by kernel_rfl) (by kernel_rfl)
  obtain ⟨c0, m0, y0, e0, k0⟩ := hall 0 _ rfl
  obtain ⟨d0, _, r0⟩ := am_int uw_int _ _ _ k0
  obtain ⟨c1, m1, y1, e1, k1⟩ := hall 1 _ rfl
  obtain ⟨d1, _, r1⟩ := (am_slice (size := 1) Try.underlying22 (by kernel_rfl) (by decide) (am_int uw_int)) _ _ _ k1
  have hcs : cs = [c0, c1] := by
    match cs, hl with
    | [a0, a1], _ => simp only [List.getElem?_cons_zero, List.getElem?_cons_succ, Option.some.injEq] at e0 e1; rw [e0, e1]
  subst hcs
  exact ⟨⟨d0, d1⟩, trivial, (reps_cons r0 (reps_cons r1 reps_nil))⟩
theorem am_thrst : Opens H enc Try.prog w base spare held 66 (rAM ThrD.enc fun _ => True) := fun fuel cs x h => by
  obtain ⟨hl, hall⟩ := am_cells [3, 3, 4] Try.underlying66 h rfl (by kernel_rfl) (by kernel_rfl)
  obtain ⟨c0, m0, y0, e0, k0⟩ := hall 0 _ rfl
  obtain ⟨d0, _, r0⟩ := am_int uw_int _ _ _ k0
  obtain ⟨c1, m1, y1, e1, k1⟩ := hall 1 _ rfl
  obtain ⟨d1, _, r1⟩ := am_int uw_int _ _ _ k1
  obtain ⟨c2, m2, y2, e2, k2⟩ := hall 2 _ rfl
  obtain ⟨d2, _, r2⟩ := am_bool uw_bool _ _ _ k2
  have hcs : cs = [c0, c1, c2] := by
    match cs, hl with
    | [a0, a1, a2], _ => simp only [List.getElem?_cons_zero, List.getElem?_cons_succ, Option.some.injEq] at e0 e1 e2; rw [e0, e1, e2]
  subst hcs
  exact ⟨⟨d0, d1, d2⟩, trivial, (reps_cons r0 (reps_cons r1 (reps_cons r2 reps_nil)))⟩
/-- a slice's elements take no more room than its datum's weight says -/
theorem slice_room {R : Nat} {α : Type} {t e : TypeId} {f : α → List AV} {l : List α} {fuel : Nat} {c : Value} {x : DataW H × List MemPlace} (ht : Try.prog.underlying t = some (.slice e)) (h : DataW.trod enc Try.prog w base spare held fuel t [c] = some x)
    (hr : Reps w sig0 tok0 [.lst (l.map f)] [c]) (hw : ∀ n ∈ x.1.weights Try.prog t, n ≤ R) (hb : 1 ≤ Try.prog.bytesOf e) : l.length ≤ R := by
  have h0 := hr.2 0 (.lst (l.map f)) c rfl rfl
  rcases Deep.open_slice ht h with ⟨hc, _⟩ | ⟨a, len, cap, m, n, D, Pl, hc, _, _, _, _, hx, _⟩
  · simp only [List.cons.injEq, and_true] at hc
    subst hc
    generalize hm : l.map f = rows at h0
    cases h0 with
    | lst0 => have : l = [] := List.map_eq_nil_iff.1 hm
              subst this; exact Nat.zero_le _
  · simp only [List.cons.injEq, and_true] at hc
    subst hc
    have hlen : l.length = len := by
      generalize hm : l.map f = rows at h0
      cases h0 with
      | lst0 => have : l = [] := List.map_eq_nil_iff.1 hm
                subst this; rfl
      | lst rows b o sz cap _ _ _ _ => rw [← hm]; simp
    have := hw _ (by rw [hx]; simp [DataW.weights, ht]; exact .inl rfl)
    have h2 := Nat.le_mul_of_pos_right (len + (m - len)) hb
    omega
theorem am_sync_sized {R : Nat} {fuel : Nat} {cs : List Value} {x : DataW H × List MemPlace} (h : DataW.trod enc Try.prog w base spare held fuel 52 cs = some x) (hw : ∀ n ∈ x.1.weights Try.prog 52, n ≤ R) :
    ∃ s : SyncD, rAM SyncD.enc (fun _ => True) w (· < w.heap.size) s cs ∧ s.locks.length ≤ R ∧ s.done.length ≤ R := by
  obtain ⟨xs, n, _, hx, hl, hxl, hfs⟩ := DataW.trod_struct Try.underlying52 h
  rw [show Try.prog.cellsOf 52 = 4 by kernel_rfl] at hl
  match cs, hl with
  | [c0, c1, c2, c3], _ =>
    match xs, hxl with
    | [z0, z1, z2, z3], _ =>
      have k0 : DataW.trod enc Try.prog w base spare held n 48 [c0] = some z0 := by
        have this : DataW.trod enc Try.prog w base spare held n 48 (([c0, c1, c2, c3].drop 0).take (Try.prog.cellsOf 48)) = some z0 := hfs 0 _ rfl
        rw [show Try.prog.cellsOf 48 = 1 by kernel_rfl] at this
        exact this
      have k1 : DataW.trod enc Try.prog w base spare held n 3 [c1] = some z1 := by
        have this : DataW.trod enc Try.prog w base spare held n 3 (([c0, c1, c2, c3].drop 1).take (Try.prog.cellsOf 3)) = some z1 := hfs 1 _ rfl
        rw [show Try.prog.cellsOf 3 = 1 by kernel_rfl] at this
        exact this
      have k2 : DataW.trod enc Try.prog w base spare held n 49 [c2] = some z2 := by
        have this : DataW.trod enc Try.prog w base spare held n 49 (([c0, c1, c2, c3].drop 2).take (Try.prog.cellsOf 49)) = some z2 := hfs 2 _ rfl
        rw [show Try.prog.cellsOf 49 = 1 by kernel_rfl] at this
        exact this
      have k3 : DataW.trod enc Try.prog w base spare held n 50 [c3] = some z3 := by
        have this : DataW.trod enc Try.prog w base spare held n 50 (([c0, c1, c2, c3].drop 3).take (Try.prog.cellsOf 50)) = some z3 := hfs 3 _ rfl
        rw [show Try.prog.cellsOf 50 = 1 by kernel_rfl] at this
        exact this
      have hwt : x.1.weights Try.prog 52 = z0.1.weights Try.prog 48 ++ (z1.1.weights Try.prog 3 ++ (z2.1.weights Try.prog 49 ++ (z3.1.weights Try.prog 50 ++ []))) := by
        rw [hx]
        simp only [DataW.weights, Try.underlying52]
        rfl
      rw [hwt] at hw
      obtain ⟨l0, _, r0⟩ := am_slice (size := 2) Try.underlying48 (by kernel_rfl) (by decide) am_lockst _ _ _ k0
      obtain ⟨t0, _, r1⟩ := am_int uw_int _ _ _ k1
      obtain ⟨d0, _, r2⟩ := am_slice (size := 1) Try.underlying49 (by kernel_rfl) (by decide) (am_bool uw_bool) _ _ _ k2
      obtain ⟨h0, _, r3⟩ := am_slice (size := 3) Try.underlying50 (by kernel_rfl) (by decide) am_thrst _ _ _ k3
      refine ⟨⟨l0, t0, d0, h0⟩, ⟨trivial, reps_cons r0 (reps_cons r1 (reps_cons r2 (reps_cons r3 reps_nil)))⟩, slice_room Try.underlying48 k0 r0 (fun n hn => hw n (List.mem_append_left _ hn)) (by decide +kernel), slice_room Try.underlying49 k2 r2 (fun n hn => hw n (List.mem_append_right _ (List.mem_append_right _ (List.mem_append_left _ hn)))) (by decide +kernel)⟩
end
end Go.Proofs.Ytadjimfkfmojkaa.Am

end
section
namespace Go.Proofs.Ytadjimfkfmojkaa.objectTells
open Go.ChangeShapes Go.WideShapes Go.ChangeAt Go.RowKit Am
set_option linter.unusedVariables false
set_option linter.unusedSimpArgs false
theorem law (w : Am.WorldD) (_ : True) (s : Am.SyncD) (hs : s.locks.length ≤ 140737488351232 ∧ s.done.length ≤ 140737488351232) (t : Int) (_ : (Lit.int .i64 t).wf = true) (k : Int) (_ : (Lit.int .i64 k).wf = true) (o : Int) (_ : (Lit.int .i64 o).wf = true) (wake : Int) (_ : (Lit.int .i64 wake).wf = true) :
    PureA Try.prog 11 [.agg w.enc, .agg s.enc, .int .i64 t, .int .i64 k, .int .i64 o, .int .i64 wake] (.bool true) := tells w s hs.1 hs.2 t k o wake
theorem own : ownKnob Try.prog.godebug = none := by kernel_rfl
theorem laidOut : laidOutB Try.prog = true := by kernel_rfl
theorem agg_of {n : Nat} (hn : n ≠ 1) {v : Value} (h : v.cells.toList.length = n) : ∃ cs : List Value, v = .agg cs.toArray ∧ v.cells.toList = cs := by
  cases v with
  | agg a => exact ⟨a.toList, by simp, rfl⟩
  | _ => simp [Value.cells] at h; omega
set_option maxRecDepth 100000 in
theorem lifted (os : Os) (started : os.Started) (H : Type) (enc : TypeId × Value → H) :
    ReturnsInHanded {} Try.checked os 11 .any (Rows.objectTellsSpec.pre6 enc Try.prog Try.f11 Rows.objectTellsRow.domain false) (Rows.objectTellsSpec.post enc Try.prog Try.f11 false true false false) := by
  refine returnsInHanded_of_change_sized (C := Try.checked) own started (by kernel_rfl) Try.func11
    (ChangeSpec.witness6 (enc := enc) (C := Try.checked) false ⟨#[], #[.agg #[.slice none 0 0, .slice none 0 0, .slice none 0 0, .slice none 0 0, .slice none 0 0, .slice none 0 0], .agg #[.slice none 0 0, .int .i64 0, .slice none 0 0, .slice none 0 0], .int .i64 0, .int .i64 0, .int .i64 0, .int .i64 0], []⟩ 8 (by kernel_rfl) (by kernel_rfl) (by kernel_rfl) (by kernel_rfl)) ?_
  intro W base args ds gs before hval0 hW hcnd hsz _
  have hval : ∀ (j : Nat) t v, Try.f11.params[j]? = some t → args[j]? = some v → Value.okWide Try.prog W .any base t v := hval0
  have hW' := hW
  obtain ⟨p, q, hA0, hV, rfl, hfz, hnd⟩ := hW
  have hA : DataW.TrodAll enc Try.prog W 0 (fun _ => true) true Try.f11.params.toList args.toList ds p := hA0
  rw [Try.params11] at hA hval
  obtain ⟨v0, vs0, d0, ds0, p0, q0, hargs, rfl, rfl, h0, r0⟩ := trodAll_cons hA
  obtain ⟨v1, vs1, d1, ds1, p1, q1, rfl, rfl, rfl, h1, r1⟩ := trodAll_cons r0
  obtain ⟨v2, vs2, d2, ds2, p2, q2, rfl, rfl, rfl, h2, r2⟩ := trodAll_cons r1
  obtain ⟨v3, vs3, d3, ds3, p3, q3, rfl, rfl, rfl, h3, r3⟩ := trodAll_cons r2
  obtain ⟨v4, vs4, d4, ds4, p4, q4, rfl, rfl, rfl, h4, r4⟩ := trodAll_cons r3
  obtain ⟨v5, vs5, d5, ds5, p5, q5, rfl, rfl, rfl, h5, r5⟩ := trodAll_cons r4
  obtain ⟨rfl, rfl, rfl⟩ := trodAll_nil r5
  obtain rfl : args = #[v0, v1, v2, v3, v4, v5] := by cases args; simp_all
  obtain ⟨rfl, rfl⟩ := trodVars_none hV
  obtain ⟨fuel0, hf0⟩ := h0
  obtain ⟨x0, g0, k0⟩ := am_world _ _ _ hf0
  obtain ⟨cs0, rfl, hcs0⟩ := agg_of (n := 6) (by decide) (v := v0) (by rw [← k0.1]; first | rfl | exact enc_len _ | simp)
  rw [hcs0] at k0
  have k0 := reps_one (Rep.agg _ _ k0.1 k0.2)
  obtain ⟨fuel1, hf1⟩ := h1
  have ht1 : (Try.f11.params.toList ++ Rows.objectTellsSpec.plain.varTypes Try.prog)[1]? = some 52 := by rw [Try.params11]; rfl
  have hwt : ∀ n ∈ d1.weights Try.prog 52, n ≤ reachBytes := fun n hn => by
    have := List.all_eq_true.1 hsz n (DataW.weights_mem_each ht1 rfl n hn)
    simpa using this
  obtain ⟨x1, k1, g1⟩ := am_sync_sized hf1 hwt
  replace k1 := k1.2
  obtain ⟨cs1, rfl, hcs1⟩ := agg_of (n := 4) (by decide) (v := v1) (by rw [← k1.1]; first | rfl | exact enc_len _ | simp)
  rw [hcs1] at k1
  have k1 := reps_one (Rep.agg _ _ k1.1 k1.2)
  obtain ⟨fuel2, hf2⟩ := h2
  obtain ⟨x2, rfl, _, _, g2⟩ := open_int Try.underlying3 (hval 2 3 v2 rfl rfl) ⟨fuel2, hf2⟩
  have k2 := reps_one (Rep.int (w := W) (σ := sig0) (T := tok0) .i64 x2)
  obtain ⟨fuel3, hf3⟩ := h3
  obtain ⟨x3, rfl, _, _, g3⟩ := open_int Try.underlying3 (hval 3 3 v3 rfl rfl) ⟨fuel3, hf3⟩
  have k3 := reps_one (Rep.int (w := W) (σ := sig0) (T := tok0) .i64 x3)
  obtain ⟨fuel4, hf4⟩ := h4
  obtain ⟨x4, rfl, _, _, g4⟩ := open_int Try.underlying3 (hval 4 3 v4 rfl rfl) ⟨fuel4, hf4⟩
  have k4 := reps_one (Rep.int (w := W) (σ := sig0) (T := tok0) .i64 x4)
  obtain ⟨fuel5, hf5⟩ := h5
  obtain ⟨x5, rfl, _, _, g5⟩ := open_int Try.underlying3 (hval 5 3 v5 rfl rfl) ⟨fuel5, hf5⟩
  have k5 := reps_one (Rep.int (w := W) (σ := sig0) (T := tok0) .i64 x5)
  refine (law_calls (law x0 g0 x1 g1 x2 g2 x3 g3 x4 g4 x5 g5) W (reps_cons k0 (reps_cons k1 (reps_cons k2 (reps_cons k3 (reps_cons k4 (reps_cons k5 reps_nil))))))).mono fun e W' ⟨he, hb⟩ => ⟨.bool true, he, ?_⟩
  exact law_post laidOut (of_decide_eq_true (by kernel_rfl)) rfl rfl Try.underlying4 hW' rfl rfl rfl hb
theorem over : Rows.objectTellsRow.holds Try.pinned (OpenSpec.ofChange Rows.objectTellsSpec) :=
  OpenClaim.holds_of_wide 11 Try.f11 rfl rfl rfl rfl rfl rfl rfl ⟨rfl, rfl, rfl, rfl, rfl⟩ rfl rfl rfl rfl rfl (by kernel_rfl) Try.func11 (by kernel_rfl)
    (of_decide_eq_true (by kernel_rfl)) (by unfold Func.isWrapper; first | (rw [if_pos (by decide +kernel)]; kernel_rfl) | (rw [if_neg (by decide +kernel)]; exact ⟨rfl, rfl⟩))
    (fun os started H enc _ => lifted os started H enc)
theorem proved : Rows.ObjectTellsSaid :=
  over
#print axioms proved
end Go.Proofs.Ytadjimfkfmojkaa.objectTells

end
