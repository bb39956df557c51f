/- A part of the proof; the statement is proved in the last part. -/
import Derived.Test.YtadjimfkfmojkaaQ4e
set_option linter.unusedSimpArgs false
set_option linter.unusedVariables false
section
namespace Go.Proofs.Ytadjimfkfmojkaa.Am
set_option maxRecDepth 100000
set_option linter.unusedSimpArgs false
set_option linter.unusedVariables false
theorem enabledR_no (w : WorldD) (s : SyncD) (t k o : Int) (hcn : w.conds.length < 2 ^ 62) (hr : ∀ l ∈ s.locks, l.readers.length < 2 ^ 40) (Q : AV → SH → Prop) (hq : Q (.bool (enabledS w s t k o)) []) (hn : (fitsS w s && inB t w.threads.length && allowedS w k o) = false) : ref08_Enabled_w (.agg w.enc) (.agg s.enc) (.int .i64 t) (.int .i64 k) (.int .i64 o) [] Q := by
  unfold ref08_Enabled_w
  have e : enabledS w s t k o = false := by unfold enabledS; rw [hn, Bool.false_and]
  rw [e] at hq
  cases h1 : fitsS w s with
  | false =>
    have nh1 : (!fitsS w s) = true := by rw [h1]; rfl
    repeat' (first | (refine h_cond ?_; refine b_cond_t ?_) | (refine h_row ?_; refine b_row_q ?_) | (refine h_pick ?_; refine b_pick_t ?_) | (refine h_grd ?_; refine b_grd_n ?_) | refine a_mark ?_ | ((with_reducible refine h_fn 38 ?_); refine m_call (fitsR_ok _ _ hcn) ?_) | (refine h_un ?_; refine a_not ?_) | (refine h_box ?_; refine b_box (fun nb_ hnb_ => ?_)) | (refine h_frz1 ?_; refine b_frz_p ?_))
    all_goals exact hq
  | true =>
    have nh1 : (!fitsS w s) = false := by rw [h1]; rfl
    cases h2 : inB t w.threads.length with
    | false =>
      have nh2 : (!inB t w.threads.length) = true := by rw [h2]; rfl
      repeat' (first | (refine h_load1 ?_; refine b_load_q ?_) | (refine h_faddr ?_; refine a_faddr_q ?_) | (refine h_cond ?_; refine b_cond_t ?_) | (refine h_row ?_; refine b_row_q ?_) | (refine h_len ?_; refine a_len_m ?_) | (refine h_pick ?_; first | refine b_pick_t ?_ | refine b_pick_f ?_) | (refine h_grd ?_; first | refine b_grd_y ?_ | refine b_grd_n ?_) | refine a_mark ?_ | ((with_reducible refine h_fn 38 ?_); refine m_call (fitsR_ok _ _ hcn) ?_) | ((with_reducible refine h_fn 61 ?_); refine m_call (in_ok _ _) ?_) | (refine h_un ?_; refine a_not ?_) | (refine h_box ?_; refine b_box (fun nb_ hnb_ => ?_)) | (refine h_frz1 ?_; refine b_frz_p ?_))
      all_goals exact hq
    | true =>
      have nh2 : (!inB t w.threads.length) = false := by rw [h2]; rfl
      have h3 : allowedS w k o = false := by rw [h1, h2] at hn; simpa using hn
      have nh3 : (!allowedS w k o) = true := by rw [h3]; rfl
      repeat' (first | (refine h_load1 ?_; refine b_load_q ?_) | (refine h_faddr ?_; refine a_faddr_q ?_) | (refine h_cond ?_; refine b_cond_t ?_) | (refine h_row ?_; refine b_row_q ?_) | (refine h_len ?_; refine a_len_m ?_) | (refine h_pick ?_; refine b_pick_f ?_) | (refine h_grd ?_; refine b_grd_y ?_) | refine a_mark ?_ | ((with_reducible refine h_fn 38 ?_); refine m_call (fitsR_ok _ _ hcn) ?_) | ((with_reducible refine h_fn 61 ?_); refine m_call (in_ok _ _) ?_) | ((with_reducible refine h_fn 63 ?_); refine m_call (named_ok _ _ _) ?_) | (refine h_un ?_; refine a_not ?_) | (refine h_box ?_; refine b_box (fun nb_ hnb_ => ?_)) | (refine h_frz1 ?_; refine b_frz_p ?_))
      all_goals exact hq
theorem enabledR_1 (w : WorldD) (s : SyncD) (t o : Int) (hcn : w.conds.length < 2 ^ 62) (hr : ∀ l ∈ s.locks, l.readers.length < 2 ^ 40) (Q : AV → SH → Prop) (hq : Q (.bool (enabledS w s t 1 o)) []) (h1 : fitsS w s = true) (h2 : inB t w.threads.length = true) (ha : allowedS w 1 o = true) : ref08_Enabled_w (.agg w.enc) (.agg s.enc) (.int .i64 t) (.int .i64 1) (.int .i64 o) [] Q := by
  unfold ref08_Enabled_w
  have nh1 : (!fitsS w s) = false := by rw [h1]; rfl
  have nh2 : (!inB t w.threads.length) = false := by rw [h2]; rfl
  have hf := fitsS_iff.1 h1
  have ht' : inB t s.threads.length = true := by rw [hf.threads]; exact h2
  have hrd := rd_small hr
  have nha : (!allowedS w 1 o) = false := by rw [ha]; rfl
  simp only [enabledS, h1, h2, ha, readyS, lockAt, thrAt, doneAt, mxAt, Bool.true_and, Int.reduceEq, Int.reduceNeg, if_true, if_false, or_self, or_true, true_or, or_false, false_or, reduceIte, reduceCtorEq] at hq
  repeat' (first | (refine h_load1 ?_; refine b_load_q ?_) | (refine h_faddr ?_; refine a_faddr_q ?_) | (refine h_bin ?_; refine a_eql ?_) | (refine h_cond ?_; first | refine b_cond_t ?_ | refine b_cond_f ?_) | (refine h_idx ?_; refine b_idx_i ?_) | (refine h_row ?_; first | refine b_row_q ?_ | refine b_row_i ?_) | (refine h_len ?_; refine a_len_m ?_) | (refine h_pick ?_; refine b_pick_f ?_) | (refine h_grd ?_; refine b_grd_y ?_) | refine a_mark ?_ | ((with_reducible refine h_fn 38 ?_); refine m_call (fitsR_ok _ _ hcn) ?_) | ((with_reducible refine h_fn 61 ?_); refine m_call (in_ok _ _) ?_) | ((with_reducible refine h_fn 63 ?_); refine m_call (named_ok _ _ _) ?_) | (refine h_un ?_; refine a_not ?_) | (refine h_box ?_; refine b_box (fun nb_ hnb_ => ?_)) | (refine h_frz1 ?_; refine b_frz_p ?_) | (refine h_store ?_; refine b_store_box ?_) | refine a_alloc (fun nb_ hnb_ => ?_))
  all_goals first | exact hq | (refine Eq.mp (congrArg (fun b => Q (AV.bool b) []) ?_) hq; clear hq; first | (have h' := of_decide_eq_true h; simp [h']; done) | (have h' := of_decide_eq_false h; simp [h']; done) | (simp [h]; done) | (simp_all; done))
theorem enabledR_2 (w : WorldD) (s : SyncD) (t o : Int) (hcn : w.conds.length < 2 ^ 62) (hr : ∀ l ∈ s.locks, l.readers.length < 2 ^ 40) (Q : AV → SH → Prop) (hq : Q (.bool (enabledS w s t 2 o)) []) (h1 : fitsS w s = true) (h2 : inB t w.threads.length = true) (ha : allowedS w 2 o = true) : ref08_Enabled_w (.agg w.enc) (.agg s.enc) (.int .i64 t) (.int .i64 2) (.int .i64 o) [] Q := by
  unfold ref08_Enabled_w
  have nh1 : (!fitsS w s) = false := by rw [h1]; rfl
  have nh2 : (!inB t w.threads.length) = false := by rw [h2]; rfl
  have hf := fitsS_iff.1 h1
  have ht' : inB t s.threads.length = true := by rw [hf.threads]; exact h2
  have hrd := rd_small hr
  have nha : (!allowedS w 2 o) = false := by rw [ha]; rfl
  simp only [enabledS, h1, h2, ha, readyS, lockAt, thrAt, doneAt, mxAt, Bool.true_and, Int.reduceEq, Int.reduceNeg, if_true, if_false, or_self, or_true, true_or, or_false, false_or, reduceIte, reduceCtorEq] at hq
  repeat' (first | (refine h_load1 ?_; refine b_load_q ?_) | (refine h_faddr ?_; refine a_faddr_q ?_) | (refine h_bin ?_; first | refine a_eql ?_ | refine a_neq ?_) | (refine h_cond ?_; first | refine b_cond_f ?_ | refine a_cond (fun h => ?_) (fun h => ?_)) | (refine h_idx ?_; refine b_idx_i ?_) | (refine h_row ?_; first | refine b_row_q ?_ | refine b_row_i ?_) | (refine h_len ?_; refine a_len_m ?_) | (refine h_pick ?_; refine b_pick_f ?_) | (refine h_grd ?_; refine b_grd_y ?_) | refine a_mark ?_ | ((with_reducible refine h_fn 38 ?_); refine m_call (fitsR_ok _ _ hcn) ?_) | ((with_reducible refine h_fn 61 ?_); refine m_call (in_ok _ _) ?_) | ((with_reducible refine h_fn 63 ?_); refine m_call (named_ok _ _ _) ?_) | (refine h_un ?_; refine a_not ?_) | (refine h_box ?_; refine b_box (fun nb_ hnb_ => ?_)) | (refine h_frz1 ?_; refine b_frz_p ?_) | (refine h_store ?_; refine b_store_box ?_) | refine a_alloc (fun nb_ hnb_ => ?_) | refine a_join ?_)
  all_goals first | exact hq | (refine Eq.mp (congrArg (fun b => Q (AV.bool b) []) ?_) hq; clear hq; first | (have h' := of_decide_eq_true h; simp [h']; done) | (have h' := of_decide_eq_false h; simp [h']; done) | (simp [h]; done) | (simp_all; done))
theorem enabledR_3 (w : WorldD) (s : SyncD) (t o : Int) (hcn : w.conds.length < 2 ^ 62) (hr : ∀ l ∈ s.locks, l.readers.length < 2 ^ 40) (Q : AV → SH → Prop) (hq : Q (.bool (enabledS w s t 3 o)) []) (h1 : fitsS w s = true) (h2 : inB t w.threads.length = true) (ha : allowedS w 3 o = true) : ref08_Enabled_w (.agg w.enc) (.agg s.enc) (.int .i64 t) (.int .i64 3) (.int .i64 o) [] Q := by
  unfold ref08_Enabled_w
  have nh1 : (!fitsS w s) = false := by rw [h1]; rfl
  have nh2 : (!inB t w.threads.length) = false := by rw [h2]; rfl
  have hf := fitsS_iff.1 h1
  have ht' : inB t s.threads.length = true := by rw [hf.threads]; exact h2
  have hrd := rd_small hr
  have nha : (!allowedS w 3 o) = false := by rw [ha]; rfl
  simp only [enabledS, h1, h2, ha, readyS, lockAt, thrAt, doneAt, mxAt, Bool.true_and, Int.reduceEq, Int.reduceNeg, if_true, if_false, or_self, or_true, true_or, or_false, false_or, reduceIte, reduceCtorEq] at hq
  repeat' (first | (refine h_load1 ?_; refine b_load_q ?_) | (refine h_faddr ?_; refine a_faddr_q ?_) | (refine h_bin ?_; first | refine a_eql ?_ | refine a_neq ?_) | (refine h_cond ?_; first | refine b_cond_f ?_ | refine a_cond (fun h => ?_) (fun h => ?_)) | (refine h_idx ?_; refine b_idx_i ?_) | (refine h_row ?_; first | refine b_row_q ?_ | refine b_row_i ?_) | (refine h_len ?_; refine a_len_m ?_) | (refine h_pick ?_; refine b_pick_f ?_) | (refine h_grd ?_; refine b_grd_y ?_) | refine a_mark ?_ | ((with_reducible refine h_fn 38 ?_); refine m_call (fitsR_ok _ _ hcn) ?_) | ((with_reducible refine h_fn 61 ?_); refine m_call (in_ok _ _) ?_) | ((with_reducible refine h_fn 63 ?_); refine m_call (named_ok _ _ _) ?_) | (refine h_un ?_; refine a_not ?_) | (refine h_box ?_; refine b_box (fun nb_ hnb_ => ?_)) | (refine h_frz1 ?_; refine b_frz_p ?_) | (refine h_store ?_; refine b_store_box ?_) | refine a_alloc (fun nb_ hnb_ => ?_) | refine a_join ?_)
  all_goals first | exact hq | (refine Eq.mp (congrArg (fun b => Q (AV.bool b) []) ?_) hq; clear hq; first | (have h' := of_decide_eq_true h; simp [h']; done) | (have h' := of_decide_eq_false h; simp [h']; done) | (simp [h]; done) | (simp_all; done))
theorem enabledR_4 (w : WorldD) (s : SyncD) (t o : Int) (hcn : w.conds.length < 2 ^ 62) (hr : ∀ l ∈ s.locks, l.readers.length < 2 ^ 40) (Q : AV → SH → Prop) (hq : Q (.bool (enabledS w s t 4 o)) []) (h1 : fitsS w s = true) (h2 : inB t w.threads.length = true) (ha : allowedS w 4 o = true) : ref08_Enabled_w (.agg w.enc) (.agg s.enc) (.int .i64 t) (.int .i64 4) (.int .i64 o) [] Q := by
  unfold ref08_Enabled_w
  have nh1 : (!fitsS w s) = false := by rw [h1]; rfl
  have nh2 : (!inB t w.threads.length) = false := by rw [h2]; rfl
  have hf := fitsS_iff.1 h1
  have ht' : inB t s.threads.length = true := by rw [hf.threads]; exact h2
  have hrd := rd_small hr
  have nha : (!allowedS w 4 o) = false := by rw [ha]; rfl
  simp only [enabledS, h1, h2, ha, readyS, lockAt, thrAt, doneAt, mxAt, Bool.true_and, Int.reduceEq, Int.reduceNeg, if_true, if_false, or_self, or_true, true_or, or_false, false_or, reduceIte, reduceCtorEq] at hq
  repeat' (first | (refine h_load1 ?_; refine b_load_q ?_) | (refine h_faddr ?_; refine a_faddr_q ?_) | (refine h_bin ?_; first | refine a_eql ?_ | refine a_neq ?_) | (refine h_cond ?_; first | refine b_cond_f ?_ | refine a_cond (fun h => ?_) (fun h => ?_)) | (refine h_idx ?_; refine b_idx_i ?_) | (refine h_row ?_; first | refine b_row_q ?_ | refine b_row_i ?_) | (refine h_len ?_; refine a_len_m ?_) | (refine h_pick ?_; refine b_pick_f ?_) | (refine h_grd ?_; refine b_grd_y ?_) | refine a_mark ?_ | ((with_reducible refine h_fn 38 ?_); refine m_call (fitsR_ok _ _ hcn) ?_) | ((with_reducible refine h_fn 61 ?_); refine m_call (in_ok _ _) ?_) | ((with_reducible refine h_fn 63 ?_); refine m_call (named_ok _ _ _) ?_) | (refine h_un ?_; refine a_not ?_) | (refine h_box ?_; refine b_box (fun nb_ hnb_ => ?_)) | (refine h_frz1 ?_; refine b_frz_p ?_) | (refine h_store ?_; refine b_store_box ?_) | refine a_alloc (fun nb_ hnb_ => ?_) | refine a_join ?_)
  all_goals first | exact hq | (refine Eq.mp (congrArg (fun b => Q (AV.bool b) []) ?_) hq; clear hq; first | (have h' := of_decide_eq_true h; simp [h']; done) | (have h' := of_decide_eq_false h; simp [h']; done) | (simp [h]; done) | (simp_all; done))
theorem enabledR_5 (w : WorldD) (s : SyncD) (t o : Int) (hcn : w.conds.length < 2 ^ 62) (hr : ∀ l ∈ s.locks, l.readers.length < 2 ^ 40) (Q : AV → SH → Prop) (hq : Q (.bool (enabledS w s t 5 o)) []) (h1 : fitsS w s = true) (h2 : inB t w.threads.length = true) (ha : allowedS w 5 o = true) : ref08_Enabled_w (.agg w.enc) (.agg s.enc) (.int .i64 t) (.int .i64 5) (.int .i64 o) [] Q := by
  unfold ref08_Enabled_w
  have nh1 : (!fitsS w s) = false := by rw [h1]; rfl
  have nh2 : (!inB t w.threads.length) = false := by rw [h2]; rfl
  have hf := fitsS_iff.1 h1
  have ht' : inB t s.threads.length = true := by rw [hf.threads]; exact h2
  have hrd := rd_small hr
  have nha : (!allowedS w 5 o) = false := by rw [ha]; rfl
  simp only [enabledS, h1, h2, ha, readyS, lockAt, thrAt, doneAt, mxAt, Bool.true_and, Int.reduceEq, Int.reduceNeg, if_true, if_false, or_self, or_true, true_or, or_false, false_or, reduceIte, reduceCtorEq] at hq
  repeat' (first | (refine h_load1 ?_; refine b_load_q ?_) | (refine h_faddr ?_; refine a_faddr_q ?_) | (refine h_bin ?_; first | refine a_eql ?_ | refine a_neq ?_) | (refine h_cond ?_; first | refine b_cond_f ?_ | refine a_cond (fun h => ?_) (fun h => ?_)) | (refine h_idx ?_; refine b_idx_i ?_) | (refine h_row ?_; first | refine b_row_q ?_ | refine b_row_i ?_) | (refine h_len ?_; refine a_len_m ?_) | (refine h_pick ?_; refine b_pick_f ?_) | (refine h_grd ?_; refine b_grd_y ?_) | refine a_mark ?_ | ((with_reducible refine h_fn 38 ?_); refine m_call (fitsR_ok _ _ hcn) ?_) | ((with_reducible refine h_fn 61 ?_); refine m_call (in_ok _ _) ?_) | ((with_reducible refine h_fn 63 ?_); refine m_call (named_ok _ _ _) ?_) | (refine h_un ?_; refine a_not ?_) | (refine h_box ?_; refine b_box (fun nb_ hnb_ => ?_)) | (refine h_frz1 ?_; refine b_frz_p ?_) | (refine h_store ?_; refine b_store_box ?_) | refine a_alloc (fun nb_ hnb_ => ?_) | refine a_join ?_)
  all_goals first | exact hq | (refine Eq.mp (congrArg (fun b => Q (AV.bool b) []) ?_) hq; clear hq; first | (have h' := of_decide_eq_true h; simp [h']; done) | (have h' := of_decide_eq_false h; simp [h']; done) | (simp [h]; done) | (simp_all; done))
theorem enabledR_6 (w : WorldD) (s : SyncD) (t o : Int) (hcn : w.conds.length < 2 ^ 62) (hr : ∀ l ∈ s.locks, l.readers.length < 2 ^ 40) (Q : AV → SH → Prop) (hq : Q (.bool (enabledS w s t 6 o)) []) (h1 : fitsS w s = true) (h2 : inB t w.threads.length = true) (ha : allowedS w 6 o = true) : ref08_Enabled_w (.agg w.enc) (.agg s.enc) (.int .i64 t) (.int .i64 6) (.int .i64 o) [] Q := by
  unfold ref08_Enabled_w
  have nh1 : (!fitsS w s) = false := by rw [h1]; rfl
  have nh2 : (!inB t w.threads.length) = false := by rw [h2]; rfl
  have hf := fitsS_iff.1 h1
  have ht' : inB t s.threads.length = true := by rw [hf.threads]; exact h2
  have hrd := rd_small hr
  have nha : (!allowedS w 6 o) = false := by rw [ha]; rfl
  have hl : inB o s.locks.length = true := by rw [hf.locks]; simp [allowedS] at ha; exact ha.1
  simp only [enabledS, h1, h2, ha, readyS, lockAt, thrAt, doneAt, mxAt, Bool.true_and, Int.reduceEq, Int.reduceNeg, if_true, if_false, or_self, or_true, true_or, or_false, false_or, reduceIte, reduceCtorEq] at hq
  repeat' (first | (refine h_load1 ?_; first | refine b_load_q ?_ | refine b_load_i ?_) | (refine h_faddr ?_; refine a_faddr_q ?_) | (refine h_bin ?_; first | refine a_eql ?_ | refine a_neq ?_) | (refine h_cond ?_; first | refine b_cond_t ?_ | refine b_cond_f ?_ | refine a_cond (fun h => ?_) (fun h => ?_)) | (refine h_idx ?_; refine b_idx_i ?_) | (refine h_row ?_; first | refine b_row_q ?_ | refine b_row_i ?_) | (refine h_len ?_; refine a_len_m ?_) | (refine h_pick ?_; refine b_pick_f ?_) | (refine h_grd ?_; refine b_grd_y ?_) | refine a_mark ?_ | ((with_reducible refine h_fn 38 ?_); refine m_call (fitsR_ok _ _ hcn) ?_) | ((with_reducible refine h_fn 61 ?_); refine m_call (in_ok _ _) ?_) | ((with_reducible refine h_fn 63 ?_); refine m_call (named_ok _ _ _) ?_) | (refine h_un ?_; refine a_not ?_) | (refine h_box ?_; refine b_box (fun nb_ hnb_ => ?_)) | (refine h_frz1 ?_; refine b_frz_p ?_) | (refine h_store ?_; refine b_store_box ?_) | refine a_alloc (fun nb_ hnb_ => ?_))
  all_goals first | exact hq | (refine Eq.mp (congrArg (fun b => Q (AV.bool b) []) ?_) hq; clear hq; first | (have h' := of_decide_eq_true h; simp [h']; done) | (have h' := of_decide_eq_false h; simp [h']; done) | (simp [h]; done) | (simp_all; done))
theorem enabledR_7 (w : WorldD) (s : SyncD) (t o : Int) (hcn : w.conds.length < 2 ^ 62) (hr : ∀ l ∈ s.locks, l.readers.length < 2 ^ 40) (Q : AV → SH → Prop) (hq : Q (.bool (enabledS w s t 7 o)) []) (h1 : fitsS w s = true) (h2 : inB t w.threads.length = true) (ha : allowedS w 7 o = true) : ref08_Enabled_w (.agg w.enc) (.agg s.enc) (.int .i64 t) (.int .i64 7) (.int .i64 o) [] Q := by
  unfold ref08_Enabled_w
  have nh1 : (!fitsS w s) = false := by rw [h1]; rfl
  have nh2 : (!inB t w.threads.length) = false := by rw [h2]; rfl
  have hf := fitsS_iff.1 h1
  have ht' : inB t s.threads.length = true := by rw [hf.threads]; exact h2
  have hrd := rd_small hr
  have nha : (!allowedS w 7 o) = false := by rw [ha]; rfl
  have hl : inB o s.locks.length = true := by rw [hf.locks]; simp [allowedS] at ha; exact ha.1
  simp only [enabledS, h1, h2, ha, readyS, lockAt, thrAt, doneAt, mxAt, Bool.true_and, Int.reduceEq, Int.reduceNeg, if_true, if_false, or_self, or_true, true_or, or_false, false_or, reduceIte, reduceCtorEq] at hq
  repeat' (first | (refine h_load1 ?_; first | refine b_load_q ?_ | refine b_load_i ?_) | (refine h_faddr ?_; refine a_faddr_q ?_) | (refine h_bin ?_; first | refine a_eql ?_ | refine a_neq ?_) | (refine h_cond ?_; first | refine b_cond_t ?_ | refine b_cond_f ?_ | refine a_cond (fun h => ?_) (fun h => ?_)) | (refine h_idx ?_; refine b_idx_i ?_) | (refine h_row ?_; first | refine b_row_q ?_ | refine b_row_i ?_) | (refine h_len ?_; refine a_len_m ?_) | (refine h_pick ?_; refine b_pick_f ?_) | (refine h_grd ?_; refine b_grd_y ?_) | refine a_mark ?_ | ((with_reducible refine h_fn 38 ?_); refine m_call (fitsR_ok _ _ hcn) ?_) | ((with_reducible refine h_fn 61 ?_); refine m_call (in_ok _ _) ?_) | ((with_reducible refine h_fn 63 ?_); refine m_call (named_ok _ _ _) ?_) | (refine h_un ?_; refine a_not ?_) | (refine h_box ?_; refine b_box (fun nb_ hnb_ => ?_)) | (refine h_frz1 ?_; refine b_frz_p ?_) | (refine h_store ?_; refine b_store_box ?_) | refine a_alloc (fun nb_ hnb_ => ?_) | refine a_join ?_)
  all_goals first | exact hq | (refine Eq.mp (congrArg (fun b => Q (AV.bool b) []) ?_) hq; clear hq; first | (have h' := of_decide_eq_true h; simp [h']; done) | (have h' := of_decide_eq_false h; simp [h']; done) | (simp [h]; done) | (simp_all; done))
theorem enabledR_8 (w : WorldD) (s : SyncD) (t o : Int) (hcn : w.conds.length < 2 ^ 62) (hr : ∀ l ∈ s.locks, l.readers.length < 2 ^ 40) (Q : AV → SH → Prop) (hq : Q (.bool (enabledS w s t 8 o)) []) (h1 : fitsS w s = true) (h2 : inB t w.threads.length = true) (ha : allowedS w 8 o = true) : ref08_Enabled_w (.agg w.enc) (.agg s.enc) (.int .i64 t) (.int .i64 8) (.int .i64 o) [] Q := by
  unfold ref08_Enabled_w
  have nh1 : (!fitsS w s) = false := by rw [h1]; rfl
  have nh2 : (!inB t w.threads.length) = false := by rw [h2]; rfl
  have hf := fitsS_iff.1 h1
  have ht' : inB t s.threads.length = true := by rw [hf.threads]; exact h2
  have hrd := rd_small hr
  have nha : (!allowedS w 8 o) = false := by rw [ha]; rfl
  have hl : inB o s.locks.length = true := by rw [hf.locks]; simp [allowedS] at ha; exact ha.1
  simp only [enabledS, h1, h2, ha, readyS, lockAt, thrAt, doneAt, mxAt, Bool.true_and, Int.reduceEq, Int.reduceNeg, if_true, if_false, or_self, or_true, true_or, or_false, false_or, reduceIte, reduceCtorEq] at hq
  repeat' (first | (refine h_load1 ?_; first | refine b_load_q ?_ | refine b_load_i ?_) | (refine h_faddr ?_; refine a_faddr_q ?_) | (refine h_bin ?_; first | refine a_eql ?_ | refine a_neq ?_) | (refine h_cond ?_; first | refine b_cond_t ?_ | refine b_cond_f ?_ | refine a_cond (fun h => ?_) (fun h => ?_)) | (refine h_idx ?_; refine b_idx_i ?_) | (refine h_row ?_; first | refine b_row_q ?_ | refine b_row_i ?_) | (refine h_len ?_; refine a_len_m ?_) | (refine h_pick ?_; first | refine b_pick_t ?_ | refine b_pick_f ?_) | (refine h_grd ?_; first | refine b_grd_y ?_ | refine b_grd_n ?_ | refine a_grd_t (fun h => ?_) (fun h => ?_)) | refine a_mark ?_ | ((with_reducible refine h_fn 38 ?_); refine m_call (fitsR_ok _ _ hcn) ?_) | ((with_reducible refine h_fn 61 ?_); refine m_call (in_ok _ _) ?_) | ((with_reducible refine h_fn 63 ?_); refine m_call (named_ok _ _ _) ?_) | ((with_reducible refine h_fn 15 ?_); refine m_call (has_ok _ _ (hrd _)) ?_) | (refine h_un ?_; refine a_not ?_) | (refine h_box ?_; refine b_box (fun nb_ hnb_ => ?_)) | (refine h_frz1 ?_; refine b_frz_p ?_) | (refine h_store ?_; refine b_store_box ?_) | refine a_alloc (fun nb_ hnb_ => ?_))
  all_goals first | exact hq | (refine Eq.mp (congrArg (fun b => Q (AV.bool b) []) ?_) hq; clear hq; first | (have h' := of_decide_eq_true h; simp [h']; done) | (have h' := of_decide_eq_false h; simp [h']; done) | (simp [h]; done) | (simp_all; done))
theorem enabledR_9 (w : WorldD) (s : SyncD) (t o : Int) (hcn : w.conds.length < 2 ^ 62) (hr : ∀ l ∈ s.locks, l.readers.length < 2 ^ 40) (Q : AV → SH → Prop) (hq : Q (.bool (enabledS w s t 9 o)) []) (h1 : fitsS w s = true) (h2 : inB t w.threads.length = true) (ha : allowedS w 9 o = true) : ref08_Enabled_w (.agg w.enc) (.agg s.enc) (.int .i64 t) (.int .i64 9) (.int .i64 o) [] Q := by
  unfold ref08_Enabled_w
  have nh1 : (!fitsS w s) = false := by rw [h1]; rfl
  have nh2 : (!inB t w.threads.length) = false := by rw [h2]; rfl
  have hf := fitsS_iff.1 h1
  have ht' : inB t s.threads.length = true := by rw [hf.threads]; exact h2
  have hrd := rd_small hr
  have nha : (!allowedS w 9 o) = false := by rw [ha]; rfl
  have hl : inB o s.locks.length = true := by rw [hf.locks]; simp [allowedS] at ha; exact ha.1
  simp only [enabledS, h1, h2, ha, readyS, lockAt, thrAt, doneAt, mxAt, Bool.true_and, Int.reduceEq, Int.reduceNeg, if_true, if_false, or_self, or_true, true_or, or_false, false_or, reduceIte, reduceCtorEq] at hq
  repeat' (first | (refine h_load1 ?_; first | refine b_load_q ?_ | refine b_load_i ?_) | (refine h_faddr ?_; refine a_faddr_q ?_) | (refine h_bin ?_; first | refine a_eql ?_ | refine a_neq ?_) | (refine h_cond ?_; first | refine b_cond_t ?_ | refine b_cond_f ?_ | refine a_cond (fun h => ?_) (fun h => ?_)) | (refine h_idx ?_; refine b_idx_i ?_) | (refine h_row ?_; first | refine b_row_q ?_ | refine b_row_i ?_) | (refine h_len ?_; refine a_len_m ?_) | (refine h_pick ?_; refine b_pick_f ?_) | (refine h_grd ?_; refine b_grd_y ?_) | refine a_mark ?_ | ((with_reducible refine h_fn 38 ?_); refine m_call (fitsR_ok _ _ hcn) ?_) | ((with_reducible refine h_fn 61 ?_); refine m_call (in_ok _ _) ?_) | ((with_reducible refine h_fn 63 ?_); refine m_call (named_ok _ _ _) ?_) | ((with_reducible refine h_fn 15 ?_); refine m_call (has_ok _ _ (hrd _)) ?_) | (refine h_un ?_; refine a_not ?_) | (refine h_box ?_; refine b_box (fun nb_ hnb_ => ?_)) | (refine h_frz1 ?_; refine b_frz_p ?_) | (refine h_store ?_; refine b_store_box ?_) | refine a_alloc (fun nb_ hnb_ => ?_) | refine a_join ?_)
  all_goals first | exact hq | (refine Eq.mp (congrArg (fun b => Q (AV.bool b) []) ?_) hq; clear hq; first | (have h' := of_decide_eq_true h; simp [h']; done) | (have h' := of_decide_eq_false h; simp [h']; done) | (simp [h]; done) | (simp_all; done))
theorem enabledR_10 (w : WorldD) (s : SyncD) (t o : Int) (hcn : w.conds.length < 2 ^ 62) (hr : ∀ l ∈ s.locks, l.readers.length < 2 ^ 40) (Q : AV → SH → Prop) (hq : Q (.bool (enabledS w s t 10 o)) []) (h1 : fitsS w s = true) (h2 : inB t w.threads.length = true) (ha : allowedS w 10 o = true) : ref08_Enabled_w (.agg w.enc) (.agg s.enc) (.int .i64 t) (.int .i64 10) (.int .i64 o) [] Q := by
  unfold ref08_Enabled_w
  have nh1 : (!fitsS w s) = false := by rw [h1]; rfl
  have nh2 : (!inB t w.threads.length) = false := by rw [h2]; rfl
  have hf := fitsS_iff.1 h1
  have ht' : inB t s.threads.length = true := by rw [hf.threads]; exact h2
  have hrd := rd_small hr
  have nha : (!allowedS w 10 o) = false := by rw [ha]; rfl
  have hl : inB o s.locks.length = true := by rw [hf.locks]; simp [allowedS] at ha; exact ha.1
  simp only [enabledS, h1, h2, ha, readyS, lockAt, thrAt, doneAt, mxAt, Bool.true_and, Int.reduceEq, Int.reduceNeg, if_true, if_false, or_self, or_true, true_or, or_false, false_or, reduceIte, reduceCtorEq] at hq
  repeat' (first | (refine h_load1 ?_; first | refine b_load_q ?_ | refine b_load_i ?_) | (refine h_faddr ?_; refine a_faddr_q ?_) | (refine h_bin ?_; first | refine a_eql ?_ | refine a_neq ?_) | (refine h_cond ?_; first | refine b_cond_t ?_ | refine b_cond_f ?_ | refine a_cond (fun h => ?_) (fun h => ?_)) | (refine h_idx ?_; refine b_idx_i ?_) | (refine h_row ?_; first | refine b_row_q ?_ | refine b_row_i ?_) | (refine h_len ?_; refine a_len_m ?_) | (refine h_pick ?_; first | refine b_pick_t ?_ | refine b_pick_f ?_) | (refine h_grd ?_; first | refine b_grd_y ?_ | refine b_grd_n ?_ | refine a_grd_t (fun h => ?_) (fun h => ?_)) | refine a_mark ?_ | ((with_reducible refine h_fn 38 ?_); refine m_call (fitsR_ok _ _ hcn) ?_) | ((with_reducible refine h_fn 61 ?_); refine m_call (in_ok _ _) ?_) | ((with_reducible refine h_fn 63 ?_); refine m_call (named_ok _ _ _) ?_) | (refine h_un ?_; refine a_not ?_) | (refine h_box ?_; refine b_box (fun nb_ hnb_ => ?_)) | (refine h_frz1 ?_; refine b_frz_p ?_) | (refine h_store ?_; refine b_store_box ?_) | refine a_alloc (fun nb_ hnb_ => ?_))
  all_goals first | exact hq | (refine Eq.mp (congrArg (fun b => Q (AV.bool b) []) ?_) hq; clear hq; first | (have h' := of_decide_eq_true h; simp [h']; done) | (have h' := of_decide_eq_false h; simp [h']; done) | (simp [h]; done) | (simp_all; done))
theorem enabledR_11 (w : WorldD) (s : SyncD) (t o : Int) (hcn : w.conds.length < 2 ^ 62) (hr : ∀ l ∈ s.locks, l.readers.length < 2 ^ 40) (Q : AV → SH → Prop) (hq : Q (.bool (enabledS w s t 11 o)) []) (h1 : fitsS w s = true) (h2 : inB t w.threads.length = true) (ha : allowedS w 11 o = true) : ref08_Enabled_w (.agg w.enc) (.agg s.enc) (.int .i64 t) (.int .i64 11) (.int .i64 o) [] Q := by
  unfold ref08_Enabled_w
  have nh1 : (!fitsS w s) = false := by rw [h1]; rfl
  have nh2 : (!inB t w.threads.length) = false := by rw [h2]; rfl
  have hf := fitsS_iff.1 h1
  have ht' : inB t s.threads.length = true := by rw [hf.threads]; exact h2
  have hrd := rd_small hr
  have nha : (!allowedS w 11 o) = false := by rw [ha]; rfl
  have hl : inB o s.locks.length = true := by rw [hf.locks]; simp [allowedS] at ha; exact ha.1
  simp only [enabledS, h1, h2, ha, readyS, lockAt, thrAt, doneAt, mxAt, Bool.true_and, Int.reduceEq, Int.reduceNeg, if_true, if_false, or_self, or_true, true_or, or_false, false_or, reduceIte, reduceCtorEq] at hq
  repeat' (first | (refine h_load1 ?_; first | refine b_load_q ?_ | refine b_load_i ?_) | (refine h_faddr ?_; refine a_faddr_q ?_) | (refine h_bin ?_; first | refine a_eql ?_ | refine a_neq ?_) | (refine h_cond ?_; first | refine b_cond_t ?_ | refine b_cond_f ?_ | refine a_cond (fun h => ?_) (fun h => ?_)) | (refine h_idx ?_; refine b_idx_i ?_) | (refine h_row ?_; first | refine b_row_q ?_ | refine b_row_i ?_) | (refine h_len ?_; refine a_len_m ?_) | (refine h_pick ?_; refine b_pick_f ?_) | (refine h_grd ?_; refine b_grd_y ?_) | refine a_mark ?_ | ((with_reducible refine h_fn 38 ?_); refine m_call (fitsR_ok _ _ hcn) ?_) | ((with_reducible refine h_fn 61 ?_); refine m_call (in_ok _ _) ?_) | ((with_reducible refine h_fn 63 ?_); refine m_call (named_ok _ _ _) ?_) | (refine h_un ?_; refine a_not ?_) | (refine h_box ?_; refine b_box (fun nb_ hnb_ => ?_)) | (refine h_frz1 ?_; refine b_frz_p ?_) | (refine h_store ?_; refine b_store_box ?_) | refine a_alloc (fun nb_ hnb_ => ?_) | refine a_join ?_)
  all_goals first | exact hq | (refine Eq.mp (congrArg (fun b => Q (AV.bool b) []) ?_) hq; clear hq; first | (have h' := of_decide_eq_true h; simp [h']; done) | (have h' := of_decide_eq_false h; simp [h']; done) | (simp [h]; done) | (simp_all; done))
theorem enabledR_12 (w : WorldD) (s : SyncD) (t o : Int) (hcn : w.conds.length < 2 ^ 62) (hr : ∀ l ∈ s.locks, l.readers.length < 2 ^ 40) (Q : AV → SH → Prop) (hq : Q (.bool (enabledS w s t 12 o)) []) (h1 : fitsS w s = true) (h2 : inB t w.threads.length = true) (ha : allowedS w 12 o = true) : ref08_Enabled_w (.agg w.enc) (.agg s.enc) (.int .i64 t) (.int .i64 12) (.int .i64 o) [] Q := by
  unfold ref08_Enabled_w
  have nh1 : (!fitsS w s) = false := by rw [h1]; rfl
  have nh2 : (!inB t w.threads.length) = false := by rw [h2]; rfl
  have hf := fitsS_iff.1 h1
  have ht' : inB t s.threads.length = true := by rw [hf.threads]; exact h2
  have hrd := rd_small hr
  have nha : (!allowedS w 12 o) = false := by rw [ha]; rfl
  simp only [enabledS, h1, h2, ha, readyS, lockAt, thrAt, doneAt, mxAt, Bool.true_and, Int.reduceEq, Int.reduceNeg, if_true, if_false, or_self, or_true, true_or, or_false, false_or, reduceIte, reduceCtorEq] at hq
  repeat' (first | (refine h_load1 ?_; refine b_load_q ?_) | (refine h_faddr ?_; refine a_faddr_q ?_) | (refine h_bin ?_; first | refine a_eql ?_ | refine a_neq ?_) | (refine h_cond ?_; first | refine b_cond_t ?_ | refine b_cond_f ?_ | refine a_cond (fun h => ?_) (fun h => ?_)) | (refine h_idx ?_; refine b_idx_i ?_) | (refine h_row ?_; first | refine b_row_q ?_ | refine b_row_i ?_) | (refine h_len ?_; refine a_len_m ?_) | (refine h_pick ?_; refine b_pick_f ?_) | (refine h_grd ?_; refine b_grd_y ?_) | refine a_mark ?_ | ((with_reducible refine h_fn 38 ?_); refine m_call (fitsR_ok _ _ hcn) ?_) | ((with_reducible refine h_fn 61 ?_); refine m_call (in_ok _ _) ?_) | ((with_reducible refine h_fn 63 ?_); refine m_call (named_ok _ _ _) ?_) | (refine h_un ?_; refine a_not ?_) | (refine h_box ?_; refine b_box (fun nb_ hnb_ => ?_)) | (refine h_frz1 ?_; refine b_frz_p ?_) | (refine h_store ?_; refine b_store_box ?_) | refine a_alloc (fun nb_ hnb_ => ?_) | refine a_join ?_)
  all_goals first | exact hq | (refine Eq.mp (congrArg (fun b => Q (AV.bool b) []) ?_) hq; clear hq; first | (have h' := of_decide_eq_true h; simp [h']; done) | (have h' := of_decide_eq_false h; simp [h']; done) | (simp [h]; done) | (simp_all; done))
theorem enabledR_13 (w : WorldD) (s : SyncD) (t o : Int) (hcn : w.conds.length < 2 ^ 62) (hr : ∀ l ∈ s.locks, l.readers.length < 2 ^ 40) (Q : AV → SH → Prop) (hq : Q (.bool (enabledS w s t 13 o)) []) (h1 : fitsS w s = true) (h2 : inB t w.threads.length = true) (ha : allowedS w 13 o = true) : ref08_Enabled_w (.agg w.enc) (.agg s.enc) (.int .i64 t) (.int .i64 13) (.int .i64 o) [] Q := by
  unfold ref08_Enabled_w
  have nh1 : (!fitsS w s) = false := by rw [h1]; rfl
  have nh2 : (!inB t w.threads.length) = false := by rw [h2]; rfl
  have hf := fitsS_iff.1 h1
  have ht' : inB t s.threads.length = true := by rw [hf.threads]; exact h2
  have hrd := rd_small hr
  have nha : (!allowedS w 13 o) = false := by rw [ha]; rfl
  simp only [enabledS, h1, h2, ha, readyS, lockAt, thrAt, doneAt, mxAt, Bool.true_and, Int.reduceEq, Int.reduceNeg, if_true, if_false, or_self, or_true, true_or, or_false, false_or, reduceIte, reduceCtorEq] at hq
  repeat' (first | (refine h_load1 ?_; refine b_load_q ?_) | (refine h_faddr ?_; refine a_faddr_q ?_) | (refine h_bin ?_; first | refine a_eql ?_ | refine a_neq ?_) | (refine h_cond ?_; first | refine b_cond_t ?_ | refine b_cond_f ?_ | refine a_cond (fun h => ?_) (fun h => ?_)) | (refine h_idx ?_; refine b_idx_i ?_) | (refine h_row ?_; first | refine b_row_q ?_ | refine b_row_i ?_) | (refine h_len ?_; refine a_len_m ?_) | (refine h_pick ?_; refine b_pick_f ?_) | (refine h_grd ?_; refine b_grd_y ?_) | refine a_mark ?_ | ((with_reducible refine h_fn 38 ?_); refine m_call (fitsR_ok _ _ hcn) ?_) | ((with_reducible refine h_fn 61 ?_); refine m_call (in_ok _ _) ?_) | ((with_reducible refine h_fn 63 ?_); refine m_call (named_ok _ _ _) ?_) | (refine h_un ?_; refine a_not ?_) | (refine h_box ?_; refine b_box (fun nb_ hnb_ => ?_)) | (refine h_frz1 ?_; refine b_frz_p ?_) | (refine h_store ?_; refine b_store_box ?_) | refine a_alloc (fun nb_ hnb_ => ?_) | refine a_join ?_)
  all_goals first | exact hq | (refine Eq.mp (congrArg (fun b => Q (AV.bool b) []) ?_) hq; clear hq; first | (have h' := of_decide_eq_true h; simp [h']; done) | (have h' := of_decide_eq_false h; simp [h']; done) | (simp [h]; done) | (simp_all; done))
theorem enabledR_14 (w : WorldD) (s : SyncD) (t o : Int) (hcn : w.conds.length < 2 ^ 62) (hr : ∀ l ∈ s.locks, l.readers.length < 2 ^ 40) (Q : AV → SH → Prop) (hq : Q (.bool (enabledS w s t 14 o)) []) (h1 : fitsS w s = true) (h2 : inB t w.threads.length = true) (ha : allowedS w 14 o = true) : ref08_Enabled_w (.agg w.enc) (.agg s.enc) (.int .i64 t) (.int .i64 14) (.int .i64 o) [] Q := by
  unfold ref08_Enabled_w
  have nh1 : (!fitsS w s) = false := by rw [h1]; rfl
  have nh2 : (!inB t w.threads.length) = false := by rw [h2]; rfl
  have hf := fitsS_iff.1 h1
  have ht' : inB t s.threads.length = true := by rw [hf.threads]; exact h2
  have hrd := rd_small hr
  have nha : (!allowedS w 14 o) = false := by rw [ha]; rfl
  simp only [enabledS, h1, h2, ha, readyS, lockAt, thrAt, doneAt, mxAt, Bool.true_and, Int.reduceEq, Int.reduceNeg, if_true, if_false, or_self, or_true, true_or, or_false, false_or, reduceIte, reduceCtorEq] at hq
  repeat' (first | (refine h_load1 ?_; refine b_load_q ?_) | (refine h_faddr ?_; refine a_faddr_q ?_) | (refine h_bin ?_; first | refine a_eql ?_ | refine a_neq ?_) | (refine h_cond ?_; first | refine b_cond_t ?_ | refine b_cond_f ?_ | refine a_cond (fun h => ?_) (fun h => ?_)) | (refine h_idx ?_; refine b_idx_i ?_) | (refine h_row ?_; first | refine b_row_q ?_ | refine b_row_i ?_) | (refine h_len ?_; refine a_len_m ?_) | (refine h_pick ?_; refine b_pick_f ?_) | (refine h_grd ?_; refine b_grd_y ?_) | refine a_mark ?_ | ((with_reducible refine h_fn 38 ?_); refine m_call (fitsR_ok _ _ hcn) ?_) | ((with_reducible refine h_fn 61 ?_); refine m_call (in_ok _ _) ?_) | ((with_reducible refine h_fn 63 ?_); refine m_call (named_ok _ _ _) ?_) | (refine h_un ?_; refine a_not ?_) | (refine h_box ?_; refine b_box (fun nb_ hnb_ => ?_)) | (refine h_frz1 ?_; refine b_frz_p ?_) | (refine h_store ?_; refine b_store_box ?_) | refine a_alloc (fun nb_ hnb_ => ?_) | refine a_join ?_)
  all_goals first | exact hq | (refine Eq.mp (congrArg (fun b => Q (AV.bool b) []) ?_) hq; clear hq; first | (have h' := of_decide_eq_true h; simp [h']; done) | (have h' := of_decide_eq_false h; simp [h']; done) | (simp [h]; done) | (simp_all; done))
theorem enabledR_15 (w : WorldD) (s : SyncD) (t o : Int) (hcn : w.conds.length < 2 ^ 62) (hr : ∀ l ∈ s.locks, l.readers.length < 2 ^ 40) (Q : AV → SH → Prop) (hq : Q (.bool (enabledS w s t 15 o)) []) (h1 : fitsS w s = true) (h2 : inB t w.threads.length = true) (ha : allowedS w 15 o = true) : ref08_Enabled_w (.agg w.enc) (.agg s.enc) (.int .i64 t) (.int .i64 15) (.int .i64 o) [] Q := by
  unfold ref08_Enabled_w
  have nh1 : (!fitsS w s) = false := by rw [h1]; rfl
  have nh2 : (!inB t w.threads.length) = false := by rw [h2]; rfl
  have hf := fitsS_iff.1 h1
  have ht' : inB t s.threads.length = true := by rw [hf.threads]; exact h2
  have hrd := rd_small hr
  have nha : (!allowedS w 15 o) = false := by rw [ha]; rfl
  simp only [enabledS, h1, h2, ha, readyS, lockAt, thrAt, doneAt, mxAt, Bool.true_and, Int.reduceEq, Int.reduceNeg, if_true, if_false, or_self, or_true, true_or, or_false, false_or, reduceIte, reduceCtorEq] at hq
  repeat' (first | (refine h_load1 ?_; refine b_load_q ?_) | (refine h_faddr ?_; refine a_faddr_q ?_) | (refine h_bin ?_; first | refine a_eql ?_ | refine a_neq ?_) | (refine h_cond ?_; first | refine b_cond_t ?_ | refine b_cond_f ?_ | refine a_cond (fun h => ?_) (fun h => ?_)) | (refine h_idx ?_; refine b_idx_i ?_) | (refine h_row ?_; first | refine b_row_q ?_ | refine b_row_i ?_) | (refine h_len ?_; refine a_len_m ?_) | (refine h_pick ?_; refine b_pick_f ?_) | (refine h_grd ?_; refine b_grd_y ?_) | refine a_mark ?_ | ((with_reducible refine h_fn 38 ?_); refine m_call (fitsR_ok _ _ hcn) ?_) | ((with_reducible refine h_fn 61 ?_); refine m_call (in_ok _ _) ?_) | ((with_reducible refine h_fn 63 ?_); refine m_call (named_ok _ _ _) ?_) | (refine h_un ?_; refine a_not ?_) | (refine h_box ?_; refine b_box (fun nb_ hnb_ => ?_)) | (refine h_frz1 ?_; refine b_frz_p ?_) | (refine h_store ?_; refine b_store_box ?_) | refine a_alloc (fun nb_ hnb_ => ?_) | refine a_join ?_)
  all_goals first | exact hq | (refine Eq.mp (congrArg (fun b => Q (AV.bool b) []) ?_) hq; clear hq; first | (have h' := of_decide_eq_true h; simp [h']; done) | (have h' := of_decide_eq_false h; simp [h']; done) | (simp [h]; done) | (simp_all; done))
theorem enabledR_16 (w : WorldD) (s : SyncD) (t o : Int) (hcn : w.conds.length < 2 ^ 62) (hr : ∀ l ∈ s.locks, l.readers.length < 2 ^ 40) (Q : AV → SH → Prop) (hq : Q (.bool (enabledS w s t 16 o)) []) (h1 : fitsS w s = true) (h2 : inB t w.threads.length = true) (ha : allowedS w 16 o = true) : ref08_Enabled_w (.agg w.enc) (.agg s.enc) (.int .i64 t) (.int .i64 16) (.int .i64 o) [] Q := by
  unfold ref08_Enabled_w
  have nh1 : (!fitsS w s) = false := by rw [h1]; rfl
  have nh2 : (!inB t w.threads.length) = false := by rw [h2]; rfl
  have hf := fitsS_iff.1 h1
  have ht' : inB t s.threads.length = true := by rw [hf.threads]; exact h2
  have hrd := rd_small hr
  have nha : (!allowedS w 16 o) = false := by rw [ha]; rfl
  have hc : inB o w.conds.length = true := by simpa [allowedS] using ha
  have hl := mx_in hf hc
  simp only [enabledS, h1, h2, ha, readyS, lockAt, thrAt, doneAt, mxAt, Bool.true_and, Int.reduceEq, Int.reduceNeg, if_true, if_false, or_self, or_true, true_or, or_false, false_or, reduceIte, reduceCtorEq] at hq
  repeat' (first | (refine h_load1 ?_; first | refine b_load_q ?_ | refine b_load_i ?_) | (refine h_faddr ?_; refine a_faddr_q ?_) | (refine h_bin ?_; first | refine a_eql ?_ | refine a_neq ?_) | (refine h_cond ?_; first | refine b_cond_t ?_ | refine b_cond_f ?_ | refine a_cond (fun h => ?_) (fun h => ?_)) | (refine h_idx ?_; refine b_idx_i ?_) | (refine h_row ?_; first | refine b_row_q ?_ | refine b_row_i ?_) | (refine h_len ?_; refine a_len_m ?_) | (refine h_calm ?_; refine b_calm ?_) | (refine h_note ?_; refine a_note ?_) | (refine h_pick ?_; refine b_pick_f ?_) | (refine h_grd ?_; refine b_grd_y ?_) | refine a_mark ?_ | ((with_reducible refine h_fn 38 ?_); refine m_call (fitsR_ok _ _ hcn) ?_) | ((with_reducible refine h_fn 61 ?_); refine m_call (in_ok _ _) ?_) | ((with_reducible refine h_fn 63 ?_); refine m_call (named_ok _ _ _) ?_) | (refine h_un ?_; refine a_not ?_) | (refine h_box ?_; refine b_box (fun nb_ hnb_ => ?_)) | (refine h_frz1 ?_; refine b_frz_p ?_) | (refine h_store ?_; refine b_store_box ?_) | refine a_alloc (fun nb_ hnb_ => ?_) | refine a_join ?_ | refine a_tt ?_)
  all_goals first | exact hq | (refine Eq.mp (congrArg (fun b => Q (AV.bool b) []) ?_) hq; clear hq; first | (have h' := of_decide_eq_true h; simp [h']; done) | (have h' := of_decide_eq_false h; simp [h']; done) | (simp [h]; done) | (simp_all; done))
theorem enabledR_17 (w : WorldD) (s : SyncD) (t o : Int) (hcn : w.conds.length < 2 ^ 62) (hr : ∀ l ∈ s.locks, l.readers.length < 2 ^ 40) (Q : AV → SH → Prop) (hq : Q (.bool (enabledS w s t 17 o)) []) (h1 : fitsS w s = true) (h2 : inB t w.threads.length = true) (ha : allowedS w 17 o = true) : ref08_Enabled_w (.agg w.enc) (.agg s.enc) (.int .i64 t) (.int .i64 17) (.int .i64 o) [] Q := by
  unfold ref08_Enabled_w
  have nh1 : (!fitsS w s) = false := by rw [h1]; rfl
  have nh2 : (!inB t w.threads.length) = false := by rw [h2]; rfl
  have hf := fitsS_iff.1 h1
  have ht' : inB t s.threads.length = true := by rw [hf.threads]; exact h2
  have hrd := rd_small hr
  have nha : (!allowedS w 17 o) = false := by rw [ha]; rfl
  have hc : inB o w.conds.length = true := by simpa [allowedS] using ha
  have hl := mx_in hf hc
  simp only [enabledS, h1, h2, ha, readyS, lockAt, thrAt, doneAt, mxAt, Bool.true_and, Int.reduceEq, Int.reduceNeg, if_true, if_false, or_self, or_true, true_or, or_false, false_or, reduceIte, reduceCtorEq] at hq
  repeat' (first | (refine h_load1 ?_; first | refine b_load_q ?_ | refine b_load_i ?_) | (refine h_faddr ?_; refine a_faddr_q ?_) | (refine h_bin ?_; refine a_eql ?_) | (refine h_cond ?_; first | refine b_cond_t ?_ | refine b_cond_f ?_) | (refine h_idx ?_; refine b_idx_i ?_) | (refine h_row ?_; first | refine b_row_q ?_ | refine b_row_i ?_) | (refine h_len ?_; refine a_len_m ?_) | (refine h_calm ?_; refine b_calm ?_) | (refine h_note ?_; refine a_note ?_) | (refine h_pick ?_; first | refine b_pick_t ?_ | refine b_pick_f ?_) | (refine h_grd ?_; refine b_grd_y ?_) | (refine h_dgrd ?_; first | refine b_dgrd_y ?_ | refine b_dgrd_n ?_ | refine a_dgrd_t (fun h => ?_) (fun h => ?_)) | refine a_mark ?_ | ((with_reducible refine h_fn 38 ?_); refine m_call (fitsR_ok _ _ hcn) ?_) | ((with_reducible refine h_fn 61 ?_); refine m_call (in_ok _ _) ?_) | ((with_reducible refine h_fn 63 ?_); refine m_call (named_ok _ _ _) ?_) | (refine h_un ?_; refine a_not ?_) | (refine h_box ?_; refine b_box (fun nb_ hnb_ => ?_)) | (refine h_frz1 ?_; refine b_frz_p ?_) | (refine h_store ?_; refine b_store_box ?_) | refine a_alloc (fun nb_ hnb_ => ?_) | refine a_tt ?_)
  all_goals first | exact hq | (refine Eq.mp (congrArg (fun b => Q (AV.bool b) []) ?_) hq; clear hq; first | (have h' := of_decide_eq_true h; simp [h']; done) | (have h' := of_decide_eq_false h; simp [h']; done) | (simp [h]; done) | (simp_all; done))
theorem enabledR_18 (w : WorldD) (s : SyncD) (t o : Int) (hcn : w.conds.length < 2 ^ 62) (hr : ∀ l ∈ s.locks, l.readers.length < 2 ^ 40) (Q : AV → SH → Prop) (hq : Q (.bool (enabledS w s t 18 o)) []) (h1 : fitsS w s = true) (h2 : inB t w.threads.length = true) (ha : allowedS w 18 o = true) : ref08_Enabled_w (.agg w.enc) (.agg s.enc) (.int .i64 t) (.int .i64 18) (.int .i64 o) [] Q := by
  unfold ref08_Enabled_w
  have nh1 : (!fitsS w s) = false := by rw [h1]; rfl
  have nh2 : (!inB t w.threads.length) = false := by rw [h2]; rfl
  have hf := fitsS_iff.1 h1
  have ht' : inB t s.threads.length = true := by rw [hf.threads]; exact h2
  have hrd := rd_small hr
  have nha : (!allowedS w 18 o) = false := by rw [ha]; rfl
  have hc : inB o w.conds.length = true := by simpa [allowedS] using ha
  have hl := mx_in hf hc
  simp only [enabledS, h1, h2, ha, readyS, lockAt, thrAt, doneAt, mxAt, Bool.true_and, Int.reduceEq, Int.reduceNeg, if_true, if_false, or_self, or_true, true_or, or_false, false_or, reduceIte, reduceCtorEq] at hq
  repeat' (first | (refine h_load1 ?_; first | refine b_load_q ?_ | refine b_load_i ?_) | (refine h_faddr ?_; refine a_faddr_q ?_) | (refine h_bin ?_; first | refine a_eql ?_ | refine a_neq ?_) | (refine h_cond ?_; first | refine b_cond_t ?_ | refine b_cond_f ?_ | refine a_cond (fun h => ?_) (fun h => ?_)) | (refine h_idx ?_; refine b_idx_i ?_) | (refine h_row ?_; first | refine b_row_q ?_ | refine b_row_i ?_) | (refine h_len ?_; refine a_len_m ?_) | (refine h_calm ?_; refine b_calm ?_) | (refine h_note ?_; refine a_note ?_) | (refine h_pick ?_; refine b_pick_f ?_) | (refine h_grd ?_; refine b_grd_y ?_) | refine a_mark ?_ | ((with_reducible refine h_fn 38 ?_); refine m_call (fitsR_ok _ _ hcn) ?_) | ((with_reducible refine h_fn 61 ?_); refine m_call (in_ok _ _) ?_) | ((with_reducible refine h_fn 63 ?_); refine m_call (named_ok _ _ _) ?_) | (refine h_un ?_; refine a_not ?_) | (refine h_box ?_; refine b_box (fun nb_ hnb_ => ?_)) | (refine h_frz1 ?_; refine b_frz_p ?_) | (refine h_store ?_; refine b_store_box ?_) | refine a_alloc (fun nb_ hnb_ => ?_) | refine a_join ?_ | refine a_tt ?_)
  all_goals first | exact hq | (refine Eq.mp (congrArg (fun b => Q (AV.bool b) []) ?_) hq; clear hq; first | (have h' := of_decide_eq_true h; simp [h']; done) | (have h' := of_decide_eq_false h; simp [h']; done) | (simp [h]; done) | (simp_all; done))
theorem enabledR_19 (w : WorldD) (s : SyncD) (t o : Int) (hcn : w.conds.length < 2 ^ 62) (hr : ∀ l ∈ s.locks, l.readers.length < 2 ^ 40) (Q : AV → SH → Prop) (hq : Q (.bool (enabledS w s t 19 o)) []) (h1 : fitsS w s = true) (h2 : inB t w.threads.length = true) (ha : allowedS w 19 o = true) : ref08_Enabled_w (.agg w.enc) (.agg s.enc) (.int .i64 t) (.int .i64 19) (.int .i64 o) [] Q := by
  unfold ref08_Enabled_w
  have nh1 : (!fitsS w s) = false := by rw [h1]; rfl
  have nh2 : (!inB t w.threads.length) = false := by rw [h2]; rfl
  have hf := fitsS_iff.1 h1
  have ht' : inB t s.threads.length = true := by rw [hf.threads]; exact h2
  have hrd := rd_small hr
  have nha : (!allowedS w 19 o) = false := by rw [ha]; rfl
  have hc : inB o w.conds.length = true := by simpa [allowedS] using ha
  have hl := mx_in hf hc
  simp only [enabledS, h1, h2, ha, readyS, lockAt, thrAt, doneAt, mxAt, Bool.true_and, Int.reduceEq, Int.reduceNeg, if_true, if_false, or_self, or_true, true_or, or_false, false_or, reduceIte, reduceCtorEq] at hq
  repeat' (first | (refine h_load1 ?_; first | refine b_load_q ?_ | refine b_load_i ?_) | (refine h_faddr ?_; refine a_faddr_q ?_) | (refine h_bin ?_; first | refine a_eql ?_ | refine a_neq ?_) | (refine h_cond ?_; first | refine b_cond_t ?_ | refine b_cond_f ?_ | refine a_cond (fun h => ?_) (fun h => ?_)) | (refine h_idx ?_; refine b_idx_i ?_) | (refine h_row ?_; first | refine b_row_q ?_ | refine b_row_i ?_) | (refine h_len ?_; refine a_len_m ?_) | (refine h_calm ?_; refine b_calm ?_) | (refine h_note ?_; refine a_note ?_) | (refine h_pick ?_; refine b_pick_f ?_) | (refine h_grd ?_; refine b_grd_y ?_) | refine a_mark ?_ | ((with_reducible refine h_fn 38 ?_); refine m_call (fitsR_ok _ _ hcn) ?_) | ((with_reducible refine h_fn 61 ?_); refine m_call (in_ok _ _) ?_) | ((with_reducible refine h_fn 63 ?_); refine m_call (named_ok _ _ _) ?_) | (refine h_un ?_; refine a_not ?_) | (refine h_box ?_; refine b_box (fun nb_ hnb_ => ?_)) | (refine h_frz1 ?_; refine b_frz_p ?_) | (refine h_store ?_; refine b_store_box ?_) | refine a_alloc (fun nb_ hnb_ => ?_) | refine a_join ?_ | refine a_tt ?_)
  all_goals first | exact hq | (refine Eq.mp (congrArg (fun b => Q (AV.bool b) []) ?_) hq; clear hq; first | (have h' := of_decide_eq_true h; simp [h']; done) | (have h' := of_decide_eq_false h; simp [h']; done) | (simp [h]; done) | (simp_all; done))
theorem enabledR_20 (w : WorldD) (s : SyncD) (t o : Int) (hcn : w.conds.length < 2 ^ 62) (hr : ∀ l ∈ s.locks, l.readers.length < 2 ^ 40) (Q : AV → SH → Prop) (hq : Q (.bool (enabledS w s t 20 o)) []) (h1 : fitsS w s = true) (h2 : inB t w.threads.length = true) (ha : allowedS w 20 o = true) : ref08_Enabled_w (.agg w.enc) (.agg s.enc) (.int .i64 t) (.int .i64 20) (.int .i64 o) [] Q := by
  unfold ref08_Enabled_w
  have nh1 : (!fitsS w s) = false := by rw [h1]; rfl
  have nh2 : (!inB t w.threads.length) = false := by rw [h2]; rfl
  have hf := fitsS_iff.1 h1
  have ht' : inB t s.threads.length = true := by rw [hf.threads]; exact h2
  have hrd := rd_small hr
  have nha : (!allowedS w 20 o) = false := by rw [ha]; rfl
  have hl : inB o s.threads.length = true := by rw [hf.threads]; simpa [allowedS] using ha
  simp only [enabledS, h1, h2, ha, readyS, lockAt, thrAt, doneAt, mxAt, Bool.true_and, Int.reduceEq, Int.reduceNeg, if_true, if_false, or_self, or_true, true_or, or_false, false_or, reduceIte, reduceCtorEq] at hq
  repeat' (first | (refine h_load1 ?_; first | refine b_load_q ?_ | refine b_load_i ?_) | (refine h_faddr ?_; refine a_faddr_q ?_) | (refine h_bin ?_; first | refine a_eql ?_ | refine a_neq ?_) | (refine h_cond ?_; first | refine b_cond_t ?_ | refine b_cond_f ?_ | refine a_cond (fun h => ?_) (fun h => ?_)) | (refine h_idx ?_; refine b_idx_i ?_) | (refine h_row ?_; first | refine b_row_q ?_ | refine b_row_i ?_) | (refine h_len ?_; refine a_len_m ?_) | (refine h_pick ?_; first | refine b_pick_t ?_ | refine b_pick_f ?_) | (refine h_grd ?_; first | refine b_grd_y ?_ | refine b_grd_n ?_ | refine a_grd_t (fun h => ?_) (fun h => ?_)) | refine a_mark ?_ | ((with_reducible refine h_fn 38 ?_); refine m_call (fitsR_ok _ _ hcn) ?_) | ((with_reducible refine h_fn 61 ?_); refine m_call (in_ok _ _) ?_) | ((with_reducible refine h_fn 63 ?_); refine m_call (named_ok _ _ _) ?_) | (refine h_un ?_; refine a_not ?_) | (refine h_box ?_; refine b_box (fun nb_ hnb_ => ?_)) | (refine h_frz1 ?_; refine b_frz_p ?_) | (refine h_store ?_; refine b_store_box ?_) | refine a_alloc (fun nb_ hnb_ => ?_) | refine a_join ?_)
  all_goals first | exact hq | (refine Eq.mp (congrArg (fun b => Q (AV.bool b) []) ?_) hq; clear hq; first | (have h' := of_decide_eq_true h; simp [h']; done) | (have h' := of_decide_eq_false h; simp [h']; done) | (simp [h]; done) | (simp_all; done))
theorem enabledR_21 (w : WorldD) (s : SyncD) (t o : Int) (hcn : w.conds.length < 2 ^ 62) (hr : ∀ l ∈ s.locks, l.readers.length < 2 ^ 40) (Q : AV → SH → Prop) (hq : Q (.bool (enabledS w s t 21 o)) []) (h1 : fitsS w s = true) (h2 : inB t w.threads.length = true) (ha : allowedS w 21 o = true) : ref08_Enabled_w (.agg w.enc) (.agg s.enc) (.int .i64 t) (.int .i64 21) (.int .i64 o) [] Q := by
  unfold ref08_Enabled_w
  have nh1 : (!fitsS w s) = false := by rw [h1]; rfl
  have nh2 : (!inB t w.threads.length) = false := by rw [h2]; rfl
  have hf := fitsS_iff.1 h1
  have ht' : inB t s.threads.length = true := by rw [hf.threads]; exact h2
  have hrd := rd_small hr
  have nha : (!allowedS w 21 o) = false := by rw [ha]; rfl
  have hl : inB o s.threads.length = true := by rw [hf.threads]; simpa [allowedS] using ha
  simp only [enabledS, h1, h2, ha, readyS, lockAt, thrAt, doneAt, mxAt, Bool.true_and, Int.reduceEq, Int.reduceNeg, if_true, if_false, or_self, or_true, true_or, or_false, false_or, reduceIte, reduceCtorEq] at hq
  repeat' (first | (refine h_load1 ?_; first | refine b_load_q ?_ | refine b_load_i ?_) | (refine h_faddr ?_; refine a_faddr_q ?_) | (refine h_bin ?_; first | refine a_eql ?_ | refine a_neq ?_) | (refine h_cond ?_; first | refine b_cond_t ?_ | refine b_cond_f ?_ | refine a_cond (fun h => ?_) (fun h => ?_)) | (refine h_idx ?_; refine b_idx_i ?_) | (refine h_row ?_; first | refine b_row_q ?_ | refine b_row_i ?_) | (refine h_len ?_; refine a_len_m ?_) | (refine h_pick ?_; first | refine b_pick_t ?_ | refine b_pick_f ?_) | (refine h_grd ?_; first | refine b_grd_y ?_ | refine b_grd_n ?_ | refine a_grd_t (fun h => ?_) (fun h => ?_)) | refine a_mark ?_ | ((with_reducible refine h_fn 38 ?_); refine m_call (fitsR_ok _ _ hcn) ?_) | ((with_reducible refine h_fn 61 ?_); refine m_call (in_ok _ _) ?_) | ((with_reducible refine h_fn 63 ?_); refine m_call (named_ok _ _ _) ?_) | (refine h_un ?_; refine a_not ?_) | (refine h_box ?_; refine b_box (fun nb_ hnb_ => ?_)) | (refine h_frz1 ?_; refine b_frz_p ?_) | (refine h_store ?_; refine b_store_box ?_) | refine a_alloc (fun nb_ hnb_ => ?_) | refine a_join ?_)
  all_goals first | exact hq | (refine Eq.mp (congrArg (fun b => Q (AV.bool b) []) ?_) hq; clear hq; first | (have h' := of_decide_eq_true h; simp [h']; done) | (have h' := of_decide_eq_false h; simp [h']; done) | (simp [h]; done) | (simp_all; done))
theorem enabledR_22 (w : WorldD) (s : SyncD) (t o : Int) (hcn : w.conds.length < 2 ^ 62) (hr : ∀ l ∈ s.locks, l.readers.length < 2 ^ 40) (Q : AV → SH → Prop) (hq : Q (.bool (enabledS w s t 22 o)) []) (h1 : fitsS w s = true) (h2 : inB t w.threads.length = true) (ha : allowedS w 22 o = true) : ref08_Enabled_w (.agg w.enc) (.agg s.enc) (.int .i64 t) (.int .i64 22) (.int .i64 o) [] Q := by
  unfold ref08_Enabled_w
  have nh1 : (!fitsS w s) = false := by rw [h1]; rfl
  have nh2 : (!inB t w.threads.length) = false := by rw [h2]; rfl
  have hf := fitsS_iff.1 h1
  have ht' : inB t s.threads.length = true := by rw [hf.threads]; exact h2
  have hrd := rd_small hr
  have nha : (!allowedS w 22 o) = false := by rw [ha]; rfl
  have hl : inB o s.done.length = true := by rw [hf.done]; simpa [allowedS] using ha
  simp only [enabledS, h1, h2, ha, readyS, lockAt, thrAt, doneAt, mxAt, Bool.true_and, Int.reduceEq, Int.reduceNeg, if_true, if_false, or_self, or_true, true_or, or_false, false_or, reduceIte, reduceCtorEq] at hq
  repeat' (first | (refine h_load1 ?_; first | refine b_load_q ?_ | refine b_load_i ?_) | (refine h_faddr ?_; refine a_faddr_q ?_) | (refine h_bin ?_; first | refine a_eql ?_ | refine a_neq ?_) | (refine h_cond ?_; first | refine b_cond_t ?_ | refine b_cond_f ?_ | refine a_cond (fun h => ?_) (fun h => ?_)) | (refine h_idx ?_; refine b_idx_i ?_) | (refine h_row ?_; first | refine b_row_q ?_ | refine b_row_i ?_) | (refine h_len ?_; refine a_len_m ?_) | (refine h_pick ?_; refine b_pick_f ?_) | (refine h_grd ?_; refine b_grd_y ?_) | refine a_mark ?_ | ((with_reducible refine h_fn 38 ?_); refine m_call (fitsR_ok _ _ hcn) ?_) | ((with_reducible refine h_fn 61 ?_); refine m_call (in_ok _ _) ?_) | ((with_reducible refine h_fn 63 ?_); refine m_call (named_ok _ _ _) ?_) | (refine h_un ?_; refine a_not ?_) | (refine h_box ?_; refine b_box (fun nb_ hnb_ => ?_)) | (refine h_frz1 ?_; refine b_frz_p ?_) | (refine h_store ?_; refine b_store_box ?_) | refine a_alloc (fun nb_ hnb_ => ?_) | refine a_join ?_)
  all_goals first | exact hq | (refine Eq.mp (congrArg (fun b => Q (AV.bool b) []) ?_) hq; clear hq; first | (have h' := of_decide_eq_true h; simp [h']; done) | (have h' := of_decide_eq_false h; simp [h']; done) | (simp [h]; done) | (simp_all; done))
theorem enabledR_23 (w : WorldD) (s : SyncD) (t o : Int) (hcn : w.conds.length < 2 ^ 62) (hr : ∀ l ∈ s.locks, l.readers.length < 2 ^ 40) (Q : AV → SH → Prop) (hq : Q (.bool (enabledS w s t 23 o)) []) (h1 : fitsS w s = true) (h2 : inB t w.threads.length = true) (ha : allowedS w 23 o = true) : ref08_Enabled_w (.agg w.enc) (.agg s.enc) (.int .i64 t) (.int .i64 23) (.int .i64 o) [] Q := by
  unfold ref08_Enabled_w
  have nh1 : (!fitsS w s) = false := by rw [h1]; rfl
  have nh2 : (!inB t w.threads.length) = false := by rw [h2]; rfl
  have hf := fitsS_iff.1 h1
  have ht' : inB t s.threads.length = true := by rw [hf.threads]; exact h2
  have hrd := rd_small hr
  have nha : (!allowedS w 23 o) = false := by rw [ha]; rfl
  have hl : inB o s.done.length = true := by rw [hf.done]; simpa [allowedS] using ha
  simp only [enabledS, h1, h2, ha, readyS, lockAt, thrAt, doneAt, mxAt, Bool.true_and, Int.reduceEq, Int.reduceNeg, if_true, if_false, or_self, or_true, true_or, or_false, false_or, reduceIte, reduceCtorEq] at hq
  repeat' (first | (refine h_load1 ?_; first | refine b_load_q ?_ | refine b_load_i ?_) | (refine h_faddr ?_; refine a_faddr_q ?_) | (refine h_bin ?_; first | refine a_eql ?_ | refine a_neq ?_) | (refine h_cond ?_; first | refine b_cond_t ?_ | refine b_cond_f ?_ | refine a_cond (fun h => ?_) (fun h => ?_)) | (refine h_idx ?_; refine b_idx_i ?_) | (refine h_row ?_; first | refine b_row_q ?_ | refine b_row_i ?_) | (refine h_len ?_; refine a_len_m ?_) | (refine h_pick ?_; refine b_pick_f ?_) | (refine h_grd ?_; refine b_grd_y ?_) | refine a_mark ?_ | ((with_reducible refine h_fn 38 ?_); refine m_call (fitsR_ok _ _ hcn) ?_) | ((with_reducible refine h_fn 61 ?_); refine m_call (in_ok _ _) ?_) | ((with_reducible refine h_fn 63 ?_); refine m_call (named_ok _ _ _) ?_) | (refine h_un ?_; refine a_not ?_) | (refine h_box ?_; refine b_box (fun nb_ hnb_ => ?_)) | (refine h_frz1 ?_; refine b_frz_p ?_) | (refine h_store ?_; refine b_store_box ?_) | refine a_alloc (fun nb_ hnb_ => ?_) | refine a_join ?_)
  all_goals first | exact hq | (refine Eq.mp (congrArg (fun b => Q (AV.bool b) []) ?_) hq; clear hq; first | (have h' := of_decide_eq_true h; simp [h']; done) | (have h' := of_decide_eq_false h; simp [h']; done) | (simp [h]; done) | (simp_all; done))
theorem enabledR_w (w : WorldD) (s : SyncD) (t k o : Int) (hcn : w.conds.length < 2 ^ 62) (hr : ∀ l ∈ s.locks, l.readers.length < 2 ^ 40) (Q : AV → SH → Prop) (hq : Q (.bool (enabledS w s t k o)) []) : ref08_Enabled_w (.agg w.enc) (.agg s.enc) (.int .i64 t) (.int .i64 k) (.int .i64 o) [] Q := by
  cases hn : (fitsS w s && inB t w.threads.length && allowedS w k o) with
  | false => exact enabledR_no w s t k o hcn hr Q hq hn
  | true =>
    simp only [Bool.and_eq_true] at hn
    obtain ⟨⟨h1, h2⟩, ha⟩ := hn
    rcases kinds k with hk | rfl | rfl | rfl | rfl | rfl | rfl | rfl | rfl | rfl | rfl | rfl | rfl | rfl | rfl | rfl | rfl | rfl | rfl | rfl | rfl | rfl | rfl | rfl 
    · simp only [allowedS] at ha
      repeat (rw [if_neg (by omega)] at ha)
      cases ha
    · exact enabledR_1 w s t o hcn hr Q hq h1 h2 ha
    · exact enabledR_2 w s t o hcn hr Q hq h1 h2 ha
    · exact enabledR_3 w s t o hcn hr Q hq h1 h2 ha
    · exact enabledR_4 w s t o hcn hr Q hq h1 h2 ha
    · exact enabledR_5 w s t o hcn hr Q hq h1 h2 ha
    · exact enabledR_6 w s t o hcn hr Q hq h1 h2 ha
    · exact enabledR_7 w s t o hcn hr Q hq h1 h2 ha
    · exact enabledR_8 w s t o hcn hr Q hq h1 h2 ha
    · exact enabledR_9 w s t o hcn hr Q hq h1 h2 ha
    · exact enabledR_10 w s t o hcn hr Q hq h1 h2 ha
    · exact enabledR_11 w s t o hcn hr Q hq h1 h2 ha
    · exact enabledR_12 w s t o hcn hr Q hq h1 h2 ha
    · exact enabledR_13 w s t o hcn hr Q hq h1 h2 ha
    · exact enabledR_14 w s t o hcn hr Q hq h1 h2 ha
    · exact enabledR_15 w s t o hcn hr Q hq h1 h2 ha
    · exact enabledR_16 w s t o hcn hr Q hq h1 h2 ha
    · exact enabledR_17 w s t o hcn hr Q hq h1 h2 ha
    · exact enabledR_18 w s t o hcn hr Q hq h1 h2 ha
    · exact enabledR_19 w s t o hcn hr Q hq h1 h2 ha
    · exact enabledR_20 w s t o hcn hr Q hq h1 h2 ha
    · exact enabledR_21 w s t o hcn hr Q hq h1 h2 ha
    · exact enabledR_22 w s t o hcn hr Q hq h1 h2 ha
    · exact enabledR_23 w s t o hcn hr Q hq h1 h2 ha
theorem enabledR_ok (w : WorldD) (s : SyncD) (t k o : Int) (hcn : w.conds.length < 2 ^ 62) (hr : ∀ l ∈ s.locks, l.readers.length < 2 ^ 40) : PureA Try.prog 55 [.agg w.enc, .agg s.enc, .int .i64 t, .int .i64 k, .int .i64 o] (.bool (enabledS w s t k o)) := ref08_Enabled_ok _ _ _ _ _ _ _ (enabledR_w w s t k o hcn hr _ ⟨rfl, rfl⟩)
end Go.Proofs.Ytadjimfkfmojkaa.Am

end
section
namespace Go.Proofs.Ytadjimfkfmojkaa.Am
set_option linter.unusedVariables false
/-- a block that may not be there yet is given up -/
inductive DelO (o : Option Nat) (n : Nat) (rows : List (List AV)) : SH → SH → Prop where
  | here (R : SH) : DelO o n rows (slotB o n rows ++ R) R
  | last : DelO o n rows (slotB o n rows) []
  | there (p : Nat × Blk) {L L' : SH} : DelO o n rows L L' → DelO o n rows (p :: L) (p :: L')
  | skip (o2 : Option Nat) (n2 : Nat) (rows2 : List (List AV)) {L L' : SH} : DelO o n rows L L' → DelO o n rows (slotB o2 n2 rows2 ++ L) (slotB o2 n2 rows2 ++ L')
theorem DelO.some' {b n : Nat} {rows : List (List AV)} {L L' : SH} (h : DelO (some b) n rows L L') : Del b ⟨n, rows⟩ L L' := by
  induction h with
  | here R => exact .here R
  | last => exact .here []
  | there p h ih => exact .there p ih
  | skip o2 n2 rows2 h ih => exact ih.app _
theorem DelO.none' {n : Nat} {rows : List (List AV)} {L L' : SH} (h : DelO none n rows L L') : L = L' := by
  induction h with
  | here R => rfl
  | last => rfl
  | there p h ih => rw [ih]
  | skip o2 n2 rows2 h ih => rw [ih]
theorem DelO.perm {o : Option Nat} {n : Nat} {rows : List (List AV)} {L L' : SH} (h : DelO o n rows L L') : L.Perm (slotB o n rows ++ L') := by
  cases o with
  | none => rw [h.none']; exact .refl _
  | some b => exact h.some'.perm
theorem Del.mem' {b : Nat} {x : Blk} {L L' : SH} (h : Del b x L L') : (b, x) ∈ L := by
  induction h with
  | here L => simp
  | there p h ih => simp [ih]
section
variable {KL : AV → SH → Prop} {L L' : SH}
theorem a_app_o {o : Option Nat} {i n by_ bX k : Nat} {rows m : List (List AV)} (hX : (bX, (⟨n, m⟩ : Blk)) ∈ L) (hd : DelO o n rows L L') (hr : rows.length = i) (h0 : o = none → rows = []) (hk : k = m.length) (hm : 0 < m.length) (h2 : 2 * (i + m.length) * by_ ≤ 2 ^ 48) (h3 : 2 * (i + m.length) ≤ 2 ^ 62) (h4 : (m.all fun r => r.all AV.one) = true)
    (h : ∀ b, b ∉ L.names → KL (.sl b 0 (i + m.length)) ((b, ⟨n, rows ++ m⟩) :: L')) : W.append n by_ (slotV o i) (.sl bX 0 k) L KL := by
  subst hk
  cases o with
  | none =>
    have hr0 := h0 rfl
    subst hr0
    simp only [List.length_nil] at hr
    subst hr
    have hl := hd.none'
    subst hl
    have := a_app_e (KL := KL) (L := L) (by_ := by_) (rowsR_s hX rfl rfl) (by simpa using h2) (by simpa using h3) h4 (by show m.length ≠ 0; omega) (fun b hb => by simpa using h b hb)
    exact this
  | some b =>
    subst hr
    exact a_app_s (y := ⟨n, rows⟩) (l := rows) hd.some'.mem' rfl (by simp) (by simp) (rowsR_s hX rfl rfl) h2 h3 h4 hd.some' (fun b' hb => h b' hb)
/-- some blocks are kept, in an order of one's own -/
inductive Pick : SH → SH → Prop where
  | nil (L : SH) : Pick L []
  | one {b : Nat} {x : Blk} {L L' R : SH} : Del b x L L' → Pick L' R → Pick L ((b, x) :: R)
  | slot {o : Option Nat} {n : Nat} {rows : List (List AV)} {L L' R : SH} : DelO o n rows L L' → Pick L' R → Pick L (slotB o n rows ++ R)
  | slotl {o : Option Nat} {n : Nat} {rows : List (List AV)} {L L' : SH} : DelO o n rows L L' → Pick L (slotB o n rows)
theorem Pick.perm {L R : SH} (h : Pick L R) : ∃ K, L.Perm (K ++ R) := by
  induction h with
  | nil L => exact ⟨L, by simp⟩
  | one hd hp ih =>
    obtain ⟨K, hK⟩ := ih
    exact ⟨K, (hd.perm.trans ((hK.cons _).trans List.perm_middle.symm))⟩
  | slot hd hp ih =>
    obtain ⟨K, hK⟩ := ih
    refine ⟨K, hd.perm.trans ((hK.append_left _).trans ?_)⟩
    rw [← List.append_assoc, ← List.append_assoc]
    exact List.perm_append_comm.append_right _
  | slotl hd => exact ⟨_, hd.perm.trans List.perm_append_comm⟩
theorem FzS.pick {vs vs2 : List AV} {R : SH} (h : Pick L R) (hv : vs = vs2) : FzS vs L vs2 R := by
  subst hv
  obtain ⟨K, hK⟩ := h.perm
  exact FzS.forget hK
end
end Go.Proofs.Ytadjimfkfmojkaa.Am

end
section
namespace Go.Proofs.Ytadjimfkfmojkaa.Am
set_option linter.unusedVariables false
theorem fit0 : Fit Try.prog (fun _ => none) := ⟨fun t ts h => (by cases h), fit.names, fit.order⟩
theorem closed_pure {f : FuncId} {n : Nat} (hrun : isTrue (callBy Try.prog (exec Try.prog (fun _ => none) n) f [] Heap.empty) = true) : PureA Try.prog f [] (.bool true) := by
  have hd := (goods checkedAll).2
  have hs := callBy_sound (P := Try.prog) hd (fun c τ H e τ' H' dr hx => exec_sound fit0 hd n c τ H e τ' H' dr hx)
  cases hc : callBy Try.prog (exec Try.prog (fun _ => none) n) f [] Heap.empty with
  | none => rw [hc] at hrun; cases hrun
  | some r =>
    obtain ⟨v, H'⟩ := r
    rw [hc] at hrun
    have hv : v = .bool true := by
      unfold isTrue at hrun
      split at hrun
      · rename_i heq; cases heq; rfl
      · cases hrun
    subst hv
    have hV : CallV Try.prog f [] (.bool true) := fun w σ vs hW hvs => (hs.ok _ _ _ _ _ hc w σ vs hW hvs).mono fun e w' ⟨v', σ', he, k1, k2, k3, k4⟩ => ⟨v', σ', H', he, k1, k3⟩
    exact ⟨hs.body _ _ _ _ _ hc, fun H hb hS => ⟨.bool true, H, [], lift (.bool true) (fun i a h => by simp at h) hV H, .refl hb hS, rfl, rfl⟩⟩
set_option maxRecDepth 1000000 in
theorem awake08 : PureA Try.prog 23 [] (.bool true) := closed_pure (n := 1000) (by kernel_rfl)
end Go.Proofs.Ytadjimfkfmojkaa.Am

end
section
namespace Go.Proofs.Ytadjimfkfmojkaa.Am
set_option maxRecDepth 100000
set_option linter.unusedSimpArgs false
set_option linter.unusedVariables false
set_option linter.unusedSectionVars false
theorem a_app_sm {α : Type} {f : α → List AV} {l : List α} {b i n by_ : Nat} {rows : List (List AV)} {L L' : SH} {KL : AV → SH → Prop} (hd : Del b ⟨n, rows⟩ L L') (hn : ∀ x, (f x).length = n) (hr : rows.length = i) (h2 : 2 * (i + l.length) * by_ ≤ 2 ^ 48) (h3 : 2 * (i + l.length) ≤ 2 ^ 62) (h4 : ∀ x, (f x).all AV.one = true)
    (h : ∀ b', b' ∉ L.names → KL (.sl b' 0 (i + l.length)) ((b', ⟨n, rows ++ l.map f⟩) :: L')) : W.append n by_ (.sl b 0 i) (.lst (l.map f)) L KL := by
  have h4' : ((l.map f).all fun r => r.all AV.one) = true := by
    rw [List.all_eq_true]
    intro r hr
    obtain ⟨x, _, rfl⟩ := List.mem_map.1 hr
    exact h4 x
  subst hr
  exact a_app_s (y := ⟨n, rows⟩) (l := rows) hd.mem' rfl (by simp) (by simp) (rowsR_m hn) (by simpa using h2) (by simpa using h3) h4' hd (fun b' hb => by simpa using h b' hb)
section
variable (w : WorldD) (s : SyncD) (t o : Int) (hf : FitD w s) (ht : inB t w.threads.length = true) (hr : ∀ l ∈ s.locks, l.readers.length < 2 ^ 40) (Q : AV → SH → Prop)
include hf ht hr
end
end Go.Proofs.Ytadjimfkfmojkaa.Am

end
section
namespace Go.Proofs.Ytadjimfkfmojkaa.Am
set_option maxRecDepth 100000
set_option linter.unusedSimpArgs false
set_option linter.unusedVariables false
set_option linter.unusedSectionVars false
theorem a_slice_take {α : Type} {f : α → List AV} {l : List α} {n i : Nat} {k : IntKind} {L : SH} {K : AV → Prop} (hn : ∀ x, (f x).length = n) (hi : i ≤ l.length) (h : K (.lst ((l.take i).map f))) : W.slice n (.lst (l.map f)) none (some (.int k (i : Int))) none L K := by
  refine a_slice_l (l := 0) (h := i) rfl bound_nat (Nat.zero_le _) (by simpa using hi) (fun r hr => ?_) ?_
  · cases l with
    | nil => cases hr
    | cons x l => simp at hr; rw [← hr]; exact hn x
  · rw [List.drop_zero, Nat.sub_zero, ← List.map_take]; exact h
theorem a_slice_drop {α : Type} {f : α → List AV} {l : List α} {n i : Nat} {k : IntKind} {L : SH} {K : AV → Prop} (hn : ∀ x, (f x).length = n) (hi : i ≤ l.length) (h : K (.lst ((l.drop i).map f))) : W.slice n (.lst (l.map f)) (some (.int k (i : Int))) none none L K := by
  refine a_slice_l (l := i) (h := (l.map f).length) bound_nat rfl (by simpa using hi) (Nat.le_refl _) (fun r hr => ?_) ?_
  · cases l with
    | nil => cases hr
    | cons x l => simp at hr; rw [← hr]; exact hn x
  · rw [List.take_of_length_le (by simp), ← List.map_drop]; exact h
theorem a_app_ss {b bX i k n by_ : Nat} {rows m : List (List AV)} {L L' : SH} {KL : AV → SH → Prop} (hX : (bX, (⟨n, m⟩ : Blk)) ∈ L) (hd : Del b ⟨n, rows⟩ L L') (hr : rows.length = i) (hk : k = m.length) (h2 : 2 * (i + m.length) * by_ ≤ 2 ^ 48) (h3 : 2 * (i + m.length) ≤ 2 ^ 62) (h4 : (m.all fun r => r.all AV.one) = true)
    (h : ∀ b', b' ∉ L.names → KL (.sl b' 0 (i + m.length)) ((b', ⟨n, rows ++ m⟩) :: L')) : W.append n by_ (.sl b 0 i) (.sl bX 0 k) L KL := by
  subst hk
  subst hr
  exact a_app_s (y := ⟨n, rows⟩) (l := rows) hd.mem' rfl (by simp) (by simp) (rowsR_s hX rfl rfl) h2 h3 h4 hd (fun b' hb => h b' hb)
def lows (l : List Int) (n : Int) : List Int := l.takeWhile fun x => decide (x < n)
def highs (l : List Int) (n : Int) : List Int := l.dropWhile fun x => decide (x < n)
def putS (l : List Int) (n : Int) : List Int := if (highs l n).head? = some n then l else lows l n ++ n :: highs l n
theorem low_high (l : List Int) (n : Int) : lows l n ++ highs l n = l := List.takeWhile_append_dropWhile
theorem lows_of : ∀ (l : List Int) (n : Int) (i : Nat), (∀ x ∈ l.take i, x < n) → (∀ x, (l.drop i).head? = some x → ¬ x < n) → lows l n = l.take i ∧ highs l n = l.drop i
  | [], n, i, _, _ => by simp [lows, highs]
  | x :: l, n, 0, _, h2 => by
    have : ¬ x < n := h2 x rfl
    simp [lows, highs, this]
  | x :: l, n, i + 1, h1, h2 => by
    have hx : x < n := h1 x (by simp)
    obtain ⟨e1, e2⟩ := lows_of l n i (fun y hy => h1 y (by simp [hy])) (fun y hy => h2 y (by simpa using hy))
    unfold lows at e1 ⊢
    unfold highs at e2 ⊢
    simp [hx, e1, e2]
theorem put_ok (l : List Int) (n : Int) (hl : l.length < 2 ^ 41) : PureA Try.prog 64 [.lst (l.map intE), .int .i64 n] (.lst ((putS l n).map intE)) := by
  refine CallA.fz (ref07_Put_ok _ _ _ _ ?_)
  unfold ref07_Put_w
  generalize hQ : (fun (v : AV) (L : SH) => ∃ v2 L2, FzS [v] L [v2] L2 ∧ v2 = AV.lst ((putS l n).map intE) ∧ L2 = []) = Q
  refine for_by l.length (fun i => ([.lst (l.map intE), .int .i64 n, .int .i64 i], [])) (fun i => ∀ x ∈ l.take i, x < n) (by simp) rfl rfl ?_
  intro i hi hG
  dsimp only
  unfold ref07_Put_l0
  have fin : ∀ (b : Nat) (L : SH) (k : Nat), k = (l.take i).length + 1 + (l.drop i).length → lows l n = l.take i ∧ highs l n = l.drop i → ¬ (highs l n).head? = some n → (b, (⟨1, ((l.take i).map intE ++ [[.int .i64 n]]) ++ (l.drop i).map intE⟩ : Blk)) ∈ L → Q (.sl b 0 k) L := fun b L k hk hlh hne hm => by
    subst hQ
    have e : putS l n = l.take i ++ n :: l.drop i := by unfold putS; rw [if_neg hne, hlh.1, hlh.2]
    exact ⟨_, [], FzS.all (Fz.sls (l := putS l n) hm (by rw [e]; simp [intE]) (by decide) (by rw [hk, e]; simp; omega)), rfl, rfl⟩
  rcases Nat.lt_or_ge i l.length with g1 | g1
  · have hd := dec_lt g1
    have hx := map_at (f := intE) g1
    have htk : l.take (i + 1) = l.take i ++ [l[i]] := List.take_succ_eq_append_getElem g1
    have hhd : (l.drop i).head? = some l[i] := by rw [List.drop_eq_getElem_cons g1]; rfl
    have hlt : (l.take i).length = i := by simp; omega
    cases hc : decide (l[i] < n) with
    | true =>
      repeat' (first | (refine h_load1 ?_; refine b_load_q ?_) | (refine h_bin ?_; first | refine a_lss ?_ | refine a_add ?_) | (refine h_cond ?_; refine b_cond_t ?_) | (refine h_idx ?_; refine b_idx_n ?_) | (refine h_len ?_; refine a_len_m ?_) | (refine h_pick ?_; refine b_pick_t ?_) | (refine h_grd ?_; refine b_grd_y ?_))
      exact ⟨i + 1, by omega, by omega, fun x hx => by
        rw [htk] at hx
        rcases List.mem_append.1 hx with h | h
        · exact hG x h
        · simp at h; subst h; exact of_decide_eq_true hc, fzs_eq (by rw [i64_succ g1 (by omega)]; rfl) rfl⟩
    | false =>
      have hlh := lows_of l n i hG (fun x hx => by rw [hhd] at hx; cases hx; exact of_decide_eq_false hc)
      cases he : decide (l[i] = n) with
      | true =>
        repeat' (first | (refine h_load1 ?_; refine b_load_q ?_) | (refine h_bin ?_; first | refine a_eql ?_ | refine a_lss ?_) | (refine h_cond ?_; first | refine b_cond_t ?_ | refine b_cond_f ?_) | (refine h_idx ?_; refine b_idx_n ?_) | (refine h_len ?_; refine a_len_m ?_) | (refine h_pick ?_; refine b_pick_t ?_) | (refine h_grd ?_; refine b_grd_y ?_))
        subst hQ
        have e : putS l n = l := by unfold putS; rw [if_pos]; rw [hlh.2, hhd, of_decide_eq_true he]
        exact ⟨_, [], FzS.all (.refl _), by rw [e]; rfl, rfl⟩
      | false =>
        have hne : ¬ (highs l n).head? = some n := by rw [hlh.2, hhd]; intro h; cases h; simp at he
        repeat' (first | (refine h_load1 ?_; refine b_load_q ?_) | (refine h_bin ?_; first | refine a_eql ?_ | refine a_lss ?_) | (refine h_cond ?_; refine b_cond_f ?_) | (refine h_idx ?_; refine b_idx_n ?_) | (refine h_len ?_; refine a_len_m ?_) | (refine h_pick ?_; refine b_pick_t ?_) | (refine h_grd ?_; refine b_grd_y ?_) | refine a_slice_take (fun _ => rfl) (by omega) ?_ | refine a_slice_drop (fun _ => rfl) (by omega) ?_ | refine a_app_sm (by repeat constructor) (fun _ => rfl) (by simp) (by simp; omega) (by simp; omega) (fun _ => rfl) (fun nb_ hnb_ => ?_) | refine a_app_ss (by repeat constructor) (by repeat constructor) (by simp) (by rfl) (by simp; omega) (by simp; omega) (by rfl) (fun nb_ hnb_ => ?_) | (refine h_bslice ?_; refine b_bslice (fun nb_ hnb_ => ?_)))
        exact fin _ _ _ (by simp) hlh hne (by simp [slotOf])
  · have hd := dec_ge g1
    have hi0 : i = l.length := by omega
    have hhd : (l.drop i).head? = none := by rw [List.drop_eq_nil_of_le g1]; rfl
    have hlh := lows_of l n i hG (fun x hx => by rw [hhd] at hx; cases hx)
    have hne : ¬ (highs l n).head? = some n := by rw [hlh.2, hhd]; nofun
    repeat' (first | (refine h_bin ?_; refine a_lss ?_) | (refine h_cond ?_; refine b_cond_f ?_) | (refine h_len ?_; refine a_len_m ?_) | (refine h_pick ?_; refine b_pick_f ?_) | (refine h_grd ?_; refine b_grd_n ?_) | refine a_slice_take (fun _ => rfl) (by omega) ?_ | refine a_slice_drop (fun _ => rfl) (by omega) ?_ | refine a_app_sm (by repeat constructor) (fun _ => rfl) (by simp) (by simp; omega) (by simp; omega) (fun _ => rfl) (fun nb_ hnb_ => ?_) | refine a_app_ss (by repeat constructor) (by repeat constructor) (by simp) (by rfl) (by simp; omega) (by simp; omega) (by rfl) (fun nb_ hnb_ => ?_) | (refine h_bslice ?_; refine b_bslice (fun nb_ hnb_ => ?_)))
    exact fin _ _ _ (by simp) hlh hne (by simp [slotOf])
theorem putS_len (l : List Int) (n : Int) : (putS l n).length ≤ l.length + 1 := by
  unfold putS
  split
  · omega
  · have := congrArg List.length (low_high l n)
    simp only [List.length_append, List.length_cons] at this ⊢
    omega
theorem putS_asc {l : List Int} {n : Int} (h : l.Pairwise (· < ·)) : (putS l n).Pairwise (· < ·) := by
  unfold putS
  split
  · exact h
  · rename_i hne
    have hl := low_high l n
    rw [← hl] at h
    obtain ⟨h1, h2, h3⟩ := List.pairwise_append.1 h
    have hlow : ∀ x ∈ lows l n, x < n := fun x hx => by
      unfold lows at hx
      have := List.all_eq_true.1 (List.all_takeWhile (p := fun x => decide (x < n)) (l := l)) x hx
      exact of_decide_eq_true this
    refine List.pairwise_append.2 ⟨h1, List.pairwise_cons.2 ⟨?_, h2⟩, ?_⟩
    · cases hh : highs l n with
      | nil => intro y hy; cases hy
      | cons x r =>
        rw [hh] at hne h2
        have hx : ¬ x < n := by
          have : (highs l n).head? = some x := by rw [hh]; rfl
          unfold highs at this
          have h0 := List.head?_dropWhile_not (p := fun x => decide (x < n)) l
          rw [this] at h0
          simpa using h0
        have hxn : x ≠ n := fun e => hne (by rw [e]; rfl)
        intro y hy
        rcases List.mem_cons.1 hy with rfl | hy
        · omega
        · have := (List.pairwise_cons.1 h2).1 y hy
          omega
    · intro a ha b hb
      rcases List.mem_cons.1 hb with rfl | hb
      · exact hlow a ha
      · exact h3 a ha b hb
theorem putS_mem {l : List Int} {n x : Int} : x ∈ putS l n ↔ x ∈ l ∨ x = n := by
  unfold putS
  have hl := low_high l n
  split
  · rename_i hh
    constructor
    · exact .inl
    · rintro (h | rfl)
      · exact h
      · rw [← hl]
        exact List.mem_append_right _ (List.mem_of_mem_head? hh)
  · constructor
    · intro h
      rcases List.mem_append.1 h with h | h
      · left; rw [← hl]; exact List.mem_append_left _ h
      · rcases List.mem_cons.1 h with h | h
        · exact .inr h
        · left; rw [← hl]; exact List.mem_append_right _ h
    · rintro (h | rfl)
      · rw [← hl] at h
        rcases List.mem_append.1 h with h | h
        · exact List.mem_append_left _ h
        · exact List.mem_append_right _ (List.mem_cons_of_mem _ h)
      · exact List.mem_append_right _ List.mem_cons_self
/-- all numbers of a list put into another one -/
def puts (l m : List Int) : List Int := m.foldl putS l
theorem puts_asc : ∀ (m : List Int) {l : List Int}, l.Pairwise (· < ·) → (puts l m).Pairwise (· < ·)
  | [], _, h => h
  | x :: m, _, h => puts_asc m (putS_asc h)
theorem puts_mem : ∀ (m : List Int) {l : List Int} {x : Int}, x ∈ puts l m ↔ x ∈ l ∨ x ∈ m
  | [], l, x => by simp [puts]
  | y :: m, l, x => by
    have := puts_mem m (l := putS l y) (x := x)
    unfold puts at this ⊢
    rw [List.foldl_cons, this, putS_mem]
    simp only [List.mem_cons]
    constructor
    · rintro ((h | h) | h)
      · exact .inl h
      · exact .inr (.inl h)
      · exact .inr (.inr h)
    · rintro (h | h | h)
      · exact .inl (.inl h)
      · exact .inl (.inr h)
      · exact .inr h
theorem puts_len : ∀ (m l : List Int), (puts l m).length ≤ l.length + m.length
  | [], l => by simp [puts]
  | y :: m, l => by
    have h1 := puts_len m (putS l y)
    have h2 := putS_len l y
    unfold puts at h1 ⊢
    rw [List.foldl_cons, List.length_cons]
    omega
theorem puts_eq (m : List Int) : puts [] m = asc m := asc_ext (puts_asc m .nil) (asc_asc m) fun x => by rw [puts_mem, asc_mem]; simp
theorem puts_snoc (l m : List Int) (x : Int) : puts l (m ++ [x]) = putS (puts l m) x := by unfold puts; rw [List.foldl_append]; rfl
theorem puts_app (l m r : List Int) : puts l (m ++ r) = puts (puts l m) r := by unfold puts; rw [List.foldl_append]
/-- Union of the reference -/
theorem unionR_ok (a b : List Int) (ha : a.length < 2 ^ 40) (hb : b.length < 2 ^ 40) : PureA Try.prog 57 [.lst (a.map intE), .lst (b.map intE)] (.lst ((asc (a ++ b)).map intE)) := by
  refine CallA.fz (ref07_Union_ok _ _ _ _ ?_)
  unfold ref07_Union_w
  generalize hQ : (fun (v : AV) (L : SH) => ∃ v2 L2, FzS [v] L [v2] L2 ∧ v2 = AV.lst ((asc (a ++ b)).map intE) ∧ L2 = []) = Q
  refine loop_ex a.length (fun i (_ : Unit) => ([.lst (a.map intE), .lst (b.map intE), .lst ((puts [] (a.take i)).map intE), .int .i64 i], [])) (fun _ _ => True) () trivial (FzS.vals (.cons (.refl _) (.cons (.refl _) (.cons .nils (.cons (.refl _) .nil))))) ?_
  rintro i _ hi _
  dsimp only
  unfold ref07_Union_l3
  have hpl := puts_len (a.take i) []
  have htl : (a.take i).length ≤ a.length := by rw [List.length_take]; exact Nat.min_le_right _ _
  simp only [List.length_nil] at hpl
  rcases Nat.lt_or_ge i a.length with g1 | g1
  · have hd := dec_lt g1
    have hx := map_at (f := intE) g1
    have hp := put_ok (puts [] (a.take i)) a[i] (by omega)
    repeat' (first | (refine h_load1 ?_; refine b_load_q ?_) | (refine h_bin ?_; first | refine a_lss ?_ | refine a_add ?_) | (refine h_cond ?_; refine b_cond_t ?_) | (refine h_idx ?_; refine b_idx_n ?_) | (refine h_len ?_; refine a_len_m ?_) | refine a_mark ?_ | ((with_reducible refine h_fn 64 ?_); refine m_call (hp) ?_))
    exact ⟨i + 1, (), by omega, by omega, trivial, fzs_eq (by rw [i64_succ g1 (by omega), List.take_succ_eq_append_getElem g1, puts_snoc]; rfl) rfl⟩
  · have hd := dec_ge g1
    repeat' (first | (refine h_bin ?_; refine a_lss ?_) | (refine h_cond ?_; refine b_cond_f ?_) | (refine h_len ?_; refine a_len_m ?_))
    rw [List.take_of_length_le g1] at *
    refine for_by b.length (fun i => ([.lst (b.map intE), .lst ((puts (puts [] a) (b.take i)).map intE), .int .i64 i], [])) (fun _ => True) trivial rfl rfl ?_
    intro j hj _
    dsimp only
    unfold ref07_Union_l2
    have hpl2 := puts_len (b.take j) (puts [] a)
    have htl2 : (b.take j).length ≤ b.length := by rw [List.length_take]; exact Nat.min_le_right _ _
    rcases Nat.lt_or_ge j b.length with g2 | g2
    · have hd := dec_lt g2
      have hx := map_at (f := intE) g2
      have hp := put_ok (puts (puts [] a) (b.take j)) b[j] (by omega)
      repeat' (first | (refine h_load1 ?_; refine b_load_q ?_) | (refine h_bin ?_; first | refine a_lss ?_ | refine a_add ?_) | (refine h_cond ?_; refine b_cond_t ?_) | (refine h_idx ?_; refine b_idx_n ?_) | (refine h_len ?_; refine a_len_m ?_) | refine a_mark ?_ | ((with_reducible refine h_fn 64 ?_); refine m_call (hp) ?_))
      exact ⟨j + 1, by omega, by omega, trivial, fzs_eq (by rw [i64_succ g2 (by omega), List.take_succ_eq_append_getElem g2, puts_snoc]; rfl) rfl⟩
    · have hd := dec_ge g2
      rw [List.take_of_length_le g2, ← puts_app, puts_eq]
      repeat' (first | (refine h_bin ?_; refine a_lss ?_) | (refine h_cond ?_; refine b_cond_f ?_) | (refine h_len ?_; refine a_len_m ?_))
      subst hQ
      exact ⟨_, [], FzS.all (.refl _), rfl, rfl⟩
end Go.Proofs.Ytadjimfkfmojkaa.Am

end
section
namespace Go.Proofs.Ytadjimfkfmojkaa.Am
set_option maxRecDepth 100000
set_option linter.unusedSimpArgs false
set_option linter.unusedVariables false
/-- the indices below n where something holds -/
def wh (p : Nat → Bool) (n : Nat) : List Int := ((List.range n).filter p).map fun i : Nat => (i : Int)
theorem wh_succ (p : Nat → Bool) (n : Nat) : wh p (n + 1) = if p n then wh p n ++ [(n : Int)] else wh p n := by
  unfold wh
  rw [List.range_succ, List.filter_append, List.map_append]
  by_cases h : p n <;> simp [h]
theorem wh_len (p : Nat → Bool) (n : Nat) : (wh p n).length ≤ n := by
  unfold wh
  rw [List.length_map]
  exact Nat.le_trans (List.length_filter_le _ _) (by simp)
def ownsS (s : SyncD) (t : Int) (i : Nat) : Bool := decide ((s.locks.getD i default).owner = t)
def readsS (s : SyncD) (t : Int) (i : Nat) : Bool := (s.locks.getD i default).readers.contains t
def holdsS (w : WorldD) (s : SyncD) (t : Int) : List Int × List Int := if fitsS w s && inB t w.threads.length then (wh (ownsS s t) s.locks.length, wh (readsS s t) s.locks.length) else ([], [])
def encH (p : List Int × List Int) : AV := .tup [.lst (p.1.map intE), .lst (p.2.map intE)]
theorem fz_ints {K : SH} {o : Option Nat} {l : List Int} {n : Nat} (h0 : o = none → l = []) (hn : n = l.length) (hm : ∀ p ∈ slotB o 1 (l.map intE), p ∈ K) : Fz K (slotV o n) (.lst (l.map intE)) := by
  subst hn
  cases o with
  | none => rw [h0 rfl]; exact .emp
  | some b => exact Fz.sls (hm _ (List.mem_singleton.2 rfl)) rfl (by decide) rfl
section
variable (w : WorldD) (s : SyncD) (t : Int)
theorem holds_ok (hc : w.conds.length < 2 ^ 62) (hl : s.locks.length < 2 ^ 40) (hr : ∀ l ∈ s.locks, l.readers.length < 2 ^ 40) : PureA Try.prog 32 [.agg w.enc, .agg s.enc, .int .i64 t] (encH (holdsS w s t)) := by
  refine CallA.fz (object_Holds_ok _ _ _ _ _ ?_)
  unfold object_Holds_w
  have no : (fitsS w s && inB t w.threads.length) = false → ∀ L, ∃ v2 L2, FzS [AV.tup [.nils, .nils]] L [v2] L2 ∧ v2 = encH (holdsS w s t) ∧ L2 = [] := fun h L => by
    refine ⟨_, [], FzS.all (Fz.tups (.cons .nils (.cons .nils .nil))), ?_, rfl⟩
    unfold holdsS; rw [h]; rfl
  generalize hQ : (fun (v : AV) (L : SH) => ∃ v2 L2, FzS [v] L [v2] L2 ∧ v2 = encH (holdsS w s t) ∧ L2 = []) = Q at *
  cases h1 : fitsS w s with
  | false =>
    have nh1 : (!fitsS w s) = true := by rw [h1]; rfl
    have no := no (by rw [h1]; rfl)
    repeat' (first | (refine h_cond ?_; refine b_cond_t ?_) | (refine h_row ?_; refine b_row_q ?_) | (refine h_pick ?_; refine b_pick_t ?_) | (refine h_grd ?_; refine b_grd_n ?_) | refine a_mark ?_ | ((with_reducible refine h_fn 37 ?_); refine m_call (fits_ok _ _ hc) ?_) | (refine h_un ?_; refine a_not ?_) | (refine h_box ?_; refine b_box (fun nb_ hnb_ => ?_)) | (refine h_frz1 ?_; refine b_frz_p ?_))
    subst hQ; exact no _
  | true =>
    have nh1 : (!fitsS w s) = false := by rw [h1]; rfl
    cases h2 : inB t w.threads.length with
    | false =>
      have nh2 : (!inB t w.threads.length) = true := by rw [h2]; rfl
      have no := no (by rw [h2, Bool.and_false])
      repeat' (first | (refine h_load1 ?_; refine b_load_q ?_) | (refine h_faddr ?_; refine a_faddr_q ?_) | (refine h_cond ?_; refine b_cond_t ?_) | (refine h_row ?_; refine b_row_q ?_) | (refine h_len ?_; refine a_len_m ?_) | (refine h_pick ?_; refine b_pick_f ?_) | (refine h_grd ?_; refine b_grd_y ?_) | refine a_mark ?_ | ((with_reducible refine h_fn 37 ?_); refine m_call (fits_ok _ _ hc) ?_) | ((with_reducible refine h_fn 52 ?_); refine m_call (within_ok _ _) ?_) | (refine h_un ?_; refine a_not ?_) | (refine h_box ?_; refine b_box (fun nb_ hnb_ => ?_)) | (refine h_frz1 ?_; refine b_frz_p ?_))
      subst hQ; exact no _
    | true =>
      have nh2 : (!inB t w.threads.length) = false := by rw [h2]; rfl
      have hv : holdsS w s t = (wh (ownsS s t) s.locks.length, wh (readsS s t) s.locks.length) := by unfold holdsS; rw [h1, h2]; rfl
      clear no
      repeat' (first | (refine h_load1 ?_; refine b_load_q ?_) | (refine h_faddr ?_; refine a_faddr_q ?_) | (refine h_cond ?_; refine b_cond_f ?_) | (refine h_row ?_; refine b_row_q ?_) | (refine h_len ?_; refine a_len_m ?_) | (refine h_pick ?_; refine b_pick_f ?_) | (refine h_grd ?_; refine b_grd_y ?_) | refine a_mark ?_ | ((with_reducible refine h_fn 37 ?_); refine m_call (fits_ok _ _ hc) ?_) | ((with_reducible refine h_fn 52 ?_); refine m_call (within_ok _ _) ?_) | (refine h_un ?_; refine a_not ?_) | (refine h_box ?_; refine b_box (fun nb_ hnb_ => ?_)) | (refine h_frz1 ?_; refine b_frz_p ?_))
      refine loop_ex s.locks.length (fun i (o : Option Nat × Option Nat) => ([.int .i64 t, slotV o.1 (wh (ownsS s t) i).length, slotV o.2 (wh (readsS s t) i).length, .lst (s.locks.map LockD.enc), .int .i64 s.locks.length, .int .i64 i], slotB o.1 1 ((wh (ownsS s t) i).map intE) ++ slotB o.2 1 ((wh (readsS s t) i).map intE))) (fun i o => (o.1 = none → wh (ownsS s t) i = []) ∧ (o.2 = none → wh (readsS s t) i = [])) (none, none) ⟨fun _ => rfl, fun _ => rfl⟩ ?_ ?_
      · exact FzS.vals (.cons (.refl _) (.cons .nile (.cons .nile (.cons (.refl _) (.cons (.refl _) (.cons (.refl _) .nil))))))
      rintro i ⟨o1, o2⟩ hi ⟨ho1, ho2⟩
      dsimp only at ho1 ho2 ⊢
      unfold object_Holds_l2
      rcases Nat.lt_or_ge i s.locks.length with g1 | g1
      · have hd := dec_lt g1
        have hx := map_at (f := LockD.enc) g1
        have hrd : (s.locks[i]).readers.length < 2 ^ 62 := by have := hr _ (List.getElem_mem g1); omega
        have l1 := wh_len (ownsS s t) i
        have l2 := wh_len (readsS s t) i
        have e1 : ownsS s t i = decide ((s.locks[i]).owner = t) := by simp [ownsS, g1]
        have e2 : readsS s t i = (s.locks[i]).readers.contains t := by simp [readsS, g1]
        have s1 := wh_succ (ownsS s t) i
        have s2 := wh_succ (readsS s t) i
        rw [e1] at s1
        rw [e2] at s2
        generalize hb1 : decide ((s.locks[i]).owner = t) = c1 at *
        generalize hb2 : (s.locks[i]).readers.contains t = c2 at *
        have hco := contains_ok (s.locks[i]).readers t hrd
        rw [hb2] at hco
        have fin : ∀ (o1' o2' : Option Nat) (m1 m2 : Nat) (R1 R2 : List (List AV)) (L : SH), Pick L (slotB o1' 1 R1 ++ slotB o2' 1 R2) → (o1' = none → wh (ownsS s t) (i + 1) = []) → (o2' = none → wh (readsS s t) (i + 1) = []) → m1 = (wh (ownsS s t) (i + 1)).length → m2 = (wh (readsS s t) (i + 1)).length → R1 = (wh (ownsS s t) (i + 1)).map intE → R2 = (wh (readsS s t) (i + 1)).map intE →
            ∃ (j : Nat) (o' : Option Nat × Option Nat), i < j ∧ j ≤ s.locks.length ∧ ((o'.1 = none → wh (ownsS s t) j = []) ∧ (o'.2 = none → wh (readsS s t) j = [])) ∧ FzS [.int .i64 t, slotV o1' m1, slotV o2' m2, .lst (s.locks.map LockD.enc), .int .i64 s.locks.length, .int .i64 (IntKind.i64.wrap ((i : Int) + 1))] L
              [.int .i64 t, slotV o'.1 (wh (ownsS s t) j).length, slotV o'.2 (wh (readsS s t) j).length, .lst (s.locks.map LockD.enc), .int .i64 s.locks.length, .int .i64 j] (slotB o'.1 1 ((wh (ownsS s t) j).map intE) ++ slotB o'.2 1 ((wh (readsS s t) j).map intE)) := by
          rintro o1' o2' m1 m2 R1 R2 L hp a1 a2 rfl rfl rfl rfl
          exact ⟨i + 1, (o1', o2'), by omega, by omega, ⟨a1, a2⟩, FzS.pick hp (by rw [i64_succ g1 (by omega)])⟩
        cases c1 <;> cases c2
        all_goals
          repeat' (first | (refine h_load1 ?_; refine b_load_q ?_) | (refine h_faddr ?_; refine a_faddr_q ?_) | (refine h_bin ?_; first | refine a_eql ?_ | refine a_lss ?_ | refine a_add ?_) | (refine h_cond ?_; first | refine b_cond_t ?_ | refine b_cond_f ?_) | (refine h_idx ?_; refine b_idx_n ?_) | (refine h_row ?_; refine b_row_q ?_) | refine a_mark ?_ | refine a_app_o (by repeat constructor) (by repeat constructor) (by simp) (fun e => by first | simp [ho1 e] | simp [ho2 e]) (by rfl) (by simp) (by simp; omega) (by simp; omega) (by rfl) (fun nb_ hnb_ => ?_) | ((with_reducible refine h_fn 60 ?_); refine m_call (hco) ?_) | (refine h_frz1 ?_; refine b_frz_p ?_) | (refine h_store ?_; refine b_store_box ?_) | (refine h_bslice ?_; refine b_bslice (fun nb_ hnb_ => ?_)) | refine a_alloc (fun nb_ hnb_ => ?_) | refine a_join ?_)
        · exact fin o1 o2 _ _ _ _ _ (by repeat constructor) (by rw [s1]; exact ho1) (by rw [s2]; exact ho2) (by simp [s1, slotOf]) (by simp [s2, slotOf]) (by simp [s1]) (by simp [s2])
        · exact fin o1 (some _) _ _ _ _ _ (by repeat constructor) (by rw [s1]; exact ho1) nofun (by simp [s1, slotOf]) (by simp [s2]) (by simp [s1]) (by simp [s2, intE, slotOf])
        · exact fin (some _) o2 _ _ _ _ _ (by repeat constructor) nofun (by rw [s2]; exact ho2) (by simp [s1]) (by simp [s2, slotOf]) (by simp [s1, intE, slotOf]) (by simp [s2])
        · exact fin (some _) (some _) _ _ _ _ _ (by repeat constructor) nofun nofun (by simp [s1]) (by simp [s2]) (by simp [s1, intE, slotOf]) (by simp [s2, intE, slotOf])
      · have hd := dec_ge g1
        have hi0 : i = s.locks.length := by omega
        subst hi0
        repeat' (first | (refine h_bin ?_; refine a_lss ?_) | (refine h_cond ?_; refine b_cond_f ?_))
        subst hQ
        refine ⟨_, [], FzS.all (Fz.tups (.cons (fz_ints ho1 rfl ?_) (.cons (fz_ints ho2 rfl ?_) .nil))), ?_, rfl⟩
        · intro p hp; simp [hp]
        · intro p hp; simp [hp]
        · rw [hv]; rfl
end
end Go.Proofs.Ytadjimfkfmojkaa.Am

end
section
namespace Go.Proofs.Ytadjimfkfmojkaa.Am
set_option maxRecDepth 100000
set_option linter.unusedSimpArgs false
set_option linter.unusedVariables false
set_option linter.unusedSectionVars false
/-- what is left when some blocks are picked out -/
inductive Rest : SH → SH → SH → Prop where
  | nil (L : SH) : Rest L [] L
  | one {b : Nat} {x : Blk} {L L' R K : SH} : Del b x L L' → Rest L' R K → Rest L ((b, x) :: R) K
  | slot {o : Option Nat} {n : Nat} {rows : List (List AV)} {L L' R K : SH} : DelO o n rows L L' → Rest L' R K → Rest L (slotB o n rows ++ R) K
theorem Rest.perm {L R K : SH} (h : Rest L R K) : L.Perm (K ++ R) := by
  induction h with
  | nil L => simp
  | one hd hp ih => exact (hd.perm.trans ((ih.cons _).trans List.perm_middle.symm))
  | slot hd hp ih =>
    refine hd.perm.trans ((ih.append_left _).trans ?_)
    rw [← List.append_assoc, ← List.append_assoc]
    exact List.perm_append_comm.append_right _
theorem FzS.pickE {vs vs2 : List AV} {L R R2 : SH} (h : Pick L R) (hv : vs = vs2) (hR : R = R2) : FzS vs L vs2 R2 := by
  subst hR
  exact FzS.pick h hv
theorem withoutR_ok (l : List Int) (n : Int) (hl : l.length < 2 ^ 40) : PureA Try.prog 58 [.lst (l.map intE), .int .i64 n] (.lst ((l.filter fun y => !decide (y = n)).map intE)) := by
  refine CallA.fz (ref08_without_ok _ _ _ _ ?_)
  unfold ref08_without_w
  generalize hQ : (fun (v : AV) (L : SH) => ∃ v2 L2, FzS [v] L [v2] L2 ∧ v2 = AV.lst ((l.filter fun y => !decide (y = n)).map intE) ∧ L2 = []) = Q
  refine loop_ex l.length (fun i (o : Option Nat) => ([.lst (l.map intE), .int .i64 n, slotV o ((l.take i).filter fun y => !decide (y = n)).length, .int .i64 i], slotB o 1 (((l.take i).filter fun y => !decide (y = n)).map intE))) (fun i o => o = none → ((l.take i).filter fun y => !decide (y = n)) = []) none (fun _ => rfl) (FzS.vals (.cons (.refl _) (.cons (.refl _) (.cons .nile (.cons (.refl _) .nil))))) ?_
  intro i o hi ho
  dsimp only
  unfold ref08_without_l0
  have hle : ((l.take i).filter fun y => !decide (y = n)).length ≤ i := Nat.le_trans (List.length_filter_le _ _) (by simp; omega)
  rcases Nat.lt_or_ge i l.length with g1 | g1
  · have hd := dec_lt g1
    have hx := map_at (f := intE) g1
    have htk : ((l.take (i + 1)).filter fun y => !decide (y = n)) = if l[i] = n then ((l.take i).filter fun y => !decide (y = n)) else ((l.take i).filter fun y => !decide (y = n)) ++ [l[i]] := by
      rw [List.take_succ_eq_append_getElem g1, List.filter_append]
      by_cases h : l[i] = n <;> simp [h]
    by_cases h : l[i] = n
    · have h1 : decide (l[i] ≠ n) = false := decide_eq_false (fun e => e h)
      rw [if_pos h] at htk
      repeat' (first | (refine h_load1 ?_; refine b_load_q ?_) | (refine h_bin ?_; first | refine a_lss ?_ | refine a_neq ?_ | refine a_add ?_) | (refine h_cond ?_; first | refine b_cond_t ?_ | refine b_cond_f ?_) | (refine h_idx ?_; refine b_idx_n ?_) | (refine h_len ?_; refine a_len_m ?_))
      exact ⟨i + 1, o, by omega, by omega, by rw [htk]; exact ho, fzs_eq (by rw [i64_succ g1 (by omega), htk]; rfl) (by rw [htk])⟩
    · have h1 : decide (l[i] ≠ n) = true := decide_eq_true h
      rw [if_neg h] at htk
      repeat' (first | (refine h_load1 ?_; refine b_load_q ?_) | (refine h_bin ?_; first | refine a_lss ?_ | refine a_neq ?_ | refine a_add ?_) | (refine h_cond ?_; refine b_cond_t ?_) | (refine h_idx ?_; refine b_idx_n ?_) | (refine h_len ?_; refine a_len_m ?_) | refine a_app_o (by repeat constructor) (by repeat constructor) (by simp) (fun e => by first | simp [ho e]) (by rfl) (by simp) (by simp; omega) (by simp; omega) (by rfl) (fun nb_ hnb_ => ?_) | (refine h_bslice ?_; refine b_bslice (fun nb_ hnb_ => ?_)))
      exact ⟨i + 1, some nb_, by omega, by omega, nofun, FzS.pickE (R := [(nb_, _)]) (by repeat constructor) (by rw [i64_succ g1 (by omega), htk]; simp [slotOf, slotV]) (by rw [htk]; simp [slotB, intE])⟩
  · have hd := dec_ge g1
    repeat' (first | (refine h_bin ?_; refine a_lss ?_) | (refine h_cond ?_; refine b_cond_f ?_) | (refine h_len ?_; refine a_len_m ?_))
    subst hQ
    rw [List.take_of_length_le g1] at *
    exact ⟨_, [], FzS.all (fz_ints ho rfl (fun p hp => hp)), rfl, rfl⟩
theorem waitingR_ok (a b d : AV) (bt : Nat) (T : List ThrD) (c : Int) (hT : T.length < 2 ^ 40) (hbox : ([a, b, d, .sl bt 0 T.length] : List AV).all AV.one = true) :
    CallA Try.prog 59 [.agg [a, b, d, .sl bt 0 T.length], .int .i64 c] [(bt, ⟨3, T.map ThrD.enc⟩)] fun v L => v = .lst ((wh (waitsAt T c) T.length).map intE) ∧ L = [(bt, ⟨3, T.map ThrD.enc⟩)] := by
  refine CallA.fz (ref08_Waiting_ok _ _ _ _ ?_)
  unfold ref08_Waiting_w
  generalize hQ : (fun (v : AV) (L : SH) => ∃ v2 L2, FzS [v] L [v2] L2 ∧ v2 = AV.lst ((wh (waitsAt T c) T.length).map intE) ∧ L2 = [(bt, (⟨3, T.map ThrD.enc⟩ : Blk))]) = Q
  repeat' (first | refine a_box rfl hbox (fun nb_ hnb_ => ?_) | (refine h_frz1 ?_; refine b_frz_p ?_))
  refine loop_ex T.length (fun i (o : Option Nat) => ([.int .i64 c, .pptr [[a, b, d, .sl bt 0 T.length]] 0 0, slotV o (wh (waitsAt T c) i).length, .int .i64 i], (bt, ⟨3, T.map ThrD.enc⟩) :: slotB o 1 ((wh (waitsAt T c) i).map intE))) (fun i o => o = none → wh (waitsAt T c) i = []) none (fun _ => rfl) (FzS.vals (.cons (.refl _) (.cons (.refl _) (.cons .nile (.cons (.refl _) .nil))))) ?_
  intro i o hi ho
  dsimp only
  unfold ref08_Waiting_l0
  have hle := wh_len (waitsAt T c) i
  rcases Nat.lt_or_ge i T.length with g1 | g1
  · have hd := dec_lt g1
    have hx := map_at (f := ThrD.enc) g1
    have e1 : waitsAt T c i = (decide (T[i].status = 3) && decide (T[i].cond = c)) := by simp [waitsAt, waitsS, g1]
    have s1 := wh_succ (waitsAt T c) i
    rw [e1] at s1
    have skip : (decide (T[i].status = 3) && decide (T[i].cond = c)) = false → ∃ j o', i < j ∧ j ≤ T.length ∧ (o' = none → wh (waitsAt T c) j = []) ∧ FzS [.int .i64 c, .pptr [[a, b, d, .sl bt 0 T.length]] 0 0, slotV o (wh (waitsAt T c) i).length, .int .i64 (IntKind.i64.wrap ((i : Int) + 1))] ((bt, ⟨3, T.map ThrD.enc⟩) :: slotB o 1 ((wh (waitsAt T c) i).map intE))
        [.int .i64 c, .pptr [[a, b, d, .sl bt 0 T.length]] 0 0, slotV o' (wh (waitsAt T c) j).length, .int .i64 j] ((bt, ⟨3, T.map ThrD.enc⟩) :: slotB o' 1 ((wh (waitsAt T c) j).map intE)) := fun h => by
      rw [h] at s1
      simp only [Bool.false_eq_true, if_false] at s1
      exact ⟨i + 1, o, by omega, by omega, by rw [s1]; exact ho, fzs_eq (by rw [i64_succ g1 (by omega), s1]) (by rw [s1])⟩
    cases h1 : decide (T[i].status = 3) with
    | false =>
      have sk := skip (by rw [h1]; rfl)
      repeat' (first | (refine h_load1 ?_; first | refine b_load_q ?_ | refine b_load_p ?_) | (refine h_faddr ?_; first | refine a_faddr_q ?_ | refine a_faddr_p ?_) | (refine h_bin ?_; first | refine a_eql ?_ | refine a_lss ?_ | refine a_add ?_) | (refine h_cond ?_; first | refine b_cond_t ?_ | refine b_cond_f ?_) | (refine h_idx ?_; refine b_idx_sn ?_) | (refine h_len ?_; refine a_len_s ?_) | (refine h_pick ?_; refine b_pick_f ?_) | (refine h_grd ?_; refine b_grd_n ?_))
      exact sk
    | true =>
      cases h2 : decide (T[i].cond = c) with
      | false =>
        have sk := skip (by rw [h1, h2]; rfl)
        repeat' (first | (refine h_load1 ?_; first | refine b_load_q ?_ | refine b_load_p ?_) | (refine h_faddr ?_; first | refine a_faddr_q ?_ | refine a_faddr_p ?_) | (refine h_bin ?_; first | refine a_eql ?_ | refine a_lss ?_ | refine a_add ?_) | (refine h_cond ?_; first | refine b_cond_t ?_ | refine b_cond_f ?_) | (refine h_idx ?_; refine b_idx_sn ?_) | (refine h_len ?_; refine a_len_s ?_) | (refine h_pick ?_; refine b_pick_t ?_) | (refine h_grd ?_; refine b_grd_y ?_))
        exact sk
      | true =>
        rw [h1, h2] at s1
        simp only [Bool.and_self, if_true] at s1
        repeat' (first | (refine h_load1 ?_; first | refine b_load_q ?_ | refine b_load_p ?_) | (refine h_faddr ?_; first | refine a_faddr_q ?_ | refine a_faddr_p ?_) | (refine h_bin ?_; first | refine a_eql ?_ | refine a_lss ?_ | refine a_add ?_) | (refine h_cond ?_; refine b_cond_t ?_) | (refine h_idx ?_; refine b_idx_sn ?_) | (refine h_len ?_; refine a_len_s ?_) | (refine h_pick ?_; refine b_pick_t ?_) | (refine h_grd ?_; refine b_grd_y ?_) | refine a_app_o (by repeat constructor) (by repeat constructor) (by simp) (fun e => by first | simp [ho e]) (by rfl) (by simp) (by simp; omega) (by simp; omega) (by rfl) (fun nb_ hnb_ => ?_) | (refine h_bslice ?_; refine b_bslice (fun nb_ hnb_ => ?_)))
        exact ⟨i + 1, some nb_, by omega, by omega, nofun, FzS.pickE (R := [(bt, _), (nb_, _)]) (by repeat constructor) (by rw [i64_succ g1 (by omega), s1]; simp [slotOf, slotV]) (by rw [s1]; simp [slotB, intE, slotOf])⟩
  · have hd := dec_ge g1
    have hi0 : i = T.length := by omega
    subst hi0
    repeat' (first | (refine h_load1 ?_; refine b_load_q ?_) | (refine h_faddr ?_; refine a_faddr_q ?_) | (refine h_bin ?_; refine a_lss ?_) | (refine h_cond ?_; refine b_cond_f ?_) | (refine h_len ?_; refine a_len_s ?_))
    subst hQ
    refine ⟨_, [(bt, ⟨3, T.map ThrD.enc⟩)], ?_, rfl, rfl⟩
    refine ⟨slotB o 1 ((wh (waitsAt T c) T.length).map intE), [(bt, ⟨3, T.map ThrD.enc⟩)], List.perm_append_comm (l₁ := [(bt, (⟨3, T.map ThrD.enc⟩ : Blk))]), ⟨rfl, fun i a a2 h1 h2 => ?_⟩, rfl, fun i p q h1 h2 => ?_⟩
    · match i with
      | 0 => cases h1; cases h2; exact fz_ints ho rfl (fun p hp => hp)
      | i + 1 => simp at h1
    · rw [h1] at h2; cases h2
      exact ⟨rfl, rfl, rfl, fun j r r2 h3 h4 => by rw [h3] at h4; cases h4; exact ⟨rfl, fun k a a2 h5 h6 => by rw [h5] at h6; cases h6; exact .refl _⟩⟩
end Go.Proofs.Ytadjimfkfmojkaa.Am

end
section
namespace Go.Proofs.Ytadjimfkfmojkaa.Am
set_option maxRecDepth 100000
set_option linter.unusedSimpArgs false
set_option linter.unusedVariables false
set_option linter.unusedSectionVars false
/-- the rows of one block, wherever it stands, are read anew -/
theorem FzS.rowA {vs vs2 : List AV} {L A R K : SH} {b n : Nat} {rows rows' : List (List AV)} (h : Rest L (A ++ (b, ⟨n, rows⟩) :: R) K) (hlen : rows.length = rows'.length) (hr : ∀ (j : Nat) (r r' : List AV), rows[j]? = some r → rows'[j]? = some r' → FzL K r r') (hv : vs = vs2) : FzS vs L vs2 (A ++ (b, ⟨n, rows'⟩) :: R) := by
  subst hv
  refine ⟨K, _, h.perm, ⟨rfl, fun i a a2 h1 h2 => by rw [h1] at h2; cases h2; exact .refl _⟩, by simp, fun i p q h1 h2 => ?_⟩
  have same : p = q → p.1 = q.1 ∧ p.2.size = q.2.size ∧ p.2.rows.length = q.2.rows.length ∧ ∀ (j : Nat) (r r2 : List AV), p.2.rows[j]? = some r → q.2.rows[j]? = some r2 → r.length = r2.length ∧ ∀ (k : Nat) (a a2 : AV), r[k]? = some a → r2[k]? = some a2 → Fz K a a2 := fun e => by
    subst e
    exact ⟨rfl, rfl, rfl, fun j r r2 h3 h4 => by rw [h3] at h4; cases h4; exact ⟨rfl, fun k a a2 h5 h6 => by rw [h5] at h6; cases h6; exact .refl _⟩⟩
  rcases Nat.lt_or_ge i A.length with hi | hi
  · rw [List.getElem?_append_left hi] at h1 h2
    rw [h1] at h2; cases h2
    exact same rfl
  · rw [List.getElem?_append_right hi] at h1 h2
    generalize i - A.length = k at h1 h2
    match k with
    | 0 =>
      cases h1; cases h2
      exact ⟨rfl, rfl, hlen, fun j r r' g1 g2 => (hr j r r' g1 g2).at_⟩
    | k + 1 =>
      simp only [List.getElem?_cons_succ] at h1 h2
      rw [h1] at h2; cases h2
      exact same rfl
theorem copyR_ok (s : SyncD) (h1 : s.locks.length < 2 ^ 40) (h2 : s.done.length < 2 ^ 40) (h3 : s.threads.length < 2 ^ 40) (hrd : ∀ l ∈ s.locks, l.readers.length < 2 ^ 40) :
    CallA Try.prog 56 [.agg s.enc] [] fun v L => ∃ (ol : Option Nat) (bd bt : Nat), v = .agg [slotV ol s.locks.length, .int .i64 s.tx, .sl bd 0 s.done.length, .sl bt 0 s.threads.length] ∧ L = slotB ol 2 (s.locks.map LockD.enc) ++ [(bt, ⟨3, s.threads.map ThrD.enc⟩), (bd, ⟨1, s.done.map boolE⟩)] ∧ (ol = none → s.locks = []) := by
  refine CallA.fz (ref08_Copy_ok _ _ _ ?_)
  unfold ref08_Copy_w
  generalize hQ : (fun (v : AV) (L : SH) => ∃ v2 L2, FzS [v] L [v2] L2 ∧ ∃ (ol : Option Nat) (bd bt : Nat), v2 = .agg [slotV ol s.locks.length, .int .i64 s.tx, .sl bd 0 s.done.length, .sl bt 0 s.threads.length] ∧ L2 = slotB ol 2 (s.locks.map LockD.enc) ++ [(bt, (⟨3, s.threads.map ThrD.enc⟩ : Blk)), (bd, ⟨1, s.done.map boolE⟩)] ∧ (ol = none → s.locks = [])) = Q
  repeat' (first | (refine h_load1 ?_; refine b_load_q ?_) | (refine h_faddr ?_; refine a_faddr_q ?_) | (refine h_calm ?_; refine b_calm ?_) | (refine h_note ?_; refine a_note ?_) | refine a_app_sm (by repeat constructor) (fun _ => rfl) (by rfl) (by simp; omega) (by simp; omega) (fun _ => rfl) (fun nb_ hnb_ => ?_) | (refine h_box ?_; refine b_box (fun nb_ hnb_ => ?_)) | (refine h_frz1 ?_; refine b_frz_p ?_) | (refine h_store ?_; refine b_store_box ?_) | (refine h_bslice ?_; refine b_bslice (fun nb_ hnb_ => ?_)) | refine a_alloc (fun nb_ hnb_ => ?_) | refine b_build ?_ | refine a_tt ?_)
  rename_i a5 _ b2 _ a3 _ bd _ a1 _ bt _
  rw [Nat.zero_add, Nat.zero_add]
  revert nb_
  intro b3 _
  refine loop_ex s.locks.length (fun i (o : Option Nat) => ([.pptr [s.enc] 0 0, .ptr b2 0 0, .ptr b3 0 0, .int .i64 i], (b3, ⟨4, [[slotV o i, .int .i64 s.tx, .sl bd 0 s.done.length, .sl bt 0 s.threads.length]]⟩) :: (bt, ⟨3, s.threads.map ThrD.enc⟩) :: (bd, ⟨1, s.done.map boolE⟩) :: (b2, ⟨4, [[.nils, .int .i64 0, .nils, .nils]]⟩) :: slotB o 2 ((s.locks.take i).map LockD.enc))) (fun i o => o = none → i = 0) none (fun _ => rfl) (FzS.box (K := []) (.refl _) (.cons .nile (.cons (.refl _) (.cons (.refl _) (.cons (.refl _) .nil))))) ?_
  intro i o hi ho
  dsimp only
  unfold ref08_Copy_l0
  have hlen : ((s.locks.take i).map LockD.enc).length = i := by simp; omega
  have h0 : o = none → (s.locks.take i).map LockD.enc = [] := fun e => by rw [ho e]; rfl
  rcases Nat.lt_or_ge i s.locks.length with g1 | g1
  · have hd := dec_lt g1
    have hx := map_at (f := LockD.enc) g1
    have hr := hrd _ (List.getElem_mem g1)
    repeat' (first | (refine h_load1 ?_; first | refine b_load_q ?_ | refine b_load_p ?_) | (refine h_faddr ?_; first | refine a_faddr_q ?_ | refine a_faddr_p ?_) | (refine h_bin ?_; first | refine a_lss ?_ | refine a_add ?_) | (refine h_cond ?_; refine b_cond_t ?_) | (refine h_idx ?_; refine b_idx_n ?_) | (refine h_len ?_; refine a_len_m ?_) | (refine h_calm ?_; refine b_calm ?_) | (refine h_note ?_; refine a_note ?_) | refine a_app_sm (by repeat constructor) (fun _ => rfl) (by rfl) (by simp; omega) (by simp; omega) (fun _ => rfl) (fun nb_ hnb_ => ?_) | refine a_app_o (by repeat constructor) (by repeat constructor) hlen h0 (by rfl) (by simp) (by simp; omega) (by simp; omega) (by rfl) (fun nb_ hnb_ => ?_) | (refine h_store ?_; refine b_store_one ?_) | (refine h_bslice ?_; refine b_bslice (fun nb_ hnb_ => ?_)) | refine b_build ?_ | refine a_tt ?_)
    rename_i br _ _ _
    refine ⟨i + 1, some nb_, by omega, by omega, nofun, ?_⟩
    refine FzS.rowA (A := [(b3, _), (bt, _), (bd, _), (b2, _)]) (b := nb_) (R := []) (rows' := (s.locks.take (i + 1)).map LockD.enc) (by repeat constructor) ?_ ?_ (by rw [i64_succ g1 (by omega)]; rfl)
    · simp; omega
    · intro j r r' q1 q2
      rw [List.take_succ_eq_append_getElem g1, List.map_append] at q2
      rcases Nat.lt_or_ge j i with hj | hj
      · rw [List.getElem?_append_left (by rw [hlen]; exact hj)] at q1 q2
        rw [q1] at q2; cases q2
        exact FzL.refl _ _
      · rw [List.getElem?_append_right (by rw [hlen]; exact hj), hlen] at q1 q2
        generalize j - i = k at q1 q2
        match k with
        | 0 =>
          cases q1; cases q2
          exact .cons (.refl _) (.cons (Fz.sls (l := s.locks[i].readers) (by repeat constructor) rfl (by decide) (by simp)) .nil)
        | k + 1 => simp at q1
  · have hd := dec_ge g1
    have hi0 : i = s.locks.length := by omega
    subst hi0
    rw [List.take_of_length_le (Nat.le_refl _)]
    have ho2 : o = none → s.locks = [] := fun e => List.length_eq_zero_iff.1 (ho e)
    cases o with
    | none =>
      dsimp only [slotV, slotB]
      repeat' (first | (refine h_load1 ?_; refine b_load_q ?_) | (refine h_faddr ?_; refine a_faddr_q ?_) | (refine h_bin ?_; refine a_lss ?_) | (refine h_cond ?_; refine b_cond_f ?_) | (refine h_row ?_; refine b_row_p ?_) | (refine h_len ?_; refine a_len_m ?_) | (refine h_store ?_; refine b_store_box ?_))
      subst hQ
      exact ⟨_, _, FzS.pick (R := [(bt, _), (bd, _)]) (by repeat constructor) rfl, none, bd, bt, rfl, rfl, ho2⟩
    | some bl =>
      dsimp only [slotV, slotB]
      repeat' (first | (refine h_load1 ?_; refine b_load_q ?_) | (refine h_faddr ?_; refine a_faddr_q ?_) | (refine h_bin ?_; refine a_lss ?_) | (refine h_cond ?_; refine b_cond_f ?_) | (refine h_row ?_; refine b_row_p ?_) | (refine h_len ?_; refine a_len_m ?_) | (refine h_store ?_; refine b_store_box ?_))
      subst hQ
      exact ⟨_, _, FzS.pick (R := [(bl, _), (bt, _), (bd, _)]) (by repeat constructor) rfl, some bl, bd, bt, rfl, rfl, ho2⟩
end Go.Proofs.Ytadjimfkfmojkaa.Am

end
section
namespace Go.Proofs.Ytadjimfkfmojkaa.Am
set_option maxRecDepth 100000
set_option linter.unusedSimpArgs false
set_option linter.unusedVariables false
set_option linter.unusedSectionVars false
theorem slotV_one (o : Option Nat) (n : Nat) : (slotV o n).one = true := by cases o <;> rfl
theorem boxR_one {ol : Option Nat} {n m k bd bt : Nat} {tx : Int} : ([slotV ol n, .int .i64 tx, .sl bd 0 m, .sl bt 0 k] : List AV).all AV.one = true := by
  show ((slotV ol n).one && (true && (true && (true && true)))) = true
  rw [slotV_one]; rfl
theorem fz_lk {ol : Option Nat} {ls : List LockD} {L : SH} (h0 : ol = none → ls = []) (hm : ∀ p ∈ slotB ol 2 (ls.map LockD.enc), p ∈ L) : Fz L (slotV ol ls.length) (.lst (ls.map LockD.enc)) := by
  cases ol with
  | none => rw [h0 rfl]; exact .emp
  | some b => exact Fz.sls (hm _ (List.mem_singleton.2 rfl)) rfl (by decide) rfl
section
variable (w : WorldD) (s : SyncD) (t o wake : Int) (b7 b12 bd bt : Nat) (ol : Option Nat)
/-- the heap behind Copy -/
def apR : SH := (bt, ⟨3, s.threads.map ThrD.enc⟩) :: (bd, ⟨1, s.done.map boolE⟩) :: (b12, ⟨4, [[.nils, .int .i64 0, .nils, .nils]]⟩) :: (b7, ⟨4, [s.enc]⟩) :: slotB ol 2 (s.locks.map LockD.enc)
def agR (s : SyncD) (bd bt : Nat) (ol : Option Nat) : AV := .agg [slotV ol s.locks.length, .int .i64 s.tx, .sl bd 0 s.done.length, .sl bt 0 s.threads.length]
/-- what an end must show -/
def EndsR (k : Int) (Q : AV → SH → Prop) : Prop := ∀ (tx val : Int) (ls : List LockD) (dn : List Bool) (th : List ThrD) (L : SH), Fz L (slotV ol s.locks.length) (.lst (ls.map LockD.enc)) → Fz L (.sl bt 0 s.threads.length) (.lst (th.map ThrD.enc)) → Fz L (.sl bd 0 s.done.length) (.lst (dn.map boolE)) →
  applyS w s t k o wake = (⟨ls, tx, dn, th⟩, val) → Q (.tup [.agg [slotV ol s.locks.length, .int .i64 tx, .sl bd 0 s.done.length, .sl bt 0 s.threads.length], .int .i64 val, .bool true]) L
variable (Q : AV → SH → Prop) (hf : FitD w s) (ht : inB t w.threads.length = true) (hol : ol = none → s.locks = [])
include hf ht hol
theorem apr_1 (ha : allowedS w 1 o = true) (hq : EndsR w s t o wake bd bt ol 1 Q) : ref08_Apply_c10 (.ptr b7 0 0) Q (.int .i64 1) (.int .i64 t) (.ptr b12 0 0) (.int .i64 o) (.int .i64 wake) (.pptr [w.enc] 0 0) (agR s bd bt ol) (apR s b7 b12 bd bt ol) := by
  unfold ref08_Apply_c10
  unfold agR apR
  have ht' : inB t s.threads.length = true := by rw [hf.threads]; exact ht
  have hy := thr_get ht'
  obtain ⟨t0, t1⟩ := inB_iff.1 ht'
  have hb2 : ∀ tx : Int, ([slotV ol s.locks.length, .int .i64 tx, .sl bd 0 s.done.length, .sl bt 0 s.threads.length] : List AV).all AV.one = true := fun tx => boxR_one
  repeat' (first | (refine h_load1 ?_; refine b_load_p ?_) | (refine h_faddr ?_; refine a_faddr_p ?_) | (refine h_bin ?_; refine a_eql ?_) | (refine h_cond ?_; refine b_cond_t ?_) | (refine h_idx ?_; refine b_idx_s ?_) | (refine h_row ?_; refine b_row_p ?_) | refine a_store_box (by repeat constructor) rfl rfl (hb2 _) rfl ?_ | (refine h_store ?_; refine b_store_one ?_) | refine a_join ?_)
  exact hq _ _ (s.locks) s.done (setThr s t fun x => { x with status := 2 }) _ (fz_lk hol (fun p hp => by simp only [List.mem_cons, List.mem_append]; simp [hp])) (Fz.sls (by repeat constructor) (thr_rows rfl) (by simp) (by simp [setThr])) (Fz.sls (by repeat constructor) rfl (by simp) rfl) (by simp only [applyS, Int.reduceEq, Int.reduceNeg, if_true, if_false, or_self, or_true, true_or, or_false, false_or, reduceIte, reduceCtorEq])
theorem apr_2 (ha : allowedS w 2 o = true) (hq : EndsR w s t o wake bd bt ol 2 Q) : ref08_Apply_c10 (.ptr b7 0 0) Q (.int .i64 2) (.int .i64 t) (.ptr b12 0 0) (.int .i64 o) (.int .i64 wake) (.pptr [w.enc] 0 0) (agR s bd bt ol) (apR s b7 b12 bd bt ol) := by
  unfold ref08_Apply_c10
  unfold agR apR
  have ht' : inB t s.threads.length = true := by rw [hf.threads]; exact ht
  have hy := thr_get ht'
  obtain ⟨t0, t1⟩ := inB_iff.1 ht'
  have hb2 : ∀ tx : Int, ([slotV ol s.locks.length, .int .i64 tx, .sl bd 0 s.done.length, .sl bt 0 s.threads.length] : List AV).all AV.one = true := fun tx => boxR_one
  repeat' (first | (refine h_load1 ?_; refine b_load_p ?_) | (refine h_faddr ?_; refine a_faddr_p ?_) | (refine h_bin ?_; refine a_eql ?_) | (refine h_cond ?_; first | refine b_cond_t ?_ | refine b_cond_f ?_) | (refine h_idx ?_; refine b_idx_s ?_) | (refine h_row ?_; refine b_row_p ?_) | refine a_store_box (by repeat constructor) rfl rfl (hb2 _) rfl ?_ | (refine h_store ?_; refine b_store_one ?_) | refine a_join ?_)
  exact hq _ _ (s.locks) s.done (setThr s t fun x => { x with status := 5 }) _ (fz_lk hol (fun p hp => by simp only [List.mem_cons, List.mem_append]; simp [hp])) (Fz.sls (by repeat constructor) (thr_rows rfl) (by simp) (by simp [setThr])) (Fz.sls (by repeat constructor) rfl (by simp) rfl) (by simp only [applyS, Int.reduceEq, Int.reduceNeg, if_true, if_false, or_self, or_true, true_or, or_false, false_or, reduceIte, reduceCtorEq])
theorem apr_3 (ha : allowedS w 3 o = true) (hq : EndsR w s t o wake bd bt ol 3 Q) : ref08_Apply_c10 (.ptr b7 0 0) Q (.int .i64 3) (.int .i64 t) (.ptr b12 0 0) (.int .i64 o) (.int .i64 wake) (.pptr [w.enc] 0 0) (agR s bd bt ol) (apR s b7 b12 bd bt ol) := by
  unfold ref08_Apply_c10
  unfold agR apR
  have ht' : inB t s.threads.length = true := by rw [hf.threads]; exact ht
  have hy := thr_get ht'
  obtain ⟨t0, t1⟩ := inB_iff.1 ht'
  have hb2 : ∀ tx : Int, ([slotV ol s.locks.length, .int .i64 tx, .sl bd 0 s.done.length, .sl bt 0 s.threads.length] : List AV).all AV.one = true := fun tx => boxR_one
  repeat' (first | (refine h_bin ?_; refine a_eql ?_) | (refine h_cond ?_; refine b_cond_f ?_) | (refine h_row ?_; refine b_row_p ?_) | refine a_store_box (by repeat constructor) rfl rfl (hb2 _) rfl ?_ | refine a_join ?_)
  exact hq _ _ (s.locks) s.done (s.threads) _ (fz_lk hol (fun p hp => by simp only [List.mem_cons, List.mem_append]; simp [hp])) (Fz.sls (by repeat constructor) rfl (by simp) (by simp [setThr])) (Fz.sls (by repeat constructor) rfl (by simp) rfl) (by simp only [applyS, Int.reduceEq, Int.reduceNeg, if_true, if_false, or_self, or_true, true_or, or_false, false_or, reduceIte, reduceCtorEq])
theorem apr_4 (ha : allowedS w 4 o = true) (hq : EndsR w s t o wake bd bt ol 4 Q) : ref08_Apply_c10 (.ptr b7 0 0) Q (.int .i64 4) (.int .i64 t) (.ptr b12 0 0) (.int .i64 o) (.int .i64 wake) (.pptr [w.enc] 0 0) (agR s bd bt ol) (apR s b7 b12 bd bt ol) := by
  unfold ref08_Apply_c10
  unfold agR apR
  have ht' : inB t s.threads.length = true := by rw [hf.threads]; exact ht
  have hy := thr_get ht'
  obtain ⟨t0, t1⟩ := inB_iff.1 ht'
  have hb2 : ∀ tx : Int, ([slotV ol s.locks.length, .int .i64 tx, .sl bd 0 s.done.length, .sl bt 0 s.threads.length] : List AV).all AV.one = true := fun tx => boxR_one
  repeat' (first | (refine h_bin ?_; refine a_eql ?_) | (refine h_cond ?_; refine b_cond_f ?_) | (refine h_row ?_; refine b_row_p ?_) | refine a_store_box (by repeat constructor) rfl rfl (hb2 _) rfl ?_ | refine a_join ?_)
  exact hq _ _ (s.locks) s.done (s.threads) _ (fz_lk hol (fun p hp => by simp only [List.mem_cons, List.mem_append]; simp [hp])) (Fz.sls (by repeat constructor) rfl (by simp) (by simp [setThr])) (Fz.sls (by repeat constructor) rfl (by simp) rfl) (by simp only [applyS, Int.reduceEq, Int.reduceNeg, if_true, if_false, or_self, or_true, true_or, or_false, false_or, reduceIte, reduceCtorEq])
theorem apr_5 (ha : allowedS w 5 o = true) (hq : EndsR w s t o wake bd bt ol 5 Q) : ref08_Apply_c10 (.ptr b7 0 0) Q (.int .i64 5) (.int .i64 t) (.ptr b12 0 0) (.int .i64 o) (.int .i64 wake) (.pptr [w.enc] 0 0) (agR s bd bt ol) (apR s b7 b12 bd bt ol) := by
  unfold ref08_Apply_c10
  unfold agR apR
  have ht' : inB t s.threads.length = true := by rw [hf.threads]; exact ht
  have hy := thr_get ht'
  obtain ⟨t0, t1⟩ := inB_iff.1 ht'
  have hb2 : ∀ tx : Int, ([slotV ol s.locks.length, .int .i64 tx, .sl bd 0 s.done.length, .sl bt 0 s.threads.length] : List AV).all AV.one = true := fun tx => boxR_one
  repeat' (first | (refine h_bin ?_; refine a_eql ?_) | (refine h_cond ?_; refine b_cond_f ?_) | (refine h_row ?_; refine b_row_p ?_) | refine a_store_box (by repeat constructor) rfl rfl (hb2 _) rfl ?_ | refine a_join ?_)
  exact hq _ _ (s.locks) s.done (s.threads) _ (fz_lk hol (fun p hp => by simp only [List.mem_cons, List.mem_append]; simp [hp])) (Fz.sls (by repeat constructor) rfl (by simp) (by simp [setThr])) (Fz.sls (by repeat constructor) rfl (by simp) rfl) (by simp only [applyS, Int.reduceEq, Int.reduceNeg, if_true, if_false, or_self, or_true, true_or, or_false, false_or, reduceIte, reduceCtorEq])
theorem apr_6 (bl : Nat) (hnd : (apR s b7 b12 bd bt (some bl)).names.Nodup) (hrd : (lockAt s o).readers.length < 2 ^ 40) (ha : allowedS w 6 o = true) (hq : EndsR w s t o wake bd bt (some bl) 6 Q) : ref08_Apply_c10 (.ptr b7 0 0) Q (.int .i64 6) (.int .i64 t) (.ptr b12 0 0) (.int .i64 o) (.int .i64 wake) (.pptr [w.enc] 0 0) (agR s bd bt (some bl)) (apR s b7 b12 bd bt (some bl)) := by
  unfold ref08_Apply_c10
  simp only [SH.names, apR, slotB, List.map_cons, List.map_nil, List.nodup_cons, List.mem_cons, not_or, List.not_mem_nil, not_false_eq_true, and_true] at hnd
  obtain ⟨⟨n1, n2, n3, n4⟩, ⟨n5, n6, n7⟩, ⟨n8, n9⟩, n10, _⟩ := hnd
  unfold agR apR
  have ht' : inB t s.threads.length = true := by rw [hf.threads]; exact ht
  have hy := thr_get ht'
  obtain ⟨t0, t1⟩ := inB_iff.1 ht'
  dsimp only [slotB, slotV]
  have hl : inB o s.locks.length = true := by rw [hf.locks]; simp [allowedS] at ha; exact ha.1
  have hx := lock_get hl
  obtain ⟨o0, o1⟩ := inB_iff.1 hl
  have hb2 : ∀ tx : Int, ([slotV (some bl) s.locks.length, .int .i64 tx, .sl bd 0 s.done.length, .sl bt 0 s.threads.length] : List AV).all AV.one = true := fun tx => boxR_one
  dsimp only [slotV] at hb2
  repeat' (first | (refine h_load1 ?_; refine b_load_p ?_) | (refine h_faddr ?_; refine a_faddr_p ?_) | (refine h_bin ?_; refine a_eql ?_) | (refine h_cond ?_; first | refine b_cond_t ?_ | refine b_cond_f ?_) | (refine h_idx ?_; refine b_idx_s ?_) | (refine h_row ?_; refine b_row_p ?_) | refine a_store_box (by repeat constructor) rfl rfl (hb2 _) rfl ?_ | (refine h_store ?_; refine b_store_one ?_) | refine a_join ?_)
  exact hq _ _ (setLock s o fun x => { x with owner := t }) s.done (s.threads) _ (Fz.sls (by repeat constructor) (lock_rows rfl) (by simp) (by simp [setLock])) (Fz.sls (by repeat constructor) rfl (by simp) (by simp [setThr])) (Fz.sls (by repeat constructor) rfl (by simp) rfl) (by simp only [applyS, Int.reduceEq, Int.reduceNeg, if_true, if_false, or_self, or_true, true_or, or_false, false_or, reduceIte, reduceCtorEq])
theorem apr_7 (bl : Nat) (hnd : (apR s b7 b12 bd bt (some bl)).names.Nodup) (hrd : (lockAt s o).readers.length < 2 ^ 40) (ha : allowedS w 7 o = true) (hq : EndsR w s t o wake bd bt (some bl) 7 Q) : ref08_Apply_c10 (.ptr b7 0 0) Q (.int .i64 7) (.int .i64 t) (.ptr b12 0 0) (.int .i64 o) (.int .i64 wake) (.pptr [w.enc] 0 0) (agR s bd bt (some bl)) (apR s b7 b12 bd bt (some bl)) := by
  unfold ref08_Apply_c10
  simp only [SH.names, apR, slotB, List.map_cons, List.map_nil, List.nodup_cons, List.mem_cons, not_or, List.not_mem_nil, not_false_eq_true, and_true] at hnd
  obtain ⟨⟨n1, n2, n3, n4⟩, ⟨n5, n6, n7⟩, ⟨n8, n9⟩, n10, _⟩ := hnd
  unfold agR apR
  have ht' : inB t s.threads.length = true := by rw [hf.threads]; exact ht
  have hy := thr_get ht'
  obtain ⟨t0, t1⟩ := inB_iff.1 ht'
  dsimp only [slotB, slotV]
  have hl : inB o s.locks.length = true := by rw [hf.locks]; simp [allowedS] at ha; exact ha.1
  have hx := lock_get hl
  obtain ⟨o0, o1⟩ := inB_iff.1 hl
  have hb2 : ∀ tx : Int, ([slotV (some bl) s.locks.length, .int .i64 tx, .sl bd 0 s.done.length, .sl bt 0 s.threads.length] : List AV).all AV.one = true := fun tx => boxR_one
  dsimp only [slotV] at hb2
  repeat' (first | (refine h_load1 ?_; refine b_load_p ?_) | (refine h_faddr ?_; refine a_faddr_p ?_) | (refine h_bin ?_; refine a_eql ?_) | (refine h_cond ?_; first | refine b_cond_t ?_ | refine b_cond_f ?_) | (refine h_idx ?_; refine b_idx_s ?_) | (refine h_row ?_; refine b_row_p ?_) | refine a_store_box (by repeat constructor) rfl rfl (hb2 _) rfl ?_ | (refine h_store ?_; refine b_store_one ?_) | refine a_join ?_)
  exact hq _ _ (setLock s o fun x => { x with owner := -1 }) s.done (s.threads) _ (Fz.sls (by repeat constructor) (lock_rows rfl) (by simp) (by simp [setLock])) (Fz.sls (by repeat constructor) rfl (by simp) (by simp [setThr])) (Fz.sls (by repeat constructor) rfl (by simp) rfl) (by simp only [applyS, Int.reduceEq, Int.reduceNeg, if_true, if_false, or_self, or_true, true_or, or_false, false_or, reduceIte, reduceCtorEq])
theorem apr_8 (bl : Nat) (hnd : (apR s b7 b12 bd bt (some bl)).names.Nodup) (hrd : (lockAt s o).readers.length < 2 ^ 40) (ha : allowedS w 8 o = true) (hq : EndsR w s t o wake bd bt (some bl) 8 Q) : ref08_Apply_c10 (.ptr b7 0 0) Q (.int .i64 8) (.int .i64 t) (.ptr b12 0 0) (.int .i64 o) (.int .i64 wake) (.pptr [w.enc] 0 0) (agR s bd bt (some bl)) (apR s b7 b12 bd bt (some bl)) := by
  unfold ref08_Apply_c10
  simp only [SH.names, apR, slotB, List.map_cons, List.map_nil, List.nodup_cons, List.mem_cons, not_or, List.not_mem_nil, not_false_eq_true, and_true] at hnd
  obtain ⟨⟨n1, n2, n3, n4⟩, ⟨n5, n6, n7⟩, ⟨n8, n9⟩, n10, _⟩ := hnd
  unfold agR apR
  have ht' : inB t s.threads.length = true := by rw [hf.threads]; exact ht
  have hy := thr_get ht'
  obtain ⟨t0, t1⟩ := inB_iff.1 ht'
  dsimp only [slotB, slotV]
  have hl : inB o s.locks.length = true := by rw [hf.locks]; simp [allowedS] at ha; exact ha.1
  have hx := lock_get hl
  obtain ⟨o0, o1⟩ := inB_iff.1 hl
  have hb2 : ∀ tx : Int, ([slotV (some bl) s.locks.length, .int .i64 tx, .sl bd 0 s.done.length, .sl bt 0 s.threads.length] : List AV).all AV.one = true := fun tx => boxR_one
  dsimp only [slotV] at hb2
  have hun : ∀ b, CallA Try.prog 57 [.lst ((lockAt s o).readers.map intE), .sl b 0 1] [(b, ⟨1, [[.int .i64 t]]⟩)] fun v L => v = .lst ((addRd (lockAt s o).readers t).map intE) ∧ L = [] := fun b => CallA.pre (args2 := [.lst ((lockAt s o).readers.map intE), .lst ([t].map intE)]) (L2 := []) (FzS.drop (K := [(b, ⟨1, [[.int .i64 t]]⟩)]) (by simp) rfl (fun i a a2 h1 h2 => by
      match i with
      | 0 => cases h1; cases h2; exact .refl _
      | 1 => cases h1; cases h2; exact Fz.sls (l := [t]) (f := intE) (List.mem_singleton.2 rfl) rfl (by decide) rfl
      | i + 2 => simp at h1)) (unionR_ok _ [t] hrd (by simp))
  repeat' (first | (refine h_load1 ?_; refine b_load_p ?_) | (refine h_faddr ?_; refine a_faddr_p ?_) | (refine h_bin ?_; refine a_eql ?_) | (refine h_cond ?_; first | refine b_cond_t ?_ | refine b_cond_f ?_) | (refine h_idx ?_; refine b_idx_s ?_) | (refine h_row ?_; refine b_row_p ?_) | (refine h_calm ?_; refine b_calm ?_) | (refine h_note ?_; refine a_note ?_) | refine a_dmark ?_ | refine a_store_box (by repeat constructor) rfl rfl (hb2 _) rfl ?_ | ((with_reducible refine h_dfn 57 ?_); (refine m_dcallD (hun _) (by repeat constructor) (by (simp only [W.free, slotOf, ↓reduceIte, Nat.reduceEqDiff, blocksOf, slOf, List.forall_mem_nil, List.forall_mem_cons, List.not_mem_nil, not_false_eq_true, implies_true, and_true, true_and, and_self, Bool.false_eq_true, reduceCtorEq, forall_const, false_implies, List.mem_singleton, forall_eq, List.append_nil, List.nil_append, List.mem_cons, or_false, false_or, forall_eq_or_imp, not_or]) <;> (repeat' constructor) <;> first | assumption | (exact Ne.symm (by assumption)) | (intro e_; subst e_; simp [SH.names] at *; done)) ?_; rintro _ _ ⟨rfl, rfl⟩)) | (refine h_store ?_; refine b_store_one ?_) | (refine h_bslice ?_; refine b_bslice (fun nb_ hnb_ => ?_)) | refine a_join ?_ | refine a_tt ?_)
  exact hq _ _ (setLock s o fun x => { x with readers := addRd x.readers t }) s.done (s.threads) _ (Fz.sls (by repeat constructor) (lock_rows rfl) (by simp) (by simp [setLock])) (Fz.sls (by repeat constructor) rfl (by simp) (by simp [setThr])) (Fz.sls (by repeat constructor) rfl (by simp) rfl) (by simp only [applyS, Int.reduceEq, Int.reduceNeg, if_true, if_false, or_self, or_true, true_or, or_false, false_or, reduceIte, reduceCtorEq])
theorem apr_9 (bl : Nat) (hnd : (apR s b7 b12 bd bt (some bl)).names.Nodup) (hrd : (lockAt s o).readers.length < 2 ^ 40) (ha : allowedS w 9 o = true) (hq : EndsR w s t o wake bd bt (some bl) 9 Q) : ref08_Apply_c10 (.ptr b7 0 0) Q (.int .i64 9) (.int .i64 t) (.ptr b12 0 0) (.int .i64 o) (.int .i64 wake) (.pptr [w.enc] 0 0) (agR s bd bt (some bl)) (apR s b7 b12 bd bt (some bl)) := by
  unfold ref08_Apply_c10
  simp only [SH.names, apR, slotB, List.map_cons, List.map_nil, List.nodup_cons, List.mem_cons, not_or, List.not_mem_nil, not_false_eq_true, and_true] at hnd
  obtain ⟨⟨n1, n2, n3, n4⟩, ⟨n5, n6, n7⟩, ⟨n8, n9⟩, n10, _⟩ := hnd
  unfold agR apR
  have ht' : inB t s.threads.length = true := by rw [hf.threads]; exact ht
  have hy := thr_get ht'
  obtain ⟨t0, t1⟩ := inB_iff.1 ht'
  dsimp only [slotB, slotV]
  have hl : inB o s.locks.length = true := by rw [hf.locks]; simp [allowedS] at ha; exact ha.1
  have hx := lock_get hl
  obtain ⟨o0, o1⟩ := inB_iff.1 hl
  have hb2 : ∀ tx : Int, ([slotV (some bl) s.locks.length, .int .i64 tx, .sl bd 0 s.done.length, .sl bt 0 s.threads.length] : List AV).all AV.one = true := fun tx => boxR_one
  dsimp only [slotV] at hb2
  repeat' (first | (refine h_load1 ?_; refine b_load_p ?_) | (refine h_faddr ?_; refine a_faddr_p ?_) | (refine h_bin ?_; refine a_eql ?_) | (refine h_cond ?_; first | refine b_cond_t ?_ | refine b_cond_f ?_) | (refine h_idx ?_; refine b_idx_s ?_) | (refine h_row ?_; refine b_row_p ?_) | (refine h_calm ?_; refine b_calm ?_) | (refine h_note ?_; refine a_note ?_) | refine a_dmark ?_ | refine a_store_box (by repeat constructor) rfl rfl (hb2 _) rfl ?_ | ((with_reducible refine h_dfn 58 ?_); refine b_dcall (withoutR_ok (lockAt s o).readers t hrd) ?_) | (refine h_store ?_; refine b_store_one ?_) | refine a_join ?_ | refine a_tt ?_)
  exact hq _ _ (setLock s o fun x => { x with readers := x.readers.filter fun y => !decide (y = t) }) s.done (s.threads) _ (Fz.sls (by repeat constructor) (lock_rows rfl) (by simp) (by simp [setLock])) (Fz.sls (by repeat constructor) rfl (by simp) (by simp [setThr])) (Fz.sls (by repeat constructor) rfl (by simp) rfl) (by simp only [applyS, Int.reduceEq, Int.reduceNeg, if_true, if_false, or_self, or_true, true_or, or_false, false_or, reduceIte, reduceCtorEq])
theorem apr_10 (bl : Nat) (hnd : (apR s b7 b12 bd bt (some bl)).names.Nodup) (hrd : (lockAt s o).readers.length < 2 ^ 40) (ha : allowedS w 10 o = true) (hq : EndsR w s t o wake bd bt (some bl) 10 Q) : ref08_Apply_c10 (.ptr b7 0 0) Q (.int .i64 10) (.int .i64 t) (.ptr b12 0 0) (.int .i64 o) (.int .i64 wake) (.pptr [w.enc] 0 0) (agR s bd bt (some bl)) (apR s b7 b12 bd bt (some bl)) := by
  unfold ref08_Apply_c10
  simp only [SH.names, apR, slotB, List.map_cons, List.map_nil, List.nodup_cons, List.mem_cons, not_or, List.not_mem_nil, not_false_eq_true, and_true] at hnd
  obtain ⟨⟨n1, n2, n3, n4⟩, ⟨n5, n6, n7⟩, ⟨n8, n9⟩, n10, _⟩ := hnd
  unfold agR apR
  have ht' : inB t s.threads.length = true := by rw [hf.threads]; exact ht
  have hy := thr_get ht'
  obtain ⟨t0, t1⟩ := inB_iff.1 ht'
  dsimp only [slotB, slotV]
  have hl : inB o s.locks.length = true := by rw [hf.locks]; simp [allowedS] at ha; exact ha.1
  have hx := lock_get hl
  obtain ⟨o0, o1⟩ := inB_iff.1 hl
  have hb2 : ∀ tx : Int, ([slotV (some bl) s.locks.length, .int .i64 tx, .sl bd 0 s.done.length, .sl bt 0 s.threads.length] : List AV).all AV.one = true := fun tx => boxR_one
  dsimp only [slotV] at hb2
  repeat' (first | (refine h_load1 ?_; refine b_load_p ?_) | (refine h_faddr ?_; refine a_faddr_p ?_) | (refine h_bin ?_; refine a_eql ?_) | (refine h_cond ?_; first | refine b_cond_t ?_ | refine b_cond_f ?_) | (refine h_idx ?_; refine b_idx_s ?_) | (refine h_row ?_; refine b_row_p ?_) | refine a_store_box (by repeat constructor) rfl rfl (hb2 _) rfl ?_ | (refine h_store ?_; refine b_store_one ?_) | refine a_join ?_)
  exact hq _ _ (setLock s o fun x => { x with owner := t }) s.done (s.threads) _ (Fz.sls (by repeat constructor) (lock_rows rfl) (by simp) (by simp [setLock])) (Fz.sls (by repeat constructor) rfl (by simp) (by simp [setThr])) (Fz.sls (by repeat constructor) rfl (by simp) rfl) (by simp only [applyS, Int.reduceEq, Int.reduceNeg, if_true, if_false, or_self, or_true, true_or, or_false, false_or, reduceIte, reduceCtorEq])
theorem apr_11 (bl : Nat) (hnd : (apR s b7 b12 bd bt (some bl)).names.Nodup) (hrd : (lockAt s o).readers.length < 2 ^ 40) (ha : allowedS w 11 o = true) (hq : EndsR w s t o wake bd bt (some bl) 11 Q) : ref08_Apply_c10 (.ptr b7 0 0) Q (.int .i64 11) (.int .i64 t) (.ptr b12 0 0) (.int .i64 o) (.int .i64 wake) (.pptr [w.enc] 0 0) (agR s bd bt (some bl)) (apR s b7 b12 bd bt (some bl)) := by
  unfold ref08_Apply_c10
  simp only [SH.names, apR, slotB, List.map_cons, List.map_nil, List.nodup_cons, List.mem_cons, not_or, List.not_mem_nil, not_false_eq_true, and_true] at hnd
  obtain ⟨⟨n1, n2, n3, n4⟩, ⟨n5, n6, n7⟩, ⟨n8, n9⟩, n10, _⟩ := hnd
  unfold agR apR
  have ht' : inB t s.threads.length = true := by rw [hf.threads]; exact ht
  have hy := thr_get ht'
  obtain ⟨t0, t1⟩ := inB_iff.1 ht'
  dsimp only [slotB, slotV]
  have hl : inB o s.locks.length = true := by rw [hf.locks]; simp [allowedS] at ha; exact ha.1
  have hx := lock_get hl
  obtain ⟨o0, o1⟩ := inB_iff.1 hl
  have hb2 : ∀ tx : Int, ([slotV (some bl) s.locks.length, .int .i64 tx, .sl bd 0 s.done.length, .sl bt 0 s.threads.length] : List AV).all AV.one = true := fun tx => boxR_one
  dsimp only [slotV] at hb2
  repeat' (first | (refine h_load1 ?_; refine b_load_p ?_) | (refine h_faddr ?_; refine a_faddr_p ?_) | (refine h_bin ?_; refine a_eql ?_) | (refine h_cond ?_; first | refine b_cond_t ?_ | refine b_cond_f ?_) | (refine h_idx ?_; refine b_idx_s ?_) | (refine h_row ?_; refine b_row_p ?_) | refine a_store_box (by repeat constructor) rfl rfl (hb2 _) rfl ?_ | (refine h_store ?_; refine b_store_one ?_) | refine a_join ?_)
  exact hq _ _ (setLock s o fun x => { x with owner := -1 }) s.done (s.threads) _ (Fz.sls (by repeat constructor) (lock_rows rfl) (by simp) (by simp [setLock])) (Fz.sls (by repeat constructor) rfl (by simp) (by simp [setThr])) (Fz.sls (by repeat constructor) rfl (by simp) rfl) (by simp only [applyS, Int.reduceEq, Int.reduceNeg, if_true, if_false, or_self, or_true, true_or, or_false, false_or, reduceIte, reduceCtorEq])
theorem apr_12 (ha : allowedS w 12 o = true) (hq : EndsR w s t o wake bd bt ol 12 Q) : ref08_Apply_c10 (.ptr b7 0 0) Q (.int .i64 12) (.int .i64 t) (.ptr b12 0 0) (.int .i64 o) (.int .i64 wake) (.pptr [w.enc] 0 0) (agR s bd bt ol) (apR s b7 b12 bd bt ol) := by
  unfold ref08_Apply_c10
  unfold agR apR
  have ht' : inB t s.threads.length = true := by rw [hf.threads]; exact ht
  have hy := thr_get ht'
  obtain ⟨t0, t1⟩ := inB_iff.1 ht'
  have hb2 : ∀ tx : Int, ([slotV ol s.locks.length, .int .i64 tx, .sl bd 0 s.done.length, .sl bt 0 s.threads.length] : List AV).all AV.one = true := fun tx => boxR_one
  repeat' (first | (refine h_faddr ?_; refine a_faddr_p ?_) | (refine h_bin ?_; refine a_eql ?_) | (refine h_cond ?_; first | refine b_cond_t ?_ | refine b_cond_f ?_) | (refine h_row ?_; refine b_row_p ?_) | refine a_store_box (by repeat constructor) rfl rfl (hb2 _) rfl ?_ | (refine h_store ?_; refine b_store_one ?_) | refine a_join ?_)
  exact hq _ _ (s.locks) s.done (s.threads) _ (fz_lk hol (fun p hp => by simp only [List.mem_cons, List.mem_append]; simp [hp])) (Fz.sls (by repeat constructor) rfl (by simp) (by simp [setThr])) (Fz.sls (by repeat constructor) rfl (by simp) rfl) (by simp only [applyS, Int.reduceEq, Int.reduceNeg, if_true, if_false, or_self, or_true, true_or, or_false, false_or, reduceIte, reduceCtorEq])
theorem apr_13 (ha : allowedS w 13 o = true) (hq : EndsR w s t o wake bd bt ol 13 Q) : ref08_Apply_c10 (.ptr b7 0 0) Q (.int .i64 13) (.int .i64 t) (.ptr b12 0 0) (.int .i64 o) (.int .i64 wake) (.pptr [w.enc] 0 0) (agR s bd bt ol) (apR s b7 b12 bd bt ol) := by
  unfold ref08_Apply_c10
  unfold agR apR
  have ht' : inB t s.threads.length = true := by rw [hf.threads]; exact ht
  have hy := thr_get ht'
  obtain ⟨t0, t1⟩ := inB_iff.1 ht'
  have hb2 : ∀ tx : Int, ([slotV ol s.locks.length, .int .i64 tx, .sl bd 0 s.done.length, .sl bt 0 s.threads.length] : List AV).all AV.one = true := fun tx => boxR_one
  repeat' (first | (refine h_faddr ?_; refine a_faddr_p ?_) | (refine h_bin ?_; refine a_eql ?_) | (refine h_cond ?_; first | refine b_cond_t ?_ | refine b_cond_f ?_) | (refine h_row ?_; refine b_row_p ?_) | refine a_store_box (by repeat constructor) rfl rfl (hb2 _) rfl ?_ | (refine h_store ?_; refine b_store_one ?_) | refine a_join ?_)
  exact hq _ _ (s.locks) s.done (s.threads) _ (fz_lk hol (fun p hp => by simp only [List.mem_cons, List.mem_append]; simp [hp])) (Fz.sls (by repeat constructor) rfl (by simp) (by simp [setThr])) (Fz.sls (by repeat constructor) rfl (by simp) rfl) (by simp only [applyS, Int.reduceEq, Int.reduceNeg, if_true, if_false, or_self, or_true, true_or, or_false, false_or, reduceIte, reduceCtorEq])
theorem apr_14 (ha : allowedS w 14 o = true) (hq : EndsR w s t o wake bd bt ol 14 Q) : ref08_Apply_c10 (.ptr b7 0 0) Q (.int .i64 14) (.int .i64 t) (.ptr b12 0 0) (.int .i64 o) (.int .i64 wake) (.pptr [w.enc] 0 0) (agR s bd bt ol) (apR s b7 b12 bd bt ol) := by
  unfold ref08_Apply_c10
  unfold agR apR
  have ht' : inB t s.threads.length = true := by rw [hf.threads]; exact ht
  have hy := thr_get ht'
  obtain ⟨t0, t1⟩ := inB_iff.1 ht'
  have hb2 : ∀ tx : Int, ([slotV ol s.locks.length, .int .i64 tx, .sl bd 0 s.done.length, .sl bt 0 s.threads.length] : List AV).all AV.one = true := fun tx => boxR_one
  repeat' (first | (refine h_load1 ?_; refine b_load_p ?_) | (refine h_faddr ?_; refine a_faddr_p ?_) | (refine h_bin ?_; refine a_eql ?_) | (refine h_cond ?_; first | refine b_cond_t ?_ | refine b_cond_f ?_) | (refine h_idx ?_; refine b_idx_s ?_) | (refine h_row ?_; refine b_row_p ?_) | refine a_store_box (by repeat constructor) rfl rfl (hb2 _) rfl ?_ | (refine h_store ?_; refine b_store_one ?_) | refine a_join ?_)
  exact hq _ _ (s.locks) s.done (setThr s t fun x => { x with atomic := true }) _ (fz_lk hol (fun p hp => by simp only [List.mem_cons, List.mem_append]; simp [hp])) (Fz.sls (by repeat constructor) (thr_rows rfl) (by simp) (by simp [setThr])) (Fz.sls (by repeat constructor) rfl (by simp) rfl) (by simp only [applyS, Int.reduceEq, Int.reduceNeg, if_true, if_false, or_self, or_true, true_or, or_false, false_or, reduceIte, reduceCtorEq])
theorem apr_15 (ha : allowedS w 15 o = true) (hq : EndsR w s t o wake bd bt ol 15 Q) : ref08_Apply_c10 (.ptr b7 0 0) Q (.int .i64 15) (.int .i64 t) (.ptr b12 0 0) (.int .i64 o) (.int .i64 wake) (.pptr [w.enc] 0 0) (agR s bd bt ol) (apR s b7 b12 bd bt ol) := by
  unfold ref08_Apply_c10
  unfold agR apR
  have ht' : inB t s.threads.length = true := by rw [hf.threads]; exact ht
  have hy := thr_get ht'
  obtain ⟨t0, t1⟩ := inB_iff.1 ht'
  have hb2 : ∀ tx : Int, ([slotV ol s.locks.length, .int .i64 tx, .sl bd 0 s.done.length, .sl bt 0 s.threads.length] : List AV).all AV.one = true := fun tx => boxR_one
  repeat' (first | (refine h_load1 ?_; refine b_load_p ?_) | (refine h_faddr ?_; refine a_faddr_p ?_) | (refine h_bin ?_; refine a_eql ?_) | (refine h_cond ?_; first | refine b_cond_t ?_ | refine b_cond_f ?_) | (refine h_idx ?_; refine b_idx_s ?_) | (refine h_row ?_; refine b_row_p ?_) | refine a_store_box (by repeat constructor) rfl rfl (hb2 _) rfl ?_ | (refine h_store ?_; refine b_store_one ?_) | refine a_join ?_)
  exact hq _ _ (s.locks) s.done (setThr s t fun x => { x with atomic := false }) _ (fz_lk hol (fun p hp => by simp only [List.mem_cons, List.mem_append]; simp [hp])) (Fz.sls (by repeat constructor) (thr_rows rfl) (by simp) (by simp [setThr])) (Fz.sls (by repeat constructor) rfl (by simp) rfl) (by simp only [applyS, Int.reduceEq, Int.reduceNeg, if_true, if_false, or_self, or_true, true_or, or_false, false_or, reduceIte, reduceCtorEq])
theorem apr_16 (bl : Nat) (hnd : (apR s b7 b12 bd bt (some bl)).names.Nodup) (hrd : (lockAt s o).readers.length < 2 ^ 40) (ha : allowedS w 16 o = true) (hq : EndsR w s t o wake bd bt (some bl) 16 Q) : ref08_Apply_c10 (.ptr b7 0 0) Q (.int .i64 16) (.int .i64 t) (.ptr b12 0 0) (.int .i64 o) (.int .i64 wake) (.pptr [w.enc] 0 0) (agR s bd bt (some bl)) (apR s b7 b12 bd bt (some bl)) := by
  unfold ref08_Apply_c10
  simp only [SH.names, apR, slotB, List.map_cons, List.map_nil, List.nodup_cons, List.mem_cons, not_or, List.not_mem_nil, not_false_eq_true, and_true] at hnd
  obtain ⟨⟨n1, n2, n3, n4⟩, ⟨n5, n6, n7⟩, ⟨n8, n9⟩, n10, _⟩ := hnd
  unfold agR apR
  have ht' : inB t s.threads.length = true := by rw [hf.threads]; exact ht
  have hy := thr_get ht'
  obtain ⟨t0, t1⟩ := inB_iff.1 ht'
  dsimp only [slotB, slotV]
  have hc : inB o w.conds.length = true := by simpa [allowedS] using ha
  have hl := mx_in hf hc
  have hx := lock_get hl
  obtain ⟨o0, o1⟩ := inB_iff.1 hl
  unfold mxAt at hl hx o0 o1
  have hy2 : ((s.threads.map ThrD.enc).set (0 + t.toNat) ((thrAt s t).enc.set 0 (.int .i64 3)))[0 + t.toNat]? = some ((thrAt s t).enc.set 0 (.int .i64 3)) := set_at hy
  have hb2 : ∀ tx : Int, ([slotV (some bl) s.locks.length, .int .i64 tx, .sl bd 0 s.done.length, .sl bt 0 s.threads.length] : List AV).all AV.one = true := fun tx => boxR_one
  dsimp only [slotV] at hb2
  repeat' (first | (refine h_load1 ?_; first | refine b_load_q ?_ | refine b_load_i ?_ | refine b_load_p ?_) | (refine h_faddr ?_; first | refine a_faddr_q ?_ | refine a_faddr_p ?_) | (refine h_bin ?_; refine a_eql ?_) | (refine h_cond ?_; first | refine b_cond_t ?_ | refine b_cond_f ?_) | (refine h_idx ?_; first | refine b_idx_i ?_ | refine b_idx_s ?_) | (refine h_row ?_; refine b_row_p ?_) | (refine h_calm ?_; refine b_calm ?_) | (refine h_note ?_; refine a_note ?_) | refine a_store_box (by repeat constructor) rfl rfl (hb2 _) rfl ?_ | (refine h_store ?_; refine b_store_one ?_) | refine a_join ?_ | refine a_tt ?_)
  exact hq _ _ (setLock s (mxAt w o) fun x => { x with owner := -1 }) s.done (setThr s t fun x => { x with status := 3, cond := o }) _ (Fz.sls (by repeat constructor) (lock_rows rfl) (by simp) (by simp [setLock])) (Fz.sls (by repeat constructor) (by rw [List.set_set]; exact thr_rows rfl) (by simp) (by simp [setThr])) (Fz.sls (by repeat constructor) rfl (by simp) rfl) (by simp only [applyS, Int.reduceEq, Int.reduceNeg, if_true, if_false, or_self, or_true, true_or, or_false, false_or, reduceIte, reduceCtorEq])
theorem apr_17 (bl : Nat) (hnd : (apR s b7 b12 bd bt (some bl)).names.Nodup) (hrd : (lockAt s o).readers.length < 2 ^ 40) (ha : allowedS w 17 o = true) (hq : EndsR w s t o wake bd bt (some bl) 17 Q) : ref08_Apply_c10 (.ptr b7 0 0) Q (.int .i64 17) (.int .i64 t) (.ptr b12 0 0) (.int .i64 o) (.int .i64 wake) (.pptr [w.enc] 0 0) (agR s bd bt (some bl)) (apR s b7 b12 bd bt (some bl)) := by
  unfold ref08_Apply_c10
  simp only [SH.names, apR, slotB, List.map_cons, List.map_nil, List.nodup_cons, List.mem_cons, not_or, List.not_mem_nil, not_false_eq_true, and_true] at hnd
  obtain ⟨⟨n1, n2, n3, n4⟩, ⟨n5, n6, n7⟩, ⟨n8, n9⟩, n10, _⟩ := hnd
  unfold agR apR
  have ht' : inB t s.threads.length = true := by rw [hf.threads]; exact ht
  have hy := thr_get ht'
  obtain ⟨t0, t1⟩ := inB_iff.1 ht'
  dsimp only [slotB, slotV]
  have hc : inB o w.conds.length = true := by simpa [allowedS] using ha
  have hl := mx_in hf hc
  have hx := lock_get hl
  obtain ⟨o0, o1⟩ := inB_iff.1 hl
  unfold mxAt at hl hx o0 o1
  have hy2 : ((s.threads.map ThrD.enc).set (0 + t.toNat) ((thrAt s t).enc.set 0 (.int .i64 2)))[0 + t.toNat]? = some ((thrAt s t).enc.set 0 (.int .i64 2)) := set_at hy
  have hb2 : ∀ tx : Int, ([slotV (some bl) s.locks.length, .int .i64 tx, .sl bd 0 s.done.length, .sl bt 0 s.threads.length] : List AV).all AV.one = true := fun tx => boxR_one
  dsimp only [slotV] at hb2
  repeat' (first | (refine h_load1 ?_; first | refine b_load_q ?_ | refine b_load_i ?_ | refine b_load_p ?_) | (refine h_faddr ?_; first | refine a_faddr_q ?_ | refine a_faddr_p ?_) | (refine h_bin ?_; refine a_eql ?_) | (refine h_cond ?_; first | refine b_cond_t ?_ | refine b_cond_f ?_) | (refine h_idx ?_; first | refine b_idx_i ?_ | refine b_idx_s ?_) | (refine h_row ?_; refine b_row_p ?_) | (refine h_calm ?_; refine b_calm ?_) | (refine h_note ?_; refine a_note ?_) | refine a_store_box (by repeat constructor) rfl rfl (hb2 _) rfl ?_ | (refine h_store ?_; refine b_store_one ?_) | refine a_join ?_ | refine a_tt ?_)
  exact hq _ _ (setLock s (mxAt w o) fun x => { x with owner := t }) s.done (setThr s t fun x => { x with status := 2, cond := 0 }) _ (Fz.sls (by repeat constructor) (lock_rows rfl) (by simp) (by simp [setLock])) (Fz.sls (by repeat constructor) (by rw [List.set_set]; exact thr_rows rfl) (by simp) (by simp [setThr])) (Fz.sls (by repeat constructor) rfl (by simp) rfl) (by simp only [applyS, Int.reduceEq, Int.reduceNeg, if_true, if_false, or_self, or_true, true_or, or_false, false_or, reduceIte, reduceCtorEq])
theorem apr_20 (ha : allowedS w 20 o = true) (hq : EndsR w s t o wake bd bt ol 20 Q) : ref08_Apply_c10 (.ptr b7 0 0) Q (.int .i64 20) (.int .i64 t) (.ptr b12 0 0) (.int .i64 o) (.int .i64 wake) (.pptr [w.enc] 0 0) (agR s bd bt ol) (apR s b7 b12 bd bt ol) := by
  unfold ref08_Apply_c10
  unfold agR apR
  have ht' : inB t s.threads.length = true := by rw [hf.threads]; exact ht
  have hy := thr_get ht'
  obtain ⟨t0, t1⟩ := inB_iff.1 ht'
  have hl : inB o s.threads.length = true := by rw [hf.threads]; simpa [allowedS] using ha
  have hx := thr_get hl
  obtain ⟨o0, o1⟩ := inB_iff.1 hl
  have hb2 : ∀ tx : Int, ([slotV ol s.locks.length, .int .i64 tx, .sl bd 0 s.done.length, .sl bt 0 s.threads.length] : List AV).all AV.one = true := fun tx => boxR_one
  repeat' (first | (refine h_load1 ?_; refine b_load_p ?_) | (refine h_faddr ?_; refine a_faddr_p ?_) | (refine h_bin ?_; refine a_eql ?_) | (refine h_cond ?_; first | refine b_cond_t ?_ | refine b_cond_f ?_) | (refine h_idx ?_; refine b_idx_s ?_) | (refine h_row ?_; refine b_row_p ?_) | refine a_store_box (by repeat constructor) rfl rfl (hb2 _) rfl ?_ | (refine h_store ?_; refine b_store_one ?_) | refine a_join ?_)
  exact hq _ _ (s.locks) s.done (setThr s o fun x => { x with status := 1 }) _ (fz_lk hol (fun p hp => by simp only [List.mem_cons, List.mem_append]; simp [hp])) (Fz.sls (by repeat constructor) (thr_rows rfl) (by simp) (by simp [setThr])) (Fz.sls (by repeat constructor) rfl (by simp) rfl) (by simp only [applyS, Int.reduceEq, Int.reduceNeg, if_true, if_false, or_self, or_true, true_or, or_false, false_or, reduceIte, reduceCtorEq])
theorem apr_21 (ha : allowedS w 21 o = true) (hq : EndsR w s t o wake bd bt ol 21 Q) : ref08_Apply_c10 (.ptr b7 0 0) Q (.int .i64 21) (.int .i64 t) (.ptr b12 0 0) (.int .i64 o) (.int .i64 wake) (.pptr [w.enc] 0 0) (agR s bd bt ol) (apR s b7 b12 bd bt ol) := by
  unfold ref08_Apply_c10
  unfold agR apR
  have ht' : inB t s.threads.length = true := by rw [hf.threads]; exact ht
  have hy := thr_get ht'
  obtain ⟨t0, t1⟩ := inB_iff.1 ht'
  have hb2 : ∀ tx : Int, ([slotV ol s.locks.length, .int .i64 tx, .sl bd 0 s.done.length, .sl bt 0 s.threads.length] : List AV).all AV.one = true := fun tx => boxR_one
  repeat' (first | (refine h_bin ?_; refine a_eql ?_) | (refine h_cond ?_; refine b_cond_f ?_) | (refine h_row ?_; refine b_row_p ?_) | refine a_store_box (by repeat constructor) rfl rfl (hb2 _) rfl ?_ | refine a_join ?_)
  exact hq _ _ (s.locks) s.done (s.threads) _ (fz_lk hol (fun p hp => by simp only [List.mem_cons, List.mem_append]; simp [hp])) (Fz.sls (by repeat constructor) rfl (by simp) (by simp [setThr])) (Fz.sls (by repeat constructor) rfl (by simp) rfl) (by simp only [applyS, Int.reduceEq, Int.reduceNeg, if_true, if_false, or_self, or_true, true_or, or_false, false_or, reduceIte, reduceCtorEq])
theorem apr_23 (ha : allowedS w 23 o = true) (hq : EndsR w s t o wake bd bt ol 23 Q) : ref08_Apply_c10 (.ptr b7 0 0) Q (.int .i64 23) (.int .i64 t) (.ptr b12 0 0) (.int .i64 o) (.int .i64 wake) (.pptr [w.enc] 0 0) (agR s bd bt ol) (apR s b7 b12 bd bt ol) := by
  unfold ref08_Apply_c10
  unfold agR apR
  have ht' : inB t s.threads.length = true := by rw [hf.threads]; exact ht
  have hy := thr_get ht'
  obtain ⟨t0, t1⟩ := inB_iff.1 ht'
  have hb2 : ∀ tx : Int, ([slotV ol s.locks.length, .int .i64 tx, .sl bd 0 s.done.length, .sl bt 0 s.threads.length] : List AV).all AV.one = true := fun tx => boxR_one
  repeat' (first | (refine h_bin ?_; refine a_eql ?_) | (refine h_cond ?_; refine b_cond_f ?_) | (refine h_row ?_; refine b_row_p ?_) | refine a_store_box (by repeat constructor) rfl rfl (hb2 _) rfl ?_ | refine a_join ?_)
  exact hq _ _ (s.locks) s.done (s.threads) _ (fz_lk hol (fun p hp => by simp only [List.mem_cons, List.mem_append]; simp [hp])) (Fz.sls (by repeat constructor) rfl (by simp) (by simp [setThr])) (Fz.sls (by repeat constructor) rfl (by simp) rfl) (by simp only [applyS, Int.reduceEq, Int.reduceNeg, if_true, if_false, or_self, or_true, true_or, or_false, false_or, reduceIte, reduceCtorEq])
theorem apr_22 (ha : allowedS w 22 o = true) (hq : EndsR w s t o wake bd bt ol 22 Q) : ref08_Apply_c10 (.ptr b7 0 0) Q (.int .i64 22) (.int .i64 t) (.ptr b12 0 0) (.int .i64 o) (.int .i64 wake) (.pptr [w.enc] 0 0) (agR s bd bt ol) (apR s b7 b12 bd bt ol) := by
  unfold ref08_Apply_c10 agR apR
  have hl : inB o s.done.length = true := by rw [hf.done]; simpa [allowedS] using ha
  obtain ⟨o0, o1⟩ := inB_iff.1 hl
  have hx : (s.done.map boolE)[0 + o.toNat]? = some (boolE (s.done.getD o.toNat default)) := by rw [Nat.zero_add]; exact at_inB hl
  have hb2 : ∀ tx : Int, ([slotV ol s.locks.length, .int .i64 tx, .sl bd 0 s.done.length, .sl bt 0 s.threads.length] : List AV).all AV.one = true := fun tx => boxR_one
  repeat' (first | (refine h_load1 ?_; refine b_load_p ?_) | (refine h_faddr ?_; refine a_faddr_p ?_) | (refine h_bin ?_; refine a_eql ?_) | (refine h_cond ?_; first | refine b_cond_t ?_ | refine b_cond_f ?_) | (refine h_idx ?_; refine b_idx_s ?_) | (refine h_row ?_; refine b_row_p ?_) | refine a_store_box (by repeat constructor) rfl rfl (hb2 _) rfl ?_ | (refine h_store ?_; refine b_store_one ?_) | refine a_join ?_)
  refine hq _ _ s.locks (s.done.set o.toNat true) s.threads _ (fz_lk hol (fun p hp => by simp only [List.mem_cons, List.mem_append]; simp [hp])) (Fz.sls (by repeat constructor) rfl (by simp) rfl) (Fz.sls (by repeat constructor) ?_ (by simp) (by simp)) (by simp only [applyS, Int.reduceEq, Int.reduceNeg, if_true, if_false, or_self, or_true, true_or, or_false, false_or, reduceIte, reduceCtorEq])
  rw [List.map_set, Nat.zero_add]; rfl
end
end Go.Proofs.Ytadjimfkfmojkaa.Am

end
section
namespace Go.Proofs.Ytadjimfkfmojkaa.Am
set_option maxRecDepth 100000
set_option linter.unusedSimpArgs false
set_option linter.unusedVariables false
set_option linter.unusedSectionVars false
/-- the first n of a list of threads are woken -/
def wakeL (T : List ThrD) (l : List Nat) : List ThrD := l.foldl (fun T i => setSt T i 4) T
theorem wakeL_len : ∀ (l : List Nat) (T : List ThrD), (wakeL T l).length = T.length
  | [], _ => rfl
  | i :: l, T => by
    have := wakeL_len l (setSt T i 4)
    unfold wakeL at this ⊢
    rw [List.foldl_cons, this]; simp [setSt]
theorem wakeL_at : ∀ (l : List Nat) (T : List ThrD) (j : Nat) (hj : j < T.length), (wakeL T l)[j]? = some (if j ∈ l then { T[j] with status := 4 } else T[j])
  | [], T, j, hj => by simp [wakeL, hj]
  | i :: l, T, j, hj => by
    have hj2 : j < (setSt T i 4).length := by simp [setSt, hj]
    have := wakeL_at l (setSt T i 4) j hj2
    unfold wakeL at this ⊢
    rw [List.foldl_cons, this]
    by_cases hij : i = j
    · subst hij
      have : (setSt T i 4)[i] = { T[i] with status := 4 } := by simp [setSt, hj]
      rw [this]
      simp
    · have : (setSt T i 4)[j] = T[j] := by simp [setSt, List.getElem_set_ne hij]
      rw [this]
      have hji : j ≠ i := fun e => hij e.symm
      simp [hji]
theorem wakeL_all (T : List ThrD) (c : Int) : wakeL T (waiting T c T.length) = wakeAll T c T.length := by
  apply List.ext_getElem?
  intro j
  rcases Nat.lt_or_ge j T.length with hj | hj
  · rw [wakeL_at _ _ _ hj, wakeAll_at _ _ _ _ hj]
    have hm : j ∈ waiting T c T.length ↔ waitsS T[j] c = true := by
      rw [mem_waiting]
      have : waitsAt T c j = waitsS T[j] c := by simp [waitsAt, hj]
      rw [this]
      exact ⟨fun h => h.2, fun h => ⟨hj, h⟩⟩
    by_cases hw : waitsS T[j] c = true
    · rw [if_pos (hm.2 hw)]; simp [hj, hw]
    · rw [if_neg (fun h => hw (hm.1 h))]; simp [hw]
  · rw [List.getElem?_eq_none (by rw [wakeL_len]; exact hj), List.getElem?_eq_none (by rw [wakeAll_len]; exact hj)]
theorem wakeL_snoc (T : List ThrD) (l : List Nat) (i : Nat) : wakeL T (l ++ [i]) = setSt (wakeL T l) i 4 := by unfold wakeL; rw [List.foldl_append]; rfl
def natE (i : Nat) : List AV := [.int .i64 (i : Int)]
theorem wh_rows (T : List ThrD) (c : Int) : (wh (waitsAt T c) T.length).map intE = (waiting T c T.length).map natE := by
  unfold wh waiting
  rw [List.map_map]; rfl
section
variable (w : WorldD) (s : SyncD) (t o wake : Int) (b7 b12 bd bt : Nat) (ol : Option Nat)
variable (Q : AV → SH → Prop) (hol : ol = none → s.locks = []) (hT : s.threads.length < 2 ^ 40)
include hol hT
theorem apr_18 (hq : EndsR w s t o wake bd bt ol 18 Q) : ref08_Apply_c10 (.ptr b7 0 0) Q (.int .i64 18) (.int .i64 t) (.ptr b12 0 0) (.int .i64 o) (.int .i64 wake) (.pptr [w.enc] 0 0) (agR s bd bt ol) (apR s b7 b12 bd bt ol) := by
  unfold ref08_Apply_c10 agR apR
  have hb2 : ∀ tx : Int, ([slotV ol s.locks.length, .int .i64 tx, .sl bd 0 s.done.length, .sl bt 0 s.threads.length] : List AV).all AV.one = true := fun tx => boxR_one
  have hw := waitingR_ok (slotV ol s.locks.length) (.int .i64 s.tx) (.sl bd 0 s.done.length) bt s.threads o hT (hb2 _)
  rw [wh_rows] at hw
  have ea : applyS w s t 18 o wake = ({ s with threads := wokenS s.threads o wake }, notifyS s.threads o wake) := by simp only [applyS, Int.reduceEq, Int.reduceNeg, if_true, if_false, or_self, or_true, true_or, or_false, false_or, reduceIte, reduceCtorEq]
  have hcn : notifyS s.threads o wake = chosenOf (waiting s.threads o s.threads.length) wake := rfl
  have hlt : ∀ x ∈ waiting s.threads o s.threads.length, x < s.threads.length := fun x hx => waiting_lt hx
  have hwl : (waiting s.threads o s.threads.length).length ≤ s.threads.length := Nat.le_trans (List.length_filter_le _ _) (by simp)
  cases hl : waiting s.threads o s.threads.length with
  | nil =>
    rw [hl] at hw hcn
    have hz : decide ((0 : Int) < (([] : List Nat).length : Nat)) = false := rfl
    have hn : notifyS s.threads o wake = -1 := hcn
    repeat' (first | (refine h_bin ?_; first | refine a_eql ?_ | refine a_gtr ?_) | (refine h_cond ?_; first | refine b_cond_t ?_ | refine b_cond_f ?_) | (refine h_row ?_; refine b_row_p ?_) | (refine h_len ?_; refine a_len_m ?_) | refine a_mark ?_ | refine a_store_box (by repeat constructor) rfl rfl (hb2 _) rfl ?_ | ((with_reducible refine h_fn 59 ?_); (refine m_callD hw (by repeat constructor) ?_; rintro _ _ ⟨rfl, rfl⟩)) | refine a_join ?_)
    exact hq _ _ s.locks s.done s.threads _ (fz_lk hol (fun p hp => by simp only [List.mem_cons, List.mem_append]; simp [hp])) (Fz.sls (by repeat constructor) rfl (by simp) rfl) (Fz.sls (by repeat constructor) rfl (by simp) rfl) (by rw [ea, hn]; unfold wokenS; rw [hn, if_neg (by decide)] )
  | cons u l =>
    rw [hl] at hw hcn hlt hwl
    have hz : decide ((0 : Int) < ((u :: l).length : Nat)) = true := decide_eq_true (by simp only [List.length_cons]; omega)
    have hrow : (((u :: l) : List Nat).map natE)[(0 : Nat)]? = some (natE u) := rfl
    have hmap : ((u :: l).map natE) = (((u :: l).map fun i : Nat => (i : Int)).map intE) := by rw [List.map_map]; rfl
    have hhas := has_ok ((u :: l).map fun i : Nat => (i : Int)) wake (by simp at hwl ⊢; omega)
    rw [← hmap] at hhas
    have hany : ((u :: l).map fun i : Nat => (i : Int)).contains wake = (u :: l).any fun x => decide ((x : Int) = wake) := by
      rw [Bool.eq_iff_iff]
      simp only [List.contains_iff_mem, List.mem_map, List.any_eq_true, decide_eq_true_eq]
    rw [hany] at hhas
    simp only [chosenOf] at hcn
    have fin : ∀ (i : Nat), notifyS s.threads o wake = (i : Int) → ∀ L, (bd, (⟨1, s.done.map boolE⟩ : Blk)) ∈ L → (bt, (⟨3, (setSt s.threads i 4).map ThrD.enc⟩ : Blk)) ∈ L → (∀ p ∈ slotB ol 2 (s.locks.map LockD.enc), p ∈ L) → Q (.tup [.agg [slotV ol s.locks.length, .int .i64 s.tx, .sl bd 0 s.done.length, .sl bt 0 s.threads.length], .int .i64 (i : Int), .bool true]) L := fun i hi L m1 m2 m3 =>
      hq _ _ s.locks s.done (setSt s.threads i 4) _ (fz_lk hol m3) (Fz.sls m2 rfl (by simp) (by simp [setSt])) (Fz.sls m1 rfl (by simp) rfl) (by rw [ea, hi]; unfold wokenS; rw [hi, if_pos (by omega)]; rfl)
    cases ha : (u :: l).any fun x => decide ((x : Int) = wake) with
    | false =>
      rw [ha] at hhas hcn
      have hn : notifyS s.threads o wake = (u : Int) := hcn
      have hu : u < s.threads.length := hlt u (by simp)
      have hx := map_at (f := ThrD.enc) hu
      have hst := set_enc s.threads u 4 hu
      repeat' (first | (refine h_load1 ?_; first | refine b_load_q ?_ | refine b_load_p ?_) | (refine h_faddr ?_; refine a_faddr_p ?_) | (refine h_bin ?_; first | refine a_eql ?_ | refine a_gtr ?_) | (refine h_cond ?_; first | refine b_cond_t ?_ | refine b_cond_f ?_) | (refine h_idx ?_; first | refine b_idx_n ?_ | refine b_idx_sn ?_) | (refine h_row ?_; refine b_row_p ?_) | (refine h_len ?_; refine a_len_m ?_) | refine a_mark ?_ | refine a_store_box (by repeat constructor) rfl rfl (hb2 _) rfl ?_ | ((with_reducible refine h_fn 59 ?_); (refine m_callD hw (by repeat constructor) ?_; rintro _ _ ⟨rfl, rfl⟩)) | ((with_reducible refine h_fn 15 ?_); refine m_call (hhas) ?_) | (refine h_store ?_; refine b_store_one ?_) | refine a_join ?_)
      refine fin u hn _ (by repeat constructor) ?_ (fun p hp => by simp only [List.mem_cons, List.mem_append]; simp [hp])
      rw [← hst]
      repeat constructor
    | true =>
      rw [ha] at hhas hcn
      have hn : notifyS s.threads o wake = wake := hcn
      obtain ⟨u', hu1, hu2⟩ := List.any_eq_true.1 ha
      have hu3 := of_decide_eq_true hu2
      have hu : u' < s.threads.length := hlt u' hu1
      have hx := map_at (f := ThrD.enc) hu
      have hst := set_enc s.threads u' 4 hu
      subst hu3
      repeat' (first | (refine h_load1 ?_; first | refine b_load_q ?_ | refine b_load_p ?_) | (refine h_faddr ?_; refine a_faddr_p ?_) | (refine h_bin ?_; first | refine a_eql ?_ | refine a_gtr ?_) | (refine h_cond ?_; first | refine b_cond_t ?_ | refine b_cond_f ?_) | (refine h_idx ?_; first | refine b_idx_n ?_ | refine b_idx_sn ?_) | (refine h_row ?_; refine b_row_p ?_) | (refine h_len ?_; refine a_len_m ?_) | refine a_mark ?_ | refine a_store_box (by repeat constructor) rfl rfl (hb2 _) rfl ?_ | ((with_reducible refine h_fn 59 ?_); (refine m_callD hw (by repeat constructor) ?_; rintro _ _ ⟨rfl, rfl⟩)) | ((with_reducible refine h_fn 15 ?_); refine m_call (hhas) ?_) | (refine h_store ?_; refine b_store_one ?_) | refine a_join ?_)
      refine fin u' hn _ (by repeat constructor) ?_ (fun p hp => by simp only [List.mem_cons, List.mem_append]; simp [hp])
      rw [← hst]
      repeat constructor
theorem apr_19 (hq : EndsR w s t o wake bd bt ol 19 Q) : ref08_Apply_c10 (.ptr b7 0 0) Q (.int .i64 19) (.int .i64 t) (.ptr b12 0 0) (.int .i64 o) (.int .i64 wake) (.pptr [w.enc] 0 0) (agR s bd bt ol) (apR s b7 b12 bd bt ol) := by
  unfold ref08_Apply_c10 agR apR
  have hb2 : ∀ tx : Int, ([slotV ol s.locks.length, .int .i64 tx, .sl bd 0 s.done.length, .sl bt 0 s.threads.length] : List AV).all AV.one = true := fun tx => boxR_one
  have hw := waitingR_ok (slotV ol s.locks.length) (.int .i64 s.tx) (.sl bd 0 s.done.length) bt s.threads o hT (hb2 _)
  rw [wh_rows] at hw
  have ea : applyS w s t 19 o wake = ({ s with threads := wakeS s o }, (((waiting s.threads o s.threads.length).length : Nat) : Int)) := by simp only [applyS, Int.reduceEq, Int.reduceNeg, if_true, if_false, or_self, or_true, true_or, or_false, false_or, reduceIte, reduceCtorEq]
  have hlt : ∀ x ∈ waiting s.threads o s.threads.length, x < s.threads.length := fun x hx => waiting_lt hx
  have hwl : (waiting s.threads o s.threads.length).length ≤ s.threads.length := Nat.le_trans (List.length_filter_le _ _) (by simp)
  have hall := wakeL_all s.threads o
  have fin : ∀ L, (bd, (⟨1, s.done.map boolE⟩ : Blk)) ∈ L → (bt, (⟨3, (wakeL s.threads (waiting s.threads o s.threads.length)).map ThrD.enc⟩ : Blk)) ∈ L → (∀ p ∈ slotB ol 2 (s.locks.map LockD.enc), p ∈ L) → Q (.tup [.agg [slotV ol s.locks.length, .int .i64 s.tx, .sl bd 0 s.done.length, .sl bt 0 s.threads.length], .int .i64 ((waiting s.threads o s.threads.length).length : Nat), .bool true]) L := fun L m1 m2 m3 =>
    hq _ _ s.locks s.done (wakeS s o) _ (fz_lk hol m3) (Fz.sls m2 (by rw [hall]; rfl) (by simp) (by simp [wakeS, wakeAll_len])) (Fz.sls m1 rfl (by simp) rfl) ea
  clear ea hall hq
  generalize waiting s.threads o s.threads.length = wl at *
  repeat' (first | (refine h_bin ?_; refine a_eql ?_) | (refine h_cond ?_; first | refine b_cond_t ?_ | refine b_cond_f ?_) | (refine h_row ?_; refine b_row_p ?_) | refine a_mark ?_ | refine a_store_box (by repeat constructor) rfl rfl (hb2 _) rfl ?_ | ((with_reducible refine h_fn 59 ?_); (refine m_callD hw (by repeat constructor) ?_; rintro _ _ ⟨rfl, rfl⟩)) | refine a_join ?_)
  refine for_by wl.length (fun i => ([.ptr b7 0 0, .ptr b12 0 0, .lst (wl.map natE), .int .i64 i], (bt, ⟨3, (wakeL s.threads (wl.take i)).map ThrD.enc⟩) :: (bd, ⟨1, s.done.map boolE⟩) :: (b12, ⟨4, [[.nils, .int .i64 0, .nils, .nils]]⟩) :: (b7, ⟨4, [[slotV ol s.locks.length, .int .i64 s.tx, .sl bd 0 s.done.length, .sl bt 0 s.threads.length]]⟩) :: slotB ol 2 (s.locks.map LockD.enc))) (fun _ => True) trivial rfl rfl ?_
  intro i hi _
  dsimp only
  unfold ref08_Apply_l6
  rcases Nat.lt_or_ge i wl.length with g1 | g1
  · have hd := dec_lt g1
    have hx := map_at (f := natE) g1
    have hu : wl[i] < (wakeL s.threads (wl.take i)).length := by rw [wakeL_len]; exact hlt _ (List.getElem_mem g1)
    have hu' : wl[i] < s.threads.length := hlt _ (List.getElem_mem g1)
    have hy := map_at (f := ThrD.enc) hu
    have hst := set_enc _ wl[i] 4 hu
    have htk : wakeL s.threads (wl.take (i + 1)) = setSt (wakeL s.threads (wl.take i)) wl[i] 4 := by rw [List.take_succ_eq_append_getElem g1, wakeL_snoc]
    repeat' (first | (refine h_load1 ?_; first | refine b_load_q ?_ | refine b_load_p ?_) | (refine h_faddr ?_; refine a_faddr_p ?_) | (refine h_bin ?_; first | refine a_lss ?_ | refine a_add ?_) | (refine h_cond ?_; refine b_cond_t ?_) | (refine h_idx ?_; first | refine b_idx_n ?_ | refine b_idx_sn ?_) | (refine h_len ?_; refine a_len_m ?_) | (refine h_calm ?_; refine b_calm ?_) | (refine h_note ?_; refine a_note ?_) | (refine h_store ?_; refine b_store_one ?_) | refine a_tt ?_)
    refine ⟨i + 1, by omega, by omega, trivial, fzs_eq (by rw [i64_succ g1 (by omega)]; rfl) ?_⟩
    rw [htk, ← hst]
  · have hd := dec_ge g1
    rw [List.take_of_length_le g1]
    repeat' (first | (refine h_bin ?_; refine a_lss ?_) | (refine h_cond ?_; refine b_cond_f ?_) | (refine h_row ?_; refine b_row_p ?_) | (refine h_len ?_; refine a_len_m ?_) | refine a_store_box (by repeat constructor) rfl rfl (hb2 _) rfl ?_)
    exact fin _ (by repeat constructor) (by repeat constructor) (fun p hp => by simp only [List.mem_cons, List.mem_append]; simp [hp])
end
theorem perm_r {α : Type} (bt bd b12 b7 : α) (X : List α) : ((X ++ [bt, bd]) ++ [b12, b7]).Perm (bt :: bd :: b12 :: b7 :: X) := by
  rw [List.append_assoc]
  exact List.perm_append_comm (l₁ := X) (l₂ := [bt, bd, b12, b7])
section
variable (w : WorldD) (s : SyncD) (t k o wake : Int)
theorem endsR (hen : enabledS w s t k o = true) (bd bt : Nat) (ol : Option Nat) : EndsR w s t o wake bd bt ol k (EndQ w s t k o wake) := by
  intro tx val ls dn th L f1 f2 f3 e
  refine ⟨_, [], FzS.all (Fz.tups (.cons (Fz.aggs (.cons f1 (.cons (.refl _) (.cons f3 (.cons f2 .nil))))) (.cons (.refl _) (.cons (.refl _) .nil)))), ?_, rfl⟩
  unfold resS
  rw [if_pos hen, e]
  rfl
theorem apply_c10 (hs : Small w s) (hen : enabledS w s t k o = true) (b7 b12 : Nat) (Q : AV → SH → Prop) (hq : ∀ bd bt ol, EndsR w s t o wake bd bt ol k Q) :
    W.callM Try.prog 56 [.agg s.enc] [(b12, ⟨4, [[.nils, .int .i64 0, .nils, .nils]]⟩), (b7, ⟨4, [s.enc]⟩)] (ref08_Apply_c10 (.ptr b7 0 0) Q (.int .i64 k) (.int .i64 t) (.ptr b12 0 0) (.int .i64 o) (.int .i64 wake) (.pptr [w.enc] 0 0)) := by
  have hen' := hen
  unfold enabledS at hen'
  simp only [Bool.and_eq_true] at hen'
  obtain ⟨⟨⟨hfi, ht⟩, hal⟩, hkd⟩ := hen'
  have hf := fitsS_iff.1 hfi
  have hrl : ∀ o, (lockAt s o).readers.length < 2 ^ 40 := fun o => by
    unfold lockAt
    rcases Nat.lt_or_ge o.toNat s.locks.length with h | h
    · rw [show s.locks.getD o.toNat default = s.locks[o.toNat] by simp [h]]; exact hs.rd _ (List.getElem_mem h)
    · rw [show s.locks.getD o.toNat default = default by simp [List.getD, List.getElem?_eq_none h]]; decide
  refine m_callN (copyR_ok s hs.locks hs.done hs.threads hs.rd) ?_
  rintro v K ⟨ol, bd, bt, rfl, rfl, hol⟩
  refine ⟨apR s b7 b12 bd bt ol, perm_r _ _ _ _ _, fun hnd => ?_⟩
  show ref08_Apply_c10 (.ptr b7 0 0) Q (.int .i64 k) (.int .i64 t) (.ptr b12 0 0) (.int .i64 o) (.int .i64 wake) (.pptr [w.enc] 0 0) (agR s bd bt ol) (apR s b7 b12 bd bt ol)
  have plain : ref08_Apply_c10 (.ptr b7 0 0) Q (.int .i64 k) (.int .i64 t) (.ptr b12 0 0) (.int .i64 o) (.int .i64 wake) (.pptr [w.enc] 0 0) (agR s bd bt ol) (apR s b7 b12 bd bt ol) → ref08_Apply_c10 (.ptr b7 0 0) Q (.int .i64 k) (.int .i64 t) (.ptr b12 0 0) (.int .i64 o) (.int .i64 wake) (.pptr [w.enc] 0 0) (agR s bd bt ol) (apR s b7 b12 bd bt ol) := fun h => h
  have lockk : ∀ {p : Int}, inB p w.locks.length = true → (∀ bl, (apR s b7 b12 bd bt (some bl)).names.Nodup → EndsR w s t o wake bd bt (some bl) k Q → ref08_Apply_c10 (.ptr b7 0 0) Q (.int .i64 k) (.int .i64 t) (.ptr b12 0 0) (.int .i64 o) (.int .i64 wake) (.pptr [w.enc] 0 0) (agR s bd bt (some bl)) (apR s b7 b12 bd bt (some bl))) → ref08_Apply_c10 (.ptr b7 0 0) Q (.int .i64 k) (.int .i64 t) (.ptr b12 0 0) (.int .i64 o) (.int .i64 wake) (.pptr [w.enc] 0 0) (agR s bd bt ol) (apR s b7 b12 bd bt ol) := fun {p} hp h => by
    cases ol with
    | none =>
      rw [← hf.locks, hol rfl] at hp
      obtain ⟨p0, p1⟩ := inB_iff.1 hp
      simp at p1
      omega
    | some bl => exact h bl hnd (hq _ _ _)
  rcases kinds k with hk | rfl | rfl | rfl | rfl | rfl | rfl | rfl | rfl | rfl | rfl | rfl | rfl | rfl | rfl | rfl | rfl | rfl | rfl | rfl | rfl | rfl | rfl | rfl
  · simp only [allowedS] at hal
    repeat (rw [if_neg (by omega)] at hal)
    cases hal
  · exact plain (apr_1 w s t o wake b7 b12 bd bt ol Q hf ht hol hal (hq _ _ _))
  · exact plain (apr_2 w s t o wake b7 b12 bd bt ol Q hf ht hol hal (hq _ _ _))
  · exact plain (apr_3 w s t o wake b7 b12 bd bt ol Q hf ht hol hal (hq _ _ _))
  · exact plain (apr_4 w s t o wake b7 b12 bd bt ol Q hf ht hol hal (hq _ _ _))
  · exact plain (apr_5 w s t o wake b7 b12 bd bt ol Q hf ht hol hal (hq _ _ _))
  · exact lockk (by simp [allowedS] at hal; exact hal.1) fun bl hnd => apr_6 w s t o wake b7 b12 bd bt (some bl) Q hf ht nofun bl hnd (hrl o) hal
  · exact lockk (by simp [allowedS] at hal; exact hal.1) fun bl hnd => apr_7 w s t o wake b7 b12 bd bt (some bl) Q hf ht nofun bl hnd (hrl o) hal
  · exact lockk (by simp [allowedS] at hal; exact hal.1) fun bl hnd => apr_8 w s t o wake b7 b12 bd bt (some bl) Q hf ht nofun bl hnd (hrl o) hal
  · exact lockk (by simp [allowedS] at hal; exact hal.1) fun bl hnd => apr_9 w s t o wake b7 b12 bd bt (some bl) Q hf ht nofun bl hnd (hrl o) hal
  · exact lockk (by simp [allowedS] at hal; exact hal.1) fun bl hnd => apr_10 w s t o wake b7 b12 bd bt (some bl) Q hf ht nofun bl hnd (hrl o) hal
  · exact lockk (by simp [allowedS] at hal; exact hal.1) fun bl hnd => apr_11 w s t o wake b7 b12 bd bt (some bl) Q hf ht nofun bl hnd (hrl o) hal
  · exact plain (apr_12 w s t o wake b7 b12 bd bt ol Q hf ht hol hal (hq _ _ _))
  · exact plain (apr_13 w s t o wake b7 b12 bd bt ol Q hf ht hol hal (hq _ _ _))
  · exact plain (apr_14 w s t o wake b7 b12 bd bt ol Q hf ht hol hal (hq _ _ _))
  · exact plain (apr_15 w s t o wake b7 b12 bd bt ol Q hf ht hol hal (hq _ _ _))
  · have hc : inB o w.conds.length = true := by simpa [allowedS] using hal
    exact lockk (by rw [← hf.locks]; exact mx_in hf hc) fun bl hnd => apr_16 w s t o wake b7 b12 bd bt (some bl) Q hf ht nofun bl hnd (hrl o) hal
  · have hc : inB o w.conds.length = true := by simpa [allowedS] using hal
    exact lockk (by rw [← hf.locks]; exact mx_in hf hc) fun bl hnd => apr_17 w s t o wake b7 b12 bd bt (some bl) Q hf ht nofun bl hnd (hrl o) hal
  · exact plain (apr_18 w s t o wake b7 b12 bd bt ol Q hol hs.threads (hq _ _ _))
  · exact plain (apr_19 w s t o wake b7 b12 bd bt ol Q hol hs.threads (hq _ _ _))
  · exact plain (apr_20 w s t o wake b7 b12 bd bt ol Q hf ht hol hal (hq _ _ _))
  · exact plain (apr_21 w s t o wake b7 b12 bd bt ol Q hf ht hol hal (hq _ _ _))
  · exact plain (apr_22 w s t o wake b7 b12 bd bt ol Q hf ht hol hal (hq _ _ _))
  · exact plain (apr_23 w s t o wake b7 b12 bd bt ol Q hf ht hol hal (hq _ _ _))
theorem applyR_ok (hs : Small w s) : PureA Try.prog 29 [.agg w.enc, .agg s.enc, .int .i64 t, .int .i64 k, .int .i64 o, .int .i64 wake] (encR (resS w s t k o wake)) := by
  refine CallA.fz (ref08_Apply_ok _ _ _ _ _ _ _ _ ?_)
  show ref08_Apply_w _ _ _ _ _ _ _ (EndQ w s t k o wake)
  unfold ref08_Apply_w
  have hcn : w.conds.length < 2 ^ 62 := by have := hs.conds; omega
  have he := enabledR_ok w s t k o hcn hs.rd
  have fin : enabledS w s t k o = false → ∀ L, EndQ w s t k o wake (.tup [.agg [.nils, .int .i64 0, .nils, .nils], .int .i64 0, .bool false]) L := fun hn L => by
    refine ⟨_, [], FzS.all (Fz.tups (.cons (Fz.aggs (.cons .nils (.cons (.refl _) (.cons .nils (.cons .nils .nil))))) (.cons (.refl _) (.cons (.refl _) .nil)))), ?_, rfl⟩
    unfold resS
    rw [hn]
    rfl
  have hend := fun hen => endsR w s t k o wake hen
  generalize EndQ w s t k o wake = Q at *
  cases hen : enabledS w s t k o with
  | false =>
    rw [hen] at he
    have nh : (!false) = true := rfl
    have fin := fin hen
    repeat' (first | (refine h_cond ?_; refine b_cond_t ?_) | (refine h_row ?_; first | refine b_row_q ?_ | refine b_row_p ?_) | refine a_mark ?_ | ((with_reducible refine h_fn 55 ?_); refine m_call (he) ?_) | (refine h_un ?_; refine a_not ?_) | (refine h_box ?_; refine b_box (fun nb_ hnb_ => ?_)) | (refine h_frz1 ?_; refine b_frz_p ?_) | (refine h_store ?_; refine b_store_box ?_) | refine a_alloc (fun nb_ hnb_ => ?_) | refine b_build ?_)
    exact fin _
  | true =>
    rw [hen] at he
    have hc := fun b7 b12 => apply_c10 w s t k o wake hs hen b7 b12 Q (hend hen)
    clear fin
    repeat' (first | exact hc _ _ | (refine h_cond ?_; refine b_cond_f ?_) | (refine h_row ?_; first | refine b_row_q ?_ | refine b_row_p ?_) | refine a_mark ?_ | ((with_reducible refine h_fn 55 ?_); refine m_call (he) ?_) | (refine h_un ?_; refine a_not ?_) | (refine h_box ?_; refine b_box (fun nb_ hnb_ => ?_)) | (refine h_frz1 ?_; refine b_frz_p ?_) | refine a_alloc (fun nb_ hnb_ => ?_))
end
end Go.Proofs.Ytadjimfkfmojkaa.Am

end
section
namespace Go.Proofs.Ytadjimfkfmojkaa.Am
set_option maxRecDepth 100000
set_option linter.unusedSimpArgs false
set_option linter.unusedVariables false
structure Safe (s : SyncD) : Prop where
  inv : OInv s
  own : ∀ j : Int, 0 ≤ j → j < 3 → -1 ≤ (lockAt s j).owner ∧ (lockAt s j).owner < 3
  excl : ∀ j : Int, 0 ≤ j → j < 3 → 0 ≤ (lockAt s j).owner → (lockAt s j).readers = []
  mux : ∀ j : Int, 0 ≤ j → j < 2 → (lockAt s j).readers = []
  stat : ∀ i : Int, 0 ≤ i → i < 3 → 0 ≤ (thrAt s i).status ∧ (thrAt s i).status ≤ 5
  wait : ∀ i : Int, 0 ≤ i → i < 3 → ((thrAt s i).status = 3 ∨ (thrAt s i).status = 4) → (lockAt s 0).owner ≠ i
  new : ∀ i : Int, 0 ≤ i → i < 3 → ((thrAt s i).status = 0 ∨ (thrAt s i).status = 1) → (∀ j : Int, 0 ≤ j → j < 3 → (lockAt s j).owner ≠ i ∧ i ∉ (lockAt s j).readers) ∧ s.tx ≠ i ∧ (thrAt s i).atomic = false
  tx : -1 ≤ s.tx ∧ s.tx < 3
theorem in3t {s : SyncD} (h : OInv s) {i : Int} (h0 : 0 ≤ i) (h1 : i < 3) : inB i s.threads.length = true := by rw [h.nt]; exact inB_iff.2 ⟨h0, h1⟩
theorem in3l {s : SyncD} (h : OInv s) {i : Int} (h0 : 0 ≤ i) (h1 : i < 3) : inB i s.locks.length = true := by rw [h.nl]; exact inB_iff.2 ⟨h0, h1⟩
theorem thr_upd {s : SyncD} (h : OInv s) {t i : Int} (t0 : 0 ≤ t) (t1 : t < 3) (i0 : 0 ≤ i) {f : ThrD → ThrD} {ls : List LockD} {tx : Int} {d : List Bool} : thrAt ⟨ls, tx, d, setThr s t f⟩ i = if i = t then f (thrAt s t) else thrAt s i := by
  by_cases e : i = t
  · subst e; rw [if_pos rfl]; exact thr_set (in3t h t0 t1)
  · rw [if_neg e]; exact thr_ne (by omega)
theorem lock_upd {s : SyncD} (h : OInv s) {o j : Int} (o0 : 0 ≤ o) (o1 : o < 3) (j0 : 0 ≤ j) {g : LockD → LockD} {th : List ThrD} {tx : Int} {d : List Bool} : lockAt ⟨setLock s o g, tx, d, th⟩ j = if j = o then g (lockAt s o) else lockAt s j := by
  by_cases e : j = o
  · subst e; rw [if_pos rfl]; exact lockAt_set (in3l h o0 o1)
  · rw [if_neg e]; exact lockAt_ne (by omega)
theorem safe_thr {s : SyncD} (h : Safe s) {t : Int} (t0 : 0 ≤ t) (t1 : t < 3) (f : ThrD → ThrD) (hc : ∀ x : ThrD, x.cond = 0 → (f x).cond = 0) (hst : 0 ≤ (f (thrAt s t)).status ∧ (f (thrAt s t)).status ≤ 5)
    (hw : (f (thrAt s t)).status = 3 ∨ (f (thrAt s t)).status = 4 → (lockAt s 0).owner ≠ t) (hn : (f (thrAt s t)).status = 0 ∨ (f (thrAt s t)).status = 1 → ((thrAt s t).status = 0 ∨ (thrAt s t).status = 1) ∧ (f (thrAt s t)).atomic = (thrAt s t).atomic) : Safe { s with threads := setThr s t f } := by
  have up : ∀ i : Int, 0 ≤ i → thrAt { s with threads := setThr s t f } i = if i = t then f (thrAt s t) else thrAt s i := fun i i0 => thr_upd h.inv t0 t1 i0
  refine ⟨inv_thr h.inv setThr_len (set_thr h.inv t f hc), h.own, h.excl, h.mux, fun i i0 i1 => ?_, fun i i0 i1 hi => ?_, fun i i0 i1 hi => ?_, h.tx⟩
  · rw [up i i0]; split
    · exact hst
    · exact h.stat i i0 i1
  · rw [up i i0] at hi
    split at hi
    · rename_i e; subst e; exact hw hi
    · exact h.wait i i0 i1 hi
  · rw [up i i0] at hi ⊢
    split at hi
    · rename_i e; subst e
      rw [if_pos rfl]
      obtain ⟨a, b⟩ := hn hi
      obtain ⟨c, d, e⟩ := h.new i i0 i1 a
      exact ⟨c, d, by rw [b]; exact e⟩
    · rename_i e
      rw [if_neg e]
      exact h.new i i0 i1 hi
theorem safe_lock {s : SyncD} (h : Safe s) {o : Int} (o0 : 0 ≤ o) (o1 : o < 3) (g : LockD → LockD) (hr : RdOk (g (lockAt s o))) (how : -1 ≤ (g (lockAt s o)).owner ∧ (g (lockAt s o)).owner < 3) (hex : 0 ≤ (g (lockAt s o)).owner → (g (lockAt s o)).readers = []) (hmx : o < 2 → (g (lockAt s o)).readers = [])
    (hw : o = 0 → ∀ i : Int, 0 ≤ i → i < 3 → ((thrAt s i).status = 3 ∨ (thrAt s i).status = 4) → (g (lockAt s o)).owner ≠ i) (hn : ∀ i : Int, 0 ≤ i → i < 3 → ((thrAt s i).status = 0 ∨ (thrAt s i).status = 1) → (g (lockAt s o)).owner ≠ i ∧ i ∉ (g (lockAt s o)).readers) : Safe { s with locks := setLock s o g } := by
  have up : ∀ j : Int, 0 ≤ j → lockAt { s with locks := setLock s o g } j = if j = o then g (lockAt s o) else lockAt s j := fun j j0 => lock_upd h.inv o0 o1 j0
  refine ⟨inv_lock h.inv setLock_len (set_lock h.inv o g hr), fun j j0 j1 => ?_, fun j j0 j1 hj => ?_, fun j j0 j1 => ?_, h.stat, fun i i0 i1 hi => ?_, fun i i0 i1 hi => ?_, h.tx⟩
  · rw [up j j0]; split
    · exact how
    · exact h.own j j0 j1
  · rw [up j j0] at hj ⊢
    split at hj
    · rename_i e; rw [if_pos e]; exact hex hj
    · rename_i e; rw [if_neg e]; exact h.excl j j0 j1 hj
  · rw [up j j0]; split
    · rename_i e; subst e; exact hmx j1
    · exact h.mux j j0 j1
  · rw [up 0 (by decide)]; split
    · rename_i e; exact hw e.symm i i0 i1 hi
    · exact h.wait i i0 i1 hi
  · obtain ⟨c, d, e⟩ := h.new i i0 i1 hi
    refine ⟨fun j j0 j1 => ?_, d, e⟩
    rw [up j j0]; split
    · exact hn i i0 i1 hi
    · exact c j j0 j1
theorem safe_tx {s : SyncD} (h : Safe s) (v : Int) (hv : -1 ≤ v ∧ v < 3) (hn : ∀ i : Int, 0 ≤ i → i < 3 → ((thrAt s i).status = 0 ∨ (thrAt s i).status = 1) → v ≠ i) : Safe { s with tx := v } :=
  ⟨⟨h.inv.nl, h.inv.nd, h.inv.nt, h.inv.cond, h.inv.rd⟩, h.own, h.excl, h.mux, h.stat, h.wait, fun i i0 i1 hi => by
    obtain ⟨c, d, e⟩ := h.new i i0 i1 hi
    exact ⟨c, hn i i0 i1 hi, e⟩, hv⟩
theorem safe_start : Safe (startS W0) := by
  have hl : ∀ j : Int, 0 ≤ j → j < 3 → lockAt (startS W0) j = ⟨-1, []⟩ := fun j j0 j1 => by
    have : j = 0 ∨ j = 1 ∨ j = 2 := by omega
    rcases this with rfl | rfl | rfl <;> rfl
  have ht : ∀ i : Int, 0 ≤ i → i < 3 → thrAt (startS W0) i = if i = 0 then ⟨1, 0, false⟩ else ⟨0, 0, false⟩ := fun j j0 j1 => by
    have : j = 0 ∨ j = 1 ∨ j = 2 := by omega
    rcases this with rfl | rfl | rfl <;> rfl
  refine ⟨inv_start, fun j j0 j1 => by rw [hl j j0 j1]; decide, fun j j0 j1 _ => by rw [hl j j0 j1], fun j j0 j1 => by rw [hl j j0 (by omega)], fun i i0 i1 => by rw [ht i i0 i1]; split <;> decide, fun i i0 i1 _ => by rw [hl 0 (by decide) (by decide)]; show (-1 : Int) ≠ i; omega, fun i i0 i1 _ => ⟨fun j j0 j1 => by rw [hl j j0 j1]; exact ⟨by show (-1 : Int) ≠ i; omega, by simp⟩, by show (-1 : Int) ≠ i; omega, by rw [ht i i0 i1]; split <;> rfl⟩, by decide⟩
theorem al_mutex {k o : Int} (hk : k = 6 ∨ k = 7) (h : allowedS W0 k o = true) : 0 ≤ o ∧ o < 2 := by
  rcases hk with rfl | rfl
  all_goals
    simp only [allowedS, Int.reduceEq, if_true, if_false, or_self, or_true, true_or, reduceIte, Bool.and_eq_true] at h
    obtain ⟨o0, o1⟩ := inB_iff.1 h.1
    have o1 : o < 3 := o1
    refine ⟨o0, ?_⟩
    apply Classical.byContradiction
    intro hge
    obtain rfl : o = 2 := by omega
    exact absurd h.2 (by decide)
theorem al_rw {k o : Int} (hk : k = 8 ∨ k = 9 ∨ k = 10 ∨ k = 11) (h : allowedS W0 k o = true) : o = 2 := by
  rcases hk with rfl | rfl | rfl | rfl
  all_goals
    simp only [allowedS, Int.reduceEq, if_true, if_false, or_self, or_true, true_or, reduceIte, Bool.and_eq_true] at h
    obtain ⟨o0, o1⟩ := inB_iff.1 h.1
    have o1 : o < 3 := o1
    have hc : o = 0 ∨ o = 1 ∨ o = 2 := by omega
    rcases hc with rfl | rfl | rfl
    · exact absurd h.2 (by decide)
    · exact absurd h.2 (by decide)
    · rfl
theorem al_cond {k o : Int} (hk : k = 16 ∨ k = 17 ∨ k = 18 ∨ k = 19) (h : allowedS W0 k o = true) : o = 0 := by
  have : inB o W0.conds.length = true := by rcases hk with rfl | rfl | rfl | rfl <;> simpa [allowedS] using h
  obtain ⟨o0, o1⟩ := inB_iff.1 this
  have o1 : o < 1 := o1
  omega
theorem thrAt_get {s : SyncD} (h : OInv s) {i : Int} (i0 : 0 ≤ i) (i1 : i < 3) (hi : i.toNat < s.threads.length) : thrAt s i = s.threads[i.toNat] := by
  unfold thrAt; simp [hi]
theorem safe_all {s : SyncD} (h : Safe s) : Safe { s with threads := wakeS s 0 } := by
  have up : ∀ i : Int, 0 ≤ i → i < 3 → thrAt { s with threads := wakeS s 0 } i = if (thrAt s i).status = 3 then { thrAt s i with status := 4 } else thrAt s i := fun i i0 i1 => by
    have hi : i.toNat < s.threads.length := by rw [h.inv.nt]; omega
    have e := wakeAll_at s.threads 0 s.threads.length i.toNat hi
    rw [thrAt_get h.inv i0 i1 hi]
    unfold thrAt wakeS
    simp only [List.getD, e, Option.getD_some]
    have hw : waitsS s.threads[i.toNat] 0 = decide (s.threads[i.toNat].status = 3) := by
      unfold waitsS
      rw [h.inv.cond _ (List.getElem_mem hi)]
      simp
    rw [hw]
    by_cases h3 : s.threads[i.toNat].status = 3
    · simp [h3, hi]
    · simp [h3]
  refine ⟨inv_thr h.inv (wakeAll_len _ _ _) (wake_cond h.inv 0), h.own, h.excl, h.mux, fun i i0 i1 => ?_, fun i i0 i1 hi => ?_, fun i i0 i1 hi => ?_, h.tx⟩
  · rw [up i i0 i1]; split
    · exact ⟨by show (0 : Int) ≤ 4; decide, by show (4 : Int) ≤ 5; decide⟩
    · exact h.stat i i0 i1
  · rw [up i i0 i1] at hi
    split at hi
    · rename_i e; exact h.wait i i0 i1 (.inl e)
    · exact h.wait i i0 i1 hi
  · rw [up i i0 i1] at hi ⊢
    split at hi
    · rename_i e; rcases hi with hi | hi <;> cases hi
    · rename_i e; rw [if_neg e]; exact h.new i i0 i1 hi
theorem safe_step {s : SyncD} (h : Safe s) {t k o wake : Int} (hen : enabledS W0 s t k o = true) : Safe (applyS W0 s t k o wake).1 := by
  obtain ⟨hft, ht, ha⟩ := en_parts hen
  obtain ⟨t0, t1⟩ := inB_iff.1 ht
  have t1 : t < 3 := t1
  have run : k ≠ 1 → k ≠ 17 → (thrAt s t).status = 2 ∧ readyS W0 s t k o = true := fun h1 h17 => ((en_run h1 h17).1 hen).2.2.2
  unfold applyS
  refine iteInduction (motive := fun x : SyncD × Int => Safe x.1) (fun hk => ?_) (fun n1 => ?_)
  · exact safe_thr h t0 t1 (fun x => { x with status := 2 }) (fun x hx => hx) ⟨by show (0 : Int) ≤ 2; decide, by show (2 : Int) ≤ 5; decide⟩ (fun e => by rcases e with e | e <;> cases e) (fun e => by rcases e with e | e <;> cases e)
  refine iteInduction (motive := fun x : SyncD × Int => Safe x.1) (fun hk => ?_) (fun n2 => ?_)
  · exact safe_thr h t0 t1 (fun x => { x with status := 5 }) (fun x hx => hx) ⟨by show (0 : Int) ≤ 5; decide, by show (5 : Int) ≤ 5; decide⟩ (fun e => by rcases e with e | e <;> cases e) (fun e => by rcases e with e | e <;> cases e)
  refine iteInduction (motive := fun x : SyncD × Int => Safe x.1) (fun hk => ?_) (fun n3 => ?_)
  · obtain ⟨r1, r2⟩ := run (by omega) (by omega)
    have hh : 0 ≤ o ∧ o < 3 ∧ (lockAt s o).readers = [] := by
      rcases hk with rfl | rfl
      · obtain ⟨o0, o1⟩ := al_mutex (.inl rfl) ha
        exact ⟨o0, by omega, h.mux o o0 o1⟩
      · obtain rfl := al_rw (.inr (.inr (.inl rfl))) ha
        simp [readyS] at r2
        exact ⟨by decide, by decide, r2.2⟩
    obtain ⟨o0, o1, hr⟩ := hh
    refine safe_lock h o0 o1 (fun x => { x with owner := t }) (lock_rd h.inv o) ⟨by show -1 ≤ t; omega, t1⟩ (fun _ => hr) (fun _ => hr) (fun _ i i0 i1 hi => ?_) (fun i i0 i1 hi => ?_)
    · show t ≠ i
      rintro rfl; rw [r1] at hi; rcases hi with hi | hi <;> cases hi
    · refine ⟨?_, by show i ∉ (lockAt s o).readers; rw [hr]; simp⟩
      show t ≠ i
      rintro rfl; rw [r1] at hi; rcases hi with hi | hi <;> cases hi
  refine iteInduction (motive := fun x : SyncD × Int => Safe x.1) (fun hk => ?_) (fun n4 => ?_)
  · have hh : 0 ≤ o ∧ o < 3 := by
      rcases hk with rfl | rfl
      · obtain ⟨o0, o1⟩ := al_mutex (.inr rfl) ha
        omega
      · obtain rfl := al_rw (.inr (.inr (.inr rfl))) ha
        decide
    obtain ⟨o0, o1⟩ := hh
    exact safe_lock h o0 o1 (fun x => { x with owner := -1 }) (lock_rd h.inv o) ⟨by show (-1 : Int) ≤ -1; decide, by show (-1 : Int) < 3; decide⟩ (fun e => absurd e (by show ¬ (0 : Int) ≤ -1; decide)) (fun e => h.mux o o0 e) (fun _ i i0 i1 hi => by show (-1 : Int) ≠ i; omega) (fun i i0 i1 hi => ⟨by show (-1 : Int) ≠ i; omega, ((h.new i i0 i1 hi).1 o o0 o1).2⟩)
  refine iteInduction (motive := fun x : SyncD × Int => Safe x.1) (fun hk => ?_) (fun n5 => ?_)
  · obtain ⟨r1, r2⟩ := run (by omega) (by omega)
    subst hk
    obtain rfl := al_rw (.inl rfl) ha
    have how : (lockAt s 2).owner = -1 := by simp [readyS] at r2; exact r2.1
    refine safe_lock h (by decide) (by decide) (fun x => { x with readers := addRd x.readers t }) ⟨addRd_asc _ _, fun y hy => ?_⟩ (h.own 2 (by decide) (by decide)) (fun e => by have e : 0 ≤ (lockAt s 2).owner := e; omega) (fun e => absurd e (by decide)) (fun e => absurd e (by decide)) (fun i i0 i1 hi => ⟨((h.new i i0 i1 hi).1 2 (by decide) (by decide)).1, fun hm => ?_⟩)
    · rcases (addRd_mem _ _ _).1 hy with h1 | h1
      · exact (lock_rd h.inv 2).2 y h1
      · omega
    · rcases (addRd_mem _ _ _).1 hm with h1 | h1
      · exact ((h.new i i0 i1 hi).1 2 (by decide) (by decide)).2 h1
      · subst h1; rw [r1] at hi; rcases hi with hi | hi <;> cases hi
  refine iteInduction (motive := fun x : SyncD × Int => Safe x.1) (fun hk => ?_) (fun n6 => ?_)
  · subst hk
    obtain rfl := al_rw (.inr (.inl rfl)) ha
    refine safe_lock h (by decide) (by decide) (fun x => { x with readers := x.readers.filter fun y => !decide (y = t) }) ⟨(lock_rd h.inv 2).1.filter _, fun y hy => (lock_rd h.inv 2).2 y (List.mem_filter.1 hy).1⟩ (h.own 2 (by decide) (by decide)) (fun e => ?_) (fun e => absurd e (by decide)) (fun e => absurd e (by decide)) (fun i i0 i1 hi => ⟨((h.new i i0 i1 hi).1 2 (by decide) (by decide)).1, fun hm => ((h.new i i0 i1 hi).1 2 (by decide) (by decide)).2 (List.mem_filter.1 hm).1⟩)
    show (lockAt s 2).readers.filter _ = []
    rw [h.excl 2 (by decide) (by decide) e]; rfl
  refine iteInduction (motive := fun x : SyncD × Int => Safe x.1) (fun hk => ?_) (fun n7 => ?_)
  · obtain ⟨r1, r2⟩ := run (by omega) (by omega)
    exact safe_tx h t (by omega) fun i i0 i1 hi => by rintro rfl; rw [r1] at hi; rcases hi with hi | hi <;> cases hi
  refine iteInduction (motive := fun x : SyncD × Int => Safe x.1) (fun hk => ?_) (fun n8 => ?_)
  · exact safe_tx h (-1) (by decide) fun i i0 i1 hi => by omega
  refine iteInduction (motive := fun x : SyncD × Int => Safe x.1) (fun hk => ?_) (fun n9 => ?_)
  · obtain ⟨r1, r2⟩ := run (by omega) (by omega)
    exact safe_thr h t0 t1 (fun x => { x with atomic := true }) (fun x hx => hx) (h.stat t t0 t1) (fun e => h.wait t t0 t1 e) (fun e => by have e : (thrAt s t).status = 0 ∨ (thrAt s t).status = 1 := e; rw [r1] at e; rcases e with e | e <;> cases e)
  refine iteInduction (motive := fun x : SyncD × Int => Safe x.1) (fun hk => ?_) (fun n10 => ?_)
  · obtain ⟨r1, r2⟩ := run (by omega) (by omega)
    exact safe_thr h t0 t1 (fun x => { x with atomic := false }) (fun x hx => hx) (h.stat t t0 t1) (fun e => h.wait t t0 t1 e) (fun e => by have e : (thrAt s t).status = 0 ∨ (thrAt s t).status = 1 := e; rw [r1] at e; rcases e with e | e <;> cases e)
  refine iteInduction (motive := fun x : SyncD × Int => Safe x.1) (fun hk => ?_) (fun n11 => ?_)
  · subst hk
    obtain rfl := al_cond (.inl rfl) ha
    have h1 : Safe { s with locks := setLock s 0 fun x => { x with owner := -1 } } :=
      safe_lock h (by decide) (by decide) (fun x => { x with owner := -1 }) (lock_rd h.inv 0) ⟨by show (-1 : Int) ≤ -1; decide, by show (-1 : Int) < 3; decide⟩ (fun e => absurd e (by show ¬ (0 : Int) ≤ -1; decide)) (fun e => h.mux 0 (by decide) e) (fun _ i i0 i1 hi => by show (-1 : Int) ≠ i; omega) (fun i i0 i1 hi => ⟨by show (-1 : Int) ≠ i; omega, ((h.new i i0 i1 hi).1 0 (by decide) (by decide)).2⟩)
    refine safe_thr h1 t0 t1 (fun x => { x with status := 3, cond := 0 }) (fun x hx => rfl) ⟨by show (0 : Int) ≤ 3; decide, by show (3 : Int) ≤ 5; decide⟩ (fun _ => ?_) (fun e => by rcases e with e | e <;> cases e)
    rw [lock_upd h.inv (by decide) (by decide) (by decide), if_pos rfl]
    show (-1 : Int) ≠ t
    omega
  refine iteInduction (motive := fun x : SyncD × Int => Safe x.1) (fun hk => ?_) (fun n12 => ?_)
  · subst hk
    obtain rfl := al_cond (.inr (.inl rfl)) ha
    have h1 : Safe { s with threads := setThr s t fun x => { x with status := 2, cond := 0 } } :=
      safe_thr h t0 t1 (fun x => { x with status := 2, cond := 0 }) (fun x hx => rfl) ⟨by show (0 : Int) ≤ 2; decide, by show (2 : Int) ≤ 5; decide⟩ (fun e => by rcases e with e | e <;> cases e) (fun e => by rcases e with e | e <;> cases e)
    have r1 : (thrAt { s with threads := setThr s t fun x => { x with status := 2, cond := 0 } } t).status = 2 := by rw [thr_upd h.inv t0 t1 t0, if_pos rfl]
    have hr : (lockAt s 0).readers = [] := h.mux 0 (by decide) (by decide)
    refine safe_lock h1 (o := 0) (by decide) (by decide) (fun x => { x with owner := t }) (lock_rd h.inv 0) ⟨by show -1 ≤ t; omega, t1⟩ (fun _ => hr) (fun _ => hr) (fun _ i i0 i1 hi => ?_) (fun i i0 i1 hi => ?_)
    · show t ≠ i
      rintro rfl; rw [r1] at hi; rcases hi with hi | hi <;> cases hi
    · refine ⟨?_, by show i ∉ (lockAt s 0).readers; rw [hr]; simp⟩
      show t ≠ i
      rintro rfl; rw [r1] at hi; rcases hi with hi | hi <;> cases hi
  refine iteInduction (motive := fun x : SyncD × Int => Safe x.1) (fun hk => ?_) (fun n13 => ?_)
  · subst hk
    obtain rfl := al_cond (.inr (.inr (.inl rfl))) ha
    show Safe { s with threads := wokenS s.threads 0 wake }
    unfold wokenS
    split
    · rename_i hp
      have hn : notifyS s.threads 0 wake = ((notifyS s.threads 0 wake).toNat : Int) := (Int.toNat_of_nonneg hp).symm
      obtain ⟨w1, w2⟩ := notify_waits hn
      rw [waits_iff h.inv.cond w1] at w2
      have w3 := of_decide_eq_true w2
      have w4 : notifyS s.threads 0 wake < 3 := by rw [h.inv.nt] at w1; omega
      have w5 : (thrAt s (notifyS s.threads 0 wake)).status = 3 := by rw [thrAt_get h.inv hp w4 w1]; exact w3
      exact safe_thr h hp w4 (fun x => { x with status := 4 }) (fun x hx => hx) ⟨by show (0 : Int) ≤ 4; decide, by show (4 : Int) ≤ 5; decide⟩ (fun _ => h.wait _ hp w4 (.inl w5)) (fun e => by rcases e with e | e <;> cases e)
    · exact h
  refine iteInduction (motive := fun x : SyncD × Int => Safe x.1) (fun hk => ?_) (fun n14 => ?_)
  · subst hk
    obtain rfl := al_cond (.inr (.inr (.inr rfl))) ha
    exact safe_all h
  refine iteInduction (motive := fun x : SyncD × Int => Safe x.1) (fun hk => ?_) (fun n15 => ?_)
  · obtain ⟨r1, r2⟩ := run (by omega) (by omega)
    subst hk
    have hin : inB o W0.threads.length = true := by simpa [allowedS] using ha
    obtain ⟨o0, o1⟩ := inB_iff.1 hin
    have o1 : o < 3 := o1
    have hs0 : (thrAt s o).status = 0 := by simp [readyS] at r2; exact r2.2
    exact safe_thr h o0 o1 (fun x => { x with status := 1 }) (fun x hx => hx) ⟨by show (0 : Int) ≤ 1; decide, by show (1 : Int) ≤ 5; decide⟩ (fun e => by rcases e with e | e <;> cases e) (fun _ => ⟨.inl hs0, rfl⟩)
  refine iteInduction (motive := fun x : SyncD × Int => Safe x.1) (fun hk => ?_) (fun n16 => ?_)
  · exact ⟨⟨h.inv.nl, by simpa using h.inv.nd, h.inv.nt, h.inv.cond, h.inv.rd⟩, h.own, h.excl, h.mux, h.stat, h.wait, h.new, h.tx⟩
  · exact h
end Go.Proofs.Ytadjimfkfmojkaa.Am

end
section
namespace Go.Proofs.Ytadjimfkfmojkaa.Am
set_option linter.unusedVariables false
set_option maxRecDepth 100000
def law08_ObjectPlays_t : Hints := ⟨fun k => if k = 14 then some [0, 3, 4, 5, 6] else none, fun k => if k = 6 then [0, 3, 4, 5, 6] else [], fun k => if k = 3 then [3] else if k = 9 then [11] else if k = 10 then [14] else [], fun k => if k = 4 then [0, 1, 0, 7, 0, 0, 63, 127] else if k = 14 then [0, 0, 1, 7] else []⟩
def law08_ObjectPlays_zt0 (vs_98 : List AV) (nx_32 : W.Kn) (L_104 : SH)  : Prop :=
 W.bin Try.prog Fl .add 3 (slotOf [0, 3, 4, 5, 6] vs_98 6) (.int .i64 1) fun t30_106 =>
 nx_32 [(slotOf [0, 3, 4, 5, 6] vs_98 0), (slotOf [0, 3, 4, 5, 6] vs_98 3), (slotOf [0, 3, 4, 5, 6] vs_98 4), (slotOf [0, 3, 4, 5, 6] vs_98 5), t30_106] L_104
def law08_ObjectPlays_c0 (Q : AV → SH → Prop) (vs_98 : List AV) (nx_32 : W.Kn) (t82_103 : AV) (L_104 : SH) : Prop :=
 W.un .not t82_103 fun t83_105 =>
 W.cond t83_105 (
 Q (.bool false) L_104) (
 (law08_ObjectPlays_zt0 vs_98 nx_32 L_104))
def law08_ObjectPlays_j1 (Q : AV → SH → Prop) (nx_32 : W.Kn) (vs_98 : List AV) (L_100 : SH) : Prop :=
 W.load true 6 (slotOf [0, 3, 4, 5, 6] vs_98 3) L_100 fun t80_101 =>
 W.load true 4 (slotOf [0, 3, 4, 5, 6] vs_98 4) L_100 fun t81_102 =>
 W.call Try.prog (.fn 30 []) [t80_101, t81_102] L_100 (law08_ObjectPlays_c0 Q vs_98 nx_32)
def law08_ObjectPlays_zt1 (t11_54 : AV) (L_95 : SH) (t14_66 : AV) (vs_31 : List AV) (j_99 : W.Kn)  : Prop :=
 (true = true) ∧ (
 W.calm [] ⟨0, (blocksOf t11_54), [], [], false, []⟩ (
 W.load true 4 t11_54 L_95 fun t78_107 =>
 W.note ⟨(blocksOf t11_54), [], [], []⟩ fun r_108 =>
 W.calm [⟨0, r_108.reads, r_108.writes, r_108.made, false, r_108.old⟩] ⟨1, (blocksOf t14_66), [], [], false, []⟩ (
 W.load true 4 t14_66 L_95 fun t79_109 =>
 W.note ⟨(blocksOf t14_66), [], [], []⟩ fun r_110 =>
 W.calm [⟨1, r_110.reads, r_110.writes, r_110.made, false, r_110.old⟩] ⟨2, (blocksOf (slotOf [0, 3, 4, 5, 6] vs_31 4)), (blocksOf (slotOf [0, 3, 4, 5, 6] vs_31 4)), [], false, []⟩ (
 W.store 4 (slotOf [0, 3, 4, 5, 6] vs_31 4) t78_107 L_95 fun L_111 =>
 W.note ⟨(blocksOf (slotOf [0, 3, 4, 5, 6] vs_31 4)), (blocksOf (slotOf [0, 3, 4, 5, 6] vs_31 4)), [], []⟩ fun r_112 =>
 W.calm [] ⟨3, (blocksOf (slotOf [0, 3, 4, 5, 6] vs_31 5)), (blocksOf (slotOf [0, 3, 4, 5, 6] vs_31 5)), [], false, []⟩ (
 W.store 4 (slotOf [0, 3, 4, 5, 6] vs_31 5) t79_109 L_111 fun L_113 =>
 W.note ⟨(blocksOf (slotOf [0, 3, 4, 5, 6] vs_31 5)), (blocksOf (slotOf [0, 3, 4, 5, 6] vs_31 5)), [], []⟩ fun r_114 =>
 j_99 [(slotOf [0, 3, 4, 5, 6] vs_31 0), (slotOf [0, 3, 4, 5, 6] vs_31 3), (slotOf [0, 3, 4, 5, 6] vs_31 4), (slotOf [0, 3, 4, 5, 6] vs_31 5), (slotOf [0, 3, 4, 5, 6] vs_31 6)] L_113)))))
def law08_ObjectPlays_zt2 (j_99 : W.Kn) (vs_31 : List AV) (L_95 : SH)  : Prop :=
 j_99 [(slotOf [0, 3, 4, 5, 6] vs_31 0), (slotOf [0, 3, 4, 5, 6] vs_31 3), (slotOf [0, 3, 4, 5, 6] vs_31 4), (slotOf [0, 3, 4, 5, 6] vs_31 5), (slotOf [0, 3, 4, 5, 6] vs_31 6)] L_95
def law08_ObjectPlays_zt3 (Q : AV → SH → Prop) (nx_32 : W.Kn) (t51_50 : AV) (t11_54 : AV) (L_95 : SH) (t14_66 : AV) (vs_31 : List AV)  : Prop :=
 W.join (law08_ObjectPlays_j1 Q nx_32) fun j_99 =>
 W.cond t51_50 (
 (law08_ObjectPlays_zt1 t11_54 L_95 t14_66 vs_31 j_99)) (
 (law08_ObjectPlays_zt2 j_99 vs_31 L_95))
def law08_ObjectPlays_c2 (t51_50 : AV) (t50_49 : AV) (t11_54 : AV) (Q : AV → SH → Prop) (nx_32 : W.Kn) (vs_31 : List AV) (t59_58 : AV) (L_59 : SH) : Prop :=
 W.ext 0 t59_58 fun t60_60 =>
 W.ext 1 t59_58 fun t61_61 =>
 W.ext 2 t59_58 fun t62_62 =>
 W.alloc [.nils, (.int .i64 0), .nils, .nils] L_59 fun t14_63 L_64 =>
 W.store 4 t14_63 t60_60 L_64 fun L_65 =>
 W.frz1 t14_63 L_65 fun t14_66 L_67 =>
 W.bin Try.prog Fl .neq 4 t51_50 t62_62 fun t65_68 =>
 W.grd t65_68 false (fun k_70 => k_70 t50_49 L_67) L_67 fun t67_69 L_71 =>
 W.grd t65_68 false (fun k_73 => k_73 t61_61 L_71) L_71 fun t68_72 L_74 =>
 W.grd t65_68 false (fun k_76 => W.bin Try.prog Fl .neq 2 t67_69 t68_72 fun v_78 =>
 k_76 v_78 L_74) L_74 fun t69_75 L_77 =>
 W.pick t65_68 (.bool true) t69_75 fun t70_79 =>
 W.grd t70_79 false (fun k_81 => W.load true 4 t11_54 L_77 fun v_83 =>
 k_81 v_83 L_77) L_77 fun t72_80 L_82 =>
 W.grd t70_79 false (fun k_85 => W.load true 4 t14_66 L_82 fun v_87 =>
 k_85 v_87 L_82) L_82 fun t73_84 L_86 =>
 W.grd t70_79 false (fun k_89 => W.call Try.prog (.fn 20 []) [t72_80, t73_84] L_86 fun v_91 L_92 =>
 k_89 v_91 L_92) L_86 fun t74_88 L_90 =>
 W.grd t70_79 false (fun k_94 => W.un .not t74_88 fun v_96 =>
 k_94 v_96 L_90) L_90 fun t75_93 L_95 =>
 W.pick t70_79 (.bool true) t75_93 fun t76_97 =>
 W.cond t76_97 (
 Q (.bool false) L_95) (
 (law08_ObjectPlays_zt3 Q nx_32 t51_50 t11_54 L_95 t14_66 vs_31))
def law08_ObjectPlays_c3 (vs_31 : List AV) (t37_40 : AV) (t38_41 : AV) (t39_42 : AV) (t40_43 : AV) (Q : AV → SH → Prop) (nx_32 : W.Kn) (t48_46 : AV) (L_47 : SH) : Prop :=
 W.ext 0 t48_46 fun t49_48 =>
 W.ext 1 t48_46 fun t50_49 =>
 W.ext 2 t48_46 fun t51_50 =>
 W.alloc [.nils, (.int .i64 0), .nils, .nils] L_47 fun t11_51 L_52 =>
 W.store 4 t11_51 t49_48 L_52 fun L_53 =>
 W.frz1 t11_51 L_53 fun t11_54 L_55 =>
 W.load true 6 (slotOf [0, 3, 4, 5, 6] vs_31 3) L_55 fun t53_56 =>
 W.load true 4 (slotOf [0, 3, 4, 5, 6] vs_31 5) L_55 fun t54_57 =>
 W.call Try.prog (.fn 29 []) [t53_56, t54_57, t37_40, t38_41, t39_42, t40_43] L_55 (law08_ObjectPlays_c2 t51_50 t50_49 t11_54 Q nx_32 vs_31)
def law08_ObjectPlays_c4 (vs_31 : List AV) (Q : AV → SH → Prop) (nx_32 : W.Kn) (t36_38 : AV) (L_39 : SH) : Prop :=
 W.ext 0 t36_38 fun t37_40 =>
 W.ext 1 t36_38 fun t38_41 =>
 W.ext 2 t36_38 fun t39_42 =>
 W.ext 3 t36_38 fun t40_43 =>
 W.load true 6 (slotOf [0, 3, 4, 5, 6] vs_31 3) L_39 fun t42_44 =>
 W.load true 4 (slotOf [0, 3, 4, 5, 6] vs_31 4) L_39 fun t43_45 =>
 W.call Try.prog (.fn 26 []) [t42_44, t43_45, t37_40, t38_41, t39_42, t40_43] L_39 (law08_ObjectPlays_c3 vs_31 t37_40 t38_41 t39_42 t40_43 Q nx_32)
def law08_ObjectPlays_zt4 (vs_31 : List AV) (L_33 : SH) (Q : AV → SH → Prop) (nx_32 : W.Kn)  : Prop :=
 W.idx 4 (slotOf [0, 3, 4, 5, 6] vs_31 0) (slotOf [0, 3, 4, 5, 6] vs_31 6) L_33 fun t34_36 =>
 W.load true 4 t34_36 L_33 fun t35_37 =>
 W.call Try.prog (.fn 28 []) [t35_37] L_33 (law08_ObjectPlays_c4 vs_31 Q nx_32)
def law08_ObjectPlays_c5 (Q : AV → SH → Prop) (t86_117 : AV) (L_118 : SH) : Prop :=
 W.grd t86_117 true (fun k_120 => W.call Try.prog (.fn 23 []) [] L_118 fun v_122 L_123 =>
 k_120 v_122 L_123) L_118 fun t88_119 L_121 =>
 W.pick t86_117 t88_119 (.bool false) fun t89_124 =>
 Q t89_124 L_121
def law08_ObjectPlays_zt5 (vs_31 : List AV) (L_33 : SH) (Q : AV → SH → Prop)  : Prop :=
 W.load true 6 (slotOf [0, 3, 4, 5, 6] vs_31 3) L_33 fun t84_115 =>
 W.load true 4 (slotOf [0, 3, 4, 5, 6] vs_31 4) L_33 fun t85_116 =>
 W.call Try.prog (.fn 30 []) [t84_115, t85_116] L_33 (law08_ObjectPlays_c5 Q)
def law08_ObjectPlays_l6 (Q : AV → SH → Prop) (vs_31 : List AV) (L_33 : SH) (nx_32 : W.Kn) : Prop :=
 W.len (slotOf [0, 3, 4, 5, 6] vs_31 0) fun t27_34 =>
 W.bin Try.prog Fl .lss 3 (slotOf [0, 3, 4, 5, 6] vs_31 6) t27_34 fun t28_35 =>
 W.cond t28_35 (
 (law08_ObjectPlays_zt4 vs_31 L_33 Q nx_32)) (
 (law08_ObjectPlays_zt5 vs_31 L_33 Q))
def law08_ObjectPlays_d7 (L_13 : SH) (r_16 : W.Fp) (r_14 : W.Fp) (r_10 : W.Fp) (t22_11 : AV) (Q : AV → SH → Prop) (t0 : AV) (t3_7 : AV) (t24_17 : AV) (L_19 : SH) (ks_18 : List Nat) : Prop :=
 W.note ⟨[], ks_18, [], L_13.names⟩ fun r_20 =>
 W.calm [⟨3, r_20.reads, r_20.writes, r_20.made, true, r_20.old⟩, ⟨2, r_16.reads, r_16.writes, r_16.made, false, r_16.old⟩, ⟨1, r_14.reads, r_14.writes, r_14.made, true, r_14.old⟩, ⟨0, r_10.reads, r_10.writes, r_10.made, false, r_10.old⟩] ⟨4, [], [], [], false, []⟩ (
 W.alloc [.nils, (.int .i64 0), .nils, .nils] L_19 fun t4_21 L_22 =>
 W.note ⟨[], [], (blocksOf t4_21), []⟩ fun r_23 =>
 W.calm [⟨4, r_23.reads, r_23.writes, r_23.made, false, r_23.old⟩, ⟨3, r_20.reads, r_20.writes, r_20.made, true, r_20.old⟩, ⟨2, r_16.reads, r_16.writes, r_16.made, false, r_16.old⟩, ⟨1, r_14.reads, r_14.writes, r_14.made, true, r_14.old⟩, ⟨0, r_10.reads, r_10.writes, r_10.made, false, r_10.old⟩] ⟨5, [], [], [], false, []⟩ (
 W.alloc [.nils, (.int .i64 0), .nils, .nils] L_22 fun t5_24 L_25 =>
 W.note ⟨[], [], (blocksOf t5_24), []⟩ fun r_26 =>
 W.calm [] ⟨6, (blocksOf t4_21), (blocksOf t4_21), [], false, []⟩ (
 W.store 4 t4_21 t22_11 L_25 fun L_27 =>
 W.note ⟨(blocksOf t4_21), (blocksOf t4_21), [], []⟩ fun r_28 =>
 W.calm [] ⟨7, (blocksOf t5_24), (blocksOf t5_24), [], false, []⟩ (
 W.store 4 t5_24 t24_17 L_27 fun L_29 =>
 W.note ⟨(blocksOf t5_24), (blocksOf t5_24), [], []⟩ fun r_30 =>
 W.loop (law08_ObjectPlays_l6 Q) [t0, t3_7, t4_21, t5_24, (.int .i64 0)] L_29))))
def law08_ObjectPlays_d8 (L_8 : SH) (r_10 : W.Fp) (t3_7 : AV) (Q : AV → SH → Prop) (t0 : AV) (t22_11 : AV) (L_13 : SH) (ks_12 : List Nat) : Prop :=
 W.note ⟨[], ks_12, [], L_8.names⟩ fun r_14 =>
 W.calm [⟨1, r_14.reads, r_14.writes, r_14.made, true, r_14.old⟩, ⟨0, r_10.reads, r_10.writes, r_10.made, false, r_10.old⟩] ⟨2, (blocksOf t3_7), [], [], false, []⟩ (
 W.load true 6 t3_7 L_13 fun t23_15 =>
 W.note ⟨(blocksOf t3_7), [], [], []⟩ fun r_16 =>
 W.dcall Try.prog [] 3 (.fn 22 []) [t23_15] L_13 (law08_ObjectPlays_d7 L_13 r_16 r_14 r_10 t22_11 Q t0 t3_7))
def law08_ObjectPlays_c9 (Q : AV → SH → Prop) (t0 : AV) (t20_2 : AV) (L_3 : SH) : Prop :=
 W.alloc [.nils, .nils, .nils, .nils, .nils, .nils] L_3 fun t3_4 L_5 =>
 W.store 6 t3_4 t20_2 L_5 fun L_6 =>
 W.frz1 t3_4 L_6 fun t3_7 L_8 =>
 (true = true) ∧ (
 W.calm [] ⟨0, (blocksOf t3_7), [], [], false, []⟩ (
 W.load true 6 t3_7 L_8 fun t21_9 =>
 W.note ⟨(blocksOf t3_7), [], [], []⟩ fun r_10 =>
 W.dcall Try.prog [] 1 (.fn 21 []) [t21_9] L_8 (law08_ObjectPlays_d8 L_8 r_10 t3_7 Q t0)))
def law08_ObjectPlays_w (t0 : AV) (L : SH) (Q : AV → SH → Prop) : Prop :=
 W.len t0 fun t18_0 =>
 W.bin Try.prog Fl .gtr 3 t18_0 (.int .i64 200) fun t19_1 =>
 W.cond t19_1 (
 Q (.bool true) L) (
 W.call Try.prog (.fn 24 []) [] L (law08_ObjectPlays_c9 Q t0))
theorem law08_ObjectPlays_e (t0 : AV) (L : SH) (Q : AV → SH → Prop) : W.func Try.prog Fl law08_ObjectPlays_t Try.f10 (Try.f10.body.getD .skip) [t0] L Q = law08_ObjectPlays_w t0 L Q := by kernel_rfl
theorem law08_ObjectPlays_ok (t0 : AV) (L : SH) (Q : AV → SH → Prop) (h : law08_ObjectPlays_w t0 L Q) : CallA Try.prog 10 [t0] L Q :=
  func_sound (ht := law08_ObjectPlays_t) fit Try.func10 (show Try.f10.body = some (Try.f10.body.getD .skip) by kernel_rfl) (Eq.mpr (law08_ObjectPlays_e t0 L Q) h)

def law08_world_t : Hints := ⟨fun k => none, fun k => [], fun k => [], fun k => []⟩
def law08_world_w (L : SH) (Q : AV → SH → Prop) : Prop :=
 W.alloc [.nils, .nils, .nils, .nils, .nils, .nils] L fun t0_0 L_1 =>
 W.build [(.str []), (.int .i64 0), (.int .i64 0), (.bool false), (.int .i64 0)] [(0, 1, (.str [120]))] fun t1_2 =>
 W.bslice 5 [(.str []), (.int .i64 0), (.int .i64 0), (.bool false), (.int .i64 0)] 1 [(0, t1_2)] L_1 fun t2_3 L_4 =>
 W.build [(.str []), (.bool false)] [(0, 1, (.str [109]))] fun t3_5 =>
 W.build [(.str []), (.bool false)] [(0, 1, (.str [110]))] fun t4_6 =>
 W.build [(.str []), (.bool false)] [(0, 1, (.str [114])), (1, 1, (.bool true))] fun t5_7 =>
 W.bslice 2 [(.str []), (.bool false)] 3 [(0, t3_5), (1, t4_6), (2, t5_7)] L_4 fun t6_8 L_9 =>
 W.build [(.str []), (.int .i64 0)] [(0, 1, (.str [99]))] fun t7_10 =>
 W.bslice 2 [(.str []), (.int .i64 0)] 1 [(0, t7_10)] L_9 fun t8_11 L_12 =>
 W.bslice 1 [(.str [])] 1 [(0, (.str [102]))] L_12 fun t9_13 L_14 =>
 W.bslice 1 [(.str [])] 3 [(0, (.str [116])), (1, (.str [117])), (2, (.str [119]))] L_14 fun t10_15 L_16 =>
 W.build [.nils, .nils, .nils, .nils, .nils, .nils] [(0, 1, t2_3), (1, 1, t6_8), (2, 1, t8_11), (3, 1, t9_13), (4, 1, t10_15)] fun t11_17 =>
 W.store 6 t0_0 t11_17 L_16 fun L_18 =>
 W.load true 6 t0_0 L_18 fun r_19 =>
 Q r_19 L_18
theorem law08_world_e (L : SH) (Q : AV → SH → Prop) : W.func Try.prog Fl law08_world_t Try.f24 (Try.f24.body.getD .skip) [] L Q = law08_world_w  L Q := by kernel_rfl
theorem law08_world_ok (L : SH) (Q : AV → SH → Prop) (h : law08_world_w  L Q) : CallA Try.prog 24 [] L Q :=
  func_sound (ht := law08_world_t) fit Try.func24 (show Try.f24.body = some (Try.f24.body.getD .skip) by kernel_rfl) (Eq.mpr (law08_world_e  L Q) h)

def law08_Event_try_t : Hints := ⟨fun k => if k = 20 then some [1, 6, 7] else if k = 10 then some [1, 6, 7, 19, 20] else none, fun k => [], fun k => if k = 0 then [1] else [], fun k => if k = 21 then [0, 1, 3, 7, 15, 0, 0, 0, 128, 384, 896, 1920, 3968, 31, 8255, 24703, 65535] else []⟩
def law08_Event_try_j0 (Q : AV → SH → Prop) (vs_15 : List AV) (L_17 : SH) : Prop :=
 (true = true) ∧ (
 W.faddr 0 (slotOf [1, 6, 7] vs_15 1) fun t37_18 =>
 W.calm [] ⟨1, (blocksOf t37_18), [], [], false, []⟩ (
 W.load false 1 t37_18 L_17 fun t38_19 =>
 W.note ⟨(blocksOf t37_18), [], [], []⟩ fun r_20 =>
 W.conv .u8 t38_19 fun t39_21 =>
 W.conv .i64 t39_21 fun t40_22 =>
 W.bin Try.prog Fl .rem 3 t40_22 (.int .i64 3) fun t41_23 =>
 W.faddr 3 (slotOf [1, 6, 7] vs_15 1) fun t44_24 =>
 W.calm [⟨1, r_20.reads, r_20.writes, r_20.made, false, r_20.old⟩] ⟨8, (blocksOf t44_24), [], [], false, []⟩ (
 W.load false 1 t44_24 L_17 fun t45_25 =>
 W.note ⟨(blocksOf t44_24), [], [], []⟩ fun r_26 =>
 W.conv .u8 t45_25 fun t46_27 =>
 W.conv .i64 t46_27 fun t47_28 =>
 W.bin Try.prog Fl .rem 3 t47_28 (.int .i64 4) fun t48_29 =>
 W.bin Try.prog Fl .sub 3 t48_29 (.int .i64 1) fun t49_30 =>
 Q (.tup [t41_23, (slotOf [1, 6, 7] vs_15 6), (slotOf [1, 6, 7] vs_15 7), t49_30]) L_17)))
def law08_Event_try_zt0 (t29_34 : AV) (j_16 : W.Kn) (vs_31 : List AV) (L_33 : SH)  : Prop :=
 W.cond t29_34 (
 j_16 [(slotOf [1, 6, 7, 19, 20] vs_31 1), (slotOf [1, 6, 7, 19, 20] vs_31 6), (.int .i64 0)] L_33) (
 j_16 [(slotOf [1, 6, 7, 19, 20] vs_31 1), (slotOf [1, 6, 7, 19, 20] vs_31 6), (slotOf [1, 6, 7, 19, 20] vs_31 7)] L_33)
def law08_Event_try_zt1 (t30_35 : AV) (j_16 : W.Kn) (vs_31 : List AV) (L_33 : SH)  : Prop :=
 W.cond t30_35 (
 j_16 [(slotOf [1, 6, 7, 19, 20] vs_31 1), (slotOf [1, 6, 7, 19, 20] vs_31 6), (.int .i64 0)] L_33) (
 j_16 [(slotOf [1, 6, 7, 19, 20] vs_31 1), (slotOf [1, 6, 7, 19, 20] vs_31 6), (slotOf [1, 6, 7, 19, 20] vs_31 7)] L_33)
def law08_Event_try_zt2 (t31_36 : AV) (j_16 : W.Kn) (vs_31 : List AV) (L_33 : SH)  : Prop :=
 W.cond t31_36 (
 j_16 [(slotOf [1, 6, 7, 19, 20] vs_31 1), (slotOf [1, 6, 7, 19, 20] vs_31 6), (.int .i64 0)] L_33) (
 j_16 [(slotOf [1, 6, 7, 19, 20] vs_31 1), (slotOf [1, 6, 7, 19, 20] vs_31 6), (slotOf [1, 6, 7, 19, 20] vs_31 7)] L_33)
def law08_Event_try_zt3 (t32_37 : AV) (j_16 : W.Kn) (vs_31 : List AV) (L_33 : SH)  : Prop :=
 W.cond t32_37 (
 j_16 [(slotOf [1, 6, 7, 19, 20] vs_31 1), (slotOf [1, 6, 7, 19, 20] vs_31 6), (.int .i64 0)] L_33) (
 j_16 [(slotOf [1, 6, 7, 19, 20] vs_31 1), (slotOf [1, 6, 7, 19, 20] vs_31 6), (slotOf [1, 6, 7, 19, 20] vs_31 7)] L_33)
def law08_Event_try_zt4 (t33_38 : AV) (j_16 : W.Kn) (vs_31 : List AV) (L_33 : SH)  : Prop :=
 W.cond t33_38 (
 j_16 [(slotOf [1, 6, 7, 19, 20] vs_31 1), (slotOf [1, 6, 7, 19, 20] vs_31 6), (.int .i64 0)] L_33) (
 j_16 [(slotOf [1, 6, 7, 19, 20] vs_31 1), (slotOf [1, 6, 7, 19, 20] vs_31 6), (slotOf [1, 6, 7, 19, 20] vs_31 7)] L_33)
def law08_Event_try_zt5 (t34_39 : AV) (j_16 : W.Kn) (vs_31 : List AV) (L_33 : SH)  : Prop :=
 W.cond t34_39 (
 j_16 [(slotOf [1, 6, 7, 19, 20] vs_31 1), (slotOf [1, 6, 7, 19, 20] vs_31 6), (.int .i64 0)] L_33) (
 j_16 [(slotOf [1, 6, 7, 19, 20] vs_31 1), (slotOf [1, 6, 7, 19, 20] vs_31 6), (slotOf [1, 6, 7, 19, 20] vs_31 7)] L_33)
def law08_Event_try_zt6 (t35_40 : AV) (j_16 : W.Kn) (vs_31 : List AV) (L_33 : SH)  : Prop :=
 W.cond t35_40 (
 j_16 [(slotOf [1, 6, 7, 19, 20] vs_31 1), (slotOf [1, 6, 7, 19, 20] vs_31 6), (.int .i64 0)] L_33) (
 j_16 [(slotOf [1, 6, 7, 19, 20] vs_31 1), (slotOf [1, 6, 7, 19, 20] vs_31 6), (slotOf [1, 6, 7, 19, 20] vs_31 7)] L_33)
def law08_Event_try_zt7 (vs_31 : List AV) (j_16 : W.Kn) (L_33 : SH)  : Prop :=
 W.bin Try.prog Fl .eql 3 (slotOf [1, 6, 7, 19, 20] vs_31 19) (.int .i64 23) fun t36_41 =>
 W.cond t36_41 (
 j_16 [(slotOf [1, 6, 7, 19, 20] vs_31 1), (slotOf [1, 6, 7, 19, 20] vs_31 6), (.int .i64 0)] L_33) (
 j_16 [(slotOf [1, 6, 7, 19, 20] vs_31 1), (slotOf [1, 6, 7, 19, 20] vs_31 6), (slotOf [1, 6, 7, 19, 20] vs_31 7)] L_33)
def law08_Event_try_zt8 (vs_31 : List AV) (j_16 : W.Kn) (L_33 : SH)  : Prop :=
 W.bin Try.prog Fl .eql 3 (slotOf [1, 6, 7, 19, 20] vs_31 19) (.int .i64 22) fun t35_40 =>
 W.cond t35_40 (
 (law08_Event_try_zt6 t35_40 j_16 vs_31 L_33)) (
 (law08_Event_try_zt7 vs_31 j_16 L_33))
def law08_Event_try_zt9 (vs_31 : List AV) (j_16 : W.Kn) (L_33 : SH)  : Prop :=
 W.bin Try.prog Fl .eql 3 (slotOf [1, 6, 7, 19, 20] vs_31 19) (.int .i64 19) fun t34_39 =>
 W.cond t34_39 (
 (law08_Event_try_zt5 t34_39 j_16 vs_31 L_33)) (
 (law08_Event_try_zt8 vs_31 j_16 L_33))
def law08_Event_try_zt10 (vs_31 : List AV) (j_16 : W.Kn) (L_33 : SH)  : Prop :=
 W.bin Try.prog Fl .eql 3 (slotOf [1, 6, 7, 19, 20] vs_31 19) (.int .i64 18) fun t33_38 =>
 W.cond t33_38 (
 (law08_Event_try_zt4 t33_38 j_16 vs_31 L_33)) (
 (law08_Event_try_zt9 vs_31 j_16 L_33))
def law08_Event_try_zt11 (vs_31 : List AV) (j_16 : W.Kn) (L_33 : SH)  : Prop :=
 W.bin Try.prog Fl .eql 3 (slotOf [1, 6, 7, 19, 20] vs_31 19) (.int .i64 17) fun t32_37 =>
 W.cond t32_37 (
 (law08_Event_try_zt3 t32_37 j_16 vs_31 L_33)) (
 (law08_Event_try_zt10 vs_31 j_16 L_33))
def law08_Event_try_zt12 (vs_31 : List AV) (j_16 : W.Kn) (L_33 : SH)  : Prop :=
 W.bin Try.prog Fl .eql 3 (slotOf [1, 6, 7, 19, 20] vs_31 19) (.int .i64 16) fun t31_36 =>
 W.cond t31_36 (
 (law08_Event_try_zt2 t31_36 j_16 vs_31 L_33)) (
 (law08_Event_try_zt11 vs_31 j_16 L_33))
def law08_Event_try_zt13 (vs_31 : List AV) (j_16 : W.Kn) (L_33 : SH)  : Prop :=
 W.bin Try.prog Fl .eql 3 (slotOf [1, 6, 7, 19, 20] vs_31 19) (.int .i64 4) fun t30_35 =>
 W.cond t30_35 (
 (law08_Event_try_zt1 t30_35 j_16 vs_31 L_33)) (
 (law08_Event_try_zt12 vs_31 j_16 L_33))
def law08_Event_try_zt14 (vs_31 : List AV) (j_16 : W.Kn) (L_33 : SH)  : Prop :=
 W.bin Try.prog Fl .eql 3 (slotOf [1, 6, 7, 19, 20] vs_31 19) (.int .i64 3) fun t29_34 =>
 W.cond t29_34 (
 (law08_Event_try_zt0 t29_34 j_16 vs_31 L_33)) (
 (law08_Event_try_zt13 vs_31 j_16 L_33))
def law08_Event_try_j1 (j_16 : W.Kn) (vs_31 : List AV) (L_33 : SH) : Prop :=
 W.cond (slotOf [1, 6, 7, 19, 20] vs_31 20) (
 j_16 [(slotOf [1, 6, 7, 19, 20] vs_31 1), (slotOf [1, 6, 7, 19, 20] vs_31 6), (.int .i64 (-1))] L_33) (
 (law08_Event_try_zt14 vs_31 j_16 L_33))
def law08_Event_try_zt15 (t13_9 : AV) (j_32 : W.Kn) (t1_2 : AV) (t18_14 : AV) (L_3 : SH)  : Prop :=
 W.bin Try.prog Fl .eql 3 t13_9 (.int .i64 14) fun t26_47 =>
 W.cond t26_47 (
 j_32 [t1_2, t13_9, t18_14, t13_9, t26_47] L_3) (
 W.bin Try.prog Fl .eql 3 t13_9 (.int .i64 15) fun t27_48 =>
 j_32 [t1_2, t13_9, t18_14, t13_9, t27_48] L_3)
def law08_Event_try_zt16 (t13_9 : AV) (j_32 : W.Kn) (t1_2 : AV) (t18_14 : AV) (L_3 : SH)  : Prop :=
 W.bin Try.prog Fl .eql 3 t13_9 (.int .i64 13) fun t25_46 =>
 W.cond t25_46 (
 j_32 [t1_2, t13_9, t18_14, t13_9, t25_46] L_3) (
 (law08_Event_try_zt15 t13_9 j_32 t1_2 t18_14 L_3))
def law08_Event_try_zt17 (t13_9 : AV) (j_32 : W.Kn) (t1_2 : AV) (t18_14 : AV) (L_3 : SH)  : Prop :=
 W.bin Try.prog Fl .eql 3 t13_9 (.int .i64 12) fun t24_45 =>
 W.cond t24_45 (
 j_32 [t1_2, t13_9, t18_14, t13_9, t24_45] L_3) (
 (law08_Event_try_zt16 t13_9 j_32 t1_2 t18_14 L_3))
def law08_Event_try_zt18 (t13_9 : AV) (j_32 : W.Kn) (t1_2 : AV) (t18_14 : AV) (L_3 : SH)  : Prop :=
 W.bin Try.prog Fl .eql 3 t13_9 (.int .i64 5) fun t23_44 =>
 W.cond t23_44 (
 j_32 [t1_2, t13_9, t18_14, t13_9, t23_44] L_3) (
 (law08_Event_try_zt17 t13_9 j_32 t1_2 t18_14 L_3))
def law08_Event_try_zt19 (t13_9 : AV) (j_32 : W.Kn) (t1_2 : AV) (t18_14 : AV) (L_3 : SH)  : Prop :=
 W.bin Try.prog Fl .eql 3 t13_9 (.int .i64 2) fun t22_43 =>
 W.cond t22_43 (
 j_32 [t1_2, t13_9, t18_14, t13_9, t22_43] L_3) (
 (law08_Event_try_zt18 t13_9 j_32 t1_2 t18_14 L_3))
def law08_Event_try_w (t0 : AV) (L : SH) (Q : AV → SH → Prop) : Prop :=
 W.box t0 L fun t1_0 L_1 =>
 W.frz1 t1_0 L_1 fun t1_2 L_3 =>
 W.faddr 1 t1_2 fun t8_4 =>
 W.load false 1 t8_4 L_3 fun t9_5 =>
 W.conv .u8 t9_5 fun t10_6 =>
 W.conv .i64 t10_6 fun t11_7 =>
 W.bin Try.prog Fl .rem 3 t11_7 (.int .i64 23) fun t12_8 =>
 W.bin Try.prog Fl .add 3 t12_8 (.int .i64 1) fun t13_9 =>
 W.faddr 2 t1_2 fun t14_10 =>
 W.load false 1 t14_10 L_3 fun t15_11 =>
 W.conv .u8 t15_11 fun t16_12 =>
 W.conv .i64 t16_12 fun t17_13 =>
 W.bin Try.prog Fl .rem 3 t17_13 (.int .i64 3) fun t18_14 =>
 W.join (law08_Event_try_j0 Q) fun j_16 =>
 W.join (law08_Event_try_j1 j_16) fun j_32 =>
 W.bin Try.prog Fl .eql 3 t13_9 (.int .i64 1) fun t21_42 =>
 W.cond t21_42 (
 j_32 [t1_2, t13_9, t18_14, t13_9, t21_42] L_3) (
 (law08_Event_try_zt19 t13_9 j_32 t1_2 t18_14 L_3))
theorem law08_Event_try_e (t0 : AV) (L : SH) (Q : AV → SH → Prop) : W.func Try.prog Fl law08_Event_try_t Try.f28 (Try.f28.body.getD .skip) [t0] L Q = law08_Event_try_w t0 L Q := by kernel_rfl
theorem law08_Event_try_ok (t0 : AV) (L : SH) (Q : AV → SH → Prop) (h : law08_Event_try_w t0 L Q) : CallA Try.prog 28 [t0] L Q :=
  func_sound (ht := law08_Event_try_t) fit Try.func28 (show Try.f28.body = some (Try.f28.body.getD .skip) by kernel_rfl) (Eq.mpr (law08_Event_try_e t0 L Q) h)

def law08_safe_t : Hints := ⟨fun k => none, fun k => if k = 10 then [2, 3, 5, 6, 7] else if k = 4 then [2, 3, 5] else if k = 15 then [2, 3, 8] else [], fun k => if k = 0 then [2, 3] else if k = 6 then [6] else if k = 17 then [9] else [], fun k => if k = 12 then [0, 1, 0, 7, 15, 31, 63, 127, 255, 127, 1023, 2047, 127, 4223, 12415, 32767, 65535, 131071, 262143, 524287, 1048575, 2097151, 4194303, 2097151, 16777215, 33554431, 2097151, 69206015, 2097151, 270532607, 1008730111, 2082471935, 4294967295, 8589934591, 17179869183] else []⟩
def law08_safe_zt0 (vs_162 : List AV) (nx_163 : W.Kn) (L_306 : SH)  : Prop :=
 W.bin Try.prog Fl .add 3 (slotOf [2, 3, 5, 6, 7] vs_162 7) (.int .i64 1) fun t78_309 =>
 nx_163 [(slotOf [2, 3, 5, 6, 7] vs_162 2), (slotOf [2, 3, 5, 6, 7] vs_162 3), (slotOf [2, 3, 5, 6, 7] vs_162 5), (slotOf [2, 3, 5, 6, 7] vs_162 6), t78_309] L_306
def law08_safe_zt1 (vs_162 : List AV) (L_164 : SH) (Q : AV → SH → Prop) (nx_163 : W.Kn)  : Prop :=
 (true = true) ∧ (
 W.faddr 1 (slotOf [2, 3, 5, 6, 7] vs_162 6) fun t79_169 =>
 W.calm [] ⟨1, (blocksOf t79_169), [], [], false, []⟩ (
 W.load false 1 t79_169 L_164 fun t80_170 =>
 W.note ⟨(blocksOf t79_169), [], [], []⟩ fun r_171 =>
 W.calm [] ⟨3, (slOf t80_170), [], [], false, []⟩ (
 W.idx 1 t80_170 (slotOf [2, 3, 5, 6, 7] vs_162 7) L_164 fun t82_172 =>
 W.note ⟨(slOf t80_170), [], [], []⟩ fun r_173 =>
 W.calm [] ⟨4, (blocksOf t82_172), [], [], false, []⟩ (
 W.load false 1 t82_172 L_164 fun t83_174 =>
 W.note ⟨(blocksOf t82_172), [], [], []⟩ fun r_175 =>
 W.bin Try.prog Fl .lss 3 t83_174 (.int .i64 0) fun t84_176 =>
 W.dgrd t84_176 false (fun k_178 => W.faddr 1 (slotOf [2, 3, 5, 6, 7] vs_162 6) fun v_181 =>
 k_178 v_181 L_164 ⟨[], [], [], []⟩) L_164 fun t86_177 L_180 r_179 =>
 W.dgrd t84_176 false (fun k_183 => W.calm [] ⟨8, (blocksOf t86_177), [], [], false, []⟩ (
 W.load false 1 t86_177 L_180 fun v_186 =>
 W.note ⟨(blocksOf t86_177), [], [], []⟩ fun r_187 =>
 k_183 v_186 L_180 r_187)) L_180 fun t87_182 L_185 r_184 =>
 W.dgrd t84_176 false (fun k_189 => k_189 (slotOf [2, 3, 5, 6, 7] vs_162 7) L_185 ⟨[], [], [], []⟩) L_185 fun t88_188 L_191 r_190 =>
 W.dgrd t84_176 false (fun k_193 => W.calm [] ⟨10, (slOf t87_182), [], [], false, []⟩ (
 W.idx 1 t87_182 t88_188 L_191 fun v_196 =>
 W.note ⟨(slOf t87_182), [], [], []⟩ fun r_197 =>
 k_193 v_196 L_191 r_197)) L_191 fun t89_192 L_195 r_194 =>
 W.dgrd t84_176 false (fun k_199 => W.calm [] ⟨11, (blocksOf t89_192), [], [], false, []⟩ (
 W.load false 1 t89_192 L_195 fun v_202 =>
 W.note ⟨(blocksOf t89_192), [], [], []⟩ fun r_203 =>
 k_199 v_202 L_195 r_203)) L_195 fun t90_198 L_201 r_200 =>
 W.dgrd t84_176 false (fun k_205 => W.faddr 4 (slotOf [2, 3, 5, 6, 7] vs_162 2) fun v_208 =>
 k_205 v_208 L_201 ⟨[], [], [], []⟩) L_201 fun t91_204 L_207 r_206 =>
 W.dgrd t84_176 false (fun k_210 => W.calm [⟨11, r_200.reads, r_200.writes, r_200.made, false, r_200.old⟩, ⟨10, r_194.reads, r_194.writes, r_194.made, false, r_194.old⟩, ⟨8, r_184.reads, r_184.writes, r_184.made, false, r_184.old⟩] ⟨13, (blocksOf t91_204), [], [], false, []⟩ (
 W.load false 1 t91_204 L_207 fun v_213 =>
 W.note ⟨(blocksOf t91_204), [], [], []⟩ fun r_214 =>
 k_210 v_213 L_207 r_214)) L_207 fun t92_209 L_212 r_211 =>
 W.dgrd t84_176 false (fun k_216 => W.len t92_209 fun v_219 =>
 k_216 v_219 L_212 ⟨[], [], [], []⟩) L_212 fun t93_215 L_218 r_217 =>
 W.dgrd t84_176 false (fun k_221 => W.bin Try.prog Fl .geq 3 t90_198 t93_215 fun v_224 =>
 k_221 v_224 L_218 ⟨[], [], [], []⟩) L_218 fun t94_220 L_223 r_222 =>
 W.pick t84_176 (.bool true) t94_220 fun t95_225 =>
 W.dgrd t95_225 false (fun k_227 => k_227 (slotOf [2, 3, 5, 6, 7] vs_162 7) L_223 ⟨[], [], [], []⟩) L_223 fun t97_226 L_229 r_228 =>
 W.dgrd t95_225 false (fun k_231 => W.bin Try.prog Fl .gtr 3 t97_226 (.int .i64 0) fun v_234 =>
 k_231 v_234 L_229 ⟨[], [], [], []⟩) L_229 fun t98_230 L_233 r_232 =>
 W.dgrd t95_225 false (fun k_236 => k_236 t98_230 L_233 ⟨[], [], [], []⟩) L_233 fun t99_235 L_238 r_237 =>
 W.dgrd t99_235 true (fun k_240 => W.faddr 1 (slotOf [2, 3, 5, 6, 7] vs_162 6) fun v_243 =>
 k_240 v_243 L_238 ⟨[], [], [], []⟩) L_238 fun t100_239 L_242 r_241 =>
 W.dgrd t99_235 true (fun k_245 => W.calm [] ⟨22, (blocksOf t100_239), [], [], false, []⟩ (
 W.load false 1 t100_239 L_242 fun v_248 =>
 W.note ⟨(blocksOf t100_239), [], [], []⟩ fun r_249 =>
 k_245 v_248 L_242 r_249)) L_242 fun t101_244 L_247 r_246 =>
 W.dgrd t99_235 true (fun k_251 => k_251 (slotOf [2, 3, 5, 6, 7] vs_162 7) L_247 ⟨[], [], [], []⟩) L_247 fun t102_250 L_253 r_252 =>
 W.dgrd t99_235 true (fun k_255 => W.calm [] ⟨24, (slOf t101_244), [], [], false, []⟩ (
 W.idx 1 t101_244 t102_250 L_253 fun v_258 =>
 W.note ⟨(slOf t101_244), [], [], []⟩ fun r_259 =>
 k_255 v_258 L_253 r_259)) L_253 fun t103_254 L_257 r_256 =>
 W.dgrd t99_235 true (fun k_261 => W.calm [] ⟨25, (blocksOf t103_254), [], [], false, []⟩ (
 W.load false 1 t103_254 L_257 fun v_264 =>
 W.note ⟨(blocksOf t103_254), [], [], []⟩ fun r_265 =>
 k_261 v_264 L_257 r_265)) L_257 fun t104_260 L_263 r_262 =>
 W.dgrd t99_235 true (fun k_267 => W.faddr 1 (slotOf [2, 3, 5, 6, 7] vs_162 6) fun v_270 =>
 k_267 v_270 L_263 ⟨[], [], [], []⟩) L_263 fun t105_266 L_269 r_268 =>
 W.dgrd t99_235 true (fun k_272 => W.calm [⟨25, r_262.reads, r_262.writes, r_262.made, false, r_262.old⟩, ⟨24, r_256.reads, r_256.writes, r_256.made, false, r_256.old⟩, ⟨22, r_246.reads, r_246.writes, r_246.made, false, r_246.old⟩] ⟨27, (blocksOf t105_266), [], [], false, []⟩ (
 W.load false 1 t105_266 L_269 fun v_275 =>
 W.note ⟨(blocksOf t105_266), [], [], []⟩ fun r_276 =>
 k_272 v_275 L_269 r_276)) L_269 fun t106_271 L_274 r_273 =>
 W.dgrd t99_235 true (fun k_278 => k_278 (slotOf [2, 3, 5, 6, 7] vs_162 7) L_274 ⟨[], [], [], []⟩) L_274 fun t107_277 L_280 r_279 =>
 W.dgrd t99_235 true (fun k_282 => W.bin Try.prog Fl .sub 3 t107_277 (.int .i64 1) fun v_285 =>
 k_282 v_285 L_280 ⟨[], [], [], []⟩) L_280 fun t108_281 L_284 r_283 =>
 W.dgrd t99_235 true (fun k_287 => W.calm [⟨25, r_262.reads, r_262.writes, r_262.made, false, r_262.old⟩, ⟨24, r_256.reads, r_256.writes, r_256.made, false, r_256.old⟩, ⟨22, r_246.reads, r_246.writes, r_246.made, false, r_246.old⟩] ⟨30, (slOf t106_271), [], [], false, []⟩ (
 W.idx 1 t106_271 t108_281 L_284 fun v_290 =>
 W.note ⟨(slOf t106_271), [], [], []⟩ fun r_291 =>
 k_287 v_290 L_284 r_291)) L_284 fun t109_286 L_289 r_288 =>
 W.dgrd t99_235 true (fun k_293 => W.calm [⟨25, r_262.reads, r_262.writes, r_262.made, false, r_262.old⟩, ⟨24, r_256.reads, r_256.writes, r_256.made, false, r_256.old⟩, ⟨22, r_246.reads, r_246.writes, r_246.made, false, r_246.old⟩] ⟨31, (blocksOf t109_286), [], [], false, []⟩ (
 W.load false 1 t109_286 L_289 fun v_296 =>
 W.note ⟨(blocksOf t109_286), [], [], []⟩ fun r_297 =>
 k_293 v_296 L_289 r_297)) L_289 fun t110_292 L_295 r_294 =>
 W.dgrd t99_235 true (fun k_299 => W.bin Try.prog Fl .leq 3 t104_260 t110_292 fun v_302 =>
 k_299 v_302 L_295 ⟨[], [], [], []⟩) L_295 fun t111_298 L_301 r_300 =>
 W.dgrd t95_225 false (fun k_304 => W.pick t99_235 t111_298 (.bool false) fun v_307 =>
 k_304 v_307 L_301 ⟨[], [], [], []⟩) L_301 fun t112_303 L_306 r_305 =>
 W.pick t95_225 (.bool true) t112_303 fun t113_308 =>
 W.cond t113_308 (
 Q (.bool false) L_306) (
 (law08_safe_zt0 vs_162 nx_163 L_306))))))
def law08_safe_zt2 (vs_162 : List AV) (nx_32 : W.Kn) (L_164 : SH)  : Prop :=
 W.bin Try.prog Fl .add 3 (slotOf [2, 3, 5, 6, 7] vs_162 5) (.int .i64 1) fun t29_310 =>
 nx_32 [(slotOf [2, 3, 5, 6, 7] vs_162 2), (slotOf [2, 3, 5, 6, 7] vs_162 3), t29_310] L_164
def law08_safe_l0 (Q : AV → SH → Prop) (nx_32 : W.Kn) (vs_162 : List AV) (L_164 : SH) (nx_163 : W.Kn) : Prop :=
 W.faddr 1 (slotOf [2, 3, 5, 6, 7] vs_162 6) fun t73_165 =>
 W.load false 1 t73_165 L_164 fun t74_166 =>
 W.len t74_166 fun t75_167 =>
 W.bin Try.prog Fl .lss 3 (slotOf [2, 3, 5, 6, 7] vs_162 7) t75_167 fun t76_168 =>
 W.cond t76_168 (
 (law08_safe_zt1 vs_162 L_164 Q nx_163)) (
 (law08_safe_zt2 vs_162 nx_32 L_164))
def law08_safe_zt3 (vs_31 : List AV) (L_33 : SH) (Q : AV → SH → Prop) (nx_32 : W.Kn)  : Prop :=
 W.faddr 0 (slotOf [2, 3, 5] vs_31 3) fun t30_38 =>
 W.load false 1 t30_38 L_33 fun t31_39 =>
 W.idx 2 t31_39 (slotOf [2, 3, 5] vs_31 5) L_33 fun t33_40 =>
 W.load true 2 t33_40 L_33 fun t34_41 =>
 W.alloc [(.int .i64 0), .nils] L_33 fun t6_42 L_43 =>
 W.store 2 t6_42 t34_41 L_43 fun L_44 =>
 W.frz1 t6_42 L_44 fun t6_45 L_46 =>
 W.faddr 0 t6_45 fun t35_47 =>
 W.load false 1 t35_47 L_46 fun t36_48 =>
 W.bin Try.prog Fl .lss 3 t36_48 (.int .i64 (-1)) fun t37_49 =>
 W.grd t37_49 false (fun k_51 => W.faddr 0 t6_45 fun v_53 =>
 k_51 v_53 L_46) L_46 fun t39_50 L_52 =>
 W.grd t37_49 false (fun k_55 => W.load false 1 t39_50 L_52 fun v_57 =>
 k_55 v_57 L_52) L_52 fun t40_54 L_56 =>
 W.grd t37_49 false (fun k_59 => W.faddr 4 (slotOf [2, 3, 5] vs_31 2) fun v_61 =>
 k_59 v_61 L_56) L_56 fun t41_58 L_60 =>
 W.grd t37_49 false (fun k_63 => W.load false 1 t41_58 L_60 fun v_65 =>
 k_63 v_65 L_60) L_60 fun t42_62 L_64 =>
 W.grd t37_49 false (fun k_67 => W.len t42_62 fun v_69 =>
 k_67 v_69 L_64) L_64 fun t43_66 L_68 =>
 W.grd t37_49 false (fun k_71 => W.bin Try.prog Fl .geq 3 t40_54 t43_66 fun v_73 =>
 k_71 v_73 L_68) L_68 fun t44_70 L_72 =>
 W.pick t37_49 (.bool true) t44_70 fun t45_74 =>
 W.grd t45_74 false (fun k_76 => W.faddr 0 t6_45 fun v_78 =>
 k_76 v_78 L_72) L_72 fun t47_75 L_77 =>
 W.grd t45_74 false (fun k_80 => W.load false 1 t47_75 L_77 fun v_82 =>
 k_80 v_82 L_77) L_77 fun t48_79 L_81 =>
 W.grd t45_74 false (fun k_84 => W.bin Try.prog Fl .geq 3 t48_79 (.int .i64 0) fun v_86 =>
 k_84 v_86 L_81) L_81 fun t49_83 L_85 =>
 W.grd t45_74 false (fun k_88 => k_88 t49_83 L_85) L_85 fun t50_87 L_89 =>
 W.grd t50_87 true (fun k_91 => W.faddr 1 t6_45 fun v_93 =>
 k_91 v_93 L_89) L_89 fun t51_90 L_92 =>
 W.grd t50_87 true (fun k_95 => W.load false 1 t51_90 L_92 fun v_97 =>
 k_95 v_97 L_92) L_92 fun t52_94 L_96 =>
 W.grd t50_87 true (fun k_99 => W.len t52_94 fun v_101 =>
 k_99 v_101 L_96) L_96 fun t53_98 L_100 =>
 W.grd t50_87 true (fun k_103 => W.bin Try.prog Fl .gtr 3 t53_98 (.int .i64 0) fun v_105 =>
 k_103 v_105 L_100) L_100 fun t54_102 L_104 =>
 W.grd t45_74 false (fun k_107 => W.pick t50_87 t54_102 (.bool false) fun v_109 =>
 k_107 v_109 L_104) L_104 fun t55_106 L_108 =>
 W.pick t45_74 (.bool true) t55_106 fun t56_110 =>
 W.grd t56_110 false (fun k_112 => W.faddr 1 (slotOf [2, 3, 5] vs_31 2) fun v_114 =>
 k_112 v_114 L_108) L_108 fun t58_111 L_113 =>
 W.grd t56_110 false (fun k_116 => W.load false 1 t58_111 L_113 fun v_118 =>
 k_116 v_118 L_113) L_113 fun t59_115 L_117 =>
 W.grd t56_110 false (fun k_120 => k_120 (slotOf [2, 3, 5] vs_31 5) L_117) L_117 fun t60_119 L_121 =>
 W.grd t56_110 false (fun k_123 => W.idx 2 t59_115 t60_119 L_121 fun v_125 =>
 k_123 v_125 L_121) L_121 fun t61_122 L_124 =>
 W.grd t56_110 false (fun k_127 => W.faddr 1 t61_122 fun v_129 =>
 k_127 v_129 L_124) L_124 fun t62_126 L_128 =>
 W.grd t56_110 false (fun k_131 => W.load false 1 t62_126 L_128 fun v_133 =>
 k_131 v_133 L_128) L_128 fun t63_130 L_132 =>
 W.grd t56_110 false (fun k_135 => W.un .not t63_130 fun v_137 =>
 k_135 v_137 L_132) L_132 fun t64_134 L_136 =>
 W.grd t56_110 false (fun k_139 => k_139 t64_134 L_136) L_136 fun t65_138 L_140 =>
 W.grd t65_138 true (fun k_142 => W.faddr 1 t6_45 fun v_144 =>
 k_142 v_144 L_140) L_140 fun t66_141 L_143 =>
 W.grd t65_138 true (fun k_146 => W.load false 1 t66_141 L_143 fun v_148 =>
 k_146 v_148 L_143) L_143 fun t67_145 L_147 =>
 W.grd t65_138 true (fun k_150 => W.len t67_145 fun v_152 =>
 k_150 v_152 L_147) L_147 fun t68_149 L_151 =>
 W.grd t65_138 true (fun k_154 => W.bin Try.prog Fl .gtr 3 t68_149 (.int .i64 0) fun v_156 =>
 k_154 v_156 L_151) L_151 fun t69_153 L_155 =>
 W.grd t56_110 false (fun k_158 => W.pick t65_138 t69_153 (.bool false) fun v_160 =>
 k_158 v_160 L_155) L_155 fun t70_157 L_159 =>
 W.pick t56_110 (.bool true) t70_157 fun t71_161 =>
 W.cond t71_161 (
 Q (.bool false) L_159) (
 W.loop (law08_safe_l0 Q nx_32) [(slotOf [2, 3, 5] vs_31 2), (slotOf [2, 3, 5] vs_31 3), (slotOf [2, 3, 5] vs_31 5), t6_45, (.int .i64 0)] L_159)
def law08_safe_zt4 (vs_311 : List AV) (nx_312 : W.Kn) (L_496 : SH)  : Prop :=
 W.bin Try.prog Fl .add 3 (slotOf [2, 3, 8] vs_311 8) (.int .i64 1) fun t120_499 =>
 nx_312 [(slotOf [2, 3, 8] vs_311 2), (slotOf [2, 3, 8] vs_311 3), t120_499] L_496
def law08_safe_c1 (t9_325 : AV) (vs_311 : List AV) (Q : AV → SH → Prop) (nx_312 : W.Kn) (t163_412 : AV) (L_413 : SH) : Prop :=
 W.ext 0 t163_412 fun t164_414 =>
 W.ext 1 t163_412 fun t165_415 =>
 W.faddr 0 t9_325 fun t166_416 =>
 W.load false 1 t166_416 L_413 fun t167_417 =>
 W.bin Try.prog Fl .eql 3 t167_417 (.int .i64 0) fun t168_418 =>
 W.grd t168_418 false (fun k_420 => W.faddr 0 t9_325 fun v_422 =>
 k_420 v_422 L_413) L_413 fun t170_419 L_421 =>
 W.grd t168_418 false (fun k_424 => W.load false 1 t170_419 L_421 fun v_426 =>
 k_424 v_426 L_421) L_421 fun t171_423 L_425 =>
 W.grd t168_418 false (fun k_428 => W.bin Try.prog Fl .eql 3 t171_423 (.int .i64 1) fun v_430 =>
 k_428 v_430 L_425) L_425 fun t172_427 L_429 =>
 W.pick t168_418 (.bool true) t172_427 fun t173_431 =>
 W.grd t173_431 true (fun k_433 => k_433 t164_414 L_429) L_429 fun t175_432 L_434 =>
 W.grd t173_431 true (fun k_436 => W.len t175_432 fun v_438 =>
 k_436 v_438 L_434) L_434 fun t176_435 L_437 =>
 W.grd t173_431 true (fun k_440 => W.bin Try.prog Fl .gtr 3 t176_435 (.int .i64 0) fun v_442 =>
 k_440 v_442 L_437) L_437 fun t177_439 L_441 =>
 W.grd t173_431 true (fun k_444 => k_444 t177_439 L_441) L_441 fun t178_443 L_445 =>
 W.grd t178_443 false (fun k_447 => k_447 t165_415 L_445) L_445 fun t179_446 L_448 =>
 W.grd t178_443 false (fun k_450 => W.len t179_446 fun v_452 =>
 k_450 v_452 L_448) L_448 fun t180_449 L_451 =>
 W.grd t178_443 false (fun k_454 => W.bin Try.prog Fl .gtr 3 t180_449 (.int .i64 0) fun v_456 =>
 k_454 v_456 L_451) L_451 fun t181_453 L_455 =>
 W.grd t173_431 true (fun k_458 => W.pick t178_443 (.bool true) t181_453 fun v_460 =>
 k_458 v_460 L_455) L_455 fun t182_457 L_459 =>
 W.grd t173_431 true (fun k_462 => k_462 t182_457 L_459) L_459 fun t183_461 L_463 =>
 W.grd t183_461 false (fun k_465 => W.faddr 1 (slotOf [2, 3, 8] vs_311 3) fun v_467 =>
 k_465 v_467 L_463) L_463 fun t184_464 L_466 =>
 W.grd t183_461 false (fun k_469 => W.load false 1 t184_464 L_466 fun v_471 =>
 k_469 v_471 L_466) L_466 fun t185_468 L_470 =>
 W.grd t183_461 false (fun k_473 => k_473 (slotOf [2, 3, 8] vs_311 8) L_470) L_470 fun t186_472 L_474 =>
 W.grd t183_461 false (fun k_476 => W.bin Try.prog Fl .eql 3 t185_468 t186_472 fun v_478 =>
 k_476 v_478 L_474) L_474 fun t187_475 L_477 =>
 W.grd t173_431 true (fun k_480 => W.pick t183_461 (.bool true) t187_475 fun v_482 =>
 k_480 v_482 L_477) L_477 fun t188_479 L_481 =>
 W.grd t173_431 true (fun k_484 => k_484 t188_479 L_481) L_481 fun t189_483 L_485 =>
 W.grd t189_483 false (fun k_487 => W.faddr 2 t9_325 fun v_489 =>
 k_487 v_489 L_485) L_485 fun t190_486 L_488 =>
 W.grd t189_483 false (fun k_491 => W.load false 1 t190_486 L_488 fun v_493 =>
 k_491 v_493 L_488) L_488 fun t191_490 L_492 =>
 W.grd t173_431 true (fun k_495 => W.pick t189_483 (.bool true) t191_490 fun v_497 =>
 k_495 v_497 L_492) L_492 fun t192_494 L_496 =>
 W.pick t173_431 t192_494 (.bool false) fun t193_498 =>
 W.cond t193_498 (
 Q (.bool false) L_496) (
 (law08_safe_zt4 vs_311 nx_312 L_496))
def law08_safe_zt5 (vs_311 : List AV) (L_407 : SH) (t9_325 : AV) (Q : AV → SH → Prop) (nx_312 : W.Kn)  : Prop :=
 W.load true 6 (slotOf [2, 3, 8] vs_311 2) L_407 fun t160_410 =>
 W.load true 4 (slotOf [2, 3, 8] vs_311 3) L_407 fun t161_411 =>
 W.call Try.prog (.fn 32 []) [t160_410, t161_411, (slotOf [2, 3, 8] vs_311 8)] L_407 (law08_safe_c1 t9_325 vs_311 Q nx_312)
def law08_safe_zt6 (vs_311 : List AV) (L_313 : SH) (Q : AV → SH → Prop) (nx_312 : W.Kn)  : Prop :=
 W.faddr 3 (slotOf [2, 3, 8] vs_311 3) fun t121_318 =>
 W.load false 1 t121_318 L_313 fun t122_319 =>
 W.idx 3 t122_319 (slotOf [2, 3, 8] vs_311 8) L_313 fun t124_320 =>
 W.load true 3 t124_320 L_313 fun t125_321 =>
 W.alloc [(.int .i64 0), (.int .i64 0), (.bool false)] L_313 fun t9_322 L_323 =>
 W.store 3 t9_322 t125_321 L_323 fun L_324 =>
 W.frz1 t9_322 L_324 fun t9_325 L_326 =>
 W.faddr 0 t9_325 fun t126_327 =>
 W.load false 1 t126_327 L_326 fun t127_328 =>
 W.bin Try.prog Fl .eql 3 t127_328 (.int .i64 3) fun t128_329 =>
 W.grd t128_329 false (fun k_331 => W.faddr 0 t9_325 fun v_333 =>
 k_331 v_333 L_326) L_326 fun t130_330 L_332 =>
 W.grd t128_329 false (fun k_335 => W.load false 1 t130_330 L_332 fun v_337 =>
 k_335 v_337 L_332) L_332 fun t131_334 L_336 =>
 W.grd t128_329 false (fun k_339 => W.bin Try.prog Fl .eql 3 t131_334 (.int .i64 4) fun v_341 =>
 k_339 v_341 L_336) L_336 fun t132_338 L_340 =>
 W.pick t128_329 (.bool true) t132_338 fun t133_342 =>
 W.faddr 0 t9_325 fun t134_343 =>
 W.load false 1 t134_343 L_340 fun t135_344 =>
 W.bin Try.prog Fl .lss 3 t135_344 (.int .i64 0) fun t136_345 =>
 W.grd t136_345 false (fun k_347 => W.faddr 0 t9_325 fun v_349 =>
 k_347 v_349 L_340) L_340 fun t138_346 L_348 =>
 W.grd t136_345 false (fun k_351 => W.load false 1 t138_346 L_348 fun v_353 =>
 k_351 v_353 L_348) L_348 fun t139_350 L_352 =>
 W.grd t136_345 false (fun k_355 => W.bin Try.prog Fl .gtr 3 t139_350 (.int .i64 5) fun v_357 =>
 k_355 v_357 L_352) L_352 fun t140_354 L_356 =>
 W.pick t136_345 (.bool true) t140_354 fun t141_358 =>
 W.grd t141_358 false (fun k_360 => W.faddr 1 t9_325 fun v_362 =>
 k_360 v_362 L_356) L_356 fun t143_359 L_361 =>
 W.grd t141_358 false (fun k_364 => W.load false 1 t143_359 L_361 fun v_366 =>
 k_364 v_366 L_361) L_361 fun t144_363 L_365 =>
 W.grd t141_358 false (fun k_368 => W.bin Try.prog Fl .neq 3 t144_363 (.int .i64 0) fun v_370 =>
 k_368 v_370 L_365) L_365 fun t145_367 L_369 =>
 W.pick t141_358 (.bool true) t145_367 fun t146_371 =>
 W.grd t146_371 false (fun k_373 => k_373 t133_342 L_369) L_369 fun t148_372 L_374 =>
 W.grd t146_371 false (fun k_376 => k_376 t148_372 L_374) L_374 fun t149_375 L_377 =>
 W.grd t149_375 true (fun k_379 => W.faddr 0 (slotOf [2, 3, 8] vs_311 3) fun v_381 =>
 k_379 v_381 L_377) L_377 fun t150_378 L_380 =>
 W.grd t149_375 true (fun k_383 => W.load false 1 t150_378 L_380 fun v_385 =>
 k_383 v_385 L_380) L_380 fun t151_382 L_384 =>
 W.grd t149_375 true (fun k_387 => W.idx 2 t151_382 (.int .i64 0) L_384 fun v_389 =>
 k_387 v_389 L_384) L_384 fun t152_386 L_388 =>
 W.grd t149_375 true (fun k_391 => W.faddr 0 t152_386 fun v_393 =>
 k_391 v_393 L_388) L_388 fun t153_390 L_392 =>
 W.grd t149_375 true (fun k_395 => W.load false 1 t153_390 L_392 fun v_397 =>
 k_395 v_397 L_392) L_392 fun t154_394 L_396 =>
 W.grd t149_375 true (fun k_399 => k_399 (slotOf [2, 3, 8] vs_311 8) L_396) L_396 fun t155_398 L_400 =>
 W.grd t149_375 true (fun k_402 => W.bin Try.prog Fl .eql 3 t154_394 t155_398 fun v_404 =>
 k_402 v_404 L_400) L_400 fun t156_401 L_403 =>
 W.grd t146_371 false (fun k_406 => W.pick t149_375 t156_401 (.bool false) fun v_408 =>
 k_406 v_408 L_403) L_403 fun t157_405 L_407 =>
 W.pick t146_371 (.bool true) t157_405 fun t158_409 =>
 W.cond t158_409 (
 Q (.bool false) L_407) (
 (law08_safe_zt5 vs_311 L_407 t9_325 Q nx_312))
def law08_safe_zt7 (vs_311 : List AV) (L_313 : SH) (Q : AV → SH → Prop)  : Prop :=
 W.faddr 1 (slotOf [2, 3, 8] vs_311 3) fun t194_500 =>
 W.load false 1 t194_500 L_313 fun t195_501 =>
 W.bin Try.prog Fl .geq 3 t195_501 (.int .i64 (-1)) fun t196_502 =>
 W.grd t196_502 true (fun k_504 => W.faddr 1 (slotOf [2, 3, 8] vs_311 3) fun v_506 =>
 k_504 v_506 L_313) L_313 fun t198_503 L_505 =>
 W.grd t196_502 true (fun k_508 => W.load false 1 t198_503 L_505 fun v_510 =>
 k_508 v_510 L_505) L_505 fun t199_507 L_509 =>
 W.grd t196_502 true (fun k_512 => W.faddr 4 (slotOf [2, 3, 8] vs_311 2) fun v_514 =>
 k_512 v_514 L_509) L_509 fun t200_511 L_513 =>
 W.grd t196_502 true (fun k_516 => W.load false 1 t200_511 L_513 fun v_518 =>
 k_516 v_518 L_513) L_513 fun t201_515 L_517 =>
 W.grd t196_502 true (fun k_520 => W.len t201_515 fun v_522 =>
 k_520 v_522 L_517) L_517 fun t202_519 L_521 =>
 W.grd t196_502 true (fun k_524 => W.bin Try.prog Fl .lss 3 t199_507 t202_519 fun v_526 =>
 k_524 v_526 L_521) L_521 fun t203_523 L_525 =>
 W.pick t196_502 t203_523 (.bool false) fun t204_527 =>
 Q t204_527 L_525
def law08_safe_l2 (Q : AV → SH → Prop) (vs_311 : List AV) (L_313 : SH) (nx_312 : W.Kn) : Prop :=
 W.faddr 3 (slotOf [2, 3, 8] vs_311 3) fun t115_314 =>
 W.load false 1 t115_314 L_313 fun t116_315 =>
 W.len t116_315 fun t117_316 =>
 W.bin Try.prog Fl .lss 3 (slotOf [2, 3, 8] vs_311 8) t117_316 fun t118_317 =>
 W.cond t118_317 (
 (law08_safe_zt6 vs_311 L_313 Q nx_312)) (
 (law08_safe_zt7 vs_311 L_313 Q))
def law08_safe_l3 (Q : AV → SH → Prop) (vs_31 : List AV) (L_33 : SH) (nx_32 : W.Kn) : Prop :=
 W.faddr 0 (slotOf [2, 3, 5] vs_31 3) fun t24_34 =>
 W.load false 1 t24_34 L_33 fun t25_35 =>
 W.len t25_35 fun t26_36 =>
 W.bin Try.prog Fl .lss 3 (slotOf [2, 3, 5] vs_31 5) t26_36 fun t27_37 =>
 W.cond t27_37 (
 (law08_safe_zt3 vs_31 L_33 Q nx_32)) (
 W.loop (law08_safe_l2 Q) [(slotOf [2, 3, 5] vs_31 2), (slotOf [2, 3, 5] vs_31 3), (.int .i64 0)] L_33)
def law08_safe_c4 (t2_4 : AV) (t3_6 : AV) (Q : AV → SH → Prop) (t15_10 : AV) (L_11 : SH) : Prop :=
 W.un .not t15_10 fun t16_12 =>
 W.grd t16_12 false (fun k_14 => W.load true 6 t2_4 L_11 fun v_16 =>
 k_14 v_16 L_11) L_11 fun t18_13 L_15 =>
 W.grd t16_12 false (fun k_18 => W.load true 4 t3_6 L_15 fun v_20 =>
 k_18 v_20 L_15) L_15 fun t19_17 L_19 =>
 W.grd t16_12 false (fun k_22 => W.call Try.prog (.fn 37 []) [t18_13, t19_17] L_19 fun v_24 L_25 =>
 k_22 v_24 L_25) L_19 fun t20_21 L_23 =>
 W.grd t16_12 false (fun k_27 => W.un .not t20_21 fun v_29 =>
 k_27 v_29 L_23) L_23 fun t21_26 L_28 =>
 W.pick t16_12 (.bool true) t21_26 fun t22_30 =>
 W.cond t22_30 (
 Q (.bool false) L_28) (
 W.loop (law08_safe_l3 Q) [t2_4, t3_6, (.int .i64 0)] L_28)
def law08_safe_w (t0 t1 : AV) (L : SH) (Q : AV → SH → Prop) : Prop :=
 W.box t0 L fun t2_0 L_1 =>
 W.box t1 L_1 fun t3_2 L_3 =>
 W.frz1 t2_0 L_3 fun t2_4 L_5 =>
 W.frz1 t3_2 L_5 fun t3_6 L_7 =>
 W.load true 6 t2_4 L_7 fun t13_8 =>
 W.load true 4 t3_6 L_7 fun t14_9 =>
 W.call Try.prog (.fn 38 []) [t13_8, t14_9] L_7 (law08_safe_c4 t2_4 t3_6 Q)
theorem law08_safe_e (t0 t1 : AV) (L : SH) (Q : AV → SH → Prop) : W.func Try.prog Fl law08_safe_t Try.f30 (Try.f30.body.getD .skip) [t0, t1] L Q = law08_safe_w t0 t1 L Q := by kernel_rfl
theorem law08_safe_ok (t0 t1 : AV) (L : SH) (Q : AV → SH → Prop) (h : law08_safe_w t0 t1 L Q) : CallA Try.prog 30 [t0, t1] L Q :=
  func_sound (ht := law08_safe_t) fit Try.func30 (show Try.f30.body = some (Try.f30.body.getD .skip) by kernel_rfl) (Eq.mpr (law08_safe_e t0 t1 L Q) h)

end Go.Proofs.Ytadjimfkfmojkaa.Am

end
section
namespace Go.Proofs.Ytadjimfkfmojkaa.Am
set_option maxRecDepth 100000
set_option linter.unusedSimpArgs false
set_option linter.unusedVariables false
set_option linter.unusedSectionVars false
theorem a_subE {P : Program} {F : TypeId → Option (List TypeId)} {t : TypeId} {k : IntKind} {a b m : Int} {K : AV → Prop} (e : k.wrap (a - b) = m) (h : K (.int k m)) : W.bin P F .sub t (.int k a) (.int k b) K := a_sub (by rw [e]; exact h)
theorem holds_new {s : SyncD} (h : Safe s) {i : Nat} (hi : i < 3) (hs : (thrAt s i).status = 0 ∨ (thrAt s i).status = 1) : holdsS W0 s i = ([], []) := by
  obtain ⟨c, _, _⟩ := h.new i (by omega) (by omega) hs
  unfold holdsS
  rw [fitsS_iff.2 h.inv.fit, show inB (i : Int) W0.threads.length = true from inB_iff.2 ⟨by omega, by show (i : Int) < 3; omega⟩]
  have e1 : wh (ownsS s i) s.locks.length = [] := by
    unfold wh
    rw [List.map_eq_nil_iff, List.filter_eq_nil_iff]
    intro j hj
    rw [List.mem_range, h.inv.nl] at hj
    have := (c j (by omega) (by omega)).1
    unfold ownsS
    unfold lockAt at this
    simpa using this
  have e2 : wh (readsS s i) s.locks.length = [] := by
    unfold wh
    rw [List.map_eq_nil_iff, List.filter_eq_nil_iff]
    intro j hj
    rw [List.mem_range, h.inv.nl] at hj
    have := (c j (by omega) (by omega)).2
    unfold readsS
    unfold lockAt at this
    simpa using this
  rw [e1, e2]; rfl
section
variable (s : SyncD) (h : Safe s) (Q : AV → SH → Prop) (hq : Q (.bool true) [])
include h hq
theorem safe_l2 : W.loop (law08_safe_l2 Q) [.pptr [W0.enc] 0 0, .pptr [s.enc] 0 0, .int .i64 (0 : Nat)] [] := by
  refine for_by s.threads.length (fun i => ([.pptr [W0.enc] 0 0, .pptr [s.enc] 0 0, .int .i64 i], [])) (fun _ => True) trivial rfl rfl ?_
  intro i hi _
  dsimp only
  unfold law08_safe_l2
  have h3 := h.inv.nt
  rcases Nat.lt_or_ge i s.threads.length with g1 | g1
  · have hd := dec_lt g1
    have hx := map_at (f := ThrD.enc) g1
    have hl0 : 0 < s.locks.length := by rw [h.inv.nl]; decide
    have hy := map_at (f := LockD.enc) hl0
    have ht : thrAt s (i : Int) = s.threads[i] := by unfold thrAt; simp [g1]
    have hlk : lockAt s 0 = s.locks[0] := by unfold lockAt; simp [hl0]
    have hst := h.stat i (by omega) (by omega)
    have hw := h.wait i (by omega) (by omega)
    have hn := h.new i (by omega) (by omega)
    have hc := h.inv.cond _ (List.getElem_mem g1)
    have hh := fun hs => holds_new h (i := i) (by omega) hs
    have hho := holds_ok W0 s i (by decide) (by rw [h.inv.nl]; decide) h.inv.small.rd
    rw [ht] at hst hw hn hh
    rw [hlk] at hw
    clear ht
    generalize s.threads[i] = T at hx hst hw hn hc hh
    obtain ⟨st, cd, at_⟩ := T
    dsimp only at hst hw hn hc hh
    subst hc
    have fin : ∃ j, i < j ∧ j ≤ s.threads.length ∧ True ∧ FzS [.pptr [W0.enc] 0 0, .pptr [s.enc] 0 0, .int .i64 (IntKind.i64.wrap ((i : Int) + 1))] [] [.pptr [W0.enc] 0 0, .pptr [s.enc] 0 0, .int .i64 j] [] := ⟨i + 1, by omega, by omega, trivial, fzs_eq (by rw [i64_succ g1 (by omega)]) rfl⟩
    have hcase : st = 0 ∨ st = 1 ∨ st = 2 ∨ st = 3 ∨ st = 4 ∨ st = 5 := by omega
    rcases hcase with rfl | rfl | rfl | rfl | rfl | rfl
    · rw [hh (.inl rfl)] at hho
      obtain ⟨_, ntx, nat_⟩ := hn (.inl rfl)
      subst nat_
      have dtx : decide (s.tx = (i : Int)) = false := decide_eq_false ntx
      repeat' (first | (refine h_load1 ?_; refine b_load_q ?_) | (refine h_faddr ?_; refine a_faddr_q ?_) | (refine h_bin ?_; first | refine a_eql ?_ | refine a_lss ?_ | refine a_neq ?_ | refine a_gtr ?_ | refine a_add ?_) | (refine h_cond ?_; first | refine b_cond_t ?_ | refine b_cond_f ?_) | (refine h_idx ?_; refine b_idx_n ?_) | (refine h_row ?_; refine b_row_q ?_) | (refine h_len ?_; refine a_len_m ?_) | (refine h_ext ?_; refine b_ext ?_) | (refine h_pick ?_; first | refine b_pick_t ?_ | refine b_pick_f ?_) | (refine h_grd ?_; first | refine b_grd_y ?_ | refine b_grd_n ?_) | refine a_mark ?_ | ((with_reducible refine h_fn 32 ?_); refine m_call (hho) ?_) | (refine h_frz1 ?_; refine b_frz_p ?_) | (refine h_store ?_; refine b_store_box ?_) | refine a_alloc (fun nb_ hnb_ => ?_))
      exact fin
    · rw [hh (.inr rfl)] at hho
      obtain ⟨_, ntx, nat_⟩ := hn (.inr rfl)
      subst nat_
      have dtx : decide (s.tx = (i : Int)) = false := decide_eq_false ntx
      repeat' (first | (refine h_load1 ?_; refine b_load_q ?_) | (refine h_faddr ?_; refine a_faddr_q ?_) | (refine h_bin ?_; first | refine a_eql ?_ | refine a_lss ?_ | refine a_neq ?_ | refine a_gtr ?_ | refine a_add ?_) | (refine h_cond ?_; first | refine b_cond_t ?_ | refine b_cond_f ?_) | (refine h_idx ?_; refine b_idx_n ?_) | (refine h_row ?_; refine b_row_q ?_) | (refine h_len ?_; refine a_len_m ?_) | (refine h_ext ?_; refine b_ext ?_) | (refine h_pick ?_; first | refine b_pick_t ?_ | refine b_pick_f ?_) | (refine h_grd ?_; first | refine b_grd_y ?_ | refine b_grd_n ?_) | refine a_mark ?_ | ((with_reducible refine h_fn 32 ?_); refine m_call (hho) ?_) | (refine h_frz1 ?_; refine b_frz_p ?_) | (refine h_store ?_; refine b_store_box ?_) | refine a_alloc (fun nb_ hnb_ => ?_))
      exact fin
    · unfold encH at hho
      repeat' (first | (refine h_load1 ?_; refine b_load_q ?_) | (refine h_faddr ?_; refine a_faddr_q ?_) | (refine h_bin ?_; first | refine a_eql ?_ | refine a_lss ?_ | refine a_neq ?_ | refine a_gtr ?_ | refine a_add ?_) | (refine h_cond ?_; first | refine b_cond_t ?_ | refine b_cond_f ?_) | (refine h_idx ?_; refine b_idx_n ?_) | (refine h_row ?_; refine b_row_q ?_) | (refine h_len ?_; refine a_len_m ?_) | (refine h_ext ?_; refine b_ext ?_) | (refine h_pick ?_; refine b_pick_f ?_) | (refine h_grd ?_; first | refine b_grd_y ?_ | refine b_grd_n ?_ | refine a_grd_u ?_) | refine a_mark ?_ | ((with_reducible refine h_fn 32 ?_); refine m_call (hho) ?_) | (refine h_frz1 ?_; refine b_frz_p ?_) | (refine h_store ?_; refine b_store_box ?_) | refine a_alloc (fun nb_ hnb_ => ?_))
      exact fin
    · unfold encH at hho
      have dow : decide (s.locks[0].owner = (i : Int)) = false := decide_eq_false (hw (.inl rfl))
      repeat' (first | (refine h_load1 ?_; refine b_load_q ?_) | (refine h_faddr ?_; refine a_faddr_q ?_) | (refine h_bin ?_; first | refine a_eql ?_ | refine a_lss ?_ | refine a_neq ?_ | refine a_gtr ?_ | refine a_add ?_) | (refine h_cond ?_; first | refine b_cond_t ?_ | refine b_cond_f ?_) | (refine h_idx ?_; refine b_idx_n ?_) | (refine h_row ?_; refine b_row_q ?_) | (refine h_len ?_; refine a_len_m ?_) | (refine h_ext ?_; refine b_ext ?_) | (refine h_pick ?_; first | refine b_pick_t ?_ | refine b_pick_f ?_) | (refine h_grd ?_; first | refine b_grd_y ?_ | refine b_grd_n ?_ | refine a_grd_u ?_) | refine a_mark ?_ | ((with_reducible refine h_fn 32 ?_); refine m_call (hho) ?_) | (refine h_frz1 ?_; refine b_frz_p ?_) | (refine h_store ?_; refine b_store_box ?_) | refine a_alloc (fun nb_ hnb_ => ?_))
      exact fin
    · unfold encH at hho
      have dow : decide (s.locks[0].owner = (i : Int)) = false := decide_eq_false (hw (.inr rfl))
      repeat' (first | (refine h_load1 ?_; refine b_load_q ?_) | (refine h_faddr ?_; refine a_faddr_q ?_) | (refine h_bin ?_; first | refine a_eql ?_ | refine a_lss ?_ | refine a_neq ?_ | refine a_gtr ?_ | refine a_add ?_) | (refine h_cond ?_; first | refine b_cond_t ?_ | refine b_cond_f ?_) | (refine h_idx ?_; refine b_idx_n ?_) | (refine h_row ?_; refine b_row_q ?_) | (refine h_len ?_; refine a_len_m ?_) | (refine h_ext ?_; refine b_ext ?_) | (refine h_pick ?_; first | refine b_pick_t ?_ | refine b_pick_f ?_) | (refine h_grd ?_; first | refine b_grd_y ?_ | refine b_grd_n ?_ | refine a_grd_u ?_) | refine a_mark ?_ | ((with_reducible refine h_fn 32 ?_); refine m_call (hho) ?_) | (refine h_frz1 ?_; refine b_frz_p ?_) | (refine h_store ?_; refine b_store_box ?_) | refine a_alloc (fun nb_ hnb_ => ?_))
      exact fin
    · unfold encH at hho
      repeat' (first | (refine h_load1 ?_; refine b_load_q ?_) | (refine h_faddr ?_; refine a_faddr_q ?_) | (refine h_bin ?_; first | refine a_eql ?_ | refine a_lss ?_ | refine a_neq ?_ | refine a_gtr ?_ | refine a_add ?_) | (refine h_cond ?_; first | refine b_cond_t ?_ | refine b_cond_f ?_) | (refine h_idx ?_; refine b_idx_n ?_) | (refine h_row ?_; refine b_row_q ?_) | (refine h_len ?_; refine a_len_m ?_) | (refine h_ext ?_; refine b_ext ?_) | (refine h_pick ?_; refine b_pick_f ?_) | (refine h_grd ?_; first | refine b_grd_y ?_ | refine b_grd_n ?_ | refine a_grd_u ?_) | refine a_mark ?_ | ((with_reducible refine h_fn 32 ?_); refine m_call (hho) ?_) | (refine h_frz1 ?_; refine b_frz_p ?_) | (refine h_store ?_; refine b_store_box ?_) | refine a_alloc (fun nb_ hnb_ => ?_))
      exact fin
  · have hd := dec_ge g1
    have d1 : decide (-1 ≤ s.tx) = true := decide_eq_true h.tx.1
    have d2 : decide (s.tx < ((W0.threads.length : Nat) : Int)) = true := decide_eq_true h.tx.2
    have hq' : Q (.bool (decide (s.tx < ((W0.threads.length : Nat) : Int)))) [] := by rw [d2]; exact hq
    repeat' (first | (refine h_load1 ?_; refine b_load_q ?_) | (refine h_faddr ?_; refine a_faddr_q ?_) | (refine h_bin ?_; first | refine a_lss ?_ | refine a_geq ?_) | (refine h_cond ?_; refine b_cond_f ?_) | (refine h_len ?_; refine a_len_m ?_) | (refine h_pick ?_; refine b_pick_t ?_) | (refine h_grd ?_; refine b_grd_y ?_))
    exact hq'
theorem safe_l0 (i : Nat) (g1 : i < s.locks.length) (hloc : RdOk s.locks[i]) (nx : W.Kn) (hnx : nx [.pptr [W0.enc] 0 0, .pptr [s.enc] 0 0, .int .i64 ((i + 1 : Nat) : Int)] []) :
    W.loop (law08_safe_l0 Q nx) [.pptr [W0.enc] 0 0, .pptr [s.enc] 0 0, .int .i64 i, .pptr [s.locks[i].enc] 0 0, .int .i64 (0 : Nat)] [] := by
  have h3 := h.inv.nl
  refine for_by s.locks[i].readers.length (fun k => ([.pptr [W0.enc] 0 0, .pptr [s.enc] 0 0, .int .i64 i, .pptr [s.locks[i].enc] 0 0, .int .i64 k], [])) (fun _ => True) trivial rfl rfl ?_
  intro k hk _
  dsimp only
  unfold law08_safe_l0
  have hrd3 := asc_len3 hloc.1 hloc.2
  rcases Nat.lt_or_ge k s.locks[i].readers.length with g2 | g2
  · have hd := dec_lt g2
    have hx := map_at (f := intE) g2
    obtain ⟨b0, b1⟩ := hloc.2 _ (List.getElem_mem g2)
    have d0 : decide (s.locks[i].readers[k] < 0) = false := decide_eq_false (by omega)
    have d1 : decide (((W0.threads.length : Nat) : Int) ≤ s.locks[i].readers[k]) = false := decide_eq_false (by show ¬ (3 : Int) ≤ _; omega)
    have fin : ∃ j, k < j ∧ j ≤ s.locks[i].readers.length ∧ True ∧ FzS [.pptr [W0.enc] 0 0, .pptr [s.enc] 0 0, .int .i64 i, .pptr [s.locks[i].enc] 0 0, .int .i64 (IntKind.i64.wrap ((k : Int) + 1))] [] [.pptr [W0.enc] 0 0, .pptr [s.enc] 0 0, .int .i64 i, .pptr [s.locks[i].enc] 0 0, .int .i64 j] [] := ⟨k + 1, by omega, by omega, trivial, fzs_eq (by rw [i64_succ g2 (by omega)]) rfl⟩
    rcases Nat.eq_zero_or_pos k with k0 | k0
    · have dk : decide ((0 : Int) < (k : Int)) = false := decide_eq_false (by omega)
      repeat' (first | (refine h_load1 ?_; refine b_load_q ?_) | (refine h_faddr ?_; refine a_faddr_q ?_) | (refine h_bin ?_; first | refine a_lss ?_ | refine a_geq ?_ | refine a_gtr ?_ | refine a_add ?_) | (refine h_cond ?_; first | refine b_cond_t ?_ | refine b_cond_f ?_) | (refine h_idx ?_; refine b_idx_n ?_) | (refine h_len ?_; refine a_len_m ?_) | (refine h_calm ?_; refine b_calm ?_) | (refine h_note ?_; refine a_note ?_) | (refine h_pick ?_; refine b_pick_f ?_) | (refine h_dgrd ?_; first | refine b_dgrd_y ?_ | refine b_dgrd_n ?_) | refine a_tt ?_)
      exact fin
    · have dk : decide ((0 : Int) < (k : Int)) = true := decide_eq_true (by omega)
      have hk1 : IntKind.i64.wrap ((k : Int) - 1) = ((k - 1 : Nat) : Int) := by rw [IntWalk.i64_in _ (by omega)]; omega
      have g3 : k - 1 < s.locks[i].readers.length := by omega
      have hy := map_at (f := intE) g3
      have hlt := (List.pairwise_iff_getElem.1 hloc.1) (k - 1) k g3 g2 (by omega)
      have dl : decide (s.locks[i].readers[k] ≤ s.locks[i].readers[k - 1]) = false := decide_eq_false (by omega)
      repeat' (first | refine a_subE hk1 ?_ | (refine h_load1 ?_; refine b_load_q ?_) | (refine h_faddr ?_; refine a_faddr_q ?_) | (refine h_bin ?_; first | refine a_lss ?_ | refine a_geq ?_ | refine a_gtr ?_ | refine a_leq ?_ | refine a_add ?_) | (refine h_cond ?_; first | refine b_cond_t ?_ | refine b_cond_f ?_) | (refine h_idx ?_; refine b_idx_n ?_) | (refine h_len ?_; refine a_len_m ?_) | (refine h_calm ?_; refine b_calm ?_) | (refine h_note ?_; refine a_note ?_) | (refine h_pick ?_; first | refine b_pick_t ?_ | refine b_pick_f ?_) | (refine h_dgrd ?_; refine b_dgrd_y ?_) | refine a_tt ?_)
      exact fin
  · have hd := dec_ge g2
    have hi1 : IntKind.i64.wrap ((i : Int) + 1) = ((i + 1 : Nat) : Int) := i64_succ g1 (by omega)
    rw [← hi1] at hnx
    repeat' (first | (refine h_load1 ?_; refine b_load_q ?_) | (refine h_faddr ?_; refine a_faddr_q ?_) | (refine h_bin ?_; first | refine a_lss ?_ | refine a_add ?_) | (refine h_cond ?_; refine b_cond_f ?_) | (refine h_len ?_; refine a_len_m ?_))
    exact hnx
theorem safe_l3 : W.loop (law08_safe_l3 Q) [.pptr [W0.enc] 0 0, .pptr [s.enc] 0 0, .int .i64 (0 : Nat)] [] := by
  refine for_by s.locks.length (fun i => ([.pptr [W0.enc] 0 0, .pptr [s.enc] 0 0, .int .i64 i], [])) (fun _ => True) trivial rfl rfl ?_
  intro i hi _
  dsimp only
  unfold law08_safe_l3
  have h3 := h.inv.nl
  rcases Nat.lt_or_ge i s.locks.length with g1 | g1
  · have hd := dec_lt g1
    have hx := map_at (f := LockD.enc) g1
    have hiw : i < W0.locks.length := by show i < 3; omega
    have hwr := map_at (f := LockI.enc) hiw
    have hlk : lockAt s (i : Int) = s.locks[i] := by unfold lockAt; simp [g1]
    obtain ⟨w0, w1⟩ := h.own i (by omega) (by omega)
    have hex := h.excl i (by omega) (by omega)
    have hmx := h.mux i (by omega)
    rw [hlk] at w0 w1 hex hmx
    have hrw : W0.locks[i].rw = false → i < 2 := fun e => by
      apply Classical.byContradiction
      intro hge
      have : i = 2 := by omega
      subst this
      cases e
    have hloc := h.inv.rd _ (List.getElem_mem g1)
    have d0 : decide (s.locks[i].owner < -1) = false := decide_eq_false (by omega)
    have d1 : decide (((W0.threads.length : Nat) : Int) ≤ s.locks[i].owner) = false := decide_eq_false (by show ¬ (3 : Int) ≤ _; omega)
    have hl0 := safe_l0 s h Q hq i g1 hloc (fun vs' L' => ∃ j : Nat, i < j ∧ j ≤ s.locks.length ∧ True ∧ FzS vs' L' [.pptr [W0.enc] 0 0, .pptr [s.enc] 0 0, .int .i64 j] []) ⟨i + 1, by omega, by omega, trivial, FzS.refl _ _⟩
    cases hr : decide ((0 : Int) < (s.locks[i].readers.length : Int)) with
    | true =>
      have hne : s.locks[i].readers ≠ [] := fun e => by rw [e] at hr; cases hr
      have dn : decide (0 ≤ s.locks[i].owner) = false := decide_eq_false fun e => hne (hex e)
      have drw : W0.locks[i].rw = true := by
        cases e : W0.locks[i].rw with
        | true => rfl
        | false => exact absurd (hmx (by have := hrw e; omega)) hne
      have nrw : (!W0.locks[i].rw) = false := by rw [drw]; rfl
      repeat' (first | (refine h_load1 ?_; refine b_load_q ?_) | (refine h_faddr ?_; refine a_faddr_q ?_) | (refine h_bin ?_; first | refine a_lss ?_ | refine a_geq ?_) | (refine h_cond ?_; first | refine b_cond_t ?_ | refine b_cond_f ?_) | (refine h_idx ?_; refine b_idx_n ?_) | (refine h_row ?_; refine b_row_q ?_) | (refine h_len ?_; refine a_len_m ?_) | (refine h_pick ?_; refine b_pick_f ?_) | (refine h_grd ?_; first | refine b_grd_y ?_ | refine b_grd_n ?_) | (refine h_un ?_; refine a_not ?_) | (refine h_frz1 ?_; refine b_frz_p ?_) | (refine h_store ?_; refine b_store_box ?_) | refine a_alloc (fun nb_ hnb_ => ?_))
      exact hl0
    | false =>
      cases dn : decide (0 ≤ s.locks[i].owner) <;> cases drw : W0.locks[i].rw
      all_goals
        first
        | (have nrw : (!W0.locks[i].rw) = true := by rw [drw]; rfl
           repeat' (first | (refine h_load1 ?_; refine b_load_q ?_) | (refine h_faddr ?_; refine a_faddr_q ?_) | (refine h_bin ?_; first | refine a_lss ?_ | refine a_geq ?_ | refine a_gtr ?_) | (refine h_cond ?_; first | refine b_cond_t ?_ | refine b_cond_f ?_) | (refine h_idx ?_; refine b_idx_n ?_) | (refine h_row ?_; refine b_row_q ?_) | (refine h_len ?_; refine a_len_m ?_) | (refine h_pick ?_; first | refine b_pick_t ?_ | refine b_pick_f ?_) | (refine h_grd ?_; first | refine b_grd_y ?_ | refine b_grd_n ?_) | (refine h_un ?_; refine a_not ?_) | (refine h_frz1 ?_; refine b_frz_p ?_) | (refine h_store ?_; refine b_store_box ?_) | refine a_alloc (fun nb_ hnb_ => ?_))
           exact hl0)
        | (have nrw : (!W0.locks[i].rw) = false := by rw [drw]; rfl
           repeat' (first | (refine h_load1 ?_; refine b_load_q ?_) | (refine h_faddr ?_; refine a_faddr_q ?_) | (refine h_bin ?_; first | refine a_lss ?_ | refine a_geq ?_ | refine a_gtr ?_) | (refine h_cond ?_; first | refine b_cond_t ?_ | refine b_cond_f ?_) | (refine h_idx ?_; refine b_idx_n ?_) | (refine h_row ?_; refine b_row_q ?_) | (refine h_len ?_; refine a_len_m ?_) | (refine h_pick ?_; first | refine b_pick_t ?_ | refine b_pick_f ?_) | (refine h_grd ?_; first | refine b_grd_y ?_ | refine b_grd_n ?_) | (refine h_un ?_; refine a_not ?_) | (refine h_frz1 ?_; refine b_frz_p ?_) | (refine h_store ?_; refine b_store_box ?_) | refine a_alloc (fun nb_ hnb_ => ?_))
           exact hl0)
  · have hd := dec_ge g1
    repeat' (first | (refine h_load1 ?_; refine b_load_q ?_) | (refine h_faddr ?_; refine a_faddr_q ?_) | (refine h_bin ?_; refine a_lss ?_) | (refine h_cond ?_; refine b_cond_f ?_) | (refine h_len ?_; refine a_len_m ?_))
    exact safe_l2 s h Q hq
end
theorem safe_ok (s : SyncD) (h : Safe s) : PureA Try.prog 30 [.agg W0.enc, .agg s.enc] (.bool true) := by
  refine law08_safe_ok _ _ _ _ ?_
  unfold law08_safe_w
  generalize hQ : (fun (u : AV) (K : SH) => u = AV.bool true ∧ K = []) = Q
  have hq : Q (.bool true) [] := by subst hQ; exact ⟨rfl, rfl⟩
  have hf : fitsS W0 s = true := fitsS_iff.2 h.inv.fit
  have f1 := fits_ok W0 s (by decide)
  have f2 := fitsR_ok W0 s (by decide)
  rw [hf] at f1 f2
  repeat' (first | (refine h_cond ?_; refine b_cond_f ?_) | (refine h_row ?_; refine b_row_q ?_) | (refine h_pick ?_; refine b_pick_f ?_) | (refine h_grd ?_; refine b_grd_y ?_) | refine a_mark ?_ | ((with_reducible refine h_fn 37 ?_); refine m_call (f1) ?_) | ((with_reducible refine h_fn 38 ?_); refine m_call (f2) ?_) | (refine h_un ?_; refine a_not ?_) | (refine h_box ?_; refine b_box (fun nb_ hnb_ => ?_)) | (refine h_frz1 ?_; refine b_frz_p ?_))
  exact safe_l3 s h Q hq
end Go.Proofs.Ytadjimfkfmojkaa.Am

end
section
namespace Go.Proofs.Ytadjimfkfmojkaa.Am
set_option maxRecDepth 100000
set_option linter.unusedSimpArgs false
set_option linter.unusedVariables false
theorem world_ok : PureA Try.prog 24 [] (.agg W0.enc) := by
  refine CallA.fz (law08_world_ok _ _ ?_)
  unfold law08_world_w
  repeat' (first | (refine h_row ?_; refine b_row_p ?_) | (refine h_store ?_; refine b_store_box ?_) | (refine h_bslice ?_; refine b_bslice (fun nb_ hnb_ => ?_)) | refine a_alloc (fun nb_ hnb_ => ?_) | refine b_build ?_)
  exact ⟨_, [], FzS.all (Fz.aggs (.cons (Fz.sls (l := W0.cells) (f := CellD.enc) (by repeat constructor) rfl (by decide) rfl) (.cons (Fz.sls (l := W0.locks) (f := LockI.enc) (by repeat constructor) rfl (by decide) rfl) (.cons (Fz.sls (l := W0.conds) (f := CondI.enc) (by repeat constructor) rfl (by decide) rfl) (.cons (Fz.sls (l := W0.futures) (f := strE) (by repeat constructor) rfl (by decide) rfl) (.cons (Fz.sls (l := W0.threads) (f := strE) (by repeat constructor) rfl (by decide) rfl) (.cons .nils .nil))))))), rfl, rfl⟩
structure EvD where
  thread : Int
  kind : Int
  obj : Int
  wake : Int
def EvD.enc (e : EvD) : List AV := [.int .i8 e.thread, .int .i8 e.kind, .int .i8 e.obj, .int .i8 e.wake]
theorem try_ok (e : EvD) : CallA Try.prog 28 [.agg e.enc] [] fun v L => ∃ t k o wake : Int, v = .tup [.int .i64 t, .int .i64 k, .int .i64 o, .int .i64 wake] ∧ L = [] := by
  refine law08_Event_try_ok _ _ _ ?_
  unfold law08_Event_try_w
  generalize hQ : (fun (v : AV) (L : SH) => ∃ t k o wake : Int, v = .tup [.int .i64 t, .int .i64 k, .int .i64 o, .int .i64 wake] ∧ L = []) = Q
  have hj : ∀ k o : Int, law08_Event_try_j0 Q [.pptr [e.enc] 0 0, .int .i64 k, .int .i64 o] [] := fun k o => by
    unfold law08_Event_try_j0
    repeat' (first | (refine h_load1 ?_; refine b_load_q ?_) | (refine h_faddr ?_; refine a_faddr_q ?_) | (refine h_bin ?_; first | refine a_sub ?_ | refine b_rem ?_) | (refine h_calm ?_; refine b_calm ?_) | (refine h_note ?_; refine a_note ?_) | refine a_conv ?_ | refine a_tt ?_)
    subst hQ
    exact ⟨_, _, _, _, rfl, rfl⟩
  have hj1 : ∀ (k o : Int) (b : Bool), law08_Event_try_j1 (law08_Event_try_j0 Q) [.pptr [e.enc] 0 0, .int .i64 k, .int .i64 o, .int .i64 k, .bool b] [] := fun k o b => by
    unfold law08_Event_try_j1
    repeat' (first | exact hj _ _ | (refine h_bin ?_; refine a_eql ?_) | (refine h_cond ?_; first | refine b_cond_t ?_ | refine a_cond (fun h => ?_) (fun h => ?_)))
  repeat' (first | exact hj1 _ _ _ | (refine h_load1 ?_; refine b_load_q ?_) | (refine h_faddr ?_; refine a_faddr_q ?_) | (refine h_bin ?_; first | refine a_eql ?_ | refine a_add ?_ | refine b_rem ?_) | (refine h_cond ?_; refine a_cond (fun h => ?_) (fun h => ?_)) | (refine h_box ?_; refine b_box (fun nb_ hnb_ => ?_)) | (refine h_frz1 ?_; refine b_frz_p ?_) | refine a_conv ?_ | refine a_join ?_)
end Go.Proofs.Ytadjimfkfmojkaa.Am

end
