/- A part of the proof; the statement is proved in the last part. -/
import Derived.Test.YtadjimfkfmojkaaQ7d
set_option linter.unusedSimpArgs false
set_option linter.unusedVariables false
section
namespace Go.Proofs.Ytadjimfkfmojkaa.Am
set_option maxRecDepth 100000
set_option linter.unusedSimpArgs false
set_option linter.unusedVariables false
def lockAt (s : SyncD) (o : Int) : LockD := s.locks.getD o.toNat default
def thrAt (s : SyncD) (o : Int) : ThrD := s.threads.getD o.toNat default
def doneAt (s : SyncD) (o : Int) : Bool := s.done.getD o.toNat default
def mxAt (w : WorldD) (o : Int) : Int := (w.conds.getD o.toNat default).mutex
def readyS (w : WorldD) (s : SyncD) (t k o : Int) : Bool :=
  if k = 6 then decide ((lockAt s o).owner = -1)
  else if k = 10 then decide ((lockAt s o).owner = -1) && decide ((lockAt s o).readers.length = 0)
  else if k = 8 then decide ((lockAt s o).owner = -1) && !(lockAt s o).readers.contains t
  else if k = 7 ∨ k = 11 then decide ((lockAt s o).owner = t)
  else if k = 9 then (lockAt s o).readers.contains t
  else if k = 12 then decide (s.tx = -1)
  else if k = 13 then decide (s.tx = t)
  else if k = 14 then !(thrAt s t).atomic
  else if k = 15 then (thrAt s t).atomic
  else if k = 16 ∨ k = 18 ∨ k = 19 then decide ((lockAt s (mxAt w o)).owner = t)
  else if k = 20 then decide (o ≠ t) && decide ((thrAt s o).status = 0)
  else if k = 21 then decide (o ≠ t) && decide ((thrAt s o).status = 5)
  else if k = 22 then !doneAt s o
  else if k = 23 then doneAt s o
  else true
def enabledS (w : WorldD) (s : SyncD) (t k o : Int) : Bool :=
  fitsS w s && inB t w.threads.length && allowedS w k o &&
    (if k = 1 then decide ((thrAt s t).status = 1)
     else if k = 17 then decide ((thrAt s t).status = 4) && decide ((thrAt s t).cond = o) && decide ((lockAt s (mxAt w o)).owner = -1)
     else decide ((thrAt s t).status = 2) && readyS w s t k o)
/-- what a state that fits gives -/
structure FitD (w : WorldD) (s : SyncD) : Prop where
  locks : s.locks.length = w.locks.length
  done : s.done.length = w.futures.length
  threads : s.threads.length = w.threads.length
  conds : ∀ c ∈ w.conds, inB c.mutex w.locks.length = true
theorem fitsS_iff {w : WorldD} {s : SyncD} : fitsS w s = true ↔ FitD w s := by
  simp only [fitsS, Bool.and_eq_true, decide_eq_true_eq, List.all_eq_true]
  exact ⟨fun ⟨⟨⟨h1, h2⟩, h3⟩, h4⟩ => ⟨h1, h2, h3, h4⟩, fun ⟨h1, h2, h3, h4⟩ => ⟨⟨⟨h1, h2⟩, h3⟩, h4⟩⟩
theorem mx_in {w : WorldD} {s : SyncD} (h : FitD w s) {o : Int} (ho : inB o w.conds.length = true) : inB (mxAt w o) s.locks.length = true := by
  obtain ⟨h1, h2⟩ := inB_iff.1 ho
  have hlt : o.toNat < w.conds.length := by omega
  rw [h.locks]
  have : w.conds.getD o.toNat default = w.conds[o.toNat] := by simp [hlt]
  unfold mxAt
  rw [this]
  exact h.conds _ (List.getElem_mem hlt)
theorem rd_small {s : SyncD} (hr : ∀ l ∈ s.locks, l.readers.length < 2 ^ 40) (o : Int) : (lockAt s o).readers.length < 2 ^ 62 := by
  unfold lockAt
  rcases Nat.lt_or_ge o.toNat s.locks.length with h | h
  · have := hr _ (List.getElem_mem h)
    simp [h]; omega
  · simp [List.getD, List.getElem?_eq_none h]; decide
theorem ready_1 (w : WorldD) (s : SyncD) (t o : Int) (hf : FitD w s) (ht : inB t w.threads.length = true) (hr : ∀ l ∈ s.locks, l.readers.length < 2 ^ 40) (ha : allowedS w 1 o = true) (Q : AV → SH → Prop) (hq : Q (.bool (readyS w s t 1 o)) []) : object_ready_w (.agg w.enc) (.agg s.enc) (.int .i64 t) (.int .i64 1) (.int .i64 o) [] Q := by
  unfold object_ready_w
  have ht' : inB t s.threads.length = true := by rw [hf.threads]; exact ht
  have hrd := rd_small hr
  simp only [readyS, lockAt, thrAt, doneAt, mxAt, Int.reduceEq, Int.reduceNeg, if_true, if_false, or_self, or_true, true_or, or_false, false_or, reduceIte, reduceCtorEq] at hq
  repeat' (first | (refine h_bin ?_; refine a_eql ?_) | (refine h_cond ?_; refine b_cond_f ?_) | (refine h_box ?_; refine b_box (fun nb_ hnb_ => ?_)) | (refine h_frz1 ?_; refine b_frz_p ?_) | refine a_join ?_)
  all_goals first | exact hq | (refine Eq.mp (congrArg (fun b => Q (AV.bool b) []) ?_) hq; clear hq; first | (have h' := of_decide_eq_true h; simp [h']; done) | (have h' := of_decide_eq_false h; simp [h']; done) | (simp [h]; done) | (simp_all; done))
theorem ready_2 (w : WorldD) (s : SyncD) (t o : Int) (hf : FitD w s) (ht : inB t w.threads.length = true) (hr : ∀ l ∈ s.locks, l.readers.length < 2 ^ 40) (ha : allowedS w 2 o = true) (Q : AV → SH → Prop) (hq : Q (.bool (readyS w s t 2 o)) []) : object_ready_w (.agg w.enc) (.agg s.enc) (.int .i64 t) (.int .i64 2) (.int .i64 o) [] Q := by
  unfold object_ready_w
  have ht' : inB t s.threads.length = true := by rw [hf.threads]; exact ht
  have hrd := rd_small hr
  simp only [readyS, lockAt, thrAt, doneAt, mxAt, Int.reduceEq, Int.reduceNeg, if_true, if_false, or_self, or_true, true_or, or_false, false_or, reduceIte, reduceCtorEq] at hq
  repeat' (first | (refine h_bin ?_; refine a_eql ?_) | (refine h_cond ?_; refine b_cond_f ?_) | (refine h_box ?_; refine b_box (fun nb_ hnb_ => ?_)) | (refine h_frz1 ?_; refine b_frz_p ?_) | refine a_join ?_)
  all_goals first | exact hq | (refine Eq.mp (congrArg (fun b => Q (AV.bool b) []) ?_) hq; clear hq; first | (have h' := of_decide_eq_true h; simp [h']; done) | (have h' := of_decide_eq_false h; simp [h']; done) | (simp [h]; done) | (simp_all; done))
theorem ready_3 (w : WorldD) (s : SyncD) (t o : Int) (hf : FitD w s) (ht : inB t w.threads.length = true) (hr : ∀ l ∈ s.locks, l.readers.length < 2 ^ 40) (ha : allowedS w 3 o = true) (Q : AV → SH → Prop) (hq : Q (.bool (readyS w s t 3 o)) []) : object_ready_w (.agg w.enc) (.agg s.enc) (.int .i64 t) (.int .i64 3) (.int .i64 o) [] Q := by
  unfold object_ready_w
  have ht' : inB t s.threads.length = true := by rw [hf.threads]; exact ht
  have hrd := rd_small hr
  simp only [readyS, lockAt, thrAt, doneAt, mxAt, Int.reduceEq, Int.reduceNeg, if_true, if_false, or_self, or_true, true_or, or_false, false_or, reduceIte, reduceCtorEq] at hq
  repeat' (first | (refine h_bin ?_; refine a_eql ?_) | (refine h_cond ?_; refine b_cond_f ?_) | (refine h_box ?_; refine b_box (fun nb_ hnb_ => ?_)) | (refine h_frz1 ?_; refine b_frz_p ?_) | refine a_join ?_)
  all_goals first | exact hq | (refine Eq.mp (congrArg (fun b => Q (AV.bool b) []) ?_) hq; clear hq; first | (have h' := of_decide_eq_true h; simp [h']; done) | (have h' := of_decide_eq_false h; simp [h']; done) | (simp [h]; done) | (simp_all; done))
theorem ready_4 (w : WorldD) (s : SyncD) (t o : Int) (hf : FitD w s) (ht : inB t w.threads.length = true) (hr : ∀ l ∈ s.locks, l.readers.length < 2 ^ 40) (ha : allowedS w 4 o = true) (Q : AV → SH → Prop) (hq : Q (.bool (readyS w s t 4 o)) []) : object_ready_w (.agg w.enc) (.agg s.enc) (.int .i64 t) (.int .i64 4) (.int .i64 o) [] Q := by
  unfold object_ready_w
  have ht' : inB t s.threads.length = true := by rw [hf.threads]; exact ht
  have hrd := rd_small hr
  simp only [readyS, lockAt, thrAt, doneAt, mxAt, Int.reduceEq, Int.reduceNeg, if_true, if_false, or_self, or_true, true_or, or_false, false_or, reduceIte, reduceCtorEq] at hq
  repeat' (first | (refine h_bin ?_; refine a_eql ?_) | (refine h_cond ?_; refine b_cond_f ?_) | (refine h_box ?_; refine b_box (fun nb_ hnb_ => ?_)) | (refine h_frz1 ?_; refine b_frz_p ?_) | refine a_join ?_)
  all_goals first | exact hq | (refine Eq.mp (congrArg (fun b => Q (AV.bool b) []) ?_) hq; clear hq; first | (have h' := of_decide_eq_true h; simp [h']; done) | (have h' := of_decide_eq_false h; simp [h']; done) | (simp [h]; done) | (simp_all; done))
theorem ready_5 (w : WorldD) (s : SyncD) (t o : Int) (hf : FitD w s) (ht : inB t w.threads.length = true) (hr : ∀ l ∈ s.locks, l.readers.length < 2 ^ 40) (ha : allowedS w 5 o = true) (Q : AV → SH → Prop) (hq : Q (.bool (readyS w s t 5 o)) []) : object_ready_w (.agg w.enc) (.agg s.enc) (.int .i64 t) (.int .i64 5) (.int .i64 o) [] Q := by
  unfold object_ready_w
  have ht' : inB t s.threads.length = true := by rw [hf.threads]; exact ht
  have hrd := rd_small hr
  simp only [readyS, lockAt, thrAt, doneAt, mxAt, Int.reduceEq, Int.reduceNeg, if_true, if_false, or_self, or_true, true_or, or_false, false_or, reduceIte, reduceCtorEq] at hq
  repeat' (first | (refine h_bin ?_; refine a_eql ?_) | (refine h_cond ?_; refine b_cond_f ?_) | (refine h_box ?_; refine b_box (fun nb_ hnb_ => ?_)) | (refine h_frz1 ?_; refine b_frz_p ?_) | refine a_join ?_)
  all_goals first | exact hq | (refine Eq.mp (congrArg (fun b => Q (AV.bool b) []) ?_) hq; clear hq; first | (have h' := of_decide_eq_true h; simp [h']; done) | (have h' := of_decide_eq_false h; simp [h']; done) | (simp [h]; done) | (simp_all; done))
theorem ready_6 (w : WorldD) (s : SyncD) (t o : Int) (hf : FitD w s) (ht : inB t w.threads.length = true) (hr : ∀ l ∈ s.locks, l.readers.length < 2 ^ 40) (ha : allowedS w 6 o = true) (Q : AV → SH → Prop) (hq : Q (.bool (readyS w s t 6 o)) []) : object_ready_w (.agg w.enc) (.agg s.enc) (.int .i64 t) (.int .i64 6) (.int .i64 o) [] Q := by
  unfold object_ready_w
  have ht' : inB t s.threads.length = true := by rw [hf.threads]; exact ht
  have hrd := rd_small hr
  have hl : inB o s.locks.length = true := by rw [hf.locks]; simp [allowedS] at ha; exact ha.1
  simp only [readyS, lockAt, thrAt, doneAt, mxAt, Int.reduceEq, Int.reduceNeg, if_true, if_false, or_self, or_true, true_or, or_false, false_or, reduceIte, reduceCtorEq] at hq
  repeat' (first | (refine h_load1 ?_; first | refine b_load_q ?_ | refine b_load_i ?_) | (refine h_faddr ?_; refine a_faddr_q ?_) | (refine h_bin ?_; refine a_eql ?_) | (refine h_cond ?_; refine b_cond_t ?_) | (refine h_idx ?_; refine b_idx_i ?_) | (refine h_box ?_; refine b_box (fun nb_ hnb_ => ?_)) | (refine h_frz1 ?_; refine b_frz_p ?_))
  all_goals first | exact hq | (refine Eq.mp (congrArg (fun b => Q (AV.bool b) []) ?_) hq; clear hq; first | (have h' := of_decide_eq_true h; simp [h']; done) | (have h' := of_decide_eq_false h; simp [h']; done) | (simp [h]; done) | (simp_all; done))
theorem ready_7 (w : WorldD) (s : SyncD) (t o : Int) (hf : FitD w s) (ht : inB t w.threads.length = true) (hr : ∀ l ∈ s.locks, l.readers.length < 2 ^ 40) (ha : allowedS w 7 o = true) (Q : AV → SH → Prop) (hq : Q (.bool (readyS w s t 7 o)) []) : object_ready_w (.agg w.enc) (.agg s.enc) (.int .i64 t) (.int .i64 7) (.int .i64 o) [] Q := by
  unfold object_ready_w
  have ht' : inB t s.threads.length = true := by rw [hf.threads]; exact ht
  have hrd := rd_small hr
  have hl : inB o s.locks.length = true := by rw [hf.locks]; simp [allowedS] at ha; exact ha.1
  simp only [readyS, lockAt, thrAt, doneAt, mxAt, Int.reduceEq, Int.reduceNeg, if_true, if_false, or_self, or_true, true_or, or_false, false_or, reduceIte, reduceCtorEq] at hq
  repeat' (first | (refine h_load1 ?_; first | refine b_load_q ?_ | refine b_load_i ?_) | (refine h_faddr ?_; refine a_faddr_q ?_) | (refine h_bin ?_; refine a_eql ?_) | (refine h_cond ?_; first | refine b_cond_t ?_ | refine b_cond_f ?_) | (refine h_idx ?_; refine b_idx_i ?_) | (refine h_box ?_; refine b_box (fun nb_ hnb_ => ?_)) | (refine h_frz1 ?_; refine b_frz_p ?_) | refine a_join ?_)
  all_goals first | exact hq | (refine Eq.mp (congrArg (fun b => Q (AV.bool b) []) ?_) hq; clear hq; first | (have h' := of_decide_eq_true h; simp [h']; done) | (have h' := of_decide_eq_false h; simp [h']; done) | (simp [h]; done) | (simp_all; done))
theorem ready_8 (w : WorldD) (s : SyncD) (t o : Int) (hf : FitD w s) (ht : inB t w.threads.length = true) (hr : ∀ l ∈ s.locks, l.readers.length < 2 ^ 40) (ha : allowedS w 8 o = true) (Q : AV → SH → Prop) (hq : Q (.bool (readyS w s t 8 o)) []) : object_ready_w (.agg w.enc) (.agg s.enc) (.int .i64 t) (.int .i64 8) (.int .i64 o) [] Q := by
  unfold object_ready_w
  have ht' : inB t s.threads.length = true := by rw [hf.threads]; exact ht
  have hrd := rd_small hr
  have hl : inB o s.locks.length = true := by rw [hf.locks]; simp [allowedS] at ha; exact ha.1
  simp only [readyS, lockAt, thrAt, doneAt, mxAt, Int.reduceEq, Int.reduceNeg, if_true, if_false, or_self, or_true, true_or, or_false, false_or, reduceIte, reduceCtorEq] at hq
  repeat' (first | (refine h_load1 ?_; first | refine b_load_q ?_ | refine b_load_i ?_) | (refine h_faddr ?_; refine a_faddr_q ?_) | (refine h_bin ?_; refine a_eql ?_) | (refine h_cond ?_; first | refine b_cond_t ?_ | refine b_cond_f ?_) | (refine h_idx ?_; refine b_idx_i ?_) | (refine h_pick ?_; first | refine b_pick_t ?_ | refine b_pick_f ?_) | (refine h_grd ?_; first | refine b_grd_y ?_ | refine b_grd_n ?_ | refine a_grd_t (fun h => ?_) (fun h => ?_)) | refine a_mark ?_ | ((with_reducible refine h_fn 60 ?_); refine m_call (contains_ok _ _ (hrd _)) ?_) | (refine h_un ?_; refine a_not ?_) | (refine h_box ?_; refine b_box (fun nb_ hnb_ => ?_)) | (refine h_frz1 ?_; refine b_frz_p ?_))
  all_goals first | exact hq | (refine Eq.mp (congrArg (fun b => Q (AV.bool b) []) ?_) hq; clear hq; first | (have h' := of_decide_eq_true h; simp [h']; done) | (have h' := of_decide_eq_false h; simp [h']; done) | (simp [h]; done) | (simp_all; done))
theorem ready_9 (w : WorldD) (s : SyncD) (t o : Int) (hf : FitD w s) (ht : inB t w.threads.length = true) (hr : ∀ l ∈ s.locks, l.readers.length < 2 ^ 40) (ha : allowedS w 9 o = true) (Q : AV → SH → Prop) (hq : Q (.bool (readyS w s t 9 o)) []) : object_ready_w (.agg w.enc) (.agg s.enc) (.int .i64 t) (.int .i64 9) (.int .i64 o) [] Q := by
  unfold object_ready_w
  have ht' : inB t s.threads.length = true := by rw [hf.threads]; exact ht
  have hrd := rd_small hr
  have hl : inB o s.locks.length = true := by rw [hf.locks]; simp [allowedS] at ha; exact ha.1
  simp only [readyS, lockAt, thrAt, doneAt, mxAt, Int.reduceEq, Int.reduceNeg, if_true, if_false, or_self, or_true, true_or, or_false, false_or, reduceIte, reduceCtorEq] at hq
  repeat' (first | (refine h_load1 ?_; first | refine b_load_q ?_ | refine b_load_i ?_) | (refine h_faddr ?_; refine a_faddr_q ?_) | (refine h_bin ?_; refine a_eql ?_) | (refine h_cond ?_; first | refine b_cond_t ?_ | refine b_cond_f ?_) | (refine h_idx ?_; refine b_idx_i ?_) | refine a_mark ?_ | ((with_reducible refine h_fn 60 ?_); refine m_call (contains_ok _ _ (hrd _)) ?_) | (refine h_box ?_; refine b_box (fun nb_ hnb_ => ?_)) | (refine h_frz1 ?_; refine b_frz_p ?_) | refine a_join ?_)
  all_goals first | exact hq | (refine Eq.mp (congrArg (fun b => Q (AV.bool b) []) ?_) hq; clear hq; first | (have h' := of_decide_eq_true h; simp [h']; done) | (have h' := of_decide_eq_false h; simp [h']; done) | (simp [h]; done) | (simp_all; done))
theorem ready_10 (w : WorldD) (s : SyncD) (t o : Int) (hf : FitD w s) (ht : inB t w.threads.length = true) (hr : ∀ l ∈ s.locks, l.readers.length < 2 ^ 40) (ha : allowedS w 10 o = true) (Q : AV → SH → Prop) (hq : Q (.bool (readyS w s t 10 o)) []) : object_ready_w (.agg w.enc) (.agg s.enc) (.int .i64 t) (.int .i64 10) (.int .i64 o) [] Q := by
  unfold object_ready_w
  have ht' : inB t s.threads.length = true := by rw [hf.threads]; exact ht
  have hrd := rd_small hr
  have hl : inB o s.locks.length = true := by rw [hf.locks]; simp [allowedS] at ha; exact ha.1
  simp only [readyS, lockAt, thrAt, doneAt, mxAt, Int.reduceEq, Int.reduceNeg, if_true, if_false, or_self, or_true, true_or, or_false, false_or, reduceIte, reduceCtorEq] at hq
  repeat' (first | (refine h_load1 ?_; first | refine b_load_q ?_ | refine b_load_i ?_) | (refine h_faddr ?_; refine a_faddr_q ?_) | (refine h_bin ?_; refine a_eql ?_) | (refine h_cond ?_; first | refine b_cond_t ?_ | refine b_cond_f ?_) | (refine h_idx ?_; refine b_idx_i ?_) | (refine h_len ?_; refine a_len_m ?_) | (refine h_pick ?_; first | refine b_pick_t ?_ | refine b_pick_f ?_) | (refine h_grd ?_; first | refine b_grd_y ?_ | refine b_grd_n ?_ | refine a_grd_t (fun h => ?_) (fun h => ?_)) | (refine h_box ?_; refine b_box (fun nb_ hnb_ => ?_)) | (refine h_frz1 ?_; refine b_frz_p ?_))
  all_goals first | exact hq | (refine Eq.mp (congrArg (fun b => Q (AV.bool b) []) ?_) hq; clear hq; first | (have h' := of_decide_eq_true h; simp [h']; done) | (have h' := of_decide_eq_false h; simp [h']; done) | (simp [h]; done) | (simp_all; done))
theorem ready_11 (w : WorldD) (s : SyncD) (t o : Int) (hf : FitD w s) (ht : inB t w.threads.length = true) (hr : ∀ l ∈ s.locks, l.readers.length < 2 ^ 40) (ha : allowedS w 11 o = true) (Q : AV → SH → Prop) (hq : Q (.bool (readyS w s t 11 o)) []) : object_ready_w (.agg w.enc) (.agg s.enc) (.int .i64 t) (.int .i64 11) (.int .i64 o) [] Q := by
  unfold object_ready_w
  have ht' : inB t s.threads.length = true := by rw [hf.threads]; exact ht
  have hrd := rd_small hr
  have hl : inB o s.locks.length = true := by rw [hf.locks]; simp [allowedS] at ha; exact ha.1
  simp only [readyS, lockAt, thrAt, doneAt, mxAt, Int.reduceEq, Int.reduceNeg, if_true, if_false, or_self, or_true, true_or, or_false, false_or, reduceIte, reduceCtorEq] at hq
  repeat' (first | (refine h_load1 ?_; first | refine b_load_q ?_ | refine b_load_i ?_) | (refine h_faddr ?_; refine a_faddr_q ?_) | (refine h_bin ?_; refine a_eql ?_) | (refine h_cond ?_; first | refine b_cond_t ?_ | refine b_cond_f ?_) | (refine h_idx ?_; refine b_idx_i ?_) | (refine h_box ?_; refine b_box (fun nb_ hnb_ => ?_)) | (refine h_frz1 ?_; refine b_frz_p ?_) | refine a_join ?_)
  all_goals first | exact hq | (refine Eq.mp (congrArg (fun b => Q (AV.bool b) []) ?_) hq; clear hq; first | (have h' := of_decide_eq_true h; simp [h']; done) | (have h' := of_decide_eq_false h; simp [h']; done) | (simp [h]; done) | (simp_all; done))
theorem ready_12 (w : WorldD) (s : SyncD) (t o : Int) (hf : FitD w s) (ht : inB t w.threads.length = true) (hr : ∀ l ∈ s.locks, l.readers.length < 2 ^ 40) (ha : allowedS w 12 o = true) (Q : AV → SH → Prop) (hq : Q (.bool (readyS w s t 12 o)) []) : object_ready_w (.agg w.enc) (.agg s.enc) (.int .i64 t) (.int .i64 12) (.int .i64 o) [] Q := by
  unfold object_ready_w
  have ht' : inB t s.threads.length = true := by rw [hf.threads]; exact ht
  have hrd := rd_small hr
  simp only [readyS, lockAt, thrAt, doneAt, mxAt, Int.reduceEq, Int.reduceNeg, if_true, if_false, or_self, or_true, true_or, or_false, false_or, reduceIte, reduceCtorEq] at hq
  repeat' (first | (refine h_load1 ?_; refine b_load_q ?_) | (refine h_faddr ?_; refine a_faddr_q ?_) | (refine h_bin ?_; refine a_eql ?_) | (refine h_cond ?_; first | refine b_cond_t ?_ | refine b_cond_f ?_) | (refine h_box ?_; refine b_box (fun nb_ hnb_ => ?_)) | (refine h_frz1 ?_; refine b_frz_p ?_) | refine a_join ?_)
  all_goals first | exact hq | (refine Eq.mp (congrArg (fun b => Q (AV.bool b) []) ?_) hq; clear hq; first | (have h' := of_decide_eq_true h; simp [h']; done) | (have h' := of_decide_eq_false h; simp [h']; done) | (simp [h]; done) | (simp_all; done))
theorem ready_13 (w : WorldD) (s : SyncD) (t o : Int) (hf : FitD w s) (ht : inB t w.threads.length = true) (hr : ∀ l ∈ s.locks, l.readers.length < 2 ^ 40) (ha : allowedS w 13 o = true) (Q : AV → SH → Prop) (hq : Q (.bool (readyS w s t 13 o)) []) : object_ready_w (.agg w.enc) (.agg s.enc) (.int .i64 t) (.int .i64 13) (.int .i64 o) [] Q := by
  unfold object_ready_w
  have ht' : inB t s.threads.length = true := by rw [hf.threads]; exact ht
  have hrd := rd_small hr
  simp only [readyS, lockAt, thrAt, doneAt, mxAt, Int.reduceEq, Int.reduceNeg, if_true, if_false, or_self, or_true, true_or, or_false, false_or, reduceIte, reduceCtorEq] at hq
  repeat' (first | (refine h_load1 ?_; refine b_load_q ?_) | (refine h_faddr ?_; refine a_faddr_q ?_) | (refine h_bin ?_; refine a_eql ?_) | (refine h_cond ?_; first | refine b_cond_t ?_ | refine b_cond_f ?_) | (refine h_box ?_; refine b_box (fun nb_ hnb_ => ?_)) | (refine h_frz1 ?_; refine b_frz_p ?_) | refine a_join ?_)
  all_goals first | exact hq | (refine Eq.mp (congrArg (fun b => Q (AV.bool b) []) ?_) hq; clear hq; first | (have h' := of_decide_eq_true h; simp [h']; done) | (have h' := of_decide_eq_false h; simp [h']; done) | (simp [h]; done) | (simp_all; done))
theorem ready_14 (w : WorldD) (s : SyncD) (t o : Int) (hf : FitD w s) (ht : inB t w.threads.length = true) (hr : ∀ l ∈ s.locks, l.readers.length < 2 ^ 40) (ha : allowedS w 14 o = true) (Q : AV → SH → Prop) (hq : Q (.bool (readyS w s t 14 o)) []) : object_ready_w (.agg w.enc) (.agg s.enc) (.int .i64 t) (.int .i64 14) (.int .i64 o) [] Q := by
  unfold object_ready_w
  have ht' : inB t s.threads.length = true := by rw [hf.threads]; exact ht
  have hrd := rd_small hr
  simp only [readyS, lockAt, thrAt, doneAt, mxAt, Int.reduceEq, Int.reduceNeg, if_true, if_false, or_self, or_true, true_or, or_false, false_or, reduceIte, reduceCtorEq] at hq
  repeat' (first | (refine h_load1 ?_; first | refine b_load_q ?_ | refine b_load_i ?_) | (refine h_faddr ?_; refine a_faddr_q ?_) | (refine h_bin ?_; refine a_eql ?_) | (refine h_cond ?_; first | refine b_cond_t ?_ | refine b_cond_f ?_) | (refine h_idx ?_; refine b_idx_i ?_) | (refine h_un ?_; refine a_not ?_) | (refine h_box ?_; refine b_box (fun nb_ hnb_ => ?_)) | (refine h_frz1 ?_; refine b_frz_p ?_) | refine a_join ?_)
  all_goals first | exact hq | (refine Eq.mp (congrArg (fun b => Q (AV.bool b) []) ?_) hq; clear hq; first | (have h' := of_decide_eq_true h; simp [h']; done) | (have h' := of_decide_eq_false h; simp [h']; done) | (simp [h]; done) | (simp_all; done))
theorem ready_15 (w : WorldD) (s : SyncD) (t o : Int) (hf : FitD w s) (ht : inB t w.threads.length = true) (hr : ∀ l ∈ s.locks, l.readers.length < 2 ^ 40) (ha : allowedS w 15 o = true) (Q : AV → SH → Prop) (hq : Q (.bool (readyS w s t 15 o)) []) : object_ready_w (.agg w.enc) (.agg s.enc) (.int .i64 t) (.int .i64 15) (.int .i64 o) [] Q := by
  unfold object_ready_w
  have ht' : inB t s.threads.length = true := by rw [hf.threads]; exact ht
  have hrd := rd_small hr
  simp only [readyS, lockAt, thrAt, doneAt, mxAt, Int.reduceEq, Int.reduceNeg, if_true, if_false, or_self, or_true, true_or, or_false, false_or, reduceIte, reduceCtorEq] at hq
  repeat' (first | (refine h_load1 ?_; first | refine b_load_q ?_ | refine b_load_i ?_) | (refine h_faddr ?_; refine a_faddr_q ?_) | (refine h_bin ?_; refine a_eql ?_) | (refine h_cond ?_; first | refine b_cond_t ?_ | refine b_cond_f ?_) | (refine h_idx ?_; refine b_idx_i ?_) | (refine h_box ?_; refine b_box (fun nb_ hnb_ => ?_)) | (refine h_frz1 ?_; refine b_frz_p ?_) | refine a_join ?_)
  all_goals first | exact hq | (refine Eq.mp (congrArg (fun b => Q (AV.bool b) []) ?_) hq; clear hq; first | (have h' := of_decide_eq_true h; simp [h']; done) | (have h' := of_decide_eq_false h; simp [h']; done) | (simp [h]; done) | (simp_all; done))
theorem ready_16 (w : WorldD) (s : SyncD) (t o : Int) (hf : FitD w s) (ht : inB t w.threads.length = true) (hr : ∀ l ∈ s.locks, l.readers.length < 2 ^ 40) (ha : allowedS w 16 o = true) (Q : AV → SH → Prop) (hq : Q (.bool (readyS w s t 16 o)) []) : object_ready_w (.agg w.enc) (.agg s.enc) (.int .i64 t) (.int .i64 16) (.int .i64 o) [] Q := by
  unfold object_ready_w
  have ht' : inB t s.threads.length = true := by rw [hf.threads]; exact ht
  have hrd := rd_small hr
  have hc : inB o w.conds.length = true := by simpa [allowedS] using ha
  have hl := mx_in hf hc
  simp only [readyS, lockAt, thrAt, doneAt, mxAt, Int.reduceEq, Int.reduceNeg, if_true, if_false, or_self, or_true, true_or, or_false, false_or, reduceIte, reduceCtorEq] at hq
  repeat' (first | (refine h_load1 ?_; first | refine b_load_q ?_ | refine b_load_i ?_) | (refine h_faddr ?_; refine a_faddr_q ?_) | (refine h_bin ?_; refine a_eql ?_) | (refine h_cond ?_; first | refine b_cond_t ?_ | refine b_cond_f ?_) | (refine h_idx ?_; refine b_idx_i ?_) | (refine h_calm ?_; refine b_calm ?_) | (refine h_note ?_; refine a_note ?_) | (refine h_box ?_; refine b_box (fun nb_ hnb_ => ?_)) | (refine h_frz1 ?_; refine b_frz_p ?_) | refine a_join ?_ | refine a_tt ?_)
  all_goals first | exact hq | (refine Eq.mp (congrArg (fun b => Q (AV.bool b) []) ?_) hq; clear hq; first | (have h' := of_decide_eq_true h; simp [h']; done) | (have h' := of_decide_eq_false h; simp [h']; done) | (simp [h]; done) | (simp_all; done))
theorem ready_17 (w : WorldD) (s : SyncD) (t o : Int) (hf : FitD w s) (ht : inB t w.threads.length = true) (hr : ∀ l ∈ s.locks, l.readers.length < 2 ^ 40) (ha : allowedS w 17 o = true) (Q : AV → SH → Prop) (hq : Q (.bool (readyS w s t 17 o)) []) : object_ready_w (.agg w.enc) (.agg s.enc) (.int .i64 t) (.int .i64 17) (.int .i64 o) [] Q := by
  unfold object_ready_w
  have ht' : inB t s.threads.length = true := by rw [hf.threads]; exact ht
  have hrd := rd_small hr
  have hc : inB o w.conds.length = true := by simpa [allowedS] using ha
  have hl := mx_in hf hc
  simp only [readyS, lockAt, thrAt, doneAt, mxAt, Int.reduceEq, Int.reduceNeg, if_true, if_false, or_self, or_true, true_or, or_false, false_or, reduceIte, reduceCtorEq] at hq
  repeat' (first | (refine h_bin ?_; refine a_eql ?_) | (refine h_cond ?_; refine b_cond_f ?_) | (refine h_box ?_; refine b_box (fun nb_ hnb_ => ?_)) | (refine h_frz1 ?_; refine b_frz_p ?_) | refine a_join ?_)
  all_goals first | exact hq | (refine Eq.mp (congrArg (fun b => Q (AV.bool b) []) ?_) hq; clear hq; first | (have h' := of_decide_eq_true h; simp [h']; done) | (have h' := of_decide_eq_false h; simp [h']; done) | (simp [h]; done) | (simp_all; done))
theorem ready_18 (w : WorldD) (s : SyncD) (t o : Int) (hf : FitD w s) (ht : inB t w.threads.length = true) (hr : ∀ l ∈ s.locks, l.readers.length < 2 ^ 40) (ha : allowedS w 18 o = true) (Q : AV → SH → Prop) (hq : Q (.bool (readyS w s t 18 o)) []) : object_ready_w (.agg w.enc) (.agg s.enc) (.int .i64 t) (.int .i64 18) (.int .i64 o) [] Q := by
  unfold object_ready_w
  have ht' : inB t s.threads.length = true := by rw [hf.threads]; exact ht
  have hrd := rd_small hr
  have hc : inB o w.conds.length = true := by simpa [allowedS] using ha
  have hl := mx_in hf hc
  simp only [readyS, lockAt, thrAt, doneAt, mxAt, Int.reduceEq, Int.reduceNeg, if_true, if_false, or_self, or_true, true_or, or_false, false_or, reduceIte, reduceCtorEq] at hq
  repeat' (first | (refine h_load1 ?_; first | refine b_load_q ?_ | refine b_load_i ?_) | (refine h_faddr ?_; refine a_faddr_q ?_) | (refine h_bin ?_; refine a_eql ?_) | (refine h_cond ?_; first | refine b_cond_t ?_ | refine b_cond_f ?_) | (refine h_idx ?_; refine b_idx_i ?_) | (refine h_calm ?_; refine b_calm ?_) | (refine h_note ?_; refine a_note ?_) | (refine h_box ?_; refine b_box (fun nb_ hnb_ => ?_)) | (refine h_frz1 ?_; refine b_frz_p ?_) | refine a_join ?_ | refine a_tt ?_)
  all_goals first | exact hq | (refine Eq.mp (congrArg (fun b => Q (AV.bool b) []) ?_) hq; clear hq; first | (have h' := of_decide_eq_true h; simp [h']; done) | (have h' := of_decide_eq_false h; simp [h']; done) | (simp [h]; done) | (simp_all; done))
theorem ready_19 (w : WorldD) (s : SyncD) (t o : Int) (hf : FitD w s) (ht : inB t w.threads.length = true) (hr : ∀ l ∈ s.locks, l.readers.length < 2 ^ 40) (ha : allowedS w 19 o = true) (Q : AV → SH → Prop) (hq : Q (.bool (readyS w s t 19 o)) []) : object_ready_w (.agg w.enc) (.agg s.enc) (.int .i64 t) (.int .i64 19) (.int .i64 o) [] Q := by
  unfold object_ready_w
  have ht' : inB t s.threads.length = true := by rw [hf.threads]; exact ht
  have hrd := rd_small hr
  have hc : inB o w.conds.length = true := by simpa [allowedS] using ha
  have hl := mx_in hf hc
  simp only [readyS, lockAt, thrAt, doneAt, mxAt, Int.reduceEq, Int.reduceNeg, if_true, if_false, or_self, or_true, true_or, or_false, false_or, reduceIte, reduceCtorEq] at hq
  repeat' (first | (refine h_load1 ?_; first | refine b_load_q ?_ | refine b_load_i ?_) | (refine h_faddr ?_; refine a_faddr_q ?_) | (refine h_bin ?_; refine a_eql ?_) | (refine h_cond ?_; first | refine b_cond_t ?_ | refine b_cond_f ?_) | (refine h_idx ?_; refine b_idx_i ?_) | (refine h_calm ?_; refine b_calm ?_) | (refine h_note ?_; refine a_note ?_) | (refine h_box ?_; refine b_box (fun nb_ hnb_ => ?_)) | (refine h_frz1 ?_; refine b_frz_p ?_) | refine a_join ?_ | refine a_tt ?_)
  all_goals first | exact hq | (refine Eq.mp (congrArg (fun b => Q (AV.bool b) []) ?_) hq; clear hq; first | (have h' := of_decide_eq_true h; simp [h']; done) | (have h' := of_decide_eq_false h; simp [h']; done) | (simp [h]; done) | (simp_all; done))
theorem ready_20 (w : WorldD) (s : SyncD) (t o : Int) (hf : FitD w s) (ht : inB t w.threads.length = true) (hr : ∀ l ∈ s.locks, l.readers.length < 2 ^ 40) (ha : allowedS w 20 o = true) (Q : AV → SH → Prop) (hq : Q (.bool (readyS w s t 20 o)) []) : object_ready_w (.agg w.enc) (.agg s.enc) (.int .i64 t) (.int .i64 20) (.int .i64 o) [] Q := by
  unfold object_ready_w
  have ht' : inB t s.threads.length = true := by rw [hf.threads]; exact ht
  have hrd := rd_small hr
  have hl : inB o s.threads.length = true := by rw [hf.threads]; simpa [allowedS] using ha
  simp only [readyS, lockAt, thrAt, doneAt, mxAt, Int.reduceEq, Int.reduceNeg, if_true, if_false, or_self, or_true, true_or, or_false, false_or, reduceIte, reduceCtorEq] at hq
  repeat' (first | (refine h_load1 ?_; first | refine b_load_q ?_ | refine b_load_i ?_) | (refine h_faddr ?_; refine a_faddr_q ?_) | (refine h_bin ?_; first | refine a_eql ?_ | refine a_neq ?_) | (refine h_cond ?_; first | refine b_cond_t ?_ | refine b_cond_f ?_) | (refine h_idx ?_; refine b_idx_i ?_) | (refine h_pick ?_; first | refine b_pick_t ?_ | refine b_pick_f ?_) | (refine h_grd ?_; first | refine b_grd_y ?_ | refine b_grd_n ?_ | refine a_grd_t (fun h => ?_) (fun h => ?_)) | (refine h_box ?_; refine b_box (fun nb_ hnb_ => ?_)) | (refine h_frz1 ?_; refine b_frz_p ?_) | refine a_join ?_)
  all_goals first | exact hq | (refine Eq.mp (congrArg (fun b => Q (AV.bool b) []) ?_) hq; clear hq; first | (have h' := of_decide_eq_true h; simp [h']; done) | (have h' := of_decide_eq_false h; simp [h']; done) | (simp [h]; done) | (simp_all; done))
theorem ready_21 (w : WorldD) (s : SyncD) (t o : Int) (hf : FitD w s) (ht : inB t w.threads.length = true) (hr : ∀ l ∈ s.locks, l.readers.length < 2 ^ 40) (ha : allowedS w 21 o = true) (Q : AV → SH → Prop) (hq : Q (.bool (readyS w s t 21 o)) []) : object_ready_w (.agg w.enc) (.agg s.enc) (.int .i64 t) (.int .i64 21) (.int .i64 o) [] Q := by
  unfold object_ready_w
  have ht' : inB t s.threads.length = true := by rw [hf.threads]; exact ht
  have hrd := rd_small hr
  have hl : inB o s.threads.length = true := by rw [hf.threads]; simpa [allowedS] using ha
  simp only [readyS, lockAt, thrAt, doneAt, mxAt, Int.reduceEq, Int.reduceNeg, if_true, if_false, or_self, or_true, true_or, or_false, false_or, reduceIte, reduceCtorEq] at hq
  repeat' (first | (refine h_load1 ?_; first | refine b_load_q ?_ | refine b_load_i ?_) | (refine h_faddr ?_; refine a_faddr_q ?_) | (refine h_bin ?_; first | refine a_eql ?_ | refine a_neq ?_) | (refine h_cond ?_; first | refine b_cond_t ?_ | refine b_cond_f ?_) | (refine h_idx ?_; refine b_idx_i ?_) | (refine h_pick ?_; first | refine b_pick_t ?_ | refine b_pick_f ?_) | (refine h_grd ?_; first | refine b_grd_y ?_ | refine b_grd_n ?_ | refine a_grd_t (fun h => ?_) (fun h => ?_)) | (refine h_box ?_; refine b_box (fun nb_ hnb_ => ?_)) | (refine h_frz1 ?_; refine b_frz_p ?_) | refine a_join ?_)
  all_goals first | exact hq | (refine Eq.mp (congrArg (fun b => Q (AV.bool b) []) ?_) hq; clear hq; first | (have h' := of_decide_eq_true h; simp [h']; done) | (have h' := of_decide_eq_false h; simp [h']; done) | (simp [h]; done) | (simp_all; done))
theorem ready_22 (w : WorldD) (s : SyncD) (t o : Int) (hf : FitD w s) (ht : inB t w.threads.length = true) (hr : ∀ l ∈ s.locks, l.readers.length < 2 ^ 40) (ha : allowedS w 22 o = true) (Q : AV → SH → Prop) (hq : Q (.bool (readyS w s t 22 o)) []) : object_ready_w (.agg w.enc) (.agg s.enc) (.int .i64 t) (.int .i64 22) (.int .i64 o) [] Q := by
  unfold object_ready_w
  have ht' : inB t s.threads.length = true := by rw [hf.threads]; exact ht
  have hrd := rd_small hr
  have hl : inB o s.done.length = true := by rw [hf.done]; simpa [allowedS] using ha
  simp only [readyS, lockAt, thrAt, doneAt, mxAt, Int.reduceEq, Int.reduceNeg, if_true, if_false, or_self, or_true, true_or, or_false, false_or, reduceIte, reduceCtorEq] at hq
  repeat' (first | (refine h_load1 ?_; first | refine b_load_q ?_ | refine b_load_i ?_) | (refine h_faddr ?_; refine a_faddr_q ?_) | (refine h_bin ?_; refine a_eql ?_) | (refine h_cond ?_; first | refine b_cond_t ?_ | refine b_cond_f ?_) | (refine h_idx ?_; refine b_idx_i ?_) | (refine h_un ?_; refine a_not ?_) | (refine h_box ?_; refine b_box (fun nb_ hnb_ => ?_)) | (refine h_frz1 ?_; refine b_frz_p ?_) | refine a_join ?_)
  all_goals first | exact hq | (refine Eq.mp (congrArg (fun b => Q (AV.bool b) []) ?_) hq; clear hq; first | (have h' := of_decide_eq_true h; simp [h']; done) | (have h' := of_decide_eq_false h; simp [h']; done) | (simp [h]; done) | (simp_all; done))
theorem ready_23 (w : WorldD) (s : SyncD) (t o : Int) (hf : FitD w s) (ht : inB t w.threads.length = true) (hr : ∀ l ∈ s.locks, l.readers.length < 2 ^ 40) (ha : allowedS w 23 o = true) (Q : AV → SH → Prop) (hq : Q (.bool (readyS w s t 23 o)) []) : object_ready_w (.agg w.enc) (.agg s.enc) (.int .i64 t) (.int .i64 23) (.int .i64 o) [] Q := by
  unfold object_ready_w
  have ht' : inB t s.threads.length = true := by rw [hf.threads]; exact ht
  have hrd := rd_small hr
  have hl : inB o s.done.length = true := by rw [hf.done]; simpa [allowedS] using ha
  simp only [readyS, lockAt, thrAt, doneAt, mxAt, Int.reduceEq, Int.reduceNeg, if_true, if_false, or_self, or_true, true_or, or_false, false_or, reduceIte, reduceCtorEq] at hq
  repeat' (first | (refine h_load1 ?_; first | refine b_load_q ?_ | refine b_load_i ?_) | (refine h_faddr ?_; refine a_faddr_q ?_) | (refine h_bin ?_; refine a_eql ?_) | (refine h_cond ?_; first | refine b_cond_t ?_ | refine b_cond_f ?_) | (refine h_idx ?_; refine b_idx_i ?_) | (refine h_box ?_; refine b_box (fun nb_ hnb_ => ?_)) | (refine h_frz1 ?_; refine b_frz_p ?_) | refine a_join ?_)
  all_goals first | exact hq | (refine Eq.mp (congrArg (fun b => Q (AV.bool b) []) ?_) hq; clear hq; first | (have h' := of_decide_eq_true h; simp [h']; done) | (have h' := of_decide_eq_false h; simp [h']; done) | (simp [h]; done) | (simp_all; done))
theorem ready_w (w : WorldD) (s : SyncD) (t k o : Int) (hf : FitD w s) (ht : inB t w.threads.length = true) (hr : ∀ l ∈ s.locks, l.readers.length < 2 ^ 40) (ha : allowedS w k o = true) (Q : AV → SH → Prop) (hq : Q (.bool (readyS w s t k o)) []) : object_ready_w (.agg w.enc) (.agg s.enc) (.int .i64 t) (.int .i64 k) (.int .i64 o) [] Q := by
  rcases kinds k with hk | rfl | rfl | rfl | rfl | rfl | rfl | rfl | rfl | rfl | rfl | rfl | rfl | rfl | rfl | rfl | rfl | rfl | rfl | rfl | rfl | rfl | rfl | rfl 
  · simp only [allowedS] at ha
    repeat (rw [if_neg (by omega)] at ha)
    cases ha
  · exact ready_1 w s t o hf ht hr ha Q hq
  · exact ready_2 w s t o hf ht hr ha Q hq
  · exact ready_3 w s t o hf ht hr ha Q hq
  · exact ready_4 w s t o hf ht hr ha Q hq
  · exact ready_5 w s t o hf ht hr ha Q hq
  · exact ready_6 w s t o hf ht hr ha Q hq
  · exact ready_7 w s t o hf ht hr ha Q hq
  · exact ready_8 w s t o hf ht hr ha Q hq
  · exact ready_9 w s t o hf ht hr ha Q hq
  · exact ready_10 w s t o hf ht hr ha Q hq
  · exact ready_11 w s t o hf ht hr ha Q hq
  · exact ready_12 w s t o hf ht hr ha Q hq
  · exact ready_13 w s t o hf ht hr ha Q hq
  · exact ready_14 w s t o hf ht hr ha Q hq
  · exact ready_15 w s t o hf ht hr ha Q hq
  · exact ready_16 w s t o hf ht hr ha Q hq
  · exact ready_17 w s t o hf ht hr ha Q hq
  · exact ready_18 w s t o hf ht hr ha Q hq
  · exact ready_19 w s t o hf ht hr ha Q hq
  · exact ready_20 w s t o hf ht hr ha Q hq
  · exact ready_21 w s t o hf ht hr ha Q hq
  · exact ready_22 w s t o hf ht hr ha Q hq
  · exact ready_23 w s t o hf ht hr ha Q hq
theorem ready_ok (w : WorldD) (s : SyncD) (t k o : Int) (hf : FitD w s) (ht : inB t w.threads.length = true) (hr : ∀ l ∈ s.locks, l.readers.length < 2 ^ 40) (ha : allowedS w k o = true) : PureA Try.prog 54 [.agg w.enc, .agg s.enc, .int .i64 t, .int .i64 k, .int .i64 o] (.bool (readyS w s t k o)) := object_ready_ok _ _ _ _ _ _ _ (ready_w w s t k o hf ht hr ha _ ⟨rfl, rfl⟩)
theorem enabled_no (w : WorldD) (s : SyncD) (t k o : Int) (hcn : w.conds.length < 2 ^ 62) (hr : ∀ l ∈ s.locks, l.readers.length < 2 ^ 40) (Q : AV → SH → Prop) (hq : Q (.bool (enabledS w s t k o)) []) (hn : (fitsS w s && inB t w.threads.length && allowedS w k o) = false) : object_Enabled_w (.agg w.enc) (.agg s.enc) (.int .i64 t) (.int .i64 k) (.int .i64 o) [] Q := by
  unfold object_Enabled_w
  have e : enabledS w s t k o = false := by unfold enabledS; rw [hn, Bool.false_and]
  rw [e] at hq
  cases h1 : fitsS w s with
  | false =>
    have nh1 : (!fitsS w s) = true := by rw [h1]; rfl
    repeat' (first | (refine h_cond ?_; refine b_cond_t ?_) | (refine h_row ?_; refine b_row_q ?_) | (refine h_pick ?_; refine b_pick_t ?_) | (refine h_grd ?_; refine b_grd_n ?_) | refine a_mark ?_ | ((with_reducible refine h_fn 37 ?_); refine m_call (fits_ok _ _ hcn) ?_) | (refine h_un ?_; refine a_not ?_) | (refine h_box ?_; refine b_box (fun nb_ hnb_ => ?_)) | (refine h_frz1 ?_; refine b_frz_p ?_))
    all_goals exact hq
  | true =>
    have nh1 : (!fitsS w s) = false := by rw [h1]; rfl
    cases h2 : inB t w.threads.length with
    | false =>
      have nh2 : (!inB t w.threads.length) = true := by rw [h2]; rfl
      repeat' (first | (refine h_load1 ?_; refine b_load_q ?_) | (refine h_faddr ?_; refine a_faddr_q ?_) | (refine h_cond ?_; refine b_cond_t ?_) | (refine h_row ?_; refine b_row_q ?_) | (refine h_len ?_; refine a_len_m ?_) | (refine h_pick ?_; first | refine b_pick_t ?_ | refine b_pick_f ?_) | (refine h_grd ?_; first | refine b_grd_y ?_ | refine b_grd_n ?_) | refine a_mark ?_ | ((with_reducible refine h_fn 37 ?_); refine m_call (fits_ok _ _ hcn) ?_) | ((with_reducible refine h_fn 52 ?_); refine m_call (within_ok _ _) ?_) | (refine h_un ?_; refine a_not ?_) | (refine h_box ?_; refine b_box (fun nb_ hnb_ => ?_)) | (refine h_frz1 ?_; refine b_frz_p ?_))
      all_goals exact hq
    | true =>
      have nh2 : (!inB t w.threads.length) = false := by rw [h2]; rfl
      have h3 : allowedS w k o = false := by rw [h1, h2] at hn; simpa using hn
      have nh3 : (!allowedS w k o) = true := by rw [h3]; rfl
      repeat' (first | (refine h_load1 ?_; refine b_load_q ?_) | (refine h_faddr ?_; refine a_faddr_q ?_) | (refine h_cond ?_; refine b_cond_t ?_) | (refine h_row ?_; refine b_row_q ?_) | (refine h_len ?_; refine a_len_m ?_) | (refine h_pick ?_; refine b_pick_f ?_) | (refine h_grd ?_; refine b_grd_y ?_) | refine a_mark ?_ | ((with_reducible refine h_fn 37 ?_); refine m_call (fits_ok _ _ hcn) ?_) | ((with_reducible refine h_fn 52 ?_); refine m_call (within_ok _ _) ?_) | ((with_reducible refine h_fn 53 ?_); refine m_call (allowed_ok _ _ _) ?_) | (refine h_un ?_; refine a_not ?_) | (refine h_box ?_; refine b_box (fun nb_ hnb_ => ?_)) | (refine h_frz1 ?_; refine b_frz_p ?_))
      all_goals exact hq
theorem enabled_1 (w : WorldD) (s : SyncD) (t o : Int) (hcn : w.conds.length < 2 ^ 62) (hr : ∀ l ∈ s.locks, l.readers.length < 2 ^ 40) (Q : AV → SH → Prop) (hq : Q (.bool (enabledS w s t 1 o)) []) (h1 : fitsS w s = true) (h2 : inB t w.threads.length = true) (ha : allowedS w 1 o = true) : object_Enabled_w (.agg w.enc) (.agg s.enc) (.int .i64 t) (.int .i64 1) (.int .i64 o) [] Q := by
  unfold object_Enabled_w
  have nh1 : (!fitsS w s) = false := by rw [h1]; rfl
  have nh2 : (!inB t w.threads.length) = false := by rw [h2]; rfl
  have hf := fitsS_iff.1 h1
  have ht' : inB t s.threads.length = true := by rw [hf.threads]; exact h2
  have nha : (!allowedS w 1 o) = false := by rw [ha]; rfl
  simp only [enabledS, h1, h2, ha, readyS, lockAt, thrAt, doneAt, mxAt, Bool.true_and, Int.reduceEq, Int.reduceNeg, if_true, if_false, or_self, or_true, true_or, or_false, false_or, reduceIte, reduceCtorEq] at hq
  repeat' (first | (refine h_load1 ?_; refine b_load_q ?_) | (refine h_faddr ?_; refine a_faddr_q ?_) | (refine h_bin ?_; refine a_eql ?_) | (refine h_cond ?_; first | refine b_cond_t ?_ | refine b_cond_f ?_) | (refine h_idx ?_; refine b_idx_i ?_) | (refine h_row ?_; first | refine b_row_q ?_ | refine b_row_i ?_) | (refine h_len ?_; refine a_len_m ?_) | (refine h_pick ?_; refine b_pick_f ?_) | (refine h_grd ?_; refine b_grd_y ?_) | refine a_mark ?_ | ((with_reducible refine h_fn 37 ?_); refine m_call (fits_ok _ _ hcn) ?_) | ((with_reducible refine h_fn 52 ?_); refine m_call (within_ok _ _) ?_) | ((with_reducible refine h_fn 53 ?_); refine m_call (allowed_ok _ _ _) ?_) | (refine h_un ?_; refine a_not ?_) | (refine h_box ?_; refine b_box (fun nb_ hnb_ => ?_)) | (refine h_frz1 ?_; refine b_frz_p ?_) | (refine h_store ?_; refine b_store_box ?_) | refine a_alloc (fun nb_ hnb_ => ?_))
  all_goals first | exact hq | (refine Eq.mp (congrArg (fun b => Q (AV.bool b) []) ?_) hq; clear hq; first | (have h' := of_decide_eq_true h; simp [h']; done) | (have h' := of_decide_eq_false h; simp [h']; done) | (simp [h]; done) | (simp_all; done))
theorem enabled_17 (w : WorldD) (s : SyncD) (t o : Int) (hcn : w.conds.length < 2 ^ 62) (hr : ∀ l ∈ s.locks, l.readers.length < 2 ^ 40) (Q : AV → SH → Prop) (hq : Q (.bool (enabledS w s t 17 o)) []) (h1 : fitsS w s = true) (h2 : inB t w.threads.length = true) (ha : allowedS w 17 o = true) : object_Enabled_w (.agg w.enc) (.agg s.enc) (.int .i64 t) (.int .i64 17) (.int .i64 o) [] Q := by
  unfold object_Enabled_w
  have nh1 : (!fitsS w s) = false := by rw [h1]; rfl
  have nh2 : (!inB t w.threads.length) = false := by rw [h2]; rfl
  have hf := fitsS_iff.1 h1
  have ht' : inB t s.threads.length = true := by rw [hf.threads]; exact h2
  have nha : (!allowedS w 17 o) = false := by rw [ha]; rfl
  have hc : inB o w.conds.length = true := by simpa [allowedS] using ha
  have hl := mx_in hf hc
  simp only [enabledS, h1, h2, ha, readyS, lockAt, thrAt, doneAt, mxAt, Bool.true_and, Int.reduceEq, Int.reduceNeg, if_true, if_false, or_self, or_true, true_or, or_false, false_or, reduceIte, reduceCtorEq] at hq
  repeat' (first | (refine h_load1 ?_; first | refine b_load_q ?_ | refine b_load_i ?_) | (refine h_faddr ?_; refine a_faddr_q ?_) | (refine h_bin ?_; refine a_eql ?_) | (refine h_cond ?_; first | refine b_cond_t ?_ | refine b_cond_f ?_) | (refine h_idx ?_; refine b_idx_i ?_) | (refine h_row ?_; first | refine b_row_q ?_ | refine b_row_i ?_) | (refine h_len ?_; refine a_len_m ?_) | (refine h_calm ?_; refine b_calm ?_) | (refine h_note ?_; refine a_note ?_) | (refine h_pick ?_; first | refine b_pick_t ?_ | refine b_pick_f ?_) | (refine h_grd ?_; refine b_grd_y ?_) | (refine h_dgrd ?_; first | refine b_dgrd_y ?_ | refine b_dgrd_n ?_ | refine a_dgrd_t (fun h => ?_) (fun h => ?_)) | refine a_mark ?_ | ((with_reducible refine h_fn 37 ?_); refine m_call (fits_ok _ _ hcn) ?_) | ((with_reducible refine h_fn 52 ?_); refine m_call (within_ok _ _) ?_) | ((with_reducible refine h_fn 53 ?_); refine m_call (allowed_ok _ _ _) ?_) | (refine h_un ?_; refine a_not ?_) | (refine h_box ?_; refine b_box (fun nb_ hnb_ => ?_)) | (refine h_frz1 ?_; refine b_frz_p ?_) | (refine h_store ?_; refine b_store_box ?_) | refine a_alloc (fun nb_ hnb_ => ?_) | refine a_tt ?_)
  all_goals first | exact hq | (refine Eq.mp (congrArg (fun b => Q (AV.bool b) []) ?_) hq; clear hq; first | (have h' := of_decide_eq_true h; simp [h']; done) | (have h' := of_decide_eq_false h; simp [h']; done) | (simp [h]; done) | (simp_all; done))
theorem enabled_w (w : WorldD) (s : SyncD) (t k o : Int) (hcn : w.conds.length < 2 ^ 62) (hr : ∀ l ∈ s.locks, l.readers.length < 2 ^ 40) (Q : AV → SH → Prop) (hq : Q (.bool (enabledS w s t k o)) []) : object_Enabled_w (.agg w.enc) (.agg s.enc) (.int .i64 t) (.int .i64 k) (.int .i64 o) [] Q := by
  cases hn : (fitsS w s && inB t w.threads.length && allowedS w k o) with
  | false => exact enabled_no w s t k o hcn hr Q hq hn
  | true =>
    simp only [Bool.and_eq_true] at hn
    obtain ⟨⟨h1, h2⟩, ha⟩ := hn
    by_cases k1 : k = 1
    · subst k1; exact enabled_1 w s t o hcn hr Q hq h1 h2 ha
    by_cases k17 : k = 17
    · subst k17; exact enabled_17 w s t o hcn hr Q hq h1 h2 ha
    unfold object_Enabled_w
    have nh1 : (!fitsS w s) = false := by rw [h1]; rfl
    have nh2 : (!inB t w.threads.length) = false := by rw [h2]; rfl
    have hf := fitsS_iff.1 h1
    have ht' : inB t s.threads.length = true := by rw [hf.threads]; exact h2
    have nha : (!allowedS w k o) = false := by rw [ha]; rfl
    have e1 : decide (k = 1) = false := decide_eq_false k1
    have e17 : decide (k = 17) = false := decide_eq_false k17
    have hrk := ready_ok w s t k o hf h2 hr ha
    have e : enabledS w s t k o = (decide ((thrAt s t).status = 2) && readyS w s t k o) := by unfold enabledS; rw [h1, h2, ha, if_neg k1, if_neg k17]; rfl
    rw [e] at hq
    simp only [thrAt] at hq
    generalize readyS w s t k o = rb at *
    repeat' (first | (refine h_load1 ?_; refine b_load_q ?_) | (refine h_faddr ?_; refine a_faddr_q ?_) | (refine h_bin ?_; refine a_eql ?_) | (refine h_cond ?_; refine b_cond_f ?_) | (refine h_idx ?_; refine b_idx_i ?_) | (refine h_row ?_; first | refine b_row_q ?_ | refine b_row_i ?_) | (refine h_len ?_; refine a_len_m ?_) | (refine h_pick ?_; first | refine b_pick_t ?_ | refine b_pick_f ?_) | (refine h_grd ?_; first | refine b_grd_y ?_ | refine b_grd_n ?_ | refine a_grd_t (fun h => ?_) (fun h => ?_)) | refine a_mark ?_ | ((with_reducible refine h_fn 37 ?_); refine m_call (fits_ok _ _ hcn) ?_) | ((with_reducible refine h_fn 52 ?_); refine m_call (within_ok _ _) ?_) | ((with_reducible refine h_fn 53 ?_); refine m_call (allowed_ok _ _ _) ?_) | ((with_reducible refine h_fn 54 ?_); refine m_call (hrk) ?_) | (refine h_un ?_; refine a_not ?_) | (refine h_box ?_; refine b_box (fun nb_ hnb_ => ?_)) | (refine h_frz1 ?_; refine b_frz_p ?_) | (refine h_store ?_; refine b_store_box ?_) | refine a_alloc (fun nb_ hnb_ => ?_))
    all_goals first | exact hq | (refine Eq.mp (congrArg (fun b => Q (AV.bool b) []) ?_) hq; clear hq; first | (have h' := of_decide_eq_true h; simp [h']; done) | (have h' := of_decide_eq_false h; simp [h']; done) | (simp [h]; done) | (simp_all; done))
theorem enabled_ok (w : WorldD) (s : SyncD) (t k o : Int) (hcn : w.conds.length < 2 ^ 62) (hr : ∀ l ∈ s.locks, l.readers.length < 2 ^ 40) : PureA Try.prog 27 [.agg w.enc, .agg s.enc, .int .i64 t, .int .i64 k, .int .i64 o] (.bool (enabledS w s t k o)) := object_Enabled_ok _ _ _ _ _ _ _ (enabled_w w s t k o hcn hr _ ⟨rfl, rfl⟩)
end Go.Proofs.Ytadjimfkfmojkaa.Am

end
section
namespace Go.Proofs.Ytadjimfkfmojkaa.Am
set_option maxRecDepth 100000
set_option linter.unusedSimpArgs false
set_option linter.unusedVariables false
/-- a call that is handed nothing and gives blocks -/
theorem dcall_new {P : Program} {KN : AV → SH → List Nat → Prop} {us : List W.WR} {i : Nat} {g : FuncId} {cs args : List AV} {L : SH} {R : AV → SH → Prop} (h : CallA P g (args ++ cs) [] R) (hf : ∀ x ∈ us, W.free x ⟨i, [], [], [], true, []⟩) (hk : ∀ v K, R v K → KN v (K ++ L) []) : W.dcall P us i (.fn g cs) args L KN :=
  ⟨[], L, .refl _, hf, h.mono fun u K hu => hk u K hu⟩
/-- the row of a lock; q: the lock whose readers lie in a block of their own -/
def lockR (q : Nat) (o : Option Nat) (j : Nat) (l : LockD) : List AV := if j = q then [.int .i64 l.owner, slotV o l.readers.length] else l.enc
def lockRows (q : Nat) (o : Option Nat) (ls : List LockD) : List (List AV) := ls.zipIdx.map fun p => lockR q o p.2 p.1
theorem lockRows_len (q : Nat) (o : Option Nat) (ls : List LockD) : (lockRows q o ls).length = ls.length := by simp [lockRows]
theorem lockRows_at (q : Nat) (o : Option Nat) (ls : List LockD) (j : Nat) (hj : j < ls.length) : (lockRows q o ls)[j]? = some (lockR q o j ls[j]) := by simp [lockRows, hj]
/-- the block of the readers of lock q, if it has been copied already -/
def rdB (q : Nat) (o : Option Nat) (ls : List LockD) (k : Nat) : SH := if q < k then slotB o 1 ((ls.getD q default).readers.map intE) else []
def zeroLock : List AV := [.int .i64 0, .nils]
theorem Fr.perm {B : Nat} {L L' L'' : SH} {H H' : Heap} (h : Fr B L H L' H') (hp : L'.Perm L'') : Fr B L H L'' H' :=
  ⟨h.next, h.bd, h.sub.perm hp, fun b x h1 h2 => ⟨(h.keep b x h1 h2).1, fun hm => (h.keep b x h1 h2).2 ((hp.map Prod.fst).mem_iff.2 hm)⟩, h.dom, fun b hb hlt => h.fresh b ((hp.map Prod.fst).mem_iff.2 hb) hlt⟩
theorem CallA.perm {P : Program} {f : FuncId} {args : List AV} {L : SH} {Q : AV → SH → Prop} (h : CallA P f args L fun v L' => ∃ L'', L'.Perm L'' ∧ Q v L'') : CallA P f args L Q := ⟨h.1, fun H hb hs => by
  obtain ⟨v, H', L', h1, h2, L'', hp, h3⟩ := h.2 H hb hs
  exact ⟨v, H', L'', h1, h2.perm hp, h3⟩⟩
/-- a call that is handed nothing and gives blocks, which are put behind the others -/
theorem call_back {P : Program} {KL : AV → SH → Prop} {g : FuncId} {cs args : List AV} {L : SH} {R : AV → SH → Prop} (h : CallA P g (args ++ cs) [] R) (hk : ∀ v K, R v K → KL v (L ++ K)) : W.call P (.fn g cs) args L KL :=
  ⟨.perm (h.frame (K := []) (R := L) (.refl _) fun u K hu => ⟨L ++ K, List.perm_append_comm, hk u K hu⟩)⟩
theorem FzL.refl (K : SH) : ∀ l : List AV, FzL K l l
  | [] => .nil
  | a :: l => .cons (.refl a) (FzL.refl K l)
/-- the rows of a block are read anew -/
theorem FzS.row {vs : List AV} {L K R : SH} {b n : Nat} {rows rows' : List (List AV)} (hL : L.Perm (K ++ (b, ⟨n, rows⟩) :: R)) (hlen : rows.length = rows'.length) (hr : ∀ (j : Nat) (r r' : List AV), rows[j]? = some r → rows'[j]? = some r' → FzL K r r') : FzS vs L vs ((b, ⟨n, rows'⟩) :: R) := by
  refine ⟨K, (b, ⟨n, rows⟩) :: R, hL, ⟨rfl, fun i a a2 h1 h2 => by rw [h1] at h2; cases h2; exact .refl _⟩, rfl, fun i p q h1 h2 => ?_⟩
  match i with
  | 0 =>
    cases h1; cases h2
    exact ⟨rfl, rfl, hlen, fun j s s2 g1 g2 => (hr j s s2 g1 g2).at_⟩
  | i + 1 =>
    simp only [List.getElem?_cons_succ] at h1 h2
    rw [h1] at h2; cases h2
    exact ⟨rfl, rfl, rfl, fun j r r2 h3 h4 => by rw [h3] at h4; cases h4; exact ⟨rfl, fun k a a2 h5 h6 => by rw [h5] at h6; cases h6; exact .refl _⟩⟩
/-- the rows when k locks have been copied -/
def rowsK (q : Nat) (o : Option Nat) (ls : List LockD) (k : Nat) : List (List AV) := (lockRows q o ls).take k ++ List.replicate (ls.length - k) zeroLock
theorem rowsK_len (q : Nat) (o : Option Nat) (ls : List LockD) (k : Nat) (hk : k ≤ ls.length) : (rowsK q o ls k).length = ls.length := by simp [rowsK, lockRows_len]; omega
theorem take_same (q : Nat) (o o' : Option Nat) (ls : List LockD) (k : Nat) (h : k ≤ q ∨ o = o') : (lockRows q o ls).take k = (lockRows q o' ls).take k := by
  rcases h with h | rfl
  · apply List.ext_getElem?
    intro j
    rcases Nat.lt_or_ge j k with hj | hj
    · rw [List.getElem?_take_of_lt hj, List.getElem?_take_of_lt hj]
      rcases Nat.lt_or_ge j ls.length with h1 | h1
      · rw [lockRows_at _ _ _ _ h1, lockRows_at _ _ _ _ h1]; simp [lockR, show j ≠ q by omega]
      · rw [List.getElem?_eq_none (by rw [lockRows_len]; exact h1), List.getElem?_eq_none (by rw [lockRows_len]; exact h1)]
    · rw [List.getElem?_eq_none (by simp; omega), List.getElem?_eq_none (by simp; omega)]
  · rfl
theorem rowsK_set (q : Nat) (o o' : Option Nat) (ls : List LockD) (k : Nat) (hk : k < ls.length) (h : k ≤ q ∨ o = o') : (rowsK q o ls k).set k (lockR q o' k ls[k]) = rowsK q o' ls (k + 1) := by
  unfold rowsK
  have hl : ((lockRows q o ls).take k).length = k := by simp [lockRows_len]; omega
  rw [List.set_append_right _ _ (by omega), hl, Nat.sub_self]
  obtain ⟨m, hm⟩ : ∃ m, ls.length - k = m + 1 := ⟨ls.length - k - 1, by omega⟩
  rw [hm, List.replicate_succ, List.set_cons_zero, take_same q o o' ls k h]
  have hk2 : k < (lockRows q o' ls).length := by rw [lockRows_len]; exact hk
  rw [List.take_succ_eq_append_getElem hk2, show ls.length - (k + 1) = m by omega]
  have : (lockRows q o' ls)[k] = lockR q o' k ls[k] := by
    have := lockRows_at q o' ls k hk
    rw [List.getElem?_eq_getElem hk2] at this
    exact Option.some.inj this
  rw [this]
  simp
theorem rowsK_at (q : Nat) (o : Option Nat) (ls : List LockD) (k : Nat) (hk : k < ls.length) : (rowsK q o ls k)[k]? = some zeroLock := by
  unfold rowsK
  have hl : ((lockRows q o ls).take k).length = k := by simp [lockRows_len]; omega
  rw [List.getElem?_append_right (by omega), hl, Nat.sub_self]
  obtain ⟨m, hm⟩ : ∃ m, ls.length - k = m + 1 := ⟨ls.length - k - 1, by omega⟩
  rw [hm]; rfl
/-- what clone has made of a state; q: the lock whose readers lie in a block of their own -/
structure Cloned (s : SyncD) (q : Nat) (v : AV) (L : SH) : Prop where
  ex : ∃ (bl : Nat) (o od ot : Option Nat), v = .agg [.sl bl 0 s.locks.length, .int .i64 s.tx, slotL od s.done.length, slotL ot s.threads.length] ∧
    L = (bl, ⟨2, lockRows q o s.locks⟩) :: (rdB q o s.locks s.locks.length ++ (slotB od 1 (s.done.map boolE) ++ slotB ot 3 (s.threads.map ThrD.enc))) ∧ (od = none → s.done = []) ∧ (ot = none → s.threads = []) ∧ (o = none → q < s.locks.length → (s.locks.getD q default).readers = [])
set_option maxHeartbeats 4000000 in
theorem clone_loop (s : SyncD) (q b1 b2 bl : Nat) (h1 : s.locks.length < 2 ^ 40) (hrd : ∀ l ∈ s.locks, l.readers.length < 2 ^ 40) (Q : AV → SH → Prop)
    (hend : ∀ o : Option Nat, (o = none → q < s.locks.length → (s.locks.getD q default).readers = []) → object_clone_zt1 [.ptr b1 0 0, .ptr b2 0 0, .sl bl 0 s.locks.length, .lst (s.locks.map LockD.enc), .int .i64 s.locks.length, .int .i64 s.locks.length] ((bl, ⟨2, lockRows q o s.locks⟩) :: (b2, ⟨4, [[.nils, .int .i64 0, .nils, .nils]]⟩) :: (b1, ⟨4, [s.enc]⟩) :: rdB q o s.locks s.locks.length) Q) :
    W.loop (object_clone_l3 Q) [.ptr b1 0 0, .ptr b2 0 0, .sl bl 0 s.locks.length, .lst (s.locks.map LockD.enc), .int .i64 s.locks.length, .int .i64 (0 : Nat)] [(bl, ⟨2, List.replicate s.locks.length zeroLock⟩), (b2, ⟨4, [[.nils, .int .i64 0, .nils, .nils]]⟩), (b1, ⟨4, [s.enc]⟩)] := by
  refine loop_ex s.locks.length (fun k (o : Option Nat) => ([.ptr b1 0 0, .ptr b2 0 0, .sl bl 0 s.locks.length, .lst (s.locks.map LockD.enc), .int .i64 s.locks.length, .int .i64 k], (bl, ⟨2, rowsK q o s.locks k⟩) :: (b2, ⟨4, [[.nils, .int .i64 0, .nils, .nils]]⟩) :: (b1, ⟨4, [s.enc]⟩) :: rdB q o s.locks k)) (fun k o => o = none → q < k → (s.locks.getD q default).readers = []) none (fun _ h => by omega) (fzs_eq rfl (by simp [rowsK, rdB])) ?_
  intro k o hk ho
  dsimp only
  unfold object_clone_l3
  rcases Nat.lt_or_ge k s.locks.length with g1 | g1
  · have hd := dec_lt g1
    have hx := map_at (f := LockD.enc) g1
    have hz := rowsK_at q o s.locks k g1
    have hkl : k < (rowsK q o s.locks k).length := by rw [rowsK_len _ _ _ _ hk]; exact g1
    have hrk : (s.locks[k]).readers.length * 8 ≤ 140737488355328 := by have := hrd _ (List.getElem_mem g1); omega
    repeat' (first | refine a_load_q (by first | assumption | rfl) rfl ?_ | refine a_load_q (at_inB (by assumption)) rfl ?_ | refine a_faddr_q ?_ | refine a_len_m ?_ | refine a_len_l ?_ | refine a_grd_y (by first | assumption | rfl) ?_ | refine a_grd_n (by first | assumption | rfl) ?_ | refine a_grd_u ?_ | refine a_pick_t (by first | assumption | rfl) ?_ | refine a_pick_f (by first | assumption | rfl) ?_ | refine a_eql ?_ | refine a_lss ?_ | refine a_neq ?_ | refine a_geq ?_ | refine a_gtr ?_ | refine a_leq ?_ | refine a_add ?_ | refine a_sub ?_ | refine a_mul ?_ | refine a_eqs ?_ | refine a_nes ?_ | refine a_not ?_ | refine a_neg ?_ | refine a_conv ?_ | refine a_convS ?_ | refine a_cond_t (by first | assumption | rfl) ?_ | refine a_cond_f (by first | assumption | rfl) ?_ | refine a_box rfl rfl (fun nb_ hnb_ => ?_) | refine a_frz_p (by first | exact .here _ | exact .there _ (.here _) | exact .there _ (.there _ (.here _)) | exact .there _ (.there _ (.there _ (.here _)))) (by first | exact Nat.succ_pos _ | decide | simp) (by first | exact Nat.succ_pos _ | decide | simp) ?_ | refine a_alloc (fun nb_ hnb_ => ?_) | refine a_faddr_p ?_ | refine a_store_box (by first | exact .here _ | exact .there _ (.here _) | exact .there _ (.there _ (.here _)) | exact .there _ (.there _ (.there _ (.here _))) | exact .there _ (.there _ (.there _ (.there _ (.here _))))) rfl rfl rfl rfl ?_ | refine a_store_one (by first | exact .here _ | exact .there _ (.here _) | exact .there _ (.there _ (.here _)) | exact .there _ (.there _ (.there _ (.here _))) | exact .there _ (.there _ (.there _ (.there _ (.here _))))) (by first | assumption | rfl) rfl rfl (by first | decide | exact Nat.lt_of_sub_pos (Nat.succ_pos _) | simp | omega) rfl ?_ | refine a_store_row (by first | exact .here _ | exact .there _ (.here _) | exact .there _ (.there _ (.here _)) | exact .there _ (.there _ (.there _ (.here _))) | exact .there _ (.there _ (.there _ (.there _ (.here _))))) (by first | assumption | rfl) rfl rfl rfl rfl rfl ?_ | refine a_load_p (by first | exact .head _ | exact .tail _ (.head _) | exact .tail _ (.tail _ (.head _)) | exact .tail _ (.tail _ (.tail _ (.head _))) | exact .tail _ (.tail _ (.tail _ (.tail _ (.head _))))) (by first | assumption | rfl) rfl ?_ | refine a_row_q (by first | assumption | rfl) rfl ?_ | refine a_row_q (at_inB (by assumption)) rfl ?_ | refine a_row_p (by first | exact .head _ | exact .tail _ (.head _) | exact .tail _ (.tail _ (.head _)) | exact .tail _ (.tail _ (.tail _ (.head _))) | exact .tail _ (.tail _ (.tail _ (.tail _ (.head _))))) (by first | assumption | rfl) rfl ?_ | refine a_idx_n (by first | assumption | rfl) rfl ?_ | refine a_idx_l (by first | decide | omega) (by first | assumption | rfl) rfl ?_ | refine a_idx_l (nn_inB (by assumption)) (at_inB (by assumption)) rfl ?_ | refine a_idx_sn (by first | assumption | omega) (by first | exact .head _ | exact .tail _ (.head _) | exact .tail _ (.tail _ (.head _)) | exact .tail _ (.tail _ (.tail _ (.head _)))) rfl ?_ | refine a_ext rfl ?_ | refine a_build rfl ?_ | refine a_fld rfl ?_ | refine a_nil_p ?_ | refine a_nil_q ?_ | refine a_nil_f ?_ | refine a_note ?_ | refine a_join ?_ | refine a_len_s ?_ | refine a_len_n ?_ | refine a_lenS ?_ | refine a_tt ?_ | refine a_calm (by simp only [W.free, blocksOf, slOf, List.forall_mem_nil, List.forall_mem_cons, List.not_mem_nil, not_false_eq_true, implies_true, and_true, true_and, and_self, Bool.false_eq_true, reduceCtorEq, forall_const, false_implies, List.mem_singleton, forall_eq, List.append_nil, List.nil_append]) ?_ | refine a_dgrd_y (by first | assumption | rfl) ?_ | refine a_dgrd_n (by first | assumption | rfl) ?_ | refine a_dgrd_u ?_ | refine a_mslice (by omega) (by omega) (by omega) (fun nb_ hnb_ => ?_) | refine a_bslice (by decide) rfl (fun nb_ hnb_ => ?_) | refine a_idx_s (by first | decide | omega) (by first | assumption | omega) (by first | exact .head _ | exact .tail _ (.head _) | exact .tail _ (.tail _ (.head _)) | exact .tail _ (.tail _ (.tail _ (.head _)))) rfl ?_ | refine a_len_e ?_)
    refine dcall_new (cloneI_ok _ hrk) (by simp [W.free, blocksOf]) ?_
    rintro v K ⟨o', rfl, rfl, ho'⟩
    unfold object_clone_d0
    have fin : ∀ (L : SH), L = slotB o' 1 ((s.locks[k]).readers.map intE) ++ ((bl, ⟨2, (rowsK q o s.locks k).set k [.int .i64 (s.locks[k]).owner, slotV o' (s.locks[k]).readers.length]⟩) :: (b2, ⟨4, [[.nils, .int .i64 0, .nils, .nils]]⟩) :: (b1, ⟨4, [s.enc]⟩) :: rdB q o s.locks k) →
        ∃ j o2, k < j ∧ j ≤ s.locks.length ∧ (o2 = none → q < j → (s.locks.getD q default).readers = []) ∧ FzS [.ptr b1 0 0, .ptr b2 0 0, .sl bl 0 s.locks.length, .lst (s.locks.map LockD.enc), .int .i64 s.locks.length, .int .i64 (IntKind.i64.wrap ((k : Int) + 1))] L
          [.ptr b1 0 0, .ptr b2 0 0, .sl bl 0 s.locks.length, .lst (s.locks.map LockD.enc), .int .i64 s.locks.length, .int .i64 j] ((bl, ⟨2, rowsK q o2 s.locks j⟩) :: (b2, ⟨4, [[.nils, .int .i64 0, .nils, .nils]]⟩) :: (b1, ⟨4, [s.enc]⟩) :: rdB q o2 s.locks j) := by
      intro L hL
      subst hL
      rw [i64_succ g1 (by omega)]
      by_cases hkq : k = q
      · subst hkq
        refine ⟨k + 1, o', by omega, by omega, fun e _ => by simpa [List.getD, g1] using ho' e, ?_⟩
        rw [← rowsK_set k o o' s.locks k g1 (.inl (Nat.le_refl _))]
        have e1 : rdB k o s.locks k = [] := by simp [rdB]
        have e2 : rdB k o' s.locks (k + 1) = slotB o' 1 ((s.locks[k]).readers.map intE) := by simp [rdB, List.getD, g1]
        have e3 : lockR k o' k s.locks[k] = [.int .i64 (s.locks[k]).owner, slotV o' (s.locks[k]).readers.length] := by simp [lockR]
        rw [e1, e2, e3]
        exact FzS.forget (K := []) List.perm_append_comm
      · refine ⟨k + 1, o, by omega, by omega, fun e hq => ho e (by omega), ?_⟩
        have e1 : rdB q o s.locks (k + 1) = rdB q o s.locks k := by
          by_cases hq : q < k
          · simp [rdB, hq, show q < k + 1 by omega]
          · simp [rdB, hq, show ¬ q < k + 1 by omega]
        rw [e1, ← rowsK_set q o o s.locks k g1 (.inr rfl)]
        have e3 : lockR q o k s.locks[k] = [.int .i64 (s.locks[k]).owner, .lst ((s.locks[k]).readers.map intE)] := by simp [lockR, hkq, LockD.enc]
        rw [e3]
        refine FzS.row (K := slotB o' 1 ((s.locks[k]).readers.map intE)) (.refl _) (by simp) ?_
        intro j r r' q1 q2
        rw [List.getElem?_set] at q1 q2
        by_cases hj : k = j
        · rw [if_pos hj] at q1 q2
          rw [if_pos (by omega)] at q1 q2
          cases q1; cases q2
          refine .cons (.refl _) (.cons ?_ .nil)
          exact Fz.slot (f := intE) rfl (fun e => by rw [ho' e]; rfl) (by decide) (fun y _ => rfl) (fun y _ q a a2 h1 h2 => by rw [h1] at h2; cases h2; exact .refl _)
        · rw [if_neg hj] at q1 q2
          rw [q1] at q2; cases q2
          exact FzL.refl _ _
    cases o' with
    | none =>
      dsimp only [slotB, slotV, List.nil_append] at fin ⊢
      repeat' (first | refine a_load_q (by first | assumption | rfl) rfl ?_ | refine a_load_q (at_inB (by assumption)) rfl ?_ | refine a_faddr_q ?_ | refine a_len_m ?_ | refine a_len_l ?_ | refine a_grd_y (by first | assumption | rfl) ?_ | refine a_grd_n (by first | assumption | rfl) ?_ | refine a_grd_u ?_ | refine a_pick_t (by first | assumption | rfl) ?_ | refine a_pick_f (by first | assumption | rfl) ?_ | refine a_eql ?_ | refine a_lss ?_ | refine a_neq ?_ | refine a_geq ?_ | refine a_gtr ?_ | refine a_leq ?_ | refine a_add ?_ | refine a_sub ?_ | refine a_mul ?_ | refine a_eqs ?_ | refine a_nes ?_ | refine a_not ?_ | refine a_neg ?_ | refine a_conv ?_ | refine a_convS ?_ | refine a_cond_t (by first | assumption | rfl) ?_ | refine a_cond_f (by first | assumption | rfl) ?_ | refine a_box rfl rfl (fun nb_ hnb_ => ?_) | refine a_frz_p (by first | exact .here _ | exact .there _ (.here _) | exact .there _ (.there _ (.here _)) | exact .there _ (.there _ (.there _ (.here _)))) (by first | exact Nat.succ_pos _ | decide | simp) (by first | exact Nat.succ_pos _ | decide | simp) ?_ | refine a_alloc (fun nb_ hnb_ => ?_) | refine a_faddr_p ?_ | refine a_store_box (by first | exact .here _ | exact .there _ (.here _) | exact .there _ (.there _ (.here _)) | exact .there _ (.there _ (.there _ (.here _))) | exact .there _ (.there _ (.there _ (.there _ (.here _))))) rfl rfl rfl rfl ?_ | refine a_store_one (by first | exact .here _ | exact .there _ (.here _) | exact .there _ (.there _ (.here _)) | exact .there _ (.there _ (.there _ (.here _))) | exact .there _ (.there _ (.there _ (.there _ (.here _))))) (by first | assumption | rfl) rfl rfl (by first | decide | exact Nat.lt_of_sub_pos (Nat.succ_pos _) | simp | omega) rfl ?_ | refine a_store_row (by first | exact .here _ | exact .there _ (.here _) | exact .there _ (.there _ (.here _)) | exact .there _ (.there _ (.there _ (.here _))) | exact .there _ (.there _ (.there _ (.there _ (.here _))))) (by first | assumption | rfl) rfl rfl rfl rfl rfl ?_ | refine a_load_p (by first | exact .head _ | exact .tail _ (.head _) | exact .tail _ (.tail _ (.head _)) | exact .tail _ (.tail _ (.tail _ (.head _))) | exact .tail _ (.tail _ (.tail _ (.tail _ (.head _))))) (by first | assumption | rfl) rfl ?_ | refine a_row_q (by first | assumption | rfl) rfl ?_ | refine a_row_q (at_inB (by assumption)) rfl ?_ | refine a_row_p (by first | exact .head _ | exact .tail _ (.head _) | exact .tail _ (.tail _ (.head _)) | exact .tail _ (.tail _ (.tail _ (.head _))) | exact .tail _ (.tail _ (.tail _ (.tail _ (.head _))))) (by first | assumption | rfl) rfl ?_ | refine a_idx_n (by first | assumption | rfl) rfl ?_ | refine a_idx_l (by first | decide | omega) (by first | assumption | rfl) rfl ?_ | refine a_idx_l (nn_inB (by assumption)) (at_inB (by assumption)) rfl ?_ | refine a_idx_sn (by first | assumption | omega) (by first | exact .head _ | exact .tail _ (.head _) | exact .tail _ (.tail _ (.head _)) | exact .tail _ (.tail _ (.tail _ (.head _)))) rfl ?_ | refine a_ext rfl ?_ | refine a_build rfl ?_ | refine a_fld rfl ?_ | refine a_nil_p ?_ | refine a_nil_q ?_ | refine a_nil_f ?_ | refine a_note ?_ | refine a_join ?_ | refine a_len_s ?_ | refine a_len_n ?_ | refine a_lenS ?_ | refine a_tt ?_ | refine a_calm (by simp only [W.free, blocksOf, slOf, List.forall_mem_nil, List.forall_mem_cons, List.not_mem_nil, not_false_eq_true, implies_true, and_true, true_and, and_self, Bool.false_eq_true, reduceCtorEq, forall_const, false_implies, List.mem_singleton, forall_eq, List.append_nil, List.nil_append]) ?_ | refine a_dgrd_y (by first | assumption | rfl) ?_ | refine a_dgrd_n (by first | assumption | rfl) ?_ | refine a_dgrd_u ?_ | refine a_mslice (by omega) (by omega) (by omega) (fun nb_ hnb_ => ?_) | refine a_bslice (by decide) rfl (fun nb_ hnb_ => ?_) | refine a_idx_s (by first | decide | omega) (by first | assumption | omega) (by first | exact .head _ | exact .tail _ (.head _) | exact .tail _ (.tail _ (.head _)) | exact .tail _ (.tail _ (.tail _ (.head _)))) rfl ?_ | refine a_len_e ?_)
      exact fin _ rfl
    | some b' =>
      dsimp only [slotB, slotV, List.cons_append, List.nil_append] at fin ⊢
      repeat' (first | refine a_load_q (by first | assumption | rfl) rfl ?_ | refine a_load_q (at_inB (by assumption)) rfl ?_ | refine a_faddr_q ?_ | refine a_len_m ?_ | refine a_len_l ?_ | refine a_grd_y (by first | assumption | rfl) ?_ | refine a_grd_n (by first | assumption | rfl) ?_ | refine a_grd_u ?_ | refine a_pick_t (by first | assumption | rfl) ?_ | refine a_pick_f (by first | assumption | rfl) ?_ | refine a_eql ?_ | refine a_lss ?_ | refine a_neq ?_ | refine a_geq ?_ | refine a_gtr ?_ | refine a_leq ?_ | refine a_add ?_ | refine a_sub ?_ | refine a_mul ?_ | refine a_eqs ?_ | refine a_nes ?_ | refine a_not ?_ | refine a_neg ?_ | refine a_conv ?_ | refine a_convS ?_ | refine a_cond_t (by first | assumption | rfl) ?_ | refine a_cond_f (by first | assumption | rfl) ?_ | refine a_box rfl rfl (fun nb_ hnb_ => ?_) | refine a_frz_p (by first | exact .here _ | exact .there _ (.here _) | exact .there _ (.there _ (.here _)) | exact .there _ (.there _ (.there _ (.here _)))) (by first | exact Nat.succ_pos _ | decide | simp) (by first | exact Nat.succ_pos _ | decide | simp) ?_ | refine a_alloc (fun nb_ hnb_ => ?_) | refine a_faddr_p ?_ | refine a_store_box (by first | exact .here _ | exact .there _ (.here _) | exact .there _ (.there _ (.here _)) | exact .there _ (.there _ (.there _ (.here _))) | exact .there _ (.there _ (.there _ (.there _ (.here _))))) rfl rfl rfl rfl ?_ | refine a_store_one (by first | exact .here _ | exact .there _ (.here _) | exact .there _ (.there _ (.here _)) | exact .there _ (.there _ (.there _ (.here _))) | exact .there _ (.there _ (.there _ (.there _ (.here _))))) (by first | assumption | rfl) rfl rfl (by first | decide | exact Nat.lt_of_sub_pos (Nat.succ_pos _) | simp | omega) rfl ?_ | refine a_store_row (by first | exact .here _ | exact .there _ (.here _) | exact .there _ (.there _ (.here _)) | exact .there _ (.there _ (.there _ (.here _))) | exact .there _ (.there _ (.there _ (.there _ (.here _))))) (by first | assumption | rfl) rfl rfl rfl rfl rfl ?_ | refine a_load_p (by first | exact .head _ | exact .tail _ (.head _) | exact .tail _ (.tail _ (.head _)) | exact .tail _ (.tail _ (.tail _ (.head _))) | exact .tail _ (.tail _ (.tail _ (.tail _ (.head _))))) (by first | assumption | rfl) rfl ?_ | refine a_row_q (by first | assumption | rfl) rfl ?_ | refine a_row_q (at_inB (by assumption)) rfl ?_ | refine a_row_p (by first | exact .head _ | exact .tail _ (.head _) | exact .tail _ (.tail _ (.head _)) | exact .tail _ (.tail _ (.tail _ (.head _))) | exact .tail _ (.tail _ (.tail _ (.tail _ (.head _))))) (by first | assumption | rfl) rfl ?_ | refine a_idx_n (by first | assumption | rfl) rfl ?_ | refine a_idx_l (by first | decide | omega) (by first | assumption | rfl) rfl ?_ | refine a_idx_l (nn_inB (by assumption)) (at_inB (by assumption)) rfl ?_ | refine a_idx_sn (by first | assumption | omega) (by first | exact .head _ | exact .tail _ (.head _) | exact .tail _ (.tail _ (.head _)) | exact .tail _ (.tail _ (.tail _ (.head _)))) rfl ?_ | refine a_ext rfl ?_ | refine a_build rfl ?_ | refine a_fld rfl ?_ | refine a_nil_p ?_ | refine a_nil_q ?_ | refine a_nil_f ?_ | refine a_note ?_ | refine a_join ?_ | refine a_len_s ?_ | refine a_len_n ?_ | refine a_lenS ?_ | refine a_tt ?_ | refine a_calm (by simp only [W.free, blocksOf, slOf, List.forall_mem_nil, List.forall_mem_cons, List.not_mem_nil, not_false_eq_true, implies_true, and_true, true_and, and_self, Bool.false_eq_true, reduceCtorEq, forall_const, false_implies, List.mem_singleton, forall_eq, List.append_nil, List.nil_append]) ?_ | refine a_dgrd_y (by first | assumption | rfl) ?_ | refine a_dgrd_n (by first | assumption | rfl) ?_ | refine a_dgrd_u ?_ | refine a_mslice (by omega) (by omega) (by omega) (fun nb_ hnb_ => ?_) | refine a_bslice (by decide) rfl (fun nb_ hnb_ => ?_) | refine a_idx_s (by first | decide | omega) (by first | assumption | omega) (by first | exact .head _ | exact .tail _ (.head _) | exact .tail _ (.tail _ (.head _)) | exact .tail _ (.tail _ (.tail _ (.head _)))) rfl ?_ | refine a_len_e ?_)
      exact fin _ rfl
  · have hd := dec_ge g1
    have hk0 : k = s.locks.length := by omega
    subst hk0
    have := hend o ho
    rw [show rowsK q o s.locks s.locks.length = lockRows q o s.locks by simp [rowsK, lockRows_len, List.take_of_length_le]]
    refine a_lss ?_
    refine a_cond_f hd ?_
    exact this
theorem small_mul {s : SyncD} (hs : s.threads.length < 2 ^ 40) : s.threads.length * 24 ≤ 140737488355328 := by omega
set_option maxHeartbeats 4000000 in
theorem clone_ok (s : SyncD) (q : Nat) (h1 : s.locks.length < 2 ^ 40) (h2 : s.done.length ≤ 140737488351232) (h3 : s.threads.length < 2 ^ 40) (hrd : ∀ l ∈ s.locks, l.readers.length < 2 ^ 40) :
    CallA Try.prog 47 [.agg s.enc] [] (Cloned s q) := by
  refine CallA.fz (object_clone_ok _ _ _ ?_)
  unfold object_clone_w
  generalize hQ : (fun (v : AV) (L : SH) => ∃ v2 L2, FzS [v] L [v2] L2 ∧ Cloned s q v2 L2) = Q
  repeat' (first | refine a_load_q (by first | assumption | rfl) rfl ?_ | refine a_load_q (at_inB (by assumption)) rfl ?_ | refine a_faddr_q ?_ | refine a_len_m ?_ | refine a_len_l ?_ | refine a_grd_y (by first | assumption | rfl) ?_ | refine a_grd_n (by first | assumption | rfl) ?_ | refine a_grd_u ?_ | refine a_pick_t (by first | assumption | rfl) ?_ | refine a_pick_f (by first | assumption | rfl) ?_ | refine a_eql ?_ | refine a_lss ?_ | refine a_neq ?_ | refine a_geq ?_ | refine a_gtr ?_ | refine a_leq ?_ | refine a_add ?_ | refine a_sub ?_ | refine a_mul ?_ | refine a_eqs ?_ | refine a_nes ?_ | refine a_not ?_ | refine a_neg ?_ | refine a_conv ?_ | refine a_convS ?_ | refine a_cond_t (by first | assumption | rfl) ?_ | refine a_cond_f (by first | assumption | rfl) ?_ | refine a_box rfl rfl (fun nb_ hnb_ => ?_) | refine a_frz_p (by first | exact .here _ | exact .there _ (.here _) | exact .there _ (.there _ (.here _)) | exact .there _ (.there _ (.there _ (.here _)))) (by first | exact Nat.succ_pos _ | decide | simp) (by first | exact Nat.succ_pos _ | decide | simp) ?_ | refine a_alloc (fun nb_ hnb_ => ?_) | refine a_faddr_p ?_ | refine a_store_box (by first | exact .here _ | exact .there _ (.here _) | exact .there _ (.there _ (.here _)) | exact .there _ (.there _ (.there _ (.here _))) | exact .there _ (.there _ (.there _ (.there _ (.here _))))) rfl rfl rfl rfl ?_ | refine a_store_one (by first | exact .here _ | exact .there _ (.here _) | exact .there _ (.there _ (.here _)) | exact .there _ (.there _ (.there _ (.here _))) | exact .there _ (.there _ (.there _ (.there _ (.here _))))) (by first | assumption | rfl) rfl rfl (by first | decide | exact Nat.lt_of_sub_pos (Nat.succ_pos _) | simp | omega) rfl ?_ | refine a_store_row (by first | exact .here _ | exact .there _ (.here _) | exact .there _ (.there _ (.here _)) | exact .there _ (.there _ (.there _ (.here _))) | exact .there _ (.there _ (.there _ (.there _ (.here _))))) (by first | assumption | rfl) rfl rfl rfl rfl rfl ?_ | refine a_load_p (by first | exact .head _ | exact .tail _ (.head _) | exact .tail _ (.tail _ (.head _)) | exact .tail _ (.tail _ (.tail _ (.head _))) | exact .tail _ (.tail _ (.tail _ (.tail _ (.head _))))) (by first | assumption | rfl) rfl ?_ | refine a_row_q (by first | assumption | rfl) rfl ?_ | refine a_row_q (at_inB (by assumption)) rfl ?_ | refine a_row_p (by first | exact .head _ | exact .tail _ (.head _) | exact .tail _ (.tail _ (.head _)) | exact .tail _ (.tail _ (.tail _ (.head _))) | exact .tail _ (.tail _ (.tail _ (.tail _ (.head _))))) (by first | assumption | rfl) rfl ?_ | refine a_idx_n (by first | assumption | rfl) rfl ?_ | refine a_idx_l (by first | decide | omega) (by first | assumption | rfl) rfl ?_ | refine a_idx_l (nn_inB (by assumption)) (at_inB (by assumption)) rfl ?_ | refine a_idx_sn (by first | assumption | omega) (by first | exact .head _ | exact .tail _ (.head _) | exact .tail _ (.tail _ (.head _)) | exact .tail _ (.tail _ (.tail _ (.head _)))) rfl ?_ | refine a_ext rfl ?_ | refine a_build rfl ?_ | refine a_fld rfl ?_ | refine a_nil_p ?_ | refine a_nil_q ?_ | refine a_nil_f ?_ | refine a_note ?_ | refine a_join ?_ | refine a_len_s ?_ | refine a_len_n ?_ | refine a_lenS ?_ | refine a_tt ?_ | refine a_calm (by simp only [W.free, blocksOf, slOf, List.forall_mem_nil, List.forall_mem_cons, List.not_mem_nil, not_false_eq_true, implies_true, and_true, true_and, and_self, Bool.false_eq_true, reduceCtorEq, forall_const, false_implies, List.mem_singleton, forall_eq, List.append_nil, List.nil_append]) ?_ | refine a_dgrd_y (by first | assumption | rfl) ?_ | refine a_dgrd_n (by first | assumption | rfl) ?_ | refine a_dgrd_u ?_ | refine a_mslice (by omega) (by omega) (by omega) (fun nb_ hnb_ => ?_) | refine a_bslice (by decide) rfl (fun nb_ hnb_ => ?_) | refine a_idx_s (by first | decide | omega) (by first | assumption | omega) (by first | exact .head _ | exact .tail _ (.head _) | exact .tail _ (.tail _ (.head _)) | exact .tail _ (.tail _ (.tail _ (.head _)))) rfl ?_ | refine a_len_e ?_)
  rename_i b1 _ b2 _
  revert nb_
  intro bl _
  refine clone_loop s q b1 b2 bl h1 hrd Q ?_
  intro o ho
  unfold object_clone_zt1
  repeat' (first | refine a_load_q (by first | assumption | rfl) rfl ?_ | refine a_load_q (at_inB (by assumption)) rfl ?_ | refine a_faddr_q ?_ | refine a_len_m ?_ | refine a_len_l ?_ | refine a_grd_y (by first | assumption | rfl) ?_ | refine a_grd_n (by first | assumption | rfl) ?_ | refine a_grd_u ?_ | refine a_pick_t (by first | assumption | rfl) ?_ | refine a_pick_f (by first | assumption | rfl) ?_ | refine a_eql ?_ | refine a_lss ?_ | refine a_neq ?_ | refine a_geq ?_ | refine a_gtr ?_ | refine a_leq ?_ | refine a_add ?_ | refine a_sub ?_ | refine a_mul ?_ | refine a_eqs ?_ | refine a_nes ?_ | refine a_not ?_ | refine a_neg ?_ | refine a_conv ?_ | refine a_convS ?_ | refine a_cond_t (by first | assumption | rfl) ?_ | refine a_cond_f (by first | assumption | rfl) ?_ | refine a_box rfl rfl (fun nb_ hnb_ => ?_) | refine a_frz_p (by first | exact .here _ | exact .there _ (.here _) | exact .there _ (.there _ (.here _)) | exact .there _ (.there _ (.there _ (.here _)))) (by first | exact Nat.succ_pos _ | decide | simp) (by first | exact Nat.succ_pos _ | decide | simp) ?_ | refine a_alloc (fun nb_ hnb_ => ?_) | refine a_faddr_p ?_ | refine a_store_box (by first | exact .here _ | exact .there _ (.here _) | exact .there _ (.there _ (.here _)) | exact .there _ (.there _ (.there _ (.here _))) | exact .there _ (.there _ (.there _ (.there _ (.here _))))) rfl rfl rfl rfl ?_ | refine a_store_one (by first | exact .here _ | exact .there _ (.here _) | exact .there _ (.there _ (.here _)) | exact .there _ (.there _ (.there _ (.here _))) | exact .there _ (.there _ (.there _ (.there _ (.here _))))) (by first | assumption | rfl) rfl rfl (by first | decide | exact Nat.lt_of_sub_pos (Nat.succ_pos _) | simp | omega) rfl ?_ | refine a_store_row (by first | exact .here _ | exact .there _ (.here _) | exact .there _ (.there _ (.here _)) | exact .there _ (.there _ (.there _ (.here _))) | exact .there _ (.there _ (.there _ (.there _ (.here _))))) (by first | assumption | rfl) rfl rfl rfl rfl rfl ?_ | refine a_load_p (by first | exact .head _ | exact .tail _ (.head _) | exact .tail _ (.tail _ (.head _)) | exact .tail _ (.tail _ (.tail _ (.head _))) | exact .tail _ (.tail _ (.tail _ (.tail _ (.head _))))) (by first | assumption | rfl) rfl ?_ | refine a_row_q (by first | assumption | rfl) rfl ?_ | refine a_row_q (at_inB (by assumption)) rfl ?_ | refine a_row_p (by first | exact .head _ | exact .tail _ (.head _) | exact .tail _ (.tail _ (.head _)) | exact .tail _ (.tail _ (.tail _ (.head _))) | exact .tail _ (.tail _ (.tail _ (.tail _ (.head _))))) (by first | assumption | rfl) rfl ?_ | refine a_idx_n (by first | assumption | rfl) rfl ?_ | refine a_idx_l (by first | decide | omega) (by first | assumption | rfl) rfl ?_ | refine a_idx_l (nn_inB (by assumption)) (at_inB (by assumption)) rfl ?_ | refine a_idx_sn (by first | assumption | omega) (by first | exact .head _ | exact .tail _ (.head _) | exact .tail _ (.tail _ (.head _)) | exact .tail _ (.tail _ (.tail _ (.head _)))) rfl ?_ | refine a_ext rfl ?_ | refine a_build rfl ?_ | refine a_fld rfl ?_ | refine a_nil_p ?_ | refine a_nil_q ?_ | refine a_nil_f ?_ | refine a_note ?_ | refine a_join ?_ | refine a_len_s ?_ | refine a_len_n ?_ | refine a_lenS ?_ | refine a_tt ?_ | refine a_calm (by simp only [W.free, blocksOf, slOf, List.forall_mem_nil, List.forall_mem_cons, List.not_mem_nil, not_false_eq_true, implies_true, and_true, true_and, and_self, Bool.false_eq_true, reduceCtorEq, forall_const, false_implies, List.mem_singleton, forall_eq, List.append_nil, List.nil_append]) ?_ | refine a_dgrd_y (by first | assumption | rfl) ?_ | refine a_dgrd_n (by first | assumption | rfl) ?_ | refine a_dgrd_u ?_ | refine a_mslice (by omega) (by omega) (by omega) (fun nb_ hnb_ => ?_) | refine a_bslice (by decide) rfl (fun nb_ hnb_ => ?_) | refine a_idx_s (by first | decide | omega) (by first | assumption | omega) (by first | exact .head _ | exact .tail _ (.head _) | exact .tail _ (.tail _ (.head _)) | exact .tail _ (.tail _ (.tail _ (.head _)))) rfl ?_ | refine a_len_e ?_)
  refine call_back (cloneB_ok _ (by omega)) ?_
  rintro v K ⟨od, rfl, rfl, hod⟩
  unfold object_clone_c2
  have fin : ∀ (v : AV) (L : SH) (ot : Option Nat), (ot = none → s.threads = []) → v = .agg [.sl bl 0 s.locks.length, .int .i64 s.tx, slotL od s.done.length, slotL ot s.threads.length] →
      (∃ x y : Blk, L = (bl, ⟨2, lockRows q o s.locks⟩) :: (b2, x) :: (b1, y) :: (rdB q o s.locks s.locks.length ++ slotB od 1 (s.done.map boolE) ++ slotB ot 3 (s.threads.map ThrD.enc))) → Q v L := by
    rintro v L ot hot rfl ⟨x, y, rfl⟩
    subst hQ
    refine ⟨_, _, FzS.forget (K := [(b2, x), (b1, y)]) (R := (bl, ⟨2, lockRows q o s.locks⟩) :: (rdB q o s.locks s.locks.length ++ slotB od 1 (s.done.map boolE) ++ slotB ot 3 (s.threads.map ThrD.enc))) ?_, ⟨bl, o, od, ot, rfl, by rw [List.append_assoc], hod, hot, ho⟩⟩
    exact (List.Perm.swap _ _ _).trans ((List.Perm.swap _ _ _).cons _)
  cases od with
  | none =>
    dsimp only [slotL] at fin ⊢
    repeat' (first | refine a_load_q (by first | assumption | rfl) rfl ?_ | refine a_load_q (at_inB (by assumption)) rfl ?_ | refine a_faddr_q ?_ | refine a_len_m ?_ | refine a_len_l ?_ | refine a_grd_y (by first | assumption | rfl) ?_ | refine a_grd_n (by first | assumption | rfl) ?_ | refine a_grd_u ?_ | refine a_pick_t (by first | assumption | rfl) ?_ | refine a_pick_f (by first | assumption | rfl) ?_ | refine a_eql ?_ | refine a_lss ?_ | refine a_neq ?_ | refine a_geq ?_ | refine a_gtr ?_ | refine a_leq ?_ | refine a_add ?_ | refine a_sub ?_ | refine a_mul ?_ | refine a_eqs ?_ | refine a_nes ?_ | refine a_not ?_ | refine a_neg ?_ | refine a_conv ?_ | refine a_convS ?_ | refine a_cond_t (by first | assumption | rfl) ?_ | refine a_cond_f (by first | assumption | rfl) ?_ | refine a_box rfl rfl (fun nb_ hnb_ => ?_) | refine a_frz_p (by first | exact .here _ | exact .there _ (.here _) | exact .there _ (.there _ (.here _)) | exact .there _ (.there _ (.there _ (.here _)))) (by first | exact Nat.succ_pos _ | decide | simp) (by first | exact Nat.succ_pos _ | decide | simp) ?_ | refine a_alloc (fun nb_ hnb_ => ?_) | refine a_faddr_p ?_ | refine a_store_box (by first | exact .here _ | exact .there _ (.here _) | exact .there _ (.there _ (.here _)) | exact .there _ (.there _ (.there _ (.here _))) | exact .there _ (.there _ (.there _ (.there _ (.here _))))) rfl rfl rfl rfl ?_ | refine a_store_one (by first | exact .here _ | exact .there _ (.here _) | exact .there _ (.there _ (.here _)) | exact .there _ (.there _ (.there _ (.here _))) | exact .there _ (.there _ (.there _ (.there _ (.here _))))) (by first | assumption | rfl) rfl rfl (by first | decide | exact Nat.lt_of_sub_pos (Nat.succ_pos _) | simp | omega) rfl ?_ | refine a_store_row (by first | exact .here _ | exact .there _ (.here _) | exact .there _ (.there _ (.here _)) | exact .there _ (.there _ (.there _ (.here _))) | exact .there _ (.there _ (.there _ (.there _ (.here _))))) (by first | assumption | rfl) rfl rfl rfl rfl rfl ?_ | refine a_load_p (by first | exact .head _ | exact .tail _ (.head _) | exact .tail _ (.tail _ (.head _)) | exact .tail _ (.tail _ (.tail _ (.head _))) | exact .tail _ (.tail _ (.tail _ (.tail _ (.head _))))) (by first | assumption | rfl) rfl ?_ | refine a_row_q (by first | assumption | rfl) rfl ?_ | refine a_row_q (at_inB (by assumption)) rfl ?_ | refine a_row_p (by first | exact .head _ | exact .tail _ (.head _) | exact .tail _ (.tail _ (.head _)) | exact .tail _ (.tail _ (.tail _ (.head _))) | exact .tail _ (.tail _ (.tail _ (.tail _ (.head _))))) (by first | assumption | rfl) rfl ?_ | refine a_idx_n (by first | assumption | rfl) rfl ?_ | refine a_idx_l (by first | decide | omega) (by first | assumption | rfl) rfl ?_ | refine a_idx_l (nn_inB (by assumption)) (at_inB (by assumption)) rfl ?_ | refine a_idx_sn (by first | assumption | omega) (by first | exact .head _ | exact .tail _ (.head _) | exact .tail _ (.tail _ (.head _)) | exact .tail _ (.tail _ (.tail _ (.head _)))) rfl ?_ | refine a_ext rfl ?_ | refine a_build rfl ?_ | refine a_fld rfl ?_ | refine a_nil_p ?_ | refine a_nil_q ?_ | refine a_nil_f ?_ | refine a_note ?_ | refine a_join ?_ | refine a_len_s ?_ | refine a_len_n ?_ | refine a_lenS ?_ | refine a_tt ?_ | refine a_calm (by simp only [W.free, blocksOf, slOf, List.forall_mem_nil, List.forall_mem_cons, List.not_mem_nil, not_false_eq_true, implies_true, and_true, true_and, and_self, Bool.false_eq_true, reduceCtorEq, forall_const, false_implies, List.mem_singleton, forall_eq, List.append_nil, List.nil_append]) ?_ | refine a_dgrd_y (by first | assumption | rfl) ?_ | refine a_dgrd_n (by first | assumption | rfl) ?_ | refine a_dgrd_u ?_ | refine a_mslice (by omega) (by omega) (by omega) (fun nb_ hnb_ => ?_) | refine a_bslice (by decide) rfl (fun nb_ hnb_ => ?_) | refine a_idx_s (by first | decide | omega) (by first | assumption | omega) (by first | exact .head _ | exact .tail _ (.head _) | exact .tail _ (.tail _ (.head _)) | exact .tail _ (.tail _ (.tail _ (.head _)))) rfl ?_ | refine a_len_e ?_)
    refine call_back (cloneT_ok _ (small_mul h3)) ?_
    rintro v K ⟨ot, rfl, rfl, hot⟩
    unfold object_clone_c1
    cases ot with
    | none =>
      dsimp only [slotL] at fin ⊢
      repeat' (first | refine a_load_q (by first | assumption | rfl) rfl ?_ | refine a_load_q (at_inB (by assumption)) rfl ?_ | refine a_faddr_q ?_ | refine a_len_m ?_ | refine a_len_l ?_ | refine a_grd_y (by first | assumption | rfl) ?_ | refine a_grd_n (by first | assumption | rfl) ?_ | refine a_grd_u ?_ | refine a_pick_t (by first | assumption | rfl) ?_ | refine a_pick_f (by first | assumption | rfl) ?_ | refine a_eql ?_ | refine a_lss ?_ | refine a_neq ?_ | refine a_geq ?_ | refine a_gtr ?_ | refine a_leq ?_ | refine a_add ?_ | refine a_sub ?_ | refine a_mul ?_ | refine a_eqs ?_ | refine a_nes ?_ | refine a_not ?_ | refine a_neg ?_ | refine a_conv ?_ | refine a_convS ?_ | refine a_cond_t (by first | assumption | rfl) ?_ | refine a_cond_f (by first | assumption | rfl) ?_ | refine a_box rfl rfl (fun nb_ hnb_ => ?_) | refine a_frz_p (by first | exact .here _ | exact .there _ (.here _) | exact .there _ (.there _ (.here _)) | exact .there _ (.there _ (.there _ (.here _)))) (by first | exact Nat.succ_pos _ | decide | simp) (by first | exact Nat.succ_pos _ | decide | simp) ?_ | refine a_alloc (fun nb_ hnb_ => ?_) | refine a_faddr_p ?_ | refine a_store_box (by first | exact .here _ | exact .there _ (.here _) | exact .there _ (.there _ (.here _)) | exact .there _ (.there _ (.there _ (.here _))) | exact .there _ (.there _ (.there _ (.there _ (.here _))))) rfl rfl rfl rfl ?_ | refine a_store_one (by first | exact .here _ | exact .there _ (.here _) | exact .there _ (.there _ (.here _)) | exact .there _ (.there _ (.there _ (.here _))) | exact .there _ (.there _ (.there _ (.there _ (.here _))))) (by first | assumption | rfl) rfl rfl (by first | decide | exact Nat.lt_of_sub_pos (Nat.succ_pos _) | simp | omega) rfl ?_ | refine a_store_row (by first | exact .here _ | exact .there _ (.here _) | exact .there _ (.there _ (.here _)) | exact .there _ (.there _ (.there _ (.here _))) | exact .there _ (.there _ (.there _ (.there _ (.here _))))) (by first | assumption | rfl) rfl rfl rfl rfl rfl ?_ | refine a_load_p (by first | exact .head _ | exact .tail _ (.head _) | exact .tail _ (.tail _ (.head _)) | exact .tail _ (.tail _ (.tail _ (.head _))) | exact .tail _ (.tail _ (.tail _ (.tail _ (.head _))))) (by first | assumption | rfl) rfl ?_ | refine a_row_q (by first | assumption | rfl) rfl ?_ | refine a_row_q (at_inB (by assumption)) rfl ?_ | refine a_row_p (by first | exact .head _ | exact .tail _ (.head _) | exact .tail _ (.tail _ (.head _)) | exact .tail _ (.tail _ (.tail _ (.head _))) | exact .tail _ (.tail _ (.tail _ (.tail _ (.head _))))) (by first | assumption | rfl) rfl ?_ | refine a_idx_n (by first | assumption | rfl) rfl ?_ | refine a_idx_l (by first | decide | omega) (by first | assumption | rfl) rfl ?_ | refine a_idx_l (nn_inB (by assumption)) (at_inB (by assumption)) rfl ?_ | refine a_idx_sn (by first | assumption | omega) (by first | exact .head _ | exact .tail _ (.head _) | exact .tail _ (.tail _ (.head _)) | exact .tail _ (.tail _ (.tail _ (.head _)))) rfl ?_ | refine a_ext rfl ?_ | refine a_build rfl ?_ | refine a_fld rfl ?_ | refine a_nil_p ?_ | refine a_nil_q ?_ | refine a_nil_f ?_ | refine a_note ?_ | refine a_join ?_ | refine a_len_s ?_ | refine a_len_n ?_ | refine a_lenS ?_ | refine a_tt ?_ | refine a_calm (by simp only [W.free, blocksOf, slOf, List.forall_mem_nil, List.forall_mem_cons, List.not_mem_nil, not_false_eq_true, implies_true, and_true, true_and, and_self, Bool.false_eq_true, reduceCtorEq, forall_const, false_implies, List.mem_singleton, forall_eq, List.append_nil, List.nil_append]) ?_ | refine a_dgrd_y (by first | assumption | rfl) ?_ | refine a_dgrd_n (by first | assumption | rfl) ?_ | refine a_dgrd_u ?_ | refine a_mslice (by omega) (by omega) (by omega) (fun nb_ hnb_ => ?_) | refine a_bslice (by decide) rfl (fun nb_ hnb_ => ?_) | refine a_idx_s (by first | decide | omega) (by first | assumption | omega) (by first | exact .head _ | exact .tail _ (.head _) | exact .tail _ (.tail _ (.head _)) | exact .tail _ (.tail _ (.tail _ (.head _)))) rfl ?_ | refine a_len_e ?_)
      exact fin _ _ none hot rfl ⟨_, _, rfl⟩
    | some bt =>
      dsimp only [slotL] at fin ⊢
      repeat' (first | refine a_load_q (by first | assumption | rfl) rfl ?_ | refine a_load_q (at_inB (by assumption)) rfl ?_ | refine a_faddr_q ?_ | refine a_len_m ?_ | refine a_len_l ?_ | refine a_grd_y (by first | assumption | rfl) ?_ | refine a_grd_n (by first | assumption | rfl) ?_ | refine a_grd_u ?_ | refine a_pick_t (by first | assumption | rfl) ?_ | refine a_pick_f (by first | assumption | rfl) ?_ | refine a_eql ?_ | refine a_lss ?_ | refine a_neq ?_ | refine a_geq ?_ | refine a_gtr ?_ | refine a_leq ?_ | refine a_add ?_ | refine a_sub ?_ | refine a_mul ?_ | refine a_eqs ?_ | refine a_nes ?_ | refine a_not ?_ | refine a_neg ?_ | refine a_conv ?_ | refine a_convS ?_ | refine a_cond_t (by first | assumption | rfl) ?_ | refine a_cond_f (by first | assumption | rfl) ?_ | refine a_box rfl rfl (fun nb_ hnb_ => ?_) | refine a_frz_p (by first | exact .here _ | exact .there _ (.here _) | exact .there _ (.there _ (.here _)) | exact .there _ (.there _ (.there _ (.here _)))) (by first | exact Nat.succ_pos _ | decide | simp) (by first | exact Nat.succ_pos _ | decide | simp) ?_ | refine a_alloc (fun nb_ hnb_ => ?_) | refine a_faddr_p ?_ | refine a_store_box (by first | exact .here _ | exact .there _ (.here _) | exact .there _ (.there _ (.here _)) | exact .there _ (.there _ (.there _ (.here _))) | exact .there _ (.there _ (.there _ (.there _ (.here _))))) rfl rfl rfl rfl ?_ | refine a_store_one (by first | exact .here _ | exact .there _ (.here _) | exact .there _ (.there _ (.here _)) | exact .there _ (.there _ (.there _ (.here _))) | exact .there _ (.there _ (.there _ (.there _ (.here _))))) (by first | assumption | rfl) rfl rfl (by first | decide | exact Nat.lt_of_sub_pos (Nat.succ_pos _) | simp | omega) rfl ?_ | refine a_store_row (by first | exact .here _ | exact .there _ (.here _) | exact .there _ (.there _ (.here _)) | exact .there _ (.there _ (.there _ (.here _))) | exact .there _ (.there _ (.there _ (.there _ (.here _))))) (by first | assumption | rfl) rfl rfl rfl rfl rfl ?_ | refine a_load_p (by first | exact .head _ | exact .tail _ (.head _) | exact .tail _ (.tail _ (.head _)) | exact .tail _ (.tail _ (.tail _ (.head _))) | exact .tail _ (.tail _ (.tail _ (.tail _ (.head _))))) (by first | assumption | rfl) rfl ?_ | refine a_row_q (by first | assumption | rfl) rfl ?_ | refine a_row_q (at_inB (by assumption)) rfl ?_ | refine a_row_p (by first | exact .head _ | exact .tail _ (.head _) | exact .tail _ (.tail _ (.head _)) | exact .tail _ (.tail _ (.tail _ (.head _))) | exact .tail _ (.tail _ (.tail _ (.tail _ (.head _))))) (by first | assumption | rfl) rfl ?_ | refine a_idx_n (by first | assumption | rfl) rfl ?_ | refine a_idx_l (by first | decide | omega) (by first | assumption | rfl) rfl ?_ | refine a_idx_l (nn_inB (by assumption)) (at_inB (by assumption)) rfl ?_ | refine a_idx_sn (by first | assumption | omega) (by first | exact .head _ | exact .tail _ (.head _) | exact .tail _ (.tail _ (.head _)) | exact .tail _ (.tail _ (.tail _ (.head _)))) rfl ?_ | refine a_ext rfl ?_ | refine a_build rfl ?_ | refine a_fld rfl ?_ | refine a_nil_p ?_ | refine a_nil_q ?_ | refine a_nil_f ?_ | refine a_note ?_ | refine a_join ?_ | refine a_len_s ?_ | refine a_len_n ?_ | refine a_lenS ?_ | refine a_tt ?_ | refine a_calm (by simp only [W.free, blocksOf, slOf, List.forall_mem_nil, List.forall_mem_cons, List.not_mem_nil, not_false_eq_true, implies_true, and_true, true_and, and_self, Bool.false_eq_true, reduceCtorEq, forall_const, false_implies, List.mem_singleton, forall_eq, List.append_nil, List.nil_append]) ?_ | refine a_dgrd_y (by first | assumption | rfl) ?_ | refine a_dgrd_n (by first | assumption | rfl) ?_ | refine a_dgrd_u ?_ | refine a_mslice (by omega) (by omega) (by omega) (fun nb_ hnb_ => ?_) | refine a_bslice (by decide) rfl (fun nb_ hnb_ => ?_) | refine a_idx_s (by first | decide | omega) (by first | assumption | omega) (by first | exact .head _ | exact .tail _ (.head _) | exact .tail _ (.tail _ (.head _)) | exact .tail _ (.tail _ (.tail _ (.head _)))) rfl ?_ | refine a_len_e ?_)
      exact fin _ _ (some bt) hot rfl ⟨_, _, rfl⟩
  | some bd =>
    dsimp only [slotL] at fin ⊢
    repeat' (first | refine a_load_q (by first | assumption | rfl) rfl ?_ | refine a_load_q (at_inB (by assumption)) rfl ?_ | refine a_faddr_q ?_ | refine a_len_m ?_ | refine a_len_l ?_ | refine a_grd_y (by first | assumption | rfl) ?_ | refine a_grd_n (by first | assumption | rfl) ?_ | refine a_grd_u ?_ | refine a_pick_t (by first | assumption | rfl) ?_ | refine a_pick_f (by first | assumption | rfl) ?_ | refine a_eql ?_ | refine a_lss ?_ | refine a_neq ?_ | refine a_geq ?_ | refine a_gtr ?_ | refine a_leq ?_ | refine a_add ?_ | refine a_sub ?_ | refine a_mul ?_ | refine a_eqs ?_ | refine a_nes ?_ | refine a_not ?_ | refine a_neg ?_ | refine a_conv ?_ | refine a_convS ?_ | refine a_cond_t (by first | assumption | rfl) ?_ | refine a_cond_f (by first | assumption | rfl) ?_ | refine a_box rfl rfl (fun nb_ hnb_ => ?_) | refine a_frz_p (by first | exact .here _ | exact .there _ (.here _) | exact .there _ (.there _ (.here _)) | exact .there _ (.there _ (.there _ (.here _)))) (by first | exact Nat.succ_pos _ | decide | simp) (by first | exact Nat.succ_pos _ | decide | simp) ?_ | refine a_alloc (fun nb_ hnb_ => ?_) | refine a_faddr_p ?_ | refine a_store_box (by first | exact .here _ | exact .there _ (.here _) | exact .there _ (.there _ (.here _)) | exact .there _ (.there _ (.there _ (.here _))) | exact .there _ (.there _ (.there _ (.there _ (.here _))))) rfl rfl rfl rfl ?_ | refine a_store_one (by first | exact .here _ | exact .there _ (.here _) | exact .there _ (.there _ (.here _)) | exact .there _ (.there _ (.there _ (.here _))) | exact .there _ (.there _ (.there _ (.there _ (.here _))))) (by first | assumption | rfl) rfl rfl (by first | decide | exact Nat.lt_of_sub_pos (Nat.succ_pos _) | simp | omega) rfl ?_ | refine a_store_row (by first | exact .here _ | exact .there _ (.here _) | exact .there _ (.there _ (.here _)) | exact .there _ (.there _ (.there _ (.here _))) | exact .there _ (.there _ (.there _ (.there _ (.here _))))) (by first | assumption | rfl) rfl rfl rfl rfl rfl ?_ | refine a_load_p (by first | exact .head _ | exact .tail _ (.head _) | exact .tail _ (.tail _ (.head _)) | exact .tail _ (.tail _ (.tail _ (.head _))) | exact .tail _ (.tail _ (.tail _ (.tail _ (.head _))))) (by first | assumption | rfl) rfl ?_ | refine a_row_q (by first | assumption | rfl) rfl ?_ | refine a_row_q (at_inB (by assumption)) rfl ?_ | refine a_row_p (by first | exact .head _ | exact .tail _ (.head _) | exact .tail _ (.tail _ (.head _)) | exact .tail _ (.tail _ (.tail _ (.head _))) | exact .tail _ (.tail _ (.tail _ (.tail _ (.head _))))) (by first | assumption | rfl) rfl ?_ | refine a_idx_n (by first | assumption | rfl) rfl ?_ | refine a_idx_l (by first | decide | omega) (by first | assumption | rfl) rfl ?_ | refine a_idx_l (nn_inB (by assumption)) (at_inB (by assumption)) rfl ?_ | refine a_idx_sn (by first | assumption | omega) (by first | exact .head _ | exact .tail _ (.head _) | exact .tail _ (.tail _ (.head _)) | exact .tail _ (.tail _ (.tail _ (.head _)))) rfl ?_ | refine a_ext rfl ?_ | refine a_build rfl ?_ | refine a_fld rfl ?_ | refine a_nil_p ?_ | refine a_nil_q ?_ | refine a_nil_f ?_ | refine a_note ?_ | refine a_join ?_ | refine a_len_s ?_ | refine a_len_n ?_ | refine a_lenS ?_ | refine a_tt ?_ | refine a_calm (by simp only [W.free, blocksOf, slOf, List.forall_mem_nil, List.forall_mem_cons, List.not_mem_nil, not_false_eq_true, implies_true, and_true, true_and, and_self, Bool.false_eq_true, reduceCtorEq, forall_const, false_implies, List.mem_singleton, forall_eq, List.append_nil, List.nil_append]) ?_ | refine a_dgrd_y (by first | assumption | rfl) ?_ | refine a_dgrd_n (by first | assumption | rfl) ?_ | refine a_dgrd_u ?_ | refine a_mslice (by omega) (by omega) (by omega) (fun nb_ hnb_ => ?_) | refine a_bslice (by decide) rfl (fun nb_ hnb_ => ?_) | refine a_idx_s (by first | decide | omega) (by first | assumption | omega) (by first | exact .head _ | exact .tail _ (.head _) | exact .tail _ (.tail _ (.head _)) | exact .tail _ (.tail _ (.tail _ (.head _)))) rfl ?_ | refine a_len_e ?_)
    refine call_back (cloneT_ok _ (small_mul h3)) ?_
    rintro v K ⟨ot, rfl, rfl, hot⟩
    unfold object_clone_c1
    cases ot with
    | none =>
      dsimp only [slotL] at fin ⊢
      repeat' (first | refine a_load_q (by first | assumption | rfl) rfl ?_ | refine a_load_q (at_inB (by assumption)) rfl ?_ | refine a_faddr_q ?_ | refine a_len_m ?_ | refine a_len_l ?_ | refine a_grd_y (by first | assumption | rfl) ?_ | refine a_grd_n (by first | assumption | rfl) ?_ | refine a_grd_u ?_ | refine a_pick_t (by first | assumption | rfl) ?_ | refine a_pick_f (by first | assumption | rfl) ?_ | refine a_eql ?_ | refine a_lss ?_ | refine a_neq ?_ | refine a_geq ?_ | refine a_gtr ?_ | refine a_leq ?_ | refine a_add ?_ | refine a_sub ?_ | refine a_mul ?_ | refine a_eqs ?_ | refine a_nes ?_ | refine a_not ?_ | refine a_neg ?_ | refine a_conv ?_ | refine a_convS ?_ | refine a_cond_t (by first | assumption | rfl) ?_ | refine a_cond_f (by first | assumption | rfl) ?_ | refine a_box rfl rfl (fun nb_ hnb_ => ?_) | refine a_frz_p (by first | exact .here _ | exact .there _ (.here _) | exact .there _ (.there _ (.here _)) | exact .there _ (.there _ (.there _ (.here _)))) (by first | exact Nat.succ_pos _ | decide | simp) (by first | exact Nat.succ_pos _ | decide | simp) ?_ | refine a_alloc (fun nb_ hnb_ => ?_) | refine a_faddr_p ?_ | refine a_store_box (by first | exact .here _ | exact .there _ (.here _) | exact .there _ (.there _ (.here _)) | exact .there _ (.there _ (.there _ (.here _))) | exact .there _ (.there _ (.there _ (.there _ (.here _))))) rfl rfl rfl rfl ?_ | refine a_store_one (by first | exact .here _ | exact .there _ (.here _) | exact .there _ (.there _ (.here _)) | exact .there _ (.there _ (.there _ (.here _))) | exact .there _ (.there _ (.there _ (.there _ (.here _))))) (by first | assumption | rfl) rfl rfl (by first | decide | exact Nat.lt_of_sub_pos (Nat.succ_pos _) | simp | omega) rfl ?_ | refine a_store_row (by first | exact .here _ | exact .there _ (.here _) | exact .there _ (.there _ (.here _)) | exact .there _ (.there _ (.there _ (.here _))) | exact .there _ (.there _ (.there _ (.there _ (.here _))))) (by first | assumption | rfl) rfl rfl rfl rfl rfl ?_ | refine a_load_p (by first | exact .head _ | exact .tail _ (.head _) | exact .tail _ (.tail _ (.head _)) | exact .tail _ (.tail _ (.tail _ (.head _))) | exact .tail _ (.tail _ (.tail _ (.tail _ (.head _))))) (by first | assumption | rfl) rfl ?_ | refine a_row_q (by first | assumption | rfl) rfl ?_ | refine a_row_q (at_inB (by assumption)) rfl ?_ | refine a_row_p (by first | exact .head _ | exact .tail _ (.head _) | exact .tail _ (.tail _ (.head _)) | exact .tail _ (.tail _ (.tail _ (.head _))) | exact .tail _ (.tail _ (.tail _ (.tail _ (.head _))))) (by first | assumption | rfl) rfl ?_ | refine a_idx_n (by first | assumption | rfl) rfl ?_ | refine a_idx_l (by first | decide | omega) (by first | assumption | rfl) rfl ?_ | refine a_idx_l (nn_inB (by assumption)) (at_inB (by assumption)) rfl ?_ | refine a_idx_sn (by first | assumption | omega) (by first | exact .head _ | exact .tail _ (.head _) | exact .tail _ (.tail _ (.head _)) | exact .tail _ (.tail _ (.tail _ (.head _)))) rfl ?_ | refine a_ext rfl ?_ | refine a_build rfl ?_ | refine a_fld rfl ?_ | refine a_nil_p ?_ | refine a_nil_q ?_ | refine a_nil_f ?_ | refine a_note ?_ | refine a_join ?_ | refine a_len_s ?_ | refine a_len_n ?_ | refine a_lenS ?_ | refine a_tt ?_ | refine a_calm (by simp only [W.free, blocksOf, slOf, List.forall_mem_nil, List.forall_mem_cons, List.not_mem_nil, not_false_eq_true, implies_true, and_true, true_and, and_self, Bool.false_eq_true, reduceCtorEq, forall_const, false_implies, List.mem_singleton, forall_eq, List.append_nil, List.nil_append]) ?_ | refine a_dgrd_y (by first | assumption | rfl) ?_ | refine a_dgrd_n (by first | assumption | rfl) ?_ | refine a_dgrd_u ?_ | refine a_mslice (by omega) (by omega) (by omega) (fun nb_ hnb_ => ?_) | refine a_bslice (by decide) rfl (fun nb_ hnb_ => ?_) | refine a_idx_s (by first | decide | omega) (by first | assumption | omega) (by first | exact .head _ | exact .tail _ (.head _) | exact .tail _ (.tail _ (.head _)) | exact .tail _ (.tail _ (.tail _ (.head _)))) rfl ?_ | refine a_len_e ?_)
      exact fin _ _ none hot rfl ⟨_, _, rfl⟩
    | some bt =>
      dsimp only [slotL] at fin ⊢
      repeat' (first | refine a_load_q (by first | assumption | rfl) rfl ?_ | refine a_load_q (at_inB (by assumption)) rfl ?_ | refine a_faddr_q ?_ | refine a_len_m ?_ | refine a_len_l ?_ | refine a_grd_y (by first | assumption | rfl) ?_ | refine a_grd_n (by first | assumption | rfl) ?_ | refine a_grd_u ?_ | refine a_pick_t (by first | assumption | rfl) ?_ | refine a_pick_f (by first | assumption | rfl) ?_ | refine a_eql ?_ | refine a_lss ?_ | refine a_neq ?_ | refine a_geq ?_ | refine a_gtr ?_ | refine a_leq ?_ | refine a_add ?_ | refine a_sub ?_ | refine a_mul ?_ | refine a_eqs ?_ | refine a_nes ?_ | refine a_not ?_ | refine a_neg ?_ | refine a_conv ?_ | refine a_convS ?_ | refine a_cond_t (by first | assumption | rfl) ?_ | refine a_cond_f (by first | assumption | rfl) ?_ | refine a_box rfl rfl (fun nb_ hnb_ => ?_) | refine a_frz_p (by first | exact .here _ | exact .there _ (.here _) | exact .there _ (.there _ (.here _)) | exact .there _ (.there _ (.there _ (.here _)))) (by first | exact Nat.succ_pos _ | decide | simp) (by first | exact Nat.succ_pos _ | decide | simp) ?_ | refine a_alloc (fun nb_ hnb_ => ?_) | refine a_faddr_p ?_ | refine a_store_box (by first | exact .here _ | exact .there _ (.here _) | exact .there _ (.there _ (.here _)) | exact .there _ (.there _ (.there _ (.here _))) | exact .there _ (.there _ (.there _ (.there _ (.here _))))) rfl rfl rfl rfl ?_ | refine a_store_one (by first | exact .here _ | exact .there _ (.here _) | exact .there _ (.there _ (.here _)) | exact .there _ (.there _ (.there _ (.here _))) | exact .there _ (.there _ (.there _ (.there _ (.here _))))) (by first | assumption | rfl) rfl rfl (by first | decide | exact Nat.lt_of_sub_pos (Nat.succ_pos _) | simp | omega) rfl ?_ | refine a_store_row (by first | exact .here _ | exact .there _ (.here _) | exact .there _ (.there _ (.here _)) | exact .there _ (.there _ (.there _ (.here _))) | exact .there _ (.there _ (.there _ (.there _ (.here _))))) (by first | assumption | rfl) rfl rfl rfl rfl rfl ?_ | refine a_load_p (by first | exact .head _ | exact .tail _ (.head _) | exact .tail _ (.tail _ (.head _)) | exact .tail _ (.tail _ (.tail _ (.head _))) | exact .tail _ (.tail _ (.tail _ (.tail _ (.head _))))) (by first | assumption | rfl) rfl ?_ | refine a_row_q (by first | assumption | rfl) rfl ?_ | refine a_row_q (at_inB (by assumption)) rfl ?_ | refine a_row_p (by first | exact .head _ | exact .tail _ (.head _) | exact .tail _ (.tail _ (.head _)) | exact .tail _ (.tail _ (.tail _ (.head _))) | exact .tail _ (.tail _ (.tail _ (.tail _ (.head _))))) (by first | assumption | rfl) rfl ?_ | refine a_idx_n (by first | assumption | rfl) rfl ?_ | refine a_idx_l (by first | decide | omega) (by first | assumption | rfl) rfl ?_ | refine a_idx_l (nn_inB (by assumption)) (at_inB (by assumption)) rfl ?_ | refine a_idx_sn (by first | assumption | omega) (by first | exact .head _ | exact .tail _ (.head _) | exact .tail _ (.tail _ (.head _)) | exact .tail _ (.tail _ (.tail _ (.head _)))) rfl ?_ | refine a_ext rfl ?_ | refine a_build rfl ?_ | refine a_fld rfl ?_ | refine a_nil_p ?_ | refine a_nil_q ?_ | refine a_nil_f ?_ | refine a_note ?_ | refine a_join ?_ | refine a_len_s ?_ | refine a_len_n ?_ | refine a_lenS ?_ | refine a_tt ?_ | refine a_calm (by simp only [W.free, blocksOf, slOf, List.forall_mem_nil, List.forall_mem_cons, List.not_mem_nil, not_false_eq_true, implies_true, and_true, true_and, and_self, Bool.false_eq_true, reduceCtorEq, forall_const, false_implies, List.mem_singleton, forall_eq, List.append_nil, List.nil_append]) ?_ | refine a_dgrd_y (by first | assumption | rfl) ?_ | refine a_dgrd_n (by first | assumption | rfl) ?_ | refine a_dgrd_u ?_ | refine a_mslice (by omega) (by omega) (by omega) (fun nb_ hnb_ => ?_) | refine a_bslice (by decide) rfl (fun nb_ hnb_ => ?_) | refine a_idx_s (by first | decide | omega) (by first | assumption | omega) (by first | exact .head _ | exact .tail _ (.head _) | exact .tail _ (.tail _ (.head _)) | exact .tail _ (.tail _ (.tail _ (.head _)))) rfl ?_ | refine a_len_e ?_)
      exact fin _ _ (some bt) hot rfl ⟨_, _, rfl⟩
end Go.Proofs.Ytadjimfkfmojkaa.Am

end
section
namespace Go.Proofs.Ytadjimfkfmojkaa.Am
set_option linter.unusedVariables false
set_option maxRecDepth 100000
def object_ApplyF_t : Hints := ⟨fun k => if k = 43 then some [7, 12, 15] else if k = 11 then some [4, 5, 6, 7, 8, 12, 15, 27, 42] else if k = 14 then some [4, 5, 6, 7, 8, 12, 15, 27, 51] else none, fun k => [], fun k => if k = 0 then [6, 8] else [], fun k => if k = 17 then [0, 1, 0, 7, 15, 31, 0, 64, 255, 511] else if k = 19 then [0, 1, 0, 0, 8, 31, 63, 127] else if k = 21 then [0, 1, 0, 0, 8, 0, 56, 120, 248, 0, 1016, 2047, 4095, 8191] else if k = 31 then [0, 1, 0, 4, 0, 28, 60, 124, 255, 511, 1023] else if k = 32 then [0, 1, 0, 0, 8, 0, 0, 7, 135, 391, 1023, 2047, 4095] else if k = 34 then [0, 1, 0, 4, 0, 28, 60, 124, 0, 511, 1023, 2047] else if k = 35 then [0, 1, 0, 0, 8, 0, 7, 71, 199, 511, 1023, 2047] else []⟩
def object_ApplyF_zt0 (t12_6 : AV) (L_16 : SH) (Q : AV → SH → Prop)  : Prop :=
 W.build [.nils, (.int .i64 0), .nils, .nils] [] fun t24_18 =>
 W.store 4 t12_6 t24_18 L_16 fun L_19 =>
 W.load true 4 t12_6 L_19 fun r_20 =>
 Q (.tup [r_20, (.int .i64 0), (.bool false)]) L_19
def object_ApplyF_j0 (Q : AV → SH → Prop) (vs_25 : List AV) (L_27 : SH) : Prop :=
 W.load true 4 (slotOf [7, 12, 15] vs_25 7) L_27 fun t185_28 =>
 W.store 4 (slotOf [7, 12, 15] vs_25 12) t185_28 L_27 fun L_29 =>
 W.load true 4 (slotOf [7, 12, 15] vs_25 12) L_29 fun r_30 =>
 Q (.tup [r_30, (slotOf [7, 12, 15] vs_25 15), (.bool true)]) L_29
def object_ApplyF_zt1 (t7_2 : AV) (L_24 : SH) (t8_10 : AV) (j_26 : W.Kn) (t12_6 : AV)  : Prop :=
 W.faddr 3 t7_2 fun t30_32 =>
 W.load false 1 t30_32 L_24 fun t31_33 =>
 W.load false 1 t8_10 L_24 fun t32_34 =>
 W.idx 3 t31_33 t32_34 L_24 fun t33_35 =>
 W.faddr 0 t33_35 fun t34_36 =>
 W.store 1 t34_36 (.int .i64 2) L_24 fun L_37 =>
 j_26 [t7_2, t12_6, (.int .i64 0)] L_37
def object_ApplyF_zt2 (t7_2 : AV) (L_24 : SH) (t8_10 : AV) (j_26 : W.Kn) (t12_6 : AV)  : Prop :=
 W.faddr 3 t7_2 fun t37_39 =>
 W.load false 1 t37_39 L_24 fun t38_40 =>
 W.load false 1 t8_10 L_24 fun t39_41 =>
 W.idx 3 t38_40 t39_41 L_24 fun t40_42 =>
 W.faddr 0 t40_42 fun t41_43 =>
 W.store 1 t41_43 (.int .i64 5) L_24 fun L_44 =>
 j_26 [t7_2, t12_6, (.int .i64 0)] L_44
def object_ApplyF_zt3 (vs_45 : List AV) (L_47 : SH) (j_26 : W.Kn)  : Prop :=
 W.faddr 0 (slotOf [4, 5, 6, 7, 8, 12, 15, 27, 42] vs_45 7) fun t45_48 =>
 W.load false 1 t45_48 L_47 fun t46_49 =>
 W.load false 1 (slotOf [4, 5, 6, 7, 8, 12, 15, 27, 42] vs_45 8) L_47 fun t48_50 =>
 W.idx 2 t46_49 (slotOf [4, 5, 6, 7, 8, 12, 15, 27, 42] vs_45 4) L_47 fun t49_51 =>
 W.faddr 0 t49_51 fun t50_52 =>
 W.store 1 t50_52 t48_50 L_47 fun L_53 =>
 j_26 [(slotOf [4, 5, 6, 7, 8, 12, 15, 27, 42] vs_45 7), (slotOf [4, 5, 6, 7, 8, 12, 15, 27, 42] vs_45 12), (slotOf [4, 5, 6, 7, 8, 12, 15, 27, 42] vs_45 15)] L_53
def object_ApplyF_zt4 (vs_54 : List AV) (L_56 : SH) (j_26 : W.Kn)  : Prop :=
 W.faddr 0 (slotOf [4, 5, 6, 7, 8, 12, 15, 27, 51] vs_54 7) fun t54_57 =>
 W.load false 1 t54_57 L_56 fun t55_58 =>
 W.idx 2 t55_58 (slotOf [4, 5, 6, 7, 8, 12, 15, 27, 51] vs_54 4) L_56 fun t57_59 =>
 W.faddr 0 t57_59 fun t58_60 =>
 W.store 1 t58_60 (.int .i64 (-1)) L_56 fun L_61 =>
 j_26 [(slotOf [4, 5, 6, 7, 8, 12, 15, 27, 51] vs_54 7), (slotOf [4, 5, 6, 7, 8, 12, 15, 27, 51] vs_54 12), (slotOf [4, 5, 6, 7, 8, 12, 15, 27, 51] vs_54 15)] L_61
def object_ApplyF_d1 (L_80 : SH) (t73_82 : AV) (vs_54 : List AV) (j_26 : W.Kn) (t76_84 : AV) (L_86 : SH) (ks_85 : List Nat) : Prop :=
 W.note ⟨[], ks_85, [], L_80.names⟩ fun r_87 =>
 W.calm [] ⟨5, (slOf t73_82), [], [], false, []⟩ (
 W.idx 2 t73_82 (slotOf [4, 5, 6, 7, 8, 12, 15, 27, 51] vs_54 4) L_86 fun t77_88 =>
 W.note ⟨(slOf t73_82), [], [], []⟩ fun r_89 =>
 W.faddr 1 t77_88 fun t78_90 =>
 W.calm [] ⟨7, (blocksOf t78_90), (blocksOf t78_90), [], false, []⟩ (
 W.store 1 t78_90 t76_84 L_86 fun L_91 =>
 W.note ⟨(blocksOf t78_90), (blocksOf t78_90), [], []⟩ fun r_92 =>
 j_26 [(slotOf [4, 5, 6, 7, 8, 12, 15, 27, 51] vs_54 7), (slotOf [4, 5, 6, 7, 8, 12, 15, 27, 51] vs_54 12), (slotOf [4, 5, 6, 7, 8, 12, 15, 27, 51] vs_54 15)] L_91))
def object_ApplyF_c2 (vs_54 : List AV) (t69_76 : AV) (j_26 : W.Kn) (t71_79 : AV) (L_80 : SH) : Prop :=
 (true = true) ∧ (
 W.faddr 0 (slotOf [4, 5, 6, 7, 8, 12, 15, 27, 51] vs_54 7) fun t72_81 =>
 W.calm [] ⟨1, (blocksOf t72_81), [], [], false, []⟩ (
 W.load false 1 t72_81 L_80 fun t73_82 =>
 W.note ⟨(blocksOf t72_81), [], [], []⟩ fun r_83 =>
 W.dcall Try.prog [⟨1, r_83.reads, r_83.writes, r_83.made, false, r_83.old⟩] 4 (.fn 41 []) [t69_76] L_80 (object_ApplyF_d1 L_80 t73_82 vs_54 j_26)))
def object_ApplyF_zt5 (vs_54 : List AV) (L_56 : SH) (j_26 : W.Kn)  : Prop :=
 (true = true) ∧ (
 W.faddr 0 (slotOf [4, 5, 6, 7, 8, 12, 15, 27, 51] vs_54 7) fun t61_63 =>
 W.calm [] ⟨1, (blocksOf t61_63), [], [], false, []⟩ (
 W.load false 1 t61_63 L_56 fun t62_64 =>
 W.note ⟨(blocksOf t61_63), [], [], []⟩ fun r_65 =>
 W.calm [] ⟨3, (slOf t62_64), [], [], false, []⟩ (
 W.idx 2 t62_64 (slotOf [4, 5, 6, 7, 8, 12, 15, 27, 51] vs_54 4) L_56 fun t64_66 =>
 W.note ⟨(slOf t62_64), [], [], []⟩ fun r_67 =>
 W.faddr 1 t64_66 fun t65_68 =>
 W.calm [] ⟨5, (blocksOf t65_68), [], [], false, []⟩ (
 W.load false 1 t65_68 L_56 fun t66_69 =>
 W.note ⟨(blocksOf t65_68), [], [], []⟩ fun r_70 =>
 W.calm [⟨5, r_70.reads, r_70.writes, r_70.made, false, r_70.old⟩, ⟨3, r_67.reads, r_67.writes, r_67.made, false, r_67.old⟩, ⟨1, r_65.reads, r_65.writes, r_65.made, false, r_65.old⟩] ⟨6, (blocksOf (slotOf [4, 5, 6, 7, 8, 12, 15, 27, 51] vs_54 8)), [], [], false, []⟩ (
 W.load false 1 (slotOf [4, 5, 6, 7, 8, 12, 15, 27, 51] vs_54 8) L_56 fun t67_71 =>
 W.note ⟨(blocksOf (slotOf [4, 5, 6, 7, 8, 12, 15, 27, 51] vs_54 8)), [], [], []⟩ fun r_72 =>
 W.calm [⟨5, r_70.reads, r_70.writes, r_70.made, false, r_70.old⟩, ⟨3, r_67.reads, r_67.writes, r_67.made, false, r_67.old⟩, ⟨1, r_65.reads, r_65.writes, r_65.made, false, r_65.old⟩] ⟨7, [], [], [], false, []⟩ (
 W.bslice 1 [(.int .i64 0)] 1 [(0, t67_71)] L_56 fun t68_73 L_74 =>
 W.note ⟨[], [], (blocksOf t68_73), []⟩ fun r_75 =>
 W.calm [] ⟨8, (blocksOf t66_69 ++ blocksOf t68_73), (blocksOf t66_69), [], false, []⟩ (
 W.append 1 8 t66_69 t68_73 L_74 fun t69_76 L_77 =>
 W.note ⟨(blocksOf t66_69 ++ blocksOf t68_73), (blocksOf t66_69), (blocksOf t69_76), []⟩ fun r_78 =>
 W.call Try.prog (.fn 40 []) [t69_76] L_77 (object_ApplyF_c2 vs_54 t69_76 j_26))))))))
def object_ApplyF_d3 (L_56 : SH) (t82_95 : AV) (vs_54 : List AV) (j_26 : W.Kn) (t91_105 : AV) (L_107 : SH) (ks_106 : List Nat) : Prop :=
 W.note ⟨[], ks_106, [], L_56.names⟩ fun r_108 =>
 W.calm [] ⟨11, (slOf t82_95), [], [], false, []⟩ (
 W.idx 2 t82_95 (slotOf [4, 5, 6, 7, 8, 12, 15, 27, 51] vs_54 4) L_107 fun t92_109 =>
 W.note ⟨(slOf t82_95), [], [], []⟩ fun r_110 =>
 W.faddr 1 t92_109 fun t93_111 =>
 W.calm [] ⟨13, (blocksOf t93_111), (blocksOf t93_111), [], false, []⟩ (
 W.store 1 t93_111 t91_105 L_107 fun L_112 =>
 W.note ⟨(blocksOf t93_111), (blocksOf t93_111), [], []⟩ fun r_113 =>
 j_26 [(slotOf [4, 5, 6, 7, 8, 12, 15, 27, 51] vs_54 7), (slotOf [4, 5, 6, 7, 8, 12, 15, 27, 51] vs_54 12), (slotOf [4, 5, 6, 7, 8, 12, 15, 27, 51] vs_54 15)] L_112))
def object_ApplyF_zt6 (vs_54 : List AV) (L_56 : SH) (j_26 : W.Kn)  : Prop :=
 (true = true) ∧ (
 W.faddr 0 (slotOf [4, 5, 6, 7, 8, 12, 15, 27, 51] vs_54 7) fun t81_94 =>
 W.calm [] ⟨1, (blocksOf t81_94), [], [], false, []⟩ (
 W.load false 1 t81_94 L_56 fun t82_95 =>
 W.note ⟨(blocksOf t81_94), [], [], []⟩ fun r_96 =>
 W.faddr 0 (slotOf [4, 5, 6, 7, 8, 12, 15, 27, 51] vs_54 7) fun t84_97 =>
 W.calm [⟨1, r_96.reads, r_96.writes, r_96.made, false, r_96.old⟩] ⟨4, (blocksOf t84_97), [], [], false, []⟩ (
 W.load false 1 t84_97 L_56 fun t85_98 =>
 W.note ⟨(blocksOf t84_97), [], [], []⟩ fun r_99 =>
 W.calm [⟨1, r_96.reads, r_96.writes, r_96.made, false, r_96.old⟩] ⟨6, (slOf t85_98), [], [], false, []⟩ (
 W.idx 2 t85_98 (slotOf [4, 5, 6, 7, 8, 12, 15, 27, 51] vs_54 4) L_56 fun t87_100 =>
 W.note ⟨(slOf t85_98), [], [], []⟩ fun r_101 =>
 W.faddr 1 t87_100 fun t88_102 =>
 W.calm [⟨1, r_96.reads, r_96.writes, r_96.made, false, r_96.old⟩] ⟨8, (blocksOf t88_102), [], [], false, []⟩ (
 W.load false 1 t88_102 L_56 fun t89_103 =>
 W.note ⟨(blocksOf t88_102), [], [], []⟩ fun r_104 =>
 W.dcall Try.prog [⟨1, r_96.reads, r_96.writes, r_96.made, false, r_96.old⟩] 10 (.fn 48 []) [t89_103, (.fn 49 [(slotOf [4, 5, 6, 7, 8, 12, 15, 27, 51] vs_54 8)])] L_56 (object_ApplyF_d3 L_56 t82_95 vs_54 j_26))))))
def object_ApplyF_zt7 (vs_54 : List AV) (L_56 : SH) (j_26 : W.Kn)  : Prop :=
 W.load false 1 (slotOf [4, 5, 6, 7, 8, 12, 15, 27, 51] vs_54 8) L_56 fun t96_115 =>
 W.faddr 1 (slotOf [4, 5, 6, 7, 8, 12, 15, 27, 51] vs_54 7) fun t97_116 =>
 W.store 1 t97_116 t96_115 L_56 fun L_117 =>
 j_26 [(slotOf [4, 5, 6, 7, 8, 12, 15, 27, 51] vs_54 7), (slotOf [4, 5, 6, 7, 8, 12, 15, 27, 51] vs_54 12), (slotOf [4, 5, 6, 7, 8, 12, 15, 27, 51] vs_54 15)] L_117
def object_ApplyF_zt8 (vs_54 : List AV) (L_56 : SH) (j_26 : W.Kn)  : Prop :=
 W.faddr 1 (slotOf [4, 5, 6, 7, 8, 12, 15, 27, 51] vs_54 7) fun t100_119 =>
 W.store 1 t100_119 (.int .i64 (-1)) L_56 fun L_120 =>
 j_26 [(slotOf [4, 5, 6, 7, 8, 12, 15, 27, 51] vs_54 7), (slotOf [4, 5, 6, 7, 8, 12, 15, 27, 51] vs_54 12), (slotOf [4, 5, 6, 7, 8, 12, 15, 27, 51] vs_54 15)] L_120
def object_ApplyF_zt9 (vs_54 : List AV) (L_56 : SH) (j_26 : W.Kn)  : Prop :=
 W.faddr 3 (slotOf [4, 5, 6, 7, 8, 12, 15, 27, 51] vs_54 7) fun t103_122 =>
 W.load false 1 t103_122 L_56 fun t104_123 =>
 W.load false 1 (slotOf [4, 5, 6, 7, 8, 12, 15, 27, 51] vs_54 8) L_56 fun t105_124 =>
 W.idx 3 t104_123 t105_124 L_56 fun t106_125 =>
 W.faddr 2 t106_125 fun t107_126 =>
 W.store 1 t107_126 (.bool true) L_56 fun L_127 =>
 j_26 [(slotOf [4, 5, 6, 7, 8, 12, 15, 27, 51] vs_54 7), (slotOf [4, 5, 6, 7, 8, 12, 15, 27, 51] vs_54 12), (slotOf [4, 5, 6, 7, 8, 12, 15, 27, 51] vs_54 15)] L_127
def object_ApplyF_zt10 (vs_54 : List AV) (L_56 : SH) (j_26 : W.Kn)  : Prop :=
 W.faddr 3 (slotOf [4, 5, 6, 7, 8, 12, 15, 27, 51] vs_54 7) fun t110_129 =>
 W.load false 1 t110_129 L_56 fun t111_130 =>
 W.load false 1 (slotOf [4, 5, 6, 7, 8, 12, 15, 27, 51] vs_54 8) L_56 fun t112_131 =>
 W.idx 3 t111_130 t112_131 L_56 fun t113_132 =>
 W.faddr 2 t113_132 fun t114_133 =>
 W.store 1 t114_133 (.bool false) L_56 fun L_134 =>
 j_26 [(slotOf [4, 5, 6, 7, 8, 12, 15, 27, 51] vs_54 7), (slotOf [4, 5, 6, 7, 8, 12, 15, 27, 51] vs_54 12), (slotOf [4, 5, 6, 7, 8, 12, 15, 27, 51] vs_54 15)] L_134
def object_ApplyF_zt11 (vs_54 : List AV) (L_56 : SH) (j_26 : W.Kn)  : Prop :=
 (true = true) ∧ (
 W.faddr 0 (slotOf [4, 5, 6, 7, 8, 12, 15, 27, 51] vs_54 7) fun t117_136 =>
 W.calm [] ⟨1, (blocksOf t117_136), [], [], false, []⟩ (
 W.load false 1 t117_136 L_56 fun t118_137 =>
 W.note ⟨(blocksOf t117_136), [], [], []⟩ fun r_138 =>
 W.faddr 2 (slotOf [4, 5, 6, 7, 8, 12, 15, 27, 51] vs_54 6) fun t119_139 =>
 W.calm [⟨1, r_138.reads, r_138.writes, r_138.made, false, r_138.old⟩] ⟨3, (blocksOf t119_139), [], [], false, []⟩ (
 W.load false 1 t119_139 L_56 fun t120_140 =>
 W.note ⟨(blocksOf t119_139), [], [], []⟩ fun r_141 =>
 W.calm [⟨1, r_138.reads, r_138.writes, r_138.made, false, r_138.old⟩] ⟨5, (slOf t120_140), [], [], false, []⟩ (
 W.idx 2 t120_140 (slotOf [4, 5, 6, 7, 8, 12, 15, 27, 51] vs_54 4) L_56 fun t122_142 =>
 W.note ⟨(slOf t120_140), [], [], []⟩ fun r_143 =>
 W.faddr 1 t122_142 fun t123_144 =>
 W.calm [⟨1, r_138.reads, r_138.writes, r_138.made, false, r_138.old⟩] ⟨7, (blocksOf t123_144), [], [], false, []⟩ (
 W.load false 1 t123_144 L_56 fun t124_145 =>
 W.note ⟨(blocksOf t123_144), [], [], []⟩ fun r_146 =>
 W.calm [] ⟨8, (slOf t118_137), [], [], false, []⟩ (
 W.idx 2 t118_137 t124_145 L_56 fun t125_147 =>
 W.note ⟨(slOf t118_137), [], [], []⟩ fun r_148 =>
 W.faddr 0 t125_147 fun t126_149 =>
 W.calm [] ⟨10, (blocksOf t126_149), (blocksOf t126_149), [], false, []⟩ (
 W.store 1 t126_149 (.int .i64 (-1)) L_56 fun L_150 =>
 W.note ⟨(blocksOf t126_149), (blocksOf t126_149), [], []⟩ fun r_151 =>
 (true = true) ∧ (
 W.faddr 3 (slotOf [4, 5, 6, 7, 8, 12, 15, 27, 51] vs_54 7) fun t127_152 =>
 W.calm [] ⟨1, (blocksOf t127_152), [], [], false, []⟩ (
 W.load false 1 t127_152 L_150 fun t128_153 =>
 W.note ⟨(blocksOf t127_152), [], [], []⟩ fun r_154 =>
 W.calm [⟨1, r_154.reads, r_154.writes, r_154.made, false, r_154.old⟩] ⟨2, (blocksOf (slotOf [4, 5, 6, 7, 8, 12, 15, 27, 51] vs_54 8)), [], [], false, []⟩ (
 W.load false 1 (slotOf [4, 5, 6, 7, 8, 12, 15, 27, 51] vs_54 8) L_150 fun t129_155 =>
 W.note ⟨(blocksOf (slotOf [4, 5, 6, 7, 8, 12, 15, 27, 51] vs_54 8)), [], [], []⟩ fun r_156 =>
 W.faddr 3 (slotOf [4, 5, 6, 7, 8, 12, 15, 27, 51] vs_54 7) fun t130_157 =>
 W.calm [⟨2, r_156.reads, r_156.writes, r_156.made, false, r_156.old⟩, ⟨1, r_154.reads, r_154.writes, r_154.made, false, r_154.old⟩] ⟨4, (blocksOf t130_157), [], [], false, []⟩ (
 W.load false 1 t130_157 L_150 fun t131_158 =>
 W.note ⟨(blocksOf t130_157), [], [], []⟩ fun r_159 =>
 W.calm [⟨4, r_159.reads, r_159.writes, r_159.made, false, r_159.old⟩, ⟨2, r_156.reads, r_156.writes, r_156.made, false, r_156.old⟩, ⟨1, r_154.reads, r_154.writes, r_154.made, false, r_154.old⟩] ⟨5, (blocksOf (slotOf [4, 5, 6, 7, 8, 12, 15, 27, 51] vs_54 8)), [], [], false, []⟩ (
 W.load false 1 (slotOf [4, 5, 6, 7, 8, 12, 15, 27, 51] vs_54 8) L_150 fun t132_160 =>
 W.note ⟨(blocksOf (slotOf [4, 5, 6, 7, 8, 12, 15, 27, 51] vs_54 8)), [], [], []⟩ fun r_161 =>
 W.calm [⟨5, r_161.reads, r_161.writes, r_161.made, false, r_161.old⟩, ⟨4, r_159.reads, r_159.writes, r_159.made, false, r_159.old⟩] ⟨7, (slOf t128_153), [], [], false, []⟩ (
 W.idx 3 t128_153 t129_155 L_150 fun t134_162 =>
 W.note ⟨(slOf t128_153), [], [], []⟩ fun r_163 =>
 W.faddr 0 t134_162 fun t135_164 =>
 W.calm [⟨5, r_161.reads, r_161.writes, r_161.made, false, r_161.old⟩, ⟨4, r_159.reads, r_159.writes, r_159.made, false, r_159.old⟩] ⟨9, (blocksOf t135_164), (blocksOf t135_164), [], false, []⟩ (
 W.store 1 t135_164 (.int .i64 3) L_150 fun L_165 =>
 W.note ⟨(blocksOf t135_164), (blocksOf t135_164), [], []⟩ fun r_166 =>
 W.calm [] ⟨10, (slOf t131_158), [], [], false, []⟩ (
 W.idx 3 t131_158 t132_160 L_165 fun t136_167 =>
 W.note ⟨(slOf t131_158), [], [], []⟩ fun r_168 =>
 W.faddr 1 t136_167 fun t137_169 =>
 W.calm [] ⟨12, (blocksOf t137_169), (blocksOf t137_169), [], false, []⟩ (
 W.store 1 t137_169 (slotOf [4, 5, 6, 7, 8, 12, 15, 27, 51] vs_54 4) L_165 fun L_170 =>
 W.note ⟨(blocksOf t137_169), (blocksOf t137_169), [], []⟩ fun r_171 =>
 j_26 [(slotOf [4, 5, 6, 7, 8, 12, 15, 27, 51] vs_54 7), (slotOf [4, 5, 6, 7, 8, 12, 15, 27, 51] vs_54 12), (slotOf [4, 5, 6, 7, 8, 12, 15, 27, 51] vs_54 15)] L_170))))))))))))))))
def object_ApplyF_zt12 (vs_54 : List AV) (L_56 : SH) (j_26 : W.Kn)  : Prop :=
 (true = true) ∧ (
 W.faddr 0 (slotOf [4, 5, 6, 7, 8, 12, 15, 27, 51] vs_54 7) fun t140_173 =>
 W.calm [] ⟨1, (blocksOf t140_173), [], [], false, []⟩ (
 W.load false 1 t140_173 L_56 fun t141_174 =>
 W.note ⟨(blocksOf t140_173), [], [], []⟩ fun r_175 =>
 W.faddr 2 (slotOf [4, 5, 6, 7, 8, 12, 15, 27, 51] vs_54 6) fun t142_176 =>
 W.calm [⟨1, r_175.reads, r_175.writes, r_175.made, false, r_175.old⟩] ⟨3, (blocksOf t142_176), [], [], false, []⟩ (
 W.load false 1 t142_176 L_56 fun t143_177 =>
 W.note ⟨(blocksOf t142_176), [], [], []⟩ fun r_178 =>
 W.calm [⟨1, r_175.reads, r_175.writes, r_175.made, false, r_175.old⟩] ⟨5, (slOf t143_177), [], [], false, []⟩ (
 W.idx 2 t143_177 (slotOf [4, 5, 6, 7, 8, 12, 15, 27, 51] vs_54 4) L_56 fun t145_179 =>
 W.note ⟨(slOf t143_177), [], [], []⟩ fun r_180 =>
 W.faddr 1 t145_179 fun t146_181 =>
 W.calm [⟨1, r_175.reads, r_175.writes, r_175.made, false, r_175.old⟩] ⟨7, (blocksOf t146_181), [], [], false, []⟩ (
 W.load false 1 t146_181 L_56 fun t147_182 =>
 W.note ⟨(blocksOf t146_181), [], [], []⟩ fun r_183 =>
 W.calm [⟨7, r_183.reads, r_183.writes, r_183.made, false, r_183.old⟩, ⟨5, r_180.reads, r_180.writes, r_180.made, false, r_180.old⟩, ⟨3, r_178.reads, r_178.writes, r_178.made, false, r_178.old⟩, ⟨1, r_175.reads, r_175.writes, r_175.made, false, r_175.old⟩] ⟨8, (blocksOf (slotOf [4, 5, 6, 7, 8, 12, 15, 27, 51] vs_54 8)), [], [], false, []⟩ (
 W.load false 1 (slotOf [4, 5, 6, 7, 8, 12, 15, 27, 51] vs_54 8) L_56 fun t148_184 =>
 W.note ⟨(blocksOf (slotOf [4, 5, 6, 7, 8, 12, 15, 27, 51] vs_54 8)), [], [], []⟩ fun r_185 =>
 W.calm [] ⟨9, (slOf t141_174), [], [], false, []⟩ (
 W.idx 2 t141_174 t147_182 L_56 fun t149_186 =>
 W.note ⟨(slOf t141_174), [], [], []⟩ fun r_187 =>
 W.faddr 0 t149_186 fun t150_188 =>
 W.calm [] ⟨11, (blocksOf t150_188), (blocksOf t150_188), [], false, []⟩ (
 W.store 1 t150_188 t148_184 L_56 fun L_189 =>
 W.note ⟨(blocksOf t150_188), (blocksOf t150_188), [], []⟩ fun r_190 =>
 (true = true) ∧ (
 W.faddr 3 (slotOf [4, 5, 6, 7, 8, 12, 15, 27, 51] vs_54 7) fun t151_191 =>
 W.calm [] ⟨1, (blocksOf t151_191), [], [], false, []⟩ (
 W.load false 1 t151_191 L_189 fun t152_192 =>
 W.note ⟨(blocksOf t151_191), [], [], []⟩ fun r_193 =>
 W.calm [⟨1, r_193.reads, r_193.writes, r_193.made, false, r_193.old⟩] ⟨2, (blocksOf (slotOf [4, 5, 6, 7, 8, 12, 15, 27, 51] vs_54 8)), [], [], false, []⟩ (
 W.load false 1 (slotOf [4, 5, 6, 7, 8, 12, 15, 27, 51] vs_54 8) L_189 fun t153_194 =>
 W.note ⟨(blocksOf (slotOf [4, 5, 6, 7, 8, 12, 15, 27, 51] vs_54 8)), [], [], []⟩ fun r_195 =>
 W.faddr 3 (slotOf [4, 5, 6, 7, 8, 12, 15, 27, 51] vs_54 7) fun t154_196 =>
 W.calm [⟨2, r_195.reads, r_195.writes, r_195.made, false, r_195.old⟩, ⟨1, r_193.reads, r_193.writes, r_193.made, false, r_193.old⟩] ⟨4, (blocksOf t154_196), [], [], false, []⟩ (
 W.load false 1 t154_196 L_189 fun t155_197 =>
 W.note ⟨(blocksOf t154_196), [], [], []⟩ fun r_198 =>
 W.calm [⟨4, r_198.reads, r_198.writes, r_198.made, false, r_198.old⟩, ⟨2, r_195.reads, r_195.writes, r_195.made, false, r_195.old⟩, ⟨1, r_193.reads, r_193.writes, r_193.made, false, r_193.old⟩] ⟨5, (blocksOf (slotOf [4, 5, 6, 7, 8, 12, 15, 27, 51] vs_54 8)), [], [], false, []⟩ (
 W.load false 1 (slotOf [4, 5, 6, 7, 8, 12, 15, 27, 51] vs_54 8) L_189 fun t156_199 =>
 W.note ⟨(blocksOf (slotOf [4, 5, 6, 7, 8, 12, 15, 27, 51] vs_54 8)), [], [], []⟩ fun r_200 =>
 W.calm [⟨5, r_200.reads, r_200.writes, r_200.made, false, r_200.old⟩, ⟨4, r_198.reads, r_198.writes, r_198.made, false, r_198.old⟩] ⟨6, (slOf t152_192), [], [], false, []⟩ (
 W.idx 3 t152_192 t153_194 L_189 fun t157_201 =>
 W.note ⟨(slOf t152_192), [], [], []⟩ fun r_202 =>
 W.faddr 0 t157_201 fun t158_203 =>
 W.calm [⟨5, r_200.reads, r_200.writes, r_200.made, false, r_200.old⟩, ⟨4, r_198.reads, r_198.writes, r_198.made, false, r_198.old⟩] ⟨8, (blocksOf t158_203), (blocksOf t158_203), [], false, []⟩ (
 W.store 1 t158_203 (.int .i64 2) L_189 fun L_204 =>
 W.note ⟨(blocksOf t158_203), (blocksOf t158_203), [], []⟩ fun r_205 =>
 W.calm [] ⟨9, (slOf t155_197), [], [], false, []⟩ (
 W.idx 3 t155_197 t156_199 L_204 fun t159_206 =>
 W.note ⟨(slOf t155_197), [], [], []⟩ fun r_207 =>
 W.faddr 1 t159_206 fun t160_208 =>
 W.calm [] ⟨11, (blocksOf t160_208), (blocksOf t160_208), [], false, []⟩ (
 W.store 1 t160_208 (.int .i64 0) L_204 fun L_209 =>
 W.note ⟨(blocksOf t160_208), (blocksOf t160_208), [], []⟩ fun r_210 =>
 j_26 [(slotOf [4, 5, 6, 7, 8, 12, 15, 27, 51] vs_54 7), (slotOf [4, 5, 6, 7, 8, 12, 15, 27, 51] vs_54 12), (slotOf [4, 5, 6, 7, 8, 12, 15, 27, 51] vs_54 15)] L_209)))))))))))))))))
def object_ApplyF_c4 (j_26 : W.Kn) (vs_54 : List AV) (t166_213 : AV) (L_214 : SH) : Prop :=
 j_26 [(slotOf [4, 5, 6, 7, 8, 12, 15, 27, 51] vs_54 7), (slotOf [4, 5, 6, 7, 8, 12, 15, 27, 51] vs_54 12), t166_213] L_214
def object_ApplyF_zt13 (vs_54 : List AV) (L_56 : SH) (j_26 : W.Kn)  : Prop :=
 W.load true 4 (slotOf [4, 5, 6, 7, 8, 12, 15, 27, 51] vs_54 7) L_56 fun t163_212 =>
 W.call Try.prog (.fn 50 []) [t163_212, (slotOf [4, 5, 6, 7, 8, 12, 15, 27, 51] vs_54 4), (slotOf [4, 5, 6, 7, 8, 12, 15, 27, 51] vs_54 5)] L_56 (object_ApplyF_c4 j_26 vs_54)
def object_ApplyF_c5 (j_26 : W.Kn) (vs_54 : List AV) (t171_217 : AV) (L_218 : SH) : Prop :=
 j_26 [(slotOf [4, 5, 6, 7, 8, 12, 15, 27, 51] vs_54 7), (slotOf [4, 5, 6, 7, 8, 12, 15, 27, 51] vs_54 12), t171_217] L_218
def object_ApplyF_zt14 (vs_54 : List AV) (L_56 : SH) (j_26 : W.Kn)  : Prop :=
 W.load true 4 (slotOf [4, 5, 6, 7, 8, 12, 15, 27, 51] vs_54 7) L_56 fun t169_216 =>
 W.call Try.prog (.fn 51 []) [t169_216, (slotOf [4, 5, 6, 7, 8, 12, 15, 27, 51] vs_54 4)] L_56 (object_ApplyF_c5 j_26 vs_54)
def object_ApplyF_zt15 (vs_54 : List AV) (L_56 : SH) (j_26 : W.Kn)  : Prop :=
 W.faddr 3 (slotOf [4, 5, 6, 7, 8, 12, 15, 27, 51] vs_54 7) fun t174_220 =>
 W.load false 1 t174_220 L_56 fun t175_221 =>
 W.idx 3 t175_221 (slotOf [4, 5, 6, 7, 8, 12, 15, 27, 51] vs_54 4) L_56 fun t177_222 =>
 W.faddr 0 t177_222 fun t178_223 =>
 W.store 1 t178_223 (.int .i64 1) L_56 fun L_224 =>
 j_26 [(slotOf [4, 5, 6, 7, 8, 12, 15, 27, 51] vs_54 7), (slotOf [4, 5, 6, 7, 8, 12, 15, 27, 51] vs_54 12), (slotOf [4, 5, 6, 7, 8, 12, 15, 27, 51] vs_54 15)] L_224
def object_ApplyF_zt16 (vs_54 : List AV) (L_56 : SH) (j_26 : W.Kn)  : Prop :=
 W.faddr 2 (slotOf [4, 5, 6, 7, 8, 12, 15, 27, 51] vs_54 7) fun t181_226 =>
 W.load false 1 t181_226 L_56 fun t182_227 =>
 W.idx 1 t182_227 (slotOf [4, 5, 6, 7, 8, 12, 15, 27, 51] vs_54 4) L_56 fun t184_228 =>
 W.store 1 t184_228 (.bool true) L_56 fun L_229 =>
 j_26 [(slotOf [4, 5, 6, 7, 8, 12, 15, 27, 51] vs_54 7), (slotOf [4, 5, 6, 7, 8, 12, 15, 27, 51] vs_54 12), (slotOf [4, 5, 6, 7, 8, 12, 15, 27, 51] vs_54 15)] L_229
def object_ApplyF_zt17 (j_26 : W.Kn) (vs_54 : List AV) (L_56 : SH)  : Prop :=
 j_26 [(slotOf [4, 5, 6, 7, 8, 12, 15, 27, 51] vs_54 7), (slotOf [4, 5, 6, 7, 8, 12, 15, 27, 51] vs_54 12), (slotOf [4, 5, 6, 7, 8, 12, 15, 27, 51] vs_54 15)] L_56
def object_ApplyF_zt18 (vs_54 : List AV) (L_56 : SH) (j_26 : W.Kn)  : Prop :=
 W.bin Try.prog Fl .eql 3 (slotOf [4, 5, 6, 7, 8, 12, 15, 27, 51] vs_54 27) (.int .i64 22) fun t180_225 =>
 W.cond t180_225 (
 (object_ApplyF_zt16 vs_54 L_56 j_26)) (
 (object_ApplyF_zt17 j_26 vs_54 L_56))
def object_ApplyF_zt19 (vs_54 : List AV) (L_56 : SH) (j_26 : W.Kn)  : Prop :=
 W.bin Try.prog Fl .eql 3 (slotOf [4, 5, 6, 7, 8, 12, 15, 27, 51] vs_54 27) (.int .i64 20) fun t173_219 =>
 W.cond t173_219 (
 (object_ApplyF_zt15 vs_54 L_56 j_26)) (
 (object_ApplyF_zt18 vs_54 L_56 j_26))
def object_ApplyF_zt20 (vs_54 : List AV) (L_56 : SH) (j_26 : W.Kn)  : Prop :=
 W.bin Try.prog Fl .eql 3 (slotOf [4, 5, 6, 7, 8, 12, 15, 27, 51] vs_54 27) (.int .i64 19) fun t168_215 =>
 W.cond t168_215 (
 (object_ApplyF_zt14 vs_54 L_56 j_26)) (
 (object_ApplyF_zt19 vs_54 L_56 j_26))
def object_ApplyF_zt21 (vs_54 : List AV) (L_56 : SH) (j_26 : W.Kn)  : Prop :=
 W.bin Try.prog Fl .eql 3 (slotOf [4, 5, 6, 7, 8, 12, 15, 27, 51] vs_54 27) (.int .i64 18) fun t162_211 =>
 W.cond t162_211 (
 (object_ApplyF_zt13 vs_54 L_56 j_26)) (
 (object_ApplyF_zt20 vs_54 L_56 j_26))
def object_ApplyF_zt22 (vs_54 : List AV) (L_56 : SH) (j_26 : W.Kn)  : Prop :=
 W.bin Try.prog Fl .eql 3 (slotOf [4, 5, 6, 7, 8, 12, 15, 27, 51] vs_54 27) (.int .i64 17) fun t139_172 =>
 W.cond t139_172 (
 (object_ApplyF_zt12 vs_54 L_56 j_26)) (
 (object_ApplyF_zt21 vs_54 L_56 j_26))
def object_ApplyF_zt23 (vs_54 : List AV) (L_56 : SH) (j_26 : W.Kn)  : Prop :=
 W.bin Try.prog Fl .eql 3 (slotOf [4, 5, 6, 7, 8, 12, 15, 27, 51] vs_54 27) (.int .i64 16) fun t116_135 =>
 W.cond t116_135 (
 (object_ApplyF_zt11 vs_54 L_56 j_26)) (
 (object_ApplyF_zt22 vs_54 L_56 j_26))
def object_ApplyF_zt24 (vs_54 : List AV) (L_56 : SH) (j_26 : W.Kn)  : Prop :=
 W.bin Try.prog Fl .eql 3 (slotOf [4, 5, 6, 7, 8, 12, 15, 27, 51] vs_54 27) (.int .i64 15) fun t109_128 =>
 W.cond t109_128 (
 (object_ApplyF_zt10 vs_54 L_56 j_26)) (
 (object_ApplyF_zt23 vs_54 L_56 j_26))
def object_ApplyF_zt25 (vs_54 : List AV) (L_56 : SH) (j_26 : W.Kn)  : Prop :=
 W.bin Try.prog Fl .eql 3 (slotOf [4, 5, 6, 7, 8, 12, 15, 27, 51] vs_54 27) (.int .i64 14) fun t102_121 =>
 W.cond t102_121 (
 (object_ApplyF_zt9 vs_54 L_56 j_26)) (
 (object_ApplyF_zt24 vs_54 L_56 j_26))
def object_ApplyF_zt26 (vs_54 : List AV) (L_56 : SH) (j_26 : W.Kn)  : Prop :=
 W.bin Try.prog Fl .eql 3 (slotOf [4, 5, 6, 7, 8, 12, 15, 27, 51] vs_54 27) (.int .i64 13) fun t99_118 =>
 W.cond t99_118 (
 (object_ApplyF_zt8 vs_54 L_56 j_26)) (
 (object_ApplyF_zt25 vs_54 L_56 j_26))
def object_ApplyF_zt27 (vs_54 : List AV) (L_56 : SH) (j_26 : W.Kn)  : Prop :=
 W.bin Try.prog Fl .eql 3 (slotOf [4, 5, 6, 7, 8, 12, 15, 27, 51] vs_54 27) (.int .i64 12) fun t95_114 =>
 W.cond t95_114 (
 (object_ApplyF_zt7 vs_54 L_56 j_26)) (
 (object_ApplyF_zt26 vs_54 L_56 j_26))
def object_ApplyF_zt28 (vs_54 : List AV) (L_56 : SH) (j_26 : W.Kn)  : Prop :=
 W.bin Try.prog Fl .eql 3 (slotOf [4, 5, 6, 7, 8, 12, 15, 27, 51] vs_54 27) (.int .i64 9) fun t80_93 =>
 W.cond t80_93 (
 (object_ApplyF_zt6 vs_54 L_56 j_26)) (
 (object_ApplyF_zt27 vs_54 L_56 j_26))
def object_ApplyF_zt29 (vs_54 : List AV) (L_56 : SH) (j_26 : W.Kn)  : Prop :=
 W.bin Try.prog Fl .eql 3 (slotOf [4, 5, 6, 7, 8, 12, 15, 27, 51] vs_54 27) (.int .i64 8) fun t60_62 =>
 W.cond t60_62 (
 (object_ApplyF_zt5 vs_54 L_56 j_26)) (
 (object_ApplyF_zt28 vs_54 L_56 j_26))
def object_ApplyF_j6 (j_26 : W.Kn) (vs_54 : List AV) (L_56 : SH) : Prop :=
 W.cond (slotOf [4, 5, 6, 7, 8, 12, 15, 27, 51] vs_54 51) (
 (object_ApplyF_zt4 vs_54 L_56 j_26)) (
 (object_ApplyF_zt29 vs_54 L_56 j_26))
def object_ApplyF_zt30 (j_55 : W.Kn) (vs_45 : List AV) (t52_230 : AV) (L_47 : SH)  : Prop :=
 j_55 [(slotOf [4, 5, 6, 7, 8, 12, 15, 27, 42] vs_45 4), (slotOf [4, 5, 6, 7, 8, 12, 15, 27, 42] vs_45 5), (slotOf [4, 5, 6, 7, 8, 12, 15, 27, 42] vs_45 6), (slotOf [4, 5, 6, 7, 8, 12, 15, 27, 42] vs_45 7), (slotOf [4, 5, 6, 7, 8, 12, 15, 27, 42] vs_45 8), (slotOf [4, 5, 6, 7, 8, 12, 15, 27, 42] vs_45 12), (slotOf [4, 5, 6, 7, 8, 12, 15, 27, 42] vs_45 15), (slotOf [4, 5, 6, 7, 8, 12, 15, 27, 42] vs_45 27), t52_230] L_47
def object_ApplyF_zt31 (vs_45 : List AV) (j_55 : W.Kn) (L_47 : SH)  : Prop :=
 W.bin Try.prog Fl .eql 3 (slotOf [4, 5, 6, 7, 8, 12, 15, 27, 42] vs_45 27) (.int .i64 11) fun t53_231 =>
 j_55 [(slotOf [4, 5, 6, 7, 8, 12, 15, 27, 42] vs_45 4), (slotOf [4, 5, 6, 7, 8, 12, 15, 27, 42] vs_45 5), (slotOf [4, 5, 6, 7, 8, 12, 15, 27, 42] vs_45 6), (slotOf [4, 5, 6, 7, 8, 12, 15, 27, 42] vs_45 7), (slotOf [4, 5, 6, 7, 8, 12, 15, 27, 42] vs_45 8), (slotOf [4, 5, 6, 7, 8, 12, 15, 27, 42] vs_45 12), (slotOf [4, 5, 6, 7, 8, 12, 15, 27, 42] vs_45 15), (slotOf [4, 5, 6, 7, 8, 12, 15, 27, 42] vs_45 27), t53_231] L_47
def object_ApplyF_zt32 (j_26 : W.Kn) (vs_45 : List AV) (L_47 : SH)  : Prop :=
 W.join (object_ApplyF_j6 j_26) fun j_55 =>
 W.bin Try.prog Fl .eql 3 (slotOf [4, 5, 6, 7, 8, 12, 15, 27, 42] vs_45 27) (.int .i64 7) fun t52_230 =>
 W.cond t52_230 (
 (object_ApplyF_zt30 j_55 vs_45 t52_230 L_47)) (
 (object_ApplyF_zt31 vs_45 j_55 L_47))
def object_ApplyF_j7 (j_26 : W.Kn) (vs_45 : List AV) (L_47 : SH) : Prop :=
 W.cond (slotOf [4, 5, 6, 7, 8, 12, 15, 27, 42] vs_45 42) (
 (object_ApplyF_zt3 vs_45 L_47 j_26)) (
 (object_ApplyF_zt32 j_26 vs_45 L_47))
def object_ApplyF_zt33 (j_26 : W.Kn) (t3 : AV) (t4 : AV) (t5 : AV) (t6_8 : AV) (t7_2 : AV) (t8_10 : AV) (t12_6 : AV) (L_24 : SH)  : Prop :=
 W.join (object_ApplyF_j7 j_26) fun j_46 =>
 W.bin Try.prog Fl .eql 3 t3 (.int .i64 6) fun t43_232 =>
 W.cond t43_232 (
 j_46 [t4, t5, t6_8, t7_2, t8_10, t12_6, (.int .i64 0), t3, t43_232] L_24) (
 W.bin Try.prog Fl .eql 3 t3 (.int .i64 10) fun t44_233 =>
 j_46 [t4, t5, t6_8, t7_2, t8_10, t12_6, (.int .i64 0), t3, t44_233] L_24)
def object_ApplyF_zt34 (t3 : AV) (t7_2 : AV) (L_24 : SH) (t8_10 : AV) (j_26 : W.Kn) (t12_6 : AV) (t4 : AV) (t5 : AV) (t6_8 : AV)  : Prop :=
 W.bin Try.prog Fl .eql 3 t3 (.int .i64 2) fun t36_38 =>
 W.cond t36_38 (
 (object_ApplyF_zt2 t7_2 L_24 t8_10 j_26 t12_6)) (
 (object_ApplyF_zt33 j_26 t3 t4 t5 t6_8 t7_2 t8_10 t12_6 L_24))
def object_ApplyF_c8 (t7_2 : AV) (Q : AV → SH → Prop) (t3 : AV) (t8_10 : AV) (t12_6 : AV) (t4 : AV) (t5 : AV) (t6_8 : AV) (t26_22 : AV) (L_23 : SH) : Prop :=
 W.store 4 t7_2 t26_22 L_23 fun L_24 =>
 W.join (object_ApplyF_j0 Q) fun j_26 =>
 W.bin Try.prog Fl .eql 3 t3 (.int .i64 1) fun t29_31 =>
 W.cond t29_31 (
 (object_ApplyF_zt1 t7_2 L_24 t8_10 j_26 t12_6)) (
 (object_ApplyF_zt34 t3 t7_2 L_24 t8_10 j_26 t12_6 t4 t5 t6_8))
def object_ApplyF_c9 (t12_6 : AV) (Q : AV → SH → Prop) (t7_2 : AV) (t3 : AV) (t8_10 : AV) (t4 : AV) (t5 : AV) (t6_8 : AV) (t22_15 : AV) (L_16 : SH) : Prop :=
 W.un .not t22_15 fun t23_17 =>
 W.cond t23_17 (
 (object_ApplyF_zt0 t12_6 L_16 Q)) (
 W.load true 4 t7_2 L_16 fun t25_21 =>
 W.call Try.prog (.fn 47 []) [t25_21] L_16 (object_ApplyF_c8 t7_2 Q t3 t8_10 t12_6 t4 t5 t6_8))
def object_ApplyF_w (t0 t1 t2 t3 t4 t5 : AV) (L : SH) (Q : AV → SH → Prop) : Prop :=
 W.box t0 L fun t6_0 L_1 =>
 W.box t1 L_1 fun t7_2 L_3 =>
 W.box t2 L_3 fun t8_4 L_5 =>
 W.alloc [.nils, (.int .i64 0), .nils, .nils] L_5 fun t12_6 L_7 =>
 W.frz1 t6_0 L_7 fun t6_8 L_9 =>
 W.frz1 t8_4 L_9 fun t8_10 L_11 =>
 W.load true 6 t6_8 L_11 fun t17_12 =>
 W.load true 4 t7_2 L_11 fun t18_13 =>
 W.load false 1 t8_10 L_11 fun t19_14 =>
 W.call Try.prog (.fn 27 []) [t17_12, t18_13, t19_14, t3, t4] L_11 (object_ApplyF_c9 t12_6 Q t7_2 t3 t8_10 t4 t5 t6_8)
theorem object_ApplyF_e (t0 t1 t2 t3 t4 t5 : AV) (L : SH) (Q : AV → SH → Prop) : W.func Try.prog Fl object_ApplyF_t Try.f26 (Try.f26.body.getD .skip) [t0, t1, t2, t3, t4, t5] L Q = object_ApplyF_w t0 t1 t2 t3 t4 t5 L Q := by kernel_rfl
theorem object_ApplyF_ok (t0 t1 t2 t3 t4 t5 : AV) (L : SH) (Q : AV → SH → Prop) (h : object_ApplyF_w t0 t1 t2 t3 t4 t5 L Q) : CallA Try.prog 26 [t0, t1, t2, t3, t4, t5] L Q :=
  func_sound (ht := object_ApplyF_t) fit Try.func26 (show Try.f26.body = some (Try.f26.body.getD .skip) by kernel_rfl) (Eq.mpr (object_ApplyF_e t0 t1 t2 t3 t4 t5 L Q) h)

end Go.Proofs.Ytadjimfkfmojkaa.Am

end
section
namespace Go.Proofs.Ytadjimfkfmojkaa.Am
set_option maxRecDepth 100000
set_option linter.unusedSimpArgs false
set_option linter.unusedVariables false
def waitsAt (T : List ThrD) (c : Int) (i : Nat) : Bool := waitsS (T.getD i default) c
/-- the threads below n that wait for a condition -/
def waiting (T : List ThrD) (c : Int) (n : Nat) : List Nat := (List.range n).filter fun i => waitsAt T c i
def chosenOf (l : List Nat) (wake : Int) : Int := match l with
  | [] => -1
  | u :: l => if (u :: l).any (fun x => decide ((x : Int) = wake)) then wake else u
def notifyS (T : List ThrD) (c wake : Int) : Int := chosenOf (waiting T c T.length) wake
def setSt (T : List ThrD) (i : Nat) (st : Int) : List ThrD := T.set i { T.getD i default with status := st }
def wokenS (T : List ThrD) (c wake : Int) : List ThrD := if 0 ≤ notifyS T c wake then setSt T (notifyS T c wake).toNat 4 else T
theorem chosen_mem {l : List Nat} {wake : Int} (h : 0 ≤ chosenOf l wake) : (chosenOf l wake).toNat ∈ l := by
  cases l with
  | nil => simp [chosenOf] at h
  | cons u l =>
    simp only [chosenOf] at h ⊢
    split
    · rename_i ha
      obtain ⟨x, hx, he⟩ := List.any_eq_true.1 ha
      have := of_decide_eq_true he
      rw [← this]; simpa using hx
    · simp
theorem chosen_low (l : List Nat) (wake : Int) : chosenOf l wake = -1 ∨ 0 ≤ chosenOf l wake := by
  cases l with
  | nil => simp [chosenOf]
  | cons u l =>
    right
    simp only [chosenOf]
    split
    · rename_i ha
      obtain ⟨x, hx, he⟩ := List.any_eq_true.1 ha
      have := of_decide_eq_true he
      omega
    · omega
theorem chosen_snoc (l : List Nat) (i : Nat) (wake : Int) : chosenOf (l ++ [i]) wake = if chosenOf l wake < 0 ∨ (i : Int) = wake then (i : Int) else chosenOf l wake := by
  cases l with
  | nil =>
    simp only [chosenOf, List.nil_append]
    split <;> simp_all
  | cons u l =>
    have hlow := chosen_low (u :: l) wake
    simp only [List.cons_append]
    rw [chosenOf, ← List.cons_append, List.any_append]
    by_cases hw : (i : Int) = wake
    · simp [hw]
    · by_cases ha : (u :: l).any (fun x => decide ((x : Int) = wake)) = true
      · have hc : chosenOf (u :: l) wake = wake := by simp only [chosenOf]; rw [if_pos ha]
        rw [hc] at hlow ⊢
        obtain ⟨x, hx, he⟩ := List.any_eq_true.1 ha
        have := of_decide_eq_true he
        rw [ha, Bool.true_or, if_pos rfl, if_neg (by omega)]
      · have hc : chosenOf (u :: l) wake = u := by simp only [chosenOf]; rw [if_neg ha]
        rw [hc, if_neg (by simp only [Bool.or_eq_true, not_or]; exact ⟨ha, by simp [hw]⟩), if_neg (by omega)]
theorem waiting_succ (T : List ThrD) (c : Int) (n : Nat) : waiting T c (n + 1) = waiting T c n ++ (if waitsAt T c n then [n] else []) := by
  simp only [waiting, List.range_succ, List.filter_append, List.filter_cons, List.filter_nil]
theorem waiting_lt {T : List ThrD} {c : Int} {n x : Nat} (h : x ∈ waiting T c n) : x < n := by
  simp only [waiting, List.mem_filter, List.mem_range] at h; exact h.1
theorem set_enc (T : List ThrD) (i : Nat) (st : Int) (hi : i < T.length) : (T.map ThrD.enc).set i ((ThrD.enc T[i]).set 0 (.int .i64 st)) = (setSt T i st).map ThrD.enc := by
  unfold setSt
  rw [List.map_set]
  congr 1
  simp [List.getD, hi, ThrD.enc]
section
variable (a b d : AV) (bt : Nat)
theorem notify_ok (T : List ThrD) (c wake : Int) (hT : T.length < 2 ^ 40) (hbox : ([a, b, d, .sl bt 0 T.length] : List AV).all AV.one = true) :
    CallA Try.prog 50 [.agg [a, b, d, .sl bt 0 T.length], .int .i64 c, .int .i64 wake] [(bt, ⟨3, T.map ThrD.enc⟩)] fun v L => v = .int .i64 (notifyS T c wake) ∧ L = [(bt, ⟨3, (wokenS T c wake).map ThrD.enc⟩)] := by
  refine object_notify_ok _ _ _ _ _ ?_
  unfold object_notify_w
  generalize hQ : (fun (v : AV) (L : SH) => v = AV.int .i64 (notifyS T c wake) ∧ L = [(bt, (⟨3, (wokenS T c wake).map ThrD.enc⟩ : Blk))]) = Q
  repeat' (first | (refine h_load1 ?_; refine b_load_q ?_) | (refine h_faddr ?_; refine a_faddr_q ?_) | (refine h_len ?_; refine a_len_s ?_) | refine a_box rfl hbox (fun nb_ hnb_ => ?_) | (refine h_frz1 ?_; refine b_frz_p ?_))
  refine for_by T.length (fun i => ([.int .i64 c, .int .i64 wake, .pptr [[a, b, d, .sl bt 0 T.length]] 0 0, .int .i64 (chosenOf (waiting T c i) wake), .sl bt 0 T.length, .int .i64 T.length, .int .i64 i], [(bt, ⟨3, T.map ThrD.enc⟩)])) (fun _ => True) trivial (by simp [waiting, chosenOf]) rfl ?_
  intro i hi _
  dsimp only
  unfold object_notify_l1
  rcases Nat.lt_or_ge i T.length with h1 | h1
  · have hd := dec_lt h1
    have hx := map_at (f := ThrD.enc) h1
    have hsn := chosen_snoc (waiting T c i) i wake
    have hws := waiting_succ T c i
    have hwa : waitsAt T c i = waitsS T[i] c := by simp [waitsAt, h1]
    have goal : ∀ ch : Int, ch = chosenOf (waiting T c (i + 1)) wake → ∃ j, i < j ∧ j ≤ T.length ∧ True ∧ FzS [.int .i64 c, .int .i64 wake, .pptr [[a, b, d, .sl bt 0 T.length]] 0 0, .int .i64 ch, .sl bt 0 T.length, .int .i64 T.length, .int .i64 (IntKind.i64.wrap ((i : Int) + 1))] [(bt, ⟨3, T.map ThrD.enc⟩)]
        [.int .i64 c, .int .i64 wake, .pptr [[a, b, d, .sl bt 0 T.length]] 0 0, .int .i64 (chosenOf (waiting T c j) wake), .sl bt 0 T.length, .int .i64 T.length, .int .i64 j] [(bt, ⟨3, T.map ThrD.enc⟩)] := fun ch hch => ⟨i + 1, by omega, by omega, trivial, fzs_eq (by rw [i64_succ h1 (by omega), hch]) rfl⟩
    cases hw : waitsS T[i] c with
    | false =>
      rw [hw] at hwa
      repeat' (first | (refine h_bin ?_; first | refine a_lss ?_ | refine a_add ?_) | (refine h_cond ?_; first | refine b_cond_t ?_ | refine b_cond_f ?_) | (refine h_idx ?_; refine b_idx_sn ?_) | (refine h_row ?_; first | refine b_row_q ?_ | refine b_row_p ?_) | (refine h_pick ?_; refine b_pick_f ?_) | (refine h_grd ?_; first | refine b_grd_n ?_ | refine a_grd_u ?_) | refine a_mark ?_ | ((with_reducible refine h_fn 79 ?_); refine m_call (waits_ok _ _) ?_) | (refine h_frz1 ?_; refine b_frz_p ?_) | (refine h_store ?_; refine b_store_box ?_) | refine a_alloc (fun nb_ hnb_ => ?_))
      exact goal _ (by rw [hws, hwa]; simp)
    | true =>
      rw [hw] at hwa
      have hn : chosenOf (waiting T c (i + 1)) wake = if chosenOf (waiting T c i) wake < 0 ∨ (i : Int) = wake then (i : Int) else chosenOf (waiting T c i) wake := by rw [hws, hwa, if_pos rfl, hsn]
      by_cases g1 : chosenOf (waiting T c i) wake < 0
      · have e1 : decide (chosenOf (waiting T c i) wake < 0) = true := decide_eq_true g1
        repeat' (first | (refine h_bin ?_; first | refine a_lss ?_ | refine a_add ?_) | (refine h_cond ?_; refine b_cond_t ?_) | (refine h_idx ?_; refine b_idx_sn ?_) | (refine h_row ?_; first | refine b_row_q ?_ | refine b_row_p ?_) | (refine h_pick ?_; refine b_pick_t ?_) | (refine h_grd ?_; first | refine b_grd_y ?_ | refine b_grd_n ?_) | refine a_mark ?_ | ((with_reducible refine h_fn 79 ?_); refine m_call (waits_ok _ _) ?_) | (refine h_frz1 ?_; refine b_frz_p ?_) | (refine h_store ?_; refine b_store_box ?_) | refine a_alloc (fun nb_ hnb_ => ?_))
        exact goal _ (by rw [hn, if_pos (.inl g1)])
      · have e1 : decide (chosenOf (waiting T c i) wake < 0) = false := decide_eq_false g1
        by_cases g2 : (i : Int) = wake
        · have e2 : decide ((i : Int) = wake) = true := decide_eq_true g2
          repeat' (first | (refine h_bin ?_; first | refine a_eql ?_ | refine a_lss ?_ | refine a_add ?_) | (refine h_cond ?_; refine b_cond_t ?_) | (refine h_idx ?_; refine b_idx_sn ?_) | (refine h_row ?_; first | refine b_row_q ?_ | refine b_row_p ?_) | (refine h_pick ?_; first | refine b_pick_t ?_ | refine b_pick_f ?_) | (refine h_grd ?_; refine b_grd_y ?_) | refine a_mark ?_ | ((with_reducible refine h_fn 79 ?_); refine m_call (waits_ok _ _) ?_) | (refine h_frz1 ?_; refine b_frz_p ?_) | (refine h_store ?_; refine b_store_box ?_) | refine a_alloc (fun nb_ hnb_ => ?_))
          exact goal _ (by rw [hn, if_pos (.inr g2)])
        · have e2 : decide ((i : Int) = wake) = false := decide_eq_false g2
          repeat' (first | (refine h_bin ?_; first | refine a_eql ?_ | refine a_lss ?_ | refine a_add ?_) | (refine h_cond ?_; first | refine b_cond_t ?_ | refine b_cond_f ?_) | (refine h_idx ?_; refine b_idx_sn ?_) | (refine h_row ?_; first | refine b_row_q ?_ | refine b_row_p ?_) | (refine h_pick ?_; first | refine b_pick_t ?_ | refine b_pick_f ?_) | (refine h_grd ?_; refine b_grd_y ?_) | refine a_mark ?_ | ((with_reducible refine h_fn 79 ?_); refine m_call (waits_ok _ _) ?_) | (refine h_frz1 ?_; refine b_frz_p ?_) | (refine h_store ?_; refine b_store_box ?_) | refine a_alloc (fun nb_ hnb_ => ?_))
          exact goal _ (by rw [hn, if_neg (by omega)])
  · have hd := dec_ge h1
    have hi0 : i = T.length := by omega
    subst hi0
    have hns : chosenOf (waiting T c T.length) wake = notifyS T c wake := rfl
    rw [hns]
    by_cases g1 : 0 ≤ notifyS T c wake
    · have e1 : decide (0 ≤ notifyS T c wake) = true := decide_eq_true g1
      have hlt : (notifyS T c wake).toNat < T.length := waiting_lt (chosen_mem g1)
      have hx := map_at (f := ThrD.enc) hlt
      have hidx : notifyS T c wake = ((notifyS T c wake).toNat : Nat) := (Int.toNat_of_nonneg g1).symm
      have hst := set_enc T _ 4 hlt
      have hwk : wokenS T c wake = setSt T (notifyS T c wake).toNat 4 := by rw [wokenS, if_pos g1]
      generalize hk : (notifyS T c wake).toNat = k at *
      rw [hidx] at e1 hQ ⊢
      repeat' (first | (refine h_load1 ?_; refine b_load_q ?_) | (refine h_faddr ?_; first | refine a_faddr_q ?_ | refine a_faddr_p ?_) | (refine h_bin ?_; first | refine a_lss ?_ | refine a_geq ?_) | (refine h_cond ?_; first | refine b_cond_t ?_ | refine b_cond_f ?_) | (refine h_idx ?_; refine b_idx_sn ?_) | (refine h_store ?_; refine b_store_one ?_))
      subst hQ
      exact ⟨rfl, by rw [hwk, ← hst]⟩
    · have e1 : decide (0 ≤ notifyS T c wake) = false := decide_eq_false g1
      have hwk : wokenS T c wake = T := by rw [wokenS, if_neg g1]
      repeat' (first | (refine h_bin ?_; first | refine a_lss ?_ | refine a_geq ?_) | (refine h_cond ?_; refine b_cond_f ?_))
      subst hQ
      exact ⟨rfl, by rw [hwk]⟩
/-- all that wait below n are woken -/
def wakeAll (T : List ThrD) (c : Int) (n : Nat) : List ThrD := T.zipIdx.map fun p => if decide (p.2 < n) && waitsS p.1 c then { p.1 with status := 4 } else p.1
theorem wakeAll_at (T : List ThrD) (c : Int) (n i : Nat) (hi : i < T.length) : (wakeAll T c n)[i]? = some (if decide (i < n) && waitsS T[i] c then { T[i] with status := 4 } else T[i]) := by
  simp [wakeAll, hi]
theorem wakeAll_len (T : List ThrD) (c : Int) (n : Nat) : (wakeAll T c n).length = T.length := by simp [wakeAll]
theorem wakeAll_zero (T : List ThrD) (c : Int) : wakeAll T c 0 = T := by
  apply List.ext_getElem?
  intro i
  rcases Nat.lt_or_ge i T.length with hi | hi
  · rw [wakeAll_at T c 0 i hi]; simp [hi]
  · rw [List.getElem?_eq_none (by rw [wakeAll_len]; exact hi), List.getElem?_eq_none hi]
theorem wakeAll_succ (T : List ThrD) (c : Int) (n : Nat) (hn : n < T.length) : wakeAll T c (n + 1) = if waitsS T[n] c then (wakeAll T c n).set n { T[n] with status := 4 } else wakeAll T c n := by
  apply List.ext_getElem?
  intro i
  have key : ∀ hi : i < T.length, (if waitsS T[n] c then (wakeAll T c n).set n { T[n] with status := 4 } else wakeAll T c n)[i]? = some (if decide (i < n + 1) && waitsS T[i] c then { T[i] with status := 4 } else T[i]) := fun hi => by
    by_cases hin : i = n
    · subst hin
      cases hw : waitsS T[i] c with
      | true => simp [hw, wakeAll_len, hi]
      | false => simp [hw, wakeAll_at T c i i hi]
    · have h1 : decide (i < n + 1) = decide (i < n) := by apply decide_eq_decide.2; omega
      rw [h1]
      split
      · rw [List.getElem?_set_ne (by omega)]; exact wakeAll_at T c n i hi
      · exact wakeAll_at T c n i hi
  rcases Nat.lt_or_ge i T.length with hi | hi
  · rw [key hi, wakeAll_at T c (n + 1) i hi]
  · rw [List.getElem?_eq_none (by rw [wakeAll_len]; exact hi), List.getElem?_eq_none]
    split <;> simp [wakeAll_len, hi]
theorem notifyAll_ok (T : List ThrD) (c : Int) (hT : T.length < 2 ^ 40) (hbox : ([a, b, d, .sl bt 0 T.length] : List AV).all AV.one = true) :
    CallA Try.prog 51 [.agg [a, b, d, .sl bt 0 T.length], .int .i64 c] [(bt, ⟨3, T.map ThrD.enc⟩)] fun v L => v = .int .i64 ((waiting T c T.length).length : Nat) ∧ L = [(bt, ⟨3, (wakeAll T c T.length).map ThrD.enc⟩)] := by
  refine object_notifyAll_ok _ _ _ _ ?_
  unfold object_notifyAll_w
  generalize hQ : (fun (v : AV) (L : SH) => v = AV.int .i64 ((waiting T c T.length).length : Nat) ∧ L = [(bt, (⟨3, (wakeAll T c T.length).map ThrD.enc⟩ : Blk))]) = Q
  repeat' (first | (refine h_load1 ?_; refine b_load_q ?_) | (refine h_faddr ?_; refine a_faddr_q ?_) | (refine h_len ?_; refine a_len_s ?_) | refine a_box rfl hbox (fun nb_ hnb_ => ?_) | (refine h_frz1 ?_; refine b_frz_p ?_))
  refine for_by T.length (fun i => ([.int .i64 c, .pptr [[a, b, d, .sl bt 0 T.length]] 0 0, .int .i64 ((waiting T c i).length : Nat), .sl bt 0 T.length, .int .i64 T.length, .int .i64 i], [(bt, ⟨3, (wakeAll T c i).map ThrD.enc⟩)])) (fun _ => True) trivial (by simp [waiting]) (by rw [wakeAll_zero]) ?_
  intro i hi _
  dsimp only
  unfold object_notifyAll_l1
  rcases Nat.lt_or_ge i T.length with h1 | h1
  · have hd := dec_lt h1
    have hi2 : i < (wakeAll T c i).length := by rw [wakeAll_len]; exact h1
    have hti : (wakeAll T c i)[i] = T[i] := by
      have := wakeAll_at T c i i h1
      rw [List.getElem?_eq_getElem hi2] at this
      simpa using this
    have hx := map_at (f := ThrD.enc) hi2
    rw [hti] at hx
    have hws := waiting_succ T c i
    have hwa : waitsAt T c i = waitsS T[i] c := by simp [waitsAt, h1]
    have hsu := wakeAll_succ T c i h1
    have hwl : (waiting T c i).length ≤ i := Nat.le_trans (List.length_filter_le _ _) (by simp)
    cases hw : waitsS T[i] c with
    | false =>
      rw [hw] at hwa hsu
      repeat' (first | (refine h_bin ?_; first | refine a_lss ?_ | refine a_add ?_) | (refine h_cond ?_; first | refine b_cond_t ?_ | refine b_cond_f ?_) | (refine h_idx ?_; refine b_idx_sn ?_) | (refine h_row ?_; first | refine b_row_q ?_ | refine b_row_p ?_) | refine a_mark ?_ | ((with_reducible refine h_fn 79 ?_); refine m_call (waits_ok _ _) ?_) | (refine h_frz1 ?_; refine b_frz_p ?_) | (refine h_store ?_; refine b_store_box ?_) | refine a_alloc (fun nb_ hnb_ => ?_))
      refine ⟨i + 1, by omega, by omega, trivial, fzs_eq (by rw [i64_succ h1 (by omega), hws, hwa]; simp [slotOf]) (by rw [hsu]; simp)⟩
    | true =>
      rw [hw] at hwa hsu
      repeat' (first | (refine h_load1 ?_; refine b_load_q ?_) | (refine h_faddr ?_; first | refine a_faddr_q ?_ | refine a_faddr_p ?_) | (refine h_bin ?_; first | refine a_lss ?_ | refine a_add ?_) | (refine h_cond ?_; refine b_cond_t ?_) | (refine h_idx ?_; refine b_idx_sn ?_) | (refine h_row ?_; first | refine b_row_q ?_ | refine b_row_p ?_) | refine a_mark ?_ | ((with_reducible refine h_fn 79 ?_); refine m_call (waits_ok _ _) ?_) | (refine h_frz1 ?_; refine b_frz_p ?_) | (refine h_store ?_; first | refine b_store_box ?_ | refine b_store_one ?_) | refine a_alloc (fun nb_ hnb_ => ?_))
      refine ⟨i + 1, by omega, by omega, trivial, fzs_eq (by rw [i64_succ h1 (by omega), hws, hwa, i64_succ (Nat.lt_of_le_of_lt hwl h1) (by omega)]; simp [slotOf]) ?_⟩
      rw [hsu, if_pos rfl, List.map_set]
      simp [ThrD.enc]
  · have hd := dec_ge h1
    have hi0 : i = T.length := by omega
    subst hi0
    repeat' (first | (refine h_bin ?_; refine a_lss ?_) | (refine h_cond ?_; refine b_cond_f ?_))
    subst hQ
    exact ⟨rfl, rfl⟩
end
end Go.Proofs.Ytadjimfkfmojkaa.Am

end
section
namespace Go.Proofs.Ytadjimfkfmojkaa.Am
set_option maxRecDepth 100000
set_option linter.unusedSimpArgs false
set_option linter.unusedVariables false
set_option linter.unusedSectionVars false
def setThr (s : SyncD) (i : Int) (f : ThrD → ThrD) : List ThrD := s.threads.set i.toNat (f (thrAt s i))
def setLock (s : SyncD) (i : Int) (f : LockD → LockD) : List LockD := s.locks.set i.toNat (f (lockAt s i))
def wakeS (s : SyncD) (o : Int) : List ThrD := wakeAll s.threads o s.threads.length
/-- the readers of a lock with one more -/
def addRd (l : List Int) (t : Int) : List Int := Lib.compact (srt (l ++ [t]))
def applyS (w : WorldD) (s : SyncD) (t k o wake : Int) : SyncD × Int :=
  if k = 1 then ({ s with threads := setThr s t fun x => { x with status := 2 } }, 0)
  else if k = 2 then ({ s with threads := setThr s t fun x => { x with status := 5 } }, 0)
  else if k = 6 ∨ k = 10 then ({ s with locks := setLock s o fun x => { x with owner := t } }, 0)
  else if k = 7 ∨ k = 11 then ({ s with locks := setLock s o fun x => { x with owner := -1 } }, 0)
  else if k = 8 then ({ s with locks := setLock s o fun x => { x with readers := addRd x.readers t } }, 0)
  else if k = 9 then ({ s with locks := setLock s o fun x => { x with readers := x.readers.filter fun y => !decide (y = t) } }, 0)
  else if k = 12 then ({ s with tx := t }, 0)
  else if k = 13 then ({ s with tx := -1 }, 0)
  else if k = 14 then ({ s with threads := setThr s t fun x => { x with atomic := true } }, 0)
  else if k = 15 then ({ s with threads := setThr s t fun x => { x with atomic := false } }, 0)
  else if k = 16 then ({ s with locks := setLock s (mxAt w o) fun x => { x with owner := -1 }, threads := setThr s t fun x => { x with status := 3, cond := o } }, 0)
  else if k = 17 then ({ s with locks := setLock s (mxAt w o) fun x => { x with owner := t }, threads := setThr s t fun x => { x with status := 2, cond := 0 } }, 0)
  else if k = 18 then ({ s with threads := wokenS s.threads o wake }, notifyS s.threads o wake)
  else if k = 19 then ({ s with threads := wakeS s o }, (waiting s.threads o s.threads.length).length)
  else if k = 20 then ({ s with threads := setThr s o fun x => { x with status := 1 } }, 0)
  else if k = 22 then ({ s with done := s.done.set o.toNat true }, 0)
  else (s, 0)
theorem thr_rows {s : SyncD} {t : Int} {f : ThrD → ThrD} {r : List AV} (h : r = (f (thrAt s t)).enc) : (s.threads.map ThrD.enc).set (0 + t.toNat) r = (setThr s t f).map ThrD.enc := by
  rw [h, Nat.zero_add, setThr, List.map_set]
theorem lock_rows {s : SyncD} {t : Int} {f : LockD → LockD} {r : List AV} (h : r = (f (lockAt s t)).enc) : (s.locks.map LockD.enc).set (0 + t.toNat) r = (setLock s t f).map LockD.enc := by
  rw [h, Nat.zero_add, setLock, List.map_set]
theorem thr_get {s : SyncD} {t : Int} (h : inB t s.threads.length = true) : (s.threads.map ThrD.enc)[0 + t.toNat]? = some (thrAt s t).enc := by
  rw [Nat.zero_add]; exact at_inB h
theorem lock_get {s : SyncD} {t : Int} (h : inB t s.locks.length = true) : (s.locks.map LockD.enc)[0 + t.toNat]? = some (lockAt s t).enc := by
  rw [Nat.zero_add]; exact at_inB h
theorem box_one {bl n bt m : Nat} {tx : Int} {dv : AV} (h : dv.one = true) : ([.sl bl 0 n, .int .i64 tx, dv, .sl bt 0 m] : List AV).all AV.one = true := by
  show (true && (true && (dv.one && (true && true)))) = true
  rw [h]; rfl
theorem woken_len (T : List ThrD) (c wake : Int) : (wokenS T c wake).length = T.length := by
  unfold wokenS setSt
  split <;> simp
theorem set_at {α : Type} {l : List α} {i : Nat} {x y : α} (h : l[i]? = some y) : (l.set i x)[i]? = some x := by
  have := (List.getElem?_eq_some_iff.1 h).1
  simp [this]
section
variable (w : WorldD) (s : SyncD) (t o wake : Int) (b7 b12 bl bt : Nat) (od : Option Nat)
/-- the heap behind clone -/
def apL (R : SH) : SH := (bl, ⟨2, s.locks.map LockD.enc⟩) :: (bt, ⟨3, s.threads.map ThrD.enc⟩) :: (b12, ⟨4, [[.nils, .int .i64 0, .nils, .nils]]⟩) :: (b7, ⟨4, [s.enc]⟩) :: R
/-- what an end must show -/
def Ends1 (k : Int) (R : SH) (dv : AV) (Q : AV → SH → Prop) : Prop := ∀ (tx val : Int) (ls : List LockD) (th : List ThrD) (L : SH), Fz L (.sl bl 0 s.locks.length) (.lst (ls.map LockD.enc)) → Fz L (.sl bt 0 s.threads.length) (.lst (th.map ThrD.enc)) → (∀ p ∈ R, p ∈ L) →
  applyS w s t k o wake = (⟨ls, tx, s.done, th⟩, val) → Q (.tup [.agg [.sl bl 0 s.locks.length, .int .i64 tx, dv, .sl bt 0 s.threads.length], .int .i64 val, .bool true]) L
variable (R : SH) (dv : AV) (hone : dv.one = true) (Q : AV → SH → Prop) (hf : FitD w s) (ht : inB t s.threads.length = true) (hnd : (apL s b7 b12 bl bt R).names.Nodup)
include hone hf ht hnd
theorem app_1 (ha : allowedS w 1 o = true) (hq : Ends1 w s t o wake bl bt 1 R dv Q) : object_ApplyF_c8 (.ptr b7 0 0) Q (.int .i64 1) (.pptr [[.int .i64 t]] 0 0) (.ptr b12 0 0) (.int .i64 o) (.int .i64 wake) (.pptr [w.enc] 0 0) (.agg [.sl bl 0 s.locks.length, .int .i64 s.tx, dv, .sl bt 0 s.threads.length]) (apL s b7 b12 bl bt R) := by
  unfold object_ApplyF_c8
  simp only [SH.names, apL, List.map_cons, List.nodup_cons, List.mem_cons, not_or] at hnd
  obtain ⟨⟨n1, n2, n3, n4⟩, ⟨n5, n6, n7⟩, ⟨n8, n9⟩, n10, n11⟩ := hnd
  have hb1 : ([.sl bl 0 s.locks.length, .int .i64 s.tx, dv, .sl bt 0 s.threads.length] : List AV).all AV.one = true := box_one hone
  unfold apL
  have hy := thr_get ht
  obtain ⟨t0, t1⟩ := inB_iff.1 ht
  have hb2 : ∀ tx : Int, ([.sl bl 0 s.locks.length, .int .i64 tx, dv, .sl bt 0 s.threads.length] : List AV).all AV.one = true := fun tx => box_one hone
  repeat' (first | (refine h_load1 ?_; first | refine b_load_q ?_ | refine b_load_p ?_) | (refine h_faddr ?_; refine a_faddr_p ?_) | (refine h_bin ?_; refine a_eql ?_) | (refine h_cond ?_; refine b_cond_t ?_) | (refine h_idx ?_; refine b_idx_s ?_) | (refine h_row ?_; refine b_row_p ?_) | refine a_store_box (by repeat constructor) rfl rfl hb1 rfl ?_ | (refine h_store ?_; refine b_store_one ?_) | refine a_join ?_)
  exact hq _ _ (s.locks) (setThr s t fun x => { x with status := 2 }) _ (Fz.sls (by repeat constructor) rfl (by simp) (by simp [setLock])) (Fz.sls (by repeat constructor) (thr_rows rfl) (by simp) (by simp [setThr])) (fun p hp => by simp only [List.mem_cons]; simp [hp]) (by simp only [applyS, Int.reduceEq, Int.reduceNeg, if_true, if_false, or_self, or_true, true_or, or_false, false_or, reduceIte, reduceCtorEq])
theorem app_2 (ha : allowedS w 2 o = true) (hq : Ends1 w s t o wake bl bt 2 R dv Q) : object_ApplyF_c8 (.ptr b7 0 0) Q (.int .i64 2) (.pptr [[.int .i64 t]] 0 0) (.ptr b12 0 0) (.int .i64 o) (.int .i64 wake) (.pptr [w.enc] 0 0) (.agg [.sl bl 0 s.locks.length, .int .i64 s.tx, dv, .sl bt 0 s.threads.length]) (apL s b7 b12 bl bt R) := by
  unfold object_ApplyF_c8
  simp only [SH.names, apL, List.map_cons, List.nodup_cons, List.mem_cons, not_or] at hnd
  obtain ⟨⟨n1, n2, n3, n4⟩, ⟨n5, n6, n7⟩, ⟨n8, n9⟩, n10, n11⟩ := hnd
  have hb1 : ([.sl bl 0 s.locks.length, .int .i64 s.tx, dv, .sl bt 0 s.threads.length] : List AV).all AV.one = true := box_one hone
  unfold apL
  have hy := thr_get ht
  obtain ⟨t0, t1⟩ := inB_iff.1 ht
  have hb2 : ∀ tx : Int, ([.sl bl 0 s.locks.length, .int .i64 tx, dv, .sl bt 0 s.threads.length] : List AV).all AV.one = true := fun tx => box_one hone
  repeat' (first | (refine h_load1 ?_; first | refine b_load_q ?_ | refine b_load_p ?_) | (refine h_faddr ?_; refine a_faddr_p ?_) | (refine h_bin ?_; refine a_eql ?_) | (refine h_cond ?_; first | refine b_cond_t ?_ | refine b_cond_f ?_) | (refine h_idx ?_; refine b_idx_s ?_) | (refine h_row ?_; refine b_row_p ?_) | refine a_store_box (by repeat constructor) rfl rfl hb1 rfl ?_ | (refine h_store ?_; refine b_store_one ?_) | refine a_join ?_)
  exact hq _ _ (s.locks) (setThr s t fun x => { x with status := 5 }) _ (Fz.sls (by repeat constructor) rfl (by simp) (by simp [setLock])) (Fz.sls (by repeat constructor) (thr_rows rfl) (by simp) (by simp [setThr])) (fun p hp => by simp only [List.mem_cons]; simp [hp]) (by simp only [applyS, Int.reduceEq, Int.reduceNeg, if_true, if_false, or_self, or_true, true_or, or_false, false_or, reduceIte, reduceCtorEq])
theorem app_3 (ha : allowedS w 3 o = true) (hq : Ends1 w s t o wake bl bt 3 R dv Q) : object_ApplyF_c8 (.ptr b7 0 0) Q (.int .i64 3) (.pptr [[.int .i64 t]] 0 0) (.ptr b12 0 0) (.int .i64 o) (.int .i64 wake) (.pptr [w.enc] 0 0) (.agg [.sl bl 0 s.locks.length, .int .i64 s.tx, dv, .sl bt 0 s.threads.length]) (apL s b7 b12 bl bt R) := by
  unfold object_ApplyF_c8
  simp only [SH.names, apL, List.map_cons, List.nodup_cons, List.mem_cons, not_or] at hnd
  obtain ⟨⟨n1, n2, n3, n4⟩, ⟨n5, n6, n7⟩, ⟨n8, n9⟩, n10, n11⟩ := hnd
  have hb1 : ([.sl bl 0 s.locks.length, .int .i64 s.tx, dv, .sl bt 0 s.threads.length] : List AV).all AV.one = true := box_one hone
  unfold apL
  have hy := thr_get ht
  obtain ⟨t0, t1⟩ := inB_iff.1 ht
  have hb2 : ∀ tx : Int, ([.sl bl 0 s.locks.length, .int .i64 tx, dv, .sl bt 0 s.threads.length] : List AV).all AV.one = true := fun tx => box_one hone
  repeat' (first | (refine h_bin ?_; refine a_eql ?_) | (refine h_cond ?_; refine b_cond_f ?_) | (refine h_row ?_; refine b_row_p ?_) | refine a_store_box (by repeat constructor) rfl rfl hb1 rfl ?_ | refine a_join ?_)
  exact hq _ _ (s.locks) (s.threads) _ (Fz.sls (by repeat constructor) rfl (by simp) (by simp [setLock])) (Fz.sls (by repeat constructor) rfl (by simp) (by simp [setThr])) (fun p hp => by simp only [List.mem_cons]; simp [hp]) (by simp only [applyS, Int.reduceEq, Int.reduceNeg, if_true, if_false, or_self, or_true, true_or, or_false, false_or, reduceIte, reduceCtorEq])
theorem app_4 (ha : allowedS w 4 o = true) (hq : Ends1 w s t o wake bl bt 4 R dv Q) : object_ApplyF_c8 (.ptr b7 0 0) Q (.int .i64 4) (.pptr [[.int .i64 t]] 0 0) (.ptr b12 0 0) (.int .i64 o) (.int .i64 wake) (.pptr [w.enc] 0 0) (.agg [.sl bl 0 s.locks.length, .int .i64 s.tx, dv, .sl bt 0 s.threads.length]) (apL s b7 b12 bl bt R) := by
  unfold object_ApplyF_c8
  simp only [SH.names, apL, List.map_cons, List.nodup_cons, List.mem_cons, not_or] at hnd
  obtain ⟨⟨n1, n2, n3, n4⟩, ⟨n5, n6, n7⟩, ⟨n8, n9⟩, n10, n11⟩ := hnd
  have hb1 : ([.sl bl 0 s.locks.length, .int .i64 s.tx, dv, .sl bt 0 s.threads.length] : List AV).all AV.one = true := box_one hone
  unfold apL
  have hy := thr_get ht
  obtain ⟨t0, t1⟩ := inB_iff.1 ht
  have hb2 : ∀ tx : Int, ([.sl bl 0 s.locks.length, .int .i64 tx, dv, .sl bt 0 s.threads.length] : List AV).all AV.one = true := fun tx => box_one hone
  repeat' (first | (refine h_bin ?_; refine a_eql ?_) | (refine h_cond ?_; refine b_cond_f ?_) | (refine h_row ?_; refine b_row_p ?_) | refine a_store_box (by repeat constructor) rfl rfl hb1 rfl ?_ | refine a_join ?_)
  exact hq _ _ (s.locks) (s.threads) _ (Fz.sls (by repeat constructor) rfl (by simp) (by simp [setLock])) (Fz.sls (by repeat constructor) rfl (by simp) (by simp [setThr])) (fun p hp => by simp only [List.mem_cons]; simp [hp]) (by simp only [applyS, Int.reduceEq, Int.reduceNeg, if_true, if_false, or_self, or_true, true_or, or_false, false_or, reduceIte, reduceCtorEq])
theorem app_5 (ha : allowedS w 5 o = true) (hq : Ends1 w s t o wake bl bt 5 R dv Q) : object_ApplyF_c8 (.ptr b7 0 0) Q (.int .i64 5) (.pptr [[.int .i64 t]] 0 0) (.ptr b12 0 0) (.int .i64 o) (.int .i64 wake) (.pptr [w.enc] 0 0) (.agg [.sl bl 0 s.locks.length, .int .i64 s.tx, dv, .sl bt 0 s.threads.length]) (apL s b7 b12 bl bt R) := by
  unfold object_ApplyF_c8
  simp only [SH.names, apL, List.map_cons, List.nodup_cons, List.mem_cons, not_or] at hnd
  obtain ⟨⟨n1, n2, n3, n4⟩, ⟨n5, n6, n7⟩, ⟨n8, n9⟩, n10, n11⟩ := hnd
  have hb1 : ([.sl bl 0 s.locks.length, .int .i64 s.tx, dv, .sl bt 0 s.threads.length] : List AV).all AV.one = true := box_one hone
  unfold apL
  have hy := thr_get ht
  obtain ⟨t0, t1⟩ := inB_iff.1 ht
  have hb2 : ∀ tx : Int, ([.sl bl 0 s.locks.length, .int .i64 tx, dv, .sl bt 0 s.threads.length] : List AV).all AV.one = true := fun tx => box_one hone
  repeat' (first | (refine h_bin ?_; refine a_eql ?_) | (refine h_cond ?_; refine b_cond_f ?_) | (refine h_row ?_; refine b_row_p ?_) | refine a_store_box (by repeat constructor) rfl rfl hb1 rfl ?_ | refine a_join ?_)
  exact hq _ _ (s.locks) (s.threads) _ (Fz.sls (by repeat constructor) rfl (by simp) (by simp [setLock])) (Fz.sls (by repeat constructor) rfl (by simp) (by simp [setThr])) (fun p hp => by simp only [List.mem_cons]; simp [hp]) (by simp only [applyS, Int.reduceEq, Int.reduceNeg, if_true, if_false, or_self, or_true, true_or, or_false, false_or, reduceIte, reduceCtorEq])
theorem app_6 (ha : allowedS w 6 o = true) (hq : Ends1 w s t o wake bl bt 6 R dv Q) : object_ApplyF_c8 (.ptr b7 0 0) Q (.int .i64 6) (.pptr [[.int .i64 t]] 0 0) (.ptr b12 0 0) (.int .i64 o) (.int .i64 wake) (.pptr [w.enc] 0 0) (.agg [.sl bl 0 s.locks.length, .int .i64 s.tx, dv, .sl bt 0 s.threads.length]) (apL s b7 b12 bl bt R) := by
  unfold object_ApplyF_c8
  simp only [SH.names, apL, List.map_cons, List.nodup_cons, List.mem_cons, not_or] at hnd
  obtain ⟨⟨n1, n2, n3, n4⟩, ⟨n5, n6, n7⟩, ⟨n8, n9⟩, n10, n11⟩ := hnd
  have hb1 : ([.sl bl 0 s.locks.length, .int .i64 s.tx, dv, .sl bt 0 s.threads.length] : List AV).all AV.one = true := box_one hone
  unfold apL
  have hy := thr_get ht
  obtain ⟨t0, t1⟩ := inB_iff.1 ht
  have hl : inB o s.locks.length = true := by rw [hf.locks]; simp [allowedS] at ha; exact ha.1
  have hx := lock_get hl
  obtain ⟨o0, o1⟩ := inB_iff.1 hl
  have hb2 : ∀ tx : Int, ([.sl bl 0 s.locks.length, .int .i64 tx, dv, .sl bt 0 s.threads.length] : List AV).all AV.one = true := fun tx => box_one hone
  repeat' (first | (refine h_load1 ?_; first | refine b_load_q ?_ | refine b_load_p ?_) | (refine h_faddr ?_; refine a_faddr_p ?_) | (refine h_bin ?_; refine a_eql ?_) | (refine h_cond ?_; first | refine b_cond_t ?_ | refine b_cond_f ?_) | (refine h_idx ?_; refine b_idx_s ?_) | (refine h_row ?_; refine b_row_p ?_) | refine a_store_box (by repeat constructor) rfl rfl hb1 rfl ?_ | (refine h_store ?_; refine b_store_one ?_) | refine a_join ?_)
  exact hq _ _ (setLock s o fun x => { x with owner := t }) (s.threads) _ (Fz.sls (by repeat constructor) (lock_rows rfl) (by simp) (by simp [setLock])) (Fz.sls (by repeat constructor) rfl (by simp) (by simp [setThr])) (fun p hp => by simp only [List.mem_cons]; simp [hp]) (by simp only [applyS, Int.reduceEq, Int.reduceNeg, if_true, if_false, or_self, or_true, true_or, or_false, false_or, reduceIte, reduceCtorEq])
theorem app_7 (ha : allowedS w 7 o = true) (hq : Ends1 w s t o wake bl bt 7 R dv Q) : object_ApplyF_c8 (.ptr b7 0 0) Q (.int .i64 7) (.pptr [[.int .i64 t]] 0 0) (.ptr b12 0 0) (.int .i64 o) (.int .i64 wake) (.pptr [w.enc] 0 0) (.agg [.sl bl 0 s.locks.length, .int .i64 s.tx, dv, .sl bt 0 s.threads.length]) (apL s b7 b12 bl bt R) := by
  unfold object_ApplyF_c8
  simp only [SH.names, apL, List.map_cons, List.nodup_cons, List.mem_cons, not_or] at hnd
  obtain ⟨⟨n1, n2, n3, n4⟩, ⟨n5, n6, n7⟩, ⟨n8, n9⟩, n10, n11⟩ := hnd
  have hb1 : ([.sl bl 0 s.locks.length, .int .i64 s.tx, dv, .sl bt 0 s.threads.length] : List AV).all AV.one = true := box_one hone
  unfold apL
  have hy := thr_get ht
  obtain ⟨t0, t1⟩ := inB_iff.1 ht
  have hl : inB o s.locks.length = true := by rw [hf.locks]; simp [allowedS] at ha; exact ha.1
  have hx := lock_get hl
  obtain ⟨o0, o1⟩ := inB_iff.1 hl
  have hb2 : ∀ tx : Int, ([.sl bl 0 s.locks.length, .int .i64 tx, dv, .sl bt 0 s.threads.length] : List AV).all AV.one = true := fun tx => box_one hone
  repeat' (first | (refine h_load1 ?_; refine b_load_p ?_) | (refine h_faddr ?_; refine a_faddr_p ?_) | (refine h_bin ?_; refine a_eql ?_) | (refine h_cond ?_; first | refine b_cond_t ?_ | refine b_cond_f ?_) | (refine h_idx ?_; refine b_idx_s ?_) | (refine h_row ?_; refine b_row_p ?_) | refine a_store_box (by repeat constructor) rfl rfl hb1 rfl ?_ | (refine h_store ?_; refine b_store_one ?_) | refine a_join ?_)
  exact hq _ _ (setLock s o fun x => { x with owner := -1 }) (s.threads) _ (Fz.sls (by repeat constructor) (lock_rows rfl) (by simp) (by simp [setLock])) (Fz.sls (by repeat constructor) rfl (by simp) (by simp [setThr])) (fun p hp => by simp only [List.mem_cons]; simp [hp]) (by simp only [applyS, Int.reduceEq, Int.reduceNeg, if_true, if_false, or_self, or_true, true_or, or_false, false_or, reduceIte, reduceCtorEq])
theorem app_10 (ha : allowedS w 10 o = true) (hq : Ends1 w s t o wake bl bt 10 R dv Q) : object_ApplyF_c8 (.ptr b7 0 0) Q (.int .i64 10) (.pptr [[.int .i64 t]] 0 0) (.ptr b12 0 0) (.int .i64 o) (.int .i64 wake) (.pptr [w.enc] 0 0) (.agg [.sl bl 0 s.locks.length, .int .i64 s.tx, dv, .sl bt 0 s.threads.length]) (apL s b7 b12 bl bt R) := by
  unfold object_ApplyF_c8
  simp only [SH.names, apL, List.map_cons, List.nodup_cons, List.mem_cons, not_or] at hnd
  obtain ⟨⟨n1, n2, n3, n4⟩, ⟨n5, n6, n7⟩, ⟨n8, n9⟩, n10, n11⟩ := hnd
  have hb1 : ([.sl bl 0 s.locks.length, .int .i64 s.tx, dv, .sl bt 0 s.threads.length] : List AV).all AV.one = true := box_one hone
  unfold apL
  have hy := thr_get ht
  obtain ⟨t0, t1⟩ := inB_iff.1 ht
  have hl : inB o s.locks.length = true := by rw [hf.locks]; simp [allowedS] at ha; exact ha.1
  have hx := lock_get hl
  obtain ⟨o0, o1⟩ := inB_iff.1 hl
  have hb2 : ∀ tx : Int, ([.sl bl 0 s.locks.length, .int .i64 tx, dv, .sl bt 0 s.threads.length] : List AV).all AV.one = true := fun tx => box_one hone
  repeat' (first | (refine h_load1 ?_; first | refine b_load_q ?_ | refine b_load_p ?_) | (refine h_faddr ?_; refine a_faddr_p ?_) | (refine h_bin ?_; refine a_eql ?_) | (refine h_cond ?_; first | refine b_cond_t ?_ | refine b_cond_f ?_) | (refine h_idx ?_; refine b_idx_s ?_) | (refine h_row ?_; refine b_row_p ?_) | refine a_store_box (by repeat constructor) rfl rfl hb1 rfl ?_ | (refine h_store ?_; refine b_store_one ?_) | refine a_join ?_)
  exact hq _ _ (setLock s o fun x => { x with owner := t }) (s.threads) _ (Fz.sls (by repeat constructor) (lock_rows rfl) (by simp) (by simp [setLock])) (Fz.sls (by repeat constructor) rfl (by simp) (by simp [setThr])) (fun p hp => by simp only [List.mem_cons]; simp [hp]) (by simp only [applyS, Int.reduceEq, Int.reduceNeg, if_true, if_false, or_self, or_true, true_or, or_false, false_or, reduceIte, reduceCtorEq])
theorem app_11 (ha : allowedS w 11 o = true) (hq : Ends1 w s t o wake bl bt 11 R dv Q) : object_ApplyF_c8 (.ptr b7 0 0) Q (.int .i64 11) (.pptr [[.int .i64 t]] 0 0) (.ptr b12 0 0) (.int .i64 o) (.int .i64 wake) (.pptr [w.enc] 0 0) (.agg [.sl bl 0 s.locks.length, .int .i64 s.tx, dv, .sl bt 0 s.threads.length]) (apL s b7 b12 bl bt R) := by
  unfold object_ApplyF_c8
  simp only [SH.names, apL, List.map_cons, List.nodup_cons, List.mem_cons, not_or] at hnd
  obtain ⟨⟨n1, n2, n3, n4⟩, ⟨n5, n6, n7⟩, ⟨n8, n9⟩, n10, n11⟩ := hnd
  have hb1 : ([.sl bl 0 s.locks.length, .int .i64 s.tx, dv, .sl bt 0 s.threads.length] : List AV).all AV.one = true := box_one hone
  unfold apL
  have hy := thr_get ht
  obtain ⟨t0, t1⟩ := inB_iff.1 ht
  have hl : inB o s.locks.length = true := by rw [hf.locks]; simp [allowedS] at ha; exact ha.1
  have hx := lock_get hl
  obtain ⟨o0, o1⟩ := inB_iff.1 hl
  have hb2 : ∀ tx : Int, ([.sl bl 0 s.locks.length, .int .i64 tx, dv, .sl bt 0 s.threads.length] : List AV).all AV.one = true := fun tx => box_one hone
  repeat' (first | (refine h_load1 ?_; refine b_load_p ?_) | (refine h_faddr ?_; refine a_faddr_p ?_) | (refine h_bin ?_; refine a_eql ?_) | (refine h_cond ?_; first | refine b_cond_t ?_ | refine b_cond_f ?_) | (refine h_idx ?_; refine b_idx_s ?_) | (refine h_row ?_; refine b_row_p ?_) | refine a_store_box (by repeat constructor) rfl rfl hb1 rfl ?_ | (refine h_store ?_; refine b_store_one ?_) | refine a_join ?_)
  exact hq _ _ (setLock s o fun x => { x with owner := -1 }) (s.threads) _ (Fz.sls (by repeat constructor) (lock_rows rfl) (by simp) (by simp [setLock])) (Fz.sls (by repeat constructor) rfl (by simp) (by simp [setThr])) (fun p hp => by simp only [List.mem_cons]; simp [hp]) (by simp only [applyS, Int.reduceEq, Int.reduceNeg, if_true, if_false, or_self, or_true, true_or, or_false, false_or, reduceIte, reduceCtorEq])
theorem app_12 (ha : allowedS w 12 o = true) (hq : Ends1 w s t o wake bl bt 12 R dv Q) : object_ApplyF_c8 (.ptr b7 0 0) Q (.int .i64 12) (.pptr [[.int .i64 t]] 0 0) (.ptr b12 0 0) (.int .i64 o) (.int .i64 wake) (.pptr [w.enc] 0 0) (.agg [.sl bl 0 s.locks.length, .int .i64 s.tx, dv, .sl bt 0 s.threads.length]) (apL s b7 b12 bl bt R) := by
  unfold object_ApplyF_c8
  simp only [SH.names, apL, List.map_cons, List.nodup_cons, List.mem_cons, not_or] at hnd
  obtain ⟨⟨n1, n2, n3, n4⟩, ⟨n5, n6, n7⟩, ⟨n8, n9⟩, n10, n11⟩ := hnd
  have hb1 : ([.sl bl 0 s.locks.length, .int .i64 s.tx, dv, .sl bt 0 s.threads.length] : List AV).all AV.one = true := box_one hone
  unfold apL
  have hy := thr_get ht
  obtain ⟨t0, t1⟩ := inB_iff.1 ht
  have hb2 : ∀ tx : Int, ([.sl bl 0 s.locks.length, .int .i64 tx, dv, .sl bt 0 s.threads.length] : List AV).all AV.one = true := fun tx => box_one hone
  repeat' (first | (refine h_load1 ?_; refine b_load_q ?_) | (refine h_faddr ?_; refine a_faddr_p ?_) | (refine h_bin ?_; refine a_eql ?_) | (refine h_cond ?_; first | refine b_cond_t ?_ | refine b_cond_f ?_) | (refine h_row ?_; refine b_row_p ?_) | refine a_store_box (by repeat constructor) rfl rfl hb1 rfl ?_ | (refine h_store ?_; refine b_store_one ?_) | refine a_join ?_)
  exact hq _ _ (s.locks) (s.threads) _ (Fz.sls (by repeat constructor) rfl (by simp) (by simp [setLock])) (Fz.sls (by repeat constructor) rfl (by simp) (by simp [setThr])) (fun p hp => by simp only [List.mem_cons]; simp [hp]) (by simp only [applyS, Int.reduceEq, Int.reduceNeg, if_true, if_false, or_self, or_true, true_or, or_false, false_or, reduceIte, reduceCtorEq])
theorem app_13 (ha : allowedS w 13 o = true) (hq : Ends1 w s t o wake bl bt 13 R dv Q) : object_ApplyF_c8 (.ptr b7 0 0) Q (.int .i64 13) (.pptr [[.int .i64 t]] 0 0) (.ptr b12 0 0) (.int .i64 o) (.int .i64 wake) (.pptr [w.enc] 0 0) (.agg [.sl bl 0 s.locks.length, .int .i64 s.tx, dv, .sl bt 0 s.threads.length]) (apL s b7 b12 bl bt R) := by
  unfold object_ApplyF_c8
  simp only [SH.names, apL, List.map_cons, List.nodup_cons, List.mem_cons, not_or] at hnd
  obtain ⟨⟨n1, n2, n3, n4⟩, ⟨n5, n6, n7⟩, ⟨n8, n9⟩, n10, n11⟩ := hnd
  have hb1 : ([.sl bl 0 s.locks.length, .int .i64 s.tx, dv, .sl bt 0 s.threads.length] : List AV).all AV.one = true := box_one hone
  unfold apL
  have hy := thr_get ht
  obtain ⟨t0, t1⟩ := inB_iff.1 ht
  have hb2 : ∀ tx : Int, ([.sl bl 0 s.locks.length, .int .i64 tx, dv, .sl bt 0 s.threads.length] : List AV).all AV.one = true := fun tx => box_one hone
  repeat' (first | (refine h_faddr ?_; refine a_faddr_p ?_) | (refine h_bin ?_; refine a_eql ?_) | (refine h_cond ?_; first | refine b_cond_t ?_ | refine b_cond_f ?_) | (refine h_row ?_; refine b_row_p ?_) | refine a_store_box (by repeat constructor) rfl rfl hb1 rfl ?_ | (refine h_store ?_; refine b_store_one ?_) | refine a_join ?_)
  exact hq _ _ (s.locks) (s.threads) _ (Fz.sls (by repeat constructor) rfl (by simp) (by simp [setLock])) (Fz.sls (by repeat constructor) rfl (by simp) (by simp [setThr])) (fun p hp => by simp only [List.mem_cons]; simp [hp]) (by simp only [applyS, Int.reduceEq, Int.reduceNeg, if_true, if_false, or_self, or_true, true_or, or_false, false_or, reduceIte, reduceCtorEq])
theorem app_14 (ha : allowedS w 14 o = true) (hq : Ends1 w s t o wake bl bt 14 R dv Q) : object_ApplyF_c8 (.ptr b7 0 0) Q (.int .i64 14) (.pptr [[.int .i64 t]] 0 0) (.ptr b12 0 0) (.int .i64 o) (.int .i64 wake) (.pptr [w.enc] 0 0) (.agg [.sl bl 0 s.locks.length, .int .i64 s.tx, dv, .sl bt 0 s.threads.length]) (apL s b7 b12 bl bt R) := by
  unfold object_ApplyF_c8
  simp only [SH.names, apL, List.map_cons, List.nodup_cons, List.mem_cons, not_or] at hnd
  obtain ⟨⟨n1, n2, n3, n4⟩, ⟨n5, n6, n7⟩, ⟨n8, n9⟩, n10, n11⟩ := hnd
  have hb1 : ([.sl bl 0 s.locks.length, .int .i64 s.tx, dv, .sl bt 0 s.threads.length] : List AV).all AV.one = true := box_one hone
  unfold apL
  have hy := thr_get ht
  obtain ⟨t0, t1⟩ := inB_iff.1 ht
  have hb2 : ∀ tx : Int, ([.sl bl 0 s.locks.length, .int .i64 tx, dv, .sl bt 0 s.threads.length] : List AV).all AV.one = true := fun tx => box_one hone
  repeat' (first | (refine h_load1 ?_; first | refine b_load_q ?_ | refine b_load_p ?_) | (refine h_faddr ?_; refine a_faddr_p ?_) | (refine h_bin ?_; refine a_eql ?_) | (refine h_cond ?_; first | refine b_cond_t ?_ | refine b_cond_f ?_) | (refine h_idx ?_; refine b_idx_s ?_) | (refine h_row ?_; refine b_row_p ?_) | refine a_store_box (by repeat constructor) rfl rfl hb1 rfl ?_ | (refine h_store ?_; refine b_store_one ?_) | refine a_join ?_)
  exact hq _ _ (s.locks) (setThr s t fun x => { x with atomic := true }) _ (Fz.sls (by repeat constructor) rfl (by simp) (by simp [setLock])) (Fz.sls (by repeat constructor) (thr_rows rfl) (by simp) (by simp [setThr])) (fun p hp => by simp only [List.mem_cons]; simp [hp]) (by simp only [applyS, Int.reduceEq, Int.reduceNeg, if_true, if_false, or_self, or_true, true_or, or_false, false_or, reduceIte, reduceCtorEq])
theorem app_15 (ha : allowedS w 15 o = true) (hq : Ends1 w s t o wake bl bt 15 R dv Q) : object_ApplyF_c8 (.ptr b7 0 0) Q (.int .i64 15) (.pptr [[.int .i64 t]] 0 0) (.ptr b12 0 0) (.int .i64 o) (.int .i64 wake) (.pptr [w.enc] 0 0) (.agg [.sl bl 0 s.locks.length, .int .i64 s.tx, dv, .sl bt 0 s.threads.length]) (apL s b7 b12 bl bt R) := by
  unfold object_ApplyF_c8
  simp only [SH.names, apL, List.map_cons, List.nodup_cons, List.mem_cons, not_or] at hnd
  obtain ⟨⟨n1, n2, n3, n4⟩, ⟨n5, n6, n7⟩, ⟨n8, n9⟩, n10, n11⟩ := hnd
  have hb1 : ([.sl bl 0 s.locks.length, .int .i64 s.tx, dv, .sl bt 0 s.threads.length] : List AV).all AV.one = true := box_one hone
  unfold apL
  have hy := thr_get ht
  obtain ⟨t0, t1⟩ := inB_iff.1 ht
  have hb2 : ∀ tx : Int, ([.sl bl 0 s.locks.length, .int .i64 tx, dv, .sl bt 0 s.threads.length] : List AV).all AV.one = true := fun tx => box_one hone
  repeat' (first | (refine h_load1 ?_; first | refine b_load_q ?_ | refine b_load_p ?_) | (refine h_faddr ?_; refine a_faddr_p ?_) | (refine h_bin ?_; refine a_eql ?_) | (refine h_cond ?_; first | refine b_cond_t ?_ | refine b_cond_f ?_) | (refine h_idx ?_; refine b_idx_s ?_) | (refine h_row ?_; refine b_row_p ?_) | refine a_store_box (by repeat constructor) rfl rfl hb1 rfl ?_ | (refine h_store ?_; refine b_store_one ?_) | refine a_join ?_)
  exact hq _ _ (s.locks) (setThr s t fun x => { x with atomic := false }) _ (Fz.sls (by repeat constructor) rfl (by simp) (by simp [setLock])) (Fz.sls (by repeat constructor) (thr_rows rfl) (by simp) (by simp [setThr])) (fun p hp => by simp only [List.mem_cons]; simp [hp]) (by simp only [applyS, Int.reduceEq, Int.reduceNeg, if_true, if_false, or_self, or_true, true_or, or_false, false_or, reduceIte, reduceCtorEq])
theorem app_16 (ha : allowedS w 16 o = true) (hq : Ends1 w s t o wake bl bt 16 R dv Q) : object_ApplyF_c8 (.ptr b7 0 0) Q (.int .i64 16) (.pptr [[.int .i64 t]] 0 0) (.ptr b12 0 0) (.int .i64 o) (.int .i64 wake) (.pptr [w.enc] 0 0) (.agg [.sl bl 0 s.locks.length, .int .i64 s.tx, dv, .sl bt 0 s.threads.length]) (apL s b7 b12 bl bt R) := by
  unfold object_ApplyF_c8
  simp only [SH.names, apL, List.map_cons, List.nodup_cons, List.mem_cons, not_or] at hnd
  obtain ⟨⟨n1, n2, n3, n4⟩, ⟨n5, n6, n7⟩, ⟨n8, n9⟩, n10, n11⟩ := hnd
  have hb1 : ([.sl bl 0 s.locks.length, .int .i64 s.tx, dv, .sl bt 0 s.threads.length] : List AV).all AV.one = true := box_one hone
  unfold apL
  have hy := thr_get ht
  obtain ⟨t0, t1⟩ := inB_iff.1 ht
  have hc : inB o w.conds.length = true := by simpa [allowedS] using ha
  have hl := mx_in hf hc
  have hx := lock_get hl
  obtain ⟨o0, o1⟩ := inB_iff.1 hl
  unfold mxAt at hl hx o0 o1
  have hy2 : ((s.threads.map ThrD.enc).set (0 + t.toNat) ((thrAt s t).enc.set 0 (.int .i64 3)))[0 + t.toNat]? = some ((thrAt s t).enc.set 0 (.int .i64 3)) := set_at hy
  have hb2 : ∀ tx : Int, ([.sl bl 0 s.locks.length, .int .i64 tx, dv, .sl bt 0 s.threads.length] : List AV).all AV.one = true := fun tx => box_one hone
  repeat' (first | (refine h_load1 ?_; first | refine b_load_q ?_ | refine b_load_i ?_ | refine b_load_p ?_) | (refine h_faddr ?_; first | refine a_faddr_q ?_ | refine a_faddr_p ?_) | (refine h_bin ?_; refine a_eql ?_) | (refine h_cond ?_; first | refine b_cond_t ?_ | refine b_cond_f ?_) | (refine h_idx ?_; first | refine b_idx_i ?_ | refine b_idx_s ?_) | (refine h_row ?_; refine b_row_p ?_) | (refine h_calm ?_; refine b_calm ?_) | (refine h_note ?_; refine a_note ?_) | refine a_store_box (by repeat constructor) rfl rfl hb1 rfl ?_ | (refine h_store ?_; refine b_store_one ?_) | refine a_join ?_ | refine a_tt ?_)
  exact hq _ _ (setLock s (mxAt w o) fun x => { x with owner := -1 }) (setThr s t fun x => { x with status := 3, cond := o }) _ (Fz.sls (by repeat constructor) (lock_rows rfl) (by simp) (by simp [setLock])) (Fz.sls (by repeat constructor) (by rw [List.set_set]; exact thr_rows rfl) (by simp) (by simp [setThr])) (fun p hp => by simp only [List.mem_cons]; simp [hp]) (by simp only [applyS, Int.reduceEq, Int.reduceNeg, if_true, if_false, or_self, or_true, true_or, or_false, false_or, reduceIte, reduceCtorEq])
theorem app_17 (ha : allowedS w 17 o = true) (hq : Ends1 w s t o wake bl bt 17 R dv Q) : object_ApplyF_c8 (.ptr b7 0 0) Q (.int .i64 17) (.pptr [[.int .i64 t]] 0 0) (.ptr b12 0 0) (.int .i64 o) (.int .i64 wake) (.pptr [w.enc] 0 0) (.agg [.sl bl 0 s.locks.length, .int .i64 s.tx, dv, .sl bt 0 s.threads.length]) (apL s b7 b12 bl bt R) := by
  unfold object_ApplyF_c8
  simp only [SH.names, apL, List.map_cons, List.nodup_cons, List.mem_cons, not_or] at hnd
  obtain ⟨⟨n1, n2, n3, n4⟩, ⟨n5, n6, n7⟩, ⟨n8, n9⟩, n10, n11⟩ := hnd
  have hb1 : ([.sl bl 0 s.locks.length, .int .i64 s.tx, dv, .sl bt 0 s.threads.length] : List AV).all AV.one = true := box_one hone
  unfold apL
  have hy := thr_get ht
  obtain ⟨t0, t1⟩ := inB_iff.1 ht
  have hc : inB o w.conds.length = true := by simpa [allowedS] using ha
  have hl := mx_in hf hc
  have hx := lock_get hl
  obtain ⟨o0, o1⟩ := inB_iff.1 hl
  unfold mxAt at hl hx o0 o1
  have hy2 : ((s.threads.map ThrD.enc).set (0 + t.toNat) ((thrAt s t).enc.set 0 (.int .i64 2)))[0 + t.toNat]? = some ((thrAt s t).enc.set 0 (.int .i64 2)) := set_at hy
  have hb2 : ∀ tx : Int, ([.sl bl 0 s.locks.length, .int .i64 tx, dv, .sl bt 0 s.threads.length] : List AV).all AV.one = true := fun tx => box_one hone
  repeat' (first | (refine h_load1 ?_; first | refine b_load_q ?_ | refine b_load_i ?_ | refine b_load_p ?_) | (refine h_faddr ?_; first | refine a_faddr_q ?_ | refine a_faddr_p ?_) | (refine h_bin ?_; refine a_eql ?_) | (refine h_cond ?_; first | refine b_cond_t ?_ | refine b_cond_f ?_) | (refine h_idx ?_; first | refine b_idx_i ?_ | refine b_idx_s ?_) | (refine h_row ?_; refine b_row_p ?_) | (refine h_calm ?_; refine b_calm ?_) | (refine h_note ?_; refine a_note ?_) | refine a_store_box (by repeat constructor) rfl rfl hb1 rfl ?_ | (refine h_store ?_; refine b_store_one ?_) | refine a_join ?_ | refine a_tt ?_)
  exact hq _ _ (setLock s (mxAt w o) fun x => { x with owner := t }) (setThr s t fun x => { x with status := 2, cond := 0 }) _ (Fz.sls (by repeat constructor) (lock_rows rfl) (by simp) (by simp [setLock])) (Fz.sls (by repeat constructor) (by rw [List.set_set]; exact thr_rows rfl) (by simp) (by simp [setThr])) (fun p hp => by simp only [List.mem_cons]; simp [hp]) (by simp only [applyS, Int.reduceEq, Int.reduceNeg, if_true, if_false, or_self, or_true, true_or, or_false, false_or, reduceIte, reduceCtorEq])
theorem app_20 (ha : allowedS w 20 o = true) (hq : Ends1 w s t o wake bl bt 20 R dv Q) : object_ApplyF_c8 (.ptr b7 0 0) Q (.int .i64 20) (.pptr [[.int .i64 t]] 0 0) (.ptr b12 0 0) (.int .i64 o) (.int .i64 wake) (.pptr [w.enc] 0 0) (.agg [.sl bl 0 s.locks.length, .int .i64 s.tx, dv, .sl bt 0 s.threads.length]) (apL s b7 b12 bl bt R) := by
  unfold object_ApplyF_c8
  simp only [SH.names, apL, List.map_cons, List.nodup_cons, List.mem_cons, not_or] at hnd
  obtain ⟨⟨n1, n2, n3, n4⟩, ⟨n5, n6, n7⟩, ⟨n8, n9⟩, n10, n11⟩ := hnd
  have hb1 : ([.sl bl 0 s.locks.length, .int .i64 s.tx, dv, .sl bt 0 s.threads.length] : List AV).all AV.one = true := box_one hone
  unfold apL
  have hy := thr_get ht
  obtain ⟨t0, t1⟩ := inB_iff.1 ht
  have hl : inB o s.threads.length = true := by rw [hf.threads]; simpa [allowedS] using ha
  have hx := thr_get hl
  obtain ⟨o0, o1⟩ := inB_iff.1 hl
  have hb2 : ∀ tx : Int, ([.sl bl 0 s.locks.length, .int .i64 tx, dv, .sl bt 0 s.threads.length] : List AV).all AV.one = true := fun tx => box_one hone
  repeat' (first | (refine h_load1 ?_; refine b_load_p ?_) | (refine h_faddr ?_; refine a_faddr_p ?_) | (refine h_bin ?_; refine a_eql ?_) | (refine h_cond ?_; first | refine b_cond_t ?_ | refine b_cond_f ?_) | (refine h_idx ?_; refine b_idx_s ?_) | (refine h_row ?_; refine b_row_p ?_) | refine a_store_box (by repeat constructor) rfl rfl hb1 rfl ?_ | (refine h_store ?_; refine b_store_one ?_) | refine a_join ?_)
  exact hq _ _ (s.locks) (setThr s o fun x => { x with status := 1 }) _ (Fz.sls (by repeat constructor) rfl (by simp) (by simp [setLock])) (Fz.sls (by repeat constructor) (thr_rows rfl) (by simp) (by simp [setThr])) (fun p hp => by simp only [List.mem_cons]; simp [hp]) (by simp only [applyS, Int.reduceEq, Int.reduceNeg, if_true, if_false, or_self, or_true, true_or, or_false, false_or, reduceIte, reduceCtorEq])
theorem app_21 (ha : allowedS w 21 o = true) (hq : Ends1 w s t o wake bl bt 21 R dv Q) : object_ApplyF_c8 (.ptr b7 0 0) Q (.int .i64 21) (.pptr [[.int .i64 t]] 0 0) (.ptr b12 0 0) (.int .i64 o) (.int .i64 wake) (.pptr [w.enc] 0 0) (.agg [.sl bl 0 s.locks.length, .int .i64 s.tx, dv, .sl bt 0 s.threads.length]) (apL s b7 b12 bl bt R) := by
  unfold object_ApplyF_c8
  simp only [SH.names, apL, List.map_cons, List.nodup_cons, List.mem_cons, not_or] at hnd
  obtain ⟨⟨n1, n2, n3, n4⟩, ⟨n5, n6, n7⟩, ⟨n8, n9⟩, n10, n11⟩ := hnd
  have hb1 : ([.sl bl 0 s.locks.length, .int .i64 s.tx, dv, .sl bt 0 s.threads.length] : List AV).all AV.one = true := box_one hone
  unfold apL
  have hy := thr_get ht
  obtain ⟨t0, t1⟩ := inB_iff.1 ht
  have hb2 : ∀ tx : Int, ([.sl bl 0 s.locks.length, .int .i64 tx, dv, .sl bt 0 s.threads.length] : List AV).all AV.one = true := fun tx => box_one hone
  repeat' (first | (refine h_bin ?_; refine a_eql ?_) | (refine h_cond ?_; refine b_cond_f ?_) | (refine h_row ?_; refine b_row_p ?_) | refine a_store_box (by repeat constructor) rfl rfl hb1 rfl ?_ | refine a_join ?_)
  exact hq _ _ (s.locks) (s.threads) _ (Fz.sls (by repeat constructor) rfl (by simp) (by simp [setLock])) (Fz.sls (by repeat constructor) rfl (by simp) (by simp [setThr])) (fun p hp => by simp only [List.mem_cons]; simp [hp]) (by simp only [applyS, Int.reduceEq, Int.reduceNeg, if_true, if_false, or_self, or_true, true_or, or_false, false_or, reduceIte, reduceCtorEq])
theorem app_23 (ha : allowedS w 23 o = true) (hq : Ends1 w s t o wake bl bt 23 R dv Q) : object_ApplyF_c8 (.ptr b7 0 0) Q (.int .i64 23) (.pptr [[.int .i64 t]] 0 0) (.ptr b12 0 0) (.int .i64 o) (.int .i64 wake) (.pptr [w.enc] 0 0) (.agg [.sl bl 0 s.locks.length, .int .i64 s.tx, dv, .sl bt 0 s.threads.length]) (apL s b7 b12 bl bt R) := by
  unfold object_ApplyF_c8
  simp only [SH.names, apL, List.map_cons, List.nodup_cons, List.mem_cons, not_or] at hnd
  obtain ⟨⟨n1, n2, n3, n4⟩, ⟨n5, n6, n7⟩, ⟨n8, n9⟩, n10, n11⟩ := hnd
  have hb1 : ([.sl bl 0 s.locks.length, .int .i64 s.tx, dv, .sl bt 0 s.threads.length] : List AV).all AV.one = true := box_one hone
  unfold apL
  have hy := thr_get ht
  obtain ⟨t0, t1⟩ := inB_iff.1 ht
  have hb2 : ∀ tx : Int, ([.sl bl 0 s.locks.length, .int .i64 tx, dv, .sl bt 0 s.threads.length] : List AV).all AV.one = true := fun tx => box_one hone
  repeat' (first | (refine h_bin ?_; refine a_eql ?_) | (refine h_cond ?_; refine b_cond_f ?_) | (refine h_row ?_; refine b_row_p ?_) | refine a_store_box (by repeat constructor) rfl rfl hb1 rfl ?_ | refine a_join ?_)
  exact hq _ _ (s.locks) (s.threads) _ (Fz.sls (by repeat constructor) rfl (by simp) (by simp [setLock])) (Fz.sls (by repeat constructor) rfl (by simp) (by simp [setThr])) (fun p hp => by simp only [List.mem_cons]; simp [hp]) (by simp only [applyS, Int.reduceEq, Int.reduceNeg, if_true, if_false, or_self, or_true, true_or, or_false, false_or, reduceIte, reduceCtorEq])
theorem app_18 (hT : s.threads.length < 2 ^ 40) (hq : Ends1 w s t o wake bl bt 18 R dv Q) : object_ApplyF_c8 (.ptr b7 0 0) Q (.int .i64 18) (.pptr [[.int .i64 t]] 0 0) (.ptr b12 0 0) (.int .i64 o) (.int .i64 wake) (.pptr [w.enc] 0 0) (.agg [.sl bl 0 s.locks.length, .int .i64 s.tx, dv, .sl bt 0 s.threads.length]) (apL s b7 b12 bl bt R) := by
  unfold object_ApplyF_c8
  simp only [SH.names, apL, List.map_cons, List.nodup_cons, List.mem_cons, not_or] at hnd
  obtain ⟨⟨n1, n2, n3, n4⟩, ⟨n5, n6, n7⟩, ⟨n8, n9⟩, n10, n11⟩ := hnd
  have hb2 : ∀ tx : Int, ([.sl bl 0 s.locks.length, .int .i64 tx, dv, .sl bt 0 s.threads.length] : List AV).all AV.one = true := fun tx => box_one hone
  unfold apL
  repeat' (first | (refine h_bin ?_; refine a_eql ?_) | (refine h_cond ?_; first | refine b_cond_t ?_ | refine b_cond_f ?_) | (refine h_row ?_; refine b_row_p ?_) | refine a_mark ?_ | refine a_store_box (by repeat constructor) rfl rfl (hb2 _) rfl ?_ | ((with_reducible refine h_fn 50 ?_); (refine m_callD (notify_ok _ _ _ bt s.threads o wake hT (hb2 _)) (by repeat constructor) ?_; rintro _ _ ⟨rfl, rfl⟩)) | refine a_join ?_)
  exact hq _ _ s.locks (wokenS s.threads o wake) _ (Fz.sls (by repeat constructor) rfl (by simp) rfl) (Fz.sls (by repeat constructor) rfl (by simp) (woken_len _ _ _).symm) (fun p hp => by simp only [List.mem_cons, List.mem_append]; simp [hp]) (by simp only [applyS, Int.reduceEq, Int.reduceNeg, if_true, if_false, or_self, or_true, true_or, or_false, false_or, reduceIte, reduceCtorEq])
theorem app_19 (hT : s.threads.length < 2 ^ 40) (hq : Ends1 w s t o wake bl bt 19 R dv Q) : object_ApplyF_c8 (.ptr b7 0 0) Q (.int .i64 19) (.pptr [[.int .i64 t]] 0 0) (.ptr b12 0 0) (.int .i64 o) (.int .i64 wake) (.pptr [w.enc] 0 0) (.agg [.sl bl 0 s.locks.length, .int .i64 s.tx, dv, .sl bt 0 s.threads.length]) (apL s b7 b12 bl bt R) := by
  unfold object_ApplyF_c8
  simp only [SH.names, apL, List.map_cons, List.nodup_cons, List.mem_cons, not_or] at hnd
  obtain ⟨⟨n1, n2, n3, n4⟩, ⟨n5, n6, n7⟩, ⟨n8, n9⟩, n10, n11⟩ := hnd
  have hb2 : ∀ tx : Int, ([.sl bl 0 s.locks.length, .int .i64 tx, dv, .sl bt 0 s.threads.length] : List AV).all AV.one = true := fun tx => box_one hone
  unfold apL
  repeat' (first | (refine h_bin ?_; refine a_eql ?_) | (refine h_cond ?_; first | refine b_cond_t ?_ | refine b_cond_f ?_) | (refine h_row ?_; refine b_row_p ?_) | refine a_mark ?_ | refine a_store_box (by repeat constructor) rfl rfl (hb2 _) rfl ?_ | ((with_reducible refine h_fn 51 ?_); (refine m_callD (notifyAll_ok _ _ _ bt s.threads o hT (hb2 _)) (by repeat constructor) ?_; rintro _ _ ⟨rfl, rfl⟩)) | refine a_join ?_)
  exact hq _ _ s.locks (wakeS s o) _ (Fz.sls (by repeat constructor) rfl (by simp) rfl) (Fz.sls (by repeat constructor) rfl (by simp) (wakeAll_len _ _ _).symm) (fun p hp => by simp only [List.mem_cons, List.mem_append]; simp [hp]) (by simp only [applyS, Int.reduceEq, Int.reduceNeg, if_true, if_false, or_self, or_true, true_or, or_false, false_or, reduceIte, reduceCtorEq])
/-- what an end must show where the futures change -/
def Ends2 (bd : Nat) (Q : AV → SH → Prop) : Prop := ∀ (L : SH), Fz L (.sl bl 0 s.locks.length) (.lst (s.locks.map LockD.enc)) → Fz L (.sl bt 0 s.threads.length) (.lst (s.threads.map ThrD.enc)) → Fz L (.sl bd 0 s.done.length) (.lst ((s.done.set o.toNat true).map boolE)) →
  Q (.tup [.agg [.sl bl 0 s.locks.length, .int .i64 s.tx, .sl bd 0 s.done.length, .sl bt 0 s.threads.length], .int .i64 0, .bool true]) L
omit hone hnd in
theorem app_22 (bd : Nat) (hnd : (apL s b7 b12 bl bt [(bd, ⟨1, s.done.map boolE⟩)]).names.Nodup) (ha : allowedS w 22 o = true) (hq : Ends2 s o bl bt bd Q) : object_ApplyF_c8 (.ptr b7 0 0) Q (.int .i64 22) (.pptr [[.int .i64 t]] 0 0) (.ptr b12 0 0) (.int .i64 o) (.int .i64 wake) (.pptr [w.enc] 0 0) (.agg [.sl bl 0 s.locks.length, .int .i64 s.tx, .sl bd 0 s.done.length, .sl bt 0 s.threads.length]) (apL s b7 b12 bl bt [(bd, ⟨1, s.done.map boolE⟩)]) := by
  unfold object_ApplyF_c8 apL
  have hl : inB o s.done.length = true := by rw [hf.done]; simpa [allowedS] using ha
  obtain ⟨o0, o1⟩ := inB_iff.1 hl
  have hx : (s.done.map boolE)[0 + o.toNat]? = some (boolE (s.done.getD o.toNat default)) := by rw [Nat.zero_add]; exact at_inB hl
  repeat' (first | (refine h_load1 ?_; refine b_load_p ?_) | (refine h_faddr ?_; refine a_faddr_p ?_) | (refine h_bin ?_; refine a_eql ?_) | (refine h_cond ?_; first | refine b_cond_t ?_ | refine b_cond_f ?_) | (refine h_idx ?_; refine b_idx_s ?_) | (refine h_row ?_; refine b_row_p ?_) | (refine h_store ?_; first | refine b_store_box ?_ | refine b_store_one ?_) | refine a_join ?_)
  refine hq _ (Fz.sls (by repeat constructor) rfl (by simp) rfl) (Fz.sls (by repeat constructor) rfl (by simp) rfl) (Fz.sls (by repeat constructor) ?_ (by simp) (by simp))
  rw [List.map_set, Nat.zero_add]; rfl
end
end Go.Proofs.Ytadjimfkfmojkaa.Am

end
section
namespace Go.Proofs.Ytadjimfkfmojkaa.Am
set_option maxRecDepth 100000
set_option linter.unusedSimpArgs false
set_option linter.unusedVariables false
set_option linter.unusedSectionVars false
/-- locks, row by row -/
theorem fz_locks {K : SH} {bl : Nat} {rows : List (List AV)} {ls : List LockD} {n : Nat} (hm : (bl, ⟨2, rows⟩) ∈ K) (hn : n = ls.length) (hl : rows.length = ls.length)
    (h : ∀ (j : Nat) (r : List AV) (x : LockD), rows[j]? = some r → ls[j]? = some x → ∃ a, r = [.int .i64 x.owner, a] ∧ Fz K a (.lst (x.readers.map intE))) : Fz K (.sl bl 0 n) (.lst (ls.map LockD.enc)) := by
  subst hn
  rcases Nat.eq_zero_or_pos ls.length with h0 | h0
  · have : ls = [] := List.length_eq_zero_iff.1 h0
    subst this
    exact .sl0 bl 0
  · have get : ∀ (j : Nat) (r r2 : List AV), rows[0 + j]? = some r → (ls.map LockD.enc)[j]? = some r2 → ∃ x : LockD, ls[j]? = some x ∧ r2 = x.enc ∧ ∃ a, r = [.int .i64 x.owner, a] ∧ Fz K a (.lst (x.readers.map intE)) := fun j r r2 h1 h2 => by
      rw [Nat.zero_add] at h1
      rw [List.getElem?_map] at h2
      cases hj : ls[j]? with
      | none => rw [hj] at h2; cases h2
      | some x => rw [hj] at h2; cases h2; exact ⟨x, rfl, rfl, h j r x h1 hj⟩
    refine .sl bl 0 _ ⟨2, rows⟩ _ hm (by simp) h0 (by simp) (by simp; omega) (fun j r r2 h1 h2 => ?_) (fun j r r2 q a a2 h1 h2 h3 h4 => ?_)
    · obtain ⟨x, _, rfl, a, rfl, _⟩ := get j r r2 h1 h2; rfl
    · obtain ⟨x, _, rfl, a', rfl, hz⟩ := get j r r2 h1 h2
      match q with
      | 0 => cases h3; cases h4; exact .refl _
      | 1 => cases h3; cases h4; exact hz
      | q + 2 => simp at h3
theorem enc_row (x : LockD) {K : SH} : ∃ a, x.enc = [.int .i64 x.owner, a] ∧ Fz K a (.lst (x.readers.map intE)) := ⟨_, rfl, .refl _⟩
/-- the rows behind a change of the readers of lock q -/
theorem rows_rd {K : SH} {s : SyncD} {o : Int} {ro : Option Nat} {f : LockD → LockD} {a : AV} (hl : inB o s.locks.length = true) (hf : ∀ x, (f x).owner = x.owner) (ha : Fz K a (.lst ((f (lockAt s o)).readers.map intE))) :
    ∀ (j : Nat) (r : List AV) (x : LockD), ((lockRows o.toNat ro s.locks).set (0 + o.toNat) [.int .i64 (lockAt s o).owner, a])[j]? = some r → (setLock s o f)[j]? = some x → ∃ a, r = [.int .i64 x.owner, a] ∧ Fz K a (.lst (x.readers.map intE)) := by
  intro j r x h1 h2
  obtain ⟨o0, o1⟩ := inB_iff.1 hl
  have hlt : o.toNat < s.locks.length := by omega
  unfold setLock at h2
  rw [Nat.zero_add] at h1
  by_cases hj : o.toNat = j
  · subst hj
    rw [List.getElem?_set_self (by rw [lockRows_len]; exact hlt)] at h1
    rw [List.getElem?_set_self hlt] at h2
    cases h1; cases h2
    exact ⟨a, by rw [hf], ha⟩
  · rw [List.getElem?_set_ne hj] at h1 h2
    have hjl : j < s.locks.length := (List.getElem?_eq_some_iff.1 h2).1
    rw [lockRows_at _ _ _ _ hjl] at h1
    rw [List.getElem?_eq_getElem hjl] at h2
    cases h1; cases h2
    unfold lockR
    rw [if_neg (fun e => hj e.symm)]
    exact enc_row _
theorem rowR_get {s : SyncD} {o : Int} {ro : Option Nat} (hl : inB o s.locks.length = true) : (lockRows o.toNat ro s.locks)[0 + o.toNat]? = some [.int .i64 (lockAt s o).owner, slotV ro (lockAt s o).readers.length] := by
  obtain ⟨o0, o1⟩ := inB_iff.1 hl
  have hlt : o.toNat < s.locks.length := by omega
  rw [Nat.zero_add, lockRows_at _ _ _ _ hlt]
  unfold lockR
  rw [if_pos rfl]
  simp [lockAt, hlt]
theorem take_map {α β : Type} {f : α → β} {l m : List α} {n : Nat} (h : l.take n = m) : ((l.map f).drop 0).take n = m.map f := by
  rw [List.drop_zero, ← List.map_take, h]
section
variable (w : WorldD) (s : SyncD) (t o wake : Int) (b7 b12 bl bt : Nat)
/-- the heap behind clone, where the readers of lock o lie in a block of their own -/
def apQ (ro : Option Nat) (R : SH) : SH := (bl, ⟨2, lockRows o.toNat ro s.locks⟩) :: (bt, ⟨3, s.threads.map ThrD.enc⟩) :: (b12, ⟨4, [[.nils, .int .i64 0, .nils, .nils]]⟩) :: (b7, ⟨4, [s.enc]⟩) :: (slotB ro 1 ((lockAt s o).readers.map intE) ++ R)
variable (R : SH) (dv : AV) (hone : dv.one = true) (Q : AV → SH → Prop) (hl : inB o s.locks.length = true) (hrd : (lockAt s o).readers.length < 2 ^ 40)
include hone hl hrd
theorem app_9 (br : Nat) (hnd : (apQ s o b7 b12 bl bt (some br) R).names.Nodup) (hq : Ends1 w s t o wake bl bt 9 R dv Q) : object_ApplyF_c8 (.ptr b7 0 0) Q (.int .i64 9) (.pptr [[.int .i64 t]] 0 0) (.ptr b12 0 0) (.int .i64 o) (.int .i64 wake) (.pptr [w.enc] 0 0) (.agg [.sl bl 0 s.locks.length, .int .i64 s.tx, dv, .sl bt 0 s.threads.length]) (apQ s o b7 b12 bl bt (some br) R) := by
  unfold object_ApplyF_c8
  simp only [SH.names, apQ, slotB, List.map_cons, List.nodup_cons, List.mem_cons, not_or, List.cons_append, List.nil_append] at hnd
  obtain ⟨⟨n1, n2, n3, n4, n12⟩, ⟨n5, n6, n7, n13⟩, ⟨n8, n9, n14⟩, ⟨n15, n16⟩, n10, n11⟩ := hnd
  have hb2 : ∀ tx : Int, ([.sl bl 0 s.locks.length, .int .i64 tx, dv, .sl bt 0 s.threads.length] : List AV).all AV.one = true := fun tx => box_one hone
  obtain ⟨o0, o1⟩ := inB_iff.1 hl
  have hx := rowR_get (ro := some br) hl
  have hdel := deleteFunc_ok 49 [.pptr [[.int .i64 t]] 0 0] (fun x => decide (x = t)) (apply1_ok t 0 []) br (lockAt s o).readers (by omega)
  unfold apQ
  simp only [slotB, List.cons_append, List.nil_append]
  repeat' (first | (refine h_load1 ?_; refine b_load_p ?_) | (refine h_faddr ?_; refine a_faddr_p ?_) | (refine h_bin ?_; refine a_eql ?_) | (refine h_cond ?_; first | refine b_cond_t ?_ | refine b_cond_f ?_) | (refine h_idx ?_; refine b_idx_s ?_) | (refine h_row ?_; refine b_row_p ?_) | (refine h_calm ?_; refine b_calm ?_) | (refine h_note ?_; refine a_note ?_) | refine a_dmark ?_ | refine a_store_box (by repeat constructor) rfl rfl (hb2 _) rfl ?_ | ((with_reducible refine h_dfn 48 ?_); (refine m_dcallD hdel (by repeat constructor) (by (simp only [W.free, slotOf, ↓reduceIte, Nat.reduceEqDiff, blocksOf, slOf, List.forall_mem_nil, List.forall_mem_cons, List.not_mem_nil, not_false_eq_true, implies_true, and_true, true_and, and_self, Bool.false_eq_true, reduceCtorEq, forall_const, false_implies, List.mem_singleton, forall_eq, List.append_nil, List.nil_append, List.mem_cons, or_false, false_or, forall_eq_or_imp, not_or]) <;> (repeat' constructor) <;> first | assumption | (exact Ne.symm (by assumption)) | (intro e_; subst e_; simp [SH.names] at *; done)) ?_; rintro _ _ ⟨R', rfl, rfl, hR1, hR2⟩)) | (refine h_store ?_; refine b_store_one ?_) | refine a_join ?_ | refine a_tt ?_)
  refine hq _ _ (setLock s o fun x => { x with readers := x.readers.filter fun y => !decide (y = t) }) s.threads _ (fz_locks (by repeat constructor) (by simp [setLock]) (by simp [setLock, lockRows_len]) (rows_rd hl (fun _ => rfl) ?_)) (Fz.sls (by repeat constructor) rfl (by simp) rfl) (fun p hp => by simp only [List.mem_cons, List.mem_append]; simp [hp]) (by simp only [applyS, Int.reduceEq, if_true, if_false, or_self, reduceIte])
  rw [← take_map hR1]
  exact Fz.rows (x := ⟨1, R'.map intE⟩) (by repeat constructor) (by simp) (by simp [hR2]; exact List.length_filter_le _ _)
theorem app_8 (ro : Option Nat) (hro : ro = none → (lockAt s o).readers = []) (hnd : (apQ s o b7 b12 bl bt ro R).names.Nodup) (hq : Ends1 w s t o wake bl bt 8 R dv Q) : object_ApplyF_c8 (.ptr b7 0 0) Q (.int .i64 8) (.pptr [[.int .i64 t]] 0 0) (.ptr b12 0 0) (.int .i64 o) (.int .i64 wake) (.pptr [w.enc] 0 0) (.agg [.sl bl 0 s.locks.length, .int .i64 s.tx, dv, .sl bt 0 s.threads.length]) (apQ s o b7 b12 bl bt ro R) := by
  unfold object_ApplyF_c8
  simp only [SH.names, apQ, List.map_cons, List.nodup_cons, List.mem_cons, not_or] at hnd
  obtain ⟨⟨n1, n2, n3, n4⟩, ⟨n5, n6, n7⟩, ⟨n8, n9⟩, n10, n11⟩ := hnd
  have hb2 : ∀ tx : Int, ([.sl bl 0 s.locks.length, .int .i64 tx, dv, .sl bt 0 s.threads.length] : List AV).all AV.one = true := fun tx => box_one hone
  obtain ⟨o0, o1⟩ := inB_iff.1 hl
  have hx := rowR_get (ro := ro) hl
  have hsort : ∀ nb, CallA Try.prog 40 [.sl nb 0 ((lockAt s o).readers.length + 1)] [(nb, ⟨1, (lockAt s o).readers.map intE ++ [[.int .i64 t]]⟩)] fun v L => v = .tup [] ∧ L = [(nb, ⟨1, (srt ((lockAt s o).readers ++ [t])).map intE⟩)] := fun nb => by
    have := sort_ok nb ((lockAt s o).readers ++ [t]) (by simp; omega)
    rw [List.length_append, List.map_append] at this
    exact this
  have hcomp : ∀ nb, CallA Try.prog 41 [.sl nb 0 ((lockAt s o).readers.length + 1)] [(nb, ⟨1, (srt ((lockAt s o).readers ++ [t])).map intE⟩)] fun v L => ∃ R' : List Int, v = .sl nb 0 (addRd (lockAt s o).readers t).length ∧ L = [(nb, ⟨1, R'.map intE⟩)] ∧ R'.take (addRd (lockAt s o).readers t).length = addRd (lockAt s o).readers t ∧ (addRd (lockAt s o).readers t).length ≤ R'.length := fun nb => by
    have := compact_ok nb (srt ((lockAt s o).readers ++ [t])) (by rw [srt_len]; simp; omega)
    rw [srt_len, List.length_append] at this
    refine this.mono fun v L ⟨h1, h2⟩ => ⟨_, h1, h2, ?_, ?_⟩
    · exact List.take_left' rfl
    · simp [addRd]
  unfold apQ
  repeat' (first | (refine h_load1 ?_; first | refine b_load_q ?_ | refine b_load_p ?_) | (refine h_faddr ?_; refine a_faddr_p ?_) | (refine h_bin ?_; refine a_eql ?_) | (refine h_cond ?_; first | refine b_cond_t ?_ | refine b_cond_f ?_) | (refine h_idx ?_; refine b_idx_s ?_) | (refine h_row ?_; refine b_row_p ?_) | (refine h_calm ?_; refine b_calm ?_) | (refine h_note ?_; refine a_note ?_) | refine a_mark ?_ | refine a_dmark ?_ | refine a_store_box (by repeat constructor) rfl rfl (hb2 _) rfl ?_ | (refine a_app_slotN [_, _, _, _] (by simp) (fun e => by rw [hro e]; rfl) rfl (Nat.succ_pos 0) (by simp; omega) (by simp; omega) rfl ?_; intro nb_ hnb_; simp only [List.mem_cons, List.not_mem_nil, or_false, forall_eq_or_imp, forall_eq] at hnb_; obtain ⟨q1, q2, q3, q4⟩ := hnb_) | ((with_reducible refine h_fn 40 ?_); (refine m_callD (hsort _) (by repeat constructor) ?_; rintro _ _ ⟨rfl, rfl⟩)) | ((with_reducible refine h_dfn 41 ?_); (refine m_dcallD (hcomp _) (by repeat constructor) (by (simp only [W.free, slotOf, ↓reduceIte, Nat.reduceEqDiff, blocksOf, slOf, List.forall_mem_nil, List.forall_mem_cons, List.not_mem_nil, not_false_eq_true, implies_true, and_true, true_and, and_self, Bool.false_eq_true, reduceCtorEq, forall_const, false_implies, List.mem_singleton, forall_eq, List.append_nil, List.nil_append, List.mem_cons, or_false, false_or, forall_eq_or_imp, not_or]) <;> (repeat' constructor) <;> first | assumption | (exact Ne.symm (by assumption)) | (intro e_; subst e_; simp [SH.names] at *; done)) ?_; rintro _ _ ⟨R', rfl, rfl, hR1, hR2⟩)) | (refine h_store ?_; refine b_store_one ?_) | (refine h_bslice ?_; refine b_bslice (fun nb_ hnb_ => ?_)) | refine a_join ?_ | refine a_tt ?_)
  refine hq _ _ (setLock s o fun x => { x with readers := addRd x.readers t }) s.threads _ (fz_locks (by repeat constructor) (by simp [setLock]) (by simp [setLock, lockRows_len]) (rows_rd hl (fun _ => rfl) ?_)) (Fz.sls (by repeat constructor) rfl (by simp) rfl) (fun p hp => by simp only [List.mem_cons, List.mem_append]; simp [hp]) (by simp only [applyS, Int.reduceEq, if_true, if_false, or_self, reduceIte])
  rw [← take_map hR1]
  exact Fz.rows (x := ⟨1, R'.map intE⟩) (by repeat constructor) (by simp) (by simp; exact hR2)
end
end Go.Proofs.Ytadjimfkfmojkaa.Am

end
section
namespace Go.Proofs.Ytadjimfkfmojkaa.Am
set_option linter.unusedVariables false
theorem compactUpTo_asc (d : Array Int) (hs : ∀ i j, i < j → j < d.size → d[i]! ≤ d[j]!) : ∀ m, m ≤ d.size →
    (Lib.compactUpTo d m).Pairwise (· < ·) ∧ (∀ x ∈ Lib.compactUpTo d m, ∃ j, j < m ∧ x = d[j]!) ∧ (∀ j, j < m → d[j]! ∈ Lib.compactUpTo d m)
  | 0, _ => ⟨by simp [Lib.compactUpTo], by simp [Lib.compactUpTo], by intro j hj; omega⟩
  | m + 1, hm => by
    obtain ⟨h1, h2, h3⟩ := compactUpTo_asc d hs m (by omega)
    rw [Lib.compactUpTo_succ]
    by_cases hk : Lib.keeps d m = true
    · rw [if_pos hk]
      refine ⟨?_, ?_, ?_⟩
      · rw [List.pairwise_append]
        refine ⟨h1, by simp, ?_⟩
        intro x hx y hy
        obtain ⟨j, hj, rfl⟩ := h2 x hx
        simp at hy
        subst hy
        have hle := hs j m hj (by omega)
        have hne : d[j]! ≠ d[m]! := by
          intro he
          have hm0 : 0 < m := by omega
          have h4 : d[m]! ≠ d[m - 1]! := by
            intro h5
            rw [Lib.keeps_neg hm0 h5] at hk
            cases hk
          have h5 : d[j]! ≤ d[m - 1]! := by
            rcases Nat.lt_or_ge j (m - 1) with h | h
            · exact hs j (m - 1) h (by omega)
            · rw [show j = m - 1 from by omega]
              exact Int.le_refl _
          have h6 : d[m - 1]! ≤ d[m]! := hs (m - 1) m (by omega) (by omega)
          exact h4 (by omega)
        omega
      · intro x hx
        rw [List.mem_append] at hx
        rcases hx with hx | hx
        · obtain ⟨j, hj, e⟩ := h2 x hx
          exact ⟨j, by omega, e⟩
        · simp at hx
          exact ⟨m, by omega, hx⟩
      · intro j hj
        rw [List.mem_append]
        rcases Nat.lt_or_ge j m with h | h
        · exact .inl (h3 j h)
        · rw [show j = m from by omega]
          exact .inr (by simp)
    · rw [if_neg hk, List.append_nil]
      have hm0 : 0 < m := by
        rcases Nat.eq_zero_or_pos m with h | h
        · subst h
          exact absurd (Lib.keeps_lt_one d 0 (by omega)) hk
        · exact h
      have he : d[m]! = d[m - 1]! := by
        apply Classical.byContradiction
        intro h
        exact hk (Lib.keeps_pos h)
      refine ⟨h1, fun x hx => ?_, fun j hj => ?_⟩
      · obtain ⟨j, hj, e⟩ := h2 x hx
        exact ⟨j, by omega, e⟩
      · rcases Nat.lt_or_ge j m with h | h
        · exact h3 j h
        · rw [show j = m from by omega, he]
          exact h3 (m - 1) (by omega)
theorem getI (l : List Int) (j : Nat) (hj : j < l.length) : l.toArray[j]! = l[j] := by
  rw [getElem!_pos _ _ (by simpa using hj)]
  simp
theorem srt_sorted (l : List Int) : ∀ i j, i < j → j < (srt l).toArray.size → (srt l).toArray[i]! ≤ (srt l).toArray[j]! := by
  intro i j hij hj
  have hj' : j < (srt l).length := by simpa using hj
  rw [getI _ i (by omega), getI _ j hj']
  have hp : (srt l).Pairwise (fun x y => (decide (x ≤ y)) = true) := List.pairwise_mergeSort (fun a b c => by simp; omega) (fun a b => by simp; omega) l
  have := (List.pairwise_iff_getElem.1 hp) i j (by omega) hj' hij
  simpa using this
def asc (l : List Int) : List Int := Lib.compact (srt l)
theorem asc_mem (l : List Int) (x : Int) : x ∈ asc l ↔ x ∈ l := by
  obtain ⟨h1, h2, h3⟩ := compactUpTo_asc (srt l).toArray (srt_sorted _) (srt l).length (by simp)
  have hm : ∀ y, y ∈ srt l ↔ y ∈ l := fun y => by simp [srt, List.mem_mergeSort]
  unfold asc Lib.compact
  constructor
  · intro hx
    obtain ⟨j, hj, rfl⟩ := h2 x hx
    rw [getI _ j hj]
    exact (hm _).1 (List.getElem_mem _)
  · intro hx
    obtain ⟨j, hj, rfl⟩ := List.getElem_of_mem ((hm x).2 hx)
    rw [← getI _ j hj]
    exact h3 j hj
theorem asc_asc (l : List Int) : (asc l).Pairwise (· < ·) :=
  (compactUpTo_asc (srt l).toArray (srt_sorted _) (srt l).length (by simp)).1
theorem asc_ext {a b : List Int} (ha : a.Pairwise (· < ·)) (hb : b.Pairwise (· < ·)) (h : ∀ x, x ∈ a ↔ x ∈ b) : a = b := by
  have na : a.Nodup := ha.imp fun hlt => by omega
  have nb : b.Nodup := hb.imp fun hlt => by omega
  exact List.Perm.eq_of_pairwise (le := fun x y : Int => x < y) (fun x y _ _ h1 h2 => by omega) ha hb ((List.perm_ext_iff_of_nodup na nb).2 h)
end Go.Proofs.Ytadjimfkfmojkaa.Am

end
section
namespace Go.Proofs.Ytadjimfkfmojkaa.Am
set_option maxRecDepth 100000
set_option linter.unusedSimpArgs false
set_option linter.unusedVariables false
set_option linter.unusedSectionVars false
def rawB (w : WorldD) (s : SyncD) (t k o : Int) : List Int :=
  if k = 6 ∨ k = 8 then [(lockAt s o).owner] else if k = 10 then (lockAt s o).owner :: (lockAt s o).readers else if k = 17 then [(lockAt s (mxAt w o)).owner]
  else if k = 21 then (if decide (o ≠ t) && decide ((thrAt s o).status ≠ 5) then [o] else []) else []
def blockersS (w : WorldD) (s : SyncD) (t k o : Int) : List Int := if fitsS w s && inB t w.threads.length && allowedS w k o then asc ((rawB w s t k o).filter fun x => inB x w.threads.length) else []
theorem blk1_ok (w : WorldD) : PredA Try.prog 62 [.pptr [w.enc] 0 0] (fun x => !inB x w.threads.length) := fun x => by
  refine object_Blockers_1_ok _ _ _ _ ?_
  unfold object_Blockers_1_w
  repeat' (first | (refine h_load1 ?_; refine b_load_q ?_) | (refine h_faddr ?_; refine a_faddr_q ?_) | (refine h_len ?_; refine a_len_m ?_) | refine a_mark ?_ | ((with_reducible refine h_fn 52 ?_); refine m_call (within_ok _ _) ?_) | (refine h_un ?_; refine a_not ?_))
  exact ⟨rfl, rfl⟩
theorem a_app_sm {α : Type} {f : α → List AV} {l : List α} {b i n by_ : Nat} {rows : List (List AV)} {L L' : SH} {KL : AV → SH → Prop} (hd : Del b ⟨n, rows⟩ L L') (hn : ∀ x, (f x).length = n) (hr : rows.length = i) (h2 : 2 * (i + l.length) * by_ ≤ 2 ^ 48) (h3 : 2 * (i + l.length) ≤ 2 ^ 62) (h4 : ∀ x, (f x).all AV.one = true)
    (h : ∀ b', b' ∉ L.names → KL (.sl b' 0 (i + l.length)) ((b', ⟨n, rows ++ l.map f⟩) :: L')) : W.append n by_ (.sl b 0 i) (.lst (l.map f)) L KL := by
  have h4' : ((l.map f).all fun r => r.all AV.one) = true := by
    rw [List.all_eq_true]
    intro r hr
    obtain ⟨x, _, rfl⟩ := List.mem_map.1 hr
    exact h4 x
  subst hr
  exact a_app_s (y := ⟨n, rows⟩) (l := rows) hd.mem' rfl (by simp) (by simp) (rowsR_m hn) (by simpa using h2) (by simpa using h3) h4' hd (fun b' hb => by simpa using h b' hb)
theorem filter_nn (l : List Int) (p : Int → Bool) : (l.filter fun x => !!p x) = l.filter p := by congr 1; funext x; simp
/-- behind the switch: a list in a block -/
theorem blk_j2 (w : WorldD) (raw : List Int) (hr : raw.length < 2 ^ 41) (b : Nat) (L L' : SH) (hd : Del b ⟨1, raw.map intE⟩ L L') (Q : AV → SH → Prop) (hq : ∀ v K, Fz K v (.lst ((asc (raw.filter fun x => inB x w.threads.length)).map intE)) → Q v K) : object_Blockers_j2 Q [.pptr [w.enc] 0 0, .sl b 0 raw.length] L := by
  unfold object_Blockers_j2
  have h1 := deleteFunc_ok 62 [.pptr [w.enc] 0 0] _ (blk1_ok w) b raw (by omega)
  rw [filter_nn] at h1
  have hfl : (raw.filter fun x => inB x w.threads.length).length ≤ raw.length := List.length_filter_le _ _
  generalize hf : (raw.filter fun x => inB x w.threads.length) = fl at *
  have h3 := compact_ok b (srt fl) (by rw [srt_len]; omega)
  rw [srt_len] at h3
  repeat' (first | refine a_mark ?_ | ((with_reducible refine h_fn 48 ?_); (refine m_callD h1 hd ?_; rintro _ _ ⟨R, rfl, rfl, hR1, hR2⟩; have h2 := sort_pre b R fl hR1 (by omega))) | ((with_reducible refine h_fn 40 ?_); (refine m_callD h2 (.here _) ?_; rintro _ _ ⟨rfl, rfl⟩)) | ((with_reducible refine h_fn 41 ?_); (refine m_callD h3 (.here _) ?_; rintro _ _ ⟨rfl, rfl⟩)))
  refine hq _ _ ?_
  show Fz _ (.sl b 0 (asc fl).length) (.lst ((asc fl).map intE))
  rw [show (asc fl).map intE = ((((Lib.compact (srt fl) ++ List.replicate (fl.length - (Lib.compact (srt fl)).length) 0).map intE).drop 0).take (asc fl).length) from (take_map (List.take_left' rfl)).symm]
  exact Fz.rows (x := ⟨1, _⟩) (by repeat constructor) (by simp) (by simp [asc])
theorem asc_nil : asc [] = [] := List.eq_nil_iff_forall_not_mem.2 fun x hx => by
  have := (asc_mem [] x).1 hx
  cases this
theorem blk_j2n (w : WorldD) (L : SH) (Q : AV → SH → Prop) (hq : ∀ v K, Fz K v (.lst ((asc []).map intE)) → Q v K) : object_Blockers_j2 Q [.pptr [w.enc] 0 0, .nils] L := by
  unfold object_Blockers_j2
  repeat' (first | refine a_mark ?_ | ((with_reducible refine h_fn 48 ?_); refine m_call (deleteFunc_nil _ _) ?_) | ((with_reducible refine h_fn 40 ?_); refine m_call (sort_nil) ?_) | ((with_reducible refine h_fn 41 ?_); refine m_call (compact_nil) ?_))
  rw [asc_nil] at hq
  exact hq _ _ .nils
theorem h_blkj2 {Q : AV → SH → Prop} {vs : List AV} {L : SH} (h : object_Blockers_j2 Q vs L) : object_Blockers_j2 Q vs L := h
section
variable (w : WorldD) (s : SyncD) (t o : Int) (hf : FitD w s) (ht : inB t w.threads.length = true) (hr : ∀ l ∈ s.locks, l.readers.length < 2 ^ 40) (Q : AV → SH → Prop)
include hf ht hr
theorem blk_6 (k : Int) (hk : k = 6 ∨ k = 8) (ha : allowedS w k o = true) (hq : ∀ v K, Fz K v (.lst ((asc ((rawB w s t k o).filter fun x => inB x w.threads.length)).map intE)) → Q v K) :
    object_Blockers_zt8 Q (.int .i64 k) (.int .i64 t) (.int .i64 o) (.pptr [w.enc] 0 0) (.pptr [s.enc] 0 0) [] := by
  have hl : inB o s.locks.length = true := by rw [hf.locks]; rcases hk with rfl | rfl <;> (simp [allowedS] at ha; exact ha.1)
  have hx := at_inB (f := LockD.enc) hl
  obtain ⟨o0, o1⟩ := inB_iff.1 hl
  unfold object_Blockers_zt8
  unfold rawB lockAt at hq
  rw [if_pos hk] at hq
  rcases hk with rfl | rfl
  all_goals
    repeat' (first | ((with_reducible refine h_blkj2 ?_); exact blk_j2 w [_] (by simp) _ _ _ (by repeat constructor) Q hq) | (refine h_load1 ?_; refine b_load_q ?_) | (refine h_faddr ?_; refine a_faddr_q ?_) | (refine h_bin ?_; refine a_eql ?_) | (refine h_cond ?_; first | refine b_cond_t ?_ | refine b_cond_f ?_) | (refine h_idx ?_; refine b_idx_l ?_) | refine a_app_n (rowsR_s (.head _) rfl rfl) (by simp) (by simp) rfl (by simp) (fun nb_ hnb_ => ?_) | (refine h_bslice ?_; refine b_bslice (fun nb_ hnb_ => ?_)) | refine a_join ?_)
theorem blk_10 (ha : allowedS w 10 o = true) (hq : ∀ v K, Fz K v (.lst ((asc ((rawB w s t 10 o).filter fun x => inB x w.threads.length)).map intE)) → Q v K) :
    object_Blockers_zt8 Q (.int .i64 10) (.int .i64 t) (.int .i64 o) (.pptr [w.enc] 0 0) (.pptr [s.enc] 0 0) [] := by
  have hl : inB o s.locks.length = true := by rw [hf.locks]; simp [allowedS] at ha; exact ha.1
  have hx := at_inB (f := LockD.enc) hl
  have hrd : (lockAt s o).readers.length < 2 ^ 40 := by
    obtain ⟨o0, o1⟩ := inB_iff.1 hl
    have hlt : o.toNat < s.locks.length := by omega
    unfold lockAt
    rw [show s.locks.getD o.toNat default = s.locks[o.toNat] by simp [hlt]]
    exact hr _ (List.getElem_mem hlt)
  obtain ⟨o0, o1⟩ := inB_iff.1 hl
  unfold object_Blockers_zt8
  unfold rawB at hq
  rw [if_neg (by decide), if_pos rfl] at hq
  unfold lockAt at hq hrd
  have hj : ∀ (b : Nat) (L L' : SH) (hd : Del b ⟨1, [[.int .i64 (s.locks.getD o.toNat default).owner]] ++ (s.locks.getD o.toNat default).readers.map intE⟩ L L'), object_Blockers_j2 Q [.pptr [w.enc] 0 0, .sl b 0 (1 + (s.locks.getD o.toNat default).readers.length)] L := fun b L L' hd => by
    have := blk_j2 w ((s.locks.getD o.toNat default).owner :: (s.locks.getD o.toNat default).readers) (by rw [List.length_cons]; omega) b L L' hd Q hq
    rw [List.length_cons, Nat.add_comm] at this
    exact this
  repeat' (first | ((with_reducible refine h_blkj2 ?_); exact hj _ _ _ (by repeat constructor)) | (refine h_load1 ?_; refine b_load_q ?_) | (refine h_faddr ?_; refine a_faddr_q ?_) | (refine h_bin ?_; refine a_eql ?_) | (refine h_cond ?_; first | refine b_cond_t ?_ | refine b_cond_f ?_) | (refine h_idx ?_; refine b_idx_l ?_) | refine a_app_n (rowsR_s (.head _) rfl rfl) (by simp) (by simp) rfl (by simp) (fun nb_ hnb_ => ?_) | refine a_app_sm (i := 1) (rows := [[.int .i64 (s.locks.getD o.toNat default).owner]]) (.here _) (fun _ => rfl) (by rfl) (by omega) (by omega) (fun _ => rfl) (fun nb_ hnb_ => ?_) | (refine h_bslice ?_; refine b_bslice (fun nb_ hnb_ => ?_)) | refine a_join ?_)
theorem blk_17 (ha : allowedS w 17 o = true) (hq : ∀ v K, Fz K v (.lst ((asc ((rawB w s t 17 o).filter fun x => inB x w.threads.length)).map intE)) → Q v K) :
    object_Blockers_zt8 Q (.int .i64 17) (.int .i64 t) (.int .i64 o) (.pptr [w.enc] 0 0) (.pptr [s.enc] 0 0) [] := by
  have hc : inB o w.conds.length = true := by simpa [allowedS] using ha
  have hy := at_inB (f := CondI.enc) hc
  have hl := mx_in hf hc
  unfold mxAt at hl
  have hx := at_inB (f := LockD.enc) hl
  unfold object_Blockers_zt8
  unfold rawB mxAt lockAt at hq
  rw [if_neg (by decide), if_neg (by decide), if_pos rfl] at hq
  repeat' (first | ((with_reducible refine h_blkj2 ?_); exact blk_j2 w [_] (by simp) _ _ _ (by repeat constructor) Q hq) | (refine h_load1 ?_; refine b_load_q ?_) | (refine h_faddr ?_; refine a_faddr_q ?_) | (refine h_bin ?_; refine a_eql ?_) | (refine h_cond ?_; first | refine b_cond_t ?_ | refine b_cond_f ?_) | (refine h_idx ?_; refine b_idx_i ?_) | (refine h_calm ?_; refine b_calm ?_) | (refine h_note ?_; refine a_note ?_) | refine a_app_n (rowsR_s (.head _) rfl rfl) (by simp) (by simp) rfl (by simp) (fun nb_ hnb_ => ?_) | (refine h_bslice ?_; refine b_bslice (fun nb_ hnb_ => ?_)) | refine a_join ?_ | refine a_tt ?_)
theorem blk_21 (ha : allowedS w 21 o = true) (hq : ∀ v K, Fz K v (.lst ((asc ((rawB w s t 21 o).filter fun x => inB x w.threads.length)).map intE)) → Q v K) :
    object_Blockers_zt8 Q (.int .i64 21) (.int .i64 t) (.int .i64 o) (.pptr [w.enc] 0 0) (.pptr [s.enc] 0 0) [] := by
  have hl : inB o s.threads.length = true := by rw [hf.threads]; simpa [allowedS] using ha
  have hx := at_inB (f := ThrD.enc) hl
  unfold object_Blockers_zt8
  unfold rawB thrAt at hq
  rw [if_neg (by decide), if_neg (by decide), if_neg (by decide), if_pos rfl] at hq
  cases h1 : decide (o ≠ t) with
  | false =>
    rw [h1] at hq
    simp only [Bool.false_and, Bool.false_eq_true, if_false, List.filter_nil] at hq
    repeat' (first | ((with_reducible refine h_blkj2 ?_); exact blk_j2n w _ Q hq) | (refine h_bin ?_; first | refine a_eql ?_ | refine a_neq ?_) | (refine h_cond ?_; first | refine b_cond_t ?_ | refine b_cond_f ?_) | (refine h_pick ?_; refine b_pick_f ?_) | (refine h_grd ?_; refine b_grd_n ?_) | refine a_join ?_)
  | true =>
    rw [h1] at hq
    cases h2 : decide ((s.threads.getD o.toNat default).status ≠ 5) with
    | false =>
      rw [h2] at hq
      simp only [Bool.and_false, Bool.false_eq_true, if_false, List.filter_nil] at hq
      repeat' (first | ((with_reducible refine h_blkj2 ?_); exact blk_j2n w _ Q hq) | (refine h_load1 ?_; refine b_load_q ?_) | (refine h_faddr ?_; refine a_faddr_q ?_) | (refine h_bin ?_; first | refine a_eql ?_ | refine a_neq ?_) | (refine h_cond ?_; first | refine b_cond_t ?_ | refine b_cond_f ?_) | (refine h_idx ?_; refine b_idx_i ?_) | (refine h_pick ?_; refine b_pick_t ?_) | (refine h_grd ?_; refine b_grd_y ?_) | refine a_join ?_)
    | true =>
      rw [h2] at hq
      repeat' (first | ((with_reducible refine h_blkj2 ?_); exact blk_j2 w [_] (by simp) _ _ _ (by repeat constructor) Q hq) | (refine h_load1 ?_; refine b_load_q ?_) | (refine h_faddr ?_; refine a_faddr_q ?_) | (refine h_bin ?_; first | refine a_eql ?_ | refine a_neq ?_) | (refine h_cond ?_; first | refine b_cond_t ?_ | refine b_cond_f ?_) | (refine h_idx ?_; refine b_idx_i ?_) | (refine h_pick ?_; refine b_pick_t ?_) | (refine h_grd ?_; refine b_grd_y ?_) | refine a_app_n (rowsR_s (.head _) rfl rfl) (by simp) (by simp) rfl (by simp) (fun nb_ hnb_ => ?_) | (refine h_bslice ?_; refine b_bslice (fun nb_ hnb_ => ?_)) | refine a_join ?_)
theorem blk_o (k : Int) (h6 : k ≠ 6) (h8 : k ≠ 8) (h10 : k ≠ 10) (h17 : k ≠ 17) (h21 : k ≠ 21) (hq : ∀ v K, Fz K v (.lst ((asc ((rawB w s t k o).filter fun x => inB x w.threads.length)).map intE)) → Q v K) :
    object_Blockers_zt8 Q (.int .i64 k) (.int .i64 t) (.int .i64 o) (.pptr [w.enc] 0 0) (.pptr [s.enc] 0 0) [] := by
  unfold object_Blockers_zt8
  unfold rawB at hq
  rw [if_neg (by omega), if_neg h10, if_neg h17, if_neg h21, List.filter_nil] at hq
  have d6 : decide (k = 6) = false := decide_eq_false h6
  have d8 : decide (k = 8) = false := decide_eq_false h8
  have d10 : decide (k = 10) = false := decide_eq_false h10
  have d17 : decide (k = 17) = false := decide_eq_false h17
  have d21 : decide (k = 21) = false := decide_eq_false h21
  repeat' (first | ((with_reducible refine h_blkj2 ?_); exact blk_j2n w _ Q hq) | (refine h_bin ?_; refine a_eql ?_) | (refine h_cond ?_; refine b_cond_f ?_) | refine a_join ?_)
end
theorem h_blkzt {Q : AV → SH → Prop} {a b c d e : AV} {L : SH} (h : object_Blockers_zt8 Q a b c d e L) : object_Blockers_zt8 Q a b c d e L := h
theorem blockers_ok (w : WorldD) (s : SyncD) (t k o : Int) (hc : w.conds.length < 2 ^ 62) (hr : ∀ l ∈ s.locks, l.readers.length < 2 ^ 40) : PureA Try.prog 35 [.agg w.enc, .agg s.enc, .int .i64 t, .int .i64 k, .int .i64 o] (.lst ((blockersS w s t k o).map intE)) := by
  refine CallA.fz (object_Blockers_ok _ _ _ _ _ _ _ ?_)
  generalize hQ : (fun (v : AV) (L : SH) => ∃ v2 L2, FzS [v] L [v2] L2 ∧ v2 = AV.lst ((blockersS w s t k o).map intE) ∧ L2 = []) = Q
  have no : (fitsS w s && inB t w.threads.length && allowedS w k o) = false → ∀ L, Q .nils L := fun h L => by
    subst hQ
    refine ⟨_, [], FzS.all .nils, ?_, rfl⟩
    unfold blockersS; rw [h]; rfl
  have yes : (fitsS w s && inB t w.threads.length && allowedS w k o) = true → ∀ v K, Fz K v (.lst ((asc ((rawB w s t k o).filter fun x => inB x w.threads.length)).map intE)) → Q v K := fun h v K hz => by
    subst hQ
    refine ⟨_, [], FzS.all hz, ?_, rfl⟩
    unfold blockersS; rw [h]; rfl
  clear hQ
  unfold object_Blockers_w
  cases h1 : fitsS w s with
  | false =>
    have nh1 : (!fitsS w s) = true := by rw [h1]; rfl
    have no := no (by rw [h1]; rfl)
    repeat' (first | (refine h_cond ?_; refine b_cond_t ?_) | (refine h_row ?_; refine b_row_q ?_) | (refine h_pick ?_; refine b_pick_t ?_) | (refine h_grd ?_; refine b_grd_n ?_) | refine a_mark ?_ | ((with_reducible refine h_fn 37 ?_); refine m_call (fits_ok _ _ hc) ?_) | (refine h_un ?_; refine a_not ?_) | (refine h_box ?_; refine b_box (fun nb_ hnb_ => ?_)) | (refine h_frz1 ?_; refine b_frz_p ?_))
    exact no _
  | true =>
    have nh1 : (!fitsS w s) = false := by rw [h1]; rfl
    cases h2 : inB t w.threads.length with
    | false =>
      have nh2 : (!inB t w.threads.length) = true := by rw [h2]; rfl
      have no := no (by rw [h2, h1]; rfl)
      repeat' (first | (refine h_load1 ?_; refine b_load_q ?_) | (refine h_faddr ?_; refine a_faddr_q ?_) | (refine h_cond ?_; refine b_cond_t ?_) | (refine h_row ?_; refine b_row_q ?_) | (refine h_len ?_; refine a_len_m ?_) | (refine h_pick ?_; first | refine b_pick_t ?_ | refine b_pick_f ?_) | (refine h_grd ?_; first | refine b_grd_y ?_ | refine b_grd_n ?_) | refine a_mark ?_ | ((with_reducible refine h_fn 37 ?_); refine m_call (fits_ok _ _ hc) ?_) | ((with_reducible refine h_fn 52 ?_); refine m_call (within_ok _ _) ?_) | (refine h_un ?_; refine a_not ?_) | (refine h_box ?_; refine b_box (fun nb_ hnb_ => ?_)) | (refine h_frz1 ?_; refine b_frz_p ?_))
      exact no _
    | true =>
      have nh2 : (!inB t w.threads.length) = false := by rw [h2]; rfl
      cases h3 : allowedS w k o with
      | false =>
        have nh3 : (!allowedS w k o) = true := by rw [h3]; rfl
        have no := no (by rw [h2, h1, h3]; rfl)
        repeat' (first | (refine h_load1 ?_; refine b_load_q ?_) | (refine h_faddr ?_; refine a_faddr_q ?_) | (refine h_cond ?_; refine b_cond_t ?_) | (refine h_row ?_; refine b_row_q ?_) | (refine h_len ?_; refine a_len_m ?_) | (refine h_pick ?_; refine b_pick_f ?_) | (refine h_grd ?_; refine b_grd_y ?_) | refine a_mark ?_ | ((with_reducible refine h_fn 37 ?_); refine m_call (fits_ok _ _ hc) ?_) | ((with_reducible refine h_fn 52 ?_); refine m_call (within_ok _ _) ?_) | ((with_reducible refine h_fn 53 ?_); refine m_call (allowed_ok _ _ _) ?_) | (refine h_un ?_; refine a_not ?_) | (refine h_box ?_; refine b_box (fun nb_ hnb_ => ?_)) | (refine h_frz1 ?_; refine b_frz_p ?_))
        exact no _
      | true =>
        have nh3 : (!allowedS w k o) = false := by rw [h3]; rfl
        have hq := yes (by rw [h2, h1, h3]; rfl)
        have hf := fitsS_iff.1 h1
        have key : object_Blockers_zt8 Q (.int .i64 k) (.int .i64 t) (.int .i64 o) (.pptr [w.enc] 0 0) (.pptr [s.enc] 0 0) [] := by
          by_cases k6 : k = 6 ∨ k = 8
          · exact blk_6 w s t o hf h2 hr Q k k6 h3 hq
          by_cases k10 : k = 10
          · subst k10; exact blk_10 w s t o hf h2 hr Q h3 hq
          by_cases k17 : k = 17
          · subst k17; exact blk_17 w s t o hf h2 hr Q h3 hq
          by_cases k21 : k = 21
          · subst k21; exact blk_21 w s t o hf h2 hr Q h3 hq
          exact blk_o w s t o hf h2 hr Q k (by omega) (by omega) k10 k17 k21 hq
        clear yes no
        repeat' (first | ((with_reducible refine h_blkzt ?_); exact key) | (refine h_load1 ?_; refine b_load_q ?_) | (refine h_faddr ?_; refine a_faddr_q ?_) | (refine h_cond ?_; refine b_cond_f ?_) | (refine h_row ?_; refine b_row_q ?_) | (refine h_len ?_; refine a_len_m ?_) | (refine h_pick ?_; refine b_pick_f ?_) | (refine h_grd ?_; refine b_grd_y ?_) | refine a_mark ?_ | ((with_reducible refine h_fn 37 ?_); refine m_call (fits_ok _ _ hc) ?_) | ((with_reducible refine h_fn 52 ?_); refine m_call (within_ok _ _) ?_) | ((with_reducible refine h_fn 53 ?_); refine m_call (allowed_ok _ _ _) ?_) | (refine h_un ?_; refine a_not ?_) | (refine h_box ?_; refine b_box (fun nb_ hnb_ => ?_)) | (refine h_frz1 ?_; refine b_frz_p ?_))
end Go.Proofs.Ytadjimfkfmojkaa.Am

end
section
namespace Go.Proofs.Ytadjimfkfmojkaa.Am
set_option maxRecDepth 100000
set_option linter.unusedSimpArgs false
set_option linter.unusedVariables false
set_option linter.unusedSectionVars false
theorem a_slice_take {α : Type} {f : α → List AV} {l : List α} {n i : Nat} {k : IntKind} {L : SH} {K : AV → Prop} (hn : ∀ x, (f x).length = n) (hi : i ≤ l.length) (h : K (.lst ((l.take i).map f))) : W.slice n (.lst (l.map f)) none (some (.int k (i : Int))) none L K := by
  refine a_slice_l (l := 0) (h := i) rfl bound_nat (Nat.zero_le _) (by simpa using hi) (fun r hr => ?_) ?_
  · cases l with
    | nil => cases hr
    | cons x l => simp at hr; rw [← hr]; exact hn x
  · rw [List.drop_zero, Nat.sub_zero, ← List.map_take]; exact h
theorem a_slice_drop {α : Type} {f : α → List AV} {l : List α} {n i : Nat} {k : IntKind} {L : SH} {K : AV → Prop} (hn : ∀ x, (f x).length = n) (hi : i ≤ l.length) (h : K (.lst ((l.drop i).map f))) : W.slice n (.lst (l.map f)) (some (.int k (i : Int))) none none L K := by
  refine a_slice_l (l := i) (h := (l.map f).length) bound_nat rfl (by simpa using hi) (Nat.le_refl _) (fun r hr => ?_) ?_
  · cases l with
    | nil => cases hr
    | cons x l => simp at hr; rw [← hr]; exact hn x
  · rw [List.take_of_length_le (by simp), ← List.map_drop]; exact h
theorem a_app_ss {b bX i k n by_ : Nat} {rows m : List (List AV)} {L L' : SH} {KL : AV → SH → Prop} (hX : (bX, (⟨n, m⟩ : Blk)) ∈ L) (hd : Del b ⟨n, rows⟩ L L') (hr : rows.length = i) (hk : k = m.length) (h2 : 2 * (i + m.length) * by_ ≤ 2 ^ 48) (h3 : 2 * (i + m.length) ≤ 2 ^ 62) (h4 : (m.all fun r => r.all AV.one) = true)
    (h : ∀ b', b' ∉ L.names → KL (.sl b' 0 (i + m.length)) ((b', ⟨n, rows ++ m⟩) :: L')) : W.append n by_ (.sl b 0 i) (.sl bX 0 k) L KL := by
  subst hk
  subst hr
  exact a_app_s (y := ⟨n, rows⟩) (l := rows) hd.mem' rfl (by simp) (by simp) (rowsR_s hX rfl rfl) h2 h3 h4 hd (fun b' hb => h b' hb)
def lows (l : List Int) (n : Int) : List Int := l.takeWhile fun x => decide (x < n)
def highs (l : List Int) (n : Int) : List Int := l.dropWhile fun x => decide (x < n)
def putS (l : List Int) (n : Int) : List Int := if (highs l n).head? = some n then l else lows l n ++ n :: highs l n
theorem low_high (l : List Int) (n : Int) : lows l n ++ highs l n = l := List.takeWhile_append_dropWhile
theorem lows_of : ∀ (l : List Int) (n : Int) (i : Nat), (∀ x ∈ l.take i, x < n) → (∀ x, (l.drop i).head? = some x → ¬ x < n) → lows l n = l.take i ∧ highs l n = l.drop i
  | [], n, i, _, _ => by simp [lows, highs]
  | x :: l, n, 0, _, h2 => by
    have : ¬ x < n := h2 x rfl
    simp [lows, highs, this]
  | x :: l, n, i + 1, h1, h2 => by
    have hx : x < n := h1 x (by simp)
    obtain ⟨e1, e2⟩ := lows_of l n i (fun y hy => h1 y (by simp [hy])) (fun y hy => h2 y (by simpa using hy))
    unfold lows at e1 ⊢
    unfold highs at e2 ⊢
    simp [hx, e1, e2]
theorem put_ok (l : List Int) (n : Int) (hl : l.length < 2 ^ 41) : PureA Try.prog 64 [.lst (l.map intE), .int .i64 n] (.lst ((putS l n).map intE)) := by
  refine CallA.fz (ref07_Put_ok _ _ _ _ ?_)
  unfold ref07_Put_w
  generalize hQ : (fun (v : AV) (L : SH) => ∃ v2 L2, FzS [v] L [v2] L2 ∧ v2 = AV.lst ((putS l n).map intE) ∧ L2 = []) = Q
  refine for_by l.length (fun i => ([.lst (l.map intE), .int .i64 n, .int .i64 i], [])) (fun i => ∀ x ∈ l.take i, x < n) (by simp) rfl rfl ?_
  intro i hi hG
  dsimp only
  unfold ref07_Put_l0
  have fin : ∀ (b : Nat) (L : SH) (k : Nat), k = (l.take i).length + 1 + (l.drop i).length → lows l n = l.take i ∧ highs l n = l.drop i → ¬ (highs l n).head? = some n → (b, (⟨1, ((l.take i).map intE ++ [[.int .i64 n]]) ++ (l.drop i).map intE⟩ : Blk)) ∈ L → Q (.sl b 0 k) L := fun b L k hk hlh hne hm => by
    subst hQ
    have e : putS l n = l.take i ++ n :: l.drop i := by unfold putS; rw [if_neg hne, hlh.1, hlh.2]
    exact ⟨_, [], FzS.all (Fz.sls (l := putS l n) hm (by rw [e]; simp [intE]) (by decide) (by rw [hk, e]; simp; omega)), rfl, rfl⟩
  rcases Nat.lt_or_ge i l.length with g1 | g1
  · have hd := dec_lt g1
    have hx := map_at (f := intE) g1
    have htk : l.take (i + 1) = l.take i ++ [l[i]] := List.take_succ_eq_append_getElem g1
    have hhd : (l.drop i).head? = some l[i] := by rw [List.drop_eq_getElem_cons g1]; rfl
    have hlt : (l.take i).length = i := by simp; omega
    cases hc : decide (l[i] < n) with
    | true =>
      repeat' (first | (refine h_load1 ?_; refine b_load_q ?_) | (refine h_bin ?_; first | refine a_lss ?_ | refine a_add ?_) | (refine h_cond ?_; refine b_cond_t ?_) | (refine h_idx ?_; refine b_idx_n ?_) | (refine h_len ?_; refine a_len_m ?_) | (refine h_pick ?_; refine b_pick_t ?_) | (refine h_grd ?_; refine b_grd_y ?_))
      exact ⟨i + 1, by omega, by omega, fun x hx => by
        rw [htk] at hx
        rcases List.mem_append.1 hx with h | h
        · exact hG x h
        · simp at h; subst h; exact of_decide_eq_true hc, fzs_eq (by rw [i64_succ g1 (by omega)]; rfl) rfl⟩
    | false =>
      have hlh := lows_of l n i hG (fun x hx => by rw [hhd] at hx; cases hx; exact of_decide_eq_false hc)
      cases he : decide (l[i] = n) with
      | true =>
        repeat' (first | (refine h_load1 ?_; refine b_load_q ?_) | (refine h_bin ?_; first | refine a_eql ?_ | refine a_lss ?_) | (refine h_cond ?_; first | refine b_cond_t ?_ | refine b_cond_f ?_) | (refine h_idx ?_; refine b_idx_n ?_) | (refine h_len ?_; refine a_len_m ?_) | (refine h_pick ?_; refine b_pick_t ?_) | (refine h_grd ?_; refine b_grd_y ?_))
        subst hQ
        have e : putS l n = l := by unfold putS; rw [if_pos]; rw [hlh.2, hhd, of_decide_eq_true he]
        exact ⟨_, [], FzS.all (.refl _), by rw [e]; rfl, rfl⟩
      | false =>
        have hne : ¬ (highs l n).head? = some n := by rw [hlh.2, hhd]; intro h; cases h; simp at he
        repeat' (first | (refine h_load1 ?_; refine b_load_q ?_) | (refine h_bin ?_; first | refine a_eql ?_ | refine a_lss ?_) | (refine h_cond ?_; refine b_cond_f ?_) | (refine h_idx ?_; refine b_idx_n ?_) | (refine h_len ?_; refine a_len_m ?_) | (refine h_pick ?_; refine b_pick_t ?_) | (refine h_grd ?_; refine b_grd_y ?_) | refine a_slice_take (fun _ => rfl) (by omega) ?_ | refine a_slice_drop (fun _ => rfl) (by omega) ?_ | refine a_app_sm (by repeat constructor) (fun _ => rfl) (by simp) (by simp; omega) (by simp; omega) (fun _ => rfl) (fun nb_ hnb_ => ?_) | refine a_app_ss (by repeat constructor) (by repeat constructor) (by simp) (by rfl) (by simp; omega) (by simp; omega) (by rfl) (fun nb_ hnb_ => ?_) | (refine h_bslice ?_; refine b_bslice (fun nb_ hnb_ => ?_)))
        exact fin _ _ _ (by simp) hlh hne (by simp [slotOf])
  · have hd := dec_ge g1
    have hi0 : i = l.length := by omega
    have hhd : (l.drop i).head? = none := by rw [List.drop_eq_nil_of_le g1]; rfl
    have hlh := lows_of l n i hG (fun x hx => by rw [hhd] at hx; cases hx)
    have hne : ¬ (highs l n).head? = some n := by rw [hlh.2, hhd]; nofun
    repeat' (first | (refine h_bin ?_; refine a_lss ?_) | (refine h_cond ?_; refine b_cond_f ?_) | (refine h_len ?_; refine a_len_m ?_) | (refine h_pick ?_; refine b_pick_f ?_) | (refine h_grd ?_; refine b_grd_n ?_) | refine a_slice_take (fun _ => rfl) (by omega) ?_ | refine a_slice_drop (fun _ => rfl) (by omega) ?_ | refine a_app_sm (by repeat constructor) (fun _ => rfl) (by simp) (by simp; omega) (by simp; omega) (fun _ => rfl) (fun nb_ hnb_ => ?_) | refine a_app_ss (by repeat constructor) (by repeat constructor) (by simp) (by rfl) (by simp; omega) (by simp; omega) (by rfl) (fun nb_ hnb_ => ?_) | (refine h_bslice ?_; refine b_bslice (fun nb_ hnb_ => ?_)))
    exact fin _ _ _ (by simp) hlh hne (by simp [slotOf])
theorem putS_len (l : List Int) (n : Int) : (putS l n).length ≤ l.length + 1 := by
  unfold putS
  split
  · omega
  · have := congrArg List.length (low_high l n)
    simp only [List.length_append, List.length_cons] at this ⊢
    omega
theorem putS_asc {l : List Int} {n : Int} (h : l.Pairwise (· < ·)) : (putS l n).Pairwise (· < ·) := by
  unfold putS
  split
  · exact h
  · rename_i hne
    have hl := low_high l n
    rw [← hl] at h
    obtain ⟨h1, h2, h3⟩ := List.pairwise_append.1 h
    have hlow : ∀ x ∈ lows l n, x < n := fun x hx => by
      unfold lows at hx
      have := List.all_eq_true.1 (List.all_takeWhile (p := fun x => decide (x < n)) (l := l)) x hx
      exact of_decide_eq_true this
    refine List.pairwise_append.2 ⟨h1, List.pairwise_cons.2 ⟨?_, h2⟩, ?_⟩
    · cases hh : highs l n with
      | nil => intro y hy; cases hy
      | cons x r =>
        rw [hh] at hne h2
        have hx : ¬ x < n := by
          have : (highs l n).head? = some x := by rw [hh]; rfl
          unfold highs at this
          have h0 := List.head?_dropWhile_not (p := fun x => decide (x < n)) l
          rw [this] at h0
          simpa using h0
        have hxn : x ≠ n := fun e => hne (by rw [e]; rfl)
        intro y hy
        rcases List.mem_cons.1 hy with rfl | hy
        · omega
        · have := (List.pairwise_cons.1 h2).1 y hy
          omega
    · intro a ha b hb
      rcases List.mem_cons.1 hb with rfl | hb
      · exact hlow a ha
      · exact h3 a ha b hb
theorem putS_mem {l : List Int} {n x : Int} : x ∈ putS l n ↔ x ∈ l ∨ x = n := by
  unfold putS
  have hl := low_high l n
  split
  · rename_i hh
    constructor
    · exact .inl
    · rintro (h | rfl)
      · exact h
      · rw [← hl]
        exact List.mem_append_right _ (List.mem_of_mem_head? hh)
  · constructor
    · intro h
      rcases List.mem_append.1 h with h | h
      · left; rw [← hl]; exact List.mem_append_left _ h
      · rcases List.mem_cons.1 h with h | h
        · exact .inr h
        · left; rw [← hl]; exact List.mem_append_right _ h
    · rintro (h | rfl)
      · rw [← hl] at h
        rcases List.mem_append.1 h with h | h
        · exact List.mem_append_left _ h
        · exact List.mem_append_right _ (List.mem_cons_of_mem _ h)
      · exact List.mem_append_right _ List.mem_cons_self
/-- all numbers of a list put into another one -/
def puts (l m : List Int) : List Int := m.foldl putS l
theorem puts_asc : ∀ (m : List Int) {l : List Int}, l.Pairwise (· < ·) → (puts l m).Pairwise (· < ·)
  | [], _, h => h
  | x :: m, _, h => puts_asc m (putS_asc h)
theorem puts_mem : ∀ (m : List Int) {l : List Int} {x : Int}, x ∈ puts l m ↔ x ∈ l ∨ x ∈ m
  | [], l, x => by simp [puts]
  | y :: m, l, x => by
    have := puts_mem m (l := putS l y) (x := x)
    unfold puts at this ⊢
    rw [List.foldl_cons, this, putS_mem]
    simp only [List.mem_cons]
    constructor
    · rintro ((h | h) | h)
      · exact .inl h
      · exact .inr (.inl h)
      · exact .inr (.inr h)
    · rintro (h | h | h)
      · exact .inl (.inl h)
      · exact .inl (.inr h)
      · exact .inr h
theorem puts_len : ∀ (m l : List Int), (puts l m).length ≤ l.length + m.length
  | [], l => by simp [puts]
  | y :: m, l => by
    have h1 := puts_len m (putS l y)
    have h2 := putS_len l y
    unfold puts at h1 ⊢
    rw [List.foldl_cons, List.length_cons]
    omega
theorem puts_eq (m : List Int) : puts [] m = asc m := asc_ext (puts_asc m .nil) (asc_asc m) fun x => by rw [puts_mem, asc_mem]; simp
theorem puts_snoc (l m : List Int) (x : Int) : puts l (m ++ [x]) = putS (puts l m) x := by unfold puts; rw [List.foldl_append]; rfl
theorem puts_app (l m r : List Int) : puts l (m ++ r) = puts (puts l m) r := by unfold puts; rw [List.foldl_append]
/-- Union of the reference -/
theorem unionR_ok (a b : List Int) (ha : a.length < 2 ^ 40) (hb : b.length < 2 ^ 40) : PureA Try.prog 57 [.lst (a.map intE), .lst (b.map intE)] (.lst ((asc (a ++ b)).map intE)) := by
  refine CallA.fz (ref07_Union_ok _ _ _ _ ?_)
  unfold ref07_Union_w
  generalize hQ : (fun (v : AV) (L : SH) => ∃ v2 L2, FzS [v] L [v2] L2 ∧ v2 = AV.lst ((asc (a ++ b)).map intE) ∧ L2 = []) = Q
  refine loop_ex a.length (fun i (_ : Unit) => ([.lst (a.map intE), .lst (b.map intE), .lst ((puts [] (a.take i)).map intE), .int .i64 i], [])) (fun _ _ => True) () trivial (FzS.vals (.cons (.refl _) (.cons (.refl _) (.cons .nils (.cons (.refl _) .nil))))) ?_
  rintro i _ hi _
  dsimp only
  unfold ref07_Union_l3
  have hpl := puts_len (a.take i) []
  have htl : (a.take i).length ≤ a.length := by rw [List.length_take]; exact Nat.min_le_right _ _
  simp only [List.length_nil] at hpl
  rcases Nat.lt_or_ge i a.length with g1 | g1
  · have hd := dec_lt g1
    have hx := map_at (f := intE) g1
    have hp := put_ok (puts [] (a.take i)) a[i] (by omega)
    repeat' (first | (refine h_load1 ?_; refine b_load_q ?_) | (refine h_bin ?_; first | refine a_lss ?_ | refine a_add ?_) | (refine h_cond ?_; refine b_cond_t ?_) | (refine h_idx ?_; refine b_idx_n ?_) | (refine h_len ?_; refine a_len_m ?_) | refine a_mark ?_ | ((with_reducible refine h_fn 64 ?_); refine m_call (hp) ?_))
    exact ⟨i + 1, (), by omega, by omega, trivial, fzs_eq (by rw [i64_succ g1 (by omega), List.take_succ_eq_append_getElem g1, puts_snoc]; rfl) rfl⟩
  · have hd := dec_ge g1
    repeat' (first | (refine h_bin ?_; refine a_lss ?_) | (refine h_cond ?_; refine b_cond_f ?_) | (refine h_len ?_; refine a_len_m ?_))
    rw [List.take_of_length_le g1] at *
    refine for_by b.length (fun i => ([.lst (b.map intE), .lst ((puts (puts [] a) (b.take i)).map intE), .int .i64 i], [])) (fun _ => True) trivial rfl rfl ?_
    intro j hj _
    dsimp only
    unfold ref07_Union_l2
    have hpl2 := puts_len (b.take j) (puts [] a)
    have htl2 : (b.take j).length ≤ b.length := by rw [List.length_take]; exact Nat.min_le_right _ _
    rcases Nat.lt_or_ge j b.length with g2 | g2
    · have hd := dec_lt g2
      have hx := map_at (f := intE) g2
      have hp := put_ok (puts (puts [] a) (b.take j)) b[j] (by omega)
      repeat' (first | (refine h_load1 ?_; refine b_load_q ?_) | (refine h_bin ?_; first | refine a_lss ?_ | refine a_add ?_) | (refine h_cond ?_; refine b_cond_t ?_) | (refine h_idx ?_; refine b_idx_n ?_) | (refine h_len ?_; refine a_len_m ?_) | refine a_mark ?_ | ((with_reducible refine h_fn 64 ?_); refine m_call (hp) ?_))
      exact ⟨j + 1, by omega, by omega, trivial, fzs_eq (by rw [i64_succ g2 (by omega), List.take_succ_eq_append_getElem g2, puts_snoc]; rfl) rfl⟩
    · have hd := dec_ge g2
      rw [List.take_of_length_le g2, ← puts_app, puts_eq]
      repeat' (first | (refine h_bin ?_; refine a_lss ?_) | (refine h_cond ?_; refine b_cond_f ?_) | (refine h_len ?_; refine a_len_m ?_))
      subst hQ
      exact ⟨_, [], FzS.all (.refl _), rfl, rfl⟩
end Go.Proofs.Ytadjimfkfmojkaa.Am

end
