/- A part of the proof; the statement is proved in the last part. -/
import Derived.Test.YtadjimfkfmojkaaQ5d
import Derived.Test.YtadjimfkfmojkaaChecked
set_option linter.unusedSimpArgs false
set_option linter.unusedVariables false
section
namespace Go.Proofs.Ytadjimfkfmojkaa.Am
set_option maxRecDepth 100000
set_option linter.unusedSimpArgs false
set_option linter.unusedVariables false
set_option linter.unusedSectionVars false
def setThr (s : SyncD) (i : Int) (f : ThrD → ThrD) : List ThrD := s.threads.set i.toNat (f (thrAt s i))
def setLock (s : SyncD) (i : Int) (f : LockD → LockD) : List LockD := s.locks.set i.toNat (f (lockAt s i))
def wakeS (s : SyncD) (o : Int) : List ThrD := wakeAll s.threads o s.threads.length
/-- the readers of a lock with one more -/
def addRd (l : List Int) (t : Int) : List Int := Lib.compact (srt (l ++ [t]))
def applyS (w : WorldD) (s : SyncD) (t k o wake : Int) : SyncD × Int :=
  if k = 1 then ({ s with threads := setThr s t fun x => { x with status := 2 } }, 0)
  else if k = 2 then ({ s with threads := setThr s t fun x => { x with status := 5 } }, 0)
  else if k = 6 ∨ k = 10 then ({ s with locks := setLock s o fun x => { x with owner := t } }, 0)
  else if k = 7 ∨ k = 11 then ({ s with locks := setLock s o fun x => { x with owner := -1 } }, 0)
  else if k = 8 then ({ s with locks := setLock s o fun x => { x with readers := addRd x.readers t } }, 0)
  else if k = 9 then ({ s with locks := setLock s o fun x => { x with readers := x.readers.filter fun y => !decide (y = t) } }, 0)
  else if k = 12 then ({ s with tx := t }, 0)
  else if k = 13 then ({ s with tx := -1 }, 0)
  else if k = 14 then ({ s with threads := setThr s t fun x => { x with atomic := true } }, 0)
  else if k = 15 then ({ s with threads := setThr s t fun x => { x with atomic := false } }, 0)
  else if k = 16 then ({ s with locks := setLock s (mxAt w o) fun x => { x with owner := -1 }, threads := setThr s t fun x => { x with status := 3, cond := o } }, 0)
  else if k = 17 then ({ s with locks := setLock s (mxAt w o) fun x => { x with owner := t }, threads := setThr s t fun x => { x with status := 2, cond := 0 } }, 0)
  else if k = 18 then ({ s with threads := wokenS s.threads o wake }, notifyS s.threads o wake)
  else if k = 19 then ({ s with threads := wakeS s o }, (waiting s.threads o s.threads.length).length)
  else if k = 20 then ({ s with threads := setThr s o fun x => { x with status := 1 } }, 0)
  else if k = 22 then ({ s with done := s.done.set o.toNat true }, 0)
  else (s, 0)
theorem thr_rows {s : SyncD} {t : Int} {f : ThrD → ThrD} {r : List AV} (h : r = (f (thrAt s t)).enc) : (s.threads.map ThrD.enc).set (0 + t.toNat) r = (setThr s t f).map ThrD.enc := by
  rw [h, Nat.zero_add, setThr, List.map_set]
theorem lock_rows {s : SyncD} {t : Int} {f : LockD → LockD} {r : List AV} (h : r = (f (lockAt s t)).enc) : (s.locks.map LockD.enc).set (0 + t.toNat) r = (setLock s t f).map LockD.enc := by
  rw [h, Nat.zero_add, setLock, List.map_set]
theorem thr_get {s : SyncD} {t : Int} (h : inB t s.threads.length = true) : (s.threads.map ThrD.enc)[0 + t.toNat]? = some (thrAt s t).enc := by
  rw [Nat.zero_add]; exact at_inB h
theorem lock_get {s : SyncD} {t : Int} (h : inB t s.locks.length = true) : (s.locks.map LockD.enc)[0 + t.toNat]? = some (lockAt s t).enc := by
  rw [Nat.zero_add]; exact at_inB h
theorem box_one {bl n bt m : Nat} {tx : Int} {dv : AV} (h : dv.one = true) : ([.sl bl 0 n, .int .i64 tx, dv, .sl bt 0 m] : List AV).all AV.one = true := by
  show (true && (true && (dv.one && (true && true)))) = true
  rw [h]; rfl
theorem woken_len (T : List ThrD) (c wake : Int) : (wokenS T c wake).length = T.length := by
  unfold wokenS setSt
  split <;> simp
theorem set_at {α : Type} {l : List α} {i : Nat} {x y : α} (h : l[i]? = some y) : (l.set i x)[i]? = some x := by
  have := (List.getElem?_eq_some_iff.1 h).1
  simp [this]
section
variable (w : WorldD) (s : SyncD) (t o wake : Int) (b7 b12 bl bt : Nat) (od : Option Nat)
/-- the heap behind clone -/
def apL (R : SH) : SH := (bl, ⟨2, s.locks.map LockD.enc⟩) :: (bt, ⟨3, s.threads.map ThrD.enc⟩) :: (b12, ⟨4, [[.nils, .int .i64 0, .nils, .nils]]⟩) :: (b7, ⟨4, [s.enc]⟩) :: R
/-- what an end must show -/
def Ends1 (k : Int) (R : SH) (dv : AV) (Q : AV → SH → Prop) : Prop := ∀ (tx val : Int) (ls : List LockD) (th : List ThrD) (L : SH), Fz L (.sl bl 0 s.locks.length) (.lst (ls.map LockD.enc)) → Fz L (.sl bt 0 s.threads.length) (.lst (th.map ThrD.enc)) → (∀ p ∈ R, p ∈ L) →
  applyS w s t k o wake = (⟨ls, tx, s.done, th⟩, val) → Q (.tup [.agg [.sl bl 0 s.locks.length, .int .i64 tx, dv, .sl bt 0 s.threads.length], .int .i64 val, .bool true]) L
variable (R : SH) (dv : AV) (hone : dv.one = true) (Q : AV → SH → Prop) (hf : FitD w s) (ht : inB t s.threads.length = true) (hnd : (apL s b7 b12 bl bt R).names.Nodup)
include hone hf ht hnd
theorem app_1 (ha : allowedS w 1 o = true) (hq : Ends1 w s t o wake bl bt 1 R dv Q) : object_ApplyF_c8 (.ptr b7 0 0) Q (.int .i64 1) (.pptr [[.int .i64 t]] 0 0) (.ptr b12 0 0) (.int .i64 o) (.int .i64 wake) (.pptr [w.enc] 0 0) (.agg [.sl bl 0 s.locks.length, .int .i64 s.tx, dv, .sl bt 0 s.threads.length]) (apL s b7 b12 bl bt R) := by
  unfold object_ApplyF_c8
  simp only [SH.names, apL, List.map_cons, List.nodup_cons, List.mem_cons, not_or] at hnd
  obtain ⟨⟨n1, n2, n3, n4⟩, ⟨n5, n6, n7⟩, ⟨n8, n9⟩, n10, n11⟩ := hnd
  have hb1 : ([.sl bl 0 s.locks.length, .int .i64 s.tx, dv, .sl bt 0 s.threads.length] : List AV).all AV.one = true := box_one hone
  unfold apL
  have hy := thr_get ht
  obtain ⟨t0, t1⟩ := inB_iff.1 ht
  have hb2 : ∀ tx : Int, ([.sl bl 0 s.locks.length, .int .i64 tx, dv, .sl bt 0 s.threads.length] : List AV).all AV.one = true := fun tx => box_one hone
  repeat' (first | (refine h_load1 ?_; first | refine b_load_q ?_ | refine b_load_p ?_) | (refine h_faddr ?_; refine a_faddr_p ?_) | (refine h_bin ?_; refine a_eql ?_) | (refine h_cond ?_; refine b_cond_t ?_) | (refine h_idx ?_; refine b_idx_s ?_) | (refine h_row ?_; refine b_row_p ?_) | refine a_store_box (by repeat constructor) rfl rfl hb1 rfl ?_ | (refine h_store ?_; refine b_store_one ?_) | refine a_join ?_)
  exact hq _ _ (s.locks) (setThr s t fun x => { x with status := 2 }) _ (Fz.sls (by repeat constructor) rfl (by simp) (by simp [setLock])) (Fz.sls (by repeat constructor) (thr_rows rfl) (by simp) (by simp [setThr])) (fun p hp => by simp only [List.mem_cons]; simp [hp]) (by simp only [applyS, Int.reduceEq, Int.reduceNeg, if_true, if_false, or_self, or_true, true_or, or_false, false_or, reduceIte, reduceCtorEq])
theorem app_2 (ha : allowedS w 2 o = true) (hq : Ends1 w s t o wake bl bt 2 R dv Q) : object_ApplyF_c8 (.ptr b7 0 0) Q (.int .i64 2) (.pptr [[.int .i64 t]] 0 0) (.ptr b12 0 0) (.int .i64 o) (.int .i64 wake) (.pptr [w.enc] 0 0) (.agg [.sl bl 0 s.locks.length, .int .i64 s.tx, dv, .sl bt 0 s.threads.length]) (apL s b7 b12 bl bt R) := by
  unfold object_ApplyF_c8
  simp only [SH.names, apL, List.map_cons, List.nodup_cons, List.mem_cons, not_or] at hnd
  obtain ⟨⟨n1, n2, n3, n4⟩, ⟨n5, n6, n7⟩, ⟨n8, n9⟩, n10, n11⟩ := hnd
  have hb1 : ([.sl bl 0 s.locks.length, .int .i64 s.tx, dv, .sl bt 0 s.threads.length] : List AV).all AV.one = true := box_one hone
  unfold apL
  have hy := thr_get ht
  obtain ⟨t0, t1⟩ := inB_iff.1 ht
  have hb2 : ∀ tx : Int, ([.sl bl 0 s.locks.length, .int .i64 tx, dv, .sl bt 0 s.threads.length] : List AV).all AV.one = true := fun tx => box_one hone
  repeat' (first | (refine h_load1 ?_; first | refine b_load_q ?_ | refine b_load_p ?_) | (refine h_faddr ?_; refine a_faddr_p ?_) | (refine h_bin ?_; refine a_eql ?_) | (refine h_cond ?_; first | refine b_cond_t ?_ | refine b_cond_f ?_) | (refine h_idx ?_; refine b_idx_s ?_) | (refine h_row ?_; refine b_row_p ?_) | refine a_store_box (by repeat constructor) rfl rfl hb1 rfl ?_ | (refine h_store ?_; refine b_store_one ?_) | refine a_join ?_)
  exact hq _ _ (s.locks) (setThr s t fun x => { x with status := 5 }) _ (Fz.sls (by repeat constructor) rfl (by simp) (by simp [setLock])) (Fz.sls (by repeat constructor) (thr_rows rfl) (by simp) (by simp [setThr])) (fun p hp => by simp only [List.mem_cons]; simp [hp]) (by simp only [applyS, Int.reduceEq, Int.reduceNeg, if_true, if_false, or_self, or_true, true_or, or_false, false_or, reduceIte, reduceCtorEq])
theorem app_3 (ha : allowedS w 3 o = true) (hq : Ends1 w s t o wake bl bt 3 R dv Q) : object_ApplyF_c8 (.ptr b7 0 0) Q (.int .i64 3) (.pptr [[.int .i64 t]] 0 0) (.ptr b12 0 0) (.int .i64 o) (.int .i64 wake) (.pptr [w.enc] 0 0) (.agg [.sl bl 0 s.locks.length, .int .i64 s.tx, dv, .sl bt 0 s.threads.length]) (apL s b7 b12 bl bt R) := by
  unfold object_ApplyF_c8
  simp only [SH.names, apL, List.map_cons, List.nodup_cons, List.mem_cons, not_or] at hnd
  obtain ⟨⟨n1, n2, n3, n4⟩, ⟨n5, n6, n7⟩, ⟨n8, n9⟩, n10, n11⟩ := hnd
  have hb1 : ([.sl bl 0 s.locks.length, .int .i64 s.tx, dv, .sl bt 0 s.threads.length] : List AV).all AV.one = true := box_one hone
  unfold apL
  have hy := thr_get ht
  obtain ⟨t0, t1⟩ := inB_iff.1 ht
  have hb2 : ∀ tx : Int, ([.sl bl 0 s.locks.length, .int .i64 tx, dv, .sl bt 0 s.threads.length] : List AV).all AV.one = true := fun tx => box_one hone
  repeat' (first | (refine h_bin ?_; refine a_eql ?_) | (refine h_cond ?_; refine b_cond_f ?_) | (refine h_row ?_; refine b_row_p ?_) | refine a_store_box (by repeat constructor) rfl rfl hb1 rfl ?_ | refine a_join ?_)
  exact hq _ _ (s.locks) (s.threads) _ (Fz.sls (by repeat constructor) rfl (by simp) (by simp [setLock])) (Fz.sls (by repeat constructor) rfl (by simp) (by simp [setThr])) (fun p hp => by simp only [List.mem_cons]; simp [hp]) (by simp only [applyS, Int.reduceEq, Int.reduceNeg, if_true, if_false, or_self, or_true, true_or, or_false, false_or, reduceIte, reduceCtorEq])
theorem app_4 (ha : allowedS w 4 o = true) (hq : Ends1 w s t o wake bl bt 4 R dv Q) : object_ApplyF_c8 (.ptr b7 0 0) Q (.int .i64 4) (.pptr [[.int .i64 t]] 0 0) (.ptr b12 0 0) (.int .i64 o) (.int .i64 wake) (.pptr [w.enc] 0 0) (.agg [.sl bl 0 s.locks.length, .int .i64 s.tx, dv, .sl bt 0 s.threads.length]) (apL s b7 b12 bl bt R) := by
  unfold object_ApplyF_c8
  simp only [SH.names, apL, List.map_cons, List.nodup_cons, List.mem_cons, not_or] at hnd
  obtain ⟨⟨n1, n2, n3, n4⟩, ⟨n5, n6, n7⟩, ⟨n8, n9⟩, n10, n11⟩ := hnd
  have hb1 : ([.sl bl 0 s.locks.length, .int .i64 s.tx, dv, .sl bt 0 s.threads.length] : List AV).all AV.one = true := box_one hone
  unfold apL
  have hy := thr_get ht
  obtain ⟨t0, t1⟩ := inB_iff.1 ht
  have hb2 : ∀ tx : Int, ([.sl bl 0 s.locks.length, .int .i64 tx, dv, .sl bt 0 s.threads.length] : List AV).all AV.one = true := fun tx => box_one hone
  repeat' (first | (refine h_bin ?_; refine a_eql ?_) | (refine h_cond ?_; refine b_cond_f ?_) | (refine h_row ?_; refine b_row_p ?_) | refine a_store_box (by repeat constructor) rfl rfl hb1 rfl ?_ | refine a_join ?_)
  exact hq _ _ (s.locks) (s.threads) _ (Fz.sls (by repeat constructor) rfl (by simp) (by simp [setLock])) (Fz.sls (by repeat constructor) rfl (by simp) (by simp [setThr])) (fun p hp => by simp only [List.mem_cons]; simp [hp]) (by simp only [applyS, Int.reduceEq, Int.reduceNeg, if_true, if_false, or_self, or_true, true_or, or_false, false_or, reduceIte, reduceCtorEq])
theorem app_5 (ha : allowedS w 5 o = true) (hq : Ends1 w s t o wake bl bt 5 R dv Q) : object_ApplyF_c8 (.ptr b7 0 0) Q (.int .i64 5) (.pptr [[.int .i64 t]] 0 0) (.ptr b12 0 0) (.int .i64 o) (.int .i64 wake) (.pptr [w.enc] 0 0) (.agg [.sl bl 0 s.locks.length, .int .i64 s.tx, dv, .sl bt 0 s.threads.length]) (apL s b7 b12 bl bt R) := by
  unfold object_ApplyF_c8
  simp only [SH.names, apL, List.map_cons, List.nodup_cons, List.mem_cons, not_or] at hnd
  obtain ⟨⟨n1, n2, n3, n4⟩, ⟨n5, n6, n7⟩, ⟨n8, n9⟩, n10, n11⟩ := hnd
  have hb1 : ([.sl bl 0 s.locks.length, .int .i64 s.tx, dv, .sl bt 0 s.threads.length] : List AV).all AV.one = true := box_one hone
  unfold apL
  have hy := thr_get ht
  obtain ⟨t0, t1⟩ := inB_iff.1 ht
  have hb2 : ∀ tx : Int, ([.sl bl 0 s.locks.length, .int .i64 tx, dv, .sl bt 0 s.threads.length] : List AV).all AV.one = true := fun tx => box_one hone
  repeat' (first | (refine h_bin ?_; refine a_eql ?_) | (refine h_cond ?_; refine b_cond_f ?_) | (refine h_row ?_; refine b_row_p ?_) | refine a_store_box (by repeat constructor) rfl rfl hb1 rfl ?_ | refine a_join ?_)
  exact hq _ _ (s.locks) (s.threads) _ (Fz.sls (by repeat constructor) rfl (by simp) (by simp [setLock])) (Fz.sls (by repeat constructor) rfl (by simp) (by simp [setThr])) (fun p hp => by simp only [List.mem_cons]; simp [hp]) (by simp only [applyS, Int.reduceEq, Int.reduceNeg, if_true, if_false, or_self, or_true, true_or, or_false, false_or, reduceIte, reduceCtorEq])
theorem app_6 (ha : allowedS w 6 o = true) (hq : Ends1 w s t o wake bl bt 6 R dv Q) : object_ApplyF_c8 (.ptr b7 0 0) Q (.int .i64 6) (.pptr [[.int .i64 t]] 0 0) (.ptr b12 0 0) (.int .i64 o) (.int .i64 wake) (.pptr [w.enc] 0 0) (.agg [.sl bl 0 s.locks.length, .int .i64 s.tx, dv, .sl bt 0 s.threads.length]) (apL s b7 b12 bl bt R) := by
  unfold object_ApplyF_c8
  simp only [SH.names, apL, List.map_cons, List.nodup_cons, List.mem_cons, not_or] at hnd
  obtain ⟨⟨n1, n2, n3, n4⟩, ⟨n5, n6, n7⟩, ⟨n8, n9⟩, n10, n11⟩ := hnd
  have hb1 : ([.sl bl 0 s.locks.length, .int .i64 s.tx, dv, .sl bt 0 s.threads.length] : List AV).all AV.one = true := box_one hone
  unfold apL
  have hy := thr_get ht
  obtain ⟨t0, t1⟩ := inB_iff.1 ht
  have hl : inB o s.locks.length = true := by rw [hf.locks]; simp [allowedS] at ha; exact ha.1
  have hx := lock_get hl
  obtain ⟨o0, o1⟩ := inB_iff.1 hl
  have hb2 : ∀ tx : Int, ([.sl bl 0 s.locks.length, .int .i64 tx, dv, .sl bt 0 s.threads.length] : List AV).all AV.one = true := fun tx => box_one hone
  repeat' (first | (refine h_load1 ?_; first | refine b_load_q ?_ | refine b_load_p ?_) | (refine h_faddr ?_; refine a_faddr_p ?_) | (refine h_bin ?_; refine a_eql ?_) | (refine h_cond ?_; first | refine b_cond_t ?_ | refine b_cond_f ?_) | (refine h_idx ?_; refine b_idx_s ?_) | (refine h_row ?_; refine b_row_p ?_) | refine a_store_box (by repeat constructor) rfl rfl hb1 rfl ?_ | (refine h_store ?_; refine b_store_one ?_) | refine a_join ?_)
  exact hq _ _ (setLock s o fun x => { x with owner := t }) (s.threads) _ (Fz.sls (by repeat constructor) (lock_rows rfl) (by simp) (by simp [setLock])) (Fz.sls (by repeat constructor) rfl (by simp) (by simp [setThr])) (fun p hp => by simp only [List.mem_cons]; simp [hp]) (by simp only [applyS, Int.reduceEq, Int.reduceNeg, if_true, if_false, or_self, or_true, true_or, or_false, false_or, reduceIte, reduceCtorEq])
theorem app_7 (ha : allowedS w 7 o = true) (hq : Ends1 w s t o wake bl bt 7 R dv Q) : object_ApplyF_c8 (.ptr b7 0 0) Q (.int .i64 7) (.pptr [[.int .i64 t]] 0 0) (.ptr b12 0 0) (.int .i64 o) (.int .i64 wake) (.pptr [w.enc] 0 0) (.agg [.sl bl 0 s.locks.length, .int .i64 s.tx, dv, .sl bt 0 s.threads.length]) (apL s b7 b12 bl bt R) := by
  unfold object_ApplyF_c8
  simp only [SH.names, apL, List.map_cons, List.nodup_cons, List.mem_cons, not_or] at hnd
  obtain ⟨⟨n1, n2, n3, n4⟩, ⟨n5, n6, n7⟩, ⟨n8, n9⟩, n10, n11⟩ := hnd
  have hb1 : ([.sl bl 0 s.locks.length, .int .i64 s.tx, dv, .sl bt 0 s.threads.length] : List AV).all AV.one = true := box_one hone
  unfold apL
  have hy := thr_get ht
  obtain ⟨t0, t1⟩ := inB_iff.1 ht
  have hl : inB o s.locks.length = true := by rw [hf.locks]; simp [allowedS] at ha; exact ha.1
  have hx := lock_get hl
  obtain ⟨o0, o1⟩ := inB_iff.1 hl
  have hb2 : ∀ tx : Int, ([.sl bl 0 s.locks.length, .int .i64 tx, dv, .sl bt 0 s.threads.length] : List AV).all AV.one = true := fun tx => box_one hone
  repeat' (first | (refine h_load1 ?_; refine b_load_p ?_) | (refine h_faddr ?_; refine a_faddr_p ?_) | (refine h_bin ?_; refine a_eql ?_) | (refine h_cond ?_; first | refine b_cond_t ?_ | refine b_cond_f ?_) | (refine h_idx ?_; refine b_idx_s ?_) | (refine h_row ?_; refine b_row_p ?_) | refine a_store_box (by repeat constructor) rfl rfl hb1 rfl ?_ | (refine h_store ?_; refine b_store_one ?_) | refine a_join ?_)
  exact hq _ _ (setLock s o fun x => { x with owner := -1 }) (s.threads) _ (Fz.sls (by repeat constructor) (lock_rows rfl) (by simp) (by simp [setLock])) (Fz.sls (by repeat constructor) rfl (by simp) (by simp [setThr])) (fun p hp => by simp only [List.mem_cons]; simp [hp]) (by simp only [applyS, Int.reduceEq, Int.reduceNeg, if_true, if_false, or_self, or_true, true_or, or_false, false_or, reduceIte, reduceCtorEq])
theorem app_10 (ha : allowedS w 10 o = true) (hq : Ends1 w s t o wake bl bt 10 R dv Q) : object_ApplyF_c8 (.ptr b7 0 0) Q (.int .i64 10) (.pptr [[.int .i64 t]] 0 0) (.ptr b12 0 0) (.int .i64 o) (.int .i64 wake) (.pptr [w.enc] 0 0) (.agg [.sl bl 0 s.locks.length, .int .i64 s.tx, dv, .sl bt 0 s.threads.length]) (apL s b7 b12 bl bt R) := by
  unfold object_ApplyF_c8
  simp only [SH.names, apL, List.map_cons, List.nodup_cons, List.mem_cons, not_or] at hnd
  obtain ⟨⟨n1, n2, n3, n4⟩, ⟨n5, n6, n7⟩, ⟨n8, n9⟩, n10, n11⟩ := hnd
  have hb1 : ([.sl bl 0 s.locks.length, .int .i64 s.tx, dv, .sl bt 0 s.threads.length] : List AV).all AV.one = true := box_one hone
  unfold apL
  have hy := thr_get ht
  obtain ⟨t0, t1⟩ := inB_iff.1 ht
  have hl : inB o s.locks.length = true := by rw [hf.locks]; simp [allowedS] at ha; exact ha.1
  have hx := lock_get hl
  obtain ⟨o0, o1⟩ := inB_iff.1 hl
  have hb2 : ∀ tx : Int, ([.sl bl 0 s.locks.length, .int .i64 tx, dv, .sl bt 0 s.threads.length] : List AV).all AV.one = true := fun tx => box_one hone
  repeat' (first | (refine h_load1 ?_; first | refine b_load_q ?_ | refine b_load_p ?_) | (refine h_faddr ?_; refine a_faddr_p ?_) | (refine h_bin ?_; refine a_eql ?_) | (refine h_cond ?_; first | refine b_cond_t ?_ | refine b_cond_f ?_) | (refine h_idx ?_; refine b_idx_s ?_) | (refine h_row ?_; refine b_row_p ?_) | refine a_store_box (by repeat constructor) rfl rfl hb1 rfl ?_ | (refine h_store ?_; refine b_store_one ?_) | refine a_join ?_)
  exact hq _ _ (setLock s o fun x => { x with owner := t }) (s.threads) _ (Fz.sls (by repeat constructor) (lock_rows rfl) (by simp) (by simp [setLock])) (Fz.sls (by repeat constructor) rfl (by simp) (by simp [setThr])) (fun p hp => by simp only [List.mem_cons]; simp [hp]) (by simp only [applyS, Int.reduceEq, Int.reduceNeg, if_true, if_false, or_self, or_true, true_or, or_false, false_or, reduceIte, reduceCtorEq])
theorem app_11 (ha : allowedS w 11 o = true) (hq : Ends1 w s t o wake bl bt 11 R dv Q) : object_ApplyF_c8 (.ptr b7 0 0) Q (.int .i64 11) (.pptr [[.int .i64 t]] 0 0) (.ptr b12 0 0) (.int .i64 o) (.int .i64 wake) (.pptr [w.enc] 0 0) (.agg [.sl bl 0 s.locks.length, .int .i64 s.tx, dv, .sl bt 0 s.threads.length]) (apL s b7 b12 bl bt R) := by
  unfold object_ApplyF_c8
  simp only [SH.names, apL, List.map_cons, List.nodup_cons, List.mem_cons, not_or] at hnd
  obtain ⟨⟨n1, n2, n3, n4⟩, ⟨n5, n6, n7⟩, ⟨n8, n9⟩, n10, n11⟩ := hnd
  have hb1 : ([.sl bl 0 s.locks.length, .int .i64 s.tx, dv, .sl bt 0 s.threads.length] : List AV).all AV.one = true := box_one hone
  unfold apL
  have hy := thr_get ht
  obtain ⟨t0, t1⟩ := inB_iff.1 ht
  have hl : inB o s.locks.length = true := by rw [hf.locks]; simp [allowedS] at ha; exact ha.1
  have hx := lock_get hl
  obtain ⟨o0, o1⟩ := inB_iff.1 hl
  have hb2 : ∀ tx : Int, ([.sl bl 0 s.locks.length, .int .i64 tx, dv, .sl bt 0 s.threads.length] : List AV).all AV.one = true := fun tx => box_one hone
  repeat' (first | (refine h_load1 ?_; refine b_load_p ?_) | (refine h_faddr ?_; refine a_faddr_p ?_) | (refine h_bin ?_; refine a_eql ?_) | (refine h_cond ?_; first | refine b_cond_t ?_ | refine b_cond_f ?_) | (refine h_idx ?_; refine b_idx_s ?_) | (refine h_row ?_; refine b_row_p ?_) | refine a_store_box (by repeat constructor) rfl rfl hb1 rfl ?_ | (refine h_store ?_; refine b_store_one ?_) | refine a_join ?_)
  exact hq _ _ (setLock s o fun x => { x with owner := -1 }) (s.threads) _ (Fz.sls (by repeat constructor) (lock_rows rfl) (by simp) (by simp [setLock])) (Fz.sls (by repeat constructor) rfl (by simp) (by simp [setThr])) (fun p hp => by simp only [List.mem_cons]; simp [hp]) (by simp only [applyS, Int.reduceEq, Int.reduceNeg, if_true, if_false, or_self, or_true, true_or, or_false, false_or, reduceIte, reduceCtorEq])
theorem app_12 (ha : allowedS w 12 o = true) (hq : Ends1 w s t o wake bl bt 12 R dv Q) : object_ApplyF_c8 (.ptr b7 0 0) Q (.int .i64 12) (.pptr [[.int .i64 t]] 0 0) (.ptr b12 0 0) (.int .i64 o) (.int .i64 wake) (.pptr [w.enc] 0 0) (.agg [.sl bl 0 s.locks.length, .int .i64 s.tx, dv, .sl bt 0 s.threads.length]) (apL s b7 b12 bl bt R) := by
  unfold object_ApplyF_c8
  simp only [SH.names, apL, List.map_cons, List.nodup_cons, List.mem_cons, not_or] at hnd
  obtain ⟨⟨n1, n2, n3, n4⟩, ⟨n5, n6, n7⟩, ⟨n8, n9⟩, n10, n11⟩ := hnd
  have hb1 : ([.sl bl 0 s.locks.length, .int .i64 s.tx, dv, .sl bt 0 s.threads.length] : List AV).all AV.one = true := box_one hone
  unfold apL
  have hy := thr_get ht
  obtain ⟨t0, t1⟩ := inB_iff.1 ht
  have hb2 : ∀ tx : Int, ([.sl bl 0 s.locks.length, .int .i64 tx, dv, .sl bt 0 s.threads.length] : List AV).all AV.one = true := fun tx => box_one hone
  repeat' (first | (refine h_load1 ?_; refine b_load_q ?_) | (refine h_faddr ?_; refine a_faddr_p ?_) | (refine h_bin ?_; refine a_eql ?_) | (refine h_cond ?_; first | refine b_cond_t ?_ | refine b_cond_f ?_) | (refine h_row ?_; refine b_row_p ?_) | refine a_store_box (by repeat constructor) rfl rfl hb1 rfl ?_ | (refine h_store ?_; refine b_store_one ?_) | refine a_join ?_)
  exact hq _ _ (s.locks) (s.threads) _ (Fz.sls (by repeat constructor) rfl (by simp) (by simp [setLock])) (Fz.sls (by repeat constructor) rfl (by simp) (by simp [setThr])) (fun p hp => by simp only [List.mem_cons]; simp [hp]) (by simp only [applyS, Int.reduceEq, Int.reduceNeg, if_true, if_false, or_self, or_true, true_or, or_false, false_or, reduceIte, reduceCtorEq])
theorem app_13 (ha : allowedS w 13 o = true) (hq : Ends1 w s t o wake bl bt 13 R dv Q) : object_ApplyF_c8 (.ptr b7 0 0) Q (.int .i64 13) (.pptr [[.int .i64 t]] 0 0) (.ptr b12 0 0) (.int .i64 o) (.int .i64 wake) (.pptr [w.enc] 0 0) (.agg [.sl bl 0 s.locks.length, .int .i64 s.tx, dv, .sl bt 0 s.threads.length]) (apL s b7 b12 bl bt R) := by
  unfold object_ApplyF_c8
  simp only [SH.names, apL, List.map_cons, List.nodup_cons, List.mem_cons, not_or] at hnd
  obtain ⟨⟨n1, n2, n3, n4⟩, ⟨n5, n6, n7⟩, ⟨n8, n9⟩, n10, n11⟩ := hnd
  have hb1 : ([.sl bl 0 s.locks.length, .int .i64 s.tx, dv, .sl bt 0 s.threads.length] : List AV).all AV.one = true := box_one hone
  unfold apL
  have hy := thr_get ht
  obtain ⟨t0, t1⟩ := inB_iff.1 ht
  have hb2 : ∀ tx : Int, ([.sl bl 0 s.locks.length, .int .i64 tx, dv, .sl bt 0 s.threads.length] : List AV).all AV.one = true := fun tx => box_one hone
  repeat' (first | (refine h_faddr ?_; refine a_faddr_p ?_) | (refine h_bin ?_; refine a_eql ?_) | (refine h_cond ?_; first | refine b_cond_t ?_ | refine b_cond_f ?_) | (refine h_row ?_; refine b_row_p ?_) | refine a_store_box (by repeat constructor) rfl rfl hb1 rfl ?_ | (refine h_store ?_; refine b_store_one ?_) | refine a_join ?_)
  exact hq _ _ (s.locks) (s.threads) _ (Fz.sls (by repeat constructor) rfl (by simp) (by simp [setLock])) (Fz.sls (by repeat constructor) rfl (by simp) (by simp [setThr])) (fun p hp => by simp only [List.mem_cons]; simp [hp]) (by simp only [applyS, Int.reduceEq, Int.reduceNeg, if_true, if_false, or_self, or_true, true_or, or_false, false_or, reduceIte, reduceCtorEq])
theorem app_14 (ha : allowedS w 14 o = true) (hq : Ends1 w s t o wake bl bt 14 R dv Q) : object_ApplyF_c8 (.ptr b7 0 0) Q (.int .i64 14) (.pptr [[.int .i64 t]] 0 0) (.ptr b12 0 0) (.int .i64 o) (.int .i64 wake) (.pptr [w.enc] 0 0) (.agg [.sl bl 0 s.locks.length, .int .i64 s.tx, dv, .sl bt 0 s.threads.length]) (apL s b7 b12 bl bt R) := by
  unfold object_ApplyF_c8
  simp only [SH.names, apL, List.map_cons, List.nodup_cons, List.mem_cons, not_or] at hnd
  obtain ⟨⟨n1, n2, n3, n4⟩, ⟨n5, n6, n7⟩, ⟨n8, n9⟩, n10, n11⟩ := hnd
  have hb1 : ([.sl bl 0 s.locks.length, .int .i64 s.tx, dv, .sl bt 0 s.threads.length] : List AV).all AV.one = true := box_one hone
  unfold apL
  have hy := thr_get ht
  obtain ⟨t0, t1⟩ := inB_iff.1 ht
  have hb2 : ∀ tx : Int, ([.sl bl 0 s.locks.length, .int .i64 tx, dv, .sl bt 0 s.threads.length] : List AV).all AV.one = true := fun tx => box_one hone
  repeat' (first | (refine h_load1 ?_; first | refine b_load_q ?_ | refine b_load_p ?_) | (refine h_faddr ?_; refine a_faddr_p ?_) | (refine h_bin ?_; refine a_eql ?_) | (refine h_cond ?_; first | refine b_cond_t ?_ | refine b_cond_f ?_) | (refine h_idx ?_; refine b_idx_s ?_) | (refine h_row ?_; refine b_row_p ?_) | refine a_store_box (by repeat constructor) rfl rfl hb1 rfl ?_ | (refine h_store ?_; refine b_store_one ?_) | refine a_join ?_)
  exact hq _ _ (s.locks) (setThr s t fun x => { x with atomic := true }) _ (Fz.sls (by repeat constructor) rfl (by simp) (by simp [setLock])) (Fz.sls (by repeat constructor) (thr_rows rfl) (by simp) (by simp [setThr])) (fun p hp => by simp only [List.mem_cons]; simp [hp]) (by simp only [applyS, Int.reduceEq, Int.reduceNeg, if_true, if_false, or_self, or_true, true_or, or_false, false_or, reduceIte, reduceCtorEq])
theorem app_15 (ha : allowedS w 15 o = true) (hq : Ends1 w s t o wake bl bt 15 R dv Q) : object_ApplyF_c8 (.ptr b7 0 0) Q (.int .i64 15) (.pptr [[.int .i64 t]] 0 0) (.ptr b12 0 0) (.int .i64 o) (.int .i64 wake) (.pptr [w.enc] 0 0) (.agg [.sl bl 0 s.locks.length, .int .i64 s.tx, dv, .sl bt 0 s.threads.length]) (apL s b7 b12 bl bt R) := by
  unfold object_ApplyF_c8
  simp only [SH.names, apL, List.map_cons, List.nodup_cons, List.mem_cons, not_or] at hnd
  obtain ⟨⟨n1, n2, n3, n4⟩, ⟨n5, n6, n7⟩, ⟨n8, n9⟩, n10, n11⟩ := hnd
  have hb1 : ([.sl bl 0 s.locks.length, .int .i64 s.tx, dv, .sl bt 0 s.threads.length] : List AV).all AV.one = true := box_one hone
  unfold apL
  have hy := thr_get ht
  obtain ⟨t0, t1⟩ := inB_iff.1 ht
  have hb2 : ∀ tx : Int, ([.sl bl 0 s.locks.length, .int .i64 tx, dv, .sl bt 0 s.threads.length] : List AV).all AV.one = true := fun tx => box_one hone
  repeat' (first | (refine h_load1 ?_; first | refine b_load_q ?_ | refine b_load_p ?_) | (refine h_faddr ?_; refine a_faddr_p ?_) | (refine h_bin ?_; refine a_eql ?_) | (refine h_cond ?_; first | refine b_cond_t ?_ | refine b_cond_f ?_) | (refine h_idx ?_; refine b_idx_s ?_) | (refine h_row ?_; refine b_row_p ?_) | refine a_store_box (by repeat constructor) rfl rfl hb1 rfl ?_ | (refine h_store ?_; refine b_store_one ?_) | refine a_join ?_)
  exact hq _ _ (s.locks) (setThr s t fun x => { x with atomic := false }) _ (Fz.sls (by repeat constructor) rfl (by simp) (by simp [setLock])) (Fz.sls (by repeat constructor) (thr_rows rfl) (by simp) (by simp [setThr])) (fun p hp => by simp only [List.mem_cons]; simp [hp]) (by simp only [applyS, Int.reduceEq, Int.reduceNeg, if_true, if_false, or_self, or_true, true_or, or_false, false_or, reduceIte, reduceCtorEq])
theorem app_16 (ha : allowedS w 16 o = true) (hq : Ends1 w s t o wake bl bt 16 R dv Q) : object_ApplyF_c8 (.ptr b7 0 0) Q (.int .i64 16) (.pptr [[.int .i64 t]] 0 0) (.ptr b12 0 0) (.int .i64 o) (.int .i64 wake) (.pptr [w.enc] 0 0) (.agg [.sl bl 0 s.locks.length, .int .i64 s.tx, dv, .sl bt 0 s.threads.length]) (apL s b7 b12 bl bt R) := by
  unfold object_ApplyF_c8
  simp only [SH.names, apL, List.map_cons, List.nodup_cons, List.mem_cons, not_or] at hnd
  obtain ⟨⟨n1, n2, n3, n4⟩, ⟨n5, n6, n7⟩, ⟨n8, n9⟩, n10, n11⟩ := hnd
  have hb1 : ([.sl bl 0 s.locks.length, .int .i64 s.tx, dv, .sl bt 0 s.threads.length] : List AV).all AV.one = true := box_one hone
  unfold apL
  have hy := thr_get ht
  obtain ⟨t0, t1⟩ := inB_iff.1 ht
  have hc : inB o w.conds.length = true := by simpa [allowedS] using ha
  have hl := mx_in hf hc
  have hx := lock_get hl
  obtain ⟨o0, o1⟩ := inB_iff.1 hl
  unfold mxAt at hl hx o0 o1
  have hy2 : ((s.threads.map ThrD.enc).set (0 + t.toNat) ((thrAt s t).enc.set 0 (.int .i64 3)))[0 + t.toNat]? = some ((thrAt s t).enc.set 0 (.int .i64 3)) := set_at hy
  have hb2 : ∀ tx : Int, ([.sl bl 0 s.locks.length, .int .i64 tx, dv, .sl bt 0 s.threads.length] : List AV).all AV.one = true := fun tx => box_one hone
  repeat' (first | (refine h_load1 ?_; first | refine b_load_q ?_ | refine b_load_i ?_ | refine b_load_p ?_) | (refine h_faddr ?_; first | refine a_faddr_q ?_ | refine a_faddr_p ?_) | (refine h_bin ?_; refine a_eql ?_) | (refine h_cond ?_; first | refine b_cond_t ?_ | refine b_cond_f ?_) | (refine h_idx ?_; first | refine b_idx_i ?_ | refine b_idx_s ?_) | (refine h_row ?_; refine b_row_p ?_) | (refine h_calm ?_; refine b_calm ?_) | (refine h_note ?_; refine a_note ?_) | refine a_store_box (by repeat constructor) rfl rfl hb1 rfl ?_ | (refine h_store ?_; refine b_store_one ?_) | refine a_join ?_ | refine a_tt ?_)
  exact hq _ _ (setLock s (mxAt w o) fun x => { x with owner := -1 }) (setThr s t fun x => { x with status := 3, cond := o }) _ (Fz.sls (by repeat constructor) (lock_rows rfl) (by simp) (by simp [setLock])) (Fz.sls (by repeat constructor) (by rw [List.set_set]; exact thr_rows rfl) (by simp) (by simp [setThr])) (fun p hp => by simp only [List.mem_cons]; simp [hp]) (by simp only [applyS, Int.reduceEq, Int.reduceNeg, if_true, if_false, or_self, or_true, true_or, or_false, false_or, reduceIte, reduceCtorEq])
theorem app_17 (ha : allowedS w 17 o = true) (hq : Ends1 w s t o wake bl bt 17 R dv Q) : object_ApplyF_c8 (.ptr b7 0 0) Q (.int .i64 17) (.pptr [[.int .i64 t]] 0 0) (.ptr b12 0 0) (.int .i64 o) (.int .i64 wake) (.pptr [w.enc] 0 0) (.agg [.sl bl 0 s.locks.length, .int .i64 s.tx, dv, .sl bt 0 s.threads.length]) (apL s b7 b12 bl bt R) := by
  unfold object_ApplyF_c8
  simp only [SH.names, apL, List.map_cons, List.nodup_cons, List.mem_cons, not_or] at hnd
  obtain ⟨⟨n1, n2, n3, n4⟩, ⟨n5, n6, n7⟩, ⟨n8, n9⟩, n10, n11⟩ := hnd
  have hb1 : ([.sl bl 0 s.locks.length, .int .i64 s.tx, dv, .sl bt 0 s.threads.length] : List AV).all AV.one = true := box_one hone
  unfold apL
  have hy := thr_get ht
  obtain ⟨t0, t1⟩ := inB_iff.1 ht
  have hc : inB o w.conds.length = true := by simpa [allowedS] using ha
  have hl := mx_in hf hc
  have hx := lock_get hl
  obtain ⟨o0, o1⟩ := inB_iff.1 hl
  unfold mxAt at hl hx o0 o1
  have hy2 : ((s.threads.map ThrD.enc).set (0 + t.toNat) ((thrAt s t).enc.set 0 (.int .i64 2)))[0 + t.toNat]? = some ((thrAt s t).enc.set 0 (.int .i64 2)) := set_at hy
  have hb2 : ∀ tx : Int, ([.sl bl 0 s.locks.length, .int .i64 tx, dv, .sl bt 0 s.threads.length] : List AV).all AV.one = true := fun tx => box_one hone
  repeat' (first | (refine h_load1 ?_; first | refine b_load_q ?_ | refine b_load_i ?_ | refine b_load_p ?_) | (refine h_faddr ?_; first | refine a_faddr_q ?_ | refine a_faddr_p ?_) | (refine h_bin ?_; refine a_eql ?_) | (refine h_cond ?_; first | refine b_cond_t ?_ | refine b_cond_f ?_) | (refine h_idx ?_; first | refine b_idx_i ?_ | refine b_idx_s ?_) | (refine h_row ?_; refine b_row_p ?_) | (refine h_calm ?_; refine b_calm ?_) | (refine h_note ?_; refine a_note ?_) | refine a_store_box (by repeat constructor) rfl rfl hb1 rfl ?_ | (refine h_store ?_; refine b_store_one ?_) | refine a_join ?_ | refine a_tt ?_)
  exact hq _ _ (setLock s (mxAt w o) fun x => { x with owner := t }) (setThr s t fun x => { x with status := 2, cond := 0 }) _ (Fz.sls (by repeat constructor) (lock_rows rfl) (by simp) (by simp [setLock])) (Fz.sls (by repeat constructor) (by rw [List.set_set]; exact thr_rows rfl) (by simp) (by simp [setThr])) (fun p hp => by simp only [List.mem_cons]; simp [hp]) (by simp only [applyS, Int.reduceEq, Int.reduceNeg, if_true, if_false, or_self, or_true, true_or, or_false, false_or, reduceIte, reduceCtorEq])
theorem app_20 (ha : allowedS w 20 o = true) (hq : Ends1 w s t o wake bl bt 20 R dv Q) : object_ApplyF_c8 (.ptr b7 0 0) Q (.int .i64 20) (.pptr [[.int .i64 t]] 0 0) (.ptr b12 0 0) (.int .i64 o) (.int .i64 wake) (.pptr [w.enc] 0 0) (.agg [.sl bl 0 s.locks.length, .int .i64 s.tx, dv, .sl bt 0 s.threads.length]) (apL s b7 b12 bl bt R) := by
  unfold object_ApplyF_c8
  simp only [SH.names, apL, List.map_cons, List.nodup_cons, List.mem_cons, not_or] at hnd
  obtain ⟨⟨n1, n2, n3, n4⟩, ⟨n5, n6, n7⟩, ⟨n8, n9⟩, n10, n11⟩ := hnd
  have hb1 : ([.sl bl 0 s.locks.length, .int .i64 s.tx, dv, .sl bt 0 s.threads.length] : List AV).all AV.one = true := box_one hone
  unfold apL
  have hy := thr_get ht
  obtain ⟨t0, t1⟩ := inB_iff.1 ht
  have hl : inB o s.threads.length = true := by rw [hf.threads]; simpa [allowedS] using ha
  have hx := thr_get hl
  obtain ⟨o0, o1⟩ := inB_iff.1 hl
  have hb2 : ∀ tx : Int, ([.sl bl 0 s.locks.length, .int .i64 tx, dv, .sl bt 0 s.threads.length] : List AV).all AV.one = true := fun tx => box_one hone
  repeat' (first | (refine h_load1 ?_; refine b_load_p ?_) | (refine h_faddr ?_; refine a_faddr_p ?_) | (refine h_bin ?_; refine a_eql ?_) | (refine h_cond ?_; first | refine b_cond_t ?_ | refine b_cond_f ?_) | (refine h_idx ?_; refine b_idx_s ?_) | (refine h_row ?_; refine b_row_p ?_) | refine a_store_box (by repeat constructor) rfl rfl hb1 rfl ?_ | (refine h_store ?_; refine b_store_one ?_) | refine a_join ?_)
  exact hq _ _ (s.locks) (setThr s o fun x => { x with status := 1 }) _ (Fz.sls (by repeat constructor) rfl (by simp) (by simp [setLock])) (Fz.sls (by repeat constructor) (thr_rows rfl) (by simp) (by simp [setThr])) (fun p hp => by simp only [List.mem_cons]; simp [hp]) (by simp only [applyS, Int.reduceEq, Int.reduceNeg, if_true, if_false, or_self, or_true, true_or, or_false, false_or, reduceIte, reduceCtorEq])
theorem app_21 (ha : allowedS w 21 o = true) (hq : Ends1 w s t o wake bl bt 21 R dv Q) : object_ApplyF_c8 (.ptr b7 0 0) Q (.int .i64 21) (.pptr [[.int .i64 t]] 0 0) (.ptr b12 0 0) (.int .i64 o) (.int .i64 wake) (.pptr [w.enc] 0 0) (.agg [.sl bl 0 s.locks.length, .int .i64 s.tx, dv, .sl bt 0 s.threads.length]) (apL s b7 b12 bl bt R) := by
  unfold object_ApplyF_c8
  simp only [SH.names, apL, List.map_cons, List.nodup_cons, List.mem_cons, not_or] at hnd
  obtain ⟨⟨n1, n2, n3, n4⟩, ⟨n5, n6, n7⟩, ⟨n8, n9⟩, n10, n11⟩ := hnd
  have hb1 : ([.sl bl 0 s.locks.length, .int .i64 s.tx, dv, .sl bt 0 s.threads.length] : List AV).all AV.one = true := box_one hone
  unfold apL
  have hy := thr_get ht
  obtain ⟨t0, t1⟩ := inB_iff.1 ht
  have hb2 : ∀ tx : Int, ([.sl bl 0 s.locks.length, .int .i64 tx, dv, .sl bt 0 s.threads.length] : List AV).all AV.one = true := fun tx => box_one hone
  repeat' (first | (refine h_bin ?_; refine a_eql ?_) | (refine h_cond ?_; refine b_cond_f ?_) | (refine h_row ?_; refine b_row_p ?_) | refine a_store_box (by repeat constructor) rfl rfl hb1 rfl ?_ | refine a_join ?_)
  exact hq _ _ (s.locks) (s.threads) _ (Fz.sls (by repeat constructor) rfl (by simp) (by simp [setLock])) (Fz.sls (by repeat constructor) rfl (by simp) (by simp [setThr])) (fun p hp => by simp only [List.mem_cons]; simp [hp]) (by simp only [applyS, Int.reduceEq, Int.reduceNeg, if_true, if_false, or_self, or_true, true_or, or_false, false_or, reduceIte, reduceCtorEq])
theorem app_23 (ha : allowedS w 23 o = true) (hq : Ends1 w s t o wake bl bt 23 R dv Q) : object_ApplyF_c8 (.ptr b7 0 0) Q (.int .i64 23) (.pptr [[.int .i64 t]] 0 0) (.ptr b12 0 0) (.int .i64 o) (.int .i64 wake) (.pptr [w.enc] 0 0) (.agg [.sl bl 0 s.locks.length, .int .i64 s.tx, dv, .sl bt 0 s.threads.length]) (apL s b7 b12 bl bt R) := by
  unfold object_ApplyF_c8
  simp only [SH.names, apL, List.map_cons, List.nodup_cons, List.mem_cons, not_or] at hnd
  obtain ⟨⟨n1, n2, n3, n4⟩, ⟨n5, n6, n7⟩, ⟨n8, n9⟩, n10, n11⟩ := hnd
  have hb1 : ([.sl bl 0 s.locks.length, .int .i64 s.tx, dv, .sl bt 0 s.threads.length] : List AV).all AV.one = true := box_one hone
  unfold apL
  have hy := thr_get ht
  obtain ⟨t0, t1⟩ := inB_iff.1 ht
  have hb2 : ∀ tx : Int, ([.sl bl 0 s.locks.length, .int .i64 tx, dv, .sl bt 0 s.threads.length] : List AV).all AV.one = true := fun tx => box_one hone
  repeat' (first | (refine h_bin ?_; refine a_eql ?_) | (refine h_cond ?_; refine b_cond_f ?_) | (refine h_row ?_; refine b_row_p ?_) | refine a_store_box (by repeat constructor) rfl rfl hb1 rfl ?_ | refine a_join ?_)
  exact hq _ _ (s.locks) (s.threads) _ (Fz.sls (by repeat constructor) rfl (by simp) (by simp [setLock])) (Fz.sls (by repeat constructor) rfl (by simp) (by simp [setThr])) (fun p hp => by simp only [List.mem_cons]; simp [hp]) (by simp only [applyS, Int.reduceEq, Int.reduceNeg, if_true, if_false, or_self, or_true, true_or, or_false, false_or, reduceIte, reduceCtorEq])
theorem app_18 (hT : s.threads.length < 2 ^ 40) (hq : Ends1 w s t o wake bl bt 18 R dv Q) : object_ApplyF_c8 (.ptr b7 0 0) Q (.int .i64 18) (.pptr [[.int .i64 t]] 0 0) (.ptr b12 0 0) (.int .i64 o) (.int .i64 wake) (.pptr [w.enc] 0 0) (.agg [.sl bl 0 s.locks.length, .int .i64 s.tx, dv, .sl bt 0 s.threads.length]) (apL s b7 b12 bl bt R) := by
  unfold object_ApplyF_c8
  simp only [SH.names, apL, List.map_cons, List.nodup_cons, List.mem_cons, not_or] at hnd
  obtain ⟨⟨n1, n2, n3, n4⟩, ⟨n5, n6, n7⟩, ⟨n8, n9⟩, n10, n11⟩ := hnd
  have hb2 : ∀ tx : Int, ([.sl bl 0 s.locks.length, .int .i64 tx, dv, .sl bt 0 s.threads.length] : List AV).all AV.one = true := fun tx => box_one hone
  unfold apL
  repeat' (first | (refine h_bin ?_; refine a_eql ?_) | (refine h_cond ?_; first | refine b_cond_t ?_ | refine b_cond_f ?_) | (refine h_row ?_; refine b_row_p ?_) | refine a_mark ?_ | refine a_store_box (by repeat constructor) rfl rfl (hb2 _) rfl ?_ | ((with_reducible refine h_fn 50 ?_); (refine m_callD (notify_ok _ _ _ bt s.threads o wake hT (hb2 _)) (by repeat constructor) ?_; rintro _ _ ⟨rfl, rfl⟩)) | refine a_join ?_)
  exact hq _ _ s.locks (wokenS s.threads o wake) _ (Fz.sls (by repeat constructor) rfl (by simp) rfl) (Fz.sls (by repeat constructor) rfl (by simp) (woken_len _ _ _).symm) (fun p hp => by simp only [List.mem_cons, List.mem_append]; simp [hp]) (by simp only [applyS, Int.reduceEq, Int.reduceNeg, if_true, if_false, or_self, or_true, true_or, or_false, false_or, reduceIte, reduceCtorEq])
theorem app_19 (hT : s.threads.length < 2 ^ 40) (hq : Ends1 w s t o wake bl bt 19 R dv Q) : object_ApplyF_c8 (.ptr b7 0 0) Q (.int .i64 19) (.pptr [[.int .i64 t]] 0 0) (.ptr b12 0 0) (.int .i64 o) (.int .i64 wake) (.pptr [w.enc] 0 0) (.agg [.sl bl 0 s.locks.length, .int .i64 s.tx, dv, .sl bt 0 s.threads.length]) (apL s b7 b12 bl bt R) := by
  unfold object_ApplyF_c8
  simp only [SH.names, apL, List.map_cons, List.nodup_cons, List.mem_cons, not_or] at hnd
  obtain ⟨⟨n1, n2, n3, n4⟩, ⟨n5, n6, n7⟩, ⟨n8, n9⟩, n10, n11⟩ := hnd
  have hb2 : ∀ tx : Int, ([.sl bl 0 s.locks.length, .int .i64 tx, dv, .sl bt 0 s.threads.length] : List AV).all AV.one = true := fun tx => box_one hone
  unfold apL
  repeat' (first | (refine h_bin ?_; refine a_eql ?_) | (refine h_cond ?_; first | refine b_cond_t ?_ | refine b_cond_f ?_) | (refine h_row ?_; refine b_row_p ?_) | refine a_mark ?_ | refine a_store_box (by repeat constructor) rfl rfl (hb2 _) rfl ?_ | ((with_reducible refine h_fn 51 ?_); (refine m_callD (notifyAll_ok _ _ _ bt s.threads o hT (hb2 _)) (by repeat constructor) ?_; rintro _ _ ⟨rfl, rfl⟩)) | refine a_join ?_)
  exact hq _ _ s.locks (wakeS s o) _ (Fz.sls (by repeat constructor) rfl (by simp) rfl) (Fz.sls (by repeat constructor) rfl (by simp) (wakeAll_len _ _ _).symm) (fun p hp => by simp only [List.mem_cons, List.mem_append]; simp [hp]) (by simp only [applyS, Int.reduceEq, Int.reduceNeg, if_true, if_false, or_self, or_true, true_or, or_false, false_or, reduceIte, reduceCtorEq])
/-- what an end must show where the futures change -/
def Ends2 (bd : Nat) (Q : AV → SH → Prop) : Prop := ∀ (L : SH), Fz L (.sl bl 0 s.locks.length) (.lst (s.locks.map LockD.enc)) → Fz L (.sl bt 0 s.threads.length) (.lst (s.threads.map ThrD.enc)) → Fz L (.sl bd 0 s.done.length) (.lst ((s.done.set o.toNat true).map boolE)) →
  Q (.tup [.agg [.sl bl 0 s.locks.length, .int .i64 s.tx, .sl bd 0 s.done.length, .sl bt 0 s.threads.length], .int .i64 0, .bool true]) L
omit hone hnd in
theorem app_22 (bd : Nat) (hnd : (apL s b7 b12 bl bt [(bd, ⟨1, s.done.map boolE⟩)]).names.Nodup) (ha : allowedS w 22 o = true) (hq : Ends2 s o bl bt bd Q) : object_ApplyF_c8 (.ptr b7 0 0) Q (.int .i64 22) (.pptr [[.int .i64 t]] 0 0) (.ptr b12 0 0) (.int .i64 o) (.int .i64 wake) (.pptr [w.enc] 0 0) (.agg [.sl bl 0 s.locks.length, .int .i64 s.tx, .sl bd 0 s.done.length, .sl bt 0 s.threads.length]) (apL s b7 b12 bl bt [(bd, ⟨1, s.done.map boolE⟩)]) := by
  unfold object_ApplyF_c8 apL
  have hl : inB o s.done.length = true := by rw [hf.done]; simpa [allowedS] using ha
  obtain ⟨o0, o1⟩ := inB_iff.1 hl
  have hx : (s.done.map boolE)[0 + o.toNat]? = some (boolE (s.done.getD o.toNat default)) := by rw [Nat.zero_add]; exact at_inB hl
  repeat' (first | (refine h_load1 ?_; refine b_load_p ?_) | (refine h_faddr ?_; refine a_faddr_p ?_) | (refine h_bin ?_; refine a_eql ?_) | (refine h_cond ?_; first | refine b_cond_t ?_ | refine b_cond_f ?_) | (refine h_idx ?_; refine b_idx_s ?_) | (refine h_row ?_; refine b_row_p ?_) | (refine h_store ?_; first | refine b_store_box ?_ | refine b_store_one ?_) | refine a_join ?_)
  refine hq _ (Fz.sls (by repeat constructor) rfl (by simp) rfl) (Fz.sls (by repeat constructor) rfl (by simp) rfl) (Fz.sls (by repeat constructor) ?_ (by simp) (by simp))
  rw [List.map_set, Nat.zero_add]; rfl
end
end Go.Proofs.Ytadjimfkfmojkaa.Am

end
section
namespace Go.Proofs.Ytadjimfkfmojkaa.Am
set_option maxRecDepth 100000
set_option linter.unusedSimpArgs false
set_option linter.unusedVariables false
set_option linter.unusedSectionVars false
/-- locks, row by row -/
theorem fz_locks {K : SH} {bl : Nat} {rows : List (List AV)} {ls : List LockD} {n : Nat} (hm : (bl, ⟨2, rows⟩) ∈ K) (hn : n = ls.length) (hl : rows.length = ls.length)
    (h : ∀ (j : Nat) (r : List AV) (x : LockD), rows[j]? = some r → ls[j]? = some x → ∃ a, r = [.int .i64 x.owner, a] ∧ Fz K a (.lst (x.readers.map intE))) : Fz K (.sl bl 0 n) (.lst (ls.map LockD.enc)) := by
  subst hn
  rcases Nat.eq_zero_or_pos ls.length with h0 | h0
  · have : ls = [] := List.length_eq_zero_iff.1 h0
    subst this
    exact .sl0 bl 0
  · have get : ∀ (j : Nat) (r r2 : List AV), rows[0 + j]? = some r → (ls.map LockD.enc)[j]? = some r2 → ∃ x : LockD, ls[j]? = some x ∧ r2 = x.enc ∧ ∃ a, r = [.int .i64 x.owner, a] ∧ Fz K a (.lst (x.readers.map intE)) := fun j r r2 h1 h2 => by
      rw [Nat.zero_add] at h1
      rw [List.getElem?_map] at h2
      cases hj : ls[j]? with
      | none => rw [hj] at h2; cases h2
      | some x => rw [hj] at h2; cases h2; exact ⟨x, rfl, rfl, h j r x h1 hj⟩
    refine .sl bl 0 _ ⟨2, rows⟩ _ hm (by simp) h0 (by simp) (by simp; omega) (fun j r r2 h1 h2 => ?_) (fun j r r2 q a a2 h1 h2 h3 h4 => ?_)
    · obtain ⟨x, _, rfl, a, rfl, _⟩ := get j r r2 h1 h2; rfl
    · obtain ⟨x, _, rfl, a', rfl, hz⟩ := get j r r2 h1 h2
      match q with
      | 0 => cases h3; cases h4; exact .refl _
      | 1 => cases h3; cases h4; exact hz
      | q + 2 => simp at h3
theorem enc_row (x : LockD) {K : SH} : ∃ a, x.enc = [.int .i64 x.owner, a] ∧ Fz K a (.lst (x.readers.map intE)) := ⟨_, rfl, .refl _⟩
/-- the rows behind a change of the readers of lock q -/
theorem rows_rd {K : SH} {s : SyncD} {o : Int} {ro : Option Nat} {f : LockD → LockD} {a : AV} (hl : inB o s.locks.length = true) (hf : ∀ x, (f x).owner = x.owner) (ha : Fz K a (.lst ((f (lockAt s o)).readers.map intE))) :
    ∀ (j : Nat) (r : List AV) (x : LockD), ((lockRows o.toNat ro s.locks).set (0 + o.toNat) [.int .i64 (lockAt s o).owner, a])[j]? = some r → (setLock s o f)[j]? = some x → ∃ a, r = [.int .i64 x.owner, a] ∧ Fz K a (.lst (x.readers.map intE)) := by
  intro j r x h1 h2
  obtain ⟨o0, o1⟩ := inB_iff.1 hl
  have hlt : o.toNat < s.locks.length := by omega
  unfold setLock at h2
  rw [Nat.zero_add] at h1
  by_cases hj : o.toNat = j
  · subst hj
    rw [List.getElem?_set_self (by rw [lockRows_len]; exact hlt)] at h1
    rw [List.getElem?_set_self hlt] at h2
    cases h1; cases h2
    exact ⟨a, by rw [hf], ha⟩
  · rw [List.getElem?_set_ne hj] at h1 h2
    have hjl : j < s.locks.length := (List.getElem?_eq_some_iff.1 h2).1
    rw [lockRows_at _ _ _ _ hjl] at h1
    rw [List.getElem?_eq_getElem hjl] at h2
    cases h1; cases h2
    unfold lockR
    rw [if_neg (fun e => hj e.symm)]
    exact enc_row _
theorem rowR_get {s : SyncD} {o : Int} {ro : Option Nat} (hl : inB o s.locks.length = true) : (lockRows o.toNat ro s.locks)[0 + o.toNat]? = some [.int .i64 (lockAt s o).owner, slotV ro (lockAt s o).readers.length] := by
  obtain ⟨o0, o1⟩ := inB_iff.1 hl
  have hlt : o.toNat < s.locks.length := by omega
  rw [Nat.zero_add, lockRows_at _ _ _ _ hlt]
  unfold lockR
  rw [if_pos rfl]
  simp [lockAt, hlt]
theorem take_map {α β : Type} {f : α → β} {l m : List α} {n : Nat} (h : l.take n = m) : ((l.map f).drop 0).take n = m.map f := by
  rw [List.drop_zero, ← List.map_take, h]
section
variable (w : WorldD) (s : SyncD) (t o wake : Int) (b7 b12 bl bt : Nat)
/-- the heap behind clone, where the readers of lock o lie in a block of their own -/
def apQ (ro : Option Nat) (R : SH) : SH := (bl, ⟨2, lockRows o.toNat ro s.locks⟩) :: (bt, ⟨3, s.threads.map ThrD.enc⟩) :: (b12, ⟨4, [[.nils, .int .i64 0, .nils, .nils]]⟩) :: (b7, ⟨4, [s.enc]⟩) :: (slotB ro 1 ((lockAt s o).readers.map intE) ++ R)
variable (R : SH) (dv : AV) (hone : dv.one = true) (Q : AV → SH → Prop) (hl : inB o s.locks.length = true) (hrd : (lockAt s o).readers.length < 2 ^ 40)
include hone hl hrd
theorem app_9 (br : Nat) (hnd : (apQ s o b7 b12 bl bt (some br) R).names.Nodup) (hq : Ends1 w s t o wake bl bt 9 R dv Q) : object_ApplyF_c8 (.ptr b7 0 0) Q (.int .i64 9) (.pptr [[.int .i64 t]] 0 0) (.ptr b12 0 0) (.int .i64 o) (.int .i64 wake) (.pptr [w.enc] 0 0) (.agg [.sl bl 0 s.locks.length, .int .i64 s.tx, dv, .sl bt 0 s.threads.length]) (apQ s o b7 b12 bl bt (some br) R) := by
  unfold object_ApplyF_c8
  simp only [SH.names, apQ, slotB, List.map_cons, List.nodup_cons, List.mem_cons, not_or, List.cons_append, List.nil_append] at hnd
  obtain ⟨⟨n1, n2, n3, n4, n12⟩, ⟨n5, n6, n7, n13⟩, ⟨n8, n9, n14⟩, ⟨n15, n16⟩, n10, n11⟩ := hnd
  have hb2 : ∀ tx : Int, ([.sl bl 0 s.locks.length, .int .i64 tx, dv, .sl bt 0 s.threads.length] : List AV).all AV.one = true := fun tx => box_one hone
  obtain ⟨o0, o1⟩ := inB_iff.1 hl
  have hx := rowR_get (ro := some br) hl
  have hdel := deleteFunc_ok 49 [.pptr [[.int .i64 t]] 0 0] (fun x => decide (x = t)) (apply1_ok t 0 []) br (lockAt s o).readers (by omega)
  unfold apQ
  simp only [slotB, List.cons_append, List.nil_append]
  repeat' (first | (refine h_load1 ?_; refine b_load_p ?_) | (refine h_faddr ?_; refine a_faddr_p ?_) | (refine h_bin ?_; refine a_eql ?_) | (refine h_cond ?_; first | refine b_cond_t ?_ | refine b_cond_f ?_) | (refine h_idx ?_; refine b_idx_s ?_) | (refine h_row ?_; refine b_row_p ?_) | (refine h_calm ?_; refine b_calm ?_) | (refine h_note ?_; refine a_note ?_) | refine a_dmark ?_ | refine a_store_box (by repeat constructor) rfl rfl (hb2 _) rfl ?_ | ((with_reducible refine h_dfn 48 ?_); (refine m_dcallD hdel (by repeat constructor) (by (simp only [W.free, slotOf, ↓reduceIte, Nat.reduceEqDiff, blocksOf, slOf, List.forall_mem_nil, List.forall_mem_cons, List.not_mem_nil, not_false_eq_true, implies_true, and_true, true_and, and_self, Bool.false_eq_true, reduceCtorEq, forall_const, false_implies, List.mem_singleton, forall_eq, List.append_nil, List.nil_append, List.mem_cons, or_false, false_or, forall_eq_or_imp, not_or]) <;> (repeat' constructor) <;> first | assumption | (exact Ne.symm (by assumption)) | (intro e_; subst e_; simp [SH.names] at *; done)) ?_; rintro _ _ ⟨R', rfl, rfl, hR1, hR2⟩)) | (refine h_store ?_; refine b_store_one ?_) | refine a_join ?_ | refine a_tt ?_)
  refine hq _ _ (setLock s o fun x => { x with readers := x.readers.filter fun y => !decide (y = t) }) s.threads _ (fz_locks (by repeat constructor) (by simp [setLock]) (by simp [setLock, lockRows_len]) (rows_rd hl (fun _ => rfl) ?_)) (Fz.sls (by repeat constructor) rfl (by simp) rfl) (fun p hp => by simp only [List.mem_cons, List.mem_append]; simp [hp]) (by simp only [applyS, Int.reduceEq, if_true, if_false, or_self, reduceIte])
  rw [← take_map hR1]
  exact Fz.rows (x := ⟨1, R'.map intE⟩) (by repeat constructor) (by simp) (by simp [hR2]; exact List.length_filter_le _ _)
theorem app_8 (ro : Option Nat) (hro : ro = none → (lockAt s o).readers = []) (hnd : (apQ s o b7 b12 bl bt ro R).names.Nodup) (hq : Ends1 w s t o wake bl bt 8 R dv Q) : object_ApplyF_c8 (.ptr b7 0 0) Q (.int .i64 8) (.pptr [[.int .i64 t]] 0 0) (.ptr b12 0 0) (.int .i64 o) (.int .i64 wake) (.pptr [w.enc] 0 0) (.agg [.sl bl 0 s.locks.length, .int .i64 s.tx, dv, .sl bt 0 s.threads.length]) (apQ s o b7 b12 bl bt ro R) := by
  unfold object_ApplyF_c8
  simp only [SH.names, apQ, List.map_cons, List.nodup_cons, List.mem_cons, not_or] at hnd
  obtain ⟨⟨n1, n2, n3, n4⟩, ⟨n5, n6, n7⟩, ⟨n8, n9⟩, n10, n11⟩ := hnd
  have hb2 : ∀ tx : Int, ([.sl bl 0 s.locks.length, .int .i64 tx, dv, .sl bt 0 s.threads.length] : List AV).all AV.one = true := fun tx => box_one hone
  obtain ⟨o0, o1⟩ := inB_iff.1 hl
  have hx := rowR_get (ro := ro) hl
  have hsort : ∀ nb, CallA Try.prog 40 [.sl nb 0 ((lockAt s o).readers.length + 1)] [(nb, ⟨1, (lockAt s o).readers.map intE ++ [[.int .i64 t]]⟩)] fun v L => v = .tup [] ∧ L = [(nb, ⟨1, (srt ((lockAt s o).readers ++ [t])).map intE⟩)] := fun nb => by
    have := sort_ok nb ((lockAt s o).readers ++ [t]) (by simp; omega)
    rw [List.length_append, List.map_append] at this
    exact this
  have hcomp : ∀ nb, CallA Try.prog 41 [.sl nb 0 ((lockAt s o).readers.length + 1)] [(nb, ⟨1, (srt ((lockAt s o).readers ++ [t])).map intE⟩)] fun v L => ∃ R' : List Int, v = .sl nb 0 (addRd (lockAt s o).readers t).length ∧ L = [(nb, ⟨1, R'.map intE⟩)] ∧ R'.take (addRd (lockAt s o).readers t).length = addRd (lockAt s o).readers t ∧ (addRd (lockAt s o).readers t).length ≤ R'.length := fun nb => by
    have := compact_ok nb (srt ((lockAt s o).readers ++ [t])) (by rw [srt_len]; simp; omega)
    rw [srt_len, List.length_append] at this
    refine this.mono fun v L ⟨h1, h2⟩ => ⟨_, h1, h2, ?_, ?_⟩
    · exact List.take_left' rfl
    · simp [addRd]
  unfold apQ
  repeat' (first | (refine h_load1 ?_; first | refine b_load_q ?_ | refine b_load_p ?_) | (refine h_faddr ?_; refine a_faddr_p ?_) | (refine h_bin ?_; refine a_eql ?_) | (refine h_cond ?_; first | refine b_cond_t ?_ | refine b_cond_f ?_) | (refine h_idx ?_; refine b_idx_s ?_) | (refine h_row ?_; refine b_row_p ?_) | (refine h_calm ?_; refine b_calm ?_) | (refine h_note ?_; refine a_note ?_) | refine a_mark ?_ | refine a_dmark ?_ | refine a_store_box (by repeat constructor) rfl rfl (hb2 _) rfl ?_ | (refine a_app_slotN [_, _, _, _] (by simp) (fun e => by rw [hro e]; rfl) rfl (Nat.succ_pos 0) (by simp; omega) (by simp; omega) rfl ?_; intro nb_ hnb_; simp only [List.mem_cons, List.not_mem_nil, or_false, forall_eq_or_imp, forall_eq] at hnb_; obtain ⟨q1, q2, q3, q4⟩ := hnb_) | ((with_reducible refine h_fn 40 ?_); (refine m_callD (hsort _) (by repeat constructor) ?_; rintro _ _ ⟨rfl, rfl⟩)) | ((with_reducible refine h_dfn 41 ?_); (refine m_dcallD (hcomp _) (by repeat constructor) (by (simp only [W.free, slotOf, ↓reduceIte, Nat.reduceEqDiff, blocksOf, slOf, List.forall_mem_nil, List.forall_mem_cons, List.not_mem_nil, not_false_eq_true, implies_true, and_true, true_and, and_self, Bool.false_eq_true, reduceCtorEq, forall_const, false_implies, List.mem_singleton, forall_eq, List.append_nil, List.nil_append, List.mem_cons, or_false, false_or, forall_eq_or_imp, not_or]) <;> (repeat' constructor) <;> first | assumption | (exact Ne.symm (by assumption)) | (intro e_; subst e_; simp [SH.names] at *; done)) ?_; rintro _ _ ⟨R', rfl, rfl, hR1, hR2⟩)) | (refine h_store ?_; refine b_store_one ?_) | (refine h_bslice ?_; refine b_bslice (fun nb_ hnb_ => ?_)) | refine a_join ?_ | refine a_tt ?_)
  refine hq _ _ (setLock s o fun x => { x with readers := addRd x.readers t }) s.threads _ (fz_locks (by repeat constructor) (by simp [setLock]) (by simp [setLock, lockRows_len]) (rows_rd hl (fun _ => rfl) ?_)) (Fz.sls (by repeat constructor) rfl (by simp) rfl) (fun p hp => by simp only [List.mem_cons, List.mem_append]; simp [hp]) (by simp only [applyS, Int.reduceEq, if_true, if_false, or_self, reduceIte])
  rw [← take_map hR1]
  exact Fz.rows (x := ⟨1, R'.map intE⟩) (by repeat constructor) (by simp) (by simp; exact hR2)
end
end Go.Proofs.Ytadjimfkfmojkaa.Am

end
section
namespace Go.Proofs.Ytadjimfkfmojkaa.Am
set_option maxRecDepth 100000
set_option linter.unusedSimpArgs false
set_option linter.unusedVariables false
set_option linter.unusedSectionVars false
def zeroS : SyncD := ⟨[], 0, [], []⟩
def resS (w : WorldD) (s : SyncD) (t k o wake : Int) : SyncD × Int × Bool := if enabledS w s t k o then ((applyS w s t k o wake).1, (applyS w s t k o wake).2, true) else (zeroS, 0, false)
def encR (r : SyncD × Int × Bool) : AV := .tup [.agg r.1.enc, .int .i64 r.2.1, .bool r.2.2]
theorem lockRows_all (ro : Option Nat) (ls : List LockD) : lockRows ls.length ro ls = ls.map LockD.enc := by
  apply List.ext_getElem?
  intro i
  rcases Nat.lt_or_ge i ls.length with hi | hi
  · rw [lockRows_at _ _ _ _ hi, lockR, if_neg (by omega)]; simp [hi]
  · rw [List.getElem?_eq_none (by rw [lockRows_len]; exact hi), List.getElem?_eq_none (by simpa using hi)]
section
variable (s : SyncD) (h1 : s.locks.length < 2 ^ 40) (h2 : s.done.length < 2 ^ 40) (h3 : s.threads.length < 2 ^ 40) (hrd : ∀ l ∈ s.locks, l.readers.length < 2 ^ 40) (hne : s.threads ≠ [])
include h1 h2 h3 hrd hne
theorem clone_plain : CallA Try.prog 47 [.agg s.enc] [] fun v L => ∃ bl bt od, v = .agg [.sl bl 0 s.locks.length, .int .i64 s.tx, slotL od s.done.length, .sl bt 0 s.threads.length] ∧ L = (bl, ⟨2, s.locks.map LockD.enc⟩) :: (slotB od 1 (s.done.map boolE) ++ [(bt, ⟨3, s.threads.map ThrD.enc⟩)]) ∧ (od = none → s.done = []) := by
  refine (clone_ok s s.locks.length h1 h2 h3 hrd).mono ?_
  rintro v L ⟨bl, ro, od, ot, rfl, rfl, hod, hot, hro⟩
  cases ot with
  | none => exact absurd (hot rfl) hne
  | some bt => exact ⟨bl, bt, od, rfl, by rw [lockRows_all, rdB, if_neg (Nat.lt_irrefl _)]; rfl, hod⟩
theorem clone_rd (o : Int) (hl : inB o s.locks.length = true) : CallA Try.prog 47 [.agg s.enc] [] fun v L => ∃ bl bt ro od, v = .agg [.sl bl 0 s.locks.length, .int .i64 s.tx, slotL od s.done.length, .sl bt 0 s.threads.length] ∧ L = (bl, ⟨2, lockRows o.toNat ro s.locks⟩) :: (slotB ro 1 ((lockAt s o).readers.map intE) ++ (slotB od 1 (s.done.map boolE) ++ [(bt, ⟨3, s.threads.map ThrD.enc⟩)])) ∧ (od = none → s.done = []) ∧ (ro = none → (lockAt s o).readers = []) := by
  obtain ⟨o0, o1⟩ := inB_iff.1 hl
  have hlt : o.toNat < s.locks.length := by omega
  refine (clone_ok s o.toNat h1 h2 h3 hrd).mono ?_
  rintro v L ⟨bl, ro, od, ot, rfl, rfl, hod, hot, hro⟩
  cases ot with
  | none => exact absurd (hot rfl) hne
  | some bt => exact ⟨bl, bt, ro, od, rfl, by rw [rdB, if_pos hlt]; rfl, hod, fun e => hro e hlt⟩
end
theorem perm_a {α : Type} (a b c d : α) (X : List α) : ((a :: (X ++ [b])) ++ [c, d]).Perm (a :: b :: c :: d :: X) := by
  refine List.Perm.cons a ?_
  show ((X ++ [b]) ++ [c, d]).Perm _
  rw [List.append_assoc]
  exact List.perm_append_comm (l₁ := X) (l₂ := [b, c, d])
theorem perm_b {α : Type} (a b c d : α) (X Y : List α) : ((a :: (X ++ (Y ++ [b]))) ++ [c, d]).Perm (a :: b :: c :: d :: (X ++ Y)) := by
  rw [← List.append_assoc]
  exact perm_a a b c d (X ++ Y)
theorem slotL_one (od : Option Nat) (n : Nat) : (slotL od n).one = true := by cases od <;> rfl
theorem fz_done {s : SyncD} {od : Option Nat} (hod : od = none → s.done = []) {L : SH} (hR : ∀ p ∈ slotB od 1 (s.done.map boolE), p ∈ L) : Fz L (slotL od s.done.length) (.lst (s.done.map boolE)) := by
  cases od with
  | none => rw [hod rfl]; exact .refl _
  | some bd => exact Fz.sls (hR _ (List.mem_singleton.2 rfl)) rfl (by simp) rfl
structure Small (w : WorldD) (s : SyncD) : Prop where
  conds : w.conds.length < 2 ^ 40
  locks : s.locks.length < 2 ^ 40
  done : s.done.length < 2 ^ 40
  threads : s.threads.length < 2 ^ 40
  rd : ∀ l ∈ s.locks, l.readers.length < 2 ^ 40
section
variable (w : WorldD) (s : SyncD) (t k o wake : Int)
def EndQ (v : AV) (L : SH) : Prop := ∃ v2 L2, FzS [v] L [v2] L2 ∧ v2 = encR (resS w s t k o wake) ∧ L2 = []
theorem ends1 (hen : enabledS w s t k o = true) (bl bt : Nat) (od : Option Nat) (hod : od = none → s.done = []) : Ends1 w s t o wake bl bt k (slotB od 1 (s.done.map boolE)) (slotL od s.done.length) (EndQ w s t k o wake) := by
  intro tx val ls th L f1 f2 hR e
  refine ⟨_, [], FzS.all (Fz.tups (.cons (Fz.aggs (.cons f1 (.cons (.refl _) (.cons (fz_done hod hR) (.cons f2 .nil))))) (.cons (.refl _) (.cons (.refl _) .nil)))), ?_, rfl⟩
  unfold resS
  rw [if_pos hen, e]
  rfl
theorem ends2 (hen : enabledS w s t 22 o = true) (bl bt bd : Nat) : Ends2 s o bl bt bd (EndQ w s t 22 o wake) := by
  intro L f1 f2 f3
  refine ⟨_, [], FzS.all (Fz.tups (.cons (Fz.aggs (.cons f1 (.cons (.refl _) (.cons f3 (.cons f2 .nil))))) (.cons (.refl _) (.cons (.refl _) .nil)))), ?_, rfl⟩
  unfold resS
  rw [if_pos hen]
  rfl
theorem apply_c8 (hs : Small w s) (hen : enabledS w s t k o = true) (b7 b12 : Nat) :
    W.callM Try.prog 47 [.agg s.enc] [(b12, ⟨4, [[.nils, .int .i64 0, .nils, .nils]]⟩), (b7, ⟨4, [s.enc]⟩)] (object_ApplyF_c8 (.ptr b7 0 0) (EndQ w s t k o wake) (.int .i64 k) (.pptr [[.int .i64 t]] 0 0) (.ptr b12 0 0) (.int .i64 o) (.int .i64 wake) (.pptr [w.enc] 0 0)) := by
  have hen' := hen
  unfold enabledS at hen'
  simp only [Bool.and_eq_true] at hen'
  obtain ⟨⟨⟨hfi, hth⟩, hal⟩, hkd⟩ := hen'
  have hf := fitsS_iff.1 hfi
  have ht : inB t s.threads.length = true := by rw [hf.threads]; exact hth
  obtain ⟨t0, t1⟩ := inB_iff.1 ht
  have hne : s.threads ≠ [] := fun e => by rw [e] at t1; simp at t1; omega
  have plain : (∀ bl bt od, (od = none → s.done = []) → (apL s b7 b12 bl bt (slotB od 1 (s.done.map boolE))).names.Nodup → object_ApplyF_c8 (.ptr b7 0 0) (EndQ w s t k o wake) (.int .i64 k) (.pptr [[.int .i64 t]] 0 0) (.ptr b12 0 0) (.int .i64 o) (.int .i64 wake) (.pptr [w.enc] 0 0) (.agg [.sl bl 0 s.locks.length, .int .i64 s.tx, slotL od s.done.length, .sl bt 0 s.threads.length]) (apL s b7 b12 bl bt (slotB od 1 (s.done.map boolE)))) →
      W.callM Try.prog 47 [.agg s.enc] [(b12, ⟨4, [[.nils, .int .i64 0, .nils, .nils]]⟩), (b7, ⟨4, [s.enc]⟩)] (object_ApplyF_c8 (.ptr b7 0 0) (EndQ w s t k o wake) (.int .i64 k) (.pptr [[.int .i64 t]] 0 0) (.ptr b12 0 0) (.int .i64 o) (.int .i64 wake) (.pptr [w.enc] 0 0)) := fun h => by
    refine m_callN (clone_plain s hs.locks hs.done hs.threads hs.rd hne) ?_
    rintro v K ⟨bl, bt, od, rfl, rfl, hod⟩
    exact ⟨apL s b7 b12 bl bt (slotB od 1 (s.done.map boolE)), perm_a _ _ _ _ _, h bl bt od hod⟩
  have readers : inB o s.locks.length = true → (∀ bl bt ro od, (od = none → s.done = []) → (ro = none → (lockAt s o).readers = []) → (apQ s o b7 b12 bl bt ro (slotB od 1 (s.done.map boolE))).names.Nodup → object_ApplyF_c8 (.ptr b7 0 0) (EndQ w s t k o wake) (.int .i64 k) (.pptr [[.int .i64 t]] 0 0) (.ptr b12 0 0) (.int .i64 o) (.int .i64 wake) (.pptr [w.enc] 0 0) (.agg [.sl bl 0 s.locks.length, .int .i64 s.tx, slotL od s.done.length, .sl bt 0 s.threads.length]) (apQ s o b7 b12 bl bt ro (slotB od 1 (s.done.map boolE)))) →
      W.callM Try.prog 47 [.agg s.enc] [(b12, ⟨4, [[.nils, .int .i64 0, .nils, .nils]]⟩), (b7, ⟨4, [s.enc]⟩)] (object_ApplyF_c8 (.ptr b7 0 0) (EndQ w s t k o wake) (.int .i64 k) (.pptr [[.int .i64 t]] 0 0) (.ptr b12 0 0) (.int .i64 o) (.int .i64 wake) (.pptr [w.enc] 0 0)) := fun hl h => by
    refine m_callN (clone_rd s hs.locks hs.done hs.threads hs.rd hne o hl) ?_
    rintro v K ⟨bl, bt, ro, od, rfl, rfl, hod, hro⟩
    exact ⟨apQ s o b7 b12 bl bt ro (slotB od 1 (s.done.map boolE)), perm_b _ _ _ _ _ _, h bl bt ro od hod hro⟩
  have e1 := fun bl bt od hod => ends1 w s t k o wake hen bl bt od hod
  have hrl : ∀ o, inB o s.locks.length = true → (lockAt s o).readers.length < 2 ^ 40 := fun o h => by
    obtain ⟨o0, o1⟩ := inB_iff.1 h
    have hlt : o.toNat < s.locks.length := by omega
    unfold lockAt
    rw [show s.locks.getD o.toNat default = s.locks[o.toNat] by simp [hlt]]
    exact hs.rd _ (List.getElem_mem hlt)
  rcases kinds k with hk | rfl | rfl | rfl | rfl | rfl | rfl | rfl | rfl | rfl | rfl | rfl | rfl | rfl | rfl | rfl | rfl | rfl | rfl | rfl | rfl | rfl | rfl | rfl 
  · simp only [allowedS] at hal
    repeat (rw [if_neg (by omega)] at hal)
    cases hal
  · exact plain fun bl bt od hod hnd => app_1 w s t o wake b7 b12 bl bt _ _ (slotL_one _ _) _ hf ht hnd hal (e1 bl bt od hod)
  · exact plain fun bl bt od hod hnd => app_2 w s t o wake b7 b12 bl bt _ _ (slotL_one _ _) _ hf ht hnd hal (e1 bl bt od hod)
  · exact plain fun bl bt od hod hnd => app_3 w s t o wake b7 b12 bl bt _ _ (slotL_one _ _) _ hf ht hnd hal (e1 bl bt od hod)
  · exact plain fun bl bt od hod hnd => app_4 w s t o wake b7 b12 bl bt _ _ (slotL_one _ _) _ hf ht hnd hal (e1 bl bt od hod)
  · exact plain fun bl bt od hod hnd => app_5 w s t o wake b7 b12 bl bt _ _ (slotL_one _ _) _ hf ht hnd hal (e1 bl bt od hod)
  · exact plain fun bl bt od hod hnd => app_6 w s t o wake b7 b12 bl bt _ _ (slotL_one _ _) _ hf ht hnd hal (e1 bl bt od hod)
  · exact plain fun bl bt od hod hnd => app_7 w s t o wake b7 b12 bl bt _ _ (slotL_one _ _) _ hf ht hnd hal (e1 bl bt od hod)
  · have hl : inB o s.locks.length = true := by rw [hf.locks]; simp [allowedS] at hal; exact hal.1
    exact readers hl fun bl bt ro od hod hro hnd => app_8 w s t o wake b7 b12 bl bt _ _ (slotL_one _ _) _ hl (hrl o hl) ro hro hnd (e1 bl bt od hod)
  · have hl : inB o s.locks.length = true := by rw [hf.locks]; simp [allowedS] at hal; exact hal.1
    refine readers hl fun bl bt ro od hod hro hnd => ?_
    cases ro with
    | none =>
      have hc : (lockAt s o).readers.contains t = true := by
        have := hkd
        simp [readyS] at this
        simpa using this.2
      rw [hro rfl] at hc
      cases hc
    | some br => exact app_9 w s t o wake b7 b12 bl bt _ _ (slotL_one _ _) _ hl (hrl o hl) br hnd (e1 bl bt od hod)
  · exact plain fun bl bt od hod hnd => app_10 w s t o wake b7 b12 bl bt _ _ (slotL_one _ _) _ hf ht hnd hal (e1 bl bt od hod)
  · exact plain fun bl bt od hod hnd => app_11 w s t o wake b7 b12 bl bt _ _ (slotL_one _ _) _ hf ht hnd hal (e1 bl bt od hod)
  · exact plain fun bl bt od hod hnd => app_12 w s t o wake b7 b12 bl bt _ _ (slotL_one _ _) _ hf ht hnd hal (e1 bl bt od hod)
  · exact plain fun bl bt od hod hnd => app_13 w s t o wake b7 b12 bl bt _ _ (slotL_one _ _) _ hf ht hnd hal (e1 bl bt od hod)
  · exact plain fun bl bt od hod hnd => app_14 w s t o wake b7 b12 bl bt _ _ (slotL_one _ _) _ hf ht hnd hal (e1 bl bt od hod)
  · exact plain fun bl bt od hod hnd => app_15 w s t o wake b7 b12 bl bt _ _ (slotL_one _ _) _ hf ht hnd hal (e1 bl bt od hod)
  · exact plain fun bl bt od hod hnd => app_16 w s t o wake b7 b12 bl bt _ _ (slotL_one _ _) _ hf ht hnd hal (e1 bl bt od hod)
  · exact plain fun bl bt od hod hnd => app_17 w s t o wake b7 b12 bl bt _ _ (slotL_one _ _) _ hf ht hnd hal (e1 bl bt od hod)
  · exact plain fun bl bt od hod hnd => app_18 w s t o wake b7 b12 bl bt _ _ (slotL_one _ _) _ hf ht hnd hs.threads (e1 bl bt od hod)
  · exact plain fun bl bt od hod hnd => app_19 w s t o wake b7 b12 bl bt _ _ (slotL_one _ _) _ hf ht hnd hs.threads (e1 bl bt od hod)
  · exact plain fun bl bt od hod hnd => app_20 w s t o wake b7 b12 bl bt _ _ (slotL_one _ _) _ hf ht hnd hal (e1 bl bt od hod)
  · exact plain fun bl bt od hod hnd => app_21 w s t o wake b7 b12 bl bt _ _ (slotL_one _ _) _ hf ht hnd hal (e1 bl bt od hod)
  · refine plain fun bl bt od hod hnd => ?_
    cases od with
    | none =>
      have hl : inB o s.done.length = true := by rw [hf.done]; simpa [allowedS] using hal
      obtain ⟨o0, o1⟩ := inB_iff.1 hl
      rw [hod rfl] at o1
      simp at o1
      omega
    | some bd => exact app_22 w s t o wake b7 b12 bl bt _ hf ht bd hnd hal (ends2 w s t o wake hen bl bt bd)
  · exact plain fun bl bt od hod hnd => app_23 w s t o wake b7 b12 bl bt _ _ (slotL_one _ _) _ hf ht hnd hal (e1 bl bt od hod)
theorem apply_ok (hs : Small w s) : PureA Try.prog 26 [.agg w.enc, .agg s.enc, .int .i64 t, .int .i64 k, .int .i64 o, .int .i64 wake] (encR (resS w s t k o wake)) := by
  refine CallA.fz (object_ApplyF_ok _ _ _ _ _ _ _ _ ?_)
  show object_ApplyF_w _ _ _ _ _ _ _ (EndQ w s t k o wake)
  unfold object_ApplyF_w
  have hcn : w.conds.length < 2 ^ 62 := by have := hs.conds; omega
  have he := enabled_ok w s t k o hcn hs.rd
  have hc8 := apply_c8 w s t k o wake hs
  have fin : enabledS w s t k o = false → ∀ L, EndQ w s t k o wake (.tup [.agg [.nils, .int .i64 0, .nils, .nils], .int .i64 0, .bool false]) L := fun hn L => by
    refine ⟨_, [], FzS.all (Fz.tups (.cons (Fz.aggs (.cons .nils (.cons (.refl _) (.cons .nils (.cons .nils .nil))))) (.cons (.refl _) (.cons (.refl _) .nil)))), ?_, rfl⟩
    unfold resS
    rw [hn]
    rfl
  generalize EndQ w s t k o wake = Q at *
  cases hen : enabledS w s t k o with
  | false =>
    rw [hen] at he
    have nh : (!false) = true := rfl
    have fin := fin hen
    clear hc8
    repeat' (first | (refine h_load1 ?_; refine b_load_q ?_) | (refine h_cond ?_; refine b_cond_t ?_) | (refine h_row ?_; first | refine b_row_q ?_ | refine b_row_p ?_) | refine a_mark ?_ | ((with_reducible refine h_fn 27 ?_); refine m_call (he) ?_) | (refine h_un ?_; refine a_not ?_) | (refine h_box ?_; refine b_box (fun nb_ hnb_ => ?_)) | (refine h_frz1 ?_; refine b_frz_p ?_) | (refine h_store ?_; refine b_store_box ?_) | refine a_alloc (fun nb_ hnb_ => ?_) | refine b_build ?_)
    exact fin _
  | true =>
    rw [hen] at he
    have hc8 := hc8 hen
    clear fin
    repeat' (first | exact hc8 _ _ | (refine h_load1 ?_; refine b_load_q ?_) | (refine h_cond ?_; refine b_cond_f ?_) | (refine h_row ?_; first | refine b_row_q ?_ | refine b_row_p ?_) | refine a_mark ?_ | ((with_reducible refine h_fn 27 ?_); refine m_call (he) ?_) | (refine h_un ?_; refine a_not ?_) | (refine h_box ?_; refine b_box (fun nb_ hnb_ => ?_)) | (refine h_frz1 ?_; refine b_frz_p ?_) | refine a_alloc (fun nb_ hnb_ => ?_))
end
end Go.Proofs.Ytadjimfkfmojkaa.Am

end
section
namespace Go.Proofs.Ytadjimfkfmojkaa.Am
set_option maxRecDepth 100000
set_option linter.unusedSimpArgs false
set_option linter.unusedVariables false
def startS (w : WorldD) : SyncD := ⟨List.replicate w.locks.length ⟨-1, []⟩, -1, List.replicate w.futures.length false, (List.replicate w.threads.length (⟨0, 0, false⟩ : ThrD)).set 0 ⟨1, 0, false⟩⟩
theorem start_ok (w : WorldD) (h1 : w.locks.length ≤ 100) (h2 : w.futures.length ≤ 100) (h3 : w.threads.length ≤ 100) : PureA Try.prog 21 [.agg w.enc] (.agg (startS w).enc) := by
  refine CallA.fz (object_Start_ok _ _ _ ?_)
  unfold object_Start_w
  generalize hQ : (fun (v : AV) (L : SH) => ∃ v2 L2, FzS [v] L [v2] L2 ∧ v2 = AV.agg (startS w).enc ∧ L2 = []) = Q
  repeat' (first | (refine h_load1 ?_; refine b_load_q ?_) | (refine h_faddr ?_; refine a_faddr_q ?_) | (refine h_len ?_; first | refine a_len_m ?_ | refine a_len_s ?_) | (refine h_calm ?_; refine b_calm ?_) | (refine h_note ?_; refine a_note ?_) | (refine h_box ?_; refine b_box (fun nb_ hnb_ => ?_)) | (refine h_frz1 ?_; refine b_frz_p ?_) | (refine h_store ?_; refine b_store_box ?_) | (refine h_mslice ?_; refine b_mslice (fun nb_ hnb_ => ?_)) | refine a_alloc (fun nb_ hnb_ => ?_) | refine b_build ?_ | refine a_tt ?_)
  rename_i b2 _ b3 _ b4 _ b5 _ b6 _
  refine for_by w.locks.length (fun i => ([.ptr b3 0 0, .pptr [[.sl b4 0 w.locks.length, .int .i64 (-1), .sl b5 0 w.futures.length, .sl b6 0 w.threads.length]] 0 0, .int .i64 w.locks.length, .int .i64 i],
    [(b6, ⟨3, List.replicate w.threads.length [.int .i64 0, .int .i64 0, .bool false]⟩), (b5, ⟨1, List.replicate w.futures.length [.bool false]⟩), (b4, ⟨2, List.replicate i [.int .i64 (-1), .nils] ++ List.replicate (w.locks.length - i) [.int .i64 0, .nils]⟩), (b3, ⟨4, [[.nils, .int .i64 0, .nils, .nils]]⟩)])) (fun _ => True) trivial rfl (by simp) ?_
  intro i hi _
  dsimp only
  unfold object_Start_l0
  rcases Nat.lt_or_ge i w.locks.length with g1 | g1
  · have hd := dec_lt g1
    have hx := rep_get i w.locks.length (α := List AV) [.int .i64 (-1), .nils] [.int .i64 0, .nils] g1
    repeat' (first | (refine h_load1 ?_; refine b_load_q ?_) | (refine h_faddr ?_; first | refine a_faddr_q ?_ | refine a_faddr_p ?_) | (refine h_bin ?_; first | refine a_lss ?_ | refine a_add ?_) | (refine h_cond ?_; refine b_cond_t ?_) | (refine h_idx ?_; refine b_idx_sn ?_) | (refine h_store ?_; refine b_store_one ?_))
    refine ⟨i + 1, by omega, by omega, trivial, fzs_eq (by rw [i64_succ g1 (by omega)]; rfl) ?_⟩
    rw [← rep_set i w.locks.length _ _ g1]
    rfl
  · have hd := dec_ge g1
    have fin : ∀ (T : List ThrD) (L : SH), T = (startS w).threads → L = [(b6, ⟨3, T.map ThrD.enc⟩), (b5, ⟨1, List.replicate w.futures.length [.bool false]⟩), (b4, ⟨2, List.replicate i [.int .i64 (-1), .nils] ++ List.replicate (w.locks.length - i) [.int .i64 0, .nils]⟩), (b3, ⟨4, [[.sl b4 0 w.locks.length, .int .i64 (-1), .sl b5 0 w.futures.length, .sl b6 0 w.threads.length]]⟩)] →
        Q (.agg [.sl b4 0 w.locks.length, .int .i64 (-1), .sl b5 0 w.futures.length, .sl b6 0 w.threads.length]) L := by
      intro T L hT hL
      subst hL
      subst hQ
      have hi0 : i = w.locks.length := by omega
      subst hi0
      refine ⟨_, [], FzS.all (Fz.aggs (.cons ?_ (.cons (.refl _) (.cons ?_ (.cons ?_ .nil))))), rfl, rfl⟩
      · refine Fz.slm (f := fun _ => [.int .i64 (-1), .nils]) (.tail _ (.tail _ (.head _))) (by simp [startS]) (by decide) (by simp [startS]) (fun y hy => rfl) (fun y hy q a a2 q1 q2 => ?_)
        have : y = ⟨-1, []⟩ := by simp [startS] at hy; exact hy.2
        subst this
        match q with
        | 0 => cases q1; cases q2; exact .refl _
        | 1 => cases q1; cases q2; exact .nils
        | q + 2 => simp at q1
      · exact Fz.sls (.tail _ (.head _)) (by simp [startS, boolE]) (by decide) (by simp [startS])
      · exact Fz.sls (.head _) (by rw [hT]) (by decide) (by simp [startS])
    rcases Nat.eq_zero_or_pos w.threads.length with g2 | g2
    · have hd2 : decide ((0 : Int) < (w.threads.length : Int)) = false := by simp [g2]
      repeat' (first | (refine h_load1 ?_; refine b_load_q ?_) | (refine h_faddr ?_; refine a_faddr_q ?_) | (refine h_bin ?_; first | refine a_lss ?_ | refine a_gtr ?_) | (refine h_cond ?_; refine b_cond_f ?_) | (refine h_row ?_; first | refine b_row_q ?_ | refine b_row_p ?_) | (refine h_len ?_; refine a_len_s ?_) | (refine h_store ?_; refine b_store_box ?_))
      exact fin [] _ (by simp [startS, g2]) (by simp [g2])
    · have hd2 : decide ((0 : Int) < (w.threads.length : Int)) = true := by simpa using g2
      have hx0 : (List.replicate w.threads.length ([.int .i64 0, .int .i64 0, .bool false] : List AV))[0]? = some [.int .i64 0, .int .i64 0, .bool false] := by simp [g2]
      repeat' (first | (refine h_load1 ?_; refine b_load_q ?_) | (refine h_faddr ?_; first | refine a_faddr_q ?_ | refine a_faddr_p ?_) | (refine h_bin ?_; first | refine a_lss ?_ | refine a_gtr ?_) | (refine h_cond ?_; first | refine b_cond_t ?_ | refine b_cond_f ?_) | (refine h_idx ?_; refine b_idx_sn ?_) | (refine h_row ?_; first | refine b_row_q ?_ | refine b_row_p ?_) | (refine h_len ?_; refine a_len_s ?_) | (refine h_store ?_; first | refine b_store_box ?_ | refine b_store_one ?_))
      refine fin _ _ rfl ?_
      simp [startS, ThrD.enc, List.map_set]
end Go.Proofs.Ytadjimfkfmojkaa.Am

end
section
namespace Go.Proofs.Ytadjimfkfmojkaa.Am
set_option linter.unusedVariables false
theorem compactUpTo_asc (d : Array Int) (hs : ∀ i j, i < j → j < d.size → d[i]! ≤ d[j]!) : ∀ m, m ≤ d.size →
    (Lib.compactUpTo d m).Pairwise (· < ·) ∧ (∀ x ∈ Lib.compactUpTo d m, ∃ j, j < m ∧ x = d[j]!) ∧ (∀ j, j < m → d[j]! ∈ Lib.compactUpTo d m)
  | 0, _ => ⟨by simp [Lib.compactUpTo], by simp [Lib.compactUpTo], by intro j hj; omega⟩
  | m + 1, hm => by
    obtain ⟨h1, h2, h3⟩ := compactUpTo_asc d hs m (by omega)
    rw [Lib.compactUpTo_succ]
    by_cases hk : Lib.keeps d m = true
    · rw [if_pos hk]
      refine ⟨?_, ?_, ?_⟩
      · rw [List.pairwise_append]
        refine ⟨h1, by simp, ?_⟩
        intro x hx y hy
        obtain ⟨j, hj, rfl⟩ := h2 x hx
        simp at hy
        subst hy
        have hle := hs j m hj (by omega)
        have hne : d[j]! ≠ d[m]! := by
          intro he
          have hm0 : 0 < m := by omega
          have h4 : d[m]! ≠ d[m - 1]! := by
            intro h5
            rw [Lib.keeps_neg hm0 h5] at hk
            cases hk
          have h5 : d[j]! ≤ d[m - 1]! := by
            rcases Nat.lt_or_ge j (m - 1) with h | h
            · exact hs j (m - 1) h (by omega)
            · rw [show j = m - 1 from by omega]
              exact Int.le_refl _
          have h6 : d[m - 1]! ≤ d[m]! := hs (m - 1) m (by omega) (by omega)
          exact h4 (by omega)
        omega
      · intro x hx
        rw [List.mem_append] at hx
        rcases hx with hx | hx
        · obtain ⟨j, hj, e⟩ := h2 x hx
          exact ⟨j, by omega, e⟩
        · simp at hx
          exact ⟨m, by omega, hx⟩
      · intro j hj
        rw [List.mem_append]
        rcases Nat.lt_or_ge j m with h | h
        · exact .inl (h3 j h)
        · rw [show j = m from by omega]
          exact .inr (by simp)
    · rw [if_neg hk, List.append_nil]
      have hm0 : 0 < m := by
        rcases Nat.eq_zero_or_pos m with h | h
        · subst h
          exact absurd (Lib.keeps_lt_one d 0 (by omega)) hk
        · exact h
      have he : d[m]! = d[m - 1]! := by
        apply Classical.byContradiction
        intro h
        exact hk (Lib.keeps_pos h)
      refine ⟨h1, fun x hx => ?_, fun j hj => ?_⟩
      · obtain ⟨j, hj, e⟩ := h2 x hx
        exact ⟨j, by omega, e⟩
      · rcases Nat.lt_or_ge j m with h | h
        · exact h3 j h
        · rw [show j = m from by omega, he]
          exact h3 (m - 1) (by omega)
theorem getI (l : List Int) (j : Nat) (hj : j < l.length) : l.toArray[j]! = l[j] := by
  rw [getElem!_pos _ _ (by simpa using hj)]
  simp
theorem srt_sorted (l : List Int) : ∀ i j, i < j → j < (srt l).toArray.size → (srt l).toArray[i]! ≤ (srt l).toArray[j]! := by
  intro i j hij hj
  have hj' : j < (srt l).length := by simpa using hj
  rw [getI _ i (by omega), getI _ j hj']
  have hp : (srt l).Pairwise (fun x y => (decide (x ≤ y)) = true) := List.pairwise_mergeSort (fun a b c => by simp; omega) (fun a b => by simp; omega) l
  have := (List.pairwise_iff_getElem.1 hp) i j (by omega) hj' hij
  simpa using this
def asc (l : List Int) : List Int := Lib.compact (srt l)
theorem asc_mem (l : List Int) (x : Int) : x ∈ asc l ↔ x ∈ l := by
  obtain ⟨h1, h2, h3⟩ := compactUpTo_asc (srt l).toArray (srt_sorted _) (srt l).length (by simp)
  have hm : ∀ y, y ∈ srt l ↔ y ∈ l := fun y => by simp [srt, List.mem_mergeSort]
  unfold asc Lib.compact
  constructor
  · intro hx
    obtain ⟨j, hj, rfl⟩ := h2 x hx
    rw [getI _ j hj]
    exact (hm _).1 (List.getElem_mem _)
  · intro hx
    obtain ⟨j, hj, rfl⟩ := List.getElem_of_mem ((hm x).2 hx)
    rw [← getI _ j hj]
    exact h3 j hj
theorem asc_asc (l : List Int) : (asc l).Pairwise (· < ·) :=
  (compactUpTo_asc (srt l).toArray (srt_sorted _) (srt l).length (by simp)).1
theorem asc_ext {a b : List Int} (ha : a.Pairwise (· < ·)) (hb : b.Pairwise (· < ·)) (h : ∀ x, x ∈ a ↔ x ∈ b) : a = b := by
  have na : a.Nodup := ha.imp fun hlt => by omega
  have nb : b.Nodup := hb.imp fun hlt => by omega
  exact List.Perm.eq_of_pairwise (le := fun x y : Int => x < y) (fun x y _ _ h1 h2 => by omega) ha hb ((List.perm_ext_iff_of_nodup na nb).2 h)
theorem asc_len3 {l : List Int} (h : l.Pairwise (· < ·)) (hr : ∀ y ∈ l, 0 ≤ y ∧ y < 3) : l.length ≤ 3 := by
  match l, h with
  | [], _ => simp
  | [a], _ => simp
  | [a, b], _ => simp
  | [a, b, c], _ => simp
  | a :: b :: c :: d :: l, h =>
    have h0 := hr a (by simp)
    have h3 := hr d (by simp)
    simp only [List.pairwise_cons, List.mem_cons, forall_eq_or_imp] at h
    omega
end Go.Proofs.Ytadjimfkfmojkaa.Am

end
section
namespace Go.Proofs.Ytadjimfkfmojkaa.Am
set_option maxRecDepth 100000
set_option linter.unusedSimpArgs false
set_option linter.unusedVariables false
def W0 : WorldD := ⟨[⟨[120], 0, 0, false, 0⟩], [⟨[109], false⟩, ⟨[110], false⟩, ⟨[114], true⟩], [⟨[99], 0⟩], [[102]], [[116], [117], [119]], []⟩
def RdOk (l : LockD) : Prop := l.readers.Pairwise (· < ·) ∧ ∀ y ∈ l.readers, 0 ≤ y ∧ y < 3
structure OInv (s : SyncD) : Prop where
  nl : s.locks.length = 3
  nd : s.done.length = 1
  nt : s.threads.length = 3
  cond : ∀ x ∈ s.threads, x.cond = 0
  rd : ∀ l ∈ s.locks, RdOk l
theorem rdOk_default : RdOk default := ⟨List.Pairwise.nil, fun y hy => by cases hy⟩
theorem OInv.small {s : SyncD} (h : OInv s) : Small W0 s := ⟨by decide, by rw [h.nl]; decide, by rw [h.nd]; decide, by rw [h.nt]; decide, fun l hl => by
  obtain ⟨h1, h2⟩ := h.rd l hl
  have := asc_len3 h1 h2
  omega⟩
theorem OInv.fit {s : SyncD} (h : OInv s) : FitD W0 s := ⟨h.nl, h.nd, h.nt, fun c hc => by
  have : c = ⟨[99], 0⟩ := by simpa [W0] using hc
  subst this; rfl⟩
theorem inv_start : OInv (startS W0) := ⟨by simp [startS, W0], by simp [startS, W0], by simp [startS, W0], by decide, fun l hl => by
  have : l = ⟨-1, []⟩ := by simp [startS, W0] at hl; exact hl
  subst this
  exact ⟨List.Pairwise.nil, fun y hy => by cases hy⟩⟩
theorem thr_cond {s : SyncD} (h : OInv s) (i : Int) : (thrAt s i).cond = 0 := by
  unfold thrAt
  rcases Nat.lt_or_ge i.toNat s.threads.length with hi | hi
  · rw [show s.threads.getD i.toNat default = s.threads[i.toNat] by simp [hi]]; exact h.cond _ (List.getElem_mem hi)
  · simp [List.getD, List.getElem?_eq_none hi]; rfl
theorem lock_rd {s : SyncD} (h : OInv s) (i : Int) : RdOk (lockAt s i) := by
  unfold lockAt
  rcases Nat.lt_or_ge i.toNat s.locks.length with hi | hi
  · rw [show s.locks.getD i.toNat default = s.locks[i.toNat] by simp [hi]]; exact h.rd _ (List.getElem_mem hi)
  · simp [List.getD, List.getElem?_eq_none hi]; exact rdOk_default
theorem set_thr {s : SyncD} (h : OInv s) (i : Int) (f : ThrD → ThrD) (hf : ∀ x : ThrD, x.cond = 0 → (f x).cond = 0) : ∀ x ∈ setThr s i f, x.cond = 0 := fun x hx => by
  rcases List.mem_or_eq_of_mem_set hx with h1 | h1
  · exact h.cond x h1
  · rw [h1]; exact hf _ (thr_cond h i)
theorem set_lock {s : SyncD} (h : OInv s) (i : Int) (f : LockD → LockD) (hf : RdOk (f (lockAt s i))) : ∀ x ∈ setLock s i f, RdOk x := fun x hx => by
  rcases List.mem_or_eq_of_mem_set hx with h1 | h1
  · exact h.rd x h1
  · rw [h1]; exact hf
theorem inv_thr {s : SyncD} (h : OInv s) {th : List ThrD} (hl : th.length = s.threads.length) (hc : ∀ x ∈ th, x.cond = 0) : OInv { s with threads := th } := ⟨h.nl, h.nd, by rw [hl]; exact h.nt, hc, h.rd⟩
theorem inv_lock {s : SyncD} (h : OInv s) {ls : List LockD} (hl : ls.length = s.locks.length) (hc : ∀ x ∈ ls, RdOk x) : OInv { s with locks := ls } := ⟨by rw [hl]; exact h.nl, h.nd, h.nt, h.cond, hc⟩
theorem wake_cond {s : SyncD} (h : OInv s) (o : Int) : ∀ x ∈ wakeS s o, x.cond = 0 := fun x hx => by
  unfold wakeS wakeAll at hx
  obtain ⟨p, hp, rfl⟩ := List.mem_map.1 hx
  have hm : p.1 ∈ s.threads := by
    have := List.mem_zipIdx hp
    rw [this.2.2]
    exact List.getElem_mem _
  split
  · show p.1.cond = 0; exact h.cond _ hm
  · exact h.cond _ hm
theorem addRd_mem (l : List Int) (t x : Int) : x ∈ addRd l t ↔ x ∈ l ∨ x = t := by
  show x ∈ asc (l ++ [t]) ↔ _
  rw [asc_mem]; simp
theorem addRd_asc (l : List Int) (t : Int) : (addRd l t).Pairwise (· < ·) := asc_asc (l ++ [t])
/-- what an event of this world shows -/
theorem en_parts {w : WorldD} {s : SyncD} {t k o : Int} (h : enabledS w s t k o = true) : fitsS w s = true ∧ inB t w.threads.length = true ∧ allowedS w k o = true := by
  unfold enabledS at h
  simp only [Bool.and_eq_true] at h
  exact ⟨h.1.1.1, h.1.1.2, h.1.2⟩
end Go.Proofs.Ytadjimfkfmojkaa.Am

end
section
namespace Go.Proofs.Ytadjimfkfmojkaa.Am
set_option maxRecDepth 100000
set_option linter.unusedSimpArgs false
set_option linter.unusedVariables false
section
variable {w : WorldD} {s : SyncD} {t o : Int}
theorem lockAt_set {f : LockD → LockD} (h : inB o s.locks.length = true) {tx : Int} {d : List Bool} {th : List ThrD} : lockAt ⟨setLock s o f, tx, d, th⟩ o = f (lockAt s o) := by
  obtain ⟨o0, o1⟩ := inB_iff.1 h
  have hlt : o.toNat < s.locks.length := by omega
  unfold lockAt setLock
  simp [List.getD, hlt, lockAt]
theorem lockAt_ne {p : Int} {f : LockD → LockD} (h : o.toNat ≠ p.toNat) {tx : Int} {d : List Bool} {th : List ThrD} : lockAt ⟨setLock s o f, tx, d, th⟩ p = lockAt s p := by
  unfold lockAt setLock
  simp [List.getD, List.getElem?_set_ne h]
theorem setLock_twice {f g : LockD → LockD} (h : inB o s.locks.length = true) {tx : Int} {d : List Bool} {th : List ThrD} : setLock ⟨setLock s o f, tx, d, th⟩ o g = setLock s o (fun x => g (f x)) := by
  have e := lockAt_set (s := s) (f := f) h (tx := tx) (d := d) (th := th)
  unfold setLock at e ⊢
  rw [e]
  simp
theorem setLock_same {f : LockD → LockD} (h : inB o s.locks.length = true) (hf : f (lockAt s o) = lockAt s o) : setLock s o f = s.locks := by
  obtain ⟨o0, o1⟩ := inB_iff.1 h
  have hlt : o.toNat < s.locks.length := by omega
  unfold setLock
  rw [hf]
  unfold lockAt
  rw [show s.locks.getD o.toNat default = s.locks[o.toNat] by simp [hlt]]
  simp
theorem fits_eq {a : SyncD} (h1 : a.locks.length = s.locks.length) (h2 : a.done.length = s.done.length) (h3 : a.threads.length = s.threads.length) : fitsS w a = fitsS w s := by
  unfold fitsS; rw [h1, h2, h3]
theorem setLock_len {f : LockD → LockD} : (setLock s o f).length = s.locks.length := by simp [setLock]
theorem setThr_len {f : ThrD → ThrD} : (setThr s o f).length = s.threads.length := by simp [setThr]
theorem thr_set {f : ThrD → ThrD} (h : inB o s.threads.length = true) {ls : List LockD} {tx : Int} {d : List Bool} : thrAt ⟨ls, tx, d, setThr s o f⟩ o = f (thrAt s o) := by
  obtain ⟨o0, o1⟩ := inB_iff.1 h
  have hlt : o.toNat < s.threads.length := by omega
  unfold thrAt setThr
  simp [List.getD, hlt, thrAt]
theorem thr_ne {p : Int} {f : ThrD → ThrD} (h : o.toNat ≠ p.toNat) {ls : List LockD} {tx : Int} {d : List Bool} : thrAt ⟨ls, tx, d, setThr s o f⟩ p = thrAt s p := by
  unfold thrAt setThr
  simp [List.getD, List.getElem?_set_ne h]
end
/-- what a lock event of a running thread wants -/
theorem en_lock {w : WorldD} {s : SyncD} {t k o : Int} (hk : k = 6 ∨ k = 7 ∨ k = 8 ∨ k = 9 ∨ k = 10 ∨ k = 11) : enabledS w s t k o = true ↔ fitsS w s = true ∧ inB t w.threads.length = true ∧ allowedS w k o = true ∧ (thrAt s t).status = 2 ∧ readyS w s t k o = true := by
  unfold enabledS
  rw [if_neg (by omega), if_neg (by omega)]
  simp only [Bool.and_eq_true, decide_eq_true_eq]
  constructor
  · rintro ⟨⟨⟨a, b⟩, c⟩, d, e⟩; exact ⟨a, b, c, d, e⟩
  · rintro ⟨a, b, c, d, e⟩; exact ⟨⟨⟨a, b⟩, c⟩, d, e⟩
theorem al_lock {w : WorldD} {k o : Int} (hk : k = 6 ∨ k = 7 ∨ k = 8 ∨ k = 9 ∨ k = 10 ∨ k = 11) (h : allowedS w k o = true) : inB o w.locks.length = true := by
  rcases hk with rfl | rfl | rfl | rfl | rfl | rfl <;> (simp [allowedS] at h; exact h.1)
theorem readers_back {l : List Int} {t : Int} (h : l.Pairwise (· < ·)) (hn : l.contains t = false) : (addRd l t).filter (fun y => !decide (y = t)) = l := by
  refine asc_ext ((addRd_asc l t).filter _) h fun x => ?_
  rw [List.mem_filter, addRd_mem]
  have : x = t → x ∉ l := fun e hm => by subst e; simp at hn; exact hn hm
  constructor
  · rintro ⟨h1 | h1, h2⟩
    · exact h1
    · simp [h1] at h2
  · intro hx
    refine ⟨.inl hx, ?_⟩
    simp
    exact fun e => this e hx
/-- taking and giving back -/
theorem back {s : SyncD} (hs : OInv s) {t k j o wk : Int} (hk : (k = 6 ∧ j = 7) ∨ (k = 8 ∧ j = 9) ∨ (k = 10 ∧ j = 11)) (hen : enabledS W0 s t k o = true) :
    enabledS W0 (applyS W0 s t k o wk).1 t k o = false ∧ enabledS W0 (applyS W0 s t k o wk).1 t j o = true ∧ applyS W0 (applyS W0 s t k o wk).1 t j o wk = (s, 0) := by
  obtain ⟨h1, h2, h3, h4, h5⟩ := (en_lock (by omega)).1 hen
  have hl : inB o s.locks.length = true := by rw [(fitsS_iff.1 h1).locks]; exact al_lock (by omega) h3
  obtain ⟨t0, t1⟩ := inB_iff.1 h2
  have hrd := lock_rd hs o
  have hal : allowedS W0 j o = true := by
    rcases hk with ⟨rfl, rfl⟩ | ⟨rfl, rfl⟩ | ⟨rfl, rfl⟩ <;> exact h3
  have fin : ∀ f : LockD → LockD, (applyS W0 s t k o wk).1 = { s with locks := setLock s o f } → readyS W0 { s with locks := setLock s o f } t k o = false → readyS W0 { s with locks := setLock s o f } t j o = true → applyS W0 { s with locks := setLock s o f } t j o wk = (s, 0) →
      enabledS W0 (applyS W0 s t k o wk).1 t k o = false ∧ enabledS W0 (applyS W0 s t k o wk).1 t j o = true ∧ applyS W0 (applyS W0 s t k o wk).1 t j o wk = (s, 0) := fun f e r1 r2 r3 => by
    rw [e]
    have hft : fitsS W0 { s with locks := setLock s o f } = true := (fits_eq (w := W0) (s := s) (a := { s with locks := setLock s o f }) setLock_len rfl rfl).trans h1
    refine ⟨?_, (en_lock (by omega)).2 ⟨hft, h2, hal, h4, r2⟩, r3⟩
    cases hx : enabledS W0 { s with locks := setLock s o f } t k o with
    | false => rfl
    | true =>
      have := ((en_lock (by omega)).1 hx).2.2.2.2
      rw [r1] at this; cases this
  rcases hk with ⟨rfl, rfl⟩ | ⟨rfl, rfl⟩ | ⟨rfl, rfl⟩
  · have ho : (lockAt s o).owner = -1 := by simpa [readyS] using h5
    refine fin (fun x => { x with owner := t }) (by simp [applyS]) ?_ ?_ ?_
    · simp [readyS, lockAt_set hl]; omega
    · simp [readyS, lockAt_set hl]
    · simp only [applyS, Int.reduceEq, if_true, if_false, or_self, or_true, true_or, reduceIte]
      rw [setLock_twice hl, setLock_same hl (by rw [show ({ owner := -1, readers := (lockAt s o).readers } : LockD) = lockAt s o by rw [← ho]])]
  · have hn : (lockAt s o).readers.contains t = false := by simp [readyS] at h5; simpa using h5.2
    refine fin (fun x => { x with readers := addRd x.readers t }) (by simp [applyS]) ?_ ?_ ?_
    · have : t ∈ addRd (lockAt s o).readers t := (addRd_mem _ _ _).2 (.inr rfl)
      simp [readyS, lockAt_set hl, this]
    · have : t ∈ addRd (lockAt s o).readers t := (addRd_mem _ _ _).2 (.inr rfl)
      simp [readyS, lockAt_set hl, this]
    · simp only [applyS, Int.reduceEq, if_true, if_false, or_self, or_true, true_or, reduceIte]
      rw [setLock_twice hl, setLock_same hl (by dsimp only; rw [readers_back hrd.1 hn])]
  · have ho : (lockAt s o).owner = -1 := by simp [readyS] at h5; exact h5.1
    refine fin (fun x => { x with owner := t }) (by simp [applyS]) ?_ ?_ ?_
    · simp [readyS, lockAt_set hl]; omega
    · simp [readyS, lockAt_set hl]
    · simp only [applyS, Int.reduceEq, if_true, if_false, or_self, or_true, true_or, reduceIte]
      rw [setLock_twice hl, setLock_same hl (by rw [show ({ owner := -1, readers := (lockAt s o).readers } : LockD) = lockAt s o by rw [← ho]])]
end Go.Proofs.Ytadjimfkfmojkaa.Am

end
section
namespace Go.Proofs.Ytadjimfkfmojkaa.Am
set_option maxRecDepth 100000
set_option linter.unusedSimpArgs false
set_option linter.unusedVariables false
theorem waits_iff {T : List ThrD} (hc : ∀ x ∈ T, x.cond = 0) {i : Nat} (hi : i < T.length) : waitsAt T 0 i = decide (T[i].status = 3) := by
  unfold waitsAt waitsS
  have : T.getD i default = T[i] := by simp [hi]
  rw [this, hc _ (List.getElem_mem hi)]
  simp
theorem mem_waiting {T : List ThrD} {c : Int} {n i : Nat} : i ∈ waiting T c n ↔ i < n ∧ waitsAt T c i = true := by simp [waiting]
/-- the thread that is woken waits -/
theorem notify_waits {T : List ThrD} {wake : Int} {i : Nat} (h : notifyS T 0 wake = (i : Int)) : i < T.length ∧ waitsAt T 0 i = true := by
  have h0 : 0 ≤ chosenOf (waiting T 0 T.length) wake := by unfold notifyS at h; omega
  have := chosen_mem h0
  unfold notifyS at h
  rw [h] at this
  exact mem_waiting.1 (by simpa using this)
end Go.Proofs.Ytadjimfkfmojkaa.Am

end
section
namespace Go.Proofs.Ytadjimfkfmojkaa.Am
set_option maxRecDepth 100000
set_option linter.unusedSimpArgs false
set_option linter.unusedVariables false
theorem en_run {w : WorldD} {s : SyncD} {t k o : Int} (h1 : k ≠ 1) (h17 : k ≠ 17) : enabledS w s t k o = true ↔ fitsS w s = true ∧ inB t w.threads.length = true ∧ allowedS w k o = true ∧ (thrAt s t).status = 2 ∧ readyS w s t k o = true := by
  unfold enabledS
  rw [if_neg h1, if_neg h17]
  simp only [Bool.and_eq_true, decide_eq_true_eq]
  constructor
  · rintro ⟨⟨⟨a, b⟩, c⟩, d, e⟩; exact ⟨a, b, c, d, e⟩
  · rintro ⟨a, b, c, d, e⟩; exact ⟨⟨⟨a, b⟩, c⟩, d, e⟩
end Go.Proofs.Ytadjimfkfmojkaa.Am

end
section
namespace Go.Proofs.Ytadjimfkfmojkaa.Am
set_option linter.unusedVariables false
/-- a block that may not be there yet is given up -/
inductive DelO (o : Option Nat) (n : Nat) (rows : List (List AV)) : SH → SH → Prop where
  | here (R : SH) : DelO o n rows (slotB o n rows ++ R) R
  | last : DelO o n rows (slotB o n rows) []
  | there (p : Nat × Blk) {L L' : SH} : DelO o n rows L L' → DelO o n rows (p :: L) (p :: L')
  | skip (o2 : Option Nat) (n2 : Nat) (rows2 : List (List AV)) {L L' : SH} : DelO o n rows L L' → DelO o n rows (slotB o2 n2 rows2 ++ L) (slotB o2 n2 rows2 ++ L')
theorem DelO.some' {b n : Nat} {rows : List (List AV)} {L L' : SH} (h : DelO (some b) n rows L L') : Del b ⟨n, rows⟩ L L' := by
  induction h with
  | here R => exact .here R
  | last => exact .here []
  | there p h ih => exact .there p ih
  | skip o2 n2 rows2 h ih => exact ih.app _
theorem DelO.none' {n : Nat} {rows : List (List AV)} {L L' : SH} (h : DelO none n rows L L') : L = L' := by
  induction h with
  | here R => rfl
  | last => rfl
  | there p h ih => rw [ih]
  | skip o2 n2 rows2 h ih => rw [ih]
theorem DelO.perm {o : Option Nat} {n : Nat} {rows : List (List AV)} {L L' : SH} (h : DelO o n rows L L') : L.Perm (slotB o n rows ++ L') := by
  cases o with
  | none => rw [h.none']; exact .refl _
  | some b => exact h.some'.perm
theorem Del.mem' {b : Nat} {x : Blk} {L L' : SH} (h : Del b x L L') : (b, x) ∈ L := by
  induction h with
  | here L => simp
  | there p h ih => simp [ih]
section
variable {KL : AV → SH → Prop} {L L' : SH}
theorem a_app_o {o : Option Nat} {i n by_ bX k : Nat} {rows m : List (List AV)} (hX : (bX, (⟨n, m⟩ : Blk)) ∈ L) (hd : DelO o n rows L L') (hr : rows.length = i) (h0 : o = none → rows = []) (hk : k = m.length) (hm : 0 < m.length) (h2 : 2 * (i + m.length) * by_ ≤ 2 ^ 48) (h3 : 2 * (i + m.length) ≤ 2 ^ 62) (h4 : (m.all fun r => r.all AV.one) = true)
    (h : ∀ b, b ∉ L.names → KL (.sl b 0 (i + m.length)) ((b, ⟨n, rows ++ m⟩) :: L')) : W.append n by_ (slotV o i) (.sl bX 0 k) L KL := by
  subst hk
  cases o with
  | none =>
    have hr0 := h0 rfl
    subst hr0
    simp only [List.length_nil] at hr
    subst hr
    have hl := hd.none'
    subst hl
    have := a_app_e (KL := KL) (L := L) (by_ := by_) (rowsR_s hX rfl rfl) (by simpa using h2) (by simpa using h3) h4 (by show m.length ≠ 0; omega) (fun b hb => by simpa using h b hb)
    exact this
  | some b =>
    subst hr
    exact a_app_s (y := ⟨n, rows⟩) (l := rows) hd.some'.mem' rfl (by simp) (by simp) (rowsR_s hX rfl rfl) h2 h3 h4 hd.some' (fun b' hb => h b' hb)
/-- some blocks are kept, in an order of one's own -/
inductive Pick : SH → SH → Prop where
  | nil (L : SH) : Pick L []
  | one {b : Nat} {x : Blk} {L L' R : SH} : Del b x L L' → Pick L' R → Pick L ((b, x) :: R)
  | slot {o : Option Nat} {n : Nat} {rows : List (List AV)} {L L' R : SH} : DelO o n rows L L' → Pick L' R → Pick L (slotB o n rows ++ R)
  | slotl {o : Option Nat} {n : Nat} {rows : List (List AV)} {L L' : SH} : DelO o n rows L L' → Pick L (slotB o n rows)
theorem Pick.perm {L R : SH} (h : Pick L R) : ∃ K, L.Perm (K ++ R) := by
  induction h with
  | nil L => exact ⟨L, by simp⟩
  | one hd hp ih =>
    obtain ⟨K, hK⟩ := ih
    exact ⟨K, (hd.perm.trans ((hK.cons _).trans List.perm_middle.symm))⟩
  | slot hd hp ih =>
    obtain ⟨K, hK⟩ := ih
    refine ⟨K, hd.perm.trans ((hK.append_left _).trans ?_)⟩
    rw [← List.append_assoc, ← List.append_assoc]
    exact List.perm_append_comm.append_right _
  | slotl hd => exact ⟨_, hd.perm.trans List.perm_append_comm⟩
theorem FzS.pick {vs vs2 : List AV} {R : SH} (h : Pick L R) (hv : vs = vs2) : FzS vs L vs2 R := by
  subst hv
  obtain ⟨K, hK⟩ := h.perm
  exact FzS.forget hK
end
end Go.Proofs.Ytadjimfkfmojkaa.Am

end
section
namespace Go.Proofs.Ytadjimfkfmojkaa.Am
set_option linter.unusedVariables false
theorem fit0 : Fit Try.prog (fun _ => none) := ⟨fun t ts h => (by cases h), fit.names, fit.order⟩
theorem closed_pure {f : FuncId} {n : Nat} (hrun : isTrue (callBy Try.prog (exec Try.prog (fun _ => none) n) f [] Heap.empty) = true) : PureA Try.prog f [] (.bool true) := by
  have hd := (goods checkedAll).2
  have hs := callBy_sound (P := Try.prog) hd (fun c τ H e τ' H' dr hx => exec_sound fit0 hd n c τ H e τ' H' dr hx)
  cases hc : callBy Try.prog (exec Try.prog (fun _ => none) n) f [] Heap.empty with
  | none => rw [hc] at hrun; cases hrun
  | some r =>
    obtain ⟨v, H'⟩ := r
    rw [hc] at hrun
    have hv : v = .bool true := by
      unfold isTrue at hrun
      split at hrun
      · rename_i heq; cases heq; rfl
      · cases hrun
    subst hv
    have hV : CallV Try.prog f [] (.bool true) := fun w σ vs hW hvs => (hs.ok _ _ _ _ _ hc w σ vs hW hvs).mono fun e w' ⟨v', σ', he, k1, k2, k3, k4⟩ => ⟨v', σ', H', he, k1, k3⟩
    exact ⟨hs.body _ _ _ _ _ hc, fun H hb hS => ⟨.bool true, H, [], lift (.bool true) (fun i a h => by simp at h) hV H, .refl hb hS, rfl, rfl⟩⟩
set_option maxRecDepth 1000000 in
theorem awake08 : PureA Try.prog 23 [] (.bool true) := closed_pure (n := 1000) (by kernel_rfl)
end Go.Proofs.Ytadjimfkfmojkaa.Am

end
section
namespace Go.Proofs.Ytadjimfkfmojkaa.Am
set_option maxRecDepth 100000
set_option linter.unusedSimpArgs false
set_option linter.unusedVariables false
theorem CallA.trim {P : Program} {f : FuncId} {args : List AV} {Q : AV → SH → Prop} {b n : Nat} {rows rows2 extra : List (List AV)} (he : rows = rows2 ++ extra) (h : CallA P f args [(b, ⟨n, rows2⟩)] Q) : CallA P f args [(b, ⟨n, rows⟩)] Q := by
  subst he
  refine ⟨h.1, fun H hb hs => ?_⟩
  have hg : H.get b = some ⟨n, rows2 ++ extra⟩ := hs.get (b, ⟨n, rows2 ++ extra⟩) (by simp)
  have hget : ∀ c, (H.put b (some ⟨n, rows2⟩)).get c = if b = c then some ⟨n, rows2⟩ else H.get c := fun c => Heap.get_put _ _ _ _
  have hne : ∀ c, c ≠ b → (H.put b (some ⟨n, rows2⟩)).get c = H.get c := fun c hc => by rw [hget, if_neg (fun e => hc e.symm)]
  have hb2 : Bd (H.put b (some ⟨n, rows2⟩)) := fun c hc => by
    rw [hne]; exact hb c hc
    rintro rfl; rw [hb _ hc] at hg; cases hg
  obtain ⟨v, H', L', h1, h2, h3⟩ := h.2 (H.put b (some ⟨n, rows2⟩)) hb2 ⟨by simp, fun p hp => by simp only [List.mem_singleton] at hp; subst hp; rw [hget, if_pos rfl]⟩
  refine ⟨v, H', L', fun w σ vs hW hvs => ?_, ⟨h2.next, h2.bd, h2.sub, fun c x hc hn => h2.keep c x (by rw [hne]; exact hc; rintro rfl; exact hn (by simp)) (by simpa using hn), fun c hc h0 => h2.dom c hc (by
      rw [hne]; exact h0
      rintro rfl; rw [hg] at h0; cases h0), fun c hc hlt => by have := h2.fresh c hc hlt; simpa using this⟩, h3⟩
  obtain ⟨pl, cs, e, g1, g2⟩ := hW.live b _ hg
  have hrow : ∀ (i : Nat) (r : List AV), rows2[i]? = some r → (rows2 ++ extra)[i]? = some r := fun i r hr => by
    rw [List.getElem?_append_left (lt_of_some hr)]; exact hr
  obtain ⟨p1, p2⟩ := hW.put hg g1 (Wrote.refl g2.block) (x' := ⟨n, rows2⟩) g2.size.symm (fun i r hr => g2.even i r (hrow i r hr)) (by have := g2.room; simp only [List.length_append] at this; have h0 : rows2.length * n ≤ (rows2.length + extra.length) * n := Nat.mul_le_mul_right _ (by omega); simp only; omega) (fun i r j a u hr hj hu => g2.rep i r j a u (hrow i r hr) hj hu)
  have hown : ∀ c, Own σ (H.put b (some ⟨n, rows2⟩)) c → Own σ H c := by
    rintro c (h | ⟨b', x, pl', k1, k2, k3⟩)
    · exact .inl h
    · by_cases hbb : b' = b
      · subst hbb; exact .inr ⟨b', _, pl', hg, k2, k3⟩
      · rw [hne _ hbb] at k1; exact .inr ⟨b', x, pl', k1, k2, k3⟩
  refine (h1 w σ vs p1 ⟨hvs.1, fun i a u q1 q2 => (hvs.2 i a u q1 q2).shrink hown⟩).mono ?_
  rintro e w' ⟨v', σ', rfl, k1, k2, k3, k4⟩
  exact ⟨v', σ', rfl, k1, k2, ⟨k3.os, k3.tape, k3.output, k3.size, fun c hc hT => k3.keep c hc (fun h => hT (hown c h)), k3.shape, k3.sig, k3.eqfr, k3.frame, fun c hc => (k3.own c hc).imp (hown c) id⟩, fun c pl hc => k4 c pl hc⟩
theorem split_take {xs l : List Int} {m : Nat} (h : xs.take m = l) : xs.map intE = l.map intE ++ (xs.drop m).map intE := by
  rw [← h, ← List.map_append, List.take_append_drop]
/-- Sort of the first part of a block -/
theorem sort_pre (b : Nat) (xs l : List Int) (h : xs.take l.length = l) (hl : l.length < 4611686018427387904) : CallA Try.prog 40 [.sl b 0 l.length] [(b, ⟨1, xs.map intE⟩)] fun v L => v = .tup [] ∧ L = [(b, ⟨1, (srt l).map intE⟩)] :=
  CallA.trim (split_take h) (sort_ok b l hl)
def isNils : Option (AV × Heap) → Bool
  | some (.nils, _) => true
  | _ => false
def isTup0 : Option (AV × Heap) → Bool
  | some (.tup [], _) => true
  | _ => false
theorem closed_args {f : FuncId} {n : Nat} {args : List AV} {v : AV} {H' : Heap} (hc : callBy Try.prog (exec Try.prog (fun _ => none) n) f args Heap.empty = some (v, H')) (ha : ∀ (i : Nat) (a : AV), args[i]? = some a → PureV a) (hv : PureV v) : PureA Try.prog f args v := by
  have hd := (goods checkedAll).2
  have hs := callBy_sound (P := Try.prog) hd (fun c τ H e τ' H' dr hx => exec_sound fit0 hd n c τ H e τ' H' dr hx)
  have hV : CallV Try.prog f args v := fun w σ vs hW hvs => (hs.ok _ _ _ _ _ hc w σ vs hW hvs).mono fun e w' ⟨v', σ', he, k1, k2, k3, k4⟩ => ⟨v', σ', H', he, k1, k3⟩
  exact ⟨hs.body _ _ _ _ _ hc, fun H hb hS => ⟨v, H, [], lift hv ha hV H, .refl hb hS, rfl, rfl⟩⟩
set_option maxRecDepth 1000000 in
theorem sort_nil : PureA Try.prog 40 [.nils] (.tup []) := by
  have hrun : isTup0 (callBy Try.prog (exec Try.prog (fun _ => none) 1000) 40 [.nils] Heap.empty) = true := by kernel_rfl
  cases hc : callBy Try.prog (exec Try.prog (fun _ => none) 1000) 40 [.nils] Heap.empty with
  | none => rw [hc] at hrun; cases hrun
  | some r =>
    obtain ⟨v, H'⟩ := r
    have hv : v = .tup [] := by
      rw [hc] at hrun
      unfold isTup0 at hrun
      split at hrun
      · rename_i heq; cases heq; rfl
      · cases hrun
    subst hv
    exact closed_args hc (fun i a h => by match i with | 0 => cases h; exact .nils | i + 1 => simp at h) (.tup [] (fun i a h => by simp at h))
set_option maxRecDepth 1000000 in
theorem compact_nil : PureA Try.prog 41 [.nils] .nils := by
  have hrun : isNils (callBy Try.prog (exec Try.prog (fun _ => none) 1000) 41 [.nils] Heap.empty) = true := by kernel_rfl
  cases hc : callBy Try.prog (exec Try.prog (fun _ => none) 1000) 41 [.nils] Heap.empty with
  | none => rw [hc] at hrun; cases hrun
  | some r =>
    obtain ⟨v, H'⟩ := r
    have hv : v = .nils := by
      rw [hc] at hrun
      unfold isNils at hrun
      split at hrun
      · rename_i heq; cases heq; rfl
      · cases hrun
    subst hv
    exact closed_args hc (fun i a h => by match i with | 0 => cases h; exact .nils | i + 1 => simp at h) .nils
theorem indexFunc_nil (g : FuncId) (cs : List AV) : PureA Try.prog 78 [.nils, .fn g cs] (.int .i64 (-1)) := by
  refine slices_IndexFunc___int_int__ok _ _ _ _ ?_
  unfold slices_IndexFunc___int_int__w
  repeat' (first | (refine h_len ?_; refine a_len_n ?_))
  refine for_by 0 (fun i => ([.nils, .fn g cs, .int .i64 (0 : Nat), .int .i64 (i : Nat)], [])) (fun _ => True) trivial rfl rfl ?_
  intro i hi _
  obtain rfl : i = 0 := by omega
  dsimp only
  unfold slices_IndexFunc___int_int__l1
  repeat' (first | (refine h_bin ?_; refine a_lss ?_) | (refine h_cond ?_; refine b_cond_f ?_))
  exact ⟨rfl, rfl⟩
theorem deleteFunc_nil (g : FuncId) (cs : List AV) : PureA Try.prog 48 [.nils, .fn g cs] .nils := by
  refine slices_DeleteFunc___int_int__ok _ _ _ _ ?_
  unfold slices_DeleteFunc___int_int__w
  repeat' (first | (refine h_bin ?_; refine a_eql ?_) | (refine h_cond ?_; refine b_cond_t ?_) | refine a_mark ?_ | ((with_reducible refine h_fn 78 ?_); refine m_call (indexFunc_nil _ _) ?_))
  exact ⟨rfl, rfl⟩
end Go.Proofs.Ytadjimfkfmojkaa.Am

end
section
namespace Go.Proofs.Ytadjimfkfmojkaa.Am
set_option maxRecDepth 100000
set_option linter.unusedSimpArgs false
set_option linter.unusedVariables false
set_option linter.unusedSectionVars false
def rawB (w : WorldD) (s : SyncD) (t k o : Int) : List Int :=
  if k = 6 ∨ k = 8 then [(lockAt s o).owner] else if k = 10 then (lockAt s o).owner :: (lockAt s o).readers else if k = 17 then [(lockAt s (mxAt w o)).owner]
  else if k = 21 then (if decide (o ≠ t) && decide ((thrAt s o).status ≠ 5) then [o] else []) else []
def blockersS (w : WorldD) (s : SyncD) (t k o : Int) : List Int := if fitsS w s && inB t w.threads.length && allowedS w k o then asc ((rawB w s t k o).filter fun x => inB x w.threads.length) else []
theorem blk1_ok (w : WorldD) : PredA Try.prog 62 [.pptr [w.enc] 0 0] (fun x => !inB x w.threads.length) := fun x => by
  refine object_Blockers_1_ok _ _ _ _ ?_
  unfold object_Blockers_1_w
  repeat' (first | (refine h_load1 ?_; refine b_load_q ?_) | (refine h_faddr ?_; refine a_faddr_q ?_) | (refine h_len ?_; refine a_len_m ?_) | refine a_mark ?_ | ((with_reducible refine h_fn 52 ?_); refine m_call (within_ok _ _) ?_) | (refine h_un ?_; refine a_not ?_))
  exact ⟨rfl, rfl⟩
theorem a_app_sm {α : Type} {f : α → List AV} {l : List α} {b i n by_ : Nat} {rows : List (List AV)} {L L' : SH} {KL : AV → SH → Prop} (hd : Del b ⟨n, rows⟩ L L') (hn : ∀ x, (f x).length = n) (hr : rows.length = i) (h2 : 2 * (i + l.length) * by_ ≤ 2 ^ 48) (h3 : 2 * (i + l.length) ≤ 2 ^ 62) (h4 : ∀ x, (f x).all AV.one = true)
    (h : ∀ b', b' ∉ L.names → KL (.sl b' 0 (i + l.length)) ((b', ⟨n, rows ++ l.map f⟩) :: L')) : W.append n by_ (.sl b 0 i) (.lst (l.map f)) L KL := by
  have h4' : ((l.map f).all fun r => r.all AV.one) = true := by
    rw [List.all_eq_true]
    intro r hr
    obtain ⟨x, _, rfl⟩ := List.mem_map.1 hr
    exact h4 x
  subst hr
  exact a_app_s (y := ⟨n, rows⟩) (l := rows) hd.mem' rfl (by simp) (by simp) (rowsR_m hn) (by simpa using h2) (by simpa using h3) h4' hd (fun b' hb => by simpa using h b' hb)
theorem filter_nn (l : List Int) (p : Int → Bool) : (l.filter fun x => !!p x) = l.filter p := by congr 1; funext x; simp
/-- behind the switch: a list in a block -/
theorem blk_j2 (w : WorldD) (raw : List Int) (hr : raw.length < 2 ^ 41) (b : Nat) (L L' : SH) (hd : Del b ⟨1, raw.map intE⟩ L L') (Q : AV → SH → Prop) (hq : ∀ v K, Fz K v (.lst ((asc (raw.filter fun x => inB x w.threads.length)).map intE)) → Q v K) : object_Blockers_j2 Q [.pptr [w.enc] 0 0, .sl b 0 raw.length] L := by
  unfold object_Blockers_j2
  have h1 := deleteFunc_ok 62 [.pptr [w.enc] 0 0] _ (blk1_ok w) b raw (by omega)
  rw [filter_nn] at h1
  have hfl : (raw.filter fun x => inB x w.threads.length).length ≤ raw.length := List.length_filter_le _ _
  generalize hf : (raw.filter fun x => inB x w.threads.length) = fl at *
  have h3 := compact_ok b (srt fl) (by rw [srt_len]; omega)
  rw [srt_len] at h3
  repeat' (first | refine a_mark ?_ | ((with_reducible refine h_fn 48 ?_); (refine m_callD h1 hd ?_; rintro _ _ ⟨R, rfl, rfl, hR1, hR2⟩; have h2 := sort_pre b R fl hR1 (by omega))) | ((with_reducible refine h_fn 40 ?_); (refine m_callD h2 (.here _) ?_; rintro _ _ ⟨rfl, rfl⟩)) | ((with_reducible refine h_fn 41 ?_); (refine m_callD h3 (.here _) ?_; rintro _ _ ⟨rfl, rfl⟩)))
  refine hq _ _ ?_
  show Fz _ (.sl b 0 (asc fl).length) (.lst ((asc fl).map intE))
  rw [show (asc fl).map intE = ((((Lib.compact (srt fl) ++ List.replicate (fl.length - (Lib.compact (srt fl)).length) 0).map intE).drop 0).take (asc fl).length) from (take_map (List.take_left' rfl)).symm]
  exact Fz.rows (x := ⟨1, _⟩) (by repeat constructor) (by simp) (by simp [asc])
theorem asc_nil : asc [] = [] := List.eq_nil_iff_forall_not_mem.2 fun x hx => by
  have := (asc_mem [] x).1 hx
  cases this
theorem blk_j2n (w : WorldD) (L : SH) (Q : AV → SH → Prop) (hq : ∀ v K, Fz K v (.lst ((asc []).map intE)) → Q v K) : object_Blockers_j2 Q [.pptr [w.enc] 0 0, .nils] L := by
  unfold object_Blockers_j2
  repeat' (first | refine a_mark ?_ | ((with_reducible refine h_fn 48 ?_); refine m_call (deleteFunc_nil _ _) ?_) | ((with_reducible refine h_fn 40 ?_); refine m_call (sort_nil) ?_) | ((with_reducible refine h_fn 41 ?_); refine m_call (compact_nil) ?_))
  rw [asc_nil] at hq
  exact hq _ _ .nils
theorem h_blkj2 {Q : AV → SH → Prop} {vs : List AV} {L : SH} (h : object_Blockers_j2 Q vs L) : object_Blockers_j2 Q vs L := h
section
variable (w : WorldD) (s : SyncD) (t o : Int) (hf : FitD w s) (ht : inB t w.threads.length = true) (hr : ∀ l ∈ s.locks, l.readers.length < 2 ^ 40) (Q : AV → SH → Prop)
include hf ht hr
theorem blk_6 (k : Int) (hk : k = 6 ∨ k = 8) (ha : allowedS w k o = true) (hq : ∀ v K, Fz K v (.lst ((asc ((rawB w s t k o).filter fun x => inB x w.threads.length)).map intE)) → Q v K) :
    object_Blockers_zt8 Q (.int .i64 k) (.int .i64 t) (.int .i64 o) (.pptr [w.enc] 0 0) (.pptr [s.enc] 0 0) [] := by
  have hl : inB o s.locks.length = true := by rw [hf.locks]; rcases hk with rfl | rfl <;> (simp [allowedS] at ha; exact ha.1)
  have hx := at_inB (f := LockD.enc) hl
  obtain ⟨o0, o1⟩ := inB_iff.1 hl
  unfold object_Blockers_zt8
  unfold rawB lockAt at hq
  rw [if_pos hk] at hq
  rcases hk with rfl | rfl
  all_goals
    repeat' (first | ((with_reducible refine h_blkj2 ?_); exact blk_j2 w [_] (by simp) _ _ _ (by repeat constructor) Q hq) | (refine h_load1 ?_; refine b_load_q ?_) | (refine h_faddr ?_; refine a_faddr_q ?_) | (refine h_bin ?_; refine a_eql ?_) | (refine h_cond ?_; first | refine b_cond_t ?_ | refine b_cond_f ?_) | (refine h_idx ?_; refine b_idx_l ?_) | refine a_app_n (rowsR_s (.head _) rfl rfl) (by simp) (by simp) rfl (by simp) (fun nb_ hnb_ => ?_) | (refine h_bslice ?_; refine b_bslice (fun nb_ hnb_ => ?_)) | refine a_join ?_)
theorem blk_10 (ha : allowedS w 10 o = true) (hq : ∀ v K, Fz K v (.lst ((asc ((rawB w s t 10 o).filter fun x => inB x w.threads.length)).map intE)) → Q v K) :
    object_Blockers_zt8 Q (.int .i64 10) (.int .i64 t) (.int .i64 o) (.pptr [w.enc] 0 0) (.pptr [s.enc] 0 0) [] := by
  have hl : inB o s.locks.length = true := by rw [hf.locks]; simp [allowedS] at ha; exact ha.1
  have hx := at_inB (f := LockD.enc) hl
  have hrd : (lockAt s o).readers.length < 2 ^ 40 := by
    obtain ⟨o0, o1⟩ := inB_iff.1 hl
    have hlt : o.toNat < s.locks.length := by omega
    unfold lockAt
    rw [show s.locks.getD o.toNat default = s.locks[o.toNat] by simp [hlt]]
    exact hr _ (List.getElem_mem hlt)
  obtain ⟨o0, o1⟩ := inB_iff.1 hl
  unfold object_Blockers_zt8
  unfold rawB at hq
  rw [if_neg (by decide), if_pos rfl] at hq
  unfold lockAt at hq hrd
  have hj : ∀ (b : Nat) (L L' : SH) (hd : Del b ⟨1, [[.int .i64 (s.locks.getD o.toNat default).owner]] ++ (s.locks.getD o.toNat default).readers.map intE⟩ L L'), object_Blockers_j2 Q [.pptr [w.enc] 0 0, .sl b 0 (1 + (s.locks.getD o.toNat default).readers.length)] L := fun b L L' hd => by
    have := blk_j2 w ((s.locks.getD o.toNat default).owner :: (s.locks.getD o.toNat default).readers) (by rw [List.length_cons]; omega) b L L' hd Q hq
    rw [List.length_cons, Nat.add_comm] at this
    exact this
  repeat' (first | ((with_reducible refine h_blkj2 ?_); exact hj _ _ _ (by repeat constructor)) | (refine h_load1 ?_; refine b_load_q ?_) | (refine h_faddr ?_; refine a_faddr_q ?_) | (refine h_bin ?_; refine a_eql ?_) | (refine h_cond ?_; first | refine b_cond_t ?_ | refine b_cond_f ?_) | (refine h_idx ?_; refine b_idx_l ?_) | refine a_app_n (rowsR_s (.head _) rfl rfl) (by simp) (by simp) rfl (by simp) (fun nb_ hnb_ => ?_) | refine a_app_sm (i := 1) (rows := [[.int .i64 (s.locks.getD o.toNat default).owner]]) (.here _) (fun _ => rfl) (by rfl) (by omega) (by omega) (fun _ => rfl) (fun nb_ hnb_ => ?_) | (refine h_bslice ?_; refine b_bslice (fun nb_ hnb_ => ?_)) | refine a_join ?_)
theorem blk_17 (ha : allowedS w 17 o = true) (hq : ∀ v K, Fz K v (.lst ((asc ((rawB w s t 17 o).filter fun x => inB x w.threads.length)).map intE)) → Q v K) :
    object_Blockers_zt8 Q (.int .i64 17) (.int .i64 t) (.int .i64 o) (.pptr [w.enc] 0 0) (.pptr [s.enc] 0 0) [] := by
  have hc : inB o w.conds.length = true := by simpa [allowedS] using ha
  have hy := at_inB (f := CondI.enc) hc
  have hl := mx_in hf hc
  unfold mxAt at hl
  have hx := at_inB (f := LockD.enc) hl
  unfold object_Blockers_zt8
  unfold rawB mxAt lockAt at hq
  rw [if_neg (by decide), if_neg (by decide), if_pos rfl] at hq
  repeat' (first | ((with_reducible refine h_blkj2 ?_); exact blk_j2 w [_] (by simp) _ _ _ (by repeat constructor) Q hq) | (refine h_load1 ?_; refine b_load_q ?_) | (refine h_faddr ?_; refine a_faddr_q ?_) | (refine h_bin ?_; refine a_eql ?_) | (refine h_cond ?_; first | refine b_cond_t ?_ | refine b_cond_f ?_) | (refine h_idx ?_; refine b_idx_i ?_) | (refine h_calm ?_; refine b_calm ?_) | (refine h_note ?_; refine a_note ?_) | refine a_app_n (rowsR_s (.head _) rfl rfl) (by simp) (by simp) rfl (by simp) (fun nb_ hnb_ => ?_) | (refine h_bslice ?_; refine b_bslice (fun nb_ hnb_ => ?_)) | refine a_join ?_ | refine a_tt ?_)
theorem blk_21 (ha : allowedS w 21 o = true) (hq : ∀ v K, Fz K v (.lst ((asc ((rawB w s t 21 o).filter fun x => inB x w.threads.length)).map intE)) → Q v K) :
    object_Blockers_zt8 Q (.int .i64 21) (.int .i64 t) (.int .i64 o) (.pptr [w.enc] 0 0) (.pptr [s.enc] 0 0) [] := by
  have hl : inB o s.threads.length = true := by rw [hf.threads]; simpa [allowedS] using ha
  have hx := at_inB (f := ThrD.enc) hl
  unfold object_Blockers_zt8
  unfold rawB thrAt at hq
  rw [if_neg (by decide), if_neg (by decide), if_neg (by decide), if_pos rfl] at hq
  cases h1 : decide (o ≠ t) with
  | false =>
    rw [h1] at hq
    simp only [Bool.false_and, Bool.false_eq_true, if_false, List.filter_nil] at hq
    repeat' (first | ((with_reducible refine h_blkj2 ?_); exact blk_j2n w _ Q hq) | (refine h_bin ?_; first | refine a_eql ?_ | refine a_neq ?_) | (refine h_cond ?_; first | refine b_cond_t ?_ | refine b_cond_f ?_) | (refine h_pick ?_; refine b_pick_f ?_) | (refine h_grd ?_; refine b_grd_n ?_) | refine a_join ?_)
  | true =>
    rw [h1] at hq
    cases h2 : decide ((s.threads.getD o.toNat default).status ≠ 5) with
    | false =>
      rw [h2] at hq
      simp only [Bool.and_false, Bool.false_eq_true, if_false, List.filter_nil] at hq
      repeat' (first | ((with_reducible refine h_blkj2 ?_); exact blk_j2n w _ Q hq) | (refine h_load1 ?_; refine b_load_q ?_) | (refine h_faddr ?_; refine a_faddr_q ?_) | (refine h_bin ?_; first | refine a_eql ?_ | refine a_neq ?_) | (refine h_cond ?_; first | refine b_cond_t ?_ | refine b_cond_f ?_) | (refine h_idx ?_; refine b_idx_i ?_) | (refine h_pick ?_; refine b_pick_t ?_) | (refine h_grd ?_; refine b_grd_y ?_) | refine a_join ?_)
    | true =>
      rw [h2] at hq
      repeat' (first | ((with_reducible refine h_blkj2 ?_); exact blk_j2 w [_] (by simp) _ _ _ (by repeat constructor) Q hq) | (refine h_load1 ?_; refine b_load_q ?_) | (refine h_faddr ?_; refine a_faddr_q ?_) | (refine h_bin ?_; first | refine a_eql ?_ | refine a_neq ?_) | (refine h_cond ?_; first | refine b_cond_t ?_ | refine b_cond_f ?_) | (refine h_idx ?_; refine b_idx_i ?_) | (refine h_pick ?_; refine b_pick_t ?_) | (refine h_grd ?_; refine b_grd_y ?_) | refine a_app_n (rowsR_s (.head _) rfl rfl) (by simp) (by simp) rfl (by simp) (fun nb_ hnb_ => ?_) | (refine h_bslice ?_; refine b_bslice (fun nb_ hnb_ => ?_)) | refine a_join ?_)
theorem blk_o (k : Int) (h6 : k ≠ 6) (h8 : k ≠ 8) (h10 : k ≠ 10) (h17 : k ≠ 17) (h21 : k ≠ 21) (hq : ∀ v K, Fz K v (.lst ((asc ((rawB w s t k o).filter fun x => inB x w.threads.length)).map intE)) → Q v K) :
    object_Blockers_zt8 Q (.int .i64 k) (.int .i64 t) (.int .i64 o) (.pptr [w.enc] 0 0) (.pptr [s.enc] 0 0) [] := by
  unfold object_Blockers_zt8
  unfold rawB at hq
  rw [if_neg (by omega), if_neg h10, if_neg h17, if_neg h21, List.filter_nil] at hq
  have d6 : decide (k = 6) = false := decide_eq_false h6
  have d8 : decide (k = 8) = false := decide_eq_false h8
  have d10 : decide (k = 10) = false := decide_eq_false h10
  have d17 : decide (k = 17) = false := decide_eq_false h17
  have d21 : decide (k = 21) = false := decide_eq_false h21
  repeat' (first | ((with_reducible refine h_blkj2 ?_); exact blk_j2n w _ Q hq) | (refine h_bin ?_; refine a_eql ?_) | (refine h_cond ?_; refine b_cond_f ?_) | refine a_join ?_)
end
theorem h_blkzt {Q : AV → SH → Prop} {a b c d e : AV} {L : SH} (h : object_Blockers_zt8 Q a b c d e L) : object_Blockers_zt8 Q a b c d e L := h
theorem blockers_ok (w : WorldD) (s : SyncD) (t k o : Int) (hc : w.conds.length < 2 ^ 62) (hr : ∀ l ∈ s.locks, l.readers.length < 2 ^ 40) : PureA Try.prog 35 [.agg w.enc, .agg s.enc, .int .i64 t, .int .i64 k, .int .i64 o] (.lst ((blockersS w s t k o).map intE)) := by
  refine CallA.fz (object_Blockers_ok _ _ _ _ _ _ _ ?_)
  generalize hQ : (fun (v : AV) (L : SH) => ∃ v2 L2, FzS [v] L [v2] L2 ∧ v2 = AV.lst ((blockersS w s t k o).map intE) ∧ L2 = []) = Q
  have no : (fitsS w s && inB t w.threads.length && allowedS w k o) = false → ∀ L, Q .nils L := fun h L => by
    subst hQ
    refine ⟨_, [], FzS.all .nils, ?_, rfl⟩
    unfold blockersS; rw [h]; rfl
  have yes : (fitsS w s && inB t w.threads.length && allowedS w k o) = true → ∀ v K, Fz K v (.lst ((asc ((rawB w s t k o).filter fun x => inB x w.threads.length)).map intE)) → Q v K := fun h v K hz => by
    subst hQ
    refine ⟨_, [], FzS.all hz, ?_, rfl⟩
    unfold blockersS; rw [h]; rfl
  clear hQ
  unfold object_Blockers_w
  cases h1 : fitsS w s with
  | false =>
    have nh1 : (!fitsS w s) = true := by rw [h1]; rfl
    have no := no (by rw [h1]; rfl)
    repeat' (first | (refine h_cond ?_; refine b_cond_t ?_) | (refine h_row ?_; refine b_row_q ?_) | (refine h_pick ?_; refine b_pick_t ?_) | (refine h_grd ?_; refine b_grd_n ?_) | refine a_mark ?_ | ((with_reducible refine h_fn 37 ?_); refine m_call (fits_ok _ _ hc) ?_) | (refine h_un ?_; refine a_not ?_) | (refine h_box ?_; refine b_box (fun nb_ hnb_ => ?_)) | (refine h_frz1 ?_; refine b_frz_p ?_))
    exact no _
  | true =>
    have nh1 : (!fitsS w s) = false := by rw [h1]; rfl
    cases h2 : inB t w.threads.length with
    | false =>
      have nh2 : (!inB t w.threads.length) = true := by rw [h2]; rfl
      have no := no (by rw [h2, h1]; rfl)
      repeat' (first | (refine h_load1 ?_; refine b_load_q ?_) | (refine h_faddr ?_; refine a_faddr_q ?_) | (refine h_cond ?_; refine b_cond_t ?_) | (refine h_row ?_; refine b_row_q ?_) | (refine h_len ?_; refine a_len_m ?_) | (refine h_pick ?_; first | refine b_pick_t ?_ | refine b_pick_f ?_) | (refine h_grd ?_; first | refine b_grd_y ?_ | refine b_grd_n ?_) | refine a_mark ?_ | ((with_reducible refine h_fn 37 ?_); refine m_call (fits_ok _ _ hc) ?_) | ((with_reducible refine h_fn 52 ?_); refine m_call (within_ok _ _) ?_) | (refine h_un ?_; refine a_not ?_) | (refine h_box ?_; refine b_box (fun nb_ hnb_ => ?_)) | (refine h_frz1 ?_; refine b_frz_p ?_))
      exact no _
    | true =>
      have nh2 : (!inB t w.threads.length) = false := by rw [h2]; rfl
      cases h3 : allowedS w k o with
      | false =>
        have nh3 : (!allowedS w k o) = true := by rw [h3]; rfl
        have no := no (by rw [h2, h1, h3]; rfl)
        repeat' (first | (refine h_load1 ?_; refine b_load_q ?_) | (refine h_faddr ?_; refine a_faddr_q ?_) | (refine h_cond ?_; refine b_cond_t ?_) | (refine h_row ?_; refine b_row_q ?_) | (refine h_len ?_; refine a_len_m ?_) | (refine h_pick ?_; refine b_pick_f ?_) | (refine h_grd ?_; refine b_grd_y ?_) | refine a_mark ?_ | ((with_reducible refine h_fn 37 ?_); refine m_call (fits_ok _ _ hc) ?_) | ((with_reducible refine h_fn 52 ?_); refine m_call (within_ok _ _) ?_) | ((with_reducible refine h_fn 53 ?_); refine m_call (allowed_ok _ _ _) ?_) | (refine h_un ?_; refine a_not ?_) | (refine h_box ?_; refine b_box (fun nb_ hnb_ => ?_)) | (refine h_frz1 ?_; refine b_frz_p ?_))
        exact no _
      | true =>
        have nh3 : (!allowedS w k o) = false := by rw [h3]; rfl
        have hq := yes (by rw [h2, h1, h3]; rfl)
        have hf := fitsS_iff.1 h1
        have key : object_Blockers_zt8 Q (.int .i64 k) (.int .i64 t) (.int .i64 o) (.pptr [w.enc] 0 0) (.pptr [s.enc] 0 0) [] := by
          by_cases k6 : k = 6 ∨ k = 8
          · exact blk_6 w s t o hf h2 hr Q k k6 h3 hq
          by_cases k10 : k = 10
          · subst k10; exact blk_10 w s t o hf h2 hr Q h3 hq
          by_cases k17 : k = 17
          · subst k17; exact blk_17 w s t o hf h2 hr Q h3 hq
          by_cases k21 : k = 21
          · subst k21; exact blk_21 w s t o hf h2 hr Q h3 hq
          exact blk_o w s t o hf h2 hr Q k (by omega) (by omega) k10 k17 k21 hq
        clear yes no
        repeat' (first | ((with_reducible refine h_blkzt ?_); exact key) | (refine h_load1 ?_; refine b_load_q ?_) | (refine h_faddr ?_; refine a_faddr_q ?_) | (refine h_cond ?_; refine b_cond_f ?_) | (refine h_row ?_; refine b_row_q ?_) | (refine h_len ?_; refine a_len_m ?_) | (refine h_pick ?_; refine b_pick_f ?_) | (refine h_grd ?_; refine b_grd_y ?_) | refine a_mark ?_ | ((with_reducible refine h_fn 37 ?_); refine m_call (fits_ok _ _ hc) ?_) | ((with_reducible refine h_fn 52 ?_); refine m_call (within_ok _ _) ?_) | ((with_reducible refine h_fn 53 ?_); refine m_call (allowed_ok _ _ _) ?_) | (refine h_un ?_; refine a_not ?_) | (refine h_box ?_; refine b_box (fun nb_ hnb_ => ?_)) | (refine h_frz1 ?_; refine b_frz_p ?_))
end Go.Proofs.Ytadjimfkfmojkaa.Am

end
section
namespace Go.Proofs.Ytadjimfkfmojkaa.Am
set_option maxRecDepth 100000
set_option linter.unusedSimpArgs false
set_option linter.unusedVariables false
set_option linter.unusedSectionVars false
def lows (l : List Int) (n : Int) : List Int := l.takeWhile fun x => decide (x < n)
def highs (l : List Int) (n : Int) : List Int := l.dropWhile fun x => decide (x < n)
def putS (l : List Int) (n : Int) : List Int := if (highs l n).head? = some n then l else lows l n ++ n :: highs l n
/-- all numbers of a list put into another one -/
def puts (l m : List Int) : List Int := m.foldl putS l
end Go.Proofs.Ytadjimfkfmojkaa.Am

end
section
namespace Go.Proofs.Ytadjimfkfmojkaa.Am
set_option maxRecDepth 100000
set_option linter.unusedSimpArgs false
set_option linter.unusedVariables false
/-- the indices below n where something holds -/
def wh (p : Nat → Bool) (n : Nat) : List Int := ((List.range n).filter p).map fun i : Nat => (i : Int)
theorem wh_succ (p : Nat → Bool) (n : Nat) : wh p (n + 1) = if p n then wh p n ++ [(n : Int)] else wh p n := by
  unfold wh
  rw [List.range_succ, List.filter_append, List.map_append]
  by_cases h : p n <;> simp [h]
theorem wh_len (p : Nat → Bool) (n : Nat) : (wh p n).length ≤ n := by
  unfold wh
  rw [List.length_map]
  exact Nat.le_trans (List.length_filter_le _ _) (by simp)
def ownsS (s : SyncD) (t : Int) (i : Nat) : Bool := decide ((s.locks.getD i default).owner = t)
def readsS (s : SyncD) (t : Int) (i : Nat) : Bool := (s.locks.getD i default).readers.contains t
def holdsS (w : WorldD) (s : SyncD) (t : Int) : List Int × List Int := if fitsS w s && inB t w.threads.length then (wh (ownsS s t) s.locks.length, wh (readsS s t) s.locks.length) else ([], [])
def encH (p : List Int × List Int) : AV := .tup [.lst (p.1.map intE), .lst (p.2.map intE)]
theorem fz_ints {K : SH} {o : Option Nat} {l : List Int} {n : Nat} (h0 : o = none → l = []) (hn : n = l.length) (hm : ∀ p ∈ slotB o 1 (l.map intE), p ∈ K) : Fz K (slotV o n) (.lst (l.map intE)) := by
  subst hn
  cases o with
  | none => rw [h0 rfl]; exact .emp
  | some b => exact Fz.sls (hm _ (List.mem_singleton.2 rfl)) rfl (by decide) rfl
section
variable (w : WorldD) (s : SyncD) (t : Int)
theorem holds_ok (hc : w.conds.length < 2 ^ 62) (hl : s.locks.length < 2 ^ 40) (hr : ∀ l ∈ s.locks, l.readers.length < 2 ^ 40) : PureA Try.prog 32 [.agg w.enc, .agg s.enc, .int .i64 t] (encH (holdsS w s t)) := by
  refine CallA.fz (object_Holds_ok _ _ _ _ _ ?_)
  unfold object_Holds_w
  have no : (fitsS w s && inB t w.threads.length) = false → ∀ L, ∃ v2 L2, FzS [AV.tup [.nils, .nils]] L [v2] L2 ∧ v2 = encH (holdsS w s t) ∧ L2 = [] := fun h L => by
    refine ⟨_, [], FzS.all (Fz.tups (.cons .nils (.cons .nils .nil))), ?_, rfl⟩
    unfold holdsS; rw [h]; rfl
  generalize hQ : (fun (v : AV) (L : SH) => ∃ v2 L2, FzS [v] L [v2] L2 ∧ v2 = encH (holdsS w s t) ∧ L2 = []) = Q at *
  cases h1 : fitsS w s with
  | false =>
    have nh1 : (!fitsS w s) = true := by rw [h1]; rfl
    have no := no (by rw [h1]; rfl)
    repeat' (first | (refine h_cond ?_; refine b_cond_t ?_) | (refine h_row ?_; refine b_row_q ?_) | (refine h_pick ?_; refine b_pick_t ?_) | (refine h_grd ?_; refine b_grd_n ?_) | refine a_mark ?_ | ((with_reducible refine h_fn 37 ?_); refine m_call (fits_ok _ _ hc) ?_) | (refine h_un ?_; refine a_not ?_) | (refine h_box ?_; refine b_box (fun nb_ hnb_ => ?_)) | (refine h_frz1 ?_; refine b_frz_p ?_))
    subst hQ; exact no _
  | true =>
    have nh1 : (!fitsS w s) = false := by rw [h1]; rfl
    cases h2 : inB t w.threads.length with
    | false =>
      have nh2 : (!inB t w.threads.length) = true := by rw [h2]; rfl
      have no := no (by rw [h2, Bool.and_false])
      repeat' (first | (refine h_load1 ?_; refine b_load_q ?_) | (refine h_faddr ?_; refine a_faddr_q ?_) | (refine h_cond ?_; refine b_cond_t ?_) | (refine h_row ?_; refine b_row_q ?_) | (refine h_len ?_; refine a_len_m ?_) | (refine h_pick ?_; refine b_pick_f ?_) | (refine h_grd ?_; refine b_grd_y ?_) | refine a_mark ?_ | ((with_reducible refine h_fn 37 ?_); refine m_call (fits_ok _ _ hc) ?_) | ((with_reducible refine h_fn 52 ?_); refine m_call (within_ok _ _) ?_) | (refine h_un ?_; refine a_not ?_) | (refine h_box ?_; refine b_box (fun nb_ hnb_ => ?_)) | (refine h_frz1 ?_; refine b_frz_p ?_))
      subst hQ; exact no _
    | true =>
      have nh2 : (!inB t w.threads.length) = false := by rw [h2]; rfl
      have hv : holdsS w s t = (wh (ownsS s t) s.locks.length, wh (readsS s t) s.locks.length) := by unfold holdsS; rw [h1, h2]; rfl
      clear no
      repeat' (first | (refine h_load1 ?_; refine b_load_q ?_) | (refine h_faddr ?_; refine a_faddr_q ?_) | (refine h_cond ?_; refine b_cond_f ?_) | (refine h_row ?_; refine b_row_q ?_) | (refine h_len ?_; refine a_len_m ?_) | (refine h_pick ?_; refine b_pick_f ?_) | (refine h_grd ?_; refine b_grd_y ?_) | refine a_mark ?_ | ((with_reducible refine h_fn 37 ?_); refine m_call (fits_ok _ _ hc) ?_) | ((with_reducible refine h_fn 52 ?_); refine m_call (within_ok _ _) ?_) | (refine h_un ?_; refine a_not ?_) | (refine h_box ?_; refine b_box (fun nb_ hnb_ => ?_)) | (refine h_frz1 ?_; refine b_frz_p ?_))
      refine loop_ex s.locks.length (fun i (o : Option Nat × Option Nat) => ([.int .i64 t, slotV o.1 (wh (ownsS s t) i).length, slotV o.2 (wh (readsS s t) i).length, .lst (s.locks.map LockD.enc), .int .i64 s.locks.length, .int .i64 i], slotB o.1 1 ((wh (ownsS s t) i).map intE) ++ slotB o.2 1 ((wh (readsS s t) i).map intE))) (fun i o => (o.1 = none → wh (ownsS s t) i = []) ∧ (o.2 = none → wh (readsS s t) i = [])) (none, none) ⟨fun _ => rfl, fun _ => rfl⟩ ?_ ?_
      · exact FzS.vals (.cons (.refl _) (.cons .nile (.cons .nile (.cons (.refl _) (.cons (.refl _) (.cons (.refl _) .nil))))))
      rintro i ⟨o1, o2⟩ hi ⟨ho1, ho2⟩
      dsimp only at ho1 ho2 ⊢
      unfold object_Holds_l2
      rcases Nat.lt_or_ge i s.locks.length with g1 | g1
      · have hd := dec_lt g1
        have hx := map_at (f := LockD.enc) g1
        have hrd : (s.locks[i]).readers.length < 2 ^ 62 := by have := hr _ (List.getElem_mem g1); omega
        have l1 := wh_len (ownsS s t) i
        have l2 := wh_len (readsS s t) i
        have e1 : ownsS s t i = decide ((s.locks[i]).owner = t) := by simp [ownsS, g1]
        have e2 : readsS s t i = (s.locks[i]).readers.contains t := by simp [readsS, g1]
        have s1 := wh_succ (ownsS s t) i
        have s2 := wh_succ (readsS s t) i
        rw [e1] at s1
        rw [e2] at s2
        generalize hb1 : decide ((s.locks[i]).owner = t) = c1 at *
        generalize hb2 : (s.locks[i]).readers.contains t = c2 at *
        have hco := contains_ok (s.locks[i]).readers t hrd
        rw [hb2] at hco
        have fin : ∀ (o1' o2' : Option Nat) (m1 m2 : Nat) (R1 R2 : List (List AV)) (L : SH), Pick L (slotB o1' 1 R1 ++ slotB o2' 1 R2) → (o1' = none → wh (ownsS s t) (i + 1) = []) → (o2' = none → wh (readsS s t) (i + 1) = []) → m1 = (wh (ownsS s t) (i + 1)).length → m2 = (wh (readsS s t) (i + 1)).length → R1 = (wh (ownsS s t) (i + 1)).map intE → R2 = (wh (readsS s t) (i + 1)).map intE →
            ∃ (j : Nat) (o' : Option Nat × Option Nat), i < j ∧ j ≤ s.locks.length ∧ ((o'.1 = none → wh (ownsS s t) j = []) ∧ (o'.2 = none → wh (readsS s t) j = [])) ∧ FzS [.int .i64 t, slotV o1' m1, slotV o2' m2, .lst (s.locks.map LockD.enc), .int .i64 s.locks.length, .int .i64 (IntKind.i64.wrap ((i : Int) + 1))] L
              [.int .i64 t, slotV o'.1 (wh (ownsS s t) j).length, slotV o'.2 (wh (readsS s t) j).length, .lst (s.locks.map LockD.enc), .int .i64 s.locks.length, .int .i64 j] (slotB o'.1 1 ((wh (ownsS s t) j).map intE) ++ slotB o'.2 1 ((wh (readsS s t) j).map intE)) := by
          rintro o1' o2' m1 m2 R1 R2 L hp a1 a2 rfl rfl rfl rfl
          exact ⟨i + 1, (o1', o2'), by omega, by omega, ⟨a1, a2⟩, FzS.pick hp (by rw [i64_succ g1 (by omega)])⟩
        cases c1 <;> cases c2
        all_goals
          repeat' (first | (refine h_load1 ?_; refine b_load_q ?_) | (refine h_faddr ?_; refine a_faddr_q ?_) | (refine h_bin ?_; first | refine a_eql ?_ | refine a_lss ?_ | refine a_add ?_) | (refine h_cond ?_; first | refine b_cond_t ?_ | refine b_cond_f ?_) | (refine h_idx ?_; refine b_idx_n ?_) | (refine h_row ?_; refine b_row_q ?_) | refine a_mark ?_ | refine a_app_o (by repeat constructor) (by repeat constructor) (by simp) (fun e => by first | simp [ho1 e] | simp [ho2 e]) (by rfl) (by simp) (by simp; omega) (by simp; omega) (by rfl) (fun nb_ hnb_ => ?_) | ((with_reducible refine h_fn 60 ?_); refine m_call (hco) ?_) | (refine h_frz1 ?_; refine b_frz_p ?_) | (refine h_store ?_; refine b_store_box ?_) | (refine h_bslice ?_; refine b_bslice (fun nb_ hnb_ => ?_)) | refine a_alloc (fun nb_ hnb_ => ?_) | refine a_join ?_)
        · exact fin o1 o2 _ _ _ _ _ (by repeat constructor) (by rw [s1]; exact ho1) (by rw [s2]; exact ho2) (by simp [s1, slotOf]) (by simp [s2, slotOf]) (by simp [s1]) (by simp [s2])
        · exact fin o1 (some _) _ _ _ _ _ (by repeat constructor) (by rw [s1]; exact ho1) nofun (by simp [s1, slotOf]) (by simp [s2]) (by simp [s1]) (by simp [s2, intE, slotOf])
        · exact fin (some _) o2 _ _ _ _ _ (by repeat constructor) nofun (by rw [s2]; exact ho2) (by simp [s1]) (by simp [s2, slotOf]) (by simp [s1, intE, slotOf]) (by simp [s2])
        · exact fin (some _) (some _) _ _ _ _ _ (by repeat constructor) nofun nofun (by simp [s1]) (by simp [s2]) (by simp [s1, intE, slotOf]) (by simp [s2, intE, slotOf])
      · have hd := dec_ge g1
        have hi0 : i = s.locks.length := by omega
        subst hi0
        repeat' (first | (refine h_bin ?_; refine a_lss ?_) | (refine h_cond ?_; refine b_cond_f ?_))
        subst hQ
        refine ⟨_, [], FzS.all (Fz.tups (.cons (fz_ints ho1 rfl ?_) (.cons (fz_ints ho2 rfl ?_) .nil))), ?_, rfl⟩
        · intro p hp; simp [hp]
        · intro p hp; simp [hp]
        · rw [hv]; rfl
end
end Go.Proofs.Ytadjimfkfmojkaa.Am

end
section
namespace Go.Proofs.Ytadjimfkfmojkaa.Am
set_option maxRecDepth 100000
set_option linter.unusedSimpArgs false
set_option linter.unusedVariables false
set_option linter.unusedSectionVars false
/-- what is left when some blocks are picked out -/
inductive Rest : SH → SH → SH → Prop where
  | nil (L : SH) : Rest L [] L
  | one {b : Nat} {x : Blk} {L L' R K : SH} : Del b x L L' → Rest L' R K → Rest L ((b, x) :: R) K
  | slot {o : Option Nat} {n : Nat} {rows : List (List AV)} {L L' R K : SH} : DelO o n rows L L' → Rest L' R K → Rest L (slotB o n rows ++ R) K
theorem Rest.perm {L R K : SH} (h : Rest L R K) : L.Perm (K ++ R) := by
  induction h with
  | nil L => simp
  | one hd hp ih => exact (hd.perm.trans ((ih.cons _).trans List.perm_middle.symm))
  | slot hd hp ih =>
    refine hd.perm.trans ((ih.append_left _).trans ?_)
    rw [← List.append_assoc, ← List.append_assoc]
    exact List.perm_append_comm.append_right _
end Go.Proofs.Ytadjimfkfmojkaa.Am

end
section
namespace Go.Proofs.Ytadjimfkfmojkaa.Am
set_option maxRecDepth 100000
set_option linter.unusedSimpArgs false
set_option linter.unusedVariables false
structure Safe (s : SyncD) : Prop where
  inv : OInv s
  own : ∀ j : Int, 0 ≤ j → j < 3 → -1 ≤ (lockAt s j).owner ∧ (lockAt s j).owner < 3
  excl : ∀ j : Int, 0 ≤ j → j < 3 → 0 ≤ (lockAt s j).owner → (lockAt s j).readers = []
  mux : ∀ j : Int, 0 ≤ j → j < 2 → (lockAt s j).readers = []
  stat : ∀ i : Int, 0 ≤ i → i < 3 → 0 ≤ (thrAt s i).status ∧ (thrAt s i).status ≤ 5
  wait : ∀ i : Int, 0 ≤ i → i < 3 → ((thrAt s i).status = 3 ∨ (thrAt s i).status = 4) → (lockAt s 0).owner ≠ i
  new : ∀ i : Int, 0 ≤ i → i < 3 → ((thrAt s i).status = 0 ∨ (thrAt s i).status = 1) → (∀ j : Int, 0 ≤ j → j < 3 → (lockAt s j).owner ≠ i ∧ i ∉ (lockAt s j).readers) ∧ s.tx ≠ i ∧ (thrAt s i).atomic = false
  tx : -1 ≤ s.tx ∧ s.tx < 3
theorem in3t {s : SyncD} (h : OInv s) {i : Int} (h0 : 0 ≤ i) (h1 : i < 3) : inB i s.threads.length = true := by rw [h.nt]; exact inB_iff.2 ⟨h0, h1⟩
theorem in3l {s : SyncD} (h : OInv s) {i : Int} (h0 : 0 ≤ i) (h1 : i < 3) : inB i s.locks.length = true := by rw [h.nl]; exact inB_iff.2 ⟨h0, h1⟩
theorem thr_upd {s : SyncD} (h : OInv s) {t i : Int} (t0 : 0 ≤ t) (t1 : t < 3) (i0 : 0 ≤ i) {f : ThrD → ThrD} {ls : List LockD} {tx : Int} {d : List Bool} : thrAt ⟨ls, tx, d, setThr s t f⟩ i = if i = t then f (thrAt s t) else thrAt s i := by
  by_cases e : i = t
  · subst e; rw [if_pos rfl]; exact thr_set (in3t h t0 t1)
  · rw [if_neg e]; exact thr_ne (by omega)
theorem lock_upd {s : SyncD} (h : OInv s) {o j : Int} (o0 : 0 ≤ o) (o1 : o < 3) (j0 : 0 ≤ j) {g : LockD → LockD} {th : List ThrD} {tx : Int} {d : List Bool} : lockAt ⟨setLock s o g, tx, d, th⟩ j = if j = o then g (lockAt s o) else lockAt s j := by
  by_cases e : j = o
  · subst e; rw [if_pos rfl]; exact lockAt_set (in3l h o0 o1)
  · rw [if_neg e]; exact lockAt_ne (by omega)
theorem safe_thr {s : SyncD} (h : Safe s) {t : Int} (t0 : 0 ≤ t) (t1 : t < 3) (f : ThrD → ThrD) (hc : ∀ x : ThrD, x.cond = 0 → (f x).cond = 0) (hst : 0 ≤ (f (thrAt s t)).status ∧ (f (thrAt s t)).status ≤ 5)
    (hw : (f (thrAt s t)).status = 3 ∨ (f (thrAt s t)).status = 4 → (lockAt s 0).owner ≠ t) (hn : (f (thrAt s t)).status = 0 ∨ (f (thrAt s t)).status = 1 → ((thrAt s t).status = 0 ∨ (thrAt s t).status = 1) ∧ (f (thrAt s t)).atomic = (thrAt s t).atomic) : Safe { s with threads := setThr s t f } := by
  have up : ∀ i : Int, 0 ≤ i → thrAt { s with threads := setThr s t f } i = if i = t then f (thrAt s t) else thrAt s i := fun i i0 => thr_upd h.inv t0 t1 i0
  refine ⟨inv_thr h.inv setThr_len (set_thr h.inv t f hc), h.own, h.excl, h.mux, fun i i0 i1 => ?_, fun i i0 i1 hi => ?_, fun i i0 i1 hi => ?_, h.tx⟩
  · rw [up i i0]; split
    · exact hst
    · exact h.stat i i0 i1
  · rw [up i i0] at hi
    split at hi
    · rename_i e; subst e; exact hw hi
    · exact h.wait i i0 i1 hi
  · rw [up i i0] at hi ⊢
    split at hi
    · rename_i e; subst e
      rw [if_pos rfl]
      obtain ⟨a, b⟩ := hn hi
      obtain ⟨c, d, e⟩ := h.new i i0 i1 a
      exact ⟨c, d, by rw [b]; exact e⟩
    · rename_i e
      rw [if_neg e]
      exact h.new i i0 i1 hi
theorem safe_lock {s : SyncD} (h : Safe s) {o : Int} (o0 : 0 ≤ o) (o1 : o < 3) (g : LockD → LockD) (hr : RdOk (g (lockAt s o))) (how : -1 ≤ (g (lockAt s o)).owner ∧ (g (lockAt s o)).owner < 3) (hex : 0 ≤ (g (lockAt s o)).owner → (g (lockAt s o)).readers = []) (hmx : o < 2 → (g (lockAt s o)).readers = [])
    (hw : o = 0 → ∀ i : Int, 0 ≤ i → i < 3 → ((thrAt s i).status = 3 ∨ (thrAt s i).status = 4) → (g (lockAt s o)).owner ≠ i) (hn : ∀ i : Int, 0 ≤ i → i < 3 → ((thrAt s i).status = 0 ∨ (thrAt s i).status = 1) → (g (lockAt s o)).owner ≠ i ∧ i ∉ (g (lockAt s o)).readers) : Safe { s with locks := setLock s o g } := by
  have up : ∀ j : Int, 0 ≤ j → lockAt { s with locks := setLock s o g } j = if j = o then g (lockAt s o) else lockAt s j := fun j j0 => lock_upd h.inv o0 o1 j0
  refine ⟨inv_lock h.inv setLock_len (set_lock h.inv o g hr), fun j j0 j1 => ?_, fun j j0 j1 hj => ?_, fun j j0 j1 => ?_, h.stat, fun i i0 i1 hi => ?_, fun i i0 i1 hi => ?_, h.tx⟩
  · rw [up j j0]; split
    · exact how
    · exact h.own j j0 j1
  · rw [up j j0] at hj ⊢
    split at hj
    · rename_i e; rw [if_pos e]; exact hex hj
    · rename_i e; rw [if_neg e]; exact h.excl j j0 j1 hj
  · rw [up j j0]; split
    · rename_i e; subst e; exact hmx j1
    · exact h.mux j j0 j1
  · rw [up 0 (by decide)]; split
    · rename_i e; exact hw e.symm i i0 i1 hi
    · exact h.wait i i0 i1 hi
  · obtain ⟨c, d, e⟩ := h.new i i0 i1 hi
    refine ⟨fun j j0 j1 => ?_, d, e⟩
    rw [up j j0]; split
    · exact hn i i0 i1 hi
    · exact c j j0 j1
theorem safe_tx {s : SyncD} (h : Safe s) (v : Int) (hv : -1 ≤ v ∧ v < 3) (hn : ∀ i : Int, 0 ≤ i → i < 3 → ((thrAt s i).status = 0 ∨ (thrAt s i).status = 1) → v ≠ i) : Safe { s with tx := v } :=
  ⟨⟨h.inv.nl, h.inv.nd, h.inv.nt, h.inv.cond, h.inv.rd⟩, h.own, h.excl, h.mux, h.stat, h.wait, fun i i0 i1 hi => by
    obtain ⟨c, d, e⟩ := h.new i i0 i1 hi
    exact ⟨c, hn i i0 i1 hi, e⟩, hv⟩
theorem safe_start : Safe (startS W0) := by
  have hl : ∀ j : Int, 0 ≤ j → j < 3 → lockAt (startS W0) j = ⟨-1, []⟩ := fun j j0 j1 => by
    have : j = 0 ∨ j = 1 ∨ j = 2 := by omega
    rcases this with rfl | rfl | rfl <;> rfl
  have ht : ∀ i : Int, 0 ≤ i → i < 3 → thrAt (startS W0) i = if i = 0 then ⟨1, 0, false⟩ else ⟨0, 0, false⟩ := fun j j0 j1 => by
    have : j = 0 ∨ j = 1 ∨ j = 2 := by omega
    rcases this with rfl | rfl | rfl <;> rfl
  refine ⟨inv_start, fun j j0 j1 => by rw [hl j j0 j1]; decide, fun j j0 j1 _ => by rw [hl j j0 j1], fun j j0 j1 => by rw [hl j j0 (by omega)], fun i i0 i1 => by rw [ht i i0 i1]; split <;> decide, fun i i0 i1 _ => by rw [hl 0 (by decide) (by decide)]; show (-1 : Int) ≠ i; omega, fun i i0 i1 _ => ⟨fun j j0 j1 => by rw [hl j j0 j1]; exact ⟨by show (-1 : Int) ≠ i; omega, by simp⟩, by show (-1 : Int) ≠ i; omega, by rw [ht i i0 i1]; split <;> rfl⟩, by decide⟩
theorem al_mutex {k o : Int} (hk : k = 6 ∨ k = 7) (h : allowedS W0 k o = true) : 0 ≤ o ∧ o < 2 := by
  rcases hk with rfl | rfl
  all_goals
    simp only [allowedS, Int.reduceEq, if_true, if_false, or_self, or_true, true_or, reduceIte, Bool.and_eq_true] at h
    obtain ⟨o0, o1⟩ := inB_iff.1 h.1
    have o1 : o < 3 := o1
    refine ⟨o0, ?_⟩
    apply Classical.byContradiction
    intro hge
    obtain rfl : o = 2 := by omega
    exact absurd h.2 (by decide)
theorem al_rw {k o : Int} (hk : k = 8 ∨ k = 9 ∨ k = 10 ∨ k = 11) (h : allowedS W0 k o = true) : o = 2 := by
  rcases hk with rfl | rfl | rfl | rfl
  all_goals
    simp only [allowedS, Int.reduceEq, if_true, if_false, or_self, or_true, true_or, reduceIte, Bool.and_eq_true] at h
    obtain ⟨o0, o1⟩ := inB_iff.1 h.1
    have o1 : o < 3 := o1
    have hc : o = 0 ∨ o = 1 ∨ o = 2 := by omega
    rcases hc with rfl | rfl | rfl
    · exact absurd h.2 (by decide)
    · exact absurd h.2 (by decide)
    · rfl
theorem al_cond {k o : Int} (hk : k = 16 ∨ k = 17 ∨ k = 18 ∨ k = 19) (h : allowedS W0 k o = true) : o = 0 := by
  have : inB o W0.conds.length = true := by rcases hk with rfl | rfl | rfl | rfl <;> simpa [allowedS] using h
  obtain ⟨o0, o1⟩ := inB_iff.1 this
  have o1 : o < 1 := o1
  omega
theorem thrAt_get {s : SyncD} (h : OInv s) {i : Int} (i0 : 0 ≤ i) (i1 : i < 3) (hi : i.toNat < s.threads.length) : thrAt s i = s.threads[i.toNat] := by
  unfold thrAt; simp [hi]
theorem safe_all {s : SyncD} (h : Safe s) : Safe { s with threads := wakeS s 0 } := by
  have up : ∀ i : Int, 0 ≤ i → i < 3 → thrAt { s with threads := wakeS s 0 } i = if (thrAt s i).status = 3 then { thrAt s i with status := 4 } else thrAt s i := fun i i0 i1 => by
    have hi : i.toNat < s.threads.length := by rw [h.inv.nt]; omega
    have e := wakeAll_at s.threads 0 s.threads.length i.toNat hi
    rw [thrAt_get h.inv i0 i1 hi]
    unfold thrAt wakeS
    simp only [List.getD, e, Option.getD_some]
    have hw : waitsS s.threads[i.toNat] 0 = decide (s.threads[i.toNat].status = 3) := by
      unfold waitsS
      rw [h.inv.cond _ (List.getElem_mem hi)]
      simp
    rw [hw]
    by_cases h3 : s.threads[i.toNat].status = 3
    · simp [h3, hi]
    · simp [h3]
  refine ⟨inv_thr h.inv (wakeAll_len _ _ _) (wake_cond h.inv 0), h.own, h.excl, h.mux, fun i i0 i1 => ?_, fun i i0 i1 hi => ?_, fun i i0 i1 hi => ?_, h.tx⟩
  · rw [up i i0 i1]; split
    · exact ⟨by show (0 : Int) ≤ 4; decide, by show (4 : Int) ≤ 5; decide⟩
    · exact h.stat i i0 i1
  · rw [up i i0 i1] at hi
    split at hi
    · rename_i e; exact h.wait i i0 i1 (.inl e)
    · exact h.wait i i0 i1 hi
  · rw [up i i0 i1] at hi ⊢
    split at hi
    · rename_i e; rcases hi with hi | hi <;> cases hi
    · rename_i e; rw [if_neg e]; exact h.new i i0 i1 hi
theorem safe_step {s : SyncD} (h : Safe s) {t k o wake : Int} (hen : enabledS W0 s t k o = true) : Safe (applyS W0 s t k o wake).1 := by
  obtain ⟨hft, ht, ha⟩ := en_parts hen
  obtain ⟨t0, t1⟩ := inB_iff.1 ht
  have t1 : t < 3 := t1
  have run : k ≠ 1 → k ≠ 17 → (thrAt s t).status = 2 ∧ readyS W0 s t k o = true := fun h1 h17 => ((en_run h1 h17).1 hen).2.2.2
  unfold applyS
  refine iteInduction (motive := fun x : SyncD × Int => Safe x.1) (fun hk => ?_) (fun n1 => ?_)
  · exact safe_thr h t0 t1 (fun x => { x with status := 2 }) (fun x hx => hx) ⟨by show (0 : Int) ≤ 2; decide, by show (2 : Int) ≤ 5; decide⟩ (fun e => by rcases e with e | e <;> cases e) (fun e => by rcases e with e | e <;> cases e)
  refine iteInduction (motive := fun x : SyncD × Int => Safe x.1) (fun hk => ?_) (fun n2 => ?_)
  · exact safe_thr h t0 t1 (fun x => { x with status := 5 }) (fun x hx => hx) ⟨by show (0 : Int) ≤ 5; decide, by show (5 : Int) ≤ 5; decide⟩ (fun e => by rcases e with e | e <;> cases e) (fun e => by rcases e with e | e <;> cases e)
  refine iteInduction (motive := fun x : SyncD × Int => Safe x.1) (fun hk => ?_) (fun n3 => ?_)
  · obtain ⟨r1, r2⟩ := run (by omega) (by omega)
    have hh : 0 ≤ o ∧ o < 3 ∧ (lockAt s o).readers = [] := by
      rcases hk with rfl | rfl
      · obtain ⟨o0, o1⟩ := al_mutex (.inl rfl) ha
        exact ⟨o0, by omega, h.mux o o0 o1⟩
      · obtain rfl := al_rw (.inr (.inr (.inl rfl))) ha
        simp [readyS] at r2
        exact ⟨by decide, by decide, r2.2⟩
    obtain ⟨o0, o1, hr⟩ := hh
    refine safe_lock h o0 o1 (fun x => { x with owner := t }) (lock_rd h.inv o) ⟨by show -1 ≤ t; omega, t1⟩ (fun _ => hr) (fun _ => hr) (fun _ i i0 i1 hi => ?_) (fun i i0 i1 hi => ?_)
    · show t ≠ i
      rintro rfl; rw [r1] at hi; rcases hi with hi | hi <;> cases hi
    · refine ⟨?_, by show i ∉ (lockAt s o).readers; rw [hr]; simp⟩
      show t ≠ i
      rintro rfl; rw [r1] at hi; rcases hi with hi | hi <;> cases hi
  refine iteInduction (motive := fun x : SyncD × Int => Safe x.1) (fun hk => ?_) (fun n4 => ?_)
  · have hh : 0 ≤ o ∧ o < 3 := by
      rcases hk with rfl | rfl
      · obtain ⟨o0, o1⟩ := al_mutex (.inr rfl) ha
        omega
      · obtain rfl := al_rw (.inr (.inr (.inr rfl))) ha
        decide
    obtain ⟨o0, o1⟩ := hh
    exact safe_lock h o0 o1 (fun x => { x with owner := -1 }) (lock_rd h.inv o) ⟨by show (-1 : Int) ≤ -1; decide, by show (-1 : Int) < 3; decide⟩ (fun e => absurd e (by show ¬ (0 : Int) ≤ -1; decide)) (fun e => h.mux o o0 e) (fun _ i i0 i1 hi => by show (-1 : Int) ≠ i; omega) (fun i i0 i1 hi => ⟨by show (-1 : Int) ≠ i; omega, ((h.new i i0 i1 hi).1 o o0 o1).2⟩)
  refine iteInduction (motive := fun x : SyncD × Int => Safe x.1) (fun hk => ?_) (fun n5 => ?_)
  · obtain ⟨r1, r2⟩ := run (by omega) (by omega)
    subst hk
    obtain rfl := al_rw (.inl rfl) ha
    have how : (lockAt s 2).owner = -1 := by simp [readyS] at r2; exact r2.1
    refine safe_lock h (by decide) (by decide) (fun x => { x with readers := addRd x.readers t }) ⟨addRd_asc _ _, fun y hy => ?_⟩ (h.own 2 (by decide) (by decide)) (fun e => by have e : 0 ≤ (lockAt s 2).owner := e; omega) (fun e => absurd e (by decide)) (fun e => absurd e (by decide)) (fun i i0 i1 hi => ⟨((h.new i i0 i1 hi).1 2 (by decide) (by decide)).1, fun hm => ?_⟩)
    · rcases (addRd_mem _ _ _).1 hy with h1 | h1
      · exact (lock_rd h.inv 2).2 y h1
      · omega
    · rcases (addRd_mem _ _ _).1 hm with h1 | h1
      · exact ((h.new i i0 i1 hi).1 2 (by decide) (by decide)).2 h1
      · subst h1; rw [r1] at hi; rcases hi with hi | hi <;> cases hi
  refine iteInduction (motive := fun x : SyncD × Int => Safe x.1) (fun hk => ?_) (fun n6 => ?_)
  · subst hk
    obtain rfl := al_rw (.inr (.inl rfl)) ha
    refine safe_lock h (by decide) (by decide) (fun x => { x with readers := x.readers.filter fun y => !decide (y = t) }) ⟨(lock_rd h.inv 2).1.filter _, fun y hy => (lock_rd h.inv 2).2 y (List.mem_filter.1 hy).1⟩ (h.own 2 (by decide) (by decide)) (fun e => ?_) (fun e => absurd e (by decide)) (fun e => absurd e (by decide)) (fun i i0 i1 hi => ⟨((h.new i i0 i1 hi).1 2 (by decide) (by decide)).1, fun hm => ((h.new i i0 i1 hi).1 2 (by decide) (by decide)).2 (List.mem_filter.1 hm).1⟩)
    show (lockAt s 2).readers.filter _ = []
    rw [h.excl 2 (by decide) (by decide) e]; rfl
  refine iteInduction (motive := fun x : SyncD × Int => Safe x.1) (fun hk => ?_) (fun n7 => ?_)
  · obtain ⟨r1, r2⟩ := run (by omega) (by omega)
    exact safe_tx h t (by omega) fun i i0 i1 hi => by rintro rfl; rw [r1] at hi; rcases hi with hi | hi <;> cases hi
  refine iteInduction (motive := fun x : SyncD × Int => Safe x.1) (fun hk => ?_) (fun n8 => ?_)
  · exact safe_tx h (-1) (by decide) fun i i0 i1 hi => by omega
  refine iteInduction (motive := fun x : SyncD × Int => Safe x.1) (fun hk => ?_) (fun n9 => ?_)
  · obtain ⟨r1, r2⟩ := run (by omega) (by omega)
    exact safe_thr h t0 t1 (fun x => { x with atomic := true }) (fun x hx => hx) (h.stat t t0 t1) (fun e => h.wait t t0 t1 e) (fun e => by have e : (thrAt s t).status = 0 ∨ (thrAt s t).status = 1 := e; rw [r1] at e; rcases e with e | e <;> cases e)
  refine iteInduction (motive := fun x : SyncD × Int => Safe x.1) (fun hk => ?_) (fun n10 => ?_)
  · obtain ⟨r1, r2⟩ := run (by omega) (by omega)
    exact safe_thr h t0 t1 (fun x => { x with atomic := false }) (fun x hx => hx) (h.stat t t0 t1) (fun e => h.wait t t0 t1 e) (fun e => by have e : (thrAt s t).status = 0 ∨ (thrAt s t).status = 1 := e; rw [r1] at e; rcases e with e | e <;> cases e)
  refine iteInduction (motive := fun x : SyncD × Int => Safe x.1) (fun hk => ?_) (fun n11 => ?_)
  · subst hk
    obtain rfl := al_cond (.inl rfl) ha
    have h1 : Safe { s with locks := setLock s 0 fun x => { x with owner := -1 } } :=
      safe_lock h (by decide) (by decide) (fun x => { x with owner := -1 }) (lock_rd h.inv 0) ⟨by show (-1 : Int) ≤ -1; decide, by show (-1 : Int) < 3; decide⟩ (fun e => absurd e (by show ¬ (0 : Int) ≤ -1; decide)) (fun e => h.mux 0 (by decide) e) (fun _ i i0 i1 hi => by show (-1 : Int) ≠ i; omega) (fun i i0 i1 hi => ⟨by show (-1 : Int) ≠ i; omega, ((h.new i i0 i1 hi).1 0 (by decide) (by decide)).2⟩)
    refine safe_thr h1 t0 t1 (fun x => { x with status := 3, cond := 0 }) (fun x hx => rfl) ⟨by show (0 : Int) ≤ 3; decide, by show (3 : Int) ≤ 5; decide⟩ (fun _ => ?_) (fun e => by rcases e with e | e <;> cases e)
    rw [lock_upd h.inv (by decide) (by decide) (by decide), if_pos rfl]
    show (-1 : Int) ≠ t
    omega
  refine iteInduction (motive := fun x : SyncD × Int => Safe x.1) (fun hk => ?_) (fun n12 => ?_)
  · subst hk
    obtain rfl := al_cond (.inr (.inl rfl)) ha
    have h1 : Safe { s with threads := setThr s t fun x => { x with status := 2, cond := 0 } } :=
      safe_thr h t0 t1 (fun x => { x with status := 2, cond := 0 }) (fun x hx => rfl) ⟨by show (0 : Int) ≤ 2; decide, by show (2 : Int) ≤ 5; decide⟩ (fun e => by rcases e with e | e <;> cases e) (fun e => by rcases e with e | e <;> cases e)
    have r1 : (thrAt { s with threads := setThr s t fun x => { x with status := 2, cond := 0 } } t).status = 2 := by rw [thr_upd h.inv t0 t1 t0, if_pos rfl]
    have hr : (lockAt s 0).readers = [] := h.mux 0 (by decide) (by decide)
    refine safe_lock h1 (o := 0) (by decide) (by decide) (fun x => { x with owner := t }) (lock_rd h.inv 0) ⟨by show -1 ≤ t; omega, t1⟩ (fun _ => hr) (fun _ => hr) (fun _ i i0 i1 hi => ?_) (fun i i0 i1 hi => ?_)
    · show t ≠ i
      rintro rfl; rw [r1] at hi; rcases hi with hi | hi <;> cases hi
    · refine ⟨?_, by show i ∉ (lockAt s 0).readers; rw [hr]; simp⟩
      show t ≠ i
      rintro rfl; rw [r1] at hi; rcases hi with hi | hi <;> cases hi
  refine iteInduction (motive := fun x : SyncD × Int => Safe x.1) (fun hk => ?_) (fun n13 => ?_)
  · subst hk
    obtain rfl := al_cond (.inr (.inr (.inl rfl))) ha
    show Safe { s with threads := wokenS s.threads 0 wake }
    unfold wokenS
    split
    · rename_i hp
      have hn : notifyS s.threads 0 wake = ((notifyS s.threads 0 wake).toNat : Int) := (Int.toNat_of_nonneg hp).symm
      obtain ⟨w1, w2⟩ := notify_waits hn
      rw [waits_iff h.inv.cond w1] at w2
      have w3 := of_decide_eq_true w2
      have w4 : notifyS s.threads 0 wake < 3 := by rw [h.inv.nt] at w1; omega
      have w5 : (thrAt s (notifyS s.threads 0 wake)).status = 3 := by rw [thrAt_get h.inv hp w4 w1]; exact w3
      exact safe_thr h hp w4 (fun x => { x with status := 4 }) (fun x hx => hx) ⟨by show (0 : Int) ≤ 4; decide, by show (4 : Int) ≤ 5; decide⟩ (fun _ => h.wait _ hp w4 (.inl w5)) (fun e => by rcases e with e | e <;> cases e)
    · exact h
  refine iteInduction (motive := fun x : SyncD × Int => Safe x.1) (fun hk => ?_) (fun n14 => ?_)
  · subst hk
    obtain rfl := al_cond (.inr (.inr (.inr rfl))) ha
    exact safe_all h
  refine iteInduction (motive := fun x : SyncD × Int => Safe x.1) (fun hk => ?_) (fun n15 => ?_)
  · obtain ⟨r1, r2⟩ := run (by omega) (by omega)
    subst hk
    have hin : inB o W0.threads.length = true := by simpa [allowedS] using ha
    obtain ⟨o0, o1⟩ := inB_iff.1 hin
    have o1 : o < 3 := o1
    have hs0 : (thrAt s o).status = 0 := by simp [readyS] at r2; exact r2.2
    exact safe_thr h o0 o1 (fun x => { x with status := 1 }) (fun x hx => hx) ⟨by show (0 : Int) ≤ 1; decide, by show (1 : Int) ≤ 5; decide⟩ (fun e => by rcases e with e | e <;> cases e) (fun _ => ⟨.inl hs0, rfl⟩)
  refine iteInduction (motive := fun x : SyncD × Int => Safe x.1) (fun hk => ?_) (fun n16 => ?_)
  · exact ⟨⟨h.inv.nl, by simpa using h.inv.nd, h.inv.nt, h.inv.cond, h.inv.rd⟩, h.own, h.excl, h.mux, h.stat, h.wait, h.new, h.tx⟩
  · exact h
end Go.Proofs.Ytadjimfkfmojkaa.Am

end
section
namespace Go.Proofs.Ytadjimfkfmojkaa.Am
set_option linter.unusedVariables false
set_option maxRecDepth 100000
def law08_ObjectBlocks_t : Hints := ⟨fun k => none, fun k => [], fun k => if k = 3 then [7] else if k = 4 then [8] else [], fun k => if k = 12 then [0, 0, 0, 0, 15, 0, 0, 0, 0, 511, 1023, 2047, 4095, 8191] else if k = 13 then [0, 0, 0, 7, 0, 0, 0, 127, 255, 511, 1023, 2047] else if k = 15 then [0, 0, 0, 7, 0, 0, 0, 127, 255, 511, 1023, 2047, 4095, 8191, 16383, 32767, 65535] else if k = 16 then [0, 0, 3, 7, 15, 15, 15, 15, 255, 15, 15, 15, 15, 8191, 16383, 32767, 65535, 131071, 262143] else []⟩
def law08_ObjectBlocks_d0 (L_86 : SH) (t76_79 : AV) (t80_84 : AV) (t45_35 : AV) (t27_18 : AV) (t7_7 : AV) (t8_15 : AV) (t58_54 : AV) (t69_73 : AV) (Q : AV → SH → Prop) (t84_92 : AV) (L_94 : SH) (ks_93 : List Nat) : Prop :=
 W.note ⟨[], ks_93, [], L_86.names⟩ fun r_95 =>
 W.len t84_92 fun t85_96 =>
 W.bin Try.prog Fl .eql 3 t85_96 (.int .i64 0) fun t86_97 =>
 W.dgrd t86_97 true (fun k_99 => k_99 t76_79 L_94 ⟨[], [], [], []⟩) L_94 fun t88_98 L_101 r_100 =>
 W.dgrd t86_97 true (fun k_103 => W.len t88_98 fun v_106 =>
 k_103 v_106 L_101 ⟨[], [], [], []⟩) L_101 fun t89_102 L_105 r_104 =>
 W.dgrd t86_97 true (fun k_108 => W.bin Try.prog Fl .eql 3 t89_102 (.int .i64 0) fun v_111 =>
 k_108 v_111 L_105 ⟨[], [], [], []⟩) L_105 fun t90_107 L_110 r_109 =>
 W.pick t86_97 t90_107 (.bool false) fun t91_112 =>
 W.bin Try.prog Fl .eql 4 t80_84 t91_112 fun t92_113 =>
 (true = true) ∧ (
 W.bin Try.prog Fl .eql 3 t45_35 t27_18 fun t95_114 =>
 W.dgrd t95_114 false (fun k_116 => W.calm [] ⟨4, (blocksOf t7_7), [], [], false, []⟩ (
 W.load true 6 t7_7 L_110 fun v_119 =>
 W.note ⟨(blocksOf t7_7), [], [], []⟩ fun r_120 =>
 k_116 v_119 L_110 r_120)) L_110 fun t97_115 L_118 r_117 =>
 W.dgrd t95_114 false (fun k_122 => W.calm [⟨4, r_117.reads, r_117.writes, r_117.made, false, r_117.old⟩] ⟨5, (blocksOf t8_15), [], [], false, []⟩ (
 W.load true 4 t8_15 L_118 fun v_125 =>
 W.note ⟨(blocksOf t8_15), [], [], []⟩ fun r_126 =>
 k_122 v_125 L_118 r_126)) L_118 fun t98_121 L_124 r_123 =>
 W.dgrd t95_114 false (fun k_128 => k_128 t27_18 L_124 ⟨[], [], [], []⟩) L_124 fun t99_127 L_130 r_129 =>
 W.dgrd t95_114 false (fun k_132 => k_132 t45_35 L_130 ⟨[], [], [], []⟩) L_130 fun t100_131 L_134 r_133 =>
 W.dgrd t95_114 false (fun k_136 => W.dcall Try.prog [] 8 (.fn 27 []) [t97_115, t98_121, t99_127, (.int .i64 21), t100_131] L_134 fun v_139 L_141 ks_140 =>
 W.note ⟨[], ks_140, [], L_134.names⟩ fun r_142 =>
 k_136 v_139 L_141 r_142) L_134 fun t101_135 L_138 r_137 =>
 W.dgrd t95_114 false (fun k_144 => W.calm [⟨8, r_137.reads, r_137.writes, r_137.made, true, r_137.old⟩, ⟨5, r_123.reads, r_123.writes, r_123.made, false, r_123.old⟩, ⟨4, r_117.reads, r_117.writes, r_117.made, false, r_117.old⟩] ⟨9, (blocksOf t7_7), [], [], false, []⟩ (
 W.load true 6 t7_7 L_138 fun v_147 =>
 W.note ⟨(blocksOf t7_7), [], [], []⟩ fun r_148 =>
 k_144 v_147 L_138 r_148)) L_138 fun t102_143 L_146 r_145 =>
 W.dgrd t95_114 false (fun k_150 => W.calm [⟨9, r_145.reads, r_145.writes, r_145.made, false, r_145.old⟩, ⟨8, r_137.reads, r_137.writes, r_137.made, true, r_137.old⟩, ⟨5, r_123.reads, r_123.writes, r_123.made, false, r_123.old⟩, ⟨4, r_117.reads, r_117.writes, r_117.made, false, r_117.old⟩] ⟨10, (blocksOf t8_15), [], [], false, []⟩ (
 W.load true 4 t8_15 L_146 fun v_153 =>
 W.note ⟨(blocksOf t8_15), [], [], []⟩ fun r_154 =>
 k_150 v_153 L_146 r_154)) L_146 fun t103_149 L_152 r_151 =>
 W.dgrd t95_114 false (fun k_156 => k_156 t27_18 L_152 ⟨[], [], [], []⟩) L_152 fun t104_155 L_158 r_157 =>
 W.dgrd t95_114 false (fun k_160 => k_160 t45_35 L_158 ⟨[], [], [], []⟩) L_158 fun t105_159 L_162 r_161 =>
 W.dgrd t95_114 false (fun k_164 => W.dcall Try.prog [] 13 (.fn 35 []) [t102_143, t103_149, t104_155, (.int .i64 21), t105_159] L_162 fun v_167 L_169 ks_168 =>
 W.note ⟨[], ks_168, [], L_162.names⟩ fun r_170 =>
 k_164 v_167 L_169 r_170) L_162 fun t106_163 L_166 r_165 =>
 W.dgrd t95_114 false (fun k_172 => W.len t106_163 fun v_175 =>
 k_172 v_175 L_166 ⟨[], [], [], []⟩) L_166 fun t107_171 L_174 r_173 =>
 W.dgrd t95_114 false (fun k_177 => W.bin Try.prog Fl .eql 3 t107_171 (.int .i64 0) fun v_180 =>
 k_177 v_180 L_174 ⟨[], [], [], []⟩) L_174 fun t108_176 L_179 r_178 =>
 W.dgrd t95_114 false (fun k_182 => W.bin Try.prog Fl .eql 4 t101_135 t108_176 fun v_185 =>
 k_182 v_185 L_179 ⟨[], [], [], []⟩) L_179 fun t109_181 L_184 r_183 =>
 W.pick t95_114 (.bool true) t109_181 fun t110_186 =>
 W.grd t58_54 true (fun k_188 => k_188 t69_73 L_184) L_184 fun t113_187 L_189 =>
 W.pick t58_54 t113_187 (.bool false) fun t114_190 =>
 W.grd t114_190 true (fun k_192 => k_192 t92_113 L_189) L_189 fun t116_191 L_193 =>
 W.pick t114_190 t116_191 (.bool false) fun t117_194 =>
 W.grd t117_194 true (fun k_196 => k_196 t110_186 L_193) L_193 fun t119_195 L_197 =>
 W.pick t117_194 t119_195 (.bool false) fun t120_198 =>
 W.grd t120_198 true (fun k_200 => W.call Try.prog (.fn 23 []) [] L_197 fun v_202 L_203 =>
 k_200 v_202 L_203) L_197 fun t122_199 L_201 =>
 W.pick t120_198 t122_199 (.bool false) fun t123_204 =>
 Q t123_204 L_201)
def law08_ObjectBlocks_d1 (L_77 : SH) (r_83 : W.Fp) (r_81 : W.Fp) (t7_7 : AV) (t8_15 : AV) (t27_18 : AV) (t76_79 : AV) (t45_35 : AV) (t58_54 : AV) (t69_73 : AV) (Q : AV → SH → Prop) (t80_84 : AV) (L_86 : SH) (ks_85 : List Nat) : Prop :=
 W.note ⟨[], ks_85, [], L_77.names⟩ fun r_87 =>
 W.calm [⟨3, r_87.reads, r_87.writes, r_87.made, true, r_87.old⟩, ⟨1, r_83.reads, r_83.writes, r_83.made, false, r_83.old⟩, ⟨0, r_81.reads, r_81.writes, r_81.made, false, r_81.old⟩] ⟨4, (blocksOf t7_7), [], [], false, []⟩ (
 W.load true 6 t7_7 L_86 fun t81_88 =>
 W.note ⟨(blocksOf t7_7), [], [], []⟩ fun r_89 =>
 W.calm [⟨4, r_89.reads, r_89.writes, r_89.made, false, r_89.old⟩, ⟨3, r_87.reads, r_87.writes, r_87.made, true, r_87.old⟩, ⟨1, r_83.reads, r_83.writes, r_83.made, false, r_83.old⟩, ⟨0, r_81.reads, r_81.writes, r_81.made, false, r_81.old⟩] ⟨5, (blocksOf t8_15), [], [], false, []⟩ (
 W.load true 4 t8_15 L_86 fun t82_90 =>
 W.note ⟨(blocksOf t8_15), [], [], []⟩ fun r_91 =>
 W.dcall Try.prog [] 7 (.fn 35 []) [t81_88, t82_90, t27_18, (.int .i64 8), (.int .i64 2)] L_86 (law08_ObjectBlocks_d0 L_86 t76_79 t80_84 t45_35 t27_18 t7_7 t8_15 t58_54 t69_73 Q)))
def law08_ObjectBlocks_c2 (t7_7 : AV) (t8_15 : AV) (t27_18 : AV) (t45_35 : AV) (t58_54 : AV) (t69_73 : AV) (Q : AV → SH → Prop) (t74_76 : AV) (L_77 : SH) : Prop :=
 W.ext 0 t74_76 fun t75_78 =>
 W.ext 1 t74_76 fun t76_79 =>
 (true = true) ∧ (
 W.calm [] ⟨0, (blocksOf t7_7), [], [], false, []⟩ (
 W.load true 6 t7_7 L_77 fun t77_80 =>
 W.note ⟨(blocksOf t7_7), [], [], []⟩ fun r_81 =>
 W.calm [⟨0, r_81.reads, r_81.writes, r_81.made, false, r_81.old⟩] ⟨1, (blocksOf t8_15), [], [], false, []⟩ (
 W.load true 4 t8_15 L_77 fun t78_82 =>
 W.note ⟨(blocksOf t8_15), [], [], []⟩ fun r_83 =>
 W.dcall Try.prog [] 3 (.fn 27 []) [t77_80, t78_82, t27_18, (.int .i64 8), (.int .i64 2)] L_77 (law08_ObjectBlocks_d1 L_77 r_83 r_81 t7_7 t8_15 t27_18 t76_79 t45_35 t58_54 t69_73 Q))))
def law08_ObjectBlocks_d3 (L_61 : SH) (t62_59 : AV) (t7_7 : AV) (t8_15 : AV) (t27_18 : AV) (t45_35 : AV) (t58_54 : AV) (Q : AV → SH → Prop) (t66_67 : AV) (L_69 : SH) (ks_68 : List Nat) : Prop :=
 W.note ⟨[], ks_68, [], L_61.names⟩ fun r_70 =>
 W.len t66_67 fun t67_71 =>
 W.bin Try.prog Fl .eql 3 t67_71 (.int .i64 0) fun t68_72 =>
 W.bin Try.prog Fl .eql 4 t62_59 t68_72 fun t69_73 =>
 W.load true 6 t7_7 L_69 fun t71_74 =>
 W.load true 4 t8_15 L_69 fun t72_75 =>
 W.call Try.prog (.fn 32 []) [t71_74, t72_75, t27_18] L_69 (law08_ObjectBlocks_c2 t7_7 t8_15 t27_18 t45_35 t58_54 t69_73 Q)
def law08_ObjectBlocks_d4 (L_50 : SH) (r_58 : W.Fp) (r_56 : W.Fp) (t7_7 : AV) (t8_15 : AV) (t27_18 : AV) (t45_35 : AV) (t58_54 : AV) (Q : AV → SH → Prop) (t62_59 : AV) (L_61 : SH) (ks_60 : List Nat) : Prop :=
 W.note ⟨[], ks_60, [], L_50.names⟩ fun r_62 =>
 W.calm [⟨3, r_62.reads, r_62.writes, r_62.made, true, r_62.old⟩, ⟨1, r_58.reads, r_58.writes, r_58.made, false, r_58.old⟩, ⟨0, r_56.reads, r_56.writes, r_56.made, false, r_56.old⟩] ⟨4, (blocksOf t7_7), [], [], false, []⟩ (
 W.load true 6 t7_7 L_61 fun t63_63 =>
 W.note ⟨(blocksOf t7_7), [], [], []⟩ fun r_64 =>
 W.calm [⟨4, r_64.reads, r_64.writes, r_64.made, false, r_64.old⟩, ⟨3, r_62.reads, r_62.writes, r_62.made, true, r_62.old⟩, ⟨1, r_58.reads, r_58.writes, r_58.made, false, r_58.old⟩, ⟨0, r_56.reads, r_56.writes, r_56.made, false, r_56.old⟩] ⟨5, (blocksOf t8_15), [], [], false, []⟩ (
 W.load true 4 t8_15 L_61 fun t64_65 =>
 W.note ⟨(blocksOf t8_15), [], [], []⟩ fun r_66 =>
 W.dcall Try.prog [] 7 (.fn 35 []) [t63_63, t64_65, t27_18, (.int .i64 10), (.int .i64 2)] L_61 (law08_ObjectBlocks_d3 L_61 t62_59 t7_7 t8_15 t27_18 t45_35 t58_54 Q)))
def law08_ObjectBlocks_d5 (L_42 : SH) (t50_40 : AV) (t7_7 : AV) (t8_15 : AV) (t27_18 : AV) (t45_35 : AV) (Q : AV → SH → Prop) (t55_48 : AV) (L_50 : SH) (ks_49 : List Nat) : Prop :=
 W.note ⟨[], ks_49, [], L_42.names⟩ fun r_51 =>
 W.len t55_48 fun t56_52 =>
 W.bin Try.prog Fl .eql 3 t56_52 (.int .i64 0) fun t57_53 =>
 W.bin Try.prog Fl .eql 4 t50_40 t57_53 fun t58_54 =>
 (true = true) ∧ (
 W.calm [] ⟨0, (blocksOf t7_7), [], [], false, []⟩ (
 W.load true 6 t7_7 L_50 fun t59_55 =>
 W.note ⟨(blocksOf t7_7), [], [], []⟩ fun r_56 =>
 W.calm [⟨0, r_56.reads, r_56.writes, r_56.made, false, r_56.old⟩] ⟨1, (blocksOf t8_15), [], [], false, []⟩ (
 W.load true 4 t8_15 L_50 fun t60_57 =>
 W.note ⟨(blocksOf t8_15), [], [], []⟩ fun r_58 =>
 W.dcall Try.prog [] 3 (.fn 27 []) [t59_55, t60_57, t27_18, (.int .i64 10), (.int .i64 2)] L_50 (law08_ObjectBlocks_d4 L_50 r_58 r_56 t7_7 t8_15 t27_18 t45_35 t58_54 Q))))
def law08_ObjectBlocks_d6 (L_22 : SH) (r_39 : W.Fp) (r_37 : W.Fp) (t7_7 : AV) (t8_15 : AV) (t27_18 : AV) (t42_33 : AV) (t45_35 : AV) (Q : AV → SH → Prop) (t50_40 : AV) (L_42 : SH) (ks_41 : List Nat) : Prop :=
 W.note ⟨[], ks_41, [], L_22.names⟩ fun r_43 =>
 W.calm [⟨4, r_43.reads, r_43.writes, r_43.made, true, r_43.old⟩, ⟨1, r_39.reads, r_39.writes, r_39.made, false, r_39.old⟩, ⟨0, r_37.reads, r_37.writes, r_37.made, false, r_37.old⟩] ⟨5, (blocksOf t7_7), [], [], false, []⟩ (
 W.load true 6 t7_7 L_42 fun t51_44 =>
 W.note ⟨(blocksOf t7_7), [], [], []⟩ fun r_45 =>
 W.calm [⟨5, r_45.reads, r_45.writes, r_45.made, false, r_45.old⟩, ⟨4, r_43.reads, r_43.writes, r_43.made, true, r_43.old⟩, ⟨1, r_39.reads, r_39.writes, r_39.made, false, r_39.old⟩, ⟨0, r_37.reads, r_37.writes, r_37.made, false, r_37.old⟩] ⟨6, (blocksOf t8_15), [], [], false, []⟩ (
 W.load true 4 t8_15 L_42 fun t52_46 =>
 W.note ⟨(blocksOf t8_15), [], [], []⟩ fun r_47 =>
 W.dcall Try.prog [] 9 (.fn 35 []) [t51_44, t52_46, t27_18, (.int .i64 6), t42_33] L_42 (law08_ObjectBlocks_d5 L_42 t50_40 t7_7 t8_15 t27_18 t45_35 Q)))
def law08_ObjectBlocks_zt0 (t2 : AV) (t7_7 : AV) (L_22 : SH) (t8_15 : AV) (t27_18 : AV) (Q : AV → SH → Prop)  : Prop :=
 W.conv .i64 t2 fun t41_32 =>
 W.bin Try.prog Fl .rem 3 t41_32 (.int .i64 2) fun t42_33 =>
 W.conv .i64 t2 fun t44_34 =>
 W.bin Try.prog Fl .rem 3 t44_34 (.int .i64 3) fun t45_35 =>
 (true = true) ∧ (
 W.calm [] ⟨0, (blocksOf t7_7), [], [], false, []⟩ (
 W.load true 6 t7_7 L_22 fun t46_36 =>
 W.note ⟨(blocksOf t7_7), [], [], []⟩ fun r_37 =>
 W.calm [⟨0, r_37.reads, r_37.writes, r_37.made, false, r_37.old⟩] ⟨1, (blocksOf t8_15), [], [], false, []⟩ (
 W.load true 4 t8_15 L_22 fun t47_38 =>
 W.note ⟨(blocksOf t8_15), [], [], []⟩ fun r_39 =>
 W.dcall Try.prog [] 4 (.fn 27 []) [t46_36, t47_38, t27_18, (.int .i64 6), t42_33] L_22 (law08_ObjectBlocks_d6 L_22 r_39 r_37 t7_7 t8_15 t27_18 t42_33 t45_35 Q))))
def law08_ObjectBlocks_zt1 (t8_15 : AV) (L_22 : SH) (t27_18 : AV) (Q : AV → SH → Prop) (t2 : AV) (t7_7 : AV)  : Prop :=
 W.faddr 3 t8_15 fun t32_24 =>
 W.load false 1 t32_24 L_22 fun t33_25 =>
 W.idx 3 t33_25 t27_18 L_22 fun t35_26 =>
 W.faddr 0 t35_26 fun t36_27 =>
 W.load false 1 t36_27 L_22 fun t37_28 =>
 W.bin Try.prog Fl .neq 3 t37_28 (.int .i64 2) fun t38_29 =>
 W.cond t38_29 (
 W.call Try.prog (.fn 23 []) [] L_22 fun t39_30 L_31 =>
 Q t39_30 L_31) (
 (law08_ObjectBlocks_zt0 t2 t7_7 L_22 t8_15 t27_18 Q))
def law08_ObjectBlocks_c7 (Q : AV → SH → Prop) (t8_15 : AV) (t27_18 : AV) (t2 : AV) (t7_7 : AV) (t30_21 : AV) (L_22 : SH) : Prop :=
 W.un .not t30_21 fun t31_23 =>
 W.cond t31_23 (
 Q (.bool false) L_22) (
 (law08_ObjectBlocks_zt1 t8_15 L_22 t27_18 Q t2 t7_7))
def law08_ObjectBlocks_c8 (t1 : AV) (t7_7 : AV) (Q : AV → SH → Prop) (t2 : AV) (t24_10 : AV) (L_11 : SH) : Prop :=
 W.alloc [.nils, (.int .i64 0), .nils, .nils] L_11 fun t8_12 L_13 =>
 W.store 4 t8_12 t24_10 L_13 fun L_14 =>
 W.frz1 t8_12 L_14 fun t8_15 L_16 =>
 W.conv .i64 t1 fun t26_17 =>
 W.bin Try.prog Fl .rem 3 t26_17 (.int .i64 3) fun t27_18 =>
 W.load true 6 t7_7 L_16 fun t28_19 =>
 W.load true 4 t8_15 L_16 fun t29_20 =>
 W.call Try.prog (.fn 30 []) [t28_19, t29_20] L_16 (law08_ObjectBlocks_c7 Q t8_15 t27_18 t2 t7_7)
def law08_ObjectBlocks_c9 (t0 : AV) (t1 : AV) (Q : AV → SH → Prop) (t2 : AV) (t21_2 : AV) (L_3 : SH) : Prop :=
 W.alloc [.nils, .nils, .nils, .nils, .nils, .nils] L_3 fun t7_4 L_5 =>
 W.store 6 t7_4 t21_2 L_5 fun L_6 =>
 W.frz1 t7_4 L_6 fun t7_7 L_8 =>
 W.load true 6 t7_7 L_8 fun t22_9 =>
 W.call Try.prog (.fn 25 []) [t22_9, t0] L_8 (law08_ObjectBlocks_c8 t1 t7_7 Q t2)
def law08_ObjectBlocks_w (t0 t1 t2 : AV) (L : SH) (Q : AV → SH → Prop) : Prop :=
 W.len t0 fun t19_0 =>
 W.bin Try.prog Fl .gtr 3 t19_0 (.int .i64 100) fun t20_1 =>
 W.cond t20_1 (
 Q (.bool true) L) (
 W.call Try.prog (.fn 24 []) [] L (law08_ObjectBlocks_c9 t0 t1 Q t2))
theorem law08_ObjectBlocks_e (t0 t1 t2 : AV) (L : SH) (Q : AV → SH → Prop) : W.func Try.prog Fl law08_ObjectBlocks_t Try.f13 (Try.f13.body.getD .skip) [t0, t1, t2] L Q = law08_ObjectBlocks_w t0 t1 t2 L Q := by kernel_rfl
theorem law08_ObjectBlocks_ok (t0 t1 t2 : AV) (L : SH) (Q : AV → SH → Prop) (h : law08_ObjectBlocks_w t0 t1 t2 L Q) : CallA Try.prog 13 [t0, t1, t2] L Q :=
  func_sound (ht := law08_ObjectBlocks_t) fit Try.func13 (show Try.f13.body = some (Try.f13.body.getD .skip) by kernel_rfl) (Eq.mpr (law08_ObjectBlocks_e t0 t1 t2 L Q) h)

def law08_world_t : Hints := ⟨fun k => none, fun k => [], fun k => [], fun k => []⟩
def law08_world_w (L : SH) (Q : AV → SH → Prop) : Prop :=
 W.alloc [.nils, .nils, .nils, .nils, .nils, .nils] L fun t0_0 L_1 =>
 W.build [(.str []), (.int .i64 0), (.int .i64 0), (.bool false), (.int .i64 0)] [(0, 1, (.str [120]))] fun t1_2 =>
 W.bslice 5 [(.str []), (.int .i64 0), (.int .i64 0), (.bool false), (.int .i64 0)] 1 [(0, t1_2)] L_1 fun t2_3 L_4 =>
 W.build [(.str []), (.bool false)] [(0, 1, (.str [109]))] fun t3_5 =>
 W.build [(.str []), (.bool false)] [(0, 1, (.str [110]))] fun t4_6 =>
 W.build [(.str []), (.bool false)] [(0, 1, (.str [114])), (1, 1, (.bool true))] fun t5_7 =>
 W.bslice 2 [(.str []), (.bool false)] 3 [(0, t3_5), (1, t4_6), (2, t5_7)] L_4 fun t6_8 L_9 =>
 W.build [(.str []), (.int .i64 0)] [(0, 1, (.str [99]))] fun t7_10 =>
 W.bslice 2 [(.str []), (.int .i64 0)] 1 [(0, t7_10)] L_9 fun t8_11 L_12 =>
 W.bslice 1 [(.str [])] 1 [(0, (.str [102]))] L_12 fun t9_13 L_14 =>
 W.bslice 1 [(.str [])] 3 [(0, (.str [116])), (1, (.str [117])), (2, (.str [119]))] L_14 fun t10_15 L_16 =>
 W.build [.nils, .nils, .nils, .nils, .nils, .nils] [(0, 1, t2_3), (1, 1, t6_8), (2, 1, t8_11), (3, 1, t9_13), (4, 1, t10_15)] fun t11_17 =>
 W.store 6 t0_0 t11_17 L_16 fun L_18 =>
 W.load true 6 t0_0 L_18 fun r_19 =>
 Q r_19 L_18
theorem law08_world_e (L : SH) (Q : AV → SH → Prop) : W.func Try.prog Fl law08_world_t Try.f24 (Try.f24.body.getD .skip) [] L Q = law08_world_w  L Q := by kernel_rfl
theorem law08_world_ok (L : SH) (Q : AV → SH → Prop) (h : law08_world_w  L Q) : CallA Try.prog 24 [] L Q :=
  func_sound (ht := law08_world_t) fit Try.func24 (show Try.f24.body = some (Try.f24.body.getD .skip) by kernel_rfl) (Eq.mpr (law08_world_e  L Q) h)

def law08_reach_t : Hints := ⟨fun k => none, fun k => if k = 3 then [1, 2, 4, 5, 6] else [], fun k => if k = 0 then [2] else if k = 6 then [11] else [], fun k => []⟩
def law08_reach_zt0 (t11_35 : AV) (L_36 : SH) (vs_12 : List AV) (nx_13 : W.Kn)  : Prop :=
 W.load true 4 t11_35 L_36 fun t44_37 =>
 W.store 4 (slotOf [1, 2, 4, 5, 6] vs_12 5) t44_37 L_36 fun L_38 =>
 W.bin Try.prog Fl .add 3 (slotOf [1, 2, 4, 5, 6] vs_12 6) (.int .i64 1) fun t21_39 =>
 nx_13 [(slotOf [1, 2, 4, 5, 6] vs_12 1), (slotOf [1, 2, 4, 5, 6] vs_12 2), (slotOf [1, 2, 4, 5, 6] vs_12 4), (slotOf [1, 2, 4, 5, 6] vs_12 5), t21_39] L_38
def law08_reach_zt1 (vs_12 : List AV) (nx_13 : W.Kn) (L_36 : SH)  : Prop :=
 W.bin Try.prog Fl .add 3 (slotOf [1, 2, 4, 5, 6] vs_12 6) (.int .i64 1) fun t21_40 =>
 nx_13 [(slotOf [1, 2, 4, 5, 6] vs_12 1), (slotOf [1, 2, 4, 5, 6] vs_12 2), (slotOf [1, 2, 4, 5, 6] vs_12 4), (slotOf [1, 2, 4, 5, 6] vs_12 5), t21_40] L_36
def law08_reach_c0 (vs_12 : List AV) (nx_13 : W.Kn) (t39_27 : AV) (L_28 : SH) : Prop :=
 W.ext 0 t39_27 fun t40_29 =>
 W.ext 1 t39_27 fun t41_30 =>
 W.ext 2 t39_27 fun t42_31 =>
 W.alloc [.nils, (.int .i64 0), .nils, .nils] L_28 fun t11_32 L_33 =>
 W.store 4 t11_32 t40_29 L_33 fun L_34 =>
 W.frz1 t11_32 L_34 fun t11_35 L_36 =>
 W.cond t42_31 (
 (law08_reach_zt0 t11_35 L_36 vs_12 nx_13)) (
 (law08_reach_zt1 vs_12 nx_13 L_36))
def law08_reach_c1 (vs_12 : List AV) (nx_13 : W.Kn) (t27_19 : AV) (L_20 : SH) : Prop :=
 W.ext 0 t27_19 fun t28_21 =>
 W.ext 1 t27_19 fun t29_22 =>
 W.ext 2 t27_19 fun t30_23 =>
 W.ext 3 t27_19 fun t31_24 =>
 W.load true 6 (slotOf [1, 2, 4, 5, 6] vs_12 2) L_20 fun t33_25 =>
 W.load true 4 (slotOf [1, 2, 4, 5, 6] vs_12 5) L_20 fun t34_26 =>
 W.call Try.prog (.fn 26 []) [t33_25, t34_26, t28_21, t29_22, t30_23, t31_24] L_20 (law08_reach_c0 vs_12 nx_13)
def law08_reach_zt2 (vs_12 : List AV) (L_14 : SH) (nx_13 : W.Kn)  : Prop :=
 W.idx 4 (slotOf [1, 2, 4, 5, 6] vs_12 1) (slotOf [1, 2, 4, 5, 6] vs_12 6) L_14 fun t25_17 =>
 W.load true 4 t25_17 L_14 fun t26_18 =>
 W.call Try.prog (.fn 28 []) [t26_18] L_14 (law08_reach_c1 vs_12 nx_13)
def law08_reach_zt3 (vs_12 : List AV) (L_14 : SH) (Q : AV → SH → Prop)  : Prop :=
 W.load true 4 (slotOf [1, 2, 4, 5, 6] vs_12 5) L_14 fun t45_41 =>
 W.store 4 (slotOf [1, 2, 4, 5, 6] vs_12 4) t45_41 L_14 fun L_42 =>
 W.load true 4 (slotOf [1, 2, 4, 5, 6] vs_12 4) L_42 fun r_43 =>
 Q r_43 L_42
def law08_reach_l2 (Q : AV → SH → Prop) (vs_12 : List AV) (L_14 : SH) (nx_13 : W.Kn) : Prop :=
 W.len (slotOf [1, 2, 4, 5, 6] vs_12 1) fun t18_15 =>
 W.bin Try.prog Fl .lss 3 (slotOf [1, 2, 4, 5, 6] vs_12 6) t18_15 fun t19_16 =>
 W.cond t19_16 (
 (law08_reach_zt2 vs_12 L_14 nx_13)) (
 (law08_reach_zt3 vs_12 L_14 Q))
def law08_reach_c3 (Q : AV → SH → Prop) (t1 : AV) (t2_4 : AV) (t4_2 : AV) (t15_7 : AV) (L_8 : SH) : Prop :=
 W.alloc [.nils, (.int .i64 0), .nils, .nils] L_8 fun t5_9 L_10 =>
 W.store 4 t5_9 t15_7 L_10 fun L_11 =>
 W.loop (law08_reach_l2 Q) [t1, t2_4, t4_2, t5_9, (.int .i64 0)] L_11
def law08_reach_w (t0 t1 : AV) (L : SH) (Q : AV → SH → Prop) : Prop :=
 W.box t0 L fun t2_0 L_1 =>
 W.alloc [.nils, (.int .i64 0), .nils, .nils] L_1 fun t4_2 L_3 =>
 W.frz1 t2_0 L_3 fun t2_4 L_5 =>
 W.load true 6 t2_4 L_5 fun t14_6 =>
 W.call Try.prog (.fn 21 []) [t14_6] L_5 (law08_reach_c3 Q t1 t2_4 t4_2)
theorem law08_reach_e (t0 t1 : AV) (L : SH) (Q : AV → SH → Prop) : W.func Try.prog Fl law08_reach_t Try.f25 (Try.f25.body.getD .skip) [t0, t1] L Q = law08_reach_w t0 t1 L Q := by kernel_rfl
theorem law08_reach_ok (t0 t1 : AV) (L : SH) (Q : AV → SH → Prop) (h : law08_reach_w t0 t1 L Q) : CallA Try.prog 25 [t0, t1] L Q :=
  func_sound (ht := law08_reach_t) fit Try.func25 (show Try.f25.body = some (Try.f25.body.getD .skip) by kernel_rfl) (Eq.mpr (law08_reach_e t0 t1 L Q) h)

def law08_Event_try_t : Hints := ⟨fun k => if k = 20 then some [1, 6, 7] else if k = 10 then some [1, 6, 7, 19, 20] else none, fun k => [], fun k => if k = 0 then [1] else [], fun k => if k = 21 then [0, 1, 3, 7, 15, 0, 0, 0, 128, 384, 896, 1920, 3968, 31, 8255, 24703, 65535] else []⟩
def law08_Event_try_j0 (Q : AV → SH → Prop) (vs_15 : List AV) (L_17 : SH) : Prop :=
 (true = true) ∧ (
 W.faddr 0 (slotOf [1, 6, 7] vs_15 1) fun t37_18 =>
 W.calm [] ⟨1, (blocksOf t37_18), [], [], false, []⟩ (
 W.load false 1 t37_18 L_17 fun t38_19 =>
 W.note ⟨(blocksOf t37_18), [], [], []⟩ fun r_20 =>
 W.conv .u8 t38_19 fun t39_21 =>
 W.conv .i64 t39_21 fun t40_22 =>
 W.bin Try.prog Fl .rem 3 t40_22 (.int .i64 3) fun t41_23 =>
 W.faddr 3 (slotOf [1, 6, 7] vs_15 1) fun t44_24 =>
 W.calm [⟨1, r_20.reads, r_20.writes, r_20.made, false, r_20.old⟩] ⟨8, (blocksOf t44_24), [], [], false, []⟩ (
 W.load false 1 t44_24 L_17 fun t45_25 =>
 W.note ⟨(blocksOf t44_24), [], [], []⟩ fun r_26 =>
 W.conv .u8 t45_25 fun t46_27 =>
 W.conv .i64 t46_27 fun t47_28 =>
 W.bin Try.prog Fl .rem 3 t47_28 (.int .i64 4) fun t48_29 =>
 W.bin Try.prog Fl .sub 3 t48_29 (.int .i64 1) fun t49_30 =>
 Q (.tup [t41_23, (slotOf [1, 6, 7] vs_15 6), (slotOf [1, 6, 7] vs_15 7), t49_30]) L_17)))
def law08_Event_try_zt0 (t29_34 : AV) (j_16 : W.Kn) (vs_31 : List AV) (L_33 : SH)  : Prop :=
 W.cond t29_34 (
 j_16 [(slotOf [1, 6, 7, 19, 20] vs_31 1), (slotOf [1, 6, 7, 19, 20] vs_31 6), (.int .i64 0)] L_33) (
 j_16 [(slotOf [1, 6, 7, 19, 20] vs_31 1), (slotOf [1, 6, 7, 19, 20] vs_31 6), (slotOf [1, 6, 7, 19, 20] vs_31 7)] L_33)
def law08_Event_try_zt1 (t30_35 : AV) (j_16 : W.Kn) (vs_31 : List AV) (L_33 : SH)  : Prop :=
 W.cond t30_35 (
 j_16 [(slotOf [1, 6, 7, 19, 20] vs_31 1), (slotOf [1, 6, 7, 19, 20] vs_31 6), (.int .i64 0)] L_33) (
 j_16 [(slotOf [1, 6, 7, 19, 20] vs_31 1), (slotOf [1, 6, 7, 19, 20] vs_31 6), (slotOf [1, 6, 7, 19, 20] vs_31 7)] L_33)
def law08_Event_try_zt2 (t31_36 : AV) (j_16 : W.Kn) (vs_31 : List AV) (L_33 : SH)  : Prop :=
 W.cond t31_36 (
 j_16 [(slotOf [1, 6, 7, 19, 20] vs_31 1), (slotOf [1, 6, 7, 19, 20] vs_31 6), (.int .i64 0)] L_33) (
 j_16 [(slotOf [1, 6, 7, 19, 20] vs_31 1), (slotOf [1, 6, 7, 19, 20] vs_31 6), (slotOf [1, 6, 7, 19, 20] vs_31 7)] L_33)
def law08_Event_try_zt3 (t32_37 : AV) (j_16 : W.Kn) (vs_31 : List AV) (L_33 : SH)  : Prop :=
 W.cond t32_37 (
 j_16 [(slotOf [1, 6, 7, 19, 20] vs_31 1), (slotOf [1, 6, 7, 19, 20] vs_31 6), (.int .i64 0)] L_33) (
 j_16 [(slotOf [1, 6, 7, 19, 20] vs_31 1), (slotOf [1, 6, 7, 19, 20] vs_31 6), (slotOf [1, 6, 7, 19, 20] vs_31 7)] L_33)
def law08_Event_try_zt4 (t33_38 : AV) (j_16 : W.Kn) (vs_31 : List AV) (L_33 : SH)  : Prop :=
 W.cond t33_38 (
 j_16 [(slotOf [1, 6, 7, 19, 20] vs_31 1), (slotOf [1, 6, 7, 19, 20] vs_31 6), (.int .i64 0)] L_33) (
 j_16 [(slotOf [1, 6, 7, 19, 20] vs_31 1), (slotOf [1, 6, 7, 19, 20] vs_31 6), (slotOf [1, 6, 7, 19, 20] vs_31 7)] L_33)
def law08_Event_try_zt5 (t34_39 : AV) (j_16 : W.Kn) (vs_31 : List AV) (L_33 : SH)  : Prop :=
 W.cond t34_39 (
 j_16 [(slotOf [1, 6, 7, 19, 20] vs_31 1), (slotOf [1, 6, 7, 19, 20] vs_31 6), (.int .i64 0)] L_33) (
 j_16 [(slotOf [1, 6, 7, 19, 20] vs_31 1), (slotOf [1, 6, 7, 19, 20] vs_31 6), (slotOf [1, 6, 7, 19, 20] vs_31 7)] L_33)
def law08_Event_try_zt6 (t35_40 : AV) (j_16 : W.Kn) (vs_31 : List AV) (L_33 : SH)  : Prop :=
 W.cond t35_40 (
 j_16 [(slotOf [1, 6, 7, 19, 20] vs_31 1), (slotOf [1, 6, 7, 19, 20] vs_31 6), (.int .i64 0)] L_33) (
 j_16 [(slotOf [1, 6, 7, 19, 20] vs_31 1), (slotOf [1, 6, 7, 19, 20] vs_31 6), (slotOf [1, 6, 7, 19, 20] vs_31 7)] L_33)
def law08_Event_try_zt7 (vs_31 : List AV) (j_16 : W.Kn) (L_33 : SH)  : Prop :=
 W.bin Try.prog Fl .eql 3 (slotOf [1, 6, 7, 19, 20] vs_31 19) (.int .i64 23) fun t36_41 =>
 W.cond t36_41 (
 j_16 [(slotOf [1, 6, 7, 19, 20] vs_31 1), (slotOf [1, 6, 7, 19, 20] vs_31 6), (.int .i64 0)] L_33) (
 j_16 [(slotOf [1, 6, 7, 19, 20] vs_31 1), (slotOf [1, 6, 7, 19, 20] vs_31 6), (slotOf [1, 6, 7, 19, 20] vs_31 7)] L_33)
def law08_Event_try_zt8 (vs_31 : List AV) (j_16 : W.Kn) (L_33 : SH)  : Prop :=
 W.bin Try.prog Fl .eql 3 (slotOf [1, 6, 7, 19, 20] vs_31 19) (.int .i64 22) fun t35_40 =>
 W.cond t35_40 (
 (law08_Event_try_zt6 t35_40 j_16 vs_31 L_33)) (
 (law08_Event_try_zt7 vs_31 j_16 L_33))
def law08_Event_try_zt9 (vs_31 : List AV) (j_16 : W.Kn) (L_33 : SH)  : Prop :=
 W.bin Try.prog Fl .eql 3 (slotOf [1, 6, 7, 19, 20] vs_31 19) (.int .i64 19) fun t34_39 =>
 W.cond t34_39 (
 (law08_Event_try_zt5 t34_39 j_16 vs_31 L_33)) (
 (law08_Event_try_zt8 vs_31 j_16 L_33))
def law08_Event_try_zt10 (vs_31 : List AV) (j_16 : W.Kn) (L_33 : SH)  : Prop :=
 W.bin Try.prog Fl .eql 3 (slotOf [1, 6, 7, 19, 20] vs_31 19) (.int .i64 18) fun t33_38 =>
 W.cond t33_38 (
 (law08_Event_try_zt4 t33_38 j_16 vs_31 L_33)) (
 (law08_Event_try_zt9 vs_31 j_16 L_33))
def law08_Event_try_zt11 (vs_31 : List AV) (j_16 : W.Kn) (L_33 : SH)  : Prop :=
 W.bin Try.prog Fl .eql 3 (slotOf [1, 6, 7, 19, 20] vs_31 19) (.int .i64 17) fun t32_37 =>
 W.cond t32_37 (
 (law08_Event_try_zt3 t32_37 j_16 vs_31 L_33)) (
 (law08_Event_try_zt10 vs_31 j_16 L_33))
def law08_Event_try_zt12 (vs_31 : List AV) (j_16 : W.Kn) (L_33 : SH)  : Prop :=
 W.bin Try.prog Fl .eql 3 (slotOf [1, 6, 7, 19, 20] vs_31 19) (.int .i64 16) fun t31_36 =>
 W.cond t31_36 (
 (law08_Event_try_zt2 t31_36 j_16 vs_31 L_33)) (
 (law08_Event_try_zt11 vs_31 j_16 L_33))
def law08_Event_try_zt13 (vs_31 : List AV) (j_16 : W.Kn) (L_33 : SH)  : Prop :=
 W.bin Try.prog Fl .eql 3 (slotOf [1, 6, 7, 19, 20] vs_31 19) (.int .i64 4) fun t30_35 =>
 W.cond t30_35 (
 (law08_Event_try_zt1 t30_35 j_16 vs_31 L_33)) (
 (law08_Event_try_zt12 vs_31 j_16 L_33))
def law08_Event_try_zt14 (vs_31 : List AV) (j_16 : W.Kn) (L_33 : SH)  : Prop :=
 W.bin Try.prog Fl .eql 3 (slotOf [1, 6, 7, 19, 20] vs_31 19) (.int .i64 3) fun t29_34 =>
 W.cond t29_34 (
 (law08_Event_try_zt0 t29_34 j_16 vs_31 L_33)) (
 (law08_Event_try_zt13 vs_31 j_16 L_33))
def law08_Event_try_j1 (j_16 : W.Kn) (vs_31 : List AV) (L_33 : SH) : Prop :=
 W.cond (slotOf [1, 6, 7, 19, 20] vs_31 20) (
 j_16 [(slotOf [1, 6, 7, 19, 20] vs_31 1), (slotOf [1, 6, 7, 19, 20] vs_31 6), (.int .i64 (-1))] L_33) (
 (law08_Event_try_zt14 vs_31 j_16 L_33))
def law08_Event_try_zt15 (t13_9 : AV) (j_32 : W.Kn) (t1_2 : AV) (t18_14 : AV) (L_3 : SH)  : Prop :=
 W.bin Try.prog Fl .eql 3 t13_9 (.int .i64 14) fun t26_47 =>
 W.cond t26_47 (
 j_32 [t1_2, t13_9, t18_14, t13_9, t26_47] L_3) (
 W.bin Try.prog Fl .eql 3 t13_9 (.int .i64 15) fun t27_48 =>
 j_32 [t1_2, t13_9, t18_14, t13_9, t27_48] L_3)
def law08_Event_try_zt16 (t13_9 : AV) (j_32 : W.Kn) (t1_2 : AV) (t18_14 : AV) (L_3 : SH)  : Prop :=
 W.bin Try.prog Fl .eql 3 t13_9 (.int .i64 13) fun t25_46 =>
 W.cond t25_46 (
 j_32 [t1_2, t13_9, t18_14, t13_9, t25_46] L_3) (
 (law08_Event_try_zt15 t13_9 j_32 t1_2 t18_14 L_3))
def law08_Event_try_zt17 (t13_9 : AV) (j_32 : W.Kn) (t1_2 : AV) (t18_14 : AV) (L_3 : SH)  : Prop :=
 W.bin Try.prog Fl .eql 3 t13_9 (.int .i64 12) fun t24_45 =>
 W.cond t24_45 (
 j_32 [t1_2, t13_9, t18_14, t13_9, t24_45] L_3) (
 (law08_Event_try_zt16 t13_9 j_32 t1_2 t18_14 L_3))
def law08_Event_try_zt18 (t13_9 : AV) (j_32 : W.Kn) (t1_2 : AV) (t18_14 : AV) (L_3 : SH)  : Prop :=
 W.bin Try.prog Fl .eql 3 t13_9 (.int .i64 5) fun t23_44 =>
 W.cond t23_44 (
 j_32 [t1_2, t13_9, t18_14, t13_9, t23_44] L_3) (
 (law08_Event_try_zt17 t13_9 j_32 t1_2 t18_14 L_3))
def law08_Event_try_zt19 (t13_9 : AV) (j_32 : W.Kn) (t1_2 : AV) (t18_14 : AV) (L_3 : SH)  : Prop :=
 W.bin Try.prog Fl .eql 3 t13_9 (.int .i64 2) fun t22_43 =>
 W.cond t22_43 (
 j_32 [t1_2, t13_9, t18_14, t13_9, t22_43] L_3) (
 (law08_Event_try_zt18 t13_9 j_32 t1_2 t18_14 L_3))
def law08_Event_try_w (t0 : AV) (L : SH) (Q : AV → SH → Prop) : Prop :=
 W.box t0 L fun t1_0 L_1 =>
 W.frz1 t1_0 L_1 fun t1_2 L_3 =>
 W.faddr 1 t1_2 fun t8_4 =>
 W.load false 1 t8_4 L_3 fun t9_5 =>
 W.conv .u8 t9_5 fun t10_6 =>
 W.conv .i64 t10_6 fun t11_7 =>
 W.bin Try.prog Fl .rem 3 t11_7 (.int .i64 23) fun t12_8 =>
 W.bin Try.prog Fl .add 3 t12_8 (.int .i64 1) fun t13_9 =>
 W.faddr 2 t1_2 fun t14_10 =>
 W.load false 1 t14_10 L_3 fun t15_11 =>
 W.conv .u8 t15_11 fun t16_12 =>
 W.conv .i64 t16_12 fun t17_13 =>
 W.bin Try.prog Fl .rem 3 t17_13 (.int .i64 3) fun t18_14 =>
 W.join (law08_Event_try_j0 Q) fun j_16 =>
 W.join (law08_Event_try_j1 j_16) fun j_32 =>
 W.bin Try.prog Fl .eql 3 t13_9 (.int .i64 1) fun t21_42 =>
 W.cond t21_42 (
 j_32 [t1_2, t13_9, t18_14, t13_9, t21_42] L_3) (
 (law08_Event_try_zt19 t13_9 j_32 t1_2 t18_14 L_3))
theorem law08_Event_try_e (t0 : AV) (L : SH) (Q : AV → SH → Prop) : W.func Try.prog Fl law08_Event_try_t Try.f28 (Try.f28.body.getD .skip) [t0] L Q = law08_Event_try_w t0 L Q := by kernel_rfl
theorem law08_Event_try_ok (t0 : AV) (L : SH) (Q : AV → SH → Prop) (h : law08_Event_try_w t0 L Q) : CallA Try.prog 28 [t0] L Q :=
  func_sound (ht := law08_Event_try_t) fit Try.func28 (show Try.f28.body = some (Try.f28.body.getD .skip) by kernel_rfl) (Eq.mpr (law08_Event_try_e t0 L Q) h)

def law08_safe_t : Hints := ⟨fun k => none, fun k => if k = 10 then [2, 3, 5, 6, 7] else if k = 4 then [2, 3, 5] else if k = 15 then [2, 3, 8] else [], fun k => if k = 0 then [2, 3] else if k = 6 then [6] else if k = 17 then [9] else [], fun k => if k = 12 then [0, 1, 0, 7, 15, 31, 63, 127, 255, 127, 1023, 2047, 127, 4223, 12415, 32767, 65535, 131071, 262143, 524287, 1048575, 2097151, 4194303, 2097151, 16777215, 33554431, 2097151, 69206015, 2097151, 270532607, 1008730111, 2082471935, 4294967295, 8589934591, 17179869183] else []⟩
def law08_safe_zt0 (vs_162 : List AV) (nx_163 : W.Kn) (L_306 : SH)  : Prop :=
 W.bin Try.prog Fl .add 3 (slotOf [2, 3, 5, 6, 7] vs_162 7) (.int .i64 1) fun t78_309 =>
 nx_163 [(slotOf [2, 3, 5, 6, 7] vs_162 2), (slotOf [2, 3, 5, 6, 7] vs_162 3), (slotOf [2, 3, 5, 6, 7] vs_162 5), (slotOf [2, 3, 5, 6, 7] vs_162 6), t78_309] L_306
def law08_safe_zt1 (vs_162 : List AV) (L_164 : SH) (Q : AV → SH → Prop) (nx_163 : W.Kn)  : Prop :=
 (true = true) ∧ (
 W.faddr 1 (slotOf [2, 3, 5, 6, 7] vs_162 6) fun t79_169 =>
 W.calm [] ⟨1, (blocksOf t79_169), [], [], false, []⟩ (
 W.load false 1 t79_169 L_164 fun t80_170 =>
 W.note ⟨(blocksOf t79_169), [], [], []⟩ fun r_171 =>
 W.calm [] ⟨3, (slOf t80_170), [], [], false, []⟩ (
 W.idx 1 t80_170 (slotOf [2, 3, 5, 6, 7] vs_162 7) L_164 fun t82_172 =>
 W.note ⟨(slOf t80_170), [], [], []⟩ fun r_173 =>
 W.calm [] ⟨4, (blocksOf t82_172), [], [], false, []⟩ (
 W.load false 1 t82_172 L_164 fun t83_174 =>
 W.note ⟨(blocksOf t82_172), [], [], []⟩ fun r_175 =>
 W.bin Try.prog Fl .lss 3 t83_174 (.int .i64 0) fun t84_176 =>
 W.dgrd t84_176 false (fun k_178 => W.faddr 1 (slotOf [2, 3, 5, 6, 7] vs_162 6) fun v_181 =>
 k_178 v_181 L_164 ⟨[], [], [], []⟩) L_164 fun t86_177 L_180 r_179 =>
 W.dgrd t84_176 false (fun k_183 => W.calm [] ⟨8, (blocksOf t86_177), [], [], false, []⟩ (
 W.load false 1 t86_177 L_180 fun v_186 =>
 W.note ⟨(blocksOf t86_177), [], [], []⟩ fun r_187 =>
 k_183 v_186 L_180 r_187)) L_180 fun t87_182 L_185 r_184 =>
 W.dgrd t84_176 false (fun k_189 => k_189 (slotOf [2, 3, 5, 6, 7] vs_162 7) L_185 ⟨[], [], [], []⟩) L_185 fun t88_188 L_191 r_190 =>
 W.dgrd t84_176 false (fun k_193 => W.calm [] ⟨10, (slOf t87_182), [], [], false, []⟩ (
 W.idx 1 t87_182 t88_188 L_191 fun v_196 =>
 W.note ⟨(slOf t87_182), [], [], []⟩ fun r_197 =>
 k_193 v_196 L_191 r_197)) L_191 fun t89_192 L_195 r_194 =>
 W.dgrd t84_176 false (fun k_199 => W.calm [] ⟨11, (blocksOf t89_192), [], [], false, []⟩ (
 W.load false 1 t89_192 L_195 fun v_202 =>
 W.note ⟨(blocksOf t89_192), [], [], []⟩ fun r_203 =>
 k_199 v_202 L_195 r_203)) L_195 fun t90_198 L_201 r_200 =>
 W.dgrd t84_176 false (fun k_205 => W.faddr 4 (slotOf [2, 3, 5, 6, 7] vs_162 2) fun v_208 =>
 k_205 v_208 L_201 ⟨[], [], [], []⟩) L_201 fun t91_204 L_207 r_206 =>
 W.dgrd t84_176 false (fun k_210 => W.calm [⟨11, r_200.reads, r_200.writes, r_200.made, false, r_200.old⟩, ⟨10, r_194.reads, r_194.writes, r_194.made, false, r_194.old⟩, ⟨8, r_184.reads, r_184.writes, r_184.made, false, r_184.old⟩] ⟨13, (blocksOf t91_204), [], [], false, []⟩ (
 W.load false 1 t91_204 L_207 fun v_213 =>
 W.note ⟨(blocksOf t91_204), [], [], []⟩ fun r_214 =>
 k_210 v_213 L_207 r_214)) L_207 fun t92_209 L_212 r_211 =>
 W.dgrd t84_176 false (fun k_216 => W.len t92_209 fun v_219 =>
 k_216 v_219 L_212 ⟨[], [], [], []⟩) L_212 fun t93_215 L_218 r_217 =>
 W.dgrd t84_176 false (fun k_221 => W.bin Try.prog Fl .geq 3 t90_198 t93_215 fun v_224 =>
 k_221 v_224 L_218 ⟨[], [], [], []⟩) L_218 fun t94_220 L_223 r_222 =>
 W.pick t84_176 (.bool true) t94_220 fun t95_225 =>
 W.dgrd t95_225 false (fun k_227 => k_227 (slotOf [2, 3, 5, 6, 7] vs_162 7) L_223 ⟨[], [], [], []⟩) L_223 fun t97_226 L_229 r_228 =>
 W.dgrd t95_225 false (fun k_231 => W.bin Try.prog Fl .gtr 3 t97_226 (.int .i64 0) fun v_234 =>
 k_231 v_234 L_229 ⟨[], [], [], []⟩) L_229 fun t98_230 L_233 r_232 =>
 W.dgrd t95_225 false (fun k_236 => k_236 t98_230 L_233 ⟨[], [], [], []⟩) L_233 fun t99_235 L_238 r_237 =>
 W.dgrd t99_235 true (fun k_240 => W.faddr 1 (slotOf [2, 3, 5, 6, 7] vs_162 6) fun v_243 =>
 k_240 v_243 L_238 ⟨[], [], [], []⟩) L_238 fun t100_239 L_242 r_241 =>
 W.dgrd t99_235 true (fun k_245 => W.calm [] ⟨22, (blocksOf t100_239), [], [], false, []⟩ (
 W.load false 1 t100_239 L_242 fun v_248 =>
 W.note ⟨(blocksOf t100_239), [], [], []⟩ fun r_249 =>
 k_245 v_248 L_242 r_249)) L_242 fun t101_244 L_247 r_246 =>
 W.dgrd t99_235 true (fun k_251 => k_251 (slotOf [2, 3, 5, 6, 7] vs_162 7) L_247 ⟨[], [], [], []⟩) L_247 fun t102_250 L_253 r_252 =>
 W.dgrd t99_235 true (fun k_255 => W.calm [] ⟨24, (slOf t101_244), [], [], false, []⟩ (
 W.idx 1 t101_244 t102_250 L_253 fun v_258 =>
 W.note ⟨(slOf t101_244), [], [], []⟩ fun r_259 =>
 k_255 v_258 L_253 r_259)) L_253 fun t103_254 L_257 r_256 =>
 W.dgrd t99_235 true (fun k_261 => W.calm [] ⟨25, (blocksOf t103_254), [], [], false, []⟩ (
 W.load false 1 t103_254 L_257 fun v_264 =>
 W.note ⟨(blocksOf t103_254), [], [], []⟩ fun r_265 =>
 k_261 v_264 L_257 r_265)) L_257 fun t104_260 L_263 r_262 =>
 W.dgrd t99_235 true (fun k_267 => W.faddr 1 (slotOf [2, 3, 5, 6, 7] vs_162 6) fun v_270 =>
 k_267 v_270 L_263 ⟨[], [], [], []⟩) L_263 fun t105_266 L_269 r_268 =>
 W.dgrd t99_235 true (fun k_272 => W.calm [⟨25, r_262.reads, r_262.writes, r_262.made, false, r_262.old⟩, ⟨24, r_256.reads, r_256.writes, r_256.made, false, r_256.old⟩, ⟨22, r_246.reads, r_246.writes, r_246.made, false, r_246.old⟩] ⟨27, (blocksOf t105_266), [], [], false, []⟩ (
 W.load false 1 t105_266 L_269 fun v_275 =>
 W.note ⟨(blocksOf t105_266), [], [], []⟩ fun r_276 =>
 k_272 v_275 L_269 r_276)) L_269 fun t106_271 L_274 r_273 =>
 W.dgrd t99_235 true (fun k_278 => k_278 (slotOf [2, 3, 5, 6, 7] vs_162 7) L_274 ⟨[], [], [], []⟩) L_274 fun t107_277 L_280 r_279 =>
 W.dgrd t99_235 true (fun k_282 => W.bin Try.prog Fl .sub 3 t107_277 (.int .i64 1) fun v_285 =>
 k_282 v_285 L_280 ⟨[], [], [], []⟩) L_280 fun t108_281 L_284 r_283 =>
 W.dgrd t99_235 true (fun k_287 => W.calm [⟨25, r_262.reads, r_262.writes, r_262.made, false, r_262.old⟩, ⟨24, r_256.reads, r_256.writes, r_256.made, false, r_256.old⟩, ⟨22, r_246.reads, r_246.writes, r_246.made, false, r_246.old⟩] ⟨30, (slOf t106_271), [], [], false, []⟩ (
 W.idx 1 t106_271 t108_281 L_284 fun v_290 =>
 W.note ⟨(slOf t106_271), [], [], []⟩ fun r_291 =>
 k_287 v_290 L_284 r_291)) L_284 fun t109_286 L_289 r_288 =>
 W.dgrd t99_235 true (fun k_293 => W.calm [⟨25, r_262.reads, r_262.writes, r_262.made, false, r_262.old⟩, ⟨24, r_256.reads, r_256.writes, r_256.made, false, r_256.old⟩, ⟨22, r_246.reads, r_246.writes, r_246.made, false, r_246.old⟩] ⟨31, (blocksOf t109_286), [], [], false, []⟩ (
 W.load false 1 t109_286 L_289 fun v_296 =>
 W.note ⟨(blocksOf t109_286), [], [], []⟩ fun r_297 =>
 k_293 v_296 L_289 r_297)) L_289 fun t110_292 L_295 r_294 =>
 W.dgrd t99_235 true (fun k_299 => W.bin Try.prog Fl .leq 3 t104_260 t110_292 fun v_302 =>
 k_299 v_302 L_295 ⟨[], [], [], []⟩) L_295 fun t111_298 L_301 r_300 =>
 W.dgrd t95_225 false (fun k_304 => W.pick t99_235 t111_298 (.bool false) fun v_307 =>
 k_304 v_307 L_301 ⟨[], [], [], []⟩) L_301 fun t112_303 L_306 r_305 =>
 W.pick t95_225 (.bool true) t112_303 fun t113_308 =>
 W.cond t113_308 (
 Q (.bool false) L_306) (
 (law08_safe_zt0 vs_162 nx_163 L_306))))))
def law08_safe_zt2 (vs_162 : List AV) (nx_32 : W.Kn) (L_164 : SH)  : Prop :=
 W.bin Try.prog Fl .add 3 (slotOf [2, 3, 5, 6, 7] vs_162 5) (.int .i64 1) fun t29_310 =>
 nx_32 [(slotOf [2, 3, 5, 6, 7] vs_162 2), (slotOf [2, 3, 5, 6, 7] vs_162 3), t29_310] L_164
def law08_safe_l0 (Q : AV → SH → Prop) (nx_32 : W.Kn) (vs_162 : List AV) (L_164 : SH) (nx_163 : W.Kn) : Prop :=
 W.faddr 1 (slotOf [2, 3, 5, 6, 7] vs_162 6) fun t73_165 =>
 W.load false 1 t73_165 L_164 fun t74_166 =>
 W.len t74_166 fun t75_167 =>
 W.bin Try.prog Fl .lss 3 (slotOf [2, 3, 5, 6, 7] vs_162 7) t75_167 fun t76_168 =>
 W.cond t76_168 (
 (law08_safe_zt1 vs_162 L_164 Q nx_163)) (
 (law08_safe_zt2 vs_162 nx_32 L_164))
def law08_safe_zt3 (vs_31 : List AV) (L_33 : SH) (Q : AV → SH → Prop) (nx_32 : W.Kn)  : Prop :=
 W.faddr 0 (slotOf [2, 3, 5] vs_31 3) fun t30_38 =>
 W.load false 1 t30_38 L_33 fun t31_39 =>
 W.idx 2 t31_39 (slotOf [2, 3, 5] vs_31 5) L_33 fun t33_40 =>
 W.load true 2 t33_40 L_33 fun t34_41 =>
 W.alloc [(.int .i64 0), .nils] L_33 fun t6_42 L_43 =>
 W.store 2 t6_42 t34_41 L_43 fun L_44 =>
 W.frz1 t6_42 L_44 fun t6_45 L_46 =>
 W.faddr 0 t6_45 fun t35_47 =>
 W.load false 1 t35_47 L_46 fun t36_48 =>
 W.bin Try.prog Fl .lss 3 t36_48 (.int .i64 (-1)) fun t37_49 =>
 W.grd t37_49 false (fun k_51 => W.faddr 0 t6_45 fun v_53 =>
 k_51 v_53 L_46) L_46 fun t39_50 L_52 =>
 W.grd t37_49 false (fun k_55 => W.load false 1 t39_50 L_52 fun v_57 =>
 k_55 v_57 L_52) L_52 fun t40_54 L_56 =>
 W.grd t37_49 false (fun k_59 => W.faddr 4 (slotOf [2, 3, 5] vs_31 2) fun v_61 =>
 k_59 v_61 L_56) L_56 fun t41_58 L_60 =>
 W.grd t37_49 false (fun k_63 => W.load false 1 t41_58 L_60 fun v_65 =>
 k_63 v_65 L_60) L_60 fun t42_62 L_64 =>
 W.grd t37_49 false (fun k_67 => W.len t42_62 fun v_69 =>
 k_67 v_69 L_64) L_64 fun t43_66 L_68 =>
 W.grd t37_49 false (fun k_71 => W.bin Try.prog Fl .geq 3 t40_54 t43_66 fun v_73 =>
 k_71 v_73 L_68) L_68 fun t44_70 L_72 =>
 W.pick t37_49 (.bool true) t44_70 fun t45_74 =>
 W.grd t45_74 false (fun k_76 => W.faddr 0 t6_45 fun v_78 =>
 k_76 v_78 L_72) L_72 fun t47_75 L_77 =>
 W.grd t45_74 false (fun k_80 => W.load false 1 t47_75 L_77 fun v_82 =>
 k_80 v_82 L_77) L_77 fun t48_79 L_81 =>
 W.grd t45_74 false (fun k_84 => W.bin Try.prog Fl .geq 3 t48_79 (.int .i64 0) fun v_86 =>
 k_84 v_86 L_81) L_81 fun t49_83 L_85 =>
 W.grd t45_74 false (fun k_88 => k_88 t49_83 L_85) L_85 fun t50_87 L_89 =>
 W.grd t50_87 true (fun k_91 => W.faddr 1 t6_45 fun v_93 =>
 k_91 v_93 L_89) L_89 fun t51_90 L_92 =>
 W.grd t50_87 true (fun k_95 => W.load false 1 t51_90 L_92 fun v_97 =>
 k_95 v_97 L_92) L_92 fun t52_94 L_96 =>
 W.grd t50_87 true (fun k_99 => W.len t52_94 fun v_101 =>
 k_99 v_101 L_96) L_96 fun t53_98 L_100 =>
 W.grd t50_87 true (fun k_103 => W.bin Try.prog Fl .gtr 3 t53_98 (.int .i64 0) fun v_105 =>
 k_103 v_105 L_100) L_100 fun t54_102 L_104 =>
 W.grd t45_74 false (fun k_107 => W.pick t50_87 t54_102 (.bool false) fun v_109 =>
 k_107 v_109 L_104) L_104 fun t55_106 L_108 =>
 W.pick t45_74 (.bool true) t55_106 fun t56_110 =>
 W.grd t56_110 false (fun k_112 => W.faddr 1 (slotOf [2, 3, 5] vs_31 2) fun v_114 =>
 k_112 v_114 L_108) L_108 fun t58_111 L_113 =>
 W.grd t56_110 false (fun k_116 => W.load false 1 t58_111 L_113 fun v_118 =>
 k_116 v_118 L_113) L_113 fun t59_115 L_117 =>
 W.grd t56_110 false (fun k_120 => k_120 (slotOf [2, 3, 5] vs_31 5) L_117) L_117 fun t60_119 L_121 =>
 W.grd t56_110 false (fun k_123 => W.idx 2 t59_115 t60_119 L_121 fun v_125 =>
 k_123 v_125 L_121) L_121 fun t61_122 L_124 =>
 W.grd t56_110 false (fun k_127 => W.faddr 1 t61_122 fun v_129 =>
 k_127 v_129 L_124) L_124 fun t62_126 L_128 =>
 W.grd t56_110 false (fun k_131 => W.load false 1 t62_126 L_128 fun v_133 =>
 k_131 v_133 L_128) L_128 fun t63_130 L_132 =>
 W.grd t56_110 false (fun k_135 => W.un .not t63_130 fun v_137 =>
 k_135 v_137 L_132) L_132 fun t64_134 L_136 =>
 W.grd t56_110 false (fun k_139 => k_139 t64_134 L_136) L_136 fun t65_138 L_140 =>
 W.grd t65_138 true (fun k_142 => W.faddr 1 t6_45 fun v_144 =>
 k_142 v_144 L_140) L_140 fun t66_141 L_143 =>
 W.grd t65_138 true (fun k_146 => W.load false 1 t66_141 L_143 fun v_148 =>
 k_146 v_148 L_143) L_143 fun t67_145 L_147 =>
 W.grd t65_138 true (fun k_150 => W.len t67_145 fun v_152 =>
 k_150 v_152 L_147) L_147 fun t68_149 L_151 =>
 W.grd t65_138 true (fun k_154 => W.bin Try.prog Fl .gtr 3 t68_149 (.int .i64 0) fun v_156 =>
 k_154 v_156 L_151) L_151 fun t69_153 L_155 =>
 W.grd t56_110 false (fun k_158 => W.pick t65_138 t69_153 (.bool false) fun v_160 =>
 k_158 v_160 L_155) L_155 fun t70_157 L_159 =>
 W.pick t56_110 (.bool true) t70_157 fun t71_161 =>
 W.cond t71_161 (
 Q (.bool false) L_159) (
 W.loop (law08_safe_l0 Q nx_32) [(slotOf [2, 3, 5] vs_31 2), (slotOf [2, 3, 5] vs_31 3), (slotOf [2, 3, 5] vs_31 5), t6_45, (.int .i64 0)] L_159)
def law08_safe_zt4 (vs_311 : List AV) (nx_312 : W.Kn) (L_496 : SH)  : Prop :=
 W.bin Try.prog Fl .add 3 (slotOf [2, 3, 8] vs_311 8) (.int .i64 1) fun t120_499 =>
 nx_312 [(slotOf [2, 3, 8] vs_311 2), (slotOf [2, 3, 8] vs_311 3), t120_499] L_496
def law08_safe_c1 (t9_325 : AV) (vs_311 : List AV) (Q : AV → SH → Prop) (nx_312 : W.Kn) (t163_412 : AV) (L_413 : SH) : Prop :=
 W.ext 0 t163_412 fun t164_414 =>
 W.ext 1 t163_412 fun t165_415 =>
 W.faddr 0 t9_325 fun t166_416 =>
 W.load false 1 t166_416 L_413 fun t167_417 =>
 W.bin Try.prog Fl .eql 3 t167_417 (.int .i64 0) fun t168_418 =>
 W.grd t168_418 false (fun k_420 => W.faddr 0 t9_325 fun v_422 =>
 k_420 v_422 L_413) L_413 fun t170_419 L_421 =>
 W.grd t168_418 false (fun k_424 => W.load false 1 t170_419 L_421 fun v_426 =>
 k_424 v_426 L_421) L_421 fun t171_423 L_425 =>
 W.grd t168_418 false (fun k_428 => W.bin Try.prog Fl .eql 3 t171_423 (.int .i64 1) fun v_430 =>
 k_428 v_430 L_425) L_425 fun t172_427 L_429 =>
 W.pick t168_418 (.bool true) t172_427 fun t173_431 =>
 W.grd t173_431 true (fun k_433 => k_433 t164_414 L_429) L_429 fun t175_432 L_434 =>
 W.grd t173_431 true (fun k_436 => W.len t175_432 fun v_438 =>
 k_436 v_438 L_434) L_434 fun t176_435 L_437 =>
 W.grd t173_431 true (fun k_440 => W.bin Try.prog Fl .gtr 3 t176_435 (.int .i64 0) fun v_442 =>
 k_440 v_442 L_437) L_437 fun t177_439 L_441 =>
 W.grd t173_431 true (fun k_444 => k_444 t177_439 L_441) L_441 fun t178_443 L_445 =>
 W.grd t178_443 false (fun k_447 => k_447 t165_415 L_445) L_445 fun t179_446 L_448 =>
 W.grd t178_443 false (fun k_450 => W.len t179_446 fun v_452 =>
 k_450 v_452 L_448) L_448 fun t180_449 L_451 =>
 W.grd t178_443 false (fun k_454 => W.bin Try.prog Fl .gtr 3 t180_449 (.int .i64 0) fun v_456 =>
 k_454 v_456 L_451) L_451 fun t181_453 L_455 =>
 W.grd t173_431 true (fun k_458 => W.pick t178_443 (.bool true) t181_453 fun v_460 =>
 k_458 v_460 L_455) L_455 fun t182_457 L_459 =>
 W.grd t173_431 true (fun k_462 => k_462 t182_457 L_459) L_459 fun t183_461 L_463 =>
 W.grd t183_461 false (fun k_465 => W.faddr 1 (slotOf [2, 3, 8] vs_311 3) fun v_467 =>
 k_465 v_467 L_463) L_463 fun t184_464 L_466 =>
 W.grd t183_461 false (fun k_469 => W.load false 1 t184_464 L_466 fun v_471 =>
 k_469 v_471 L_466) L_466 fun t185_468 L_470 =>
 W.grd t183_461 false (fun k_473 => k_473 (slotOf [2, 3, 8] vs_311 8) L_470) L_470 fun t186_472 L_474 =>
 W.grd t183_461 false (fun k_476 => W.bin Try.prog Fl .eql 3 t185_468 t186_472 fun v_478 =>
 k_476 v_478 L_474) L_474 fun t187_475 L_477 =>
 W.grd t173_431 true (fun k_480 => W.pick t183_461 (.bool true) t187_475 fun v_482 =>
 k_480 v_482 L_477) L_477 fun t188_479 L_481 =>
 W.grd t173_431 true (fun k_484 => k_484 t188_479 L_481) L_481 fun t189_483 L_485 =>
 W.grd t189_483 false (fun k_487 => W.faddr 2 t9_325 fun v_489 =>
 k_487 v_489 L_485) L_485 fun t190_486 L_488 =>
 W.grd t189_483 false (fun k_491 => W.load false 1 t190_486 L_488 fun v_493 =>
 k_491 v_493 L_488) L_488 fun t191_490 L_492 =>
 W.grd t173_431 true (fun k_495 => W.pick t189_483 (.bool true) t191_490 fun v_497 =>
 k_495 v_497 L_492) L_492 fun t192_494 L_496 =>
 W.pick t173_431 t192_494 (.bool false) fun t193_498 =>
 W.cond t193_498 (
 Q (.bool false) L_496) (
 (law08_safe_zt4 vs_311 nx_312 L_496))
def law08_safe_zt5 (vs_311 : List AV) (L_407 : SH) (t9_325 : AV) (Q : AV → SH → Prop) (nx_312 : W.Kn)  : Prop :=
 W.load true 6 (slotOf [2, 3, 8] vs_311 2) L_407 fun t160_410 =>
 W.load true 4 (slotOf [2, 3, 8] vs_311 3) L_407 fun t161_411 =>
 W.call Try.prog (.fn 32 []) [t160_410, t161_411, (slotOf [2, 3, 8] vs_311 8)] L_407 (law08_safe_c1 t9_325 vs_311 Q nx_312)
def law08_safe_zt6 (vs_311 : List AV) (L_313 : SH) (Q : AV → SH → Prop) (nx_312 : W.Kn)  : Prop :=
 W.faddr 3 (slotOf [2, 3, 8] vs_311 3) fun t121_318 =>
 W.load false 1 t121_318 L_313 fun t122_319 =>
 W.idx 3 t122_319 (slotOf [2, 3, 8] vs_311 8) L_313 fun t124_320 =>
 W.load true 3 t124_320 L_313 fun t125_321 =>
 W.alloc [(.int .i64 0), (.int .i64 0), (.bool false)] L_313 fun t9_322 L_323 =>
 W.store 3 t9_322 t125_321 L_323 fun L_324 =>
 W.frz1 t9_322 L_324 fun t9_325 L_326 =>
 W.faddr 0 t9_325 fun t126_327 =>
 W.load false 1 t126_327 L_326 fun t127_328 =>
 W.bin Try.prog Fl .eql 3 t127_328 (.int .i64 3) fun t128_329 =>
 W.grd t128_329 false (fun k_331 => W.faddr 0 t9_325 fun v_333 =>
 k_331 v_333 L_326) L_326 fun t130_330 L_332 =>
 W.grd t128_329 false (fun k_335 => W.load false 1 t130_330 L_332 fun v_337 =>
 k_335 v_337 L_332) L_332 fun t131_334 L_336 =>
 W.grd t128_329 false (fun k_339 => W.bin Try.prog Fl .eql 3 t131_334 (.int .i64 4) fun v_341 =>
 k_339 v_341 L_336) L_336 fun t132_338 L_340 =>
 W.pick t128_329 (.bool true) t132_338 fun t133_342 =>
 W.faddr 0 t9_325 fun t134_343 =>
 W.load false 1 t134_343 L_340 fun t135_344 =>
 W.bin Try.prog Fl .lss 3 t135_344 (.int .i64 0) fun t136_345 =>
 W.grd t136_345 false (fun k_347 => W.faddr 0 t9_325 fun v_349 =>
 k_347 v_349 L_340) L_340 fun t138_346 L_348 =>
 W.grd t136_345 false (fun k_351 => W.load false 1 t138_346 L_348 fun v_353 =>
 k_351 v_353 L_348) L_348 fun t139_350 L_352 =>
 W.grd t136_345 false (fun k_355 => W.bin Try.prog Fl .gtr 3 t139_350 (.int .i64 5) fun v_357 =>
 k_355 v_357 L_352) L_352 fun t140_354 L_356 =>
 W.pick t136_345 (.bool true) t140_354 fun t141_358 =>
 W.grd t141_358 false (fun k_360 => W.faddr 1 t9_325 fun v_362 =>
 k_360 v_362 L_356) L_356 fun t143_359 L_361 =>
 W.grd t141_358 false (fun k_364 => W.load false 1 t143_359 L_361 fun v_366 =>
 k_364 v_366 L_361) L_361 fun t144_363 L_365 =>
 W.grd t141_358 false (fun k_368 => W.bin Try.prog Fl .neq 3 t144_363 (.int .i64 0) fun v_370 =>
 k_368 v_370 L_365) L_365 fun t145_367 L_369 =>
 W.pick t141_358 (.bool true) t145_367 fun t146_371 =>
 W.grd t146_371 false (fun k_373 => k_373 t133_342 L_369) L_369 fun t148_372 L_374 =>
 W.grd t146_371 false (fun k_376 => k_376 t148_372 L_374) L_374 fun t149_375 L_377 =>
 W.grd t149_375 true (fun k_379 => W.faddr 0 (slotOf [2, 3, 8] vs_311 3) fun v_381 =>
 k_379 v_381 L_377) L_377 fun t150_378 L_380 =>
 W.grd t149_375 true (fun k_383 => W.load false 1 t150_378 L_380 fun v_385 =>
 k_383 v_385 L_380) L_380 fun t151_382 L_384 =>
 W.grd t149_375 true (fun k_387 => W.idx 2 t151_382 (.int .i64 0) L_384 fun v_389 =>
 k_387 v_389 L_384) L_384 fun t152_386 L_388 =>
 W.grd t149_375 true (fun k_391 => W.faddr 0 t152_386 fun v_393 =>
 k_391 v_393 L_388) L_388 fun t153_390 L_392 =>
 W.grd t149_375 true (fun k_395 => W.load false 1 t153_390 L_392 fun v_397 =>
 k_395 v_397 L_392) L_392 fun t154_394 L_396 =>
 W.grd t149_375 true (fun k_399 => k_399 (slotOf [2, 3, 8] vs_311 8) L_396) L_396 fun t155_398 L_400 =>
 W.grd t149_375 true (fun k_402 => W.bin Try.prog Fl .eql 3 t154_394 t155_398 fun v_404 =>
 k_402 v_404 L_400) L_400 fun t156_401 L_403 =>
 W.grd t146_371 false (fun k_406 => W.pick t149_375 t156_401 (.bool false) fun v_408 =>
 k_406 v_408 L_403) L_403 fun t157_405 L_407 =>
 W.pick t146_371 (.bool true) t157_405 fun t158_409 =>
 W.cond t158_409 (
 Q (.bool false) L_407) (
 (law08_safe_zt5 vs_311 L_407 t9_325 Q nx_312))
def law08_safe_zt7 (vs_311 : List AV) (L_313 : SH) (Q : AV → SH → Prop)  : Prop :=
 W.faddr 1 (slotOf [2, 3, 8] vs_311 3) fun t194_500 =>
 W.load false 1 t194_500 L_313 fun t195_501 =>
 W.bin Try.prog Fl .geq 3 t195_501 (.int .i64 (-1)) fun t196_502 =>
 W.grd t196_502 true (fun k_504 => W.faddr 1 (slotOf [2, 3, 8] vs_311 3) fun v_506 =>
 k_504 v_506 L_313) L_313 fun t198_503 L_505 =>
 W.grd t196_502 true (fun k_508 => W.load false 1 t198_503 L_505 fun v_510 =>
 k_508 v_510 L_505) L_505 fun t199_507 L_509 =>
 W.grd t196_502 true (fun k_512 => W.faddr 4 (slotOf [2, 3, 8] vs_311 2) fun v_514 =>
 k_512 v_514 L_509) L_509 fun t200_511 L_513 =>
 W.grd t196_502 true (fun k_516 => W.load false 1 t200_511 L_513 fun v_518 =>
 k_516 v_518 L_513) L_513 fun t201_515 L_517 =>
 W.grd t196_502 true (fun k_520 => W.len t201_515 fun v_522 =>
 k_520 v_522 L_517) L_517 fun t202_519 L_521 =>
 W.grd t196_502 true (fun k_524 => W.bin Try.prog Fl .lss 3 t199_507 t202_519 fun v_526 =>
 k_524 v_526 L_521) L_521 fun t203_523 L_525 =>
 W.pick t196_502 t203_523 (.bool false) fun t204_527 =>
 Q t204_527 L_525
def law08_safe_l2 (Q : AV → SH → Prop) (vs_311 : List AV) (L_313 : SH) (nx_312 : W.Kn) : Prop :=
 W.faddr 3 (slotOf [2, 3, 8] vs_311 3) fun t115_314 =>
 W.load false 1 t115_314 L_313 fun t116_315 =>
 W.len t116_315 fun t117_316 =>
 W.bin Try.prog Fl .lss 3 (slotOf [2, 3, 8] vs_311 8) t117_316 fun t118_317 =>
 W.cond t118_317 (
 (law08_safe_zt6 vs_311 L_313 Q nx_312)) (
 (law08_safe_zt7 vs_311 L_313 Q))
def law08_safe_l3 (Q : AV → SH → Prop) (vs_31 : List AV) (L_33 : SH) (nx_32 : W.Kn) : Prop :=
 W.faddr 0 (slotOf [2, 3, 5] vs_31 3) fun t24_34 =>
 W.load false 1 t24_34 L_33 fun t25_35 =>
 W.len t25_35 fun t26_36 =>
 W.bin Try.prog Fl .lss 3 (slotOf [2, 3, 5] vs_31 5) t26_36 fun t27_37 =>
 W.cond t27_37 (
 (law08_safe_zt3 vs_31 L_33 Q nx_32)) (
 W.loop (law08_safe_l2 Q) [(slotOf [2, 3, 5] vs_31 2), (slotOf [2, 3, 5] vs_31 3), (.int .i64 0)] L_33)
def law08_safe_c4 (t2_4 : AV) (t3_6 : AV) (Q : AV → SH → Prop) (t15_10 : AV) (L_11 : SH) : Prop :=
 W.un .not t15_10 fun t16_12 =>
 W.grd t16_12 false (fun k_14 => W.load true 6 t2_4 L_11 fun v_16 =>
 k_14 v_16 L_11) L_11 fun t18_13 L_15 =>
 W.grd t16_12 false (fun k_18 => W.load true 4 t3_6 L_15 fun v_20 =>
 k_18 v_20 L_15) L_15 fun t19_17 L_19 =>
 W.grd t16_12 false (fun k_22 => W.call Try.prog (.fn 37 []) [t18_13, t19_17] L_19 fun v_24 L_25 =>
 k_22 v_24 L_25) L_19 fun t20_21 L_23 =>
 W.grd t16_12 false (fun k_27 => W.un .not t20_21 fun v_29 =>
 k_27 v_29 L_23) L_23 fun t21_26 L_28 =>
 W.pick t16_12 (.bool true) t21_26 fun t22_30 =>
 W.cond t22_30 (
 Q (.bool false) L_28) (
 W.loop (law08_safe_l3 Q) [t2_4, t3_6, (.int .i64 0)] L_28)
def law08_safe_w (t0 t1 : AV) (L : SH) (Q : AV → SH → Prop) : Prop :=
 W.box t0 L fun t2_0 L_1 =>
 W.box t1 L_1 fun t3_2 L_3 =>
 W.frz1 t2_0 L_3 fun t2_4 L_5 =>
 W.frz1 t3_2 L_5 fun t3_6 L_7 =>
 W.load true 6 t2_4 L_7 fun t13_8 =>
 W.load true 4 t3_6 L_7 fun t14_9 =>
 W.call Try.prog (.fn 38 []) [t13_8, t14_9] L_7 (law08_safe_c4 t2_4 t3_6 Q)
theorem law08_safe_e (t0 t1 : AV) (L : SH) (Q : AV → SH → Prop) : W.func Try.prog Fl law08_safe_t Try.f30 (Try.f30.body.getD .skip) [t0, t1] L Q = law08_safe_w t0 t1 L Q := by kernel_rfl
theorem law08_safe_ok (t0 t1 : AV) (L : SH) (Q : AV → SH → Prop) (h : law08_safe_w t0 t1 L Q) : CallA Try.prog 30 [t0, t1] L Q :=
  func_sound (ht := law08_safe_t) fit Try.func30 (show Try.f30.body = some (Try.f30.body.getD .skip) by kernel_rfl) (Eq.mpr (law08_safe_e t0 t1 L Q) h)

end Go.Proofs.Ytadjimfkfmojkaa.Am

end
section
namespace Go.Proofs.Ytadjimfkfmojkaa.Am
set_option maxRecDepth 100000
set_option linter.unusedSimpArgs false
set_option linter.unusedVariables false
set_option linter.unusedSectionVars false
theorem a_subE {P : Program} {F : TypeId → Option (List TypeId)} {t : TypeId} {k : IntKind} {a b m : Int} {K : AV → Prop} (e : k.wrap (a - b) = m) (h : K (.int k m)) : W.bin P F .sub t (.int k a) (.int k b) K := a_sub (by rw [e]; exact h)
theorem holds_new {s : SyncD} (h : Safe s) {i : Nat} (hi : i < 3) (hs : (thrAt s i).status = 0 ∨ (thrAt s i).status = 1) : holdsS W0 s i = ([], []) := by
  obtain ⟨c, _, _⟩ := h.new i (by omega) (by omega) hs
  unfold holdsS
  rw [fitsS_iff.2 h.inv.fit, show inB (i : Int) W0.threads.length = true from inB_iff.2 ⟨by omega, by show (i : Int) < 3; omega⟩]
  have e1 : wh (ownsS s i) s.locks.length = [] := by
    unfold wh
    rw [List.map_eq_nil_iff, List.filter_eq_nil_iff]
    intro j hj
    rw [List.mem_range, h.inv.nl] at hj
    have := (c j (by omega) (by omega)).1
    unfold ownsS
    unfold lockAt at this
    simpa using this
  have e2 : wh (readsS s i) s.locks.length = [] := by
    unfold wh
    rw [List.map_eq_nil_iff, List.filter_eq_nil_iff]
    intro j hj
    rw [List.mem_range, h.inv.nl] at hj
    have := (c j (by omega) (by omega)).2
    unfold readsS
    unfold lockAt at this
    simpa using this
  rw [e1, e2]; rfl
section
variable (s : SyncD) (h : Safe s) (Q : AV → SH → Prop) (hq : Q (.bool true) [])
include h hq
theorem safe_l2 : W.loop (law08_safe_l2 Q) [.pptr [W0.enc] 0 0, .pptr [s.enc] 0 0, .int .i64 (0 : Nat)] [] := by
  refine for_by s.threads.length (fun i => ([.pptr [W0.enc] 0 0, .pptr [s.enc] 0 0, .int .i64 i], [])) (fun _ => True) trivial rfl rfl ?_
  intro i hi _
  dsimp only
  unfold law08_safe_l2
  have h3 := h.inv.nt
  rcases Nat.lt_or_ge i s.threads.length with g1 | g1
  · have hd := dec_lt g1
    have hx := map_at (f := ThrD.enc) g1
    have hl0 : 0 < s.locks.length := by rw [h.inv.nl]; decide
    have hy := map_at (f := LockD.enc) hl0
    have ht : thrAt s (i : Int) = s.threads[i] := by unfold thrAt; simp [g1]
    have hlk : lockAt s 0 = s.locks[0] := by unfold lockAt; simp [hl0]
    have hst := h.stat i (by omega) (by omega)
    have hw := h.wait i (by omega) (by omega)
    have hn := h.new i (by omega) (by omega)
    have hc := h.inv.cond _ (List.getElem_mem g1)
    have hh := fun hs => holds_new h (i := i) (by omega) hs
    have hho := holds_ok W0 s i (by decide) (by rw [h.inv.nl]; decide) h.inv.small.rd
    rw [ht] at hst hw hn hh
    rw [hlk] at hw
    clear ht
    generalize s.threads[i] = T at hx hst hw hn hc hh
    obtain ⟨st, cd, at_⟩ := T
    dsimp only at hst hw hn hc hh
    subst hc
    have fin : ∃ j, i < j ∧ j ≤ s.threads.length ∧ True ∧ FzS [.pptr [W0.enc] 0 0, .pptr [s.enc] 0 0, .int .i64 (IntKind.i64.wrap ((i : Int) + 1))] [] [.pptr [W0.enc] 0 0, .pptr [s.enc] 0 0, .int .i64 j] [] := ⟨i + 1, by omega, by omega, trivial, fzs_eq (by rw [i64_succ g1 (by omega)]) rfl⟩
    have hcase : st = 0 ∨ st = 1 ∨ st = 2 ∨ st = 3 ∨ st = 4 ∨ st = 5 := by omega
    rcases hcase with rfl | rfl | rfl | rfl | rfl | rfl
    · rw [hh (.inl rfl)] at hho
      obtain ⟨_, ntx, nat_⟩ := hn (.inl rfl)
      subst nat_
      have dtx : decide (s.tx = (i : Int)) = false := decide_eq_false ntx
      repeat' (first | (refine h_load1 ?_; refine b_load_q ?_) | (refine h_faddr ?_; refine a_faddr_q ?_) | (refine h_bin ?_; first | refine a_eql ?_ | refine a_lss ?_ | refine a_neq ?_ | refine a_gtr ?_ | refine a_add ?_) | (refine h_cond ?_; first | refine b_cond_t ?_ | refine b_cond_f ?_) | (refine h_idx ?_; refine b_idx_n ?_) | (refine h_row ?_; refine b_row_q ?_) | (refine h_len ?_; refine a_len_m ?_) | (refine h_ext ?_; refine b_ext ?_) | (refine h_pick ?_; first | refine b_pick_t ?_ | refine b_pick_f ?_) | (refine h_grd ?_; first | refine b_grd_y ?_ | refine b_grd_n ?_) | refine a_mark ?_ | ((with_reducible refine h_fn 32 ?_); refine m_call (hho) ?_) | (refine h_frz1 ?_; refine b_frz_p ?_) | (refine h_store ?_; refine b_store_box ?_) | refine a_alloc (fun nb_ hnb_ => ?_))
      exact fin
    · rw [hh (.inr rfl)] at hho
      obtain ⟨_, ntx, nat_⟩ := hn (.inr rfl)
      subst nat_
      have dtx : decide (s.tx = (i : Int)) = false := decide_eq_false ntx
      repeat' (first | (refine h_load1 ?_; refine b_load_q ?_) | (refine h_faddr ?_; refine a_faddr_q ?_) | (refine h_bin ?_; first | refine a_eql ?_ | refine a_lss ?_ | refine a_neq ?_ | refine a_gtr ?_ | refine a_add ?_) | (refine h_cond ?_; first | refine b_cond_t ?_ | refine b_cond_f ?_) | (refine h_idx ?_; refine b_idx_n ?_) | (refine h_row ?_; refine b_row_q ?_) | (refine h_len ?_; refine a_len_m ?_) | (refine h_ext ?_; refine b_ext ?_) | (refine h_pick ?_; first | refine b_pick_t ?_ | refine b_pick_f ?_) | (refine h_grd ?_; first | refine b_grd_y ?_ | refine b_grd_n ?_) | refine a_mark ?_ | ((with_reducible refine h_fn 32 ?_); refine m_call (hho) ?_) | (refine h_frz1 ?_; refine b_frz_p ?_) | (refine h_store ?_; refine b_store_box ?_) | refine a_alloc (fun nb_ hnb_ => ?_))
      exact fin
    · unfold encH at hho
      repeat' (first | (refine h_load1 ?_; refine b_load_q ?_) | (refine h_faddr ?_; refine a_faddr_q ?_) | (refine h_bin ?_; first | refine a_eql ?_ | refine a_lss ?_ | refine a_neq ?_ | refine a_gtr ?_ | refine a_add ?_) | (refine h_cond ?_; first | refine b_cond_t ?_ | refine b_cond_f ?_) | (refine h_idx ?_; refine b_idx_n ?_) | (refine h_row ?_; refine b_row_q ?_) | (refine h_len ?_; refine a_len_m ?_) | (refine h_ext ?_; refine b_ext ?_) | (refine h_pick ?_; refine b_pick_f ?_) | (refine h_grd ?_; first | refine b_grd_y ?_ | refine b_grd_n ?_ | refine a_grd_u ?_) | refine a_mark ?_ | ((with_reducible refine h_fn 32 ?_); refine m_call (hho) ?_) | (refine h_frz1 ?_; refine b_frz_p ?_) | (refine h_store ?_; refine b_store_box ?_) | refine a_alloc (fun nb_ hnb_ => ?_))
      exact fin
    · unfold encH at hho
      have dow : decide (s.locks[0].owner = (i : Int)) = false := decide_eq_false (hw (.inl rfl))
      repeat' (first | (refine h_load1 ?_; refine b_load_q ?_) | (refine h_faddr ?_; refine a_faddr_q ?_) | (refine h_bin ?_; first | refine a_eql ?_ | refine a_lss ?_ | refine a_neq ?_ | refine a_gtr ?_ | refine a_add ?_) | (refine h_cond ?_; first | refine b_cond_t ?_ | refine b_cond_f ?_) | (refine h_idx ?_; refine b_idx_n ?_) | (refine h_row ?_; refine b_row_q ?_) | (refine h_len ?_; refine a_len_m ?_) | (refine h_ext ?_; refine b_ext ?_) | (refine h_pick ?_; first | refine b_pick_t ?_ | refine b_pick_f ?_) | (refine h_grd ?_; first | refine b_grd_y ?_ | refine b_grd_n ?_ | refine a_grd_u ?_) | refine a_mark ?_ | ((with_reducible refine h_fn 32 ?_); refine m_call (hho) ?_) | (refine h_frz1 ?_; refine b_frz_p ?_) | (refine h_store ?_; refine b_store_box ?_) | refine a_alloc (fun nb_ hnb_ => ?_))
      exact fin
    · unfold encH at hho
      have dow : decide (s.locks[0].owner = (i : Int)) = false := decide_eq_false (hw (.inr rfl))
      repeat' (first | (refine h_load1 ?_; refine b_load_q ?_) | (refine h_faddr ?_; refine a_faddr_q ?_) | (refine h_bin ?_; first | refine a_eql ?_ | refine a_lss ?_ | refine a_neq ?_ | refine a_gtr ?_ | refine a_add ?_) | (refine h_cond ?_; first | refine b_cond_t ?_ | refine b_cond_f ?_) | (refine h_idx ?_; refine b_idx_n ?_) | (refine h_row ?_; refine b_row_q ?_) | (refine h_len ?_; refine a_len_m ?_) | (refine h_ext ?_; refine b_ext ?_) | (refine h_pick ?_; first | refine b_pick_t ?_ | refine b_pick_f ?_) | (refine h_grd ?_; first | refine b_grd_y ?_ | refine b_grd_n ?_ | refine a_grd_u ?_) | refine a_mark ?_ | ((with_reducible refine h_fn 32 ?_); refine m_call (hho) ?_) | (refine h_frz1 ?_; refine b_frz_p ?_) | (refine h_store ?_; refine b_store_box ?_) | refine a_alloc (fun nb_ hnb_ => ?_))
      exact fin
    · unfold encH at hho
      repeat' (first | (refine h_load1 ?_; refine b_load_q ?_) | (refine h_faddr ?_; refine a_faddr_q ?_) | (refine h_bin ?_; first | refine a_eql ?_ | refine a_lss ?_ | refine a_neq ?_ | refine a_gtr ?_ | refine a_add ?_) | (refine h_cond ?_; first | refine b_cond_t ?_ | refine b_cond_f ?_) | (refine h_idx ?_; refine b_idx_n ?_) | (refine h_row ?_; refine b_row_q ?_) | (refine h_len ?_; refine a_len_m ?_) | (refine h_ext ?_; refine b_ext ?_) | (refine h_pick ?_; refine b_pick_f ?_) | (refine h_grd ?_; first | refine b_grd_y ?_ | refine b_grd_n ?_ | refine a_grd_u ?_) | refine a_mark ?_ | ((with_reducible refine h_fn 32 ?_); refine m_call (hho) ?_) | (refine h_frz1 ?_; refine b_frz_p ?_) | (refine h_store ?_; refine b_store_box ?_) | refine a_alloc (fun nb_ hnb_ => ?_))
      exact fin
  · have hd := dec_ge g1
    have d1 : decide (-1 ≤ s.tx) = true := decide_eq_true h.tx.1
    have d2 : decide (s.tx < ((W0.threads.length : Nat) : Int)) = true := decide_eq_true h.tx.2
    have hq' : Q (.bool (decide (s.tx < ((W0.threads.length : Nat) : Int)))) [] := by rw [d2]; exact hq
    repeat' (first | (refine h_load1 ?_; refine b_load_q ?_) | (refine h_faddr ?_; refine a_faddr_q ?_) | (refine h_bin ?_; first | refine a_lss ?_ | refine a_geq ?_) | (refine h_cond ?_; refine b_cond_f ?_) | (refine h_len ?_; refine a_len_m ?_) | (refine h_pick ?_; refine b_pick_t ?_) | (refine h_grd ?_; refine b_grd_y ?_))
    exact hq'
theorem safe_l0 (i : Nat) (g1 : i < s.locks.length) (hloc : RdOk s.locks[i]) (nx : W.Kn) (hnx : nx [.pptr [W0.enc] 0 0, .pptr [s.enc] 0 0, .int .i64 ((i + 1 : Nat) : Int)] []) :
    W.loop (law08_safe_l0 Q nx) [.pptr [W0.enc] 0 0, .pptr [s.enc] 0 0, .int .i64 i, .pptr [s.locks[i].enc] 0 0, .int .i64 (0 : Nat)] [] := by
  have h3 := h.inv.nl
  refine for_by s.locks[i].readers.length (fun k => ([.pptr [W0.enc] 0 0, .pptr [s.enc] 0 0, .int .i64 i, .pptr [s.locks[i].enc] 0 0, .int .i64 k], [])) (fun _ => True) trivial rfl rfl ?_
  intro k hk _
  dsimp only
  unfold law08_safe_l0
  have hrd3 := asc_len3 hloc.1 hloc.2
  rcases Nat.lt_or_ge k s.locks[i].readers.length with g2 | g2
  · have hd := dec_lt g2
    have hx := map_at (f := intE) g2
    obtain ⟨b0, b1⟩ := hloc.2 _ (List.getElem_mem g2)
    have d0 : decide (s.locks[i].readers[k] < 0) = false := decide_eq_false (by omega)
    have d1 : decide (((W0.threads.length : Nat) : Int) ≤ s.locks[i].readers[k]) = false := decide_eq_false (by show ¬ (3 : Int) ≤ _; omega)
    have fin : ∃ j, k < j ∧ j ≤ s.locks[i].readers.length ∧ True ∧ FzS [.pptr [W0.enc] 0 0, .pptr [s.enc] 0 0, .int .i64 i, .pptr [s.locks[i].enc] 0 0, .int .i64 (IntKind.i64.wrap ((k : Int) + 1))] [] [.pptr [W0.enc] 0 0, .pptr [s.enc] 0 0, .int .i64 i, .pptr [s.locks[i].enc] 0 0, .int .i64 j] [] := ⟨k + 1, by omega, by omega, trivial, fzs_eq (by rw [i64_succ g2 (by omega)]) rfl⟩
    rcases Nat.eq_zero_or_pos k with k0 | k0
    · have dk : decide ((0 : Int) < (k : Int)) = false := decide_eq_false (by omega)
      repeat' (first | (refine h_load1 ?_; refine b_load_q ?_) | (refine h_faddr ?_; refine a_faddr_q ?_) | (refine h_bin ?_; first | refine a_lss ?_ | refine a_geq ?_ | refine a_gtr ?_ | refine a_add ?_) | (refine h_cond ?_; first | refine b_cond_t ?_ | refine b_cond_f ?_) | (refine h_idx ?_; refine b_idx_n ?_) | (refine h_len ?_; refine a_len_m ?_) | (refine h_calm ?_; refine b_calm ?_) | (refine h_note ?_; refine a_note ?_) | (refine h_pick ?_; refine b_pick_f ?_) | (refine h_dgrd ?_; first | refine b_dgrd_y ?_ | refine b_dgrd_n ?_) | refine a_tt ?_)
      exact fin
    · have dk : decide ((0 : Int) < (k : Int)) = true := decide_eq_true (by omega)
      have hk1 : IntKind.i64.wrap ((k : Int) - 1) = ((k - 1 : Nat) : Int) := by rw [IntWalk.i64_in _ (by omega)]; omega
      have g3 : k - 1 < s.locks[i].readers.length := by omega
      have hy := map_at (f := intE) g3
      have hlt := (List.pairwise_iff_getElem.1 hloc.1) (k - 1) k g3 g2 (by omega)
      have dl : decide (s.locks[i].readers[k] ≤ s.locks[i].readers[k - 1]) = false := decide_eq_false (by omega)
      repeat' (first | refine a_subE hk1 ?_ | (refine h_load1 ?_; refine b_load_q ?_) | (refine h_faddr ?_; refine a_faddr_q ?_) | (refine h_bin ?_; first | refine a_lss ?_ | refine a_geq ?_ | refine a_gtr ?_ | refine a_leq ?_ | refine a_add ?_) | (refine h_cond ?_; first | refine b_cond_t ?_ | refine b_cond_f ?_) | (refine h_idx ?_; refine b_idx_n ?_) | (refine h_len ?_; refine a_len_m ?_) | (refine h_calm ?_; refine b_calm ?_) | (refine h_note ?_; refine a_note ?_) | (refine h_pick ?_; first | refine b_pick_t ?_ | refine b_pick_f ?_) | (refine h_dgrd ?_; refine b_dgrd_y ?_) | refine a_tt ?_)
      exact fin
  · have hd := dec_ge g2
    have hi1 : IntKind.i64.wrap ((i : Int) + 1) = ((i + 1 : Nat) : Int) := i64_succ g1 (by omega)
    rw [← hi1] at hnx
    repeat' (first | (refine h_load1 ?_; refine b_load_q ?_) | (refine h_faddr ?_; refine a_faddr_q ?_) | (refine h_bin ?_; first | refine a_lss ?_ | refine a_add ?_) | (refine h_cond ?_; refine b_cond_f ?_) | (refine h_len ?_; refine a_len_m ?_))
    exact hnx
theorem safe_l3 : W.loop (law08_safe_l3 Q) [.pptr [W0.enc] 0 0, .pptr [s.enc] 0 0, .int .i64 (0 : Nat)] [] := by
  refine for_by s.locks.length (fun i => ([.pptr [W0.enc] 0 0, .pptr [s.enc] 0 0, .int .i64 i], [])) (fun _ => True) trivial rfl rfl ?_
  intro i hi _
  dsimp only
  unfold law08_safe_l3
  have h3 := h.inv.nl
  rcases Nat.lt_or_ge i s.locks.length with g1 | g1
  · have hd := dec_lt g1
    have hx := map_at (f := LockD.enc) g1
    have hiw : i < W0.locks.length := by show i < 3; omega
    have hwr := map_at (f := LockI.enc) hiw
    have hlk : lockAt s (i : Int) = s.locks[i] := by unfold lockAt; simp [g1]
    obtain ⟨w0, w1⟩ := h.own i (by omega) (by omega)
    have hex := h.excl i (by omega) (by omega)
    have hmx := h.mux i (by omega)
    rw [hlk] at w0 w1 hex hmx
    have hrw : W0.locks[i].rw = false → i < 2 := fun e => by
      apply Classical.byContradiction
      intro hge
      have : i = 2 := by omega
      subst this
      cases e
    have hloc := h.inv.rd _ (List.getElem_mem g1)
    have d0 : decide (s.locks[i].owner < -1) = false := decide_eq_false (by omega)
    have d1 : decide (((W0.threads.length : Nat) : Int) ≤ s.locks[i].owner) = false := decide_eq_false (by show ¬ (3 : Int) ≤ _; omega)
    have hl0 := safe_l0 s h Q hq i g1 hloc (fun vs' L' => ∃ j : Nat, i < j ∧ j ≤ s.locks.length ∧ True ∧ FzS vs' L' [.pptr [W0.enc] 0 0, .pptr [s.enc] 0 0, .int .i64 j] []) ⟨i + 1, by omega, by omega, trivial, FzS.refl _ _⟩
    cases hr : decide ((0 : Int) < (s.locks[i].readers.length : Int)) with
    | true =>
      have hne : s.locks[i].readers ≠ [] := fun e => by rw [e] at hr; cases hr
      have dn : decide (0 ≤ s.locks[i].owner) = false := decide_eq_false fun e => hne (hex e)
      have drw : W0.locks[i].rw = true := by
        cases e : W0.locks[i].rw with
        | true => rfl
        | false => exact absurd (hmx (by have := hrw e; omega)) hne
      have nrw : (!W0.locks[i].rw) = false := by rw [drw]; rfl
      repeat' (first | (refine h_load1 ?_; refine b_load_q ?_) | (refine h_faddr ?_; refine a_faddr_q ?_) | (refine h_bin ?_; first | refine a_lss ?_ | refine a_geq ?_) | (refine h_cond ?_; first | refine b_cond_t ?_ | refine b_cond_f ?_) | (refine h_idx ?_; refine b_idx_n ?_) | (refine h_row ?_; refine b_row_q ?_) | (refine h_len ?_; refine a_len_m ?_) | (refine h_pick ?_; refine b_pick_f ?_) | (refine h_grd ?_; first | refine b_grd_y ?_ | refine b_grd_n ?_) | (refine h_un ?_; refine a_not ?_) | (refine h_frz1 ?_; refine b_frz_p ?_) | (refine h_store ?_; refine b_store_box ?_) | refine a_alloc (fun nb_ hnb_ => ?_))
      exact hl0
    | false =>
      cases dn : decide (0 ≤ s.locks[i].owner) <;> cases drw : W0.locks[i].rw
      all_goals
        first
        | (have nrw : (!W0.locks[i].rw) = true := by rw [drw]; rfl
           repeat' (first | (refine h_load1 ?_; refine b_load_q ?_) | (refine h_faddr ?_; refine a_faddr_q ?_) | (refine h_bin ?_; first | refine a_lss ?_ | refine a_geq ?_ | refine a_gtr ?_) | (refine h_cond ?_; first | refine b_cond_t ?_ | refine b_cond_f ?_) | (refine h_idx ?_; refine b_idx_n ?_) | (refine h_row ?_; refine b_row_q ?_) | (refine h_len ?_; refine a_len_m ?_) | (refine h_pick ?_; first | refine b_pick_t ?_ | refine b_pick_f ?_) | (refine h_grd ?_; first | refine b_grd_y ?_ | refine b_grd_n ?_) | (refine h_un ?_; refine a_not ?_) | (refine h_frz1 ?_; refine b_frz_p ?_) | (refine h_store ?_; refine b_store_box ?_) | refine a_alloc (fun nb_ hnb_ => ?_))
           exact hl0)
        | (have nrw : (!W0.locks[i].rw) = false := by rw [drw]; rfl
           repeat' (first | (refine h_load1 ?_; refine b_load_q ?_) | (refine h_faddr ?_; refine a_faddr_q ?_) | (refine h_bin ?_; first | refine a_lss ?_ | refine a_geq ?_ | refine a_gtr ?_) | (refine h_cond ?_; first | refine b_cond_t ?_ | refine b_cond_f ?_) | (refine h_idx ?_; refine b_idx_n ?_) | (refine h_row ?_; refine b_row_q ?_) | (refine h_len ?_; refine a_len_m ?_) | (refine h_pick ?_; first | refine b_pick_t ?_ | refine b_pick_f ?_) | (refine h_grd ?_; first | refine b_grd_y ?_ | refine b_grd_n ?_) | (refine h_un ?_; refine a_not ?_) | (refine h_frz1 ?_; refine b_frz_p ?_) | (refine h_store ?_; refine b_store_box ?_) | refine a_alloc (fun nb_ hnb_ => ?_))
           exact hl0)
  · have hd := dec_ge g1
    repeat' (first | (refine h_load1 ?_; refine b_load_q ?_) | (refine h_faddr ?_; refine a_faddr_q ?_) | (refine h_bin ?_; refine a_lss ?_) | (refine h_cond ?_; refine b_cond_f ?_) | (refine h_len ?_; refine a_len_m ?_))
    exact safe_l2 s h Q hq
end
theorem safe_ok (s : SyncD) (h : Safe s) : PureA Try.prog 30 [.agg W0.enc, .agg s.enc] (.bool true) := by
  refine law08_safe_ok _ _ _ _ ?_
  unfold law08_safe_w
  generalize hQ : (fun (u : AV) (K : SH) => u = AV.bool true ∧ K = []) = Q
  have hq : Q (.bool true) [] := by subst hQ; exact ⟨rfl, rfl⟩
  have hf : fitsS W0 s = true := fitsS_iff.2 h.inv.fit
  have f1 := fits_ok W0 s (by decide)
  have f2 := fitsR_ok W0 s (by decide)
  rw [hf] at f1 f2
  repeat' (first | (refine h_cond ?_; refine b_cond_f ?_) | (refine h_row ?_; refine b_row_q ?_) | (refine h_pick ?_; refine b_pick_f ?_) | (refine h_grd ?_; refine b_grd_y ?_) | refine a_mark ?_ | ((with_reducible refine h_fn 37 ?_); refine m_call (f1) ?_) | ((with_reducible refine h_fn 38 ?_); refine m_call (f2) ?_) | (refine h_un ?_; refine a_not ?_) | (refine h_box ?_; refine b_box (fun nb_ hnb_ => ?_)) | (refine h_frz1 ?_; refine b_frz_p ?_))
  exact safe_l3 s h Q hq
end Go.Proofs.Ytadjimfkfmojkaa.Am

end
section
namespace Go.Proofs.Ytadjimfkfmojkaa.Am
set_option maxRecDepth 100000
set_option linter.unusedSimpArgs false
set_option linter.unusedVariables false
theorem world_ok : PureA Try.prog 24 [] (.agg W0.enc) := by
  refine CallA.fz (law08_world_ok _ _ ?_)
  unfold law08_world_w
  repeat' (first | (refine h_row ?_; refine b_row_p ?_) | (refine h_store ?_; refine b_store_box ?_) | (refine h_bslice ?_; refine b_bslice (fun nb_ hnb_ => ?_)) | refine a_alloc (fun nb_ hnb_ => ?_) | refine b_build ?_)
  exact ⟨_, [], FzS.all (Fz.aggs (.cons (Fz.sls (l := W0.cells) (f := CellD.enc) (by repeat constructor) rfl (by decide) rfl) (.cons (Fz.sls (l := W0.locks) (f := LockI.enc) (by repeat constructor) rfl (by decide) rfl) (.cons (Fz.sls (l := W0.conds) (f := CondI.enc) (by repeat constructor) rfl (by decide) rfl) (.cons (Fz.sls (l := W0.futures) (f := strE) (by repeat constructor) rfl (by decide) rfl) (.cons (Fz.sls (l := W0.threads) (f := strE) (by repeat constructor) rfl (by decide) rfl) (.cons .nils .nil))))))), rfl, rfl⟩
structure EvD where
  thread : Int
  kind : Int
  obj : Int
  wake : Int
def EvD.enc (e : EvD) : List AV := [.int .i8 e.thread, .int .i8 e.kind, .int .i8 e.obj, .int .i8 e.wake]
theorem try_ok (e : EvD) : CallA Try.prog 28 [.agg e.enc] [] fun v L => ∃ t k o wake : Int, v = .tup [.int .i64 t, .int .i64 k, .int .i64 o, .int .i64 wake] ∧ L = [] := by
  refine law08_Event_try_ok _ _ _ ?_
  unfold law08_Event_try_w
  generalize hQ : (fun (v : AV) (L : SH) => ∃ t k o wake : Int, v = .tup [.int .i64 t, .int .i64 k, .int .i64 o, .int .i64 wake] ∧ L = []) = Q
  have hj : ∀ k o : Int, law08_Event_try_j0 Q [.pptr [e.enc] 0 0, .int .i64 k, .int .i64 o] [] := fun k o => by
    unfold law08_Event_try_j0
    repeat' (first | (refine h_load1 ?_; refine b_load_q ?_) | (refine h_faddr ?_; refine a_faddr_q ?_) | (refine h_bin ?_; first | refine a_sub ?_ | refine b_rem ?_) | (refine h_calm ?_; refine b_calm ?_) | (refine h_note ?_; refine a_note ?_) | refine a_conv ?_ | refine a_tt ?_)
    subst hQ
    exact ⟨_, _, _, _, rfl, rfl⟩
  have hj1 : ∀ (k o : Int) (b : Bool), law08_Event_try_j1 (law08_Event_try_j0 Q) [.pptr [e.enc] 0 0, .int .i64 k, .int .i64 o, .int .i64 k, .bool b] [] := fun k o b => by
    unfold law08_Event_try_j1
    repeat' (first | exact hj _ _ | (refine h_bin ?_; refine a_eql ?_) | (refine h_cond ?_; first | refine b_cond_t ?_ | refine a_cond (fun h => ?_) (fun h => ?_)))
  repeat' (first | exact hj1 _ _ _ | (refine h_load1 ?_; refine b_load_q ?_) | (refine h_faddr ?_; refine a_faddr_q ?_) | (refine h_bin ?_; first | refine a_eql ?_ | refine a_add ?_ | refine b_rem ?_) | (refine h_cond ?_; refine a_cond (fun h => ?_) (fun h => ?_)) | (refine h_box ?_; refine b_box (fun nb_ hnb_ => ?_)) | (refine h_frz1 ?_; refine b_frz_p ?_) | refine a_conv ?_ | refine a_join ?_)
theorem reach_ok (J : SyncD → Prop) (hsm : ∀ s, J s → Small W0 s) (h0 : J (startS W0)) (hst : ∀ s t k o wake, J s → enabledS W0 s t k o = true → J (applyS W0 s t k o wake).1) (l : List EvD) (hl : l.length ≤ 200) :
    CallA Try.prog 25 [.agg W0.enc, .lst (l.map EvD.enc)] [] fun v L => ∃ s, v = .agg s.enc ∧ J s ∧ L = [] := by
  refine CallA.fz (law08_reach_ok _ _ _ _ ?_)
  unfold law08_reach_w
  generalize hQ : (fun (v : AV) (L : SH) => ∃ v2 L2, FzS [v] L [v2] L2 ∧ ∃ s, v2 = .agg s.enc ∧ J s ∧ L2 = []) = Q
  have hs := start_ok W0 (by decide) (by decide) (by decide)
  repeat' (first | (refine h_row ?_; refine b_row_q ?_) | refine a_mark ?_ | ((with_reducible refine h_fn 21 ?_); refine m_call (hs) ?_) | (refine h_box ?_; refine b_box (fun nb_ hnb_ => ?_)) | (refine h_frz1 ?_; refine b_frz_p ?_) | (refine h_store ?_; refine b_store_box ?_) | refine a_alloc (fun nb_ hnb_ => ?_))
  rename_i b4 _
  revert nb_
  intro b5 _
  refine loop_ex l.length (fun i (s : SyncD) => ([.lst (l.map EvD.enc), .pptr [W0.enc] 0 0, .ptr b4 0 0, .ptr b5 0 0, .int .i64 i], [(b5, ⟨4, [s.enc]⟩), (b4, ⟨4, [[.nils, .int .i64 0, .nils, .nils]]⟩)])) (fun _ s => J s) (startS W0) h0 (fzs_eq rfl rfl) ?_
  intro i s hi hJ
  dsimp only
  unfold law08_reach_l2
  rcases Nat.lt_or_ge i l.length with g1 | g1
  · have hd := dec_lt g1
    have hx := map_at (f := EvD.enc) g1
    have hap := fun t k o wake => apply_ok W0 s t k o wake (hsm s hJ)
    have htry := try_ok l[i]
    repeat' (first | (refine h_bin ?_; refine a_lss ?_) | (refine h_cond ?_; refine b_cond_t ?_) | (refine h_idx ?_; refine b_idx_n ?_) | (refine h_row ?_; first | refine b_row_q ?_ | refine b_row_p ?_) | (refine h_len ?_; refine a_len_m ?_) | (refine h_ext ?_; refine b_ext ?_) | refine a_mark ?_ | ((with_reducible refine h_fn 28 ?_); (refine m_callF (K := []) htry (.refl _) ?_; rintro _ _ ⟨t, k, o, wake, rfl, rfl⟩)))
    refine m_call (hap t k o wake) ?_
    cases hen : enabledS W0 s t k o with
    | false =>
      have e : resS W0 s t k o wake = (zeroS, 0, false) := by unfold resS; rw [hen]; rfl
      rw [e]
      unfold law08_reach_c0
      repeat' (first | (refine h_bin ?_; refine a_add ?_) | (refine h_cond ?_; refine b_cond_f ?_) | (refine h_ext ?_; refine b_ext ?_) | (refine h_frz1 ?_; refine b_frz_p ?_) | (refine h_store ?_; refine b_store_box ?_) | refine a_alloc (fun nb_ hnb_ => ?_))
      exact ⟨i + 1, s, by omega, by omega, hJ, FzS.pick (by repeat constructor) (by rw [i64_succ g1 (by omega)]; rfl)⟩
    | true =>
      have e : resS W0 s t k o wake = ((applyS W0 s t k o wake).1, (applyS W0 s t k o wake).2, true) := by unfold resS; rw [hen]; rfl
      have hJ' := hst s t k o wake hJ hen
      rw [e]
      generalize (applyS W0 s t k o wake).1 = s' at *
      generalize (applyS W0 s t k o wake).2 = v' at *
      unfold law08_reach_c0
      repeat' (first | (refine h_bin ?_; refine a_add ?_) | (refine h_cond ?_; refine b_cond_t ?_) | (refine h_row ?_; refine b_row_q ?_) | (refine h_ext ?_; refine b_ext ?_) | (refine h_frz1 ?_; refine b_frz_p ?_) | (refine h_store ?_; refine b_store_box ?_) | refine a_alloc (fun nb_ hnb_ => ?_))
      exact ⟨i + 1, s', by omega, by omega, hJ', FzS.pick (by repeat constructor) (by rw [i64_succ g1 (by omega)]; rfl)⟩
  · have hd := dec_ge g1
    repeat' (first | (refine h_bin ?_; refine a_lss ?_) | (refine h_cond ?_; refine b_cond_f ?_) | (refine h_row ?_; refine b_row_p ?_) | (refine h_len ?_; refine a_len_m ?_) | (refine h_store ?_; refine b_store_box ?_))
    subst hQ
    exact ⟨_, [], FzS.all (.refl _), s, rfl, hJ, rfl⟩
end Go.Proofs.Ytadjimfkfmojkaa.Am

end
section
namespace Go.Proofs.Ytadjimfkfmojkaa.Am
open Go.ChangeShapes Go.WideShapes Go.ChangeAt Go.RowKit
set_option linter.unusedVariables false
def sig0 : Sig := ⟨fun _ => none, fun _ => False⟩
def tok0 : Nat → Prop := fun _ => False
/-- cells that read as the cells of a datum -/
def rAM {α : Type} (e : α → List AV) (G : α → Prop) : Rel α := fun w _ x cs => G x ∧ Reps w sig0 tok0 (e x) cs
theorem reps_one {w : World} {σ : Sig} {T : Nat → Prop} {a : AV} {v : Value} (h : Rep w σ T a v) : Reps w σ T [a] [v] := ⟨rfl, fun i x u h1 h2 => by
  match i with
  | 0 => cases h1; cases h2; exact h
  | i + 1 => simp at h1⟩
theorem reps_cons {w : World} {σ : Sig} {T : Nat → Prop} {a : AV} {v : Value} {l : List AV} {m : List Value} (h : Reps w σ T [a] [v]) (hl : Reps w σ T l m) : Reps w σ T (a :: l) (v :: m) := ⟨by simp [hl.1], fun i x u h1 h2 => by
  match i with
  | 0 => exact h.2 0 x u h1 h2
  | i + 1 => exact hl.2 i x u (by simpa using h1) (by simpa using h2)⟩
theorem reps_nil {w : World} {σ : Sig} {T : Nat → Prop} : Reps w σ T [] [] := ⟨rfl, fun i x u h1 h2 => by simp at h1⟩
section
variable {H : Type} {enc : TypeId × Value → H} {P : Program} {w : World} {base : Nat} {spare : Nat → Bool} {held : Bool}
theorem am_int {t : TypeId} {k : IntKind} (ht : P.underlying t = some (.int k)) : Opens H enc P w base spare held t (rAM (fun n : Int => [.int k n]) fun n => (Lit.int k n).wf = true) := fun fuel cs x h => by
  obtain ⟨n, rfl, hn⟩ := opens_int ht fuel cs x h
  exact ⟨n, hn, reps_one (.int k n)⟩
theorem am_slice {α : Type} {t e : TypeId} {size : Nat} {f : α → List AV} {G : α → Prop} (ht : P.underlying t = some (.slice e)) (hc : P.cellsOf e = size) (hs : 0 < size) (he : Opens H enc P w base spare held e (rAM f G)) :
    Opens H enc P w base spare held t (rAM (fun l : List α => [.lst (l.map f)]) fun l => l.length ≤ maxLen ∧ ∀ x ∈ l, G x) := fun fuel cs x h => by
  obtain ⟨l, A, c, rfl, h1, h2, h3⟩ := opens_slice ht hc hs he fuel cs x h
  refine ⟨l, ⟨by omega, fun x hx => ?_⟩, reps_one ?_⟩
  · obtain ⟨i, hi, rfl⟩ := List.getElem_of_mem hx
    obtain ⟨b, o, _, _, hall⟩ := h3 (by omega)
    obtain ⟨cs', _, hR, _⟩ := hall i l[i] (List.getElem?_eq_getElem hi)
    exact hR.1
  · rcases Nat.eq_zero_or_pos l.length with h0 | h0
    · have : l = [] := List.length_eq_zero_iff.1 h0
      subst this
      exact .lst0 A c h2
    · obtain ⟨b, o, rfl, hb, hall⟩ := h3 h0
      have := Rep.lst (w := w) (σ := sig0) (T := tok0) (l.map f) b o size c ⟨fun h => h, fun i r hr => ?_, fun i j hi hj => ?_, hs, by simpa using h0⟩ (by simpa using h1) h2 (fun i r j a u hr ha hu => ?_)
      · simpa using this
      · rw [List.getElem?_map] at hr
        cases hx : l[i]? with
        | none => rw [hx] at hr; cases hr
        | some y =>
          rw [hx] at hr; cases hr
          obtain ⟨cs', k1, k2, _⟩ := hall i y hx
          rw [k2.2.1, k1]
      · have hi' : i < l.length := by simpa using hi
        obtain ⟨cs', k1, k2, k3⟩ := hall i l[i] (List.getElem?_eq_getElem hi')
        exact ⟨cs'[j], k3 j _ (List.getElem?_eq_getElem (by omega))⟩
      · rw [List.getElem?_map] at hr
        cases hx : l[i]? with
        | none => rw [hx] at hr; cases hr
        | some y =>
          rw [hx] at hr; cases hr
          obtain ⟨cs', k1, k2, k3⟩ := hall i y hx
          have hj : j < cs'.length := by rw [← k2.2.1]; exact lt_of_some ha
          have hu' := k3 j _ (List.getElem?_eq_getElem hj)
          rw [hu] at hu'
          cases hu'
          exact k2.2.2 j a _ ha (List.getElem?_eq_getElem hj)
/-- a struct of single cells -/
theorem am_cells {t : TypeId} {fs : Array Field} (tys : List TypeId) {fuel : Nat} {cs : List Value} {x : DataW H × List MemPlace} (ht : P.underlying t = some (.struct fs)) (h : DataW.trod enc P w base spare held fuel t cs = some x)
    (hf : fs.toList.map (fun f => (f.type, f.offset)) = tys.zipIdx) (hc : tys.all (fun ty => P.cellsOf ty == 1) = true) (hn : P.cellsOf t = tys.length) :
    cs.length = tys.length ∧ ∀ (i : Nat) (ty : TypeId), tys[i]? = some ty → ∃ c m y, cs[i]? = some c ∧ DataW.trod enc P w base spare held m ty [c] = some y := by
  obtain ⟨hl, hall⟩ := opens_fields ht h
  rw [hn] at hl
  refine ⟨hl, fun i ty hi => ?_⟩
  have hlt := lt_of_some hi
  have hci : i < cs.length := by omega
  obtain ⟨m, y, hy⟩ := hall i ty i 1 [cs[i]] (by
    have := congrArg (fun l => l[i]?) hf
    simp only [List.getElem?_map, List.getElem?_zipIdx, hi, Array.getElem?_toList] at this
    simpa using this) (by rw [List.all_eq_true] at hc; simpa using hc ty (List.mem_of_getElem? hi)) (by rw [List.drop_eq_getElem_cons hci]; rfl)
  exact ⟨cs[i], m, y, List.getElem?_eq_getElem hci, hy⟩
end
/-- A law that is true over the empty heap, in the model. -/
theorem law_calls {P : Program} {f : FuncId} {args : List AV} {vs : List Value} (h : PureA P f args (.bool true)) (w : World) (hv : Reps w sig0 tok0 args vs) : Calls P f vs.toArray w fun e w' => e = .returned (.bool true) ∧ Below w.heap.size w w' := by
  obtain ⟨v, H', L', h1, h2, rfl, rfl⟩ := h.2 Heap.empty (fun b _ => empty_get b) ⟨List.nodup_nil, fun p hp => by simp at hp⟩
  have hown : Own sig0 Heap.empty = tok0 := by
    funext c
    apply propext
    constructor
    · rintro (h | ⟨b, x, pl, h4, _, _⟩)
      · exact h
      · rw [empty_get] at h4; cases h4
    · exact fun h => h.elim
  have hW : WRel w sig0 Heap.empty := ⟨fun b pl hb => (by cases hb), fun b pl hb => (by cases hb), fun b x hb => (by rw [empty_get] at hb; cases hb), fun c hc => hc.elim, fun b b' x x' pl pl' hb => (by rw [empty_get] at hb; cases hb)⟩
  refine (h1 w sig0 vs hW (by rw [hown]; exact hv)).mono ?_
  rintro e w' ⟨v', σ', rfl, k1, k2, k3, _⟩
  cases k1
  rw [hown] at k3
  exact ⟨rfl, k3.os, k3.tape, k3.output, k3.size, fun k hk => k3.keep k hk fun h => h⟩
end Go.Proofs.Ytadjimfkfmojkaa.Am

end
section
namespace Go.Proofs.Ytadjimfkfmojkaa.Am
set_option linter.unusedVariables false
set_option linter.unusedSimpArgs false
set_option maxRecDepth 100000
theorem a_convE {k k' : IntKind} {n m : Int} {K : AV → Prop} (e : k.wrap n = m) (h : K (.int k m)) : W.conv k (.int k' n) K := a_conv (by rw [e]; exact h)
theorem a_remE {P : Program} {F : TypeId → Option (List TypeId)} {t : TypeId} {k : IntKind} {a b m : Int} {K : AV → Prop} (e : a.tmod b = m) (hb : b ≠ 0) (h : K (.int k m)) : W.bin P F .rem t (.int k a) (.int k b) K := a_rem hb (by rw [e]; exact h)
theorem u8_nn {x : Int} (h : (Lit.int .u8 x).wf = true) : 0 ≤ x ∧ x < 256 := by
  simp only [Lit.wf, Bool.and_eq_true, decide_eq_true_eq] at h
  have h1 : IntKind.u8.min = 0 := by decide
  have h2 : IntKind.u8.max = 255 := by decide
  omega
end Go.Proofs.Ytadjimfkfmojkaa.Am

end
section
namespace Go.Proofs.Ytadjimfkfmojkaa.Am
set_option linter.unusedVariables false
set_option linter.unusedSimpArgs false
set_option maxRecDepth 100000
theorem eq_bool2 {x y : Bool} {K : AV → Prop} (e : x = y) (h : K (.bool true)) : W.bin Try.prog Fl .eql 4 (.bool x) (.bool y) K := by
  rw [eql_b _ (show Try.prog.underlying 4 = some .bool by kernel_rfl)]
  subst e
  cases x <;> exact h
end Go.Proofs.Ytadjimfkfmojkaa.Am

end
section
namespace Go.Proofs.Ytadjimfkfmojkaa.Am
set_option linter.unusedVariables false
set_option linter.unusedSimpArgs false
set_option maxRecDepth 100000
set_option linter.unusedSectionVars false
theorem asc_len0 (l : List Int) : decide (((asc l).length : Int) = 0) = decide (l = []) := by
  by_cases h : l = []
  · subst h; rw [asc_nil]; rfl
  · have : asc l ≠ [] := fun e => h (List.eq_nil_iff_forall_not_mem.2 fun x hx => by
      have := (asc_mem l x).2 hx
      rw [e] at this; cases this)
    have h2 : (asc l).length ≠ 0 := fun e => this (List.length_eq_zero_iff.1 e)
    rw [decide_eq_false h, decide_eq_false (by omega)]
section
variable {s : SyncD} (h : Safe s) {t : Int} (t0 : 0 ≤ t) (t1 : t < 3) (ht : (thrAt s t).status = 2)
include h t0 t1 ht
theorem blk_len (k o : Int) (ha : allowedS W0 k o = true) : decide (((blockersS W0 s t k o).length : Int) = 0) = decide ((rawB W0 s t k o).filter (fun x => inB x W0.threads.length) = []) := by
  have : blockersS W0 s t k o = asc ((rawB W0 s t k o).filter fun x => inB x W0.threads.length) := by
    unfold blockersS
    rw [fitsS_iff.2 h.inv.fit, ha, show inB t W0.threads.length = true from inB_iff.2 ⟨t0, t1⟩]
    rfl
  rw [this, asc_len0]
theorem en_is (k o : Int) (h1 : k ≠ 1) (h17 : k ≠ 17) (ha : allowedS W0 k o = true) : enabledS W0 s t k o = readyS W0 s t k o := by
  unfold enabledS
  rw [fitsS_iff.2 h.inv.fit, ha, show inB t W0.threads.length = true from inB_iff.2 ⟨t0, t1⟩, if_neg h1, if_neg h17, decide_eq_true ht]
  rfl
theorem one_in {x : Int} (hx : -1 ≤ x ∧ x < 3) : decide (([x].filter fun y => inB y W0.threads.length) = []) = decide (x = -1) := by
  by_cases e : x = -1
  · subst e; rfl
  · have : inB x W0.threads.length = true := inB_iff.2 ⟨by omega, hx.2⟩
    rw [decide_eq_false e, List.filter_cons, this]
    rfl
theorem blk_a {m : Int} (m0 : 0 ≤ m) (m1 : m < 2) : enabledS W0 s t 6 m = decide (((blockersS W0 s t 6 m).length : Int) = 0) := by
  have ha : allowedS W0 6 m = true := by
    have : m = 0 ∨ m = 1 := by omega
    rcases this with rfl | rfl <;> rfl
  rw [en_is h t0 t1 ht 6 m (by decide) (by decide) ha, blk_len h t0 t1 ht 6 m ha]
  rw [show rawB W0 s t 6 m = [(lockAt s m).owner] from rfl, one_in h t0 t1 ht (h.own m m0 (by omega))]
  rfl
theorem blk_b : enabledS W0 s t 10 2 = decide (((blockersS W0 s t 10 2).length : Int) = 0) := by
  have ha : allowedS W0 10 2 = true := rfl
  rw [en_is h t0 t1 ht 10 2 (by decide) (by decide) ha, blk_len h t0 t1 ht 10 2 ha]
  rw [show rawB W0 s t 10 2 = (lockAt s 2).owner :: (lockAt s 2).readers from rfl, show readyS W0 s t 10 2 = (decide ((lockAt s 2).owner = -1) && decide ((lockAt s 2).readers.length = 0)) from rfl]
  have ho := h.own 2 (by decide) (by decide)
  have hr := lock_rd h.inv 2
  by_cases e : (lockAt s 2).owner = -1
  · rw [e]
    cases hl : (lockAt s 2).readers with
    | nil => rfl
    | cons x r =>
      have hx := hr.2 x (by rw [hl]; simp)
      have : inB x W0.threads.length = true := inB_iff.2 ⟨hx.1, hx.2⟩
      rw [List.filter_cons, show inB (-1) W0.threads.length = false from rfl, List.filter_cons, this]
      rfl
  · have : inB (lockAt s 2).owner W0.threads.length = true := inB_iff.2 ⟨by omega, ho.2⟩
    rw [decide_eq_false e, List.filter_cons, this]
    rfl
theorem reads_len : decide (((holdsS W0 s t).2.length : Int) = 0) = !(lockAt s 2).readers.contains t := by
  have : (holdsS W0 s t).2 = wh (readsS s t) 3 := by
    unfold holdsS
    rw [fitsS_iff.2 h.inv.fit, show inB t W0.threads.length = true from inB_iff.2 ⟨t0, t1⟩, h.inv.nl]
    rfl
  have m0 : readsS s t 0 = false := by
    have := h.mux 0 (by decide) (by decide)
    unfold readsS; unfold lockAt at this
    rw [show (s.locks.getD 0 default).readers = [] from this]; rfl
  have m1 : readsS s t 1 = false := by
    have := h.mux 1 (by decide) (by decide)
    unfold readsS; unfold lockAt at this
    rw [show (s.locks.getD 1 default).readers = [] from this]; rfl
  have m2 : readsS s t 2 = (lockAt s 2).readers.contains t := rfl
  have e : wh (readsS s t) 3 = if (lockAt s 2).readers.contains t then [2] else [] := by
    rw [wh_succ, wh_succ, wh_succ, m0, m1, m2]
    rfl
  rw [this, e]
  cases (lockAt s 2).readers.contains t <;> rfl
theorem blk_c8 : decide (((blockersS W0 s t 8 2).length : Int) = 0) = decide ((lockAt s 2).owner = -1) := by
  have ha : allowedS W0 8 2 = true := rfl
  rw [blk_len h t0 t1 ht 8 2 ha, show rawB W0 s t 8 2 = [(lockAt s 2).owner] from rfl, one_in h t0 t1 ht (h.own 2 (by decide) (by decide))]
theorem blk_c : enabledS W0 s t 8 2 = (decide (((blockersS W0 s t 8 2).length : Int) = 0) && decide (((holdsS W0 s t).2.length : Int) = 0)) := by
  have ha : allowedS W0 8 2 = true := rfl
  rw [en_is h t0 t1 ht 8 2 (by decide) (by decide) ha, blk_c8 h t0 t1 ht, reads_len h t0 t1 ht]
  rfl
theorem blk_d {u : Int} (u0 : 0 ≤ u) (u1 : u < 3) (hne : u ≠ t) : enabledS W0 s t 21 u = decide (((blockersS W0 s t 21 u).length : Int) = 0) := by
  have ha : allowedS W0 21 u = true := inB_iff.2 ⟨u0, u1⟩
  rw [en_is h t0 t1 ht 21 u (by decide) (by decide) ha, blk_len h t0 t1 ht 21 u ha]
  rw [show rawB W0 s t 21 u = (if decide (u ≠ t) && decide ((thrAt s u).status ≠ 5) then [u] else []) from rfl, show readyS W0 s t 21 u = (decide (u ≠ t) && decide ((thrAt s u).status = 5)) from rfl, decide_eq_true hne]
  by_cases e : (thrAt s u).status = 5
  · rw [e]; rfl
  · have : inB u W0.threads.length = true := inB_iff.2 ⟨u0, u1⟩
    rw [decide_eq_false e, decide_eq_true e]
    rw [show (if (true && true) = true then [u] else []) = [u] from rfl, List.filter_cons, this]
    rfl
end
theorem blocks_zt0 (s : SyncD) (h : Safe s) (t ob : Int) (t0 : 0 ≤ t) (t1 : t < 3) (ht : (thrAt s t).status = 2) (hob : 0 ≤ ob ∧ ob < 256) (Q : AV → SH → Prop) (hq : Q (.bool true) []) :
    law08_ObjectBlocks_zt0 (.int .u8 ob) (.pptr [W0.enc] 0 0) [] (.pptr [s.enc] 0 0) (.int .i64 t) Q := by
  have ho0 : IntKind.i64.wrap ob = ob := IntWalk.i64_in _ (by omega)
  have hm : ob.tmod 2 = ob % 2 := Int.tmod_eq_emod_of_nonneg hob.1
  have hu : ob.tmod 3 = ob % 3 := Int.tmod_eq_emod_of_nonneg hob.1
  have m0 : 0 ≤ ob % 2 := by omega
  have m1 : ob % 2 < 2 := by omega
  have u0 : 0 ≤ ob % 3 := by omega
  have u1 : ob % 3 < 3 := by omega
  generalize ob % 2 = m at *
  generalize ob % 3 = u at *
  have hc : W0.conds.length < 2 ^ 62 := by decide
  have hr := h.inv.small.rd
  have ea := enabled_ok W0 s t 6 m hc hr
  have eb := enabled_ok W0 s t 10 2 hc hr
  have ec := enabled_ok W0 s t 8 2 hc hr
  have ed := enabled_ok W0 s t 21 u hc hr
  have ka := blockers_ok W0 s t 6 m hc hr
  have kb := blockers_ok W0 s t 10 2 hc hr
  have kc := blockers_ok W0 s t 8 2 hc hr
  have kd := blockers_ok W0 s t 21 u hc hr
  have hh := holds_ok W0 s t hc (by rw [h.inv.nl]; decide) hr
  unfold encH at hh
  have fa := blk_a h t0 t1 ht m0 m1
  have fb := blk_b h t0 t1 ht
  have fc := blk_c h t0 t1 ht
  have fd := fun hne => blk_d h t0 t1 ht u0 u1 hne
  have fr := reads_len h t0 t1 ht
  unfold law08_ObjectBlocks_zt0
  cases d8 : decide (((blockersS W0 s t 8 2).length : Int) = 0) <;> cases du : decide (u = t)
  all_goals
    rw [d8] at fc
    simp only [Bool.false_and, Bool.true_and] at fc
    first
    | (have fd := fd (of_decide_eq_false du)
       repeat' (first | refine a_convE ho0 ?_ | refine a_remE hm (by decide) ?_ | refine a_remE hu (by decide) ?_ | refine eq_bool2 fa ?_ | refine eq_bool2 fb ?_ | refine eq_bool2 fc ?_ | refine eq_bool2 fd ?_ | (refine h_bin ?_; refine a_eql ?_) | (refine h_row ?_; refine b_row_q ?_) | (refine h_len ?_; refine a_len_m ?_) | (refine h_ext ?_; refine b_ext ?_) | (refine h_calm ?_; refine b_calm ?_) | (refine h_note ?_; refine a_note ?_) | (refine h_pick ?_; first | refine b_pick_t ?_ | refine b_pick_f ?_) | (refine h_grd ?_; refine b_grd_y ?_) | (refine h_dgrd ?_; first | refine b_dgrd_y ?_ | refine b_dgrd_n ?_) | refine a_mark ?_ | refine a_dmark ?_ | ((with_reducible refine h_dfn 27 ?_); refine b_dcall (ea) ?_) | ((with_reducible refine h_dfn 27 ?_); refine b_dcall (eb) ?_) | ((with_reducible refine h_dfn 27 ?_); refine b_dcall (ec) ?_) | ((with_reducible refine h_dfn 27 ?_); refine b_dcall (ed) ?_) | ((with_reducible refine h_dfn 35 ?_); refine b_dcall (ka) ?_) | ((with_reducible refine h_dfn 35 ?_); refine b_dcall (kb) ?_) | ((with_reducible refine h_dfn 35 ?_); refine b_dcall (kc) ?_) | ((with_reducible refine h_dfn 35 ?_); refine b_dcall (kd) ?_) | ((with_reducible refine h_fn 32 ?_); refine m_call (hh) ?_) | ((with_reducible refine h_fn 23 ?_); refine m_call (awake08) ?_) | refine a_tt ?_)
       exact hq)
    | (repeat' (first | refine a_convE ho0 ?_ | refine a_remE hm (by decide) ?_ | refine a_remE hu (by decide) ?_ | refine eq_bool2 fa ?_ | refine eq_bool2 fb ?_ | refine eq_bool2 fc ?_ | (refine h_bin ?_; refine a_eql ?_) | (refine h_row ?_; refine b_row_q ?_) | (refine h_len ?_; refine a_len_m ?_) | (refine h_ext ?_; refine b_ext ?_) | (refine h_calm ?_; refine b_calm ?_) | (refine h_note ?_; refine a_note ?_) | (refine h_pick ?_; first | refine b_pick_t ?_ | refine b_pick_f ?_) | (refine h_grd ?_; refine b_grd_y ?_) | (refine h_dgrd ?_; first | refine b_dgrd_y ?_ | refine b_dgrd_n ?_) | refine a_mark ?_ | refine a_dmark ?_ | ((with_reducible refine h_dfn 27 ?_); refine b_dcall (ea) ?_) | ((with_reducible refine h_dfn 27 ?_); refine b_dcall (eb) ?_) | ((with_reducible refine h_dfn 27 ?_); refine b_dcall (ec) ?_) | ((with_reducible refine h_dfn 35 ?_); refine b_dcall (ka) ?_) | ((with_reducible refine h_dfn 35 ?_); refine b_dcall (kb) ?_) | ((with_reducible refine h_dfn 35 ?_); refine b_dcall (kc) ?_) | ((with_reducible refine h_fn 32 ?_); refine m_call (hh) ?_) | ((with_reducible refine h_fn 23 ?_); refine m_call (awake08) ?_) | refine a_tt ?_)
       exact hq)
theorem h_blz {a b c d : AV} {Q : AV → SH → Prop} {L : SH} (h : law08_ObjectBlocks_zt0 a b L c d Q) : law08_ObjectBlocks_zt0 a b L c d Q := h
theorem h_blc8 {a b c d : AV} {Q : AV → SH → Prop} {L : SH} (h : law08_ObjectBlocks_c8 a b Q c d L) : law08_ObjectBlocks_c8 a b Q c d L := h
theorem blocks_c8 (s : SyncD) (h : Safe s) (th ob : Int) (hth : 0 ≤ th ∧ th < 256) (hob : 0 ≤ ob ∧ ob < 256) (Q : AV → SH → Prop) (hq : Q (.bool true) []) :
    law08_ObjectBlocks_c8 (.int .u8 th) (.pptr [W0.enc] 0 0) Q (.int .u8 ob) (.agg s.enc) [] := by
  have ht0 : IntKind.i64.wrap th = th := IntWalk.i64_in _ (by omega)
  have hm : th.tmod 3 = th % 3 := Int.tmod_eq_emod_of_nonneg hth.1
  have t0 : 0 ≤ th % 3 := by omega
  have t1 : th % 3 < 3 := by omega
  generalize th % 3 = t at *
  have hin := in3t h.inv t0 t1
  have hsf := safe_ok s h
  have nf : (!true) = false := rfl
  unfold law08_ObjectBlocks_c8
  cases hst : decide ((thrAt s t).status ≠ 2) with
  | true =>
    unfold thrAt at hst
    repeat' (first | refine a_convE ht0 ?_ | refine a_remE hm (by decide) ?_ | (refine h_load1 ?_; first | refine b_load_q ?_ | refine b_load_i ?_) | (refine h_faddr ?_; refine a_faddr_q ?_) | (refine h_bin ?_; refine a_neq ?_) | (refine h_cond ?_; first | refine b_cond_t ?_ | refine b_cond_f ?_) | (refine h_idx ?_; refine b_idx_i ?_) | (refine h_row ?_; refine b_row_q ?_) | refine a_mark ?_ | ((with_reducible refine h_fn 30 ?_); refine m_call (hsf) ?_) | ((with_reducible refine h_fn 23 ?_); refine m_call (awake08) ?_) | (refine h_un ?_; refine a_not ?_) | (refine h_frz1 ?_; refine b_frz_p ?_) | (refine h_store ?_; refine b_store_box ?_) | refine a_alloc (fun nb_ hnb_ => ?_))
    exact hq
  | false =>
    have ht : (thrAt s t).status = 2 := by have := of_decide_eq_false hst; rwa [Classical.not_not] at this
    have hz := blocks_zt0 s h t ob t0 t1 ht hob Q hq
    unfold thrAt at hst
    repeat' (first | refine a_convE ht0 ?_ | refine a_remE hm (by decide) ?_ | ((with_reducible refine h_blz ?_); exact hz) | (refine h_load1 ?_; first | refine b_load_q ?_ | refine b_load_i ?_) | (refine h_faddr ?_; refine a_faddr_q ?_) | (refine h_bin ?_; refine a_neq ?_) | (refine h_cond ?_; refine b_cond_f ?_) | (refine h_idx ?_; refine b_idx_i ?_) | (refine h_row ?_; refine b_row_q ?_) | refine a_mark ?_ | ((with_reducible refine h_fn 30 ?_); refine m_call (hsf) ?_) | (refine h_un ?_; refine a_not ?_) | (refine h_frz1 ?_; refine b_frz_p ?_) | (refine h_store ?_; refine b_store_box ?_) | refine a_alloc (fun nb_ hnb_ => ?_))
theorem reachS (l : List EvD) (hl : l.length ≤ 200) : CallA Try.prog 25 [.agg W0.enc, .lst (l.map EvD.enc)] [] fun v L => ∃ s, v = .agg s.enc ∧ Safe s ∧ L = [] :=
  reach_ok Safe (fun s h => h.inv.small) safe_start (fun s t k o wake h hen => safe_step h hen) l hl
theorem blocks (l : List EvD) (th ob : Int) (hth : 0 ≤ th ∧ th < 256) (hob : 0 ≤ ob ∧ ob < 256) : PureA Try.prog 13 [.lst (l.map EvD.enc), .int .u8 th, .int .u8 ob] (.bool true) := by
  refine law08_ObjectBlocks_ok _ _ _ _ _ ?_
  unfold law08_ObjectBlocks_w
  rcases Nat.lt_or_ge 100 l.length with h1 | h1
  · have hd : decide ((100 : Int) < (l.length : Int)) = true := decide_eq_true (by omega)
    repeat' (first | (refine h_bin ?_; refine a_gtr ?_) | (refine h_cond ?_; refine b_cond_t ?_) | (refine h_len ?_; refine a_len_m ?_))
    exact ⟨rfl, rfl⟩
  · have hd : decide ((100 : Int) < (l.length : Int)) = false := decide_eq_false (by omega)
    have hre := reachS l (by omega)
    generalize hQ : (fun (u : AV) (K : SH) => u = AV.bool true ∧ K = []) = Q
    have hq : Q (.bool true) [] := by subst hQ; exact ⟨rfl, rfl⟩
    repeat' (first | ((with_reducible refine h_blc8 ?_); exact blocks_c8 s hs th ob hth hob Q hq) | (refine h_bin ?_; refine a_gtr ?_) | (refine h_cond ?_; refine b_cond_f ?_) | (refine h_row ?_; refine b_row_q ?_) | (refine h_len ?_; refine a_len_m ?_) | refine a_mark ?_ | ((with_reducible refine h_fn 24 ?_); refine m_call (world_ok) ?_) | ((with_reducible refine h_fn 25 ?_); (refine m_callF (K := []) hre (.refl _) ?_; rintro _ _ ⟨s, rfl, hs, rfl⟩)) | (refine h_frz1 ?_; refine b_frz_p ?_) | (refine h_store ?_; refine b_store_box ?_) | refine a_alloc (fun nb_ hnb_ => ?_))
end Go.Proofs.Ytadjimfkfmojkaa.Am

end
section
namespace Go.Proofs.Ytadjimfkfmojkaa.Am
open Go.ChangeShapes Go.WideShapes Go.ChangeAt Go.RowKit
set_option linter.unusedVariables false
section
variable {H : Type} {enc : TypeId × Value → H} {w : World} {base : Nat} {spare : Nat → Bool} {held : Bool}
theorem u_i8 : Try.prog.underlying 64 = some (.int .i8) := by kernel_rfl
theorem am_event : Opens H enc Try.prog w base spare held 70 (rAM EvD.enc fun _ => True) := fun fuel cs x h => by
  obtain ⟨hl, hall⟩ := am_cells [64, 64, 64, 64] Try.underlying70 h rfl (by kernel_rfl) (by kernel_rfl)
  obtain ⟨c0, m0, y0, e0, k0⟩ := hall 0 _ rfl
  obtain ⟨d0, _, r0⟩ := am_int u_i8 _ _ _ k0
  obtain ⟨c1, m1, y1, e1, k1⟩ := hall 1 _ rfl
  obtain ⟨d1, _, r1⟩ := am_int u_i8 _ _ _ k1
  obtain ⟨c2, m2, y2, e2, k2⟩ := hall 2 _ rfl
  obtain ⟨d2, _, r2⟩ := am_int u_i8 _ _ _ k2
  obtain ⟨c3, m3, y3, e3, k3⟩ := hall 3 _ rfl
  obtain ⟨d3, _, r3⟩ := am_int u_i8 _ _ _ k3
  have hcs : cs = [c0, c1, c2, c3] := by
    match cs, hl with
    | [a0, a1, a2, a3], _ => simp only [List.getElem?_cons_zero, List.getElem?_cons_succ, Option.some.injEq] at e0 e1 e2 e3; rw [e0, e1, e2, e3]
  subst hcs
  exact ⟨⟨d0, d1, d2, d3⟩, trivial, (reps_cons r0 (reps_cons r1 (reps_cons r2 (reps_cons r3 reps_nil))))⟩
theorem am_events : Opens H enc Try.prog w base spare held 55 (rAM (fun l : List EvD => [.lst (l.map EvD.enc)]) fun l => l.length ≤ maxLen ∧ ∀ x ∈ l, True) :=
  am_slice (size := 4) Try.underlying55 (by kernel_rfl) (by decide) am_event
end
end Go.Proofs.Ytadjimfkfmojkaa.Am

end
