/- A part of the proof; the statement is proved in the last part. -/
import Derived.Test.YtadjimfkfmojkaaQ5c
import Derived.Test.YtadjimfkfmojkaaRows
import Derived.WalkKit
import Derived.ProofKit
import Derived.OpenShut
import Derived.Handy
import Derived.Outline
import Derived.Lib.Hide
import Derived.Deep.Slices
import Derived.Deep.Fields
import Derived.ChangeSame
import Derived.Carry
import Derived.Deep.Draws
import Derived.Laws.AppendOwn
import Derived.Laws.OwnMore
import Derived.Laws.MakeOwn
import Derived.OwnWalk
import Derived.WalkSpells
import Derived.Deep.DeepMust
import Derived.Shelf.Small.Bits
import Derived.Shelf.Small.Wraps
import Derived.Shelf.Strconv.Itoa0
import Derived.Shelf.Sort.Plain
import Derived.Shelf.Slices.Turned
import Derived.Ground.Names2Prog
import Derived.Shelf.Slices.Clone
import Derived.Shelf.Slices.CompactI
import Derived.Shelf.Slices.SearchI
import Derived.Shelf.Slices.Cells
import Derived.Shelf.Slices.In.SortNone
import Derived.Ground.SlgnProg
import Derived.Shelf.SlicesE.Clone
import Derived.Test.YtadjimfkfmojkaaProg
import Derived.Sort.OwnSortedInts
set_option linter.unusedSimpArgs false
set_option linter.unusedVariables false
section
namespace Go.Proofs.Ytadjimfkfmojkaa.Am
set_option maxRecDepth 100000
set_option linter.unusedSimpArgs false
set_option linter.unusedVariables false
theorem within_ok (i : Int) (n : Nat) : PureA Try.prog 52 [.int .i64 i, .int .i64 n] (.bool (inB i n)) := by
  refine object_within_ok _ _ _ _ ?_
  unfold object_within_w
  repeat' (first | (refine h_bin ?_; first | refine a_lss ?_ | refine a_geq ?_) | (refine h_pick ?_; first | refine b_pick_t ?_ | refine b_pick_f ?_) | (refine h_grd ?_; first | refine b_grd_y ?_ | refine b_grd_n ?_ | refine a_grd_t (fun h => ?_) (fun h => ?_)))
  · refine ⟨?_, rfl⟩; have := of_decide_eq_true h; simp [inB, this]
  · refine ⟨?_, rfl⟩; have := of_decide_eq_false h; simp [inB, this]
def waitsS (t : ThrD) (c : Int) : Bool := decide (t.status = 3) && decide (t.cond = c)
theorem waits_ok (t : ThrD) (c : Int) : PureA Try.prog 79 [.agg t.enc, .int .i64 c] (.bool (waitsS t c)) := by
  refine object_waits_ok _ _ _ _ ?_
  unfold object_waits_w
  repeat' (first | (refine h_load1 ?_; refine b_load_q ?_) | (refine h_faddr ?_; refine a_faddr_q ?_) | (refine h_bin ?_; refine a_eql ?_) | (refine h_pick ?_; first | refine b_pick_t ?_ | refine b_pick_f ?_) | (refine h_grd ?_; first | refine b_grd_y ?_ | refine b_grd_n ?_ | refine a_grd_t (fun h => ?_) (fun h => ?_)) | (refine h_box ?_; refine b_box (fun nb_ hnb_ => ?_)) | (refine h_frz1 ?_; refine b_frz_p ?_))
  · refine ⟨?_, rfl⟩; have := of_decide_eq_true h; simp [waitsS, this]
  · refine ⟨?_, rfl⟩; have := of_decide_eq_false h; simp [waitsS, this]
theorem index_ok (l : List Int) (n : Int) (hl : l.length < 2 ^ 62) : CallA Try.prog 80 [.lst (l.map intE), .int .i64 n] [] fun v L => ∃ k : Int, v = .int .i64 k ∧ decide (0 ≤ k) = l.contains n ∧ L = [] := by
  refine slices_Index___int_int__ok _ _ _ _ ?_
  unfold slices_Index___int_int__w
  repeat' (first | (refine h_len ?_; refine a_len_m ?_))
  refine for_by l.length (fun i => ([.lst (l.map intE), .int .i64 n, .int .i64 l.length, .int .i64 i], [])) (fun i => n ∉ l.take i) (by simp) rfl rfl ?_
  intro i hi hno
  unfold slices_Index___int_int__l0
  rcases Nat.lt_or_ge i l.length with h1 | h1
  · have hx := map_at (f := intE) h1
    have hd := dec_lt h1
    repeat' (first | (refine h_load1 ?_; refine b_load_q ?_) | (refine h_bin ?_; first | refine a_eql ?_ | refine a_lss ?_ | refine a_add ?_) | (refine h_cond ?_; first | refine b_cond_t ?_ | refine a_cond (fun h => ?_) (fun h => ?_)) | (refine h_idx ?_; refine b_idx_n ?_))
    · refine ⟨_, rfl, ?_, rfl⟩
      have := of_decide_eq_true h
      have : l.contains n = true := by rw [List.contains_iff_mem, this]; exact List.getElem_mem h1
      rw [this]
      simp
    · have := of_decide_eq_false h
      refine ⟨i + 1, by omega, by omega, ?_, fzs_eq (by rw [i64_succ h1 hl]; rfl) rfl⟩
      rw [List.take_succ_eq_append_getElem h1]
      simp only [List.mem_append, List.mem_singleton, not_or]
      exact ⟨hno, this⟩
  · have hd := dec_ge h1
    repeat' (first | (refine h_bin ?_; refine a_lss ?_) | (refine h_cond ?_; refine b_cond_f ?_))
    refine ⟨_, rfl, ?_, rfl⟩
    rw [List.take_of_length_le h1] at hno
    rw [show l.contains n = false by simpa using hno]
    rfl
theorem contains_ok (l : List Int) (n : Int) (hl : l.length < 2 ^ 62) : PureA Try.prog 60 [.lst (l.map intE), .int .i64 n] (.bool (l.contains n)) := by
  refine slices_Contains___int_int__ok _ _ _ _ ?_
  unfold slices_Contains___int_int__w
  refine ⟨(index_ok l n hl).mono ?_⟩
  rintro v L ⟨k, rfl, hk, rfl⟩
  unfold slices_Contains___int_int__c0
  repeat' (first | (refine h_bin ?_; refine a_geq ?_))
  exact ⟨by rw [hk], rfl⟩
def fitsS (w : WorldD) (s : SyncD) : Bool := decide (s.locks.length = w.locks.length) && decide (s.done.length = w.futures.length) && decide (s.threads.length = w.threads.length) && w.conds.all fun c => inB c.mutex w.locks.length
theorem fits_ok (w : WorldD) (s : SyncD) (hc : w.conds.length < 2 ^ 62) : PureA Try.prog 37 [.agg w.enc, .agg s.enc] (.bool (fitsS w s)) := by
  refine object_Fits_ok _ _ _ _ ?_
  unfold object_Fits_w
  repeat' (first | (refine h_load1 ?_; refine b_load_q ?_) | (refine h_faddr ?_; refine a_faddr_q ?_) | (refine h_bin ?_; refine a_neq ?_) | (refine h_cond ?_; first | refine b_cond_t ?_ | refine a_cond (fun h => ?_) (fun h => ?_)) | (refine h_len ?_; refine a_len_m ?_) | (refine h_pick ?_; first | refine b_pick_t ?_ | refine b_pick_f ?_) | (refine h_grd ?_; first | refine b_grd_y ?_ | refine b_grd_n ?_ | refine a_grd_f (fun h => ?_) (fun h => ?_)) | (refine h_box ?_; refine b_box (fun nb_ hnb_ => ?_)) | (refine h_frz1 ?_; refine b_frz_p ?_))
  · refine ⟨?_, rfl⟩; have := of_decide_eq_true h; simp only [ne_eq, Int.natCast_inj] at this; simp [fitsS, this]
  · rename_i h1 h2
    simp only [ne_eq, Int.natCast_inj, decide_eq_false_iff_not, Decidable.not_not] at h h1 h2
    refine for_by w.conds.length (fun i => ([.pptr [w.enc] 0 0, .lst (w.conds.map CondI.enc), .int .i64 w.conds.length, .int .i64 i], [])) (fun i => (w.conds.take i).all (fun c => inB c.mutex w.locks.length) = true) (by simp) rfl rfl ?_
    intro i hi hG
    dsimp only
    unfold object_Fits_l1
    rcases Nat.lt_or_ge i w.conds.length with g1 | g1
    · have hx := map_at (f := CondI.enc) g1
      have hd := dec_lt g1
      repeat' (first | (refine h_load1 ?_; refine b_load_q ?_) | (refine h_faddr ?_; refine a_faddr_q ?_) | (refine h_bin ?_; first | refine a_lss ?_ | refine a_add ?_) | (refine h_cond ?_; first | refine b_cond_t ?_ | refine a_cond (fun h => ?_) (fun h => ?_)) | (refine h_idx ?_; refine b_idx_n ?_) | (refine h_row ?_; refine b_row_q ?_) | (refine h_len ?_; refine a_len_m ?_) | refine a_mark ?_ | ((with_reducible refine h_fn 52 ?_); refine m_call (within_ok _ _) ?_) | (refine h_un ?_; refine a_not ?_) | (refine h_frz1 ?_; refine b_frz_p ?_) | (refine h_store ?_; refine b_store_box ?_) | refine a_alloc (fun nb_ hnb_ => ?_))
      · refine ⟨?_, rfl⟩
        have : w.conds.all (fun c => inB c.mutex w.locks.length) = false := by
          rw [List.all_eq_false]
          exact ⟨_, List.getElem_mem g1, by simpa using h⟩
        simp [fitsS, this]
      · refine ⟨i + 1, by omega, by omega, ?_, fzs_eq (by rw [i64_succ g1 hc]; rfl) rfl⟩
        rw [List.take_succ_eq_append_getElem g1, List.all_append, hG]
        simpa using h
    · have hd := dec_ge g1
      repeat' (first | (refine h_bin ?_; refine a_lss ?_) | (refine h_cond ?_; refine b_cond_f ?_))
      refine ⟨?_, rfl⟩
      rw [List.take_of_length_le g1] at hG
      simp [fitsS, h, h1, h2, hG]
  · refine ⟨?_, rfl⟩; have := of_decide_eq_true h; simp only [ne_eq, Int.natCast_inj] at this; simp [fitsS, this]
  · refine ⟨?_, rfl⟩; have := of_decide_eq_true h; simp only [ne_eq, Int.natCast_inj] at this; simp [fitsS, this]
theorem fitsR_ok (w : WorldD) (s : SyncD) (hc : w.conds.length < 2 ^ 62) : PureA Try.prog 38 [.agg w.enc, .agg s.enc] (.bool (fitsS w s)) := by
  refine ref08_Fits_ok _ _ _ _ ?_
  unfold ref08_Fits_w
  repeat' (first | (refine h_box ?_; refine b_box (fun nb_ hnb_ => ?_)) | (refine h_frz1 ?_; refine b_frz_p ?_))
  refine for_by w.conds.length (fun i => ([.pptr [w.enc] 0 0, .pptr [s.enc] 0 0, .int .i64 i], [])) (fun i => (w.conds.take i).all (fun c => inB c.mutex w.locks.length) = true) (by simp) rfl rfl ?_
  intro i hi hG
  dsimp only
  unfold ref08_Fits_l0
  rcases Nat.lt_or_ge i w.conds.length with g1 | g1
  · have hx := map_at (f := CondI.enc) g1
    have hd := dec_lt g1
    repeat' (first | (refine h_load1 ?_; refine b_load_q ?_) | (refine h_faddr ?_; refine a_faddr_q ?_) | (refine h_bin ?_; first | refine a_lss ?_ | refine a_geq ?_ | refine a_add ?_) | (refine h_cond ?_; first | refine b_cond_t ?_ | refine a_cond (fun h => ?_) (fun h => ?_)) | (refine h_idx ?_; refine b_idx_n ?_) | (refine h_len ?_; refine a_len_m ?_) | (refine h_calm ?_; refine b_calm ?_) | (refine h_note ?_; refine a_note ?_) | (refine h_pick ?_; first | refine b_pick_t ?_ | refine b_pick_f ?_) | (refine h_dgrd ?_; first | refine b_dgrd_y ?_ | refine b_dgrd_n ?_ | refine a_dgrd_f (fun h => ?_) (fun h => ?_)) | refine a_tt ?_)
    · rename_i h3
      refine ⟨?_, rfl⟩
      have : w.conds.all (fun c => inB c.mutex w.locks.length) = false := by
        rw [List.all_eq_false]
        refine ⟨_, List.getElem_mem g1, ?_⟩
        rw [inB_iff]; simp at h; omega
      simp [fitsS, this]
    · rename_i h3
      refine ⟨i + 1, by omega, by omega, ?_, fzs_eq (by rw [i64_succ g1 hc]; rfl) rfl⟩
      rw [List.take_succ_eq_append_getElem g1, List.all_append, hG]
      have : inB w.conds[i].mutex w.locks.length = true := by rw [inB_iff]; simp at h h3; omega
      simpa using this
    · refine ⟨?_, rfl⟩
      have : w.conds.all (fun c => inB c.mutex w.locks.length) = false := by
        rw [List.all_eq_false]
        refine ⟨_, List.getElem_mem g1, ?_⟩
        rw [inB_iff]; simp at h; omega
      simp [fitsS, this]
  · have hd := dec_ge g1
    rw [List.take_of_length_le g1] at hG
    repeat' (first | (refine h_load1 ?_; refine b_load_q ?_) | (refine h_faddr ?_; refine a_faddr_q ?_) | (refine h_bin ?_; first | refine a_eql ?_ | refine a_lss ?_) | (refine h_cond ?_; refine b_cond_f ?_) | (refine h_len ?_; refine a_len_m ?_) | (refine h_pick ?_; first | refine b_pick_t ?_ | refine b_pick_f ?_) | (refine h_grd ?_; first | refine b_grd_y ?_ | refine b_grd_n ?_ | refine a_grd_t (fun h => ?_) (fun h => ?_)))
    · rename_i h3
      simp only [Int.natCast_inj, decide_eq_true_eq] at h h3
      refine ⟨?_, rfl⟩
      simp only [fitsS, h, h3, hG, Int.natCast_inj, decide_true, Bool.true_and, Bool.and_true]
    · simp only [Int.natCast_inj, decide_eq_false_iff_not] at h
      refine ⟨?_, rfl⟩
      simp [fitsS, h]
    · simp only [Int.natCast_inj, decide_eq_false_iff_not] at h
      refine ⟨?_, rfl⟩
      simp [fitsS, h]
end Go.Proofs.Ytadjimfkfmojkaa.Am

end
section
namespace Go.Proofs.Ytadjimfkfmojkaa.Am
set_option maxRecDepth 100000
set_option linter.unusedSimpArgs false
set_option linter.unusedVariables false
theorem kinds (k : Int) : (k < 1 ∨ 23 < k) ∨ k = 1 ∨ k = 2 ∨ k = 3 ∨ k = 4 ∨ k = 5 ∨ k = 6 ∨ k = 7 ∨ k = 8 ∨ k = 9 ∨ k = 10 ∨ k = 11 ∨ k = 12 ∨ k = 13 ∨ k = 14 ∨ k = 15 ∨ k = 16 ∨ k = 17 ∨ k = 18 ∨ k = 19 ∨ k = 20 ∨ k = 21 ∨ k = 22 ∨ k = 23 := by omega
theorem dec_out {k c : Int} (hk : k < 1 ∨ 23 < k) (h1 : 1 ≤ c) (h2 : c ≤ 23) : decide (k = c) = false := by simp; omega
def rwAt (w : WorldD) (o : Int) : Bool := (w.locks.getD o.toNat default).rw
def allowedS (w : WorldD) (k o : Int) : Bool :=
  if k = 1 ∨ k = 2 ∨ k = 5 ∨ k = 12 ∨ k = 13 ∨ k = 14 ∨ k = 15 then decide (o = -1)
  else if k = 3 ∨ k = 4 then inB o w.cells.length
  else if k = 6 ∨ k = 7 then inB o w.locks.length && !rwAt w o
  else if k = 8 ∨ k = 9 ∨ k = 10 ∨ k = 11 then inB o w.locks.length && rwAt w o
  else if k = 16 ∨ k = 17 ∨ k = 18 ∨ k = 19 then inB o w.conds.length
  else if k = 20 ∨ k = 21 then inB o w.threads.length
  else if k = 22 ∨ k = 23 then inB o w.futures.length
  else false
set_option maxHeartbeats 4000000 in
theorem allowed_w (w : WorldD) (k o : Int) (Q : AV → SH → Prop) (hq : Q (.bool (allowedS w k o)) []) : object_allowed_w (.agg w.enc) (.int .i64 k) (.int .i64 o) [] Q := by
  unfold object_allowed_w
  rcases kinds k with hk | rfl | rfl | rfl | rfl | rfl | rfl | rfl | rfl | rfl | rfl | rfl | rfl | rfl | rfl | rfl | rfl | rfl | rfl | rfl | rfl | rfl | rfl | rfl
  · skip
    have hs : allowedS w k o = false := by simp only [allowedS]; repeat (rw [if_neg (by omega)])
    rw [hs] at hq
    repeat' (first | (refine h_bin ?_; refine a_eql ?_) | refine a_cond_f (dec_out hk (by decide) (by decide)) ?_ | (refine h_box ?_; refine b_box (fun nb_ hnb_ => ?_)) | (refine h_frz1 ?_; refine b_frz_p ?_) | refine a_join ?_)
    exact hq
  all_goals
    repeat' (first | (refine h_load1 ?_; first | refine b_load_q ?_ | refine b_load_i ?_) | (refine h_faddr ?_; refine a_faddr_q ?_) | (refine h_bin ?_; refine a_eql ?_) | (refine h_cond ?_; first | refine b_cond_t ?_ | refine b_cond_f ?_) | (refine h_idx ?_; refine b_idx_i ?_) | (refine h_len ?_; refine a_len_m ?_) | (refine h_pick ?_; first | refine b_pick_t ?_ | refine b_pick_f ?_) | (refine h_grd ?_; first | refine b_grd_y ?_ | refine b_grd_n ?_ | refine a_grd_t (fun h => ?_) (fun h => ?_)) | refine a_mark ?_ | ((with_reducible refine h_fn 52 ?_); refine m_call (within_ok _ _) ?_) | (refine h_un ?_; refine a_not ?_) | (refine h_box ?_; refine b_box (fun nb_ hnb_ => ?_)) | (refine h_frz1 ?_; refine b_frz_p ?_) | refine a_join ?_)
    all_goals (refine Eq.mp (congrArg (fun b => Q (AV.bool b) []) ?_) hq; clear hq; simp_all [allowedS, rwAt])
theorem allowed_ok (w : WorldD) (k o : Int) : PureA Try.prog 53 [.agg w.enc, .int .i64 k, .int .i64 o] (.bool (allowedS w k o)) := object_allowed_ok _ _ _ _ _ (allowed_w w k o _ ⟨rfl, rfl⟩)
end Go.Proofs.Ytadjimfkfmojkaa.Am

end
section
namespace Go.Proofs.Ytadjimfkfmojkaa.Am
set_option maxRecDepth 100000
set_option linter.unusedSimpArgs false
set_option linter.unusedVariables false
def lockAt (s : SyncD) (o : Int) : LockD := s.locks.getD o.toNat default
def thrAt (s : SyncD) (o : Int) : ThrD := s.threads.getD o.toNat default
def doneAt (s : SyncD) (o : Int) : Bool := s.done.getD o.toNat default
def mxAt (w : WorldD) (o : Int) : Int := (w.conds.getD o.toNat default).mutex
def readyS (w : WorldD) (s : SyncD) (t k o : Int) : Bool :=
  if k = 6 then decide ((lockAt s o).owner = -1)
  else if k = 10 then decide ((lockAt s o).owner = -1) && decide ((lockAt s o).readers.length = 0)
  else if k = 8 then decide ((lockAt s o).owner = -1) && !(lockAt s o).readers.contains t
  else if k = 7 ∨ k = 11 then decide ((lockAt s o).owner = t)
  else if k = 9 then (lockAt s o).readers.contains t
  else if k = 12 then decide (s.tx = -1)
  else if k = 13 then decide (s.tx = t)
  else if k = 14 then !(thrAt s t).atomic
  else if k = 15 then (thrAt s t).atomic
  else if k = 16 ∨ k = 18 ∨ k = 19 then decide ((lockAt s (mxAt w o)).owner = t)
  else if k = 20 then decide (o ≠ t) && decide ((thrAt s o).status = 0)
  else if k = 21 then decide (o ≠ t) && decide ((thrAt s o).status = 5)
  else if k = 22 then !doneAt s o
  else if k = 23 then doneAt s o
  else true
def enabledS (w : WorldD) (s : SyncD) (t k o : Int) : Bool :=
  fitsS w s && inB t w.threads.length && allowedS w k o &&
    (if k = 1 then decide ((thrAt s t).status = 1)
     else if k = 17 then decide ((thrAt s t).status = 4) && decide ((thrAt s t).cond = o) && decide ((lockAt s (mxAt w o)).owner = -1)
     else decide ((thrAt s t).status = 2) && readyS w s t k o)
/-- what a state that fits gives -/
structure FitD (w : WorldD) (s : SyncD) : Prop where
  locks : s.locks.length = w.locks.length
  done : s.done.length = w.futures.length
  threads : s.threads.length = w.threads.length
  conds : ∀ c ∈ w.conds, inB c.mutex w.locks.length = true
theorem fitsS_iff {w : WorldD} {s : SyncD} : fitsS w s = true ↔ FitD w s := by
  simp only [fitsS, Bool.and_eq_true, decide_eq_true_eq, List.all_eq_true]
  exact ⟨fun ⟨⟨⟨h1, h2⟩, h3⟩, h4⟩ => ⟨h1, h2, h3, h4⟩, fun ⟨h1, h2, h3, h4⟩ => ⟨⟨⟨h1, h2⟩, h3⟩, h4⟩⟩
theorem mx_in {w : WorldD} {s : SyncD} (h : FitD w s) {o : Int} (ho : inB o w.conds.length = true) : inB (mxAt w o) s.locks.length = true := by
  obtain ⟨h1, h2⟩ := inB_iff.1 ho
  have hlt : o.toNat < w.conds.length := by omega
  rw [h.locks]
  have : w.conds.getD o.toNat default = w.conds[o.toNat] := by simp [hlt]
  unfold mxAt
  rw [this]
  exact h.conds _ (List.getElem_mem hlt)
theorem rd_small {s : SyncD} (hr : ∀ l ∈ s.locks, l.readers.length < 2 ^ 40) (o : Int) : (lockAt s o).readers.length < 2 ^ 62 := by
  unfold lockAt
  rcases Nat.lt_or_ge o.toNat s.locks.length with h | h
  · have := hr _ (List.getElem_mem h)
    simp [h]; omega
  · simp [List.getD, List.getElem?_eq_none h]; decide
theorem ready_1 (w : WorldD) (s : SyncD) (t o : Int) (hf : FitD w s) (ht : inB t w.threads.length = true) (hr : ∀ l ∈ s.locks, l.readers.length < 2 ^ 40) (ha : allowedS w 1 o = true) (Q : AV → SH → Prop) (hq : Q (.bool (readyS w s t 1 o)) []) : object_ready_w (.agg w.enc) (.agg s.enc) (.int .i64 t) (.int .i64 1) (.int .i64 o) [] Q := by
  unfold object_ready_w
  have ht' : inB t s.threads.length = true := by rw [hf.threads]; exact ht
  have hrd := rd_small hr
  simp only [readyS, lockAt, thrAt, doneAt, mxAt, Int.reduceEq, Int.reduceNeg, if_true, if_false, or_self, or_true, true_or, or_false, false_or, reduceIte, reduceCtorEq] at hq
  repeat' (first | (refine h_bin ?_; refine a_eql ?_) | (refine h_cond ?_; refine b_cond_f ?_) | (refine h_box ?_; refine b_box (fun nb_ hnb_ => ?_)) | (refine h_frz1 ?_; refine b_frz_p ?_) | refine a_join ?_)
  all_goals first | exact hq | (refine Eq.mp (congrArg (fun b => Q (AV.bool b) []) ?_) hq; clear hq; first | (have h' := of_decide_eq_true h; simp [h']; done) | (have h' := of_decide_eq_false h; simp [h']; done) | (simp [h]; done) | (simp_all; done))
theorem ready_2 (w : WorldD) (s : SyncD) (t o : Int) (hf : FitD w s) (ht : inB t w.threads.length = true) (hr : ∀ l ∈ s.locks, l.readers.length < 2 ^ 40) (ha : allowedS w 2 o = true) (Q : AV → SH → Prop) (hq : Q (.bool (readyS w s t 2 o)) []) : object_ready_w (.agg w.enc) (.agg s.enc) (.int .i64 t) (.int .i64 2) (.int .i64 o) [] Q := by
  unfold object_ready_w
  have ht' : inB t s.threads.length = true := by rw [hf.threads]; exact ht
  have hrd := rd_small hr
  simp only [readyS, lockAt, thrAt, doneAt, mxAt, Int.reduceEq, Int.reduceNeg, if_true, if_false, or_self, or_true, true_or, or_false, false_or, reduceIte, reduceCtorEq] at hq
  repeat' (first | (refine h_bin ?_; refine a_eql ?_) | (refine h_cond ?_; refine b_cond_f ?_) | (refine h_box ?_; refine b_box (fun nb_ hnb_ => ?_)) | (refine h_frz1 ?_; refine b_frz_p ?_) | refine a_join ?_)
  all_goals first | exact hq | (refine Eq.mp (congrArg (fun b => Q (AV.bool b) []) ?_) hq; clear hq; first | (have h' := of_decide_eq_true h; simp [h']; done) | (have h' := of_decide_eq_false h; simp [h']; done) | (simp [h]; done) | (simp_all; done))
theorem ready_3 (w : WorldD) (s : SyncD) (t o : Int) (hf : FitD w s) (ht : inB t w.threads.length = true) (hr : ∀ l ∈ s.locks, l.readers.length < 2 ^ 40) (ha : allowedS w 3 o = true) (Q : AV → SH → Prop) (hq : Q (.bool (readyS w s t 3 o)) []) : object_ready_w (.agg w.enc) (.agg s.enc) (.int .i64 t) (.int .i64 3) (.int .i64 o) [] Q := by
  unfold object_ready_w
  have ht' : inB t s.threads.length = true := by rw [hf.threads]; exact ht
  have hrd := rd_small hr
  simp only [readyS, lockAt, thrAt, doneAt, mxAt, Int.reduceEq, Int.reduceNeg, if_true, if_false, or_self, or_true, true_or, or_false, false_or, reduceIte, reduceCtorEq] at hq
  repeat' (first | (refine h_bin ?_; refine a_eql ?_) | (refine h_cond ?_; refine b_cond_f ?_) | (refine h_box ?_; refine b_box (fun nb_ hnb_ => ?_)) | (refine h_frz1 ?_; refine b_frz_p ?_) | refine a_join ?_)
  all_goals first | exact hq | (refine Eq.mp (congrArg (fun b => Q (AV.bool b) []) ?_) hq; clear hq; first | (have h' := of_decide_eq_true h; simp [h']; done) | (have h' := of_decide_eq_false h; simp [h']; done) | (simp [h]; done) | (simp_all; done))
theorem ready_4 (w : WorldD) (s : SyncD) (t o : Int) (hf : FitD w s) (ht : inB t w.threads.length = true) (hr : ∀ l ∈ s.locks, l.readers.length < 2 ^ 40) (ha : allowedS w 4 o = true) (Q : AV → SH → Prop) (hq : Q (.bool (readyS w s t 4 o)) []) : object_ready_w (.agg w.enc) (.agg s.enc) (.int .i64 t) (.int .i64 4) (.int .i64 o) [] Q := by
  unfold object_ready_w
  have ht' : inB t s.threads.length = true := by rw [hf.threads]; exact ht
  have hrd := rd_small hr
  simp only [readyS, lockAt, thrAt, doneAt, mxAt, Int.reduceEq, Int.reduceNeg, if_true, if_false, or_self, or_true, true_or, or_false, false_or, reduceIte, reduceCtorEq] at hq
  repeat' (first | (refine h_bin ?_; refine a_eql ?_) | (refine h_cond ?_; refine b_cond_f ?_) | (refine h_box ?_; refine b_box (fun nb_ hnb_ => ?_)) | (refine h_frz1 ?_; refine b_frz_p ?_) | refine a_join ?_)
  all_goals first | exact hq | (refine Eq.mp (congrArg (fun b => Q (AV.bool b) []) ?_) hq; clear hq; first | (have h' := of_decide_eq_true h; simp [h']; done) | (have h' := of_decide_eq_false h; simp [h']; done) | (simp [h]; done) | (simp_all; done))
theorem ready_5 (w : WorldD) (s : SyncD) (t o : Int) (hf : FitD w s) (ht : inB t w.threads.length = true) (hr : ∀ l ∈ s.locks, l.readers.length < 2 ^ 40) (ha : allowedS w 5 o = true) (Q : AV → SH → Prop) (hq : Q (.bool (readyS w s t 5 o)) []) : object_ready_w (.agg w.enc) (.agg s.enc) (.int .i64 t) (.int .i64 5) (.int .i64 o) [] Q := by
  unfold object_ready_w
  have ht' : inB t s.threads.length = true := by rw [hf.threads]; exact ht
  have hrd := rd_small hr
  simp only [readyS, lockAt, thrAt, doneAt, mxAt, Int.reduceEq, Int.reduceNeg, if_true, if_false, or_self, or_true, true_or, or_false, false_or, reduceIte, reduceCtorEq] at hq
  repeat' (first | (refine h_bin ?_; refine a_eql ?_) | (refine h_cond ?_; refine b_cond_f ?_) | (refine h_box ?_; refine b_box (fun nb_ hnb_ => ?_)) | (refine h_frz1 ?_; refine b_frz_p ?_) | refine a_join ?_)
  all_goals first | exact hq | (refine Eq.mp (congrArg (fun b => Q (AV.bool b) []) ?_) hq; clear hq; first | (have h' := of_decide_eq_true h; simp [h']; done) | (have h' := of_decide_eq_false h; simp [h']; done) | (simp [h]; done) | (simp_all; done))
theorem ready_6 (w : WorldD) (s : SyncD) (t o : Int) (hf : FitD w s) (ht : inB t w.threads.length = true) (hr : ∀ l ∈ s.locks, l.readers.length < 2 ^ 40) (ha : allowedS w 6 o = true) (Q : AV → SH → Prop) (hq : Q (.bool (readyS w s t 6 o)) []) : object_ready_w (.agg w.enc) (.agg s.enc) (.int .i64 t) (.int .i64 6) (.int .i64 o) [] Q := by
  unfold object_ready_w
  have ht' : inB t s.threads.length = true := by rw [hf.threads]; exact ht
  have hrd := rd_small hr
  have hl : inB o s.locks.length = true := by rw [hf.locks]; simp [allowedS] at ha; exact ha.1
  simp only [readyS, lockAt, thrAt, doneAt, mxAt, Int.reduceEq, Int.reduceNeg, if_true, if_false, or_self, or_true, true_or, or_false, false_or, reduceIte, reduceCtorEq] at hq
  repeat' (first | (refine h_load1 ?_; first | refine b_load_q ?_ | refine b_load_i ?_) | (refine h_faddr ?_; refine a_faddr_q ?_) | (refine h_bin ?_; refine a_eql ?_) | (refine h_cond ?_; refine b_cond_t ?_) | (refine h_idx ?_; refine b_idx_i ?_) | (refine h_box ?_; refine b_box (fun nb_ hnb_ => ?_)) | (refine h_frz1 ?_; refine b_frz_p ?_))
  all_goals first | exact hq | (refine Eq.mp (congrArg (fun b => Q (AV.bool b) []) ?_) hq; clear hq; first | (have h' := of_decide_eq_true h; simp [h']; done) | (have h' := of_decide_eq_false h; simp [h']; done) | (simp [h]; done) | (simp_all; done))
theorem ready_7 (w : WorldD) (s : SyncD) (t o : Int) (hf : FitD w s) (ht : inB t w.threads.length = true) (hr : ∀ l ∈ s.locks, l.readers.length < 2 ^ 40) (ha : allowedS w 7 o = true) (Q : AV → SH → Prop) (hq : Q (.bool (readyS w s t 7 o)) []) : object_ready_w (.agg w.enc) (.agg s.enc) (.int .i64 t) (.int .i64 7) (.int .i64 o) [] Q := by
  unfold object_ready_w
  have ht' : inB t s.threads.length = true := by rw [hf.threads]; exact ht
  have hrd := rd_small hr
  have hl : inB o s.locks.length = true := by rw [hf.locks]; simp [allowedS] at ha; exact ha.1
  simp only [readyS, lockAt, thrAt, doneAt, mxAt, Int.reduceEq, Int.reduceNeg, if_true, if_false, or_self, or_true, true_or, or_false, false_or, reduceIte, reduceCtorEq] at hq
  repeat' (first | (refine h_load1 ?_; first | refine b_load_q ?_ | refine b_load_i ?_) | (refine h_faddr ?_; refine a_faddr_q ?_) | (refine h_bin ?_; refine a_eql ?_) | (refine h_cond ?_; first | refine b_cond_t ?_ | refine b_cond_f ?_) | (refine h_idx ?_; refine b_idx_i ?_) | (refine h_box ?_; refine b_box (fun nb_ hnb_ => ?_)) | (refine h_frz1 ?_; refine b_frz_p ?_) | refine a_join ?_)
  all_goals first | exact hq | (refine Eq.mp (congrArg (fun b => Q (AV.bool b) []) ?_) hq; clear hq; first | (have h' := of_decide_eq_true h; simp [h']; done) | (have h' := of_decide_eq_false h; simp [h']; done) | (simp [h]; done) | (simp_all; done))
theorem ready_8 (w : WorldD) (s : SyncD) (t o : Int) (hf : FitD w s) (ht : inB t w.threads.length = true) (hr : ∀ l ∈ s.locks, l.readers.length < 2 ^ 40) (ha : allowedS w 8 o = true) (Q : AV → SH → Prop) (hq : Q (.bool (readyS w s t 8 o)) []) : object_ready_w (.agg w.enc) (.agg s.enc) (.int .i64 t) (.int .i64 8) (.int .i64 o) [] Q := by
  unfold object_ready_w
  have ht' : inB t s.threads.length = true := by rw [hf.threads]; exact ht
  have hrd := rd_small hr
  have hl : inB o s.locks.length = true := by rw [hf.locks]; simp [allowedS] at ha; exact ha.1
  simp only [readyS, lockAt, thrAt, doneAt, mxAt, Int.reduceEq, Int.reduceNeg, if_true, if_false, or_self, or_true, true_or, or_false, false_or, reduceIte, reduceCtorEq] at hq
  repeat' (first | (refine h_load1 ?_; first | refine b_load_q ?_ | refine b_load_i ?_) | (refine h_faddr ?_; refine a_faddr_q ?_) | (refine h_bin ?_; refine a_eql ?_) | (refine h_cond ?_; first | refine b_cond_t ?_ | refine b_cond_f ?_) | (refine h_idx ?_; refine b_idx_i ?_) | (refine h_pick ?_; first | refine b_pick_t ?_ | refine b_pick_f ?_) | (refine h_grd ?_; first | refine b_grd_y ?_ | refine b_grd_n ?_ | refine a_grd_t (fun h => ?_) (fun h => ?_)) | refine a_mark ?_ | ((with_reducible refine h_fn 60 ?_); refine m_call (contains_ok _ _ (hrd _)) ?_) | (refine h_un ?_; refine a_not ?_) | (refine h_box ?_; refine b_box (fun nb_ hnb_ => ?_)) | (refine h_frz1 ?_; refine b_frz_p ?_))
  all_goals first | exact hq | (refine Eq.mp (congrArg (fun b => Q (AV.bool b) []) ?_) hq; clear hq; first | (have h' := of_decide_eq_true h; simp [h']; done) | (have h' := of_decide_eq_false h; simp [h']; done) | (simp [h]; done) | (simp_all; done))
theorem ready_9 (w : WorldD) (s : SyncD) (t o : Int) (hf : FitD w s) (ht : inB t w.threads.length = true) (hr : ∀ l ∈ s.locks, l.readers.length < 2 ^ 40) (ha : allowedS w 9 o = true) (Q : AV → SH → Prop) (hq : Q (.bool (readyS w s t 9 o)) []) : object_ready_w (.agg w.enc) (.agg s.enc) (.int .i64 t) (.int .i64 9) (.int .i64 o) [] Q := by
  unfold object_ready_w
  have ht' : inB t s.threads.length = true := by rw [hf.threads]; exact ht
  have hrd := rd_small hr
  have hl : inB o s.locks.length = true := by rw [hf.locks]; simp [allowedS] at ha; exact ha.1
  simp only [readyS, lockAt, thrAt, doneAt, mxAt, Int.reduceEq, Int.reduceNeg, if_true, if_false, or_self, or_true, true_or, or_false, false_or, reduceIte, reduceCtorEq] at hq
  repeat' (first | (refine h_load1 ?_; first | refine b_load_q ?_ | refine b_load_i ?_) | (refine h_faddr ?_; refine a_faddr_q ?_) | (refine h_bin ?_; refine a_eql ?_) | (refine h_cond ?_; first | refine b_cond_t ?_ | refine b_cond_f ?_) | (refine h_idx ?_; refine b_idx_i ?_) | refine a_mark ?_ | ((with_reducible refine h_fn 60 ?_); refine m_call (contains_ok _ _ (hrd _)) ?_) | (refine h_box ?_; refine b_box (fun nb_ hnb_ => ?_)) | (refine h_frz1 ?_; refine b_frz_p ?_) | refine a_join ?_)
  all_goals first | exact hq | (refine Eq.mp (congrArg (fun b => Q (AV.bool b) []) ?_) hq; clear hq; first | (have h' := of_decide_eq_true h; simp [h']; done) | (have h' := of_decide_eq_false h; simp [h']; done) | (simp [h]; done) | (simp_all; done))
theorem ready_10 (w : WorldD) (s : SyncD) (t o : Int) (hf : FitD w s) (ht : inB t w.threads.length = true) (hr : ∀ l ∈ s.locks, l.readers.length < 2 ^ 40) (ha : allowedS w 10 o = true) (Q : AV → SH → Prop) (hq : Q (.bool (readyS w s t 10 o)) []) : object_ready_w (.agg w.enc) (.agg s.enc) (.int .i64 t) (.int .i64 10) (.int .i64 o) [] Q := by
  unfold object_ready_w
  have ht' : inB t s.threads.length = true := by rw [hf.threads]; exact ht
  have hrd := rd_small hr
  have hl : inB o s.locks.length = true := by rw [hf.locks]; simp [allowedS] at ha; exact ha.1
  simp only [readyS, lockAt, thrAt, doneAt, mxAt, Int.reduceEq, Int.reduceNeg, if_true, if_false, or_self, or_true, true_or, or_false, false_or, reduceIte, reduceCtorEq] at hq
  repeat' (first | (refine h_load1 ?_; first | refine b_load_q ?_ | refine b_load_i ?_) | (refine h_faddr ?_; refine a_faddr_q ?_) | (refine h_bin ?_; refine a_eql ?_) | (refine h_cond ?_; first | refine b_cond_t ?_ | refine b_cond_f ?_) | (refine h_idx ?_; refine b_idx_i ?_) | (refine h_len ?_; refine a_len_m ?_) | (refine h_pick ?_; first | refine b_pick_t ?_ | refine b_pick_f ?_) | (refine h_grd ?_; first | refine b_grd_y ?_ | refine b_grd_n ?_ | refine a_grd_t (fun h => ?_) (fun h => ?_)) | (refine h_box ?_; refine b_box (fun nb_ hnb_ => ?_)) | (refine h_frz1 ?_; refine b_frz_p ?_))
  all_goals first | exact hq | (refine Eq.mp (congrArg (fun b => Q (AV.bool b) []) ?_) hq; clear hq; first | (have h' := of_decide_eq_true h; simp [h']; done) | (have h' := of_decide_eq_false h; simp [h']; done) | (simp [h]; done) | (simp_all; done))
theorem ready_11 (w : WorldD) (s : SyncD) (t o : Int) (hf : FitD w s) (ht : inB t w.threads.length = true) (hr : ∀ l ∈ s.locks, l.readers.length < 2 ^ 40) (ha : allowedS w 11 o = true) (Q : AV → SH → Prop) (hq : Q (.bool (readyS w s t 11 o)) []) : object_ready_w (.agg w.enc) (.agg s.enc) (.int .i64 t) (.int .i64 11) (.int .i64 o) [] Q := by
  unfold object_ready_w
  have ht' : inB t s.threads.length = true := by rw [hf.threads]; exact ht
  have hrd := rd_small hr
  have hl : inB o s.locks.length = true := by rw [hf.locks]; simp [allowedS] at ha; exact ha.1
  simp only [readyS, lockAt, thrAt, doneAt, mxAt, Int.reduceEq, Int.reduceNeg, if_true, if_false, or_self, or_true, true_or, or_false, false_or, reduceIte, reduceCtorEq] at hq
  repeat' (first | (refine h_load1 ?_; first | refine b_load_q ?_ | refine b_load_i ?_) | (refine h_faddr ?_; refine a_faddr_q ?_) | (refine h_bin ?_; refine a_eql ?_) | (refine h_cond ?_; first | refine b_cond_t ?_ | refine b_cond_f ?_) | (refine h_idx ?_; refine b_idx_i ?_) | (refine h_box ?_; refine b_box (fun nb_ hnb_ => ?_)) | (refine h_frz1 ?_; refine b_frz_p ?_) | refine a_join ?_)
  all_goals first | exact hq | (refine Eq.mp (congrArg (fun b => Q (AV.bool b) []) ?_) hq; clear hq; first | (have h' := of_decide_eq_true h; simp [h']; done) | (have h' := of_decide_eq_false h; simp [h']; done) | (simp [h]; done) | (simp_all; done))
theorem ready_12 (w : WorldD) (s : SyncD) (t o : Int) (hf : FitD w s) (ht : inB t w.threads.length = true) (hr : ∀ l ∈ s.locks, l.readers.length < 2 ^ 40) (ha : allowedS w 12 o = true) (Q : AV → SH → Prop) (hq : Q (.bool (readyS w s t 12 o)) []) : object_ready_w (.agg w.enc) (.agg s.enc) (.int .i64 t) (.int .i64 12) (.int .i64 o) [] Q := by
  unfold object_ready_w
  have ht' : inB t s.threads.length = true := by rw [hf.threads]; exact ht
  have hrd := rd_small hr
  simp only [readyS, lockAt, thrAt, doneAt, mxAt, Int.reduceEq, Int.reduceNeg, if_true, if_false, or_self, or_true, true_or, or_false, false_or, reduceIte, reduceCtorEq] at hq
  repeat' (first | (refine h_load1 ?_; refine b_load_q ?_) | (refine h_faddr ?_; refine a_faddr_q ?_) | (refine h_bin ?_; refine a_eql ?_) | (refine h_cond ?_; first | refine b_cond_t ?_ | refine b_cond_f ?_) | (refine h_box ?_; refine b_box (fun nb_ hnb_ => ?_)) | (refine h_frz1 ?_; refine b_frz_p ?_) | refine a_join ?_)
  all_goals first | exact hq | (refine Eq.mp (congrArg (fun b => Q (AV.bool b) []) ?_) hq; clear hq; first | (have h' := of_decide_eq_true h; simp [h']; done) | (have h' := of_decide_eq_false h; simp [h']; done) | (simp [h]; done) | (simp_all; done))
theorem ready_13 (w : WorldD) (s : SyncD) (t o : Int) (hf : FitD w s) (ht : inB t w.threads.length = true) (hr : ∀ l ∈ s.locks, l.readers.length < 2 ^ 40) (ha : allowedS w 13 o = true) (Q : AV → SH → Prop) (hq : Q (.bool (readyS w s t 13 o)) []) : object_ready_w (.agg w.enc) (.agg s.enc) (.int .i64 t) (.int .i64 13) (.int .i64 o) [] Q := by
  unfold object_ready_w
  have ht' : inB t s.threads.length = true := by rw [hf.threads]; exact ht
  have hrd := rd_small hr
  simp only [readyS, lockAt, thrAt, doneAt, mxAt, Int.reduceEq, Int.reduceNeg, if_true, if_false, or_self, or_true, true_or, or_false, false_or, reduceIte, reduceCtorEq] at hq
  repeat' (first | (refine h_load1 ?_; refine b_load_q ?_) | (refine h_faddr ?_; refine a_faddr_q ?_) | (refine h_bin ?_; refine a_eql ?_) | (refine h_cond ?_; first | refine b_cond_t ?_ | refine b_cond_f ?_) | (refine h_box ?_; refine b_box (fun nb_ hnb_ => ?_)) | (refine h_frz1 ?_; refine b_frz_p ?_) | refine a_join ?_)
  all_goals first | exact hq | (refine Eq.mp (congrArg (fun b => Q (AV.bool b) []) ?_) hq; clear hq; first | (have h' := of_decide_eq_true h; simp [h']; done) | (have h' := of_decide_eq_false h; simp [h']; done) | (simp [h]; done) | (simp_all; done))
theorem ready_14 (w : WorldD) (s : SyncD) (t o : Int) (hf : FitD w s) (ht : inB t w.threads.length = true) (hr : ∀ l ∈ s.locks, l.readers.length < 2 ^ 40) (ha : allowedS w 14 o = true) (Q : AV → SH → Prop) (hq : Q (.bool (readyS w s t 14 o)) []) : object_ready_w (.agg w.enc) (.agg s.enc) (.int .i64 t) (.int .i64 14) (.int .i64 o) [] Q := by
  unfold object_ready_w
  have ht' : inB t s.threads.length = true := by rw [hf.threads]; exact ht
  have hrd := rd_small hr
  simp only [readyS, lockAt, thrAt, doneAt, mxAt, Int.reduceEq, Int.reduceNeg, if_true, if_false, or_self, or_true, true_or, or_false, false_or, reduceIte, reduceCtorEq] at hq
  repeat' (first | (refine h_load1 ?_; first | refine b_load_q ?_ | refine b_load_i ?_) | (refine h_faddr ?_; refine a_faddr_q ?_) | (refine h_bin ?_; refine a_eql ?_) | (refine h_cond ?_; first | refine b_cond_t ?_ | refine b_cond_f ?_) | (refine h_idx ?_; refine b_idx_i ?_) | (refine h_un ?_; refine a_not ?_) | (refine h_box ?_; refine b_box (fun nb_ hnb_ => ?_)) | (refine h_frz1 ?_; refine b_frz_p ?_) | refine a_join ?_)
  all_goals first | exact hq | (refine Eq.mp (congrArg (fun b => Q (AV.bool b) []) ?_) hq; clear hq; first | (have h' := of_decide_eq_true h; simp [h']; done) | (have h' := of_decide_eq_false h; simp [h']; done) | (simp [h]; done) | (simp_all; done))
theorem ready_15 (w : WorldD) (s : SyncD) (t o : Int) (hf : FitD w s) (ht : inB t w.threads.length = true) (hr : ∀ l ∈ s.locks, l.readers.length < 2 ^ 40) (ha : allowedS w 15 o = true) (Q : AV → SH → Prop) (hq : Q (.bool (readyS w s t 15 o)) []) : object_ready_w (.agg w.enc) (.agg s.enc) (.int .i64 t) (.int .i64 15) (.int .i64 o) [] Q := by
  unfold object_ready_w
  have ht' : inB t s.threads.length = true := by rw [hf.threads]; exact ht
  have hrd := rd_small hr
  simp only [readyS, lockAt, thrAt, doneAt, mxAt, Int.reduceEq, Int.reduceNeg, if_true, if_false, or_self, or_true, true_or, or_false, false_or, reduceIte, reduceCtorEq] at hq
  repeat' (first | (refine h_load1 ?_; first | refine b_load_q ?_ | refine b_load_i ?_) | (refine h_faddr ?_; refine a_faddr_q ?_) | (refine h_bin ?_; refine a_eql ?_) | (refine h_cond ?_; first | refine b_cond_t ?_ | refine b_cond_f ?_) | (refine h_idx ?_; refine b_idx_i ?_) | (refine h_box ?_; refine b_box (fun nb_ hnb_ => ?_)) | (refine h_frz1 ?_; refine b_frz_p ?_) | refine a_join ?_)
  all_goals first | exact hq | (refine Eq.mp (congrArg (fun b => Q (AV.bool b) []) ?_) hq; clear hq; first | (have h' := of_decide_eq_true h; simp [h']; done) | (have h' := of_decide_eq_false h; simp [h']; done) | (simp [h]; done) | (simp_all; done))
theorem ready_16 (w : WorldD) (s : SyncD) (t o : Int) (hf : FitD w s) (ht : inB t w.threads.length = true) (hr : ∀ l ∈ s.locks, l.readers.length < 2 ^ 40) (ha : allowedS w 16 o = true) (Q : AV → SH → Prop) (hq : Q (.bool (readyS w s t 16 o)) []) : object_ready_w (.agg w.enc) (.agg s.enc) (.int .i64 t) (.int .i64 16) (.int .i64 o) [] Q := by
  unfold object_ready_w
  have ht' : inB t s.threads.length = true := by rw [hf.threads]; exact ht
  have hrd := rd_small hr
  have hc : inB o w.conds.length = true := by simpa [allowedS] using ha
  have hl := mx_in hf hc
  simp only [readyS, lockAt, thrAt, doneAt, mxAt, Int.reduceEq, Int.reduceNeg, if_true, if_false, or_self, or_true, true_or, or_false, false_or, reduceIte, reduceCtorEq] at hq
  repeat' (first | (refine h_load1 ?_; first | refine b_load_q ?_ | refine b_load_i ?_) | (refine h_faddr ?_; refine a_faddr_q ?_) | (refine h_bin ?_; refine a_eql ?_) | (refine h_cond ?_; first | refine b_cond_t ?_ | refine b_cond_f ?_) | (refine h_idx ?_; refine b_idx_i ?_) | (refine h_calm ?_; refine b_calm ?_) | (refine h_note ?_; refine a_note ?_) | (refine h_box ?_; refine b_box (fun nb_ hnb_ => ?_)) | (refine h_frz1 ?_; refine b_frz_p ?_) | refine a_join ?_ | refine a_tt ?_)
  all_goals first | exact hq | (refine Eq.mp (congrArg (fun b => Q (AV.bool b) []) ?_) hq; clear hq; first | (have h' := of_decide_eq_true h; simp [h']; done) | (have h' := of_decide_eq_false h; simp [h']; done) | (simp [h]; done) | (simp_all; done))
theorem ready_17 (w : WorldD) (s : SyncD) (t o : Int) (hf : FitD w s) (ht : inB t w.threads.length = true) (hr : ∀ l ∈ s.locks, l.readers.length < 2 ^ 40) (ha : allowedS w 17 o = true) (Q : AV → SH → Prop) (hq : Q (.bool (readyS w s t 17 o)) []) : object_ready_w (.agg w.enc) (.agg s.enc) (.int .i64 t) (.int .i64 17) (.int .i64 o) [] Q := by
  unfold object_ready_w
  have ht' : inB t s.threads.length = true := by rw [hf.threads]; exact ht
  have hrd := rd_small hr
  have hc : inB o w.conds.length = true := by simpa [allowedS] using ha
  have hl := mx_in hf hc
  simp only [readyS, lockAt, thrAt, doneAt, mxAt, Int.reduceEq, Int.reduceNeg, if_true, if_false, or_self, or_true, true_or, or_false, false_or, reduceIte, reduceCtorEq] at hq
  repeat' (first | (refine h_bin ?_; refine a_eql ?_) | (refine h_cond ?_; refine b_cond_f ?_) | (refine h_box ?_; refine b_box (fun nb_ hnb_ => ?_)) | (refine h_frz1 ?_; refine b_frz_p ?_) | refine a_join ?_)
  all_goals first | exact hq | (refine Eq.mp (congrArg (fun b => Q (AV.bool b) []) ?_) hq; clear hq; first | (have h' := of_decide_eq_true h; simp [h']; done) | (have h' := of_decide_eq_false h; simp [h']; done) | (simp [h]; done) | (simp_all; done))
theorem ready_18 (w : WorldD) (s : SyncD) (t o : Int) (hf : FitD w s) (ht : inB t w.threads.length = true) (hr : ∀ l ∈ s.locks, l.readers.length < 2 ^ 40) (ha : allowedS w 18 o = true) (Q : AV → SH → Prop) (hq : Q (.bool (readyS w s t 18 o)) []) : object_ready_w (.agg w.enc) (.agg s.enc) (.int .i64 t) (.int .i64 18) (.int .i64 o) [] Q := by
  unfold object_ready_w
  have ht' : inB t s.threads.length = true := by rw [hf.threads]; exact ht
  have hrd := rd_small hr
  have hc : inB o w.conds.length = true := by simpa [allowedS] using ha
  have hl := mx_in hf hc
  simp only [readyS, lockAt, thrAt, doneAt, mxAt, Int.reduceEq, Int.reduceNeg, if_true, if_false, or_self, or_true, true_or, or_false, false_or, reduceIte, reduceCtorEq] at hq
  repeat' (first | (refine h_load1 ?_; first | refine b_load_q ?_ | refine b_load_i ?_) | (refine h_faddr ?_; refine a_faddr_q ?_) | (refine h_bin ?_; refine a_eql ?_) | (refine h_cond ?_; first | refine b_cond_t ?_ | refine b_cond_f ?_) | (refine h_idx ?_; refine b_idx_i ?_) | (refine h_calm ?_; refine b_calm ?_) | (refine h_note ?_; refine a_note ?_) | (refine h_box ?_; refine b_box (fun nb_ hnb_ => ?_)) | (refine h_frz1 ?_; refine b_frz_p ?_) | refine a_join ?_ | refine a_tt ?_)
  all_goals first | exact hq | (refine Eq.mp (congrArg (fun b => Q (AV.bool b) []) ?_) hq; clear hq; first | (have h' := of_decide_eq_true h; simp [h']; done) | (have h' := of_decide_eq_false h; simp [h']; done) | (simp [h]; done) | (simp_all; done))
theorem ready_19 (w : WorldD) (s : SyncD) (t o : Int) (hf : FitD w s) (ht : inB t w.threads.length = true) (hr : ∀ l ∈ s.locks, l.readers.length < 2 ^ 40) (ha : allowedS w 19 o = true) (Q : AV → SH → Prop) (hq : Q (.bool (readyS w s t 19 o)) []) : object_ready_w (.agg w.enc) (.agg s.enc) (.int .i64 t) (.int .i64 19) (.int .i64 o) [] Q := by
  unfold object_ready_w
  have ht' : inB t s.threads.length = true := by rw [hf.threads]; exact ht
  have hrd := rd_small hr
  have hc : inB o w.conds.length = true := by simpa [allowedS] using ha
  have hl := mx_in hf hc
  simp only [readyS, lockAt, thrAt, doneAt, mxAt, Int.reduceEq, Int.reduceNeg, if_true, if_false, or_self, or_true, true_or, or_false, false_or, reduceIte, reduceCtorEq] at hq
  repeat' (first | (refine h_load1 ?_; first | refine b_load_q ?_ | refine b_load_i ?_) | (refine h_faddr ?_; refine a_faddr_q ?_) | (refine h_bin ?_; refine a_eql ?_) | (refine h_cond ?_; first | refine b_cond_t ?_ | refine b_cond_f ?_) | (refine h_idx ?_; refine b_idx_i ?_) | (refine h_calm ?_; refine b_calm ?_) | (refine h_note ?_; refine a_note ?_) | (refine h_box ?_; refine b_box (fun nb_ hnb_ => ?_)) | (refine h_frz1 ?_; refine b_frz_p ?_) | refine a_join ?_ | refine a_tt ?_)
  all_goals first | exact hq | (refine Eq.mp (congrArg (fun b => Q (AV.bool b) []) ?_) hq; clear hq; first | (have h' := of_decide_eq_true h; simp [h']; done) | (have h' := of_decide_eq_false h; simp [h']; done) | (simp [h]; done) | (simp_all; done))
theorem ready_20 (w : WorldD) (s : SyncD) (t o : Int) (hf : FitD w s) (ht : inB t w.threads.length = true) (hr : ∀ l ∈ s.locks, l.readers.length < 2 ^ 40) (ha : allowedS w 20 o = true) (Q : AV → SH → Prop) (hq : Q (.bool (readyS w s t 20 o)) []) : object_ready_w (.agg w.enc) (.agg s.enc) (.int .i64 t) (.int .i64 20) (.int .i64 o) [] Q := by
  unfold object_ready_w
  have ht' : inB t s.threads.length = true := by rw [hf.threads]; exact ht
  have hrd := rd_small hr
  have hl : inB o s.threads.length = true := by rw [hf.threads]; simpa [allowedS] using ha
  simp only [readyS, lockAt, thrAt, doneAt, mxAt, Int.reduceEq, Int.reduceNeg, if_true, if_false, or_self, or_true, true_or, or_false, false_or, reduceIte, reduceCtorEq] at hq
  repeat' (first | (refine h_load1 ?_; first | refine b_load_q ?_ | refine b_load_i ?_) | (refine h_faddr ?_; refine a_faddr_q ?_) | (refine h_bin ?_; first | refine a_eql ?_ | refine a_neq ?_) | (refine h_cond ?_; first | refine b_cond_t ?_ | refine b_cond_f ?_) | (refine h_idx ?_; refine b_idx_i ?_) | (refine h_pick ?_; first | refine b_pick_t ?_ | refine b_pick_f ?_) | (refine h_grd ?_; first | refine b_grd_y ?_ | refine b_grd_n ?_ | refine a_grd_t (fun h => ?_) (fun h => ?_)) | (refine h_box ?_; refine b_box (fun nb_ hnb_ => ?_)) | (refine h_frz1 ?_; refine b_frz_p ?_) | refine a_join ?_)
  all_goals first | exact hq | (refine Eq.mp (congrArg (fun b => Q (AV.bool b) []) ?_) hq; clear hq; first | (have h' := of_decide_eq_true h; simp [h']; done) | (have h' := of_decide_eq_false h; simp [h']; done) | (simp [h]; done) | (simp_all; done))
theorem ready_21 (w : WorldD) (s : SyncD) (t o : Int) (hf : FitD w s) (ht : inB t w.threads.length = true) (hr : ∀ l ∈ s.locks, l.readers.length < 2 ^ 40) (ha : allowedS w 21 o = true) (Q : AV → SH → Prop) (hq : Q (.bool (readyS w s t 21 o)) []) : object_ready_w (.agg w.enc) (.agg s.enc) (.int .i64 t) (.int .i64 21) (.int .i64 o) [] Q := by
  unfold object_ready_w
  have ht' : inB t s.threads.length = true := by rw [hf.threads]; exact ht
  have hrd := rd_small hr
  have hl : inB o s.threads.length = true := by rw [hf.threads]; simpa [allowedS] using ha
  simp only [readyS, lockAt, thrAt, doneAt, mxAt, Int.reduceEq, Int.reduceNeg, if_true, if_false, or_self, or_true, true_or, or_false, false_or, reduceIte, reduceCtorEq] at hq
  repeat' (first | (refine h_load1 ?_; first | refine b_load_q ?_ | refine b_load_i ?_) | (refine h_faddr ?_; refine a_faddr_q ?_) | (refine h_bin ?_; first | refine a_eql ?_ | refine a_neq ?_) | (refine h_cond ?_; first | refine b_cond_t ?_ | refine b_cond_f ?_) | (refine h_idx ?_; refine b_idx_i ?_) | (refine h_pick ?_; first | refine b_pick_t ?_ | refine b_pick_f ?_) | (refine h_grd ?_; first | refine b_grd_y ?_ | refine b_grd_n ?_ | refine a_grd_t (fun h => ?_) (fun h => ?_)) | (refine h_box ?_; refine b_box (fun nb_ hnb_ => ?_)) | (refine h_frz1 ?_; refine b_frz_p ?_) | refine a_join ?_)
  all_goals first | exact hq | (refine Eq.mp (congrArg (fun b => Q (AV.bool b) []) ?_) hq; clear hq; first | (have h' := of_decide_eq_true h; simp [h']; done) | (have h' := of_decide_eq_false h; simp [h']; done) | (simp [h]; done) | (simp_all; done))
theorem ready_22 (w : WorldD) (s : SyncD) (t o : Int) (hf : FitD w s) (ht : inB t w.threads.length = true) (hr : ∀ l ∈ s.locks, l.readers.length < 2 ^ 40) (ha : allowedS w 22 o = true) (Q : AV → SH → Prop) (hq : Q (.bool (readyS w s t 22 o)) []) : object_ready_w (.agg w.enc) (.agg s.enc) (.int .i64 t) (.int .i64 22) (.int .i64 o) [] Q := by
  unfold object_ready_w
  have ht' : inB t s.threads.length = true := by rw [hf.threads]; exact ht
  have hrd := rd_small hr
  have hl : inB o s.done.length = true := by rw [hf.done]; simpa [allowedS] using ha
  simp only [readyS, lockAt, thrAt, doneAt, mxAt, Int.reduceEq, Int.reduceNeg, if_true, if_false, or_self, or_true, true_or, or_false, false_or, reduceIte, reduceCtorEq] at hq
  repeat' (first | (refine h_load1 ?_; first | refine b_load_q ?_ | refine b_load_i ?_) | (refine h_faddr ?_; refine a_faddr_q ?_) | (refine h_bin ?_; refine a_eql ?_) | (refine h_cond ?_; first | refine b_cond_t ?_ | refine b_cond_f ?_) | (refine h_idx ?_; refine b_idx_i ?_) | (refine h_un ?_; refine a_not ?_) | (refine h_box ?_; refine b_box (fun nb_ hnb_ => ?_)) | (refine h_frz1 ?_; refine b_frz_p ?_) | refine a_join ?_)
  all_goals first | exact hq | (refine Eq.mp (congrArg (fun b => Q (AV.bool b) []) ?_) hq; clear hq; first | (have h' := of_decide_eq_true h; simp [h']; done) | (have h' := of_decide_eq_false h; simp [h']; done) | (simp [h]; done) | (simp_all; done))
theorem ready_23 (w : WorldD) (s : SyncD) (t o : Int) (hf : FitD w s) (ht : inB t w.threads.length = true) (hr : ∀ l ∈ s.locks, l.readers.length < 2 ^ 40) (ha : allowedS w 23 o = true) (Q : AV → SH → Prop) (hq : Q (.bool (readyS w s t 23 o)) []) : object_ready_w (.agg w.enc) (.agg s.enc) (.int .i64 t) (.int .i64 23) (.int .i64 o) [] Q := by
  unfold object_ready_w
  have ht' : inB t s.threads.length = true := by rw [hf.threads]; exact ht
  have hrd := rd_small hr
  have hl : inB o s.done.length = true := by rw [hf.done]; simpa [allowedS] using ha
  simp only [readyS, lockAt, thrAt, doneAt, mxAt, Int.reduceEq, Int.reduceNeg, if_true, if_false, or_self, or_true, true_or, or_false, false_or, reduceIte, reduceCtorEq] at hq
  repeat' (first | (refine h_load1 ?_; first | refine b_load_q ?_ | refine b_load_i ?_) | (refine h_faddr ?_; refine a_faddr_q ?_) | (refine h_bin ?_; refine a_eql ?_) | (refine h_cond ?_; first | refine b_cond_t ?_ | refine b_cond_f ?_) | (refine h_idx ?_; refine b_idx_i ?_) | (refine h_box ?_; refine b_box (fun nb_ hnb_ => ?_)) | (refine h_frz1 ?_; refine b_frz_p ?_) | refine a_join ?_)
  all_goals first | exact hq | (refine Eq.mp (congrArg (fun b => Q (AV.bool b) []) ?_) hq; clear hq; first | (have h' := of_decide_eq_true h; simp [h']; done) | (have h' := of_decide_eq_false h; simp [h']; done) | (simp [h]; done) | (simp_all; done))
theorem ready_w (w : WorldD) (s : SyncD) (t k o : Int) (hf : FitD w s) (ht : inB t w.threads.length = true) (hr : ∀ l ∈ s.locks, l.readers.length < 2 ^ 40) (ha : allowedS w k o = true) (Q : AV → SH → Prop) (hq : Q (.bool (readyS w s t k o)) []) : object_ready_w (.agg w.enc) (.agg s.enc) (.int .i64 t) (.int .i64 k) (.int .i64 o) [] Q := by
  rcases kinds k with hk | rfl | rfl | rfl | rfl | rfl | rfl | rfl | rfl | rfl | rfl | rfl | rfl | rfl | rfl | rfl | rfl | rfl | rfl | rfl | rfl | rfl | rfl | rfl 
  · simp only [allowedS] at ha
    repeat (rw [if_neg (by omega)] at ha)
    cases ha
  · exact ready_1 w s t o hf ht hr ha Q hq
  · exact ready_2 w s t o hf ht hr ha Q hq
  · exact ready_3 w s t o hf ht hr ha Q hq
  · exact ready_4 w s t o hf ht hr ha Q hq
  · exact ready_5 w s t o hf ht hr ha Q hq
  · exact ready_6 w s t o hf ht hr ha Q hq
  · exact ready_7 w s t o hf ht hr ha Q hq
  · exact ready_8 w s t o hf ht hr ha Q hq
  · exact ready_9 w s t o hf ht hr ha Q hq
  · exact ready_10 w s t o hf ht hr ha Q hq
  · exact ready_11 w s t o hf ht hr ha Q hq
  · exact ready_12 w s t o hf ht hr ha Q hq
  · exact ready_13 w s t o hf ht hr ha Q hq
  · exact ready_14 w s t o hf ht hr ha Q hq
  · exact ready_15 w s t o hf ht hr ha Q hq
  · exact ready_16 w s t o hf ht hr ha Q hq
  · exact ready_17 w s t o hf ht hr ha Q hq
  · exact ready_18 w s t o hf ht hr ha Q hq
  · exact ready_19 w s t o hf ht hr ha Q hq
  · exact ready_20 w s t o hf ht hr ha Q hq
  · exact ready_21 w s t o hf ht hr ha Q hq
  · exact ready_22 w s t o hf ht hr ha Q hq
  · exact ready_23 w s t o hf ht hr ha Q hq
theorem ready_ok (w : WorldD) (s : SyncD) (t k o : Int) (hf : FitD w s) (ht : inB t w.threads.length = true) (hr : ∀ l ∈ s.locks, l.readers.length < 2 ^ 40) (ha : allowedS w k o = true) : PureA Try.prog 54 [.agg w.enc, .agg s.enc, .int .i64 t, .int .i64 k, .int .i64 o] (.bool (readyS w s t k o)) := object_ready_ok _ _ _ _ _ _ _ (ready_w w s t k o hf ht hr ha _ ⟨rfl, rfl⟩)
theorem enabled_no (w : WorldD) (s : SyncD) (t k o : Int) (hcn : w.conds.length < 2 ^ 62) (hr : ∀ l ∈ s.locks, l.readers.length < 2 ^ 40) (Q : AV → SH → Prop) (hq : Q (.bool (enabledS w s t k o)) []) (hn : (fitsS w s && inB t w.threads.length && allowedS w k o) = false) : object_Enabled_w (.agg w.enc) (.agg s.enc) (.int .i64 t) (.int .i64 k) (.int .i64 o) [] Q := by
  unfold object_Enabled_w
  have e : enabledS w s t k o = false := by unfold enabledS; rw [hn, Bool.false_and]
  rw [e] at hq
  cases h1 : fitsS w s with
  | false =>
    have nh1 : (!fitsS w s) = true := by rw [h1]; rfl
    repeat' (first | (refine h_cond ?_; refine b_cond_t ?_) | (refine h_row ?_; refine b_row_q ?_) | (refine h_pick ?_; refine b_pick_t ?_) | (refine h_grd ?_; refine b_grd_n ?_) | refine a_mark ?_ | ((with_reducible refine h_fn 37 ?_); refine m_call (fits_ok _ _ hcn) ?_) | (refine h_un ?_; refine a_not ?_) | (refine h_box ?_; refine b_box (fun nb_ hnb_ => ?_)) | (refine h_frz1 ?_; refine b_frz_p ?_))
    all_goals exact hq
  | true =>
    have nh1 : (!fitsS w s) = false := by rw [h1]; rfl
    cases h2 : inB t w.threads.length with
    | false =>
      have nh2 : (!inB t w.threads.length) = true := by rw [h2]; rfl
      repeat' (first | (refine h_load1 ?_; refine b_load_q ?_) | (refine h_faddr ?_; refine a_faddr_q ?_) | (refine h_cond ?_; refine b_cond_t ?_) | (refine h_row ?_; refine b_row_q ?_) | (refine h_len ?_; refine a_len_m ?_) | (refine h_pick ?_; first | refine b_pick_t ?_ | refine b_pick_f ?_) | (refine h_grd ?_; first | refine b_grd_y ?_ | refine b_grd_n ?_) | refine a_mark ?_ | ((with_reducible refine h_fn 37 ?_); refine m_call (fits_ok _ _ hcn) ?_) | ((with_reducible refine h_fn 52 ?_); refine m_call (within_ok _ _) ?_) | (refine h_un ?_; refine a_not ?_) | (refine h_box ?_; refine b_box (fun nb_ hnb_ => ?_)) | (refine h_frz1 ?_; refine b_frz_p ?_))
      all_goals exact hq
    | true =>
      have nh2 : (!inB t w.threads.length) = false := by rw [h2]; rfl
      have h3 : allowedS w k o = false := by rw [h1, h2] at hn; simpa using hn
      have nh3 : (!allowedS w k o) = true := by rw [h3]; rfl
      repeat' (first | (refine h_load1 ?_; refine b_load_q ?_) | (refine h_faddr ?_; refine a_faddr_q ?_) | (refine h_cond ?_; refine b_cond_t ?_) | (refine h_row ?_; refine b_row_q ?_) | (refine h_len ?_; refine a_len_m ?_) | (refine h_pick ?_; refine b_pick_f ?_) | (refine h_grd ?_; refine b_grd_y ?_) | refine a_mark ?_ | ((with_reducible refine h_fn 37 ?_); refine m_call (fits_ok _ _ hcn) ?_) | ((with_reducible refine h_fn 52 ?_); refine m_call (within_ok _ _) ?_) | ((with_reducible refine h_fn 53 ?_); refine m_call (allowed_ok _ _ _) ?_) | (refine h_un ?_; refine a_not ?_) | (refine h_box ?_; refine b_box (fun nb_ hnb_ => ?_)) | (refine h_frz1 ?_; refine b_frz_p ?_))
      all_goals exact hq
theorem enabled_1 (w : WorldD) (s : SyncD) (t o : Int) (hcn : w.conds.length < 2 ^ 62) (hr : ∀ l ∈ s.locks, l.readers.length < 2 ^ 40) (Q : AV → SH → Prop) (hq : Q (.bool (enabledS w s t 1 o)) []) (h1 : fitsS w s = true) (h2 : inB t w.threads.length = true) (ha : allowedS w 1 o = true) : object_Enabled_w (.agg w.enc) (.agg s.enc) (.int .i64 t) (.int .i64 1) (.int .i64 o) [] Q := by
  unfold object_Enabled_w
  have nh1 : (!fitsS w s) = false := by rw [h1]; rfl
  have nh2 : (!inB t w.threads.length) = false := by rw [h2]; rfl
  have hf := fitsS_iff.1 h1
  have ht' : inB t s.threads.length = true := by rw [hf.threads]; exact h2
  have nha : (!allowedS w 1 o) = false := by rw [ha]; rfl
  simp only [enabledS, h1, h2, ha, readyS, lockAt, thrAt, doneAt, mxAt, Bool.true_and, Int.reduceEq, Int.reduceNeg, if_true, if_false, or_self, or_true, true_or, or_false, false_or, reduceIte, reduceCtorEq] at hq
  repeat' (first | (refine h_load1 ?_; refine b_load_q ?_) | (refine h_faddr ?_; refine a_faddr_q ?_) | (refine h_bin ?_; refine a_eql ?_) | (refine h_cond ?_; first | refine b_cond_t ?_ | refine b_cond_f ?_) | (refine h_idx ?_; refine b_idx_i ?_) | (refine h_row ?_; first | refine b_row_q ?_ | refine b_row_i ?_) | (refine h_len ?_; refine a_len_m ?_) | (refine h_pick ?_; refine b_pick_f ?_) | (refine h_grd ?_; refine b_grd_y ?_) | refine a_mark ?_ | ((with_reducible refine h_fn 37 ?_); refine m_call (fits_ok _ _ hcn) ?_) | ((with_reducible refine h_fn 52 ?_); refine m_call (within_ok _ _) ?_) | ((with_reducible refine h_fn 53 ?_); refine m_call (allowed_ok _ _ _) ?_) | (refine h_un ?_; refine a_not ?_) | (refine h_box ?_; refine b_box (fun nb_ hnb_ => ?_)) | (refine h_frz1 ?_; refine b_frz_p ?_) | (refine h_store ?_; refine b_store_box ?_) | refine a_alloc (fun nb_ hnb_ => ?_))
  all_goals first | exact hq | (refine Eq.mp (congrArg (fun b => Q (AV.bool b) []) ?_) hq; clear hq; first | (have h' := of_decide_eq_true h; simp [h']; done) | (have h' := of_decide_eq_false h; simp [h']; done) | (simp [h]; done) | (simp_all; done))
theorem enabled_17 (w : WorldD) (s : SyncD) (t o : Int) (hcn : w.conds.length < 2 ^ 62) (hr : ∀ l ∈ s.locks, l.readers.length < 2 ^ 40) (Q : AV → SH → Prop) (hq : Q (.bool (enabledS w s t 17 o)) []) (h1 : fitsS w s = true) (h2 : inB t w.threads.length = true) (ha : allowedS w 17 o = true) : object_Enabled_w (.agg w.enc) (.agg s.enc) (.int .i64 t) (.int .i64 17) (.int .i64 o) [] Q := by
  unfold object_Enabled_w
  have nh1 : (!fitsS w s) = false := by rw [h1]; rfl
  have nh2 : (!inB t w.threads.length) = false := by rw [h2]; rfl
  have hf := fitsS_iff.1 h1
  have ht' : inB t s.threads.length = true := by rw [hf.threads]; exact h2
  have nha : (!allowedS w 17 o) = false := by rw [ha]; rfl
  have hc : inB o w.conds.length = true := by simpa [allowedS] using ha
  have hl := mx_in hf hc
  simp only [enabledS, h1, h2, ha, readyS, lockAt, thrAt, doneAt, mxAt, Bool.true_and, Int.reduceEq, Int.reduceNeg, if_true, if_false, or_self, or_true, true_or, or_false, false_or, reduceIte, reduceCtorEq] at hq
  repeat' (first | (refine h_load1 ?_; first | refine b_load_q ?_ | refine b_load_i ?_) | (refine h_faddr ?_; refine a_faddr_q ?_) | (refine h_bin ?_; refine a_eql ?_) | (refine h_cond ?_; first | refine b_cond_t ?_ | refine b_cond_f ?_) | (refine h_idx ?_; refine b_idx_i ?_) | (refine h_row ?_; first | refine b_row_q ?_ | refine b_row_i ?_) | (refine h_len ?_; refine a_len_m ?_) | (refine h_calm ?_; refine b_calm ?_) | (refine h_note ?_; refine a_note ?_) | (refine h_pick ?_; first | refine b_pick_t ?_ | refine b_pick_f ?_) | (refine h_grd ?_; refine b_grd_y ?_) | (refine h_dgrd ?_; first | refine b_dgrd_y ?_ | refine b_dgrd_n ?_ | refine a_dgrd_t (fun h => ?_) (fun h => ?_)) | refine a_mark ?_ | ((with_reducible refine h_fn 37 ?_); refine m_call (fits_ok _ _ hcn) ?_) | ((with_reducible refine h_fn 52 ?_); refine m_call (within_ok _ _) ?_) | ((with_reducible refine h_fn 53 ?_); refine m_call (allowed_ok _ _ _) ?_) | (refine h_un ?_; refine a_not ?_) | (refine h_box ?_; refine b_box (fun nb_ hnb_ => ?_)) | (refine h_frz1 ?_; refine b_frz_p ?_) | (refine h_store ?_; refine b_store_box ?_) | refine a_alloc (fun nb_ hnb_ => ?_) | refine a_tt ?_)
  all_goals first | exact hq | (refine Eq.mp (congrArg (fun b => Q (AV.bool b) []) ?_) hq; clear hq; first | (have h' := of_decide_eq_true h; simp [h']; done) | (have h' := of_decide_eq_false h; simp [h']; done) | (simp [h]; done) | (simp_all; done))
theorem enabled_w (w : WorldD) (s : SyncD) (t k o : Int) (hcn : w.conds.length < 2 ^ 62) (hr : ∀ l ∈ s.locks, l.readers.length < 2 ^ 40) (Q : AV → SH → Prop) (hq : Q (.bool (enabledS w s t k o)) []) : object_Enabled_w (.agg w.enc) (.agg s.enc) (.int .i64 t) (.int .i64 k) (.int .i64 o) [] Q := by
  cases hn : (fitsS w s && inB t w.threads.length && allowedS w k o) with
  | false => exact enabled_no w s t k o hcn hr Q hq hn
  | true =>
    simp only [Bool.and_eq_true] at hn
    obtain ⟨⟨h1, h2⟩, ha⟩ := hn
    by_cases k1 : k = 1
    · subst k1; exact enabled_1 w s t o hcn hr Q hq h1 h2 ha
    by_cases k17 : k = 17
    · subst k17; exact enabled_17 w s t o hcn hr Q hq h1 h2 ha
    unfold object_Enabled_w
    have nh1 : (!fitsS w s) = false := by rw [h1]; rfl
    have nh2 : (!inB t w.threads.length) = false := by rw [h2]; rfl
    have hf := fitsS_iff.1 h1
    have ht' : inB t s.threads.length = true := by rw [hf.threads]; exact h2
    have nha : (!allowedS w k o) = false := by rw [ha]; rfl
    have e1 : decide (k = 1) = false := decide_eq_false k1
    have e17 : decide (k = 17) = false := decide_eq_false k17
    have hrk := ready_ok w s t k o hf h2 hr ha
    have e : enabledS w s t k o = (decide ((thrAt s t).status = 2) && readyS w s t k o) := by unfold enabledS; rw [h1, h2, ha, if_neg k1, if_neg k17]; rfl
    rw [e] at hq
    simp only [thrAt] at hq
    generalize readyS w s t k o = rb at *
    repeat' (first | (refine h_load1 ?_; refine b_load_q ?_) | (refine h_faddr ?_; refine a_faddr_q ?_) | (refine h_bin ?_; refine a_eql ?_) | (refine h_cond ?_; refine b_cond_f ?_) | (refine h_idx ?_; refine b_idx_i ?_) | (refine h_row ?_; first | refine b_row_q ?_ | refine b_row_i ?_) | (refine h_len ?_; refine a_len_m ?_) | (refine h_pick ?_; first | refine b_pick_t ?_ | refine b_pick_f ?_) | (refine h_grd ?_; first | refine b_grd_y ?_ | refine b_grd_n ?_ | refine a_grd_t (fun h => ?_) (fun h => ?_)) | refine a_mark ?_ | ((with_reducible refine h_fn 37 ?_); refine m_call (fits_ok _ _ hcn) ?_) | ((with_reducible refine h_fn 52 ?_); refine m_call (within_ok _ _) ?_) | ((with_reducible refine h_fn 53 ?_); refine m_call (allowed_ok _ _ _) ?_) | ((with_reducible refine h_fn 54 ?_); refine m_call (hrk) ?_) | (refine h_un ?_; refine a_not ?_) | (refine h_box ?_; refine b_box (fun nb_ hnb_ => ?_)) | (refine h_frz1 ?_; refine b_frz_p ?_) | (refine h_store ?_; refine b_store_box ?_) | refine a_alloc (fun nb_ hnb_ => ?_))
    all_goals first | exact hq | (refine Eq.mp (congrArg (fun b => Q (AV.bool b) []) ?_) hq; clear hq; first | (have h' := of_decide_eq_true h; simp [h']; done) | (have h' := of_decide_eq_false h; simp [h']; done) | (simp [h]; done) | (simp_all; done))
theorem enabled_ok (w : WorldD) (s : SyncD) (t k o : Int) (hcn : w.conds.length < 2 ^ 62) (hr : ∀ l ∈ s.locks, l.readers.length < 2 ^ 40) : PureA Try.prog 27 [.agg w.enc, .agg s.enc, .int .i64 t, .int .i64 k, .int .i64 o] (.bool (enabledS w s t k o)) := object_Enabled_ok _ _ _ _ _ _ _ (enabled_w w s t k o hcn hr _ ⟨rfl, rfl⟩)
end Go.Proofs.Ytadjimfkfmojkaa.Am

end
section
namespace Go.Proofs.Ytadjimfkfmojkaa
open Go.ChangeShapes Go.WideShapes Go.ChangeAt Go.RowKit

/-- A relation between a datum and the cells that hold it, in a world, over blocks of which F holds. -/
abbrev Rel (α : Type) := World → (Nat → Prop) → α → List Value → Prop

def rInt (k : IntKind) : Rel Int := fun _ _ n cs => cs = [.int k n] ∧ (Lit.int k n).wf = true
def rBool : Rel Bool := fun _ _ b cs => cs = [.bool b]
/-- A slice of elements of 'size' cells. -/
def rSlice {α : Type} (size : Nat) (R : Rel α) : Rel (List α) := fun w F l cs =>
  ∃ A c, cs = [.slice A l.length c] ∧ l.length ≤ c ∧ c ≤ maxLen ∧
    (0 < l.length → ∃ b o, A = some ⟨b, o, none⟩ ∧ F b ∧
      ∀ i x, l[i]? = some x → ∃ cs', cs'.length = size ∧ R w F x cs' ∧ ∀ j u, cs'[j]? = some u → w.cell? ⟨b, o + i * size + j, none⟩ = some u)

/-- What a relation must bear: it stands where the blocks that it lies in are kept. -/
def Rel.Stays {α : Type} (R : Rel α) : Prop := ∀ (w w' : World) (F F' : Nat → Prop) (x : α) (cs : List Value),
  (∀ b, F b → b < w.heap.size → w'.heap[b]? = w.heap[b]?) → (∀ b, F b → b < w.heap.size → F' b) → R w F x cs → R w' F' x cs

theorem lt_of_cell {w : World} {b o : Nat} {u : Value} (h : w.cell? ⟨b, o, none⟩ = some u) : b < w.heap.size := by
  rcases Nat.lt_or_ge b w.heap.size with hlt | hge
  · exact hlt
  · simp [World.cell?, Array.getElem?_eq_none hge] at h

theorem cell_kept {w w' : World} {b o : Nat} {u : Value} (hk : b < w.heap.size → w'.heap[b]? = w.heap[b]?) (h : w.cell? ⟨b, o, none⟩ = some u) : w'.cell? ⟨b, o, none⟩ = some u :=
  (World.cell?_of_block (w := w) (w' := w') (a := ⟨b, o, none⟩) (hk (lt_of_cell h))).trans h

theorem rInt_stays (k : IntKind) : (rInt k).Stays := fun _ _ _ _ _ _ _ _ h => h
theorem rBool_stays : rBool.Stays := fun _ _ _ _ _ _ _ _ h => h
theorem rSlice_stays {α : Type} {size : Nat} {R : Rel α} (hs : 0 < size) (hR : R.Stays) : (rSlice size R).Stays := by
  intro w w' F F' l cs hk hF ⟨A, c, h1, h2, h3, h4⟩
  refine ⟨A, c, h1, h2, h3, fun hn => ?_⟩
  obtain ⟨b, o, hA, hFb, hc⟩ := h4 hn
  have hb : b < w.heap.size := by
    obtain ⟨cs', hl, _, hcell⟩ := hc 0 l[0] (List.getElem?_eq_getElem hn)
    exact lt_of_cell (hcell 0 cs'[0] (List.getElem?_eq_getElem (by omega)))
  refine ⟨b, o, hA, hF b hFb hb, fun i x hx => ?_⟩
  obtain ⟨cs', hl, hr, hcell⟩ := hc i x hx
  exact ⟨cs', hl, hR w w' F F' x cs' hk hF hr, fun j u hu => cell_kept (hk b hFb) (hcell j u hu)⟩

/-- the slice value itself -/
def Sl {α : Type} (size : Nat) (R : Rel α) (w : World) (F : Nat → Prop) (v : Value) (l : List α) : Prop := rSlice size R w F l [v]

section
variable {α : Type} {size : Nat} {R : Rel α} {w w' : World} {F F' : Nat → Prop} {v : Value} {l : List α}
theorem Sl.form (h : Sl size R w F v l) : ∃ A c, v = .slice A l.length c ∧ l.length ≤ c ∧ c ≤ maxLen := by
  obtain ⟨A, c, h1, h2, h3, _⟩ := h
  exact ⟨A, c, by simpa using h1, h2, h3⟩
theorem Sl.at_ {A : Option Addr} {n c : Nat} (h : Sl size R w F (.slice A n c) l) {i : Nat} (hi : i < l.length) :
    ∃ b o cs, A = some ⟨b, o, none⟩ ∧ F b ∧ cs.length = size ∧ R w F l[i] cs ∧ ∀ j u, cs[j]? = some u → w.cell? ⟨b, o + i * size + j, none⟩ = some u := by
  obtain ⟨A', c', h1, h2, h3, h4⟩ := h
  obtain ⟨b, o, hA, hF, hc⟩ := h4 (by omega)
  have e : A = A' := by injection h1 with h1; injection h1
  obtain ⟨cs', hl, hr, hcell⟩ := hc i l[i] (List.getElem?_eq_getElem hi)
  exact ⟨b, o, cs', e.trans hA, hF, hl, hr, hcell⟩
theorem Sl.stays (hs : 0 < size) (hR : R.Stays) (h : Sl size R w F v l) (hk : ∀ b, F b → b < w.heap.size → w'.heap[b]? = w.heap[b]?) (hF : ∀ b, F b → b < w.heap.size → F' b) : Sl size R w' F' v l :=
  rSlice_stays hs hR w w' F F' l [v] hk hF h
theorem Sl.below {B : Nat} (hs : 0 < size) (hR : R.Stays) (h : Sl size R w (· < B) v l) (hb : Below B w w') : Sl size R w' (· < B) v l :=
  h.stays hs hR (fun b hb' _ => hb.block b hb') (fun _ h _ => h)
theorem Sl.nil : Sl size R w F (.slice none 0 0) ([] : List α) := ⟨none, 0, rfl, by simp, by simp [maxLen], fun h => absurd h (by simp)⟩
theorem Sl.empty (A : Option Addr) (c : Nat) (hc : c ≤ maxLen) : Sl size R w F (.slice A 0 c) ([] : List α) := ⟨A, c, rfl, by simp, hc, fun h => absurd h (by simp)⟩
theorem Sl.len {A : Option Addr} {n c : Nat} (h : Sl size R w F (.slice A n c) l) : n = l.length ∧ n ≤ c ∧ c ≤ maxLen := by
  obtain ⟨A', c', h1, h2, h3⟩ := h.form
  injection h1 with e1 e2 e3
  subst e2 e3
  exact ⟨rfl, h2, h3⟩
end

theorem Rel.up {α : Type} {R : Rel α} {w W : World} {x : α} {cs : List Value} (hR : R.Stays) (h : R w (· < w.heap.size) x cs) (hb : Below w.heap.size w W) : R W (· < W.heap.size) x cs :=
  hR w W _ _ x cs (fun b hlt _ => hb.block b hlt) (fun b _ hlt => by have := hb.size; omega) h
theorem Sl.up {α : Type} {size : Nat} {R : Rel α} {w W : World} {v : Value} {l : List α} (hs : 0 < size) (hR : R.Stays) (h : Sl size R w (· < w.heap.size) v l) (hb : Below w.heap.size w W) : Sl size R W (· < W.heap.size) v l :=
  Rel.up (rSlice_stays hs hR) h hb
section
variable {a w : World} {row : Option Nat}
end

def Blk (w : World) (g : Nat) (t : TypeId) (cs : List Value) : Prop := w.heap[g]? = some (.cells cs.toArray t (0, 0))
section
variable {w w' : World} {g : Nat} {t : TypeId} {cs : List Value}
theorem Blk.lt (h : Blk w g t cs) : g < w.heap.size := by
  rcases Nat.lt_or_ge g w.heap.size with hlt | hge
  · exact hlt
  · unfold Blk at h; rw [Array.getElem?_eq_none hge] at h; cases h
theorem Blk.cell (h : Blk w g t cs) {i : Nat} {u : Value} (hi : cs[i]? = some u) : w.cell? ⟨g, i, none⟩ = some u := by
  unfold Blk at h
  simp [World.cell?, h, hi]
theorem Blk.free (h : Blk w g t cs) (i : Nat) : w.frozen? ⟨g, i, none⟩ = false := by
  unfold Blk at h
  simp [World.frozen?, h]
theorem Blk.new (w : World) (t : TypeId) (cs : List Value) {g : Nat} (hg : w.heap.size = g) : Blk (w.alloc (.cells cs.toArray t)) g t cs := by
  subst hg
  exact heap_alloc_new w _
theorem Blk.alloc (h : Blk w g t cs) (o : Obj) : Blk (w.alloc o) g t cs := (Below.heap_alloc w o g h.lt).trans h
theorem Blk.below {B : Nat} (h : Blk w g t cs) (hb : Below B w w') (hg : g < B) : Blk w' g t cs := (hb.block g hg).trans h
theorem Blk.keep (h : Blk w g t cs) (hb : Below w.heap.size w w') : Blk w' g t cs := h.below hb h.lt
theorem Blk.only {g' : Nat} (h : Blk w g t cs) (hb : w.grownBy w' (some g')) (hg : g ≠ g') : Blk w' g t cs := (hb.block g h.lt (fun e => hg (by injection e))).trans h
end

section
variable {H : Type} {enc : TypeId × Value → H} {P : Program} {w : World} {base : Nat} {spare : Nat → Bool} {held : Bool}
/-- every reading of type t is one of R -/
def Opens (H : Type) (enc : TypeId × Value → H) (P : Program) (w : World) (base : Nat) (spare : Nat → Bool) (held : Bool) {α : Type} (t : TypeId) (R : Rel α) : Prop :=
  ∀ (fuel : Nat) (cs : List Value) (x : DataW H × List MemPlace), DataW.trod enc P w base spare held fuel t cs = some x → ∃ d, R w (· < w.heap.size) d cs
theorem opens_int {t : TypeId} {k : IntKind} (ht : P.underlying t = some (.int k)) : Opens H enc P w base spare held t (rInt k) := fun _ _ _ h => by
  obtain ⟨n, h1, _, h3⟩ := DataW.trod_int ht h
  exact ⟨n, h1, h3⟩
theorem opens_slice {α : Type} {t e : TypeId} {size : Nat} {R : Rel α} (ht : P.underlying t = some (.slice e)) (hc : P.cellsOf e = size) (hs : 0 < size) (he : Opens H enc P w base spare held e R) :
    Opens H enc P w base spare held t (rSlice size R) := fun fuel cs x h => by
  rcases Deep.open_slice ht h with ⟨rfl, _⟩ | ⟨a, len, cap, m, n, D, Pl, rfl, hb, hl, hm, hmm, hx, hi⟩
  · exact ⟨[], Sl.nil⟩
  rw [hc] at hi
  have hlm : len ≤ m := by rw [hmm]; split <;> omega
  have hall : ∀ i, i < len → ∃ d cs', R w (· < w.heap.size) d cs' ∧ cs'.length = size ∧ ∀ j u, cs'[j]? = some u → w.cell? (a.add (i * size + j)) = some u := by
    intro i hil
    obtain ⟨cs', h1, h2⟩ := hi i (by omega)
    obtain ⟨d, hd⟩ := he _ _ _ h2
    obtain ⟨_, hcl, hat⟩ := World.cells?_some h1
    refine ⟨d, cs', hd, hcl, fun j u hu => ?_⟩
    have hj : j < size := by rw [← hcl]; exact (List.getElem?_eq_some_iff.1 hu).1
    rw [← Deep.add_add, hat j hj, hu]
  have : ∃ l : List α, l.length = len ∧ ∀ i x, l[i]? = some x → ∃ cs', R w (· < w.heap.size) x cs' ∧ cs'.length = size ∧ ∀ j u, cs'[j]? = some u → w.cell? (a.add (i * size + j)) = some u := by
    clear hx hmm hlm hi hl h
    induction len with
    | zero => exact ⟨[], rfl, fun i x h => by simp at h⟩
    | succ k ih =>
      obtain ⟨l, hl, hl2⟩ := ih (fun i hi => hall i (by omega))
      obtain ⟨d, cs', h1, h2⟩ := hall k (by omega)
      refine ⟨l ++ [d], by simp [hl], fun i x hx => ?_⟩
      rcases Nat.lt_or_ge i l.length with h | h
      · rw [List.getElem?_append_left h] at hx
        exact hl2 i x hx
      · rw [List.getElem?_append_right h] at hx
        have hi0 : i - l.length = 0 := by
          rcases Nat.eq_zero_or_pos (i - l.length) with h0 | h0
          · exact h0
          · rw [List.getElem?_eq_none (by simp only [List.length_singleton]; omega)] at hx
            cases hx
        rw [hi0] at hx
        simp at hx
        subst hx
        obtain rfl : i = k := by omega
        exact ⟨cs', h1, h2⟩
  obtain ⟨l, hll, hel⟩ := this
  subst hll
  refine ⟨l, some a, cap, rfl, hl, hm, fun hn => ?_⟩
  have hsp : a = ⟨a.block, a.off, none⟩ := by
    obtain ⟨cs', _, h2, h3⟩ := hel 0 l[0] (List.getElem?_eq_getElem hn)
    have hc0 := h3 0 cs'[0] (List.getElem?_eq_getElem (by omega))
    rw [show 0 * size + 0 = 0 from by omega, Addr.add_zero'] at hc0
    unfold World.cell? at hc0
    cases hsp : a.spot with
    | none => cases a; simp_all
    | some s => split at hc0 <;> simp [hsp] at hc0
  have hblk : a.block < w.heap.size := by
    obtain ⟨cs', _, h2, h3⟩ := hel 0 l[0] (List.getElem?_eq_getElem hn)
    have hc0 := h3 0 cs'[0] (List.getElem?_eq_getElem (by omega))
    rw [show 0 * size + 0 = 0 from by omega, Addr.add_zero', hsp] at hc0
    exact lt_of_cell hc0
  refine ⟨a.block, a.off, by rw [← hsp], hblk, fun i x hx => ?_⟩
  obtain ⟨cs', h1, h2, h3⟩ := hel i x hx
  refine ⟨cs', h2, h1, fun j u hu => ?_⟩
  have := h3 j u hu
  rw [hsp, Addr.add_lit] at this
  rw [Nat.add_assoc]
  exact this
/-- A struct, field by field: what its fields' cells read as. -/
theorem opens_fields {t : TypeId} {fs : Array Field} {fuel : Nat} {cs : List Value} {x : DataW H × List MemPlace} (ht : P.underlying t = some (.struct fs))
    (h : DataW.trod enc P w base spare held fuel t cs = some x) : cs.length = P.cellsOf t ∧ ∀ (i : Nat) (ty off n : Nat) (cs' : List Value), (fs[i]?).map (fun f => (f.type, f.offset)) = some (ty, off) → P.cellsOf ty = n → (cs.drop off).take n = cs' →
      ∃ m y, DataW.trod enc P w base spare held m ty cs' = some y := by
  obtain ⟨xs, n, _, _, hl, hxl, hf⟩ := DataW.trod_struct ht h
  refine ⟨hl, fun i ty off k cs' hi hk hcs => ?_⟩
  cases hfi : fs[i]? with
  | none => rw [hfi] at hi; cases hi
  | some f =>
    rw [hfi] at hi
    simp only [Option.map_some, Option.some.injEq, Prod.mk.injEq] at hi
    obtain ⟨rfl, rfl⟩ := hi
    refine ⟨n, xs[i]'(by have := (Array.getElem?_eq_some_iff.1 hfi).1; omega), ?_⟩
    have := hf i f hfi
    rw [hk, hcs] at this
    rw [this]
    exact List.getElem?_eq_getElem _
end

section
variable {H : Type} {enc : TypeId × Value → H} {P : Program}
theorem trodAll_below (hl : laidOutB P = true) {W W' : World} (hb : Below W.heap.size W W') {sp : Nat → Bool} : ∀ (ts : List TypeId) (vs : List Value) (ds : List (DataW H)) (ps : List MemPlace),
    (∀ t ∈ ts, P.readableRec t = true ∧ t < P.types.size) → DataW.TrodAll enc P W 0 (fun _ => true) true ts vs ds ps → (∀ x ∈ ps, x.block < W.heap.size) → (∀ x ∈ ps, sp x.block = true) → DataW.TrodAll enc P W' 0 sp true ts vs ds ps
  | [], vs, ds, ps, _, h, _, _ => by
    obtain ⟨rfl, rfl, rfl⟩ := trodAll_nil h
    exact trodAll_mk0
  | t :: ts, vs, ds, ps, hr, h, hlt, hsp => by
    obtain ⟨v, vs', d, ds', p, q, rfl, rfl, rfl, h0, h1⟩ := trodAll_cons h
    refine trodAll_cons_mk ?_ (trodAll_below hl hb ts vs' ds' q (fun t ht => hr t (List.mem_cons_of_mem _ ht)) h1 (fun x hx => hlt x (List.mem_append_right _ hx)) (fun x hx => hsp x (List.mem_append_right _ hx)))
    exact WideElems.Trod_stays hl (hr t List.mem_cons_self).1 (hr t List.mem_cons_self).2 h0 (fun x hx => hb.same (hlt x (List.mem_append_left _ hx))) (fun x hx => hsp x (List.mem_append_left _ hx))

theorem law_post {f : Func} {s : ChangeSpec} {apart fresh handsOn again : Bool} {W W' : World} {args : Array Value} {ds gs : List (DataW H)} {before : List MemPlace} {tb : TypeId}
    (hl : laidOutB P = true) (hr : ∀ t ∈ f.params.toList, P.readableRec t = true ∧ t < P.types.size) (hvars : s.vars = []) (hrt : f.resultTypes = #[tb]) (htb : P.underlying tb = some .bool)
    (hW : DataW.Whole enc P f.params.toList s.vars apart W args.toList ds gs before)
    (hsr : (s.fn H (ds ++ gs)).results = [.lit (.bool true)]) (hsa : (s.fn H (ds ++ gs)).args = ds) (hsv : (s.fn H (ds ++ gs)).vars = []) (hb : Below W.heap.size W W') :
    s.post enc P f apart fresh handsOn again W args (.bool true) W' := by
  have hlt : ∀ p ∈ before, p.block < W.heap.size := fun p hp => hW.lt p hp
  have hold : ∀ p ∈ before, (fun b => decide (b < W.heap.size)) p.block = true := fun p hp => by simpa using hlt p hp
  obtain ⟨pa, pv, hA, hV, rfl, hz, hn⟩ := hW
  have hW : DataW.Whole enc P f.params.toList s.vars apart W args.toList ds gs (pa ++ pv) := ⟨pa, pv, hA, hV, rfl, hz, hn⟩
  rw [hvars] at hV
  obtain ⟨rfl, rfl⟩ := trodVars_none hV
  have hargs : ∀ sp : Nat → Bool, (∀ p ∈ pa, sp p.block = true) → DataW.TrodAll enc P W' 0 sp true f.params.toList args.toList (s.fn H (ds ++ [])).args pa := fun sp hsp => by
    rw [hsa]
    exact trodAll_below hl hb _ _ _ _ hr hA (fun x hx => hlt x (by simpa using hx)) hsp
  have hres : ∀ (b : Nat) (sp : Nat → Bool) (hd : Bool), DataW.TrodAll enc P W' b sp hd f.resultTypes.toList ((Value.bool true).resultList f.resultTypes.size) (s.fn H (ds ++ [])).results [] := fun b sp hd => by
    rw [hsr, hrt]
    exact trodAll_cons_mk (shut_bool htb _) trodAll_mk0
  have hvs : ∀ sp : Nat → Bool, DataW.TrodVars enc P W' sp s.vars (s.fn H (ds ++ [])).vars [] := fun sp => by
    rw [hvars, hsv]; rfl
  refine ⟨ds, [], pa ++ [], [], pa, [], hW, hres _ _ _, hargs _ (fun p hp => hold p (by simpa using hp)), hvs _, World.keptBut_mono (fun p hp => ⟨hp, ?_⟩) (hb.frame (· ∈ pa ++ [])), fun _ => ?_⟩
  · rw [List.mem_append] at hp
    exact Or.inr hp
  · refine ⟨?_, _, _, ([] ++ pa) ++ [], ⟨[] ++ pa, [], trodAll_append (hargs _ (fun _ _ => rfl)) (hres _ _ _), hvs _, rfl, ?_, ?_⟩, ?_⟩
    · intro j t r hj hr'
      rw [hrt] at hj hr'
      match j with
      | 0 =>
        simp at hj
        subst hj
        have : r = .bool true := by simpa [Value.resultList] using hr'.symm
        subst this
        exact okWide_bool_mk htb _
      | j + 1 => simp at hj
    · intro b off hp
      have hin : MemPlace.cell b off ∈ pa ++ [] := by simpa using hp
      rw [hb.frozen (hlt _ hin)]
      exact hz b off hin
    · intro ha
      have := hn ha
      simpa using this
    · intro p hp _
      simpa using hp
end
end Go.Proofs.Ytadjimfkfmojkaa

end
section
namespace Go.Proofs.Ytadjimfkfmojkaa
open Go.ChangeShapes Go.WideShapes Go.ChangeAt Go.RowKit

/-- What is known of a slice type t with elements e: their zero, their cells, their bytes. -/
structure Elem (P : Program) (t e : TypeId) (z : Value) (size bytes : Nat) : Prop where
  ht : P.underlying t = some (.slice e)
  hi : ∃ i, P.info? e = some i ∧ i.zero = some z ∧ i.size = size ∧ i.bytes = bytes
  hz : z.cells.size = size
  hs : 0 < size
theorem elem_mk {P : Program} {t e : TypeId} {z : Value} {size bytes : Nat} (ht : P.underlying t = some (.slice e)) (hi : (P.info? e).map (fun i => (i.zero, i.size, i.bytes)) = some (some z, size, bytes))
    (hz : z.cells.size = size) (hs : 0 < size) : Elem P t e z size bytes :=
  ⟨ht, by obtain ⟨i, h1, h2, h3, h4⟩ := info_parts hi; exact ⟨i, h1, h2, h3, h4⟩, hz, hs⟩

/-- The cells of a slice that may be nil, as one row. -/
def Flat (w : World) (size : Nat) (A : Option Addr) (n : Nat) (xs : List Value) : Prop :=
  xs.length = n * size ∧ (0 < n → ∃ b o, A = some ⟨b, o, none⟩ ∧ ∀ j u, xs[j]? = some u → w.cell? ⟨b, o + j, none⟩ = some u)

theorem run_append_nil_src {P : Program} (w : World) (base : Nat) (t ty e : TypeId) (i : TypeInfo) (size : Nat) (ht : P.underlying t = some (.slice e)) (hi : P.info? e = some i)
    (v : Value) (n : Nat) (xs : List Value) (hown : w.ownsRow base e size v n xs) (c : Nat) : (Builtin.append_ #[t, t] ty #[v, .slice none 0 c]).run P w = .ok v w := by
  rcases hown.2 with ⟨rfl, rfl⟩ | ⟨g, cap, cur, rfl, _, _, hnc, _⟩
  · simp [Builtin.append_, run_underlying ht, sizeOf, typeInfo, hi, Builtin.lenOf, Builtin.firstCells]
  · simp [Builtin.append_, run_underlying ht, sizeOf, typeInfo, hi, Builtin.lenOf, Builtin.firstCells, hnc, storeCells]

section
variable {P : Program} {w : World} {t e : TypeId} {z : Value} {size bytes : Nat}
theorem run_app (E : Elem P t e z size bytes) (ty : TypeId) (base : Nat) (v : Value) (n : Nat) (xs : List Value) (hown : w.ownsRow base e size v n xs)
    (A : Option Addr) (m c : Nat) (news : List Value) (hf : Flat w size A m news) (h1 : ∀ u ∈ news, u.oneCell' = true)
    (h63 : n + m ≤ maxLen) (hbytes : (n + m) * bytes ≤ 140737488355328) (hbase : base ≤ w.heap.size) :
    ∃ v' w', (Builtin.append_ #[t, t] ty #[v, .slice A m c]).run P w = .ok v' w' ∧ w'.ownsRow base e size v' (n + m) (xs ++ news) ∧ w.grownBy w' v.ownBlock := by
  obtain ⟨i, hi, hz0, hsz, hby⟩ := E.hi
  rcases A with _ | ad
  · have hm : m = 0 := by
      rcases Nat.eq_zero_or_pos m with h0 | h0
      · exact h0
      · obtain ⟨b, o, h, _⟩ := hf.2 h0
        cases h
    subst hm
    have hn : news = [] := List.eq_nil_of_length_eq_zero (by simpa using hf.1)
    subst hn
    exact ⟨v, w, run_append_nil_src w base t ty e i size E.ht hi v n xs hown c, by simpa using hown, World.grownBy.refl w _⟩
  · have hcells : ∀ j u, news[j]? = some u → w.cell? (ad.add j) = some u := by
      intro j u hu
      rcases Nat.eq_zero_or_pos m with h0 | h0
      · subst h0
        have hn : news = [] := List.eq_nil_of_length_eq_zero (by simpa using hf.1)
        subst hn
        simp at hu
      · obtain ⟨b, o, h, hc⟩ := hf.2 h0
        injection h with h
        subst h
        rw [Addr.add_lit]
        exact hc j u hu
    obtain ⟨v', w', hrun, h2, h3, _⟩ := run_append_own (P := P) w base t ty e i z size bytes E.ht hi hz0 hsz hby E.hz E.hs v n xs hown ad m c news hf.1 hcells h1 h63 hbytes hbase
    exact ⟨v', w', hrun, h2, h3⟩

theorem wp_app {o : Oper} {a : Act} {K : Act → World → Prop} {Q : Exit → Act → World → Prop} (s x : Operand)
    (ho : o.op = .call { callee := .builtin .append, args := #[s, x], argTypes := #[t, t] }) (E : Elem P t e z size bytes) (base : Nat)
    (v : Value) (n : Nat) (xs : List Value) (hs : a.eval s = v) (hown : w.ownsRow base e size v n xs)
    (A : Option Addr) (m c : Nat) (news : List Value) (hx : a.eval x = .slice A m c) (hf : Flat w size A m news) (h1 : ∀ u ∈ news, u.oneCell' = true)
    (h63 : n + m ≤ maxLen) (hbytes : (n + m) * bytes ≤ 140737488355328) (hbase : base ≤ w.heap.size)
    (h : ∀ v' w', w'.ownsRow base e size v' (n + m) (xs ++ news) → w.grownBy w' v.ownBlock → K (a.put o.dst v') w') : o.wp P a w K Q := by
  obtain ⟨v', w', hrun, h2, h3⟩ := run_app E o.type base v n xs hown A m c news hf h1 h63 hbytes hbase
  unfold Oper.wp execOp
  simp only [ho, resolve, invoke, builtin, Sem.run_bind, Sem.run_pure, Result.andThen_ok, List.map_toArray, List.map_cons, List.map_nil, hs, hx, hrun]
  exact h v' w' h2 h3

theorem wpList_app {ops : Array Oper} {rest : List Oper} {o : Oper} {a : Act} {Q : Exit → Act → World → Prop} (hgd : o.guard = none) (s x : Operand)
    (ho : o.op = .call { callee := .builtin .append, args := #[s, x], argTypes := #[t, t] }) (E : Elem P t e z size bytes) (base : Nat)
    (v : Value) (n : Nat) (xs : List Value) (hs : a.eval s = v) (hown : w.ownsRow base e size v n xs)
    (A : Option Addr) (m c : Nat) (news : List Value) (hx : a.eval x = .slice A m c) (hf : Flat w size A m news) (h1 : ∀ u ∈ news, u.oneCell' = true)
    (h63 : n + m ≤ maxLen) (hbytes : (n + m) * bytes ≤ 140737488355328) (hbase : base ≤ w.heap.size)
    (h : ∀ v' w', w'.ownsRow base e size v' (n + m) (xs ++ news) → w.grownBy w' v.ownBlock → wpList P ops Q rest (a.put o.dst v') w') : wpList P ops Q (o :: rest) a w :=
  wpList_plain hgd fun _ hK => wp_app s x ho E base v n xs hs hown A m c news hx hf h1 h63 hbytes hbase fun v' w' h2 h3 => hK _ _ (h v' w' h2 h3)

end

theorem own_from {w : World} {base : Nat} {e : TypeId} {size n : Nat} {v : Value} {xs : List Value} (h : w.ownsRow base e size v n xs) : ∀ k, v.ownBlock = some k → base ≤ k := fun k hk => (h.lt k hk).1

theorem Flat.kept {w w' : World} {size n : Nat} {A : Option Addr} {xs : List Value} (h : Flat w size A n xs) (hb : Below w.heap.size w w') : Flat w' size A n xs := by
  refine ⟨h.1, fun hn => ?_⟩
  obtain ⟨b, o, hA, hc⟩ := h.2 hn
  exact ⟨b, o, hA, fun j u hu => cell_kept (fun hlt => hb.block b hlt) (hc j u hu)⟩

/-- the cells of one element out of a row -/
def cellsAt (size : Nat) (xs : List Value) (i : Nat) : List Value := (xs.drop (i * size)).take size

/-- A fresh block of one element, read as a list. -/
theorem Sl.one {α : Type} {size : Nat} {R : Rel α} {w : World} {F : Nat → Prop} {b : Nat} {e : TypeId} {cs : List Value} {x : α} (hb : w.heap.size = b) (hl : cs.length = size) (hF : F b)
    (hR : R (w.alloc (.cells cs.toArray e)) F x cs) : Sl size R (w.alloc (.cells cs.toArray e)) F (.slice (some ⟨b, 0, none⟩) 1 1) [x] := by
  subst hb
  refine ⟨_, 1, rfl, by simp, by simp [maxLen], fun _ => ⟨_, 0, rfl, hF, fun i y hy => ?_⟩⟩
  match i with
  | 0 =>
    simp at hy
    subst hy
    refine ⟨cs, hl, hR, fun j u hu => ?_⟩
    rw [cell_of_row _ _ _ cs.toArray e (0, 0) (heap_alloc_new w _)]
    simpa using hu
  | i + 1 => simp at hy

/-- A list that is read gives its cells as one row. -/
theorem Sl.flat {α : Type} {size : Nat} {R : Rel α} {w : World} {F : Nat → Prop} {A : Option Addr} {n c : Nat} {l : List α} (h : Sl size R w F (.slice A n c) l) :
    ∃ xs, Flat w size A n xs ∧ ∀ i x, l[i]? = some x → R w F x (cellsAt size xs i) ∧ (cellsAt size xs i).length = size := by
  obtain ⟨A', c', h1, h2, h3, h4⟩ := h
  injection h1 with h1 _
  injection h1 with e1 e2 e3
  subst e1 e2 e3
  rcases Nat.eq_zero_or_pos l.length with h0 | h0
  · refine ⟨[], ⟨by simp [h0], fun h => by omega⟩, fun i x hx => ?_⟩
    rw [List.eq_nil_of_length_eq_zero h0] at hx
    simp at hx
  obtain ⟨b, o, rfl, hF, hc⟩ := h4 h0
  have key : ∀ m, m ≤ l.length → ∃ xs : List Value, xs.length = m * size ∧ (∀ j u, xs[j]? = some u → w.cell? ⟨b, o + j, none⟩ = some u) ∧
      ∀ i x, i < m → l[i]? = some x → R w F x (cellsAt size xs i) ∧ (cellsAt size xs i).length = size := by
    intro m
    induction m with
    | zero => exact fun _ => ⟨[], by simp, fun j u hu => by simp at hu, fun i x hi => by omega⟩
    | succ m ih =>
      intro hm
      obtain ⟨xs, hl, hcell, hr⟩ := ih (by omega)
      obtain ⟨cs, hcl, hR, hcc⟩ := hc m l[m] (List.getElem?_eq_getElem (by omega))
      refine ⟨xs ++ cs, by rw [List.length_append, hl, hcl, Nat.succ_mul], fun j u hu => ?_, fun i x hi hx => ?_⟩
      · rcases Nat.lt_or_ge j xs.length with hj | hj
        · rw [List.getElem?_append_left hj] at hu
          exact hcell j u hu
        · rw [List.getElem?_append_right hj] at hu
          have := hcc _ u hu
          rw [show o + m * size + (j - xs.length) = o + j from by omega] at this
          exact this
      · have hile : i ≤ m := by omega
        rcases Nat.lt_or_ge i m with him | him
        · have e : cellsAt size (xs ++ cs) i = cellsAt size xs i := by
            have hmul : i * size + size ≤ m * size := by rw [← Nat.succ_mul]; exact Nat.mul_le_mul_right _ him
            unfold cellsAt
            rw [List.drop_append_of_le_length (by omega), List.take_append_of_le_length (by rw [List.length_drop]; omega)]
          rw [e]
          exact hr i x him hx
        · obtain rfl : i = m := by omega
          have e : cellsAt size (xs ++ cs) i = cs := by
            unfold cellsAt
            rw [← hl, List.drop_left, ← hcl, List.take_length]
          rw [List.getElem?_eq_getElem (by omega)] at hx
          injection hx with hx
          subst hx
          rw [e]
          exact ⟨hR, hcl⟩
  obtain ⟨xs, h1, h2, h3⟩ := key l.length (Nat.le_refl _)
  exact ⟨xs, ⟨h1, fun _ => ⟨b, o, rfl, h2⟩⟩, fun i x hx => h3 i x (List.getElem?_eq_some_iff.1 hx).1 hx⟩
end Go.Proofs.Ytadjimfkfmojkaa

end
section
namespace Go.Proofs.Ytadjimfkfmojkaa
open Go.ChangeShapes Go.WideShapes Go.ChangeAt Go.RowKit
abbrev Ints := Sl (α := Int) 1 (rInt .i64)
theorem int_at {A : Option Addr} {n c : Nat} {l : List Int} {w : World} {F : Nat → Prop} (h : Ints w F (.slice A n c) l) {k : Nat} (hk : k < n) :
    ∃ b o x, A = some ⟨b, o, none⟩ ∧ F b ∧ b < w.heap.size ∧ l[k]? = some x ∧ w.cell? ⟨b, o + k, none⟩ = some (.int .i64 x) := by
  have hl := h.len
  obtain ⟨b, o, cs, hA, hb, _, hR, hc⟩ := h.at_ (i := k) (by omega)
  obtain ⟨rfl, _⟩ := hR
  have := hc 0 _ rfl
  rw [Nat.mul_one, Nat.add_zero] at this
  exact ⟨b, o, l[k], hA, hb, lt_of_cell this, List.getElem?_eq_getElem _, this⟩
/-- The numbers fit their kind. -/
def Fit (l : List Int) : Prop := ∀ x ∈ l, (Lit.int .i64 x).wf = true
theorem Ints.fit {A : Option Addr} {n c : Nat} {l : List Int} {w : World} {F : Nat → Prop} (h : Ints w F (.slice A n c) l) : Fit l := by
  intro x hx
  obtain ⟨i, hi, rfl⟩ := List.getElem_of_mem hx
  obtain ⟨b, o, cs, hA, hb, _, hR, hc⟩ := h.at_ hi
  exact hR.2
theorem Ints.flat {A : Option Addr} {n c : Nat} {l : List Int} {w : World} {F : Nat → Prop} (h : Ints w F (.slice A n c) l) : Flat w 1 A n (l.map (Value.int .i64)) := by
  have hl := h.len
  refine ⟨by simp [hl.1], fun hn => ?_⟩
  obtain ⟨b, o, x, hA, _⟩ := int_at h hn
  refine ⟨b, o, hA, fun j u hu => ?_⟩
  have hj : j < n := by have := (List.getElem?_eq_some_iff.1 hu).1; simp at this; omega
  obtain ⟨b', o', y, hA', _, _, hy, hc⟩ := int_at h hj
  rw [hA] at hA'
  obtain ⟨rfl, rfl⟩ : b = b' ∧ o = o' := by simpa using hA'
  rw [List.getElem?_map, hy] at hu
  injection hu with hu
  rw [← hu]
  exact hc
end Go.Proofs.Ytadjimfkfmojkaa

end
section
namespace Go.Proofs.Ytadjimfkfmojkaa
open Go.ChangeShapes Go.WideShapes Go.ChangeAt Go.RowKit
set_option linter.unusedVariables false
/-- What the layer reads of a world: how many cells, futures and threads there are, which locks are rwlocks, the conditions' mutexes. -/
structure WD where
  nc : Nat
  rw : List Bool
  mx : List Int
  nf : Nat
  nt : Nat
structure LockD where
  owner : Int
  readers : List Int
structure ThrD where
  status : Int
  cond : Int
  atomic : Bool
structure SyncD where
  locks : List LockD
  tx : Int
  done : List Bool
  threads : List ThrD
def rLk : Rel Bool := fun _ _ b cs => ∃ s, cs = [.string s, .bool b]
def rCd : Rel Int := fun _ _ m cs => ∃ s, cs = [.string s, .int .i64 m] ∧ (Lit.int .i64 m).wf = true
def rLock : Rel LockD := fun w F l cs => ∃ A n c, cs = [.int .i64 l.owner, .slice A n c] ∧ (Lit.int .i64 l.owner).wf = true ∧ Ints w F (.slice A n c) l.readers
def rThr : Rel ThrD := fun _ _ t cs => cs = [.int .i64 t.status, .int .i64 t.cond, .bool t.atomic] ∧ (Lit.int .i64 t.status).wf = true ∧ (Lit.int .i64 t.cond).wf = true
theorem rLk_stays : rLk.Stays := fun _ _ _ _ _ _ _ _ h => h
theorem rCd_stays : rCd.Stays := fun _ _ _ _ _ _ _ _ h => h
theorem rThr_stays : rThr.Stays := fun _ _ _ _ _ _ _ _ h => h
theorem rLock_stays : rLock.Stays := fun w w' F F' l cs hk hF ⟨A, n, c, h1, h2, h3⟩ => ⟨A, n, c, h1, h2, h3.stays (by decide) (rInt_stays _) hk hF⟩
/-- The slices of a world's value. -/
structure WV where
  cA : Option Addr
  nc : Nat
  cc : Nat
  lA : Option Addr
  nl : Nat
  lc : Nat
  dA : Option Addr
  nd : Nat
  dc : Nat
  fA : Option Addr
  nf : Nat
  fc : Nat
  tA : Option Addr
  nt : Nat
  tc : Nat
  sA : Option Addr
  ns : Nat
  sc : Nat
structure WOk (w : World) (F : Nat → Prop) (v : WV) (d : WD) : Prop where
  nc : v.nc = d.nc ∧ v.nc ≤ maxLen
  nf : v.nf = d.nf ∧ v.nf ≤ maxLen
  nt : v.nt = d.nt ∧ v.nt ≤ maxLen
  locks : Sl 2 rLk w F (.slice v.lA v.nl v.lc) d.rw
  conds : Sl 2 rCd w F (.slice v.dA v.nd v.dc) d.mx
structure SV where
  kA : Option Addr
  nk : Nat
  kc : Nat
  tx : Int
  eA : Option Addr
  ne : Nat
  ec : Nat
  hA : Option Addr
  nh : Nat
  hc : Nat
structure SOk (w : World) (F : Nat → Prop) (v : SV) (d : SyncD) : Prop where
  locks : Sl 2 rLock w F (.slice v.kA v.nk v.kc) d.locks
  done : Sl 1 rBool w F (.slice v.eA v.ne v.ec) d.done
  threads : Sl 3 rThr w F (.slice v.hA v.nh v.hc) d.threads
  tx : v.tx = d.tx
  wf : (Lit.int .i64 d.tx).wf = true
abbrev WV.val (v : WV) : Value := .agg #[.slice v.cA v.nc v.cc, .slice v.lA v.nl v.lc, .slice v.dA v.nd v.dc, .slice v.fA v.nf v.fc, .slice v.tA v.nt v.tc, .slice v.sA v.ns v.sc]
abbrev SV.val (v : SV) : Value := .agg #[.slice v.kA v.nk v.kc, .int .i64 v.tx, .slice v.eA v.ne v.ec, .slice v.hA v.nh v.hc]
theorem WOk.stays {w w' : World} {F F' : Nat → Prop} {v : WV} {d : WD} (h : WOk w F v d) (hk : ∀ b, F b → b < w.heap.size → w'.heap[b]? = w.heap[b]?) (hF : ∀ b, F b → b < w.heap.size → F' b) : WOk w' F' v d :=
  ⟨h.nc, h.nf, h.nt, h.locks.stays (by decide) rLk_stays hk hF, h.conds.stays (by decide) rCd_stays hk hF⟩
theorem SOk.stays {w w' : World} {F F' : Nat → Prop} {v : SV} {d : SyncD} (h : SOk w F v d) (hk : ∀ b, F b → b < w.heap.size → w'.heap[b]? = w.heap[b]?) (hF : ∀ b, F b → b < w.heap.size → F' b) : SOk w' F' v d :=
  ⟨h.locks.stays (by decide) rLock_stays hk hF, h.done.stays (by decide) rBool_stays hk hF, h.threads.stays (by decide) rThr_stays hk hF, h.tx, h.wf⟩
theorem WOk.up {w w' : World} {v : WV} {d : WD} (h : WOk w (· < w.heap.size) v d) (hb : Below w.heap.size w w') : WOk w' (· < w'.heap.size) v d :=
  h.stays (fun b hlt _ => hb.block b hlt) (fun b _ hlt => by have := hb.size; omega)
theorem SOk.up {w w' : World} {v : SV} {d : SyncD} (h : SOk w (· < w.heap.size) v d) (hb : Below w.heap.size w w') : SOk w' (· < w'.heap.size) v d :=
  h.stays (fun b hlt _ => hb.block b hlt) (fun b _ hlt => by have := hb.size; omega)

def inB (i : Int) (n : Nat) : Bool := decide (0 ≤ i) && decide (i < n)
def fitsS (d : WD) (s : SyncD) : Bool := s.locks.length == d.rw.length && (s.done.length == d.nf) && (s.threads.length == d.nt) && d.mx.all (fun m => inB m d.rw.length)
def rwAt (d : WD) (i : Int) : Bool := d.rw.getD i.toNat false
def allowedS (d : WD) (kind obj : Int) : Bool :=
  if kind = 1 ∨ kind = 2 ∨ kind = 5 ∨ kind = 12 ∨ kind = 13 ∨ kind = 14 ∨ kind = 15 then obj == -1
  else if kind = 3 ∨ kind = 4 then inB obj d.nc
  else if kind = 6 ∨ kind = 7 then inB obj d.rw.length && !rwAt d obj
  else if kind = 8 ∨ kind = 9 ∨ kind = 10 ∨ kind = 11 then inB obj d.rw.length && rwAt d obj
  else if kind = 16 ∨ kind = 17 ∨ kind = 18 ∨ kind = 19 then inB obj d.mx.length
  else if kind = 20 ∨ kind = 21 then inB obj d.nt
  else if kind = 22 ∨ kind = 23 then inB obj d.nf
  else false
end Go.Proofs.Ytadjimfkfmojkaa

end
section
namespace Go.Proofs.Ytadjimfkfmojkaa
open Go.ChangeShapes Go.WideShapes Go.ChangeAt Go.RowKit
set_option linter.unusedVariables false
theorem elemI : Elem Try.prog 22 3 (.int .i64 0) 1 8 := elem_mk Try.underlying22 (by kernel_rfl) rfl (by decide)
set_option maxHeartbeats 1000000 in
set_option maxRecDepth 100000 in
theorem cloneI_any (A : Option Addr) (n c : Nat) (xs : List Value) (w : World) (hf : Flat w 1 A n xs) (h1 : ∀ x ∈ xs, x.oneCell' = true) (hn : n * 8 ≤ 140737488355328) (hA : A = none → n = 0) :
    Calls Try.prog 68 #[.slice A n c] w fun e w' => ∃ v, e = .returned v ∧ w'.ownsRow w.heap.size 3 1 v n xs ∧ Below w.heap.size w w' := by
  have HF := Lib.hid hf
  have H1 := Lib.hid h1
  clear hf h1
  have heq := fun (W : World) (a : Option Addr) (l c : Nat) => Lib.run_eql_slice_nil (P := Try.prog) W 22 3 a l c 0 0 Try.underlying22
  cases A with
  | none =>
    obtain rfl : n = 0 := hA rfl
    have hx : xs = [] := List.eq_nil_of_length_eq_zero (by have := HF.out.1; simpa using this)
    have Hx := Lib.hid hx
    clear hx HF H1
    go_enter Try.func68, Try.ntmps68
    go_wp2_with fail
    go_ret
    exact ⟨_, rfl, by rw [Hx.out]; exact World.ownsRow_nil _ _ _ _, Below.refl _ _⟩
  | some a =>
    clear hA
    have M0 : Hid ((w.alloc (.cells #[] 3)).ownsRow w.heap.size 3 1 (.slice (some ⟨w.heap.size, 0, none⟩) 0 0) 0 []) := Lib.hid (World.ownsRow_made w #[] 0 (Nat.le_refl _) (by simp [maxLen]) (by simp))
    go_enter Try.func68, Try.ntmps68
    go_wp2_with (at_builtin; go_must (refine wpList_app rfl (.tmp 5) (.tmp 6) rfl elemI w.heap.size _ 0 [] rfl M0.out (some a) n c xs rfl (HF.out.kept ((Below.refl _ _).alloc (Nat.le_refl _) _)) H1.out (by simp only [maxLen]; omega) (by omega) (by simp) ?_); intro v1 w1 hown1 hg1)
    have hb1 := ((Below.refl w.heap.size w).alloc (Nat.le_refl _) _).grown hg1 (by simp) (own_from M0.out)
    go_wp2_with fail
    go_ret
    exact ⟨_, rfl, by simpa using hown1, hb1⟩
theorem elemB : Elem Try.prog 49 4 (.bool false) 1 1 := elem_mk Try.underlying49 (by kernel_rfl) rfl (by decide)
set_option maxHeartbeats 1000000 in
set_option maxRecDepth 100000 in
theorem cloneB_any (A : Option Addr) (n c : Nat) (xs : List Value) (w : World) (hf : Flat w 1 A n xs) (h1 : ∀ x ∈ xs, x.oneCell' = true) (hn : n * 1 ≤ 140737488355328) (hA : A = none → n = 0) :
    Calls Try.prog 76 #[.slice A n c] w fun e w' => ∃ v, e = .returned v ∧ w'.ownsRow w.heap.size 4 1 v n xs ∧ Below w.heap.size w w' := by
  have HF := Lib.hid hf
  have H1 := Lib.hid h1
  clear hf h1
  have heq := fun (W : World) (a : Option Addr) (l c : Nat) => Lib.run_eql_slice_nil (P := Try.prog) W 49 4 a l c 0 0 Try.underlying49
  cases A with
  | none =>
    obtain rfl : n = 0 := hA rfl
    have hx : xs = [] := List.eq_nil_of_length_eq_zero (by have := HF.out.1; simpa using this)
    have Hx := Lib.hid hx
    clear hx HF H1
    go_enter Try.func76, Try.ntmps76
    go_wp2_with fail
    go_ret
    exact ⟨_, rfl, by rw [Hx.out]; exact World.ownsRow_nil _ _ _ _, Below.refl _ _⟩
  | some a =>
    clear hA
    have M0 : Hid ((w.alloc (.cells #[] 4)).ownsRow w.heap.size 4 1 (.slice (some ⟨w.heap.size, 0, none⟩) 0 0) 0 []) := Lib.hid (World.ownsRow_made w #[] 0 (Nat.le_refl _) (by simp [maxLen]) (by simp))
    go_enter Try.func76, Try.ntmps76
    go_wp2_with (at_builtin; go_must (refine wpList_app rfl (.tmp 5) (.tmp 6) rfl elemB w.heap.size _ 0 [] rfl M0.out (some a) n c xs rfl (HF.out.kept ((Below.refl _ _).alloc (Nat.le_refl _) _)) H1.out (by simp only [maxLen]; omega) (by omega) (by simp) ?_); intro v1 w1 hown1 hg1)
    have hb1 := ((Below.refl w.heap.size w).alloc (Nat.le_refl _) _).grown hg1 (by simp) (own_from M0.out)
    go_wp2_with fail
    go_ret
    exact ⟨_, rfl, by simpa using hown1, hb1⟩
theorem elemT : Elem Try.prog 50 66 (.agg #[.int .i64 0, .int .i64 0, .bool false]) 3 24 := elem_mk Try.underlying50 (by kernel_rfl) rfl (by decide)
set_option maxHeartbeats 1000000 in
set_option maxRecDepth 100000 in
theorem cloneT_any (A : Option Addr) (n c : Nat) (xs : List Value) (w : World) (hf : Flat w 3 A n xs) (h1 : ∀ x ∈ xs, x.oneCell' = true) (hn : n * 24 ≤ 140737488355328) (hA : A = none → n = 0) :
    Calls Try.prog 77 #[.slice A n c] w fun e w' => ∃ v, e = .returned v ∧ w'.ownsRow w.heap.size 66 3 v n xs ∧ Below w.heap.size w w' := by
  have HF := Lib.hid hf
  have H1 := Lib.hid h1
  clear hf h1
  have heq := fun (W : World) (a : Option Addr) (l c : Nat) => Lib.run_eql_slice_nil (P := Try.prog) W 50 66 a l c 0 0 Try.underlying50
  cases A with
  | none =>
    obtain rfl : n = 0 := hA rfl
    have hx : xs = [] := List.eq_nil_of_length_eq_zero (by have := HF.out.1; simpa using this)
    have Hx := Lib.hid hx
    clear hx HF H1
    go_enter Try.func77, Try.ntmps77
    go_wp2_with fail
    go_ret
    exact ⟨_, rfl, by rw [Hx.out]; exact World.ownsRow_nil _ _ _ _, Below.refl _ _⟩
  | some a =>
    clear hA
    have M0 : Hid ((w.alloc (.cells #[] 66)).ownsRow w.heap.size 66 3 (.slice (some ⟨w.heap.size, 0, none⟩) 0 0) 0 []) := Lib.hid (World.ownsRow_made w #[] 0 (Nat.le_refl _) (by simp [maxLen]) (by simp))
    go_enter Try.func77, Try.ntmps77
    go_wp2_with (at_builtin; go_must (refine wpList_app rfl (.tmp 5) (.tmp 6) rfl elemT w.heap.size _ 0 [] rfl M0.out (some a) n c xs rfl (HF.out.kept ((Below.refl _ _).alloc (Nat.le_refl _) _)) H1.out (by simp only [maxLen]; omega) (by omega) (by simp) ?_); intro v1 w1 hown1 hg1)
    have hb1 := ((Below.refl w.heap.size w).alloc (Nat.le_refl _) _).grown hg1 (by simp) (own_from M0.out)
    go_wp2_with fail
    go_ret
    exact ⟨_, rfl, by simpa using hown1, hb1⟩
end Go.Proofs.Ytadjimfkfmojkaa

end
section
namespace Go.Proofs.Ytadjimfkfmojkaa.Am
open Go.RowKit
set_option linter.unusedVariables false
theorem below_ext {w w' : World} {σ : Sig} {T : Nat → Prop} (h : Below w.heap.size w w') (hfr : ∀ c, σ.fr c → c < w.heap.size) : Ext w σ T w' σ T :=
  ⟨h.os, h.tape, h.output, h.size, fun c hc _ => h.block c hc, fun c cs e hc => ⟨cs, by rw [h.block c (Array.getElem?_eq_some_iff.1 hc).1]; exact hc, rfl⟩, fun _ _ h => h, rfl, fun c hc => h.block c (hfr c hc), fun _ h => .inl h⟩
theorem below_rel {w w' : World} {σ : Sig} {H : Heap} (hW : WRel w σ H) (h : Below w.heap.size w w') : WRel w' σ H :=
  ⟨hW.named, fun b pl hb => Nat.lt_of_lt_of_le (hW.lt b pl hb) h.size, fun b x hb => by
    obtain ⟨pl, cs, e, h1, h2⟩ := hW.live b x hb
    exact ⟨pl, cs, e, h1, h2.mono (below_ext h fun c hc => (hW.apart c hc).1) (h.block _ (hW.lt b pl h1))⟩, fun c hc => ⟨Nat.lt_of_lt_of_le (hW.apart c hc).1 h.size, (hW.apart c hc).2⟩, hW.inj⟩
/-- a block that the call has made becomes one of the abstract heap -/
theorem below_new {w w' : World} {σ : Sig} {H : Heap} {b g : Nat} (hW : WRel w σ H) (hbl : Below w.heap.size w w') (hb : σ b = none) (hlt : b < H.next) (hg : w.heap.size ≤ g) {x : Blk} {cs : Array Value} {e : TypeId} (hgb : w'.heap[g]? = some (.cells cs e (0, 0)))
    (even : ∀ (i : Nat) (r : List AV), x.rows[i]? = some r → r.length = x.size) (room : x.rows.length * x.size ≤ cs.size)
    (rep : ∀ (i : Nat) (r : List AV) (j : Nat) (a : AV) (u : Value), x.rows[i]? = some r → r[j]? = some a → cs[i * x.size + j]? = some u → Rep w σ (Own σ H) a u) :
    WRel w' (σ.set b ⟨g, 0, x.size⟩) (H.new b x) ∧ Ext w σ (Own σ H) w' (σ.set b ⟨g, 0, x.size⟩) (Own (σ.set b ⟨g, 0, x.size⟩) (H.new b x)) := by
  have hnone : H.get b = none := by
    cases hg : H.get b with
    | none => rfl
    | some y => obtain ⟨pl, _, _, h1, _⟩ := hW.live b y hg; rw [hb] at h1; cases h1
  have hgl : g < w'.heap.size := (Array.getElem?_eq_some_iff.1 hgb).1
  have ext : Ext w σ (Own σ H) w' (σ.set b ⟨g, 0, x.size⟩) (Own (σ.set b ⟨g, 0, x.size⟩) (H.new b x)) := by
    refine ⟨hbl.os, hbl.tape, hbl.output, hbl.size, fun c hc _ => hbl.block c hc, fun c cs' e' hc => ⟨cs', by rw [hbl.block c (Array.getElem?_eq_some_iff.1 hc).1]; exact hc, rfl⟩, fun c q hq => Sig.set_old hb hq, rfl, fun c hc => hbl.block c (hW.apart c hc).1, ?_⟩
    rintro c (hfr | ⟨b', y, pl, h1, h2, h3⟩)
    · exact .inl (.inl hfr)
    rw [Heap.get_new] at h1
    by_cases hbb : b = b'
    · subst hbb
      rw [Sig.set_eq] at h2
      cases h2
      exact .inr (by simp only [] at h3; omega)
    · rw [if_neg hbb] at h1
      rw [Sig.set_ne _ _ hbb] at h2
      exact .inl (.inr ⟨b', y, pl, h1, h2, h3⟩)
  refine ⟨⟨?_, ?_, ?_, ?_, ?_⟩, ext⟩
  · intro c pl hc
    by_cases hbc : b = c
    · subst hbc; exact hlt
    · rw [Sig.set_ne _ _ hbc] at hc; exact hW.named c pl hc
  · intro c pl hc
    by_cases hbc : b = c
    · subst hbc; rw [Sig.set_eq] at hc; cases hc; exact hgl
    · rw [Sig.set_ne _ _ hbc] at hc; exact Nat.lt_of_lt_of_le (hW.lt c pl hc) hbl.size
  · intro c y hy
    rw [Heap.get_new] at hy
    by_cases hbc : b = c
    · subst hbc
      rw [if_pos rfl] at hy
      cases hy
      exact ⟨_, cs, e, Sig.set_eq _ _ _, ⟨rfl, hgb, even, by simpa using room, fun i r j a u h1 h2 h3 => (rep i r j a u h1 h2 (by simpa using h3)).mono ext⟩⟩
    · rw [if_neg hbc] at hy
      obtain ⟨pl, cs', e', h1, h2⟩ := hW.live c y hy
      exact ⟨pl, cs', e', by rw [Sig.set_ne _ _ hbc]; exact h1, h2.mono ext (hbl.block _ (hW.lt c pl h1))⟩
  · intro c hc
    refine ⟨Nat.lt_of_lt_of_le (hW.apart c hc).1 hbl.size, ?_⟩
    rintro ⟨b', y, pl, h1, h2, h3⟩
    rw [Heap.get_new] at h1
    by_cases hbb : b = b'
    · subst hbb
      rw [Sig.set_eq] at h2
      cases h2
      have := (hW.apart c hc).1
      simp only [] at h3; omega
    · rw [if_neg hbb] at h1
      rw [Sig.set_ne _ _ hbb] at h2
      exact (hW.apart c hc).2 ⟨b', y, pl, h1, h2, h3⟩
  · intro c c' y y' pl pl' h1 h2 h3 h4 h5
    rw [Heap.get_new] at h1 h2
    by_cases hbc : b = c
    · by_cases hbc' : b = c'
      · exact hbc.symm.trans hbc'
      · subst hbc
        rw [Sig.set_eq] at h3; cases h3
        rw [Sig.set_ne _ _ hbc'] at h4
        have := hW.lt c' pl' h4
        simp only [] at h5; omega
    · by_cases hbc' : b = c'
      · subst hbc'
        rw [Sig.set_eq] at h4; cases h4
        rw [Sig.set_ne _ _ hbc] at h3
        have := hW.lt c pl h3
        simp only [] at h5; omega
      · rw [if_neg hbc] at h1
        rw [if_neg hbc'] at h2
        rw [Sig.set_ne _ _ hbc] at h3
        rw [Sig.set_ne _ _ hbc'] at h4
        exact hW.inj c c' y y' pl pl' h1 h2 h3 h4 h5
theorem reps1 {w : World} {σ : Sig} {T : Nat → Prop} {a : AV} {vs : List Value} (h : Reps w σ T [a] vs) : ∃ v, vs = [v] ∧ Rep w σ T a v := by
  match vs, h with
  | [v], h => exact ⟨v, rfl, h.2 0 a v rfl rfl⟩
  | [], h => exact absurd h.1 (by simp)
  | _ :: _ :: _, h => exact absurd h.1 (by simp)
section
variable {P : Program} {f : FuncId} {e : TypeId} {size bytes : Nat}
/-- what slices.Clone does in the model -/
def ClonesM (P : Program) (f : FuncId) (e : TypeId) (size bytes : Nat) : Prop := ∀ (A : Option Addr) (n c : Nat) (xs : List Value) (w : World), Go.Proofs.Ytadjimfkfmojkaa.Flat w size A n xs → (∀ x ∈ xs, x.oneCell' = true) → n * bytes ≤ 140737488355328 → (A = none → n = 0) →
  Calls P f #[.slice A n c] w fun e' w' => ∃ v, e' = .returned v ∧ w'.ownsRow w.heap.size e size v n xs ∧ Below w.heap.size w w'
theorem clone_full (hcl : ClonesM P f e size bytes) (hbody : ∃ fn c, P.funcs[f]? = some fn ∧ fn.body = some c) (rows : List (List AV)) (hne : rows ≠ []) (hone : (rows.all fun r => r.all AV.one) = true) (hev : ∀ r ∈ rows, r.length = size) (hbig : rows.length * bytes ≤ 140737488355328) :
    CallA P f [.lst rows] [] fun v L => ∃ b, v = .sl b 0 rows.length ∧ L = [(b, ⟨size, rows⟩)] := by
  have hsz : ∀ (i : Nat) (r : List AV), rows[i]? = some r → r.length = size := fun i r hr => hev r (List.mem_of_getElem? hr)
  refine ⟨hbody, fun H hb hs => ⟨.sl H.next 0 rows.length, ({ H with next := H.next + 1 } : Heap).new H.next ⟨size, rows⟩, [(H.next, ⟨size, rows⟩)], ?_, ?_, H.next, rfl, rfl⟩⟩
  · intro w σ vs hW hvs
    obtain ⟨v, rfl, hv⟩ := reps1 hvs
    obtain ⟨A, cap, rfl, hn, hm, ha⟩ := hv.lst_inv
    obtain ⟨b, o, sz, rfl, hl, hrep⟩ := ha hne
    have hl0 : 0 < rows.length := List.length_pos_iff.2 hne
    obtain rfl : size = sz := by
      rw [← hl.even 0 rows[0] (List.getElem?_eq_getElem hl0)]
      exact (hsz 0 rows[0] (List.getElem?_eq_getElem hl0)).symm
    have hdm : ∀ p, p < rows.length * size → p / size < rows.length ∧ p % size < size ∧ p = p / size * size + p % size := fun p hp =>
      ⟨(Nat.div_lt_iff_lt_mul hl.pos).2 hp, Nat.mod_lt _ hl.pos, by rw [Nat.mul_comm]; exact (Nat.div_add_mod _ _).symm⟩
    let xs : List Value := (List.range (rows.length * size)).map fun p => (w.cell? ⟨b, o + p, none⟩).getD undef
    have hxl : xs.length = rows.length * size := by simp [xs]
    have hcell : ∀ p u, xs[p]? = some u → w.cell? ⟨b, o + p, none⟩ = some u := fun p u hu => by
      have hp : p < rows.length * size := by rw [← hxl]; exact lt_of_some hu
      simp only [xs, List.getElem?_map, List.getElem?_range hp, Option.map_some, Option.some.injEq] at hu
      obtain ⟨d1, d2, d3⟩ := hdm p hp
      obtain ⟨q, hq⟩ := hl.cell (p / size) (p % size) d1 d2
      rw [Nat.add_assoc, ← d3] at hq
      rw [hq] at hu ⊢
      simp only [Option.getD_some] at hu
      rw [hu]
    have hrp : ∀ (i : Nat) (r : List AV) (j : Nat) (a : AV) (u : Value), rows[i]? = some r → r[j]? = some a → xs[i * size + j]? = some u → Rep w σ (Own σ H) a u := fun i r j a u h1 h2 h3 => hrep i r j a u h1 h2 (by rw [Nat.add_assoc]; exact hcell _ u h3)
    have hone' : ∀ x ∈ xs, x.oneCell' = true := fun x hx => by
      obtain ⟨p, hp, rfl⟩ := List.getElem_of_mem hx
      have hp' : p < rows.length * size := by omega
      obtain ⟨d1, d2, d3⟩ := hdm p hp'
      have hr : rows[p / size]? = some rows[p / size] := List.getElem?_eq_getElem d1
      have hj : p % size < rows[p / size].length := by rw [hsz _ _ hr]; exact d2
      have h1 := hrp (p / size) _ (p % size) _ xs[p] hr (List.getElem?_eq_getElem hj) (by rw [← d3]; exact List.getElem?_eq_getElem hp)
      exact h1.one (List.all_eq_true.1 (List.all_eq_true.1 hone _ (List.getElem_mem d1)) _ (List.getElem_mem hj))
    refine (hcl (some ⟨b, o, none⟩) rows.length cap xs w ⟨hxl, fun _ => ⟨b, o, rfl, hcell⟩⟩ hone' hbig (fun h => by cases h)).mono ?_
    rintro e' w' ⟨v', rfl, hown, hbl⟩
    rcases hown.2 with ⟨_, h0⟩ | ⟨g, cap', cur, rfl, hg, hgb, hnc, hcm, hcs, ht⟩
    · omega
    have hσ : σ H.next = none := by
      cases hq : σ H.next with
      | none => rfl
      | some pl => exact absurd (hW.named _ pl hq) (Nat.lt_irrefl _)
    have hW1 : WRel w σ { H with next := H.next + 1 } := hW.congr (fun _ => rfl) (Nat.le_succ _)
    have hOwn : Own σ ({ H with next := H.next + 1 } : Heap) = Own σ H := Own.congr fun _ => rfl
    have hle : rows.length * size ≤ cur.size := by rw [hcs]; exact Nat.mul_le_mul_right _ hnc
    obtain ⟨g1, g2⟩ := below_new (b := H.next) (g := g) (x := ⟨size, rows⟩) hW1 hbl hσ (Nat.lt_succ_self _) hg hgb hsz hle (fun i r j a u h1 h2 h3 => by
      rw [hOwn]
      refine hrp i r j a u h1 h2 ?_
      have hj : j < size := by rw [← hsz i r h1]; exact lt_of_some h2
      rw [← ht, List.getElem?_take_of_lt (lt_mul (lt_of_some h1) hj), Array.getElem?_toList]
      exact h3)
    refine ⟨_, _, rfl, ?_, g1, by rw [hOwn] at g2; exact g2, fun c pl hc => ?_⟩
    · refine Rep.sl H.next 0 rows.length ⟨g, 0, size⟩ ⟨g, 0, none⟩ cap' (Sig.set_eq _ _ _) hnc hcm fun _ => ⟨by simp, cur, e, hgb, by simp; omega⟩
    · by_cases hbc : H.next = c
      · subst hbc; exact .inr (Nat.le_refl _)
      · rw [Sig.set_ne _ _ hbc] at hc; exact .inl hc
  · refine ⟨Nat.le_succ _, fun c hc => ?_, ⟨by simp, fun p hp => ?_⟩, fun c x hc _ => ⟨?_, ?_⟩, fun c hc h0 => ?_, fun c hc hlt => ?_⟩
    · have hc : H.next + 1 ≤ c := hc
      rw [Heap.get_new, if_neg (by omega)]; exact hb c (by omega)
    · simp only [List.mem_singleton] at hp; subst hp; rw [Heap.get_new, if_pos rfl]
    · rw [Heap.get_new, if_neg]; exact hc
      rintro rfl; rw [hb _ (Nat.le_refl _)] at hc; cases hc
    · simp only [List.map_cons, List.map_nil, List.mem_singleton]; rintro rfl; rw [hb _ (Nat.le_refl _)] at hc; cases hc
    · rw [Heap.get_new, if_neg (by omega)]; exact h0
    · simp only [List.map_cons, List.map_nil, List.mem_singleton] at hc; omega
/-- of an empty list, as it reads -/
theorem clone_none (hcl : ClonesM P f e size bytes) (hbody : ∃ fn c, P.funcs[f]? = some fn ∧ fn.body = some c) : CallA P f [.lst []] [] fun v L => v = .lst [] ∧ L = [] := by
  refine ⟨hbody, fun H hb hs => ⟨.lst [], H, [], ?_, .refl hb hs, rfl, rfl⟩⟩
  intro w σ vs hW hvs
  obtain ⟨v, rfl, hv⟩ := reps1 hvs
  obtain ⟨A, cap, rfl, hn, hm, _⟩ := hv.lst_inv
  refine (hcl A 0 cap [] w ⟨by simp, by omega⟩ (by simp) (by omega) (fun _ => rfl)).mono ?_
  rintro e' w' ⟨v', rfl, hown, hbl⟩
  refine ⟨v', σ, rfl, ?_, below_rel hW hbl, below_ext hbl fun c hc => (hW.apart c hc).1, fun c pl hc => .inl hc⟩
  rcases hown.2 with ⟨rfl, _⟩ | ⟨g, cap', cur, rfl, hg, hgb, hnc, hcm, hcs, ht⟩
  · exact .lst0 _ _ (by unfold maxLen; omega)
  · exact .lst0 _ _ hcm
/-- of an empty list, with no room -/
theorem clone_zero (hcl : ∀ (A : Option Addr) (c : Nat) (w : World), Calls P f #[.slice A 0 c] w fun e' w' => ∃ B, e' = .returned (.slice B 0 0) ∧ Below w.heap.size w w') (hbody : ∃ fn c, P.funcs[f]? = some fn ∧ fn.body = some c) : CallA P f [.lst []] [] fun v L => v = .emp ∧ L = [] := by
  refine ⟨hbody, fun H hb hs => ⟨.emp, H, [], ?_, .refl hb hs, rfl, rfl⟩⟩
  intro w σ vs hW hvs
  obtain ⟨v, rfl, hv⟩ := reps1 hvs
  obtain ⟨A, cap, rfl, hn, hm, _⟩ := hv.lst_inv
  refine (hcl A cap w).mono ?_
  rintro e' w' ⟨B, rfl, hbl⟩
  exact ⟨_, σ, rfl, .emp B, below_rel hW hbl, below_ext hbl fun c hc => (hW.apart c hc).1, fun c pl hc => .inl hc⟩
end
end Go.Proofs.Ytadjimfkfmojkaa.Am

end
section
namespace Go.Proofs
open Go.Shelf
def Try.lays189_ren : Go.Shelf.Ren := ⟨fun | 189 => 40 | 125 => 66 | 257 => 65 | 128 => 90 | 129 => 91 | 294 => 81 | 295 => 82 | 296 => 83 | 297 => 84 | 298 => 85 | 299 => 86 | 216 => 87 | 300 => 88 | 301 => 89 | 328 => 94 | 329 => 95 | 330 => 96 | 331 => 97 | 332 => 98 | 215 => 99 | 343 => 100 | n => n, fun | 28 => 22 | 3 => 3 | 46 => 113 | 0 => 0 | 51 => 134 | 53 => 136 | 4 => 4 | 183 => 127 | 182 => 126 | 131 => 131 | 5 => 5 | 9 => 9 | 218 => 138 | 222 => 142 | 228 => 144 | 229 => 145 | n => n, fun | n => n⟩
theorem Try.lays189 : Go.Proofs.Lays.n189 Try.prog Try.lays189_ren := {
  mixed := by kernel_rfl
  f125 := Try.func66.trans (congrArg some (by kernel_rfl))
  f128 := Try.func90.trans (congrArg some (by kernel_rfl))
  f129 := Try.func91.trans (congrArg some (by kernel_rfl))
  f189 := Try.func40.trans (congrArg some (by kernel_rfl))
  f215 := Try.func99.trans (congrArg some (by kernel_rfl))
  f216 := Try.func87.trans (congrArg some (by kernel_rfl))
  f257 := Try.func65.trans (congrArg some (by kernel_rfl))
  f294 := Try.func81.trans (congrArg some (by kernel_rfl))
  f295 := Try.func82.trans (congrArg some (by kernel_rfl))
  f296 := Try.func83.trans (congrArg some (by kernel_rfl))
  f297 := Try.func84.trans (congrArg some (by kernel_rfl))
  f298 := Try.func85.trans (congrArg some (by kernel_rfl))
  f299 := Try.func86.trans (congrArg some (by kernel_rfl))
  f300 := Try.func88.trans (congrArg some (by kernel_rfl))
  f301 := Try.func89.trans (congrArg some (by kernel_rfl))
  f328 := Try.func94.trans (congrArg some (by kernel_rfl))
  f329 := Try.func95.trans (congrArg some (by kernel_rfl))
  f330 := Try.func96.trans (congrArg some (by kernel_rfl))
  f331 := Try.func97.trans (congrArg some (by kernel_rfl))
  f332 := Try.func98.trans (congrArg some (by kernel_rfl))
  f343 := Try.func100.trans (congrArg some (by kernel_rfl))
  t0 := Try.underlying0
  a0 := Try.isAgg0
  z0 := Try.sizeOf0
  v0 := Try.zeroValue0
  t3 := Try.underlying3
  a3 := Try.isAgg3
  z3 := Try.sizeOf3
  v3 := Try.zeroValue3
  t4 := Try.underlying4
  a4 := Try.isAgg4
  z4 := Try.sizeOf4
  v4 := Try.zeroValue4
  t5 := Try.underlying5
  a5 := Try.isAgg5
  z5 := Try.sizeOf5
  v5 := Try.zeroValue5
  t9 := Try.underlying9
  a9 := Try.isAgg9
  z9 := Try.sizeOf9
  v9 := Try.zeroValue9
  t28 := Try.underlying22
  a28 := Try.isAgg22
  z28 := Try.sizeOf22
  v28 := Try.zeroValue22
  t46 := Try.underlying113
  a46 := Try.isAgg113
  z46 := Try.sizeOf113
  v46 := Try.zeroValue113
  t51 := Try.underlying134
  a51 := Try.isAgg134
  z51 := Try.sizeOf134
  v51 := Try.zeroValue134
  t53 := Try.underlying136
  a53 := Try.isAgg136
  z53 := Try.sizeOf136
  v53 := Try.zeroValue136
  t131 := Try.underlying131
  a131 := Try.isAgg131
  z131 := Try.sizeOf131
  v131 := Try.zeroValue131
  t182 := Try.underlying126
  a182 := Try.isAgg126
  z182 := Try.sizeOf126
  v182 := Try.zeroValue126
  t183 := Try.underlying127
  a183 := Try.isAgg127
  z183 := Try.sizeOf127
  v183 := Try.zeroValue127
  t218 := Try.underlying138
  a218 := Try.isAgg138
  z218 := Try.sizeOf138
  v218 := Try.zeroValue138
  t222 := Try.underlying142
  a222 := Try.isAgg142
  z222 := Try.sizeOf142
  v222 := Try.zeroValue142
  t228 := Try.underlying144
  a228 := Try.isAgg144
  z228 := Try.sizeOf144
  v228 := Try.zeroValue144
  t229 := Try.underlying145
  a229 := Try.isAgg145
  z229 := Try.sizeOf145
  v229 := Try.zeroValue145 }
open Go.Sort Go.RowKit in
theorem Try.slices_Sort_int (blk off cap : Nat) (zs : List Int) (w : World) (hH : Holds (Value.int .i64) w blk off zs.toArray) (hblk : blk < w.heap.size) (hsz : zs.length < 4611686018427387904) :
    Calls Try.prog 40 #[.slice (some ⟨blk, off, none⟩) zs.length cap] w fun e w' =>
      e = .returned (.tuple #[]) ∧ ∃ n os, w' = grow (putRow (Value.int .i64) (Sort.ahead w n) blk off (zs.mergeSort fun x y => decide (x ≤ y)).toArray) os := Any.slices_Sort_int Try.lays189 blk off cap zs w hH hblk hsz
def Try.laysNm220_ren : Go.Shelf.Ren := ⟨fun | 20 => 41 | n => n, fun | 22 => 22 | 3 => 3 | 4 => 4 | 0 => 0 | n => n, fun | n => n⟩
theorem Try.laysNm220 : Go.Proofs.Lays2.n20 Try.prog Try.laysNm220_ren := {
  mixed := by kernel_rfl
  f20 := Try.func41.trans (congrArg some (by kernel_rfl))
  t0 := Try.underlying0
  a0 := Try.isAgg0
  z0 := Try.sizeOf0
  v0 := Try.zeroValue0
  t3 := Try.underlying3
  a3 := Try.isAgg3
  z3 := Try.sizeOf3
  v3 := Try.zeroValue3
  t4 := Try.underlying4
  a4 := Try.isAgg4
  z4 := Try.sizeOf4
  v4 := Try.zeroValue4
  t22 := Try.underlying22
  a22 := Try.isAgg22
  z22 := Try.sizeOf22
  v22 := Try.zeroValue22
  i3 := by kernel_rfl }
open Go.RowKit Go.Lib Go.Sort in
/-- slices.Compact at []int: "Compact replaces consecutive runs of equal elements with a single copy. This is like the uniq command found on Unix. Compact modifies the contents of the slice s and returns the modified slice, which may have a smaller length. Compact zeroes the elements between the new length and the original length. The result preserves the nilness of s.": IT RETURNS THE SLICE CUT TO 'Lib.compact zs'; ITS CELLS HOLD 'Lib.compact zs', THEN ZERO VALUES up to the old length; all else is as it was, but for the count of draws. IN THE WORDS OF slices.Sort's CONTRACT ('Holds', 'putRow'): so the everyday 'slices.Sort(xs); xs = slices.Compact(xs)' goes from the one contract to the other. It asks 'zs.length ≤ cap' (every slice's: the reslicing 's[:k]' looks at it). Length 0, nil: '.._empty'. (LAID: no walk: one application.) -/
theorem Try.slices_Compact_int (blk off cap : Nat) (zs : List Int) (w : World) (hH : Holds (Value.int .i64) w blk off zs.toArray) (hsz : zs.length ≤ 9223372036854775807) (hcap : zs.length ≤ cap) :
    Calls Try.prog 41 #[.slice (some ⟨blk, off, none⟩) zs.length cap] w fun e w' => e = .returned (.slice (some ⟨blk, off, none⟩) (Lib.compact zs).length cap) ∧ ∃ q, w' = putRow (Value.int .i64) (Sort.ahead w q) blk off (Lib.compact zs ++ List.replicate (zs.length - (Lib.compact zs).length) 0).toArray := Any.slices_Compact_int Try.laysNm220 blk off cap zs w hH hsz hcap
open Go.RowKit Go.Lib Go.Sort in
/-- The same at a slice of length 0, a nil one too: it comes back as it is. (LAID: no walk: one application.) -/
theorem Try.slices_Compact_int_empty (a : Option Addr) (cap : Nat) (w : World) :
    Calls Try.prog 41 #[.slice a 0 cap] w fun e w' => e = .returned (.slice a 0 cap) ∧ w' = w := Any.slices_Compact_int_empty Try.laysNm220 a cap w
open Go.RowKit Go.Sort in
/-- .. and plain. (LAID: no walk: one application.) -/
theorem Try.slices_Sort_int_none (p : Option Addr) (cap : Nat) (w : World) :
    Calls Try.prog 40 #[.slice p 0 cap] w fun e w' => e = .returned (.tuple #[]) ∧ w' = w := Any.slices_Sort_int_none Try.lays189 p cap w
end Go.Proofs

end
section
namespace Go.Proofs.Ytadjimfkfmojkaa
open Go.ChangeShapes Go.WideShapes Go.ChangeAt Go.RowKit
set_option linter.unusedVariables false
set_option maxRecDepth 100000
theorem append_zero (t ty e : TypeId) (P : Program) (w : World) (ht : P.underlying t = some (.slice e)) (hi : ∃ i, P.info? e = some i) (A B : Option Addr) (c : Nat) : (Builtin.append_ #[t, t] ty #[.slice A 0 0, .slice B 0 c]).run P w = .ok (.slice A 0 0) w := by
  obtain ⟨i, hi⟩ := hi
  cases A <;> cases B <;> simp [Builtin.append_, run_underlying ht, sizeOf, typeInfo, hi, Builtin.lenOf, Builtin.firstCells, loadCells, loadCellsFrom, storeCells]
theorem cloneI_zero (A : Option Addr) (c : Nat) (w : World) : Calls Try.prog 68 #[.slice A 0 c] w fun e w' => ∃ B, e = .returned (.slice B 0 0) ∧ Below w.heap.size w w' := by
  have heq := fun (W : World) (a : Option Addr) (l c : Nat) => Lib.run_eql_slice_nil (P := Try.prog) W 22 3 a l c 0 0 Try.underlying22
  cases A with
  | none =>
    go_enter Try.func68, Try.ntmps68
    go_wp2_with fail
    go_ret
    exact ⟨_, rfl, Below.refl _ _⟩
  | some a =>
    have hinf : ∃ i, Try.prog.info? 3 = some i := Option.isSome_iff_exists.1 (show (Try.prog.info? 3).isSome = true by kernel_rfl)
    have happ := fun (W : World) (ty : TypeId) (A B : Option Addr) => append_zero 22 ty 3 Try.prog W Try.underlying22 hinf A B c
    go_enter Try.func68, Try.ntmps68
    go_wp2_with fail
    go_ret
    exact ⟨_, rfl, (Below.refl _ _).alloc (Nat.le_refl _) _⟩
end Go.Proofs.Ytadjimfkfmojkaa

end
section
namespace Go.Proofs.Ytadjimfkfmojkaa.Am
open Go.RowKit Go.Sort
set_option linter.unusedVariables false
def srt (l : List Int) : List Int := l.mergeSort fun x y => decide (x ≤ y)
theorem srt_len (l : List Int) : (srt l).length = l.length := by simp [srt]
theorem map_rows {xs : List Int} {i : Nat} {r : List AV} (h : (xs.map intE)[i]? = some r) : ∃ x, xs[i]? = some x ∧ r = [.int .i64 x] := by
  rw [List.getElem?_map] at h
  cases hx : xs[i]? with
  | none => rw [hx] at h; cases h
  | some x => rw [hx] at h; cases h; exact ⟨x, rfl, rfl⟩
/-- a function that writes the numbers of a slice anew -/
theorem row_conv {P : Program} {f : FuncId} (hbody : ∃ fn c, P.funcs[f]? = some fn ∧ fn.body = some c) (b : Nat) (xs ys : List Int) (hlen : ys.length = xs.length) (v : AV) (ret : Addr → Nat → Value)
    (hrep : ∀ (w' : World) (σ : Sig) (T : Nat → Prop) (pl : Place) (a : Addr) (cap : Nat), σ b = some pl → xs.length ≤ cap → cap ≤ maxLen → (0 < cap → a = ⟨pl.block, pl.base + 0 * pl.size, none⟩ ∧ ∃ cs e, w'.heap[pl.block]? = some (.cells cs e (0, 0)) ∧ pl.base + (0 + cap) * pl.size ≤ cs.size) → Rep w' σ T v (ret a cap))
    (hpos : ∀ (blk off cap : Nat) (w : World), Holds (Value.int .i64) w blk off xs.toArray → blk < w.heap.size → xs.length ≤ cap → Calls P f #[.slice (some ⟨blk, off, none⟩) xs.length cap] w fun e w' => e = .returned (ret ⟨blk, off, none⟩ cap) ∧ ∃ n os, w' = grow (putRow (Value.int .i64) (Sort.ahead w n) blk off ys.toArray) os)
    (hzero : xs.length = 0 → ∀ (a : Addr) (cap : Nat) (w : World), Calls P f #[.slice (some a) 0 cap] w fun e w' => e = .returned (ret a cap) ∧ w' = w) :
    CallA P f [.sl b 0 xs.length] [(b, ⟨1, xs.map intE⟩)] fun u L => u = v ∧ L = [(b, ⟨1, ys.map intE⟩)] := by
  refine ⟨hbody, fun H hb hs => ⟨v, H.put b (some ⟨1, ys.map intE⟩), [(b, ⟨1, ys.map intE⟩)], ?_, ?_, rfl, rfl⟩⟩
  · intro w σ vs hW hvs
    obtain ⟨v, rfl, hv⟩ := reps1 hvs
    obtain ⟨pl, a, cap, rfl, hsg, hnc, hmx, ha⟩ := hv.sl_inv
    have hg : H.get b = some ⟨1, xs.map intE⟩ := hs.get (b, ⟨1, xs.map intE⟩) (by simp)
    obtain ⟨pl', cs, e, g1, g2⟩ := hW.live b _ hg
    rw [hsg] at g1
    cases g1
    have hsz : pl.size = 1 := g2.size
    rcases Nat.eq_zero_or_pos xs.length with h0 | h0
    · have hx : xs = [] := List.length_eq_zero_iff.1 h0
      have hy : ys = [] := List.length_eq_zero_iff.1 (by omega)
      have hz := hzero h0 a cap w
      rw [h0]
      refine hz.mono ?_
      rintro e' w' ⟨rfl, rfl⟩
      have hput := hW.put hg hsg (Wrote.refl g2.block) (x' := ⟨1, ys.map intE⟩) g2.size.symm (by simp [hy]) (by simpa [hy, hx] using g2.room) (by simp [hy])
      exact ⟨_, σ, rfl, hrep _ _ _ pl a cap hsg hnc hmx ha, hput.1, hput.2, fun c pl hc => .inl hc⟩
    · have ha' := ha
      obtain ⟨rfl, cs', te, hcs', hroom⟩ := ha (by omega)
      rw [g2.block] at hcs'
      cases hcs'
      have hr := g2.room
      simp only [List.length_map, Nat.mul_one] at hr
      have hcell : ∀ (i : Nat) (x : Int), xs[i]? = some x → cs[pl.base + i]? = some (.int .i64 x) := fun i x hx => by
        have hi := lt_of_some hx
        have hi' : pl.base + i < cs.size := by omega
        have := g2.rep i [.int .i64 x] 0 (.int .i64 x) cs[pl.base + i] (by simp [hx, intE]) rfl (by simp [Array.getElem?_eq_getElem hi'])
        cases hq : cs[pl.base + i] with
        | _ => rw [hq] at this; cases this <;> rw [Array.getElem?_eq_getElem hi', hq]
      have hH : Holds (Value.int .i64) w pl.block (pl.base + 0 * pl.size) xs.toArray := fun j hj => by
        have hj' : j < xs.length := by simpa using hj
        refine ⟨?_, by simp [World.frozen?, g2.block]⟩
        have := hcell j xs[j] (List.getElem?_eq_getElem hj')
        simp [World.cell?, g2.block, this, hj']
      refine (hpos pl.block (pl.base + 0 * pl.size) cap w hH (hW.lt b pl hsg) hnc).mono ?_
      rintro e' w' ⟨rfl, n, os, rfl⟩
      have hz : pl.base + 0 * pl.size = pl.base := by omega
      rw [show putRow (Value.int .i64) (Sort.ahead w n) pl.block (pl.base + 0 * pl.size) ys.toArray = putRow (Value.int .i64) (Sort.ahead w n) pl.block pl.base ys.toArray by rw [hz]]
      have hw : Wrote w (putRow (Value.int .i64) (Sort.ahead w n) pl.block pl.base ys.toArray) pl.block cs (putCells (Value.int .i64) pl.base ys.toArray cs) e :=
        ⟨rfl, rfl, rfl, by simp [Sort.ahead], g2.block, by simp [putRow, mapBlock, Sort.ahead, Array.getElem?_modify, g2.block, onCells], by simp [putCells], fun d hd => by
          have : pl.block ≠ d := fun e => hd e.symm
          simp [putRow, mapBlock, Sort.ahead, Array.getElem?_modify, this]⟩
      obtain ⟨p1, p2⟩ := hW.put hg hsg hw (x' := ⟨1, ys.map intE⟩) g2.size.symm (fun i r hr => by obtain ⟨x, _, rfl⟩ := map_rows hr; rfl) (by simp only [List.length_map, Nat.mul_one]; omega) (fun i r j a u hr hj hu => by
        obtain ⟨x, hx, rfl⟩ := map_rows hr
        match j, hj with
        | 0, hj =>
          cases hj
          have hi := lt_of_some hx
          have hi' : pl.base + i < cs.size := by omega
          simp only [Nat.mul_one, Nat.add_zero] at hu
          have : (putCells (Value.int .i64) pl.base ys.toArray cs)[pl.base + i]? = some (.int .i64 x) := by
            have hx' : ys[i] = x := by rw [List.getElem?_eq_getElem hi] at hx; exact Option.some.inj hx
            simp [putCells, hi', hi, hx']
          rw [this] at hu
          cases hu
          exact .int _ _
        | j + 1, hj => simp at hj)
      generalize hw1 : putRow (Value.int .i64) (Sort.ahead w n) pl.block pl.base ys.toArray = w1 at p1 p2
      have hbl : Below w1.heap.size w1 (grow w1 os) := ⟨rfl, rfl, rfl, by simp [grow], fun k hk => heap_grow_old _ _ hk⟩
      have hE := p2.trans (below_ext hbl fun c hc => (p1.apart c hc).1)
      exact ⟨_, σ, rfl, hrep _ _ _ pl _ cap hsg hnc hmx (fun h => ⟨rfl, by obtain ⟨cs2, k1, k2⟩ := hE.shape _ _ _ g2.block; exact ⟨cs2, _, k1, by omega⟩⟩), below_rel p1 hbl, p2.trans (below_ext hbl fun c hc => (p1.apart c hc).1), fun c pl hc => .inl hc⟩
  · have hg : H.get b = some ⟨1, xs.map intE⟩ := hs.get (b, ⟨1, xs.map intE⟩) (by simp)
    refine ⟨Nat.le_refl _, fun c hc => ?_, ⟨by simp, fun p hp => ?_⟩, fun c x hc hn => ⟨?_, ?_⟩, fun c hc h0 => ?_, fun c hc hlt => ?_⟩
    · rw [Heap.get_put, if_neg]; exact hb c hc
      rintro rfl; rw [hb _ hc] at hg; cases hg
    · simp only [List.mem_singleton] at hp; subst hp; rw [Heap.get_put, if_pos rfl]
    · rw [Heap.get_put, if_neg]; exact hc
      rintro rfl; exact hn (by simp)
    · simpa using hn
    · rw [Heap.get_put, if_neg]; exact h0
      rintro rfl; rw [hg] at h0; cases h0
    · simpa using hc
theorem sort_ok (b : Nat) (xs : List Int) (hl : xs.length < 4611686018427387904) : CallA Try.prog 40 [.sl b 0 xs.length] [(b, ⟨1, xs.map intE⟩)] fun v L => v = .tup [] ∧ L = [(b, ⟨1, (srt xs).map intE⟩)] :=
  row_conv ⟨_, _, Try.func40, rfl⟩ b xs (srt xs) (srt_len xs) (.tup []) (fun _ _ => .tuple #[]) (fun _ _ _ _ _ _ _ _ _ _ => .tup [] [] rfl (by simp))
    (fun blk off cap w hH hblk _ => Try.slices_Sort_int blk off cap xs w hH hblk hl) (fun _ a cap w => Try.slices_Sort_int_none (some a) cap w)
theorem compact_len (l : List Int) : (Lib.compact l).length ≤ l.length := by
  unfold Lib.compact Lib.compactUpTo
  rw [List.length_map]
  exact Nat.le_trans (List.length_filter_le _ _) (by simp)
theorem compact_ok (b : Nat) (xs : List Int) (hl : xs.length ≤ 9223372036854775807) : CallA Try.prog 41 [.sl b 0 xs.length] [(b, ⟨1, xs.map intE⟩)] fun v L => v = .sl b 0 (Lib.compact xs).length ∧ L = [(b, ⟨1, (Lib.compact xs ++ List.replicate (xs.length - (Lib.compact xs).length) 0).map intE⟩)] :=
  row_conv ⟨_, _, Try.func41, rfl⟩ b xs _ (by have := compact_len xs; simp; omega) (.sl b 0 (Lib.compact xs).length) (fun a cap => .slice (some a) (Lib.compact xs).length cap)
    (fun w' σ T pl a cap h1 h2 h3 h4 => .sl b 0 _ pl a cap h1 (Nat.le_trans (compact_len xs) h2) h3 h4)
    (fun blk off cap w hH hblk hcap => (Try.slices_Compact_int blk off cap xs w hH hl hcap).mono fun e w' ⟨h1, q, h2⟩ => ⟨h1, q, #[], by rw [h2, grow_empty]⟩)
    (fun h0 a cap w => by
      have hx : xs = [] := List.length_eq_zero_iff.1 h0
      subst hx
      exact Try.slices_Compact_int_empty (some a) cap w)
/-- Clone of a list of numbers: in a block of its own -/
theorem cloneI_ok (xs : List Int) (hl : xs.length * 8 ≤ 140737488355328) : CallA Try.prog 68 [.lst (xs.map intE)] [] fun v L => ∃ o, v = slotV o xs.length ∧ L = slotB o 1 (xs.map intE) ∧ (o = none → xs = []) := by
  rcases List.eq_nil_or_concat xs with rfl | ⟨ys, y, hxs⟩
  · exact (clone_zero cloneI_zero ⟨_, _, Try.func68, rfl⟩).mono fun v L ⟨h1, h2⟩ => ⟨none, h1, h2, fun _ => rfl⟩
  · have hne : xs.map intE ≠ [] := by rw [hxs]; simp
    refine (clone_full (fun A n c xs w hf h1 hn hA => cloneI_any A n c xs w hf h1 hn hA) ⟨_, _, Try.func68, rfl⟩ (xs.map intE) hne (by simp [intE, AV.one]) (fun r hr => by obtain ⟨x, _, rfl⟩ := List.mem_map.1 hr; rfl) (by simpa using hl)).mono ?_
    rintro v L ⟨b, rfl, rfl⟩
    exact ⟨some b, by simp [slotV], rfl, fun h => by cases h⟩
/-- a slice in a block of its own; an empty one as it reads -/
def slotL : Option Nat → Nat → AV
  | none, _ => .lst []
  | some b, n => .sl b 0 n
theorem clone_any {P : Program} {f : FuncId} {e : TypeId} {size bytes : Nat} (hcl : ClonesM P f e size bytes) (hbody : ∃ fn c, P.funcs[f]? = some fn ∧ fn.body = some c) (rows : List (List AV)) (hone : (rows.all fun r => r.all AV.one) = true) (hev : ∀ r ∈ rows, r.length = size) (hbig : rows.length * bytes ≤ 140737488355328) :
    CallA P f [.lst rows] [] fun v L => ∃ o, v = slotL o rows.length ∧ L = slotB o size rows ∧ (o = none → rows = []) := by
  rcases List.eq_nil_or_concat rows with rfl | ⟨ys, y, hxs⟩
  · exact (clone_none hcl hbody).mono fun v L ⟨h1, h2⟩ => ⟨none, h1, h2, fun _ => rfl⟩
  · refine (clone_full hcl hbody rows (by rw [hxs]; simp) hone hev hbig).mono ?_
    rintro v L ⟨b, rfl, rfl⟩
    exact ⟨some b, rfl, rfl, fun h => by cases h⟩
theorem cloneB_ok (xs : List Bool) (hl : xs.length ≤ 140737488355328) : CallA Try.prog 76 [.lst (xs.map boolE)] [] fun v L => ∃ o, v = slotL o xs.length ∧ L = slotB o 1 (xs.map boolE) ∧ (o = none → xs = []) := by
  refine (clone_any (fun A n c xs w hf h1 hn hA => cloneB_any A n c xs w hf h1 hn hA) ⟨_, _, Try.func76, rfl⟩ (xs.map boolE) (by simp [boolE, AV.one]) (fun r hr => by obtain ⟨x, _, rfl⟩ := List.mem_map.1 hr; rfl) (by simpa using hl)).mono ?_
  rintro v L ⟨o, rfl, rfl, h⟩
  exact ⟨o, by simp, rfl, fun e => by simpa using h e⟩
theorem cloneT_ok (xs : List ThrD) (hl : xs.length * 24 ≤ 140737488355328) : CallA Try.prog 77 [.lst (xs.map ThrD.enc)] [] fun v L => ∃ o, v = slotL o xs.length ∧ L = slotB o 3 (xs.map ThrD.enc) ∧ (o = none → xs = []) := by
  refine (clone_any (fun A n c xs w hf h1 hn hA => cloneT_any A n c xs w hf h1 hn hA) ⟨_, _, Try.func77, rfl⟩ (xs.map ThrD.enc) (by simp [ThrD.enc, AV.one]) (fun r hr => by obtain ⟨x, _, rfl⟩ := List.mem_map.1 hr; rfl) (by simpa using hl)).mono ?_
  rintro v L ⟨o, rfl, rfl, h⟩
  exact ⟨o, by simp, rfl, fun e => by simpa using h e⟩
end Go.Proofs.Ytadjimfkfmojkaa.Am

end
section
namespace Go.Proofs.Ytadjimfkfmojkaa.Am
set_option maxRecDepth 100000
set_option linter.unusedSimpArgs false
set_option linter.unusedVariables false
/-- a call that is handed nothing and gives blocks -/
theorem dcall_new {P : Program} {KN : AV → SH → List Nat → Prop} {us : List W.WR} {i : Nat} {g : FuncId} {cs args : List AV} {L : SH} {R : AV → SH → Prop} (h : CallA P g (args ++ cs) [] R) (hf : ∀ x ∈ us, W.free x ⟨i, [], [], [], true, []⟩) (hk : ∀ v K, R v K → KN v (K ++ L) []) : W.dcall P us i (.fn g cs) args L KN :=
  ⟨[], L, .refl _, hf, h.mono fun u K hu => hk u K hu⟩
/-- the row of a lock; q: the lock whose readers lie in a block of their own -/
def lockR (q : Nat) (o : Option Nat) (j : Nat) (l : LockD) : List AV := if j = q then [.int .i64 l.owner, slotV o l.readers.length] else l.enc
def lockRows (q : Nat) (o : Option Nat) (ls : List LockD) : List (List AV) := ls.zipIdx.map fun p => lockR q o p.2 p.1
theorem lockRows_len (q : Nat) (o : Option Nat) (ls : List LockD) : (lockRows q o ls).length = ls.length := by simp [lockRows]
theorem lockRows_at (q : Nat) (o : Option Nat) (ls : List LockD) (j : Nat) (hj : j < ls.length) : (lockRows q o ls)[j]? = some (lockR q o j ls[j]) := by simp [lockRows, hj]
/-- the block of the readers of lock q, if it has been copied already -/
def rdB (q : Nat) (o : Option Nat) (ls : List LockD) (k : Nat) : SH := if q < k then slotB o 1 ((ls.getD q default).readers.map intE) else []
def zeroLock : List AV := [.int .i64 0, .nils]
theorem Fr.perm {B : Nat} {L L' L'' : SH} {H H' : Heap} (h : Fr B L H L' H') (hp : L'.Perm L'') : Fr B L H L'' H' :=
  ⟨h.next, h.bd, h.sub.perm hp, fun b x h1 h2 => ⟨(h.keep b x h1 h2).1, fun hm => (h.keep b x h1 h2).2 ((hp.map Prod.fst).mem_iff.2 hm)⟩, h.dom, fun b hb hlt => h.fresh b ((hp.map Prod.fst).mem_iff.2 hb) hlt⟩
theorem CallA.perm {P : Program} {f : FuncId} {args : List AV} {L : SH} {Q : AV → SH → Prop} (h : CallA P f args L fun v L' => ∃ L'', L'.Perm L'' ∧ Q v L'') : CallA P f args L Q := ⟨h.1, fun H hb hs => by
  obtain ⟨v, H', L', h1, h2, L'', hp, h3⟩ := h.2 H hb hs
  exact ⟨v, H', L'', h1, h2.perm hp, h3⟩⟩
/-- a call that is handed nothing and gives blocks, which are put behind the others -/
theorem call_back {P : Program} {KL : AV → SH → Prop} {g : FuncId} {cs args : List AV} {L : SH} {R : AV → SH → Prop} (h : CallA P g (args ++ cs) [] R) (hk : ∀ v K, R v K → KL v (L ++ K)) : W.call P (.fn g cs) args L KL :=
  ⟨.perm (h.frame (K := []) (R := L) (.refl _) fun u K hu => ⟨L ++ K, List.perm_append_comm, hk u K hu⟩)⟩
theorem FzL.refl (K : SH) : ∀ l : List AV, FzL K l l
  | [] => .nil
  | a :: l => .cons (.refl a) (FzL.refl K l)
/-- the rows of a block are read anew -/
theorem FzS.row {vs : List AV} {L K R : SH} {b n : Nat} {rows rows' : List (List AV)} (hL : L.Perm (K ++ (b, ⟨n, rows⟩) :: R)) (hlen : rows.length = rows'.length) (hr : ∀ (j : Nat) (r r' : List AV), rows[j]? = some r → rows'[j]? = some r' → FzL K r r') : FzS vs L vs ((b, ⟨n, rows'⟩) :: R) := by
  refine ⟨K, (b, ⟨n, rows⟩) :: R, hL, ⟨rfl, fun i a a2 h1 h2 => by rw [h1] at h2; cases h2; exact .refl _⟩, rfl, fun i p q h1 h2 => ?_⟩
  match i with
  | 0 =>
    cases h1; cases h2
    exact ⟨rfl, rfl, hlen, fun j s s2 g1 g2 => (hr j s s2 g1 g2).at_⟩
  | i + 1 =>
    simp only [List.getElem?_cons_succ] at h1 h2
    rw [h1] at h2; cases h2
    exact ⟨rfl, rfl, rfl, fun j r r2 h3 h4 => by rw [h3] at h4; cases h4; exact ⟨rfl, fun k a a2 h5 h6 => by rw [h5] at h6; cases h6; exact .refl _⟩⟩
/-- the rows when k locks have been copied -/
def rowsK (q : Nat) (o : Option Nat) (ls : List LockD) (k : Nat) : List (List AV) := (lockRows q o ls).take k ++ List.replicate (ls.length - k) zeroLock
theorem rowsK_len (q : Nat) (o : Option Nat) (ls : List LockD) (k : Nat) (hk : k ≤ ls.length) : (rowsK q o ls k).length = ls.length := by simp [rowsK, lockRows_len]; omega
theorem take_same (q : Nat) (o o' : Option Nat) (ls : List LockD) (k : Nat) (h : k ≤ q ∨ o = o') : (lockRows q o ls).take k = (lockRows q o' ls).take k := by
  rcases h with h | rfl
  · apply List.ext_getElem?
    intro j
    rcases Nat.lt_or_ge j k with hj | hj
    · rw [List.getElem?_take_of_lt hj, List.getElem?_take_of_lt hj]
      rcases Nat.lt_or_ge j ls.length with h1 | h1
      · rw [lockRows_at _ _ _ _ h1, lockRows_at _ _ _ _ h1]; simp [lockR, show j ≠ q by omega]
      · rw [List.getElem?_eq_none (by rw [lockRows_len]; exact h1), List.getElem?_eq_none (by rw [lockRows_len]; exact h1)]
    · rw [List.getElem?_eq_none (by simp; omega), List.getElem?_eq_none (by simp; omega)]
  · rfl
theorem rowsK_set (q : Nat) (o o' : Option Nat) (ls : List LockD) (k : Nat) (hk : k < ls.length) (h : k ≤ q ∨ o = o') : (rowsK q o ls k).set k (lockR q o' k ls[k]) = rowsK q o' ls (k + 1) := by
  unfold rowsK
  have hl : ((lockRows q o ls).take k).length = k := by simp [lockRows_len]; omega
  rw [List.set_append_right _ _ (by omega), hl, Nat.sub_self]
  obtain ⟨m, hm⟩ : ∃ m, ls.length - k = m + 1 := ⟨ls.length - k - 1, by omega⟩
  rw [hm, List.replicate_succ, List.set_cons_zero, take_same q o o' ls k h]
  have hk2 : k < (lockRows q o' ls).length := by rw [lockRows_len]; exact hk
  rw [List.take_succ_eq_append_getElem hk2, show ls.length - (k + 1) = m by omega]
  have : (lockRows q o' ls)[k] = lockR q o' k ls[k] := by
    have := lockRows_at q o' ls k hk
    rw [List.getElem?_eq_getElem hk2] at this
    exact Option.some.inj this
  rw [this]
  simp
theorem rowsK_at (q : Nat) (o : Option Nat) (ls : List LockD) (k : Nat) (hk : k < ls.length) : (rowsK q o ls k)[k]? = some zeroLock := by
  unfold rowsK
  have hl : ((lockRows q o ls).take k).length = k := by simp [lockRows_len]; omega
  rw [List.getElem?_append_right (by omega), hl, Nat.sub_self]
  obtain ⟨m, hm⟩ : ∃ m, ls.length - k = m + 1 := ⟨ls.length - k - 1, by omega⟩
  rw [hm]; rfl
/-- what clone has made of a state; q: the lock whose readers lie in a block of their own -/
structure Cloned (s : SyncD) (q : Nat) (v : AV) (L : SH) : Prop where
  ex : ∃ (bl : Nat) (o od ot : Option Nat), v = .agg [.sl bl 0 s.locks.length, .int .i64 s.tx, slotL od s.done.length, slotL ot s.threads.length] ∧
    L = (bl, ⟨2, lockRows q o s.locks⟩) :: (rdB q o s.locks s.locks.length ++ (slotB od 1 (s.done.map boolE) ++ slotB ot 3 (s.threads.map ThrD.enc))) ∧ (od = none → s.done = []) ∧ (ot = none → s.threads = []) ∧ (o = none → q < s.locks.length → (s.locks.getD q default).readers = [])
set_option maxHeartbeats 4000000 in
theorem clone_loop (s : SyncD) (q b1 b2 bl : Nat) (h1 : s.locks.length < 2 ^ 40) (hrd : ∀ l ∈ s.locks, l.readers.length < 2 ^ 40) (Q : AV → SH → Prop)
    (hend : ∀ o : Option Nat, (o = none → q < s.locks.length → (s.locks.getD q default).readers = []) → object_clone_zt1 [.ptr b1 0 0, .ptr b2 0 0, .sl bl 0 s.locks.length, .lst (s.locks.map LockD.enc), .int .i64 s.locks.length, .int .i64 s.locks.length] ((bl, ⟨2, lockRows q o s.locks⟩) :: (b2, ⟨4, [[.nils, .int .i64 0, .nils, .nils]]⟩) :: (b1, ⟨4, [s.enc]⟩) :: rdB q o s.locks s.locks.length) Q) :
    W.loop (object_clone_l3 Q) [.ptr b1 0 0, .ptr b2 0 0, .sl bl 0 s.locks.length, .lst (s.locks.map LockD.enc), .int .i64 s.locks.length, .int .i64 (0 : Nat)] [(bl, ⟨2, List.replicate s.locks.length zeroLock⟩), (b2, ⟨4, [[.nils, .int .i64 0, .nils, .nils]]⟩), (b1, ⟨4, [s.enc]⟩)] := by
  refine loop_ex s.locks.length (fun k (o : Option Nat) => ([.ptr b1 0 0, .ptr b2 0 0, .sl bl 0 s.locks.length, .lst (s.locks.map LockD.enc), .int .i64 s.locks.length, .int .i64 k], (bl, ⟨2, rowsK q o s.locks k⟩) :: (b2, ⟨4, [[.nils, .int .i64 0, .nils, .nils]]⟩) :: (b1, ⟨4, [s.enc]⟩) :: rdB q o s.locks k)) (fun k o => o = none → q < k → (s.locks.getD q default).readers = []) none (fun _ h => by omega) (fzs_eq rfl (by simp [rowsK, rdB])) ?_
  intro k o hk ho
  dsimp only
  unfold object_clone_l3
  rcases Nat.lt_or_ge k s.locks.length with g1 | g1
  · have hd := dec_lt g1
    have hx := map_at (f := LockD.enc) g1
    have hz := rowsK_at q o s.locks k g1
    have hkl : k < (rowsK q o s.locks k).length := by rw [rowsK_len _ _ _ _ hk]; exact g1
    have hrk : (s.locks[k]).readers.length * 8 ≤ 140737488355328 := by have := hrd _ (List.getElem_mem g1); omega
    repeat' (first | refine a_load_q (by first | assumption | rfl) rfl ?_ | refine a_load_q (at_inB (by assumption)) rfl ?_ | refine a_faddr_q ?_ | refine a_len_m ?_ | refine a_len_l ?_ | refine a_grd_y (by first | assumption | rfl) ?_ | refine a_grd_n (by first | assumption | rfl) ?_ | refine a_grd_u ?_ | refine a_pick_t (by first | assumption | rfl) ?_ | refine a_pick_f (by first | assumption | rfl) ?_ | refine a_eql ?_ | refine a_lss ?_ | refine a_neq ?_ | refine a_geq ?_ | refine a_gtr ?_ | refine a_leq ?_ | refine a_add ?_ | refine a_sub ?_ | refine a_mul ?_ | refine a_eqs ?_ | refine a_nes ?_ | refine a_not ?_ | refine a_neg ?_ | refine a_conv ?_ | refine a_convS ?_ | refine a_cond_t (by first | assumption | rfl) ?_ | refine a_cond_f (by first | assumption | rfl) ?_ | refine a_box rfl rfl (fun nb_ hnb_ => ?_) | refine a_frz_p (by first | exact .here _ | exact .there _ (.here _) | exact .there _ (.there _ (.here _)) | exact .there _ (.there _ (.there _ (.here _)))) (by first | exact Nat.succ_pos _ | decide | simp) (by first | exact Nat.succ_pos _ | decide | simp) ?_ | refine a_alloc (fun nb_ hnb_ => ?_) | refine a_faddr_p ?_ | refine a_store_box (by first | exact .here _ | exact .there _ (.here _) | exact .there _ (.there _ (.here _)) | exact .there _ (.there _ (.there _ (.here _))) | exact .there _ (.there _ (.there _ (.there _ (.here _))))) rfl rfl rfl rfl ?_ | refine a_store_one (by first | exact .here _ | exact .there _ (.here _) | exact .there _ (.there _ (.here _)) | exact .there _ (.there _ (.there _ (.here _))) | exact .there _ (.there _ (.there _ (.there _ (.here _))))) (by first | assumption | rfl) rfl rfl (by first | decide | exact Nat.lt_of_sub_pos (Nat.succ_pos _) | simp | omega) rfl ?_ | refine a_store_row (by first | exact .here _ | exact .there _ (.here _) | exact .there _ (.there _ (.here _)) | exact .there _ (.there _ (.there _ (.here _))) | exact .there _ (.there _ (.there _ (.there _ (.here _))))) (by first | assumption | rfl) rfl rfl rfl rfl rfl ?_ | refine a_load_p (by first | exact .head _ | exact .tail _ (.head _) | exact .tail _ (.tail _ (.head _)) | exact .tail _ (.tail _ (.tail _ (.head _))) | exact .tail _ (.tail _ (.tail _ (.tail _ (.head _))))) (by first | assumption | rfl) rfl ?_ | refine a_row_q (by first | assumption | rfl) rfl ?_ | refine a_row_q (at_inB (by assumption)) rfl ?_ | refine a_row_p (by first | exact .head _ | exact .tail _ (.head _) | exact .tail _ (.tail _ (.head _)) | exact .tail _ (.tail _ (.tail _ (.head _))) | exact .tail _ (.tail _ (.tail _ (.tail _ (.head _))))) (by first | assumption | rfl) rfl ?_ | refine a_idx_n (by first | assumption | rfl) rfl ?_ | refine a_idx_l (by first | decide | omega) (by first | assumption | rfl) rfl ?_ | refine a_idx_l (nn_inB (by assumption)) (at_inB (by assumption)) rfl ?_ | refine a_idx_sn (by first | assumption | omega) (by first | exact .head _ | exact .tail _ (.head _) | exact .tail _ (.tail _ (.head _)) | exact .tail _ (.tail _ (.tail _ (.head _)))) rfl ?_ | refine a_ext rfl ?_ | refine a_build rfl ?_ | refine a_fld rfl ?_ | refine a_nil_p ?_ | refine a_nil_q ?_ | refine a_nil_f ?_ | refine a_note ?_ | refine a_join ?_ | refine a_len_s ?_ | refine a_len_n ?_ | refine a_lenS ?_ | refine a_tt ?_ | refine a_calm (by simp only [W.free, blocksOf, slOf, List.forall_mem_nil, List.forall_mem_cons, List.not_mem_nil, not_false_eq_true, implies_true, and_true, true_and, and_self, Bool.false_eq_true, reduceCtorEq, forall_const, false_implies, List.mem_singleton, forall_eq, List.append_nil, List.nil_append]) ?_ | refine a_dgrd_y (by first | assumption | rfl) ?_ | refine a_dgrd_n (by first | assumption | rfl) ?_ | refine a_dgrd_u ?_ | refine a_mslice (by omega) (by omega) (by omega) (fun nb_ hnb_ => ?_) | refine a_bslice (by decide) rfl (fun nb_ hnb_ => ?_) | refine a_idx_s (by first | decide | omega) (by first | assumption | omega) (by first | exact .head _ | exact .tail _ (.head _) | exact .tail _ (.tail _ (.head _)) | exact .tail _ (.tail _ (.tail _ (.head _)))) rfl ?_ | refine a_len_e ?_)
    refine dcall_new (cloneI_ok _ hrk) (by simp [W.free, blocksOf]) ?_
    rintro v K ⟨o', rfl, rfl, ho'⟩
    unfold object_clone_d0
    have fin : ∀ (L : SH), L = slotB o' 1 ((s.locks[k]).readers.map intE) ++ ((bl, ⟨2, (rowsK q o s.locks k).set k [.int .i64 (s.locks[k]).owner, slotV o' (s.locks[k]).readers.length]⟩) :: (b2, ⟨4, [[.nils, .int .i64 0, .nils, .nils]]⟩) :: (b1, ⟨4, [s.enc]⟩) :: rdB q o s.locks k) →
        ∃ j o2, k < j ∧ j ≤ s.locks.length ∧ (o2 = none → q < j → (s.locks.getD q default).readers = []) ∧ FzS [.ptr b1 0 0, .ptr b2 0 0, .sl bl 0 s.locks.length, .lst (s.locks.map LockD.enc), .int .i64 s.locks.length, .int .i64 (IntKind.i64.wrap ((k : Int) + 1))] L
          [.ptr b1 0 0, .ptr b2 0 0, .sl bl 0 s.locks.length, .lst (s.locks.map LockD.enc), .int .i64 s.locks.length, .int .i64 j] ((bl, ⟨2, rowsK q o2 s.locks j⟩) :: (b2, ⟨4, [[.nils, .int .i64 0, .nils, .nils]]⟩) :: (b1, ⟨4, [s.enc]⟩) :: rdB q o2 s.locks j) := by
      intro L hL
      subst hL
      rw [i64_succ g1 (by omega)]
      by_cases hkq : k = q
      · subst hkq
        refine ⟨k + 1, o', by omega, by omega, fun e _ => by simpa [List.getD, g1] using ho' e, ?_⟩
        rw [← rowsK_set k o o' s.locks k g1 (.inl (Nat.le_refl _))]
        have e1 : rdB k o s.locks k = [] := by simp [rdB]
        have e2 : rdB k o' s.locks (k + 1) = slotB o' 1 ((s.locks[k]).readers.map intE) := by simp [rdB, List.getD, g1]
        have e3 : lockR k o' k s.locks[k] = [.int .i64 (s.locks[k]).owner, slotV o' (s.locks[k]).readers.length] := by simp [lockR]
        rw [e1, e2, e3]
        exact FzS.forget (K := []) List.perm_append_comm
      · refine ⟨k + 1, o, by omega, by omega, fun e hq => ho e (by omega), ?_⟩
        have e1 : rdB q o s.locks (k + 1) = rdB q o s.locks k := by
          by_cases hq : q < k
          · simp [rdB, hq, show q < k + 1 by omega]
          · simp [rdB, hq, show ¬ q < k + 1 by omega]
        rw [e1, ← rowsK_set q o o s.locks k g1 (.inr rfl)]
        have e3 : lockR q o k s.locks[k] = [.int .i64 (s.locks[k]).owner, .lst ((s.locks[k]).readers.map intE)] := by simp [lockR, hkq, LockD.enc]
        rw [e3]
        refine FzS.row (K := slotB o' 1 ((s.locks[k]).readers.map intE)) (.refl _) (by simp) ?_
        intro j r r' q1 q2
        rw [List.getElem?_set] at q1 q2
        by_cases hj : k = j
        · rw [if_pos hj] at q1 q2
          rw [if_pos (by omega)] at q1 q2
          cases q1; cases q2
          refine .cons (.refl _) (.cons ?_ .nil)
          exact Fz.slot (f := intE) rfl (fun e => by rw [ho' e]; rfl) (by decide) (fun y _ => rfl) (fun y _ q a a2 h1 h2 => by rw [h1] at h2; cases h2; exact .refl _)
        · rw [if_neg hj] at q1 q2
          rw [q1] at q2; cases q2
          exact FzL.refl _ _
    cases o' with
    | none =>
      dsimp only [slotB, slotV, List.nil_append] at fin ⊢
      repeat' (first | refine a_load_q (by first | assumption | rfl) rfl ?_ | refine a_load_q (at_inB (by assumption)) rfl ?_ | refine a_faddr_q ?_ | refine a_len_m ?_ | refine a_len_l ?_ | refine a_grd_y (by first | assumption | rfl) ?_ | refine a_grd_n (by first | assumption | rfl) ?_ | refine a_grd_u ?_ | refine a_pick_t (by first | assumption | rfl) ?_ | refine a_pick_f (by first | assumption | rfl) ?_ | refine a_eql ?_ | refine a_lss ?_ | refine a_neq ?_ | refine a_geq ?_ | refine a_gtr ?_ | refine a_leq ?_ | refine a_add ?_ | refine a_sub ?_ | refine a_mul ?_ | refine a_eqs ?_ | refine a_nes ?_ | refine a_not ?_ | refine a_neg ?_ | refine a_conv ?_ | refine a_convS ?_ | refine a_cond_t (by first | assumption | rfl) ?_ | refine a_cond_f (by first | assumption | rfl) ?_ | refine a_box rfl rfl (fun nb_ hnb_ => ?_) | refine a_frz_p (by first | exact .here _ | exact .there _ (.here _) | exact .there _ (.there _ (.here _)) | exact .there _ (.there _ (.there _ (.here _)))) (by first | exact Nat.succ_pos _ | decide | simp) (by first | exact Nat.succ_pos _ | decide | simp) ?_ | refine a_alloc (fun nb_ hnb_ => ?_) | refine a_faddr_p ?_ | refine a_store_box (by first | exact .here _ | exact .there _ (.here _) | exact .there _ (.there _ (.here _)) | exact .there _ (.there _ (.there _ (.here _))) | exact .there _ (.there _ (.there _ (.there _ (.here _))))) rfl rfl rfl rfl ?_ | refine a_store_one (by first | exact .here _ | exact .there _ (.here _) | exact .there _ (.there _ (.here _)) | exact .there _ (.there _ (.there _ (.here _))) | exact .there _ (.there _ (.there _ (.there _ (.here _))))) (by first | assumption | rfl) rfl rfl (by first | decide | exact Nat.lt_of_sub_pos (Nat.succ_pos _) | simp | omega) rfl ?_ | refine a_store_row (by first | exact .here _ | exact .there _ (.here _) | exact .there _ (.there _ (.here _)) | exact .there _ (.there _ (.there _ (.here _))) | exact .there _ (.there _ (.there _ (.there _ (.here _))))) (by first | assumption | rfl) rfl rfl rfl rfl rfl ?_ | refine a_load_p (by first | exact .head _ | exact .tail _ (.head _) | exact .tail _ (.tail _ (.head _)) | exact .tail _ (.tail _ (.tail _ (.head _))) | exact .tail _ (.tail _ (.tail _ (.tail _ (.head _))))) (by first | assumption | rfl) rfl ?_ | refine a_row_q (by first | assumption | rfl) rfl ?_ | refine a_row_q (at_inB (by assumption)) rfl ?_ | refine a_row_p (by first | exact .head _ | exact .tail _ (.head _) | exact .tail _ (.tail _ (.head _)) | exact .tail _ (.tail _ (.tail _ (.head _))) | exact .tail _ (.tail _ (.tail _ (.tail _ (.head _))))) (by first | assumption | rfl) rfl ?_ | refine a_idx_n (by first | assumption | rfl) rfl ?_ | refine a_idx_l (by first | decide | omega) (by first | assumption | rfl) rfl ?_ | refine a_idx_l (nn_inB (by assumption)) (at_inB (by assumption)) rfl ?_ | refine a_idx_sn (by first | assumption | omega) (by first | exact .head _ | exact .tail _ (.head _) | exact .tail _ (.tail _ (.head _)) | exact .tail _ (.tail _ (.tail _ (.head _)))) rfl ?_ | refine a_ext rfl ?_ | refine a_build rfl ?_ | refine a_fld rfl ?_ | refine a_nil_p ?_ | refine a_nil_q ?_ | refine a_nil_f ?_ | refine a_note ?_ | refine a_join ?_ | refine a_len_s ?_ | refine a_len_n ?_ | refine a_lenS ?_ | refine a_tt ?_ | refine a_calm (by simp only [W.free, blocksOf, slOf, List.forall_mem_nil, List.forall_mem_cons, List.not_mem_nil, not_false_eq_true, implies_true, and_true, true_and, and_self, Bool.false_eq_true, reduceCtorEq, forall_const, false_implies, List.mem_singleton, forall_eq, List.append_nil, List.nil_append]) ?_ | refine a_dgrd_y (by first | assumption | rfl) ?_ | refine a_dgrd_n (by first | assumption | rfl) ?_ | refine a_dgrd_u ?_ | refine a_mslice (by omega) (by omega) (by omega) (fun nb_ hnb_ => ?_) | refine a_bslice (by decide) rfl (fun nb_ hnb_ => ?_) | refine a_idx_s (by first | decide | omega) (by first | assumption | omega) (by first | exact .head _ | exact .tail _ (.head _) | exact .tail _ (.tail _ (.head _)) | exact .tail _ (.tail _ (.tail _ (.head _)))) rfl ?_ | refine a_len_e ?_)
      exact fin _ rfl
    | some b' =>
      dsimp only [slotB, slotV, List.cons_append, List.nil_append] at fin ⊢
      repeat' (first | refine a_load_q (by first | assumption | rfl) rfl ?_ | refine a_load_q (at_inB (by assumption)) rfl ?_ | refine a_faddr_q ?_ | refine a_len_m ?_ | refine a_len_l ?_ | refine a_grd_y (by first | assumption | rfl) ?_ | refine a_grd_n (by first | assumption | rfl) ?_ | refine a_grd_u ?_ | refine a_pick_t (by first | assumption | rfl) ?_ | refine a_pick_f (by first | assumption | rfl) ?_ | refine a_eql ?_ | refine a_lss ?_ | refine a_neq ?_ | refine a_geq ?_ | refine a_gtr ?_ | refine a_leq ?_ | refine a_add ?_ | refine a_sub ?_ | refine a_mul ?_ | refine a_eqs ?_ | refine a_nes ?_ | refine a_not ?_ | refine a_neg ?_ | refine a_conv ?_ | refine a_convS ?_ | refine a_cond_t (by first | assumption | rfl) ?_ | refine a_cond_f (by first | assumption | rfl) ?_ | refine a_box rfl rfl (fun nb_ hnb_ => ?_) | refine a_frz_p (by first | exact .here _ | exact .there _ (.here _) | exact .there _ (.there _ (.here _)) | exact .there _ (.there _ (.there _ (.here _)))) (by first | exact Nat.succ_pos _ | decide | simp) (by first | exact Nat.succ_pos _ | decide | simp) ?_ | refine a_alloc (fun nb_ hnb_ => ?_) | refine a_faddr_p ?_ | refine a_store_box (by first | exact .here _ | exact .there _ (.here _) | exact .there _ (.there _ (.here _)) | exact .there _ (.there _ (.there _ (.here _))) | exact .there _ (.there _ (.there _ (.there _ (.here _))))) rfl rfl rfl rfl ?_ | refine a_store_one (by first | exact .here _ | exact .there _ (.here _) | exact .there _ (.there _ (.here _)) | exact .there _ (.there _ (.there _ (.here _))) | exact .there _ (.there _ (.there _ (.there _ (.here _))))) (by first | assumption | rfl) rfl rfl (by first | decide | exact Nat.lt_of_sub_pos (Nat.succ_pos _) | simp | omega) rfl ?_ | refine a_store_row (by first | exact .here _ | exact .there _ (.here _) | exact .there _ (.there _ (.here _)) | exact .there _ (.there _ (.there _ (.here _))) | exact .there _ (.there _ (.there _ (.there _ (.here _))))) (by first | assumption | rfl) rfl rfl rfl rfl rfl ?_ | refine a_load_p (by first | exact .head _ | exact .tail _ (.head _) | exact .tail _ (.tail _ (.head _)) | exact .tail _ (.tail _ (.tail _ (.head _))) | exact .tail _ (.tail _ (.tail _ (.tail _ (.head _))))) (by first | assumption | rfl) rfl ?_ | refine a_row_q (by first | assumption | rfl) rfl ?_ | refine a_row_q (at_inB (by assumption)) rfl ?_ | refine a_row_p (by first | exact .head _ | exact .tail _ (.head _) | exact .tail _ (.tail _ (.head _)) | exact .tail _ (.tail _ (.tail _ (.head _))) | exact .tail _ (.tail _ (.tail _ (.tail _ (.head _))))) (by first | assumption | rfl) rfl ?_ | refine a_idx_n (by first | assumption | rfl) rfl ?_ | refine a_idx_l (by first | decide | omega) (by first | assumption | rfl) rfl ?_ | refine a_idx_l (nn_inB (by assumption)) (at_inB (by assumption)) rfl ?_ | refine a_idx_sn (by first | assumption | omega) (by first | exact .head _ | exact .tail _ (.head _) | exact .tail _ (.tail _ (.head _)) | exact .tail _ (.tail _ (.tail _ (.head _)))) rfl ?_ | refine a_ext rfl ?_ | refine a_build rfl ?_ | refine a_fld rfl ?_ | refine a_nil_p ?_ | refine a_nil_q ?_ | refine a_nil_f ?_ | refine a_note ?_ | refine a_join ?_ | refine a_len_s ?_ | refine a_len_n ?_ | refine a_lenS ?_ | refine a_tt ?_ | refine a_calm (by simp only [W.free, blocksOf, slOf, List.forall_mem_nil, List.forall_mem_cons, List.not_mem_nil, not_false_eq_true, implies_true, and_true, true_and, and_self, Bool.false_eq_true, reduceCtorEq, forall_const, false_implies, List.mem_singleton, forall_eq, List.append_nil, List.nil_append]) ?_ | refine a_dgrd_y (by first | assumption | rfl) ?_ | refine a_dgrd_n (by first | assumption | rfl) ?_ | refine a_dgrd_u ?_ | refine a_mslice (by omega) (by omega) (by omega) (fun nb_ hnb_ => ?_) | refine a_bslice (by decide) rfl (fun nb_ hnb_ => ?_) | refine a_idx_s (by first | decide | omega) (by first | assumption | omega) (by first | exact .head _ | exact .tail _ (.head _) | exact .tail _ (.tail _ (.head _)) | exact .tail _ (.tail _ (.tail _ (.head _)))) rfl ?_ | refine a_len_e ?_)
      exact fin _ rfl
  · have hd := dec_ge g1
    have hk0 : k = s.locks.length := by omega
    subst hk0
    have := hend o ho
    rw [show rowsK q o s.locks s.locks.length = lockRows q o s.locks by simp [rowsK, lockRows_len, List.take_of_length_le]]
    refine a_lss ?_
    refine a_cond_f hd ?_
    exact this
theorem small_mul {s : SyncD} (hs : s.threads.length < 2 ^ 40) : s.threads.length * 24 ≤ 140737488355328 := by omega
set_option maxHeartbeats 4000000 in
theorem clone_ok (s : SyncD) (q : Nat) (h1 : s.locks.length < 2 ^ 40) (h2 : s.done.length < 2 ^ 40) (h3 : s.threads.length < 2 ^ 40) (hrd : ∀ l ∈ s.locks, l.readers.length < 2 ^ 40) :
    CallA Try.prog 47 [.agg s.enc] [] (Cloned s q) := by
  refine CallA.fz (object_clone_ok _ _ _ ?_)
  unfold object_clone_w
  generalize hQ : (fun (v : AV) (L : SH) => ∃ v2 L2, FzS [v] L [v2] L2 ∧ Cloned s q v2 L2) = Q
  repeat' (first | refine a_load_q (by first | assumption | rfl) rfl ?_ | refine a_load_q (at_inB (by assumption)) rfl ?_ | refine a_faddr_q ?_ | refine a_len_m ?_ | refine a_len_l ?_ | refine a_grd_y (by first | assumption | rfl) ?_ | refine a_grd_n (by first | assumption | rfl) ?_ | refine a_grd_u ?_ | refine a_pick_t (by first | assumption | rfl) ?_ | refine a_pick_f (by first | assumption | rfl) ?_ | refine a_eql ?_ | refine a_lss ?_ | refine a_neq ?_ | refine a_geq ?_ | refine a_gtr ?_ | refine a_leq ?_ | refine a_add ?_ | refine a_sub ?_ | refine a_mul ?_ | refine a_eqs ?_ | refine a_nes ?_ | refine a_not ?_ | refine a_neg ?_ | refine a_conv ?_ | refine a_convS ?_ | refine a_cond_t (by first | assumption | rfl) ?_ | refine a_cond_f (by first | assumption | rfl) ?_ | refine a_box rfl rfl (fun nb_ hnb_ => ?_) | refine a_frz_p (by first | exact .here _ | exact .there _ (.here _) | exact .there _ (.there _ (.here _)) | exact .there _ (.there _ (.there _ (.here _)))) (by first | exact Nat.succ_pos _ | decide | simp) (by first | exact Nat.succ_pos _ | decide | simp) ?_ | refine a_alloc (fun nb_ hnb_ => ?_) | refine a_faddr_p ?_ | refine a_store_box (by first | exact .here _ | exact .there _ (.here _) | exact .there _ (.there _ (.here _)) | exact .there _ (.there _ (.there _ (.here _))) | exact .there _ (.there _ (.there _ (.there _ (.here _))))) rfl rfl rfl rfl ?_ | refine a_store_one (by first | exact .here _ | exact .there _ (.here _) | exact .there _ (.there _ (.here _)) | exact .there _ (.there _ (.there _ (.here _))) | exact .there _ (.there _ (.there _ (.there _ (.here _))))) (by first | assumption | rfl) rfl rfl (by first | decide | exact Nat.lt_of_sub_pos (Nat.succ_pos _) | simp | omega) rfl ?_ | refine a_store_row (by first | exact .here _ | exact .there _ (.here _) | exact .there _ (.there _ (.here _)) | exact .there _ (.there _ (.there _ (.here _))) | exact .there _ (.there _ (.there _ (.there _ (.here _))))) (by first | assumption | rfl) rfl rfl rfl rfl rfl ?_ | refine a_load_p (by first | exact .head _ | exact .tail _ (.head _) | exact .tail _ (.tail _ (.head _)) | exact .tail _ (.tail _ (.tail _ (.head _))) | exact .tail _ (.tail _ (.tail _ (.tail _ (.head _))))) (by first | assumption | rfl) rfl ?_ | refine a_row_q (by first | assumption | rfl) rfl ?_ | refine a_row_q (at_inB (by assumption)) rfl ?_ | refine a_row_p (by first | exact .head _ | exact .tail _ (.head _) | exact .tail _ (.tail _ (.head _)) | exact .tail _ (.tail _ (.tail _ (.head _))) | exact .tail _ (.tail _ (.tail _ (.tail _ (.head _))))) (by first | assumption | rfl) rfl ?_ | refine a_idx_n (by first | assumption | rfl) rfl ?_ | refine a_idx_l (by first | decide | omega) (by first | assumption | rfl) rfl ?_ | refine a_idx_l (nn_inB (by assumption)) (at_inB (by assumption)) rfl ?_ | refine a_idx_sn (by first | assumption | omega) (by first | exact .head _ | exact .tail _ (.head _) | exact .tail _ (.tail _ (.head _)) | exact .tail _ (.tail _ (.tail _ (.head _)))) rfl ?_ | refine a_ext rfl ?_ | refine a_build rfl ?_ | refine a_fld rfl ?_ | refine a_nil_p ?_ | refine a_nil_q ?_ | refine a_nil_f ?_ | refine a_note ?_ | refine a_join ?_ | refine a_len_s ?_ | refine a_len_n ?_ | refine a_lenS ?_ | refine a_tt ?_ | refine a_calm (by simp only [W.free, blocksOf, slOf, List.forall_mem_nil, List.forall_mem_cons, List.not_mem_nil, not_false_eq_true, implies_true, and_true, true_and, and_self, Bool.false_eq_true, reduceCtorEq, forall_const, false_implies, List.mem_singleton, forall_eq, List.append_nil, List.nil_append]) ?_ | refine a_dgrd_y (by first | assumption | rfl) ?_ | refine a_dgrd_n (by first | assumption | rfl) ?_ | refine a_dgrd_u ?_ | refine a_mslice (by omega) (by omega) (by omega) (fun nb_ hnb_ => ?_) | refine a_bslice (by decide) rfl (fun nb_ hnb_ => ?_) | refine a_idx_s (by first | decide | omega) (by first | assumption | omega) (by first | exact .head _ | exact .tail _ (.head _) | exact .tail _ (.tail _ (.head _)) | exact .tail _ (.tail _ (.tail _ (.head _)))) rfl ?_ | refine a_len_e ?_)
  rename_i b1 _ b2 _
  revert nb_
  intro bl _
  refine clone_loop s q b1 b2 bl h1 hrd Q ?_
  intro o ho
  unfold object_clone_zt1
  repeat' (first | refine a_load_q (by first | assumption | rfl) rfl ?_ | refine a_load_q (at_inB (by assumption)) rfl ?_ | refine a_faddr_q ?_ | refine a_len_m ?_ | refine a_len_l ?_ | refine a_grd_y (by first | assumption | rfl) ?_ | refine a_grd_n (by first | assumption | rfl) ?_ | refine a_grd_u ?_ | refine a_pick_t (by first | assumption | rfl) ?_ | refine a_pick_f (by first | assumption | rfl) ?_ | refine a_eql ?_ | refine a_lss ?_ | refine a_neq ?_ | refine a_geq ?_ | refine a_gtr ?_ | refine a_leq ?_ | refine a_add ?_ | refine a_sub ?_ | refine a_mul ?_ | refine a_eqs ?_ | refine a_nes ?_ | refine a_not ?_ | refine a_neg ?_ | refine a_conv ?_ | refine a_convS ?_ | refine a_cond_t (by first | assumption | rfl) ?_ | refine a_cond_f (by first | assumption | rfl) ?_ | refine a_box rfl rfl (fun nb_ hnb_ => ?_) | refine a_frz_p (by first | exact .here _ | exact .there _ (.here _) | exact .there _ (.there _ (.here _)) | exact .there _ (.there _ (.there _ (.here _)))) (by first | exact Nat.succ_pos _ | decide | simp) (by first | exact Nat.succ_pos _ | decide | simp) ?_ | refine a_alloc (fun nb_ hnb_ => ?_) | refine a_faddr_p ?_ | refine a_store_box (by first | exact .here _ | exact .there _ (.here _) | exact .there _ (.there _ (.here _)) | exact .there _ (.there _ (.there _ (.here _))) | exact .there _ (.there _ (.there _ (.there _ (.here _))))) rfl rfl rfl rfl ?_ | refine a_store_one (by first | exact .here _ | exact .there _ (.here _) | exact .there _ (.there _ (.here _)) | exact .there _ (.there _ (.there _ (.here _))) | exact .there _ (.there _ (.there _ (.there _ (.here _))))) (by first | assumption | rfl) rfl rfl (by first | decide | exact Nat.lt_of_sub_pos (Nat.succ_pos _) | simp | omega) rfl ?_ | refine a_store_row (by first | exact .here _ | exact .there _ (.here _) | exact .there _ (.there _ (.here _)) | exact .there _ (.there _ (.there _ (.here _))) | exact .there _ (.there _ (.there _ (.there _ (.here _))))) (by first | assumption | rfl) rfl rfl rfl rfl rfl ?_ | refine a_load_p (by first | exact .head _ | exact .tail _ (.head _) | exact .tail _ (.tail _ (.head _)) | exact .tail _ (.tail _ (.tail _ (.head _))) | exact .tail _ (.tail _ (.tail _ (.tail _ (.head _))))) (by first | assumption | rfl) rfl ?_ | refine a_row_q (by first | assumption | rfl) rfl ?_ | refine a_row_q (at_inB (by assumption)) rfl ?_ | refine a_row_p (by first | exact .head _ | exact .tail _ (.head _) | exact .tail _ (.tail _ (.head _)) | exact .tail _ (.tail _ (.tail _ (.head _))) | exact .tail _ (.tail _ (.tail _ (.tail _ (.head _))))) (by first | assumption | rfl) rfl ?_ | refine a_idx_n (by first | assumption | rfl) rfl ?_ | refine a_idx_l (by first | decide | omega) (by first | assumption | rfl) rfl ?_ | refine a_idx_l (nn_inB (by assumption)) (at_inB (by assumption)) rfl ?_ | refine a_idx_sn (by first | assumption | omega) (by first | exact .head _ | exact .tail _ (.head _) | exact .tail _ (.tail _ (.head _)) | exact .tail _ (.tail _ (.tail _ (.head _)))) rfl ?_ | refine a_ext rfl ?_ | refine a_build rfl ?_ | refine a_fld rfl ?_ | refine a_nil_p ?_ | refine a_nil_q ?_ | refine a_nil_f ?_ | refine a_note ?_ | refine a_join ?_ | refine a_len_s ?_ | refine a_len_n ?_ | refine a_lenS ?_ | refine a_tt ?_ | refine a_calm (by simp only [W.free, blocksOf, slOf, List.forall_mem_nil, List.forall_mem_cons, List.not_mem_nil, not_false_eq_true, implies_true, and_true, true_and, and_self, Bool.false_eq_true, reduceCtorEq, forall_const, false_implies, List.mem_singleton, forall_eq, List.append_nil, List.nil_append]) ?_ | refine a_dgrd_y (by first | assumption | rfl) ?_ | refine a_dgrd_n (by first | assumption | rfl) ?_ | refine a_dgrd_u ?_ | refine a_mslice (by omega) (by omega) (by omega) (fun nb_ hnb_ => ?_) | refine a_bslice (by decide) rfl (fun nb_ hnb_ => ?_) | refine a_idx_s (by first | decide | omega) (by first | assumption | omega) (by first | exact .head _ | exact .tail _ (.head _) | exact .tail _ (.tail _ (.head _)) | exact .tail _ (.tail _ (.tail _ (.head _)))) rfl ?_ | refine a_len_e ?_)
  refine call_back (cloneB_ok _ (by omega)) ?_
  rintro v K ⟨od, rfl, rfl, hod⟩
  unfold object_clone_c2
  have fin : ∀ (v : AV) (L : SH) (ot : Option Nat), (ot = none → s.threads = []) → v = .agg [.sl bl 0 s.locks.length, .int .i64 s.tx, slotL od s.done.length, slotL ot s.threads.length] →
      (∃ x y : Blk, L = (bl, ⟨2, lockRows q o s.locks⟩) :: (b2, x) :: (b1, y) :: (rdB q o s.locks s.locks.length ++ slotB od 1 (s.done.map boolE) ++ slotB ot 3 (s.threads.map ThrD.enc))) → Q v L := by
    rintro v L ot hot rfl ⟨x, y, rfl⟩
    subst hQ
    refine ⟨_, _, FzS.forget (K := [(b2, x), (b1, y)]) (R := (bl, ⟨2, lockRows q o s.locks⟩) :: (rdB q o s.locks s.locks.length ++ slotB od 1 (s.done.map boolE) ++ slotB ot 3 (s.threads.map ThrD.enc))) ?_, ⟨bl, o, od, ot, rfl, by rw [List.append_assoc], hod, hot, ho⟩⟩
    exact (List.Perm.swap _ _ _).trans ((List.Perm.swap _ _ _).cons _)
  cases od with
  | none =>
    dsimp only [slotL] at fin ⊢
    repeat' (first | refine a_load_q (by first | assumption | rfl) rfl ?_ | refine a_load_q (at_inB (by assumption)) rfl ?_ | refine a_faddr_q ?_ | refine a_len_m ?_ | refine a_len_l ?_ | refine a_grd_y (by first | assumption | rfl) ?_ | refine a_grd_n (by first | assumption | rfl) ?_ | refine a_grd_u ?_ | refine a_pick_t (by first | assumption | rfl) ?_ | refine a_pick_f (by first | assumption | rfl) ?_ | refine a_eql ?_ | refine a_lss ?_ | refine a_neq ?_ | refine a_geq ?_ | refine a_gtr ?_ | refine a_leq ?_ | refine a_add ?_ | refine a_sub ?_ | refine a_mul ?_ | refine a_eqs ?_ | refine a_nes ?_ | refine a_not ?_ | refine a_neg ?_ | refine a_conv ?_ | refine a_convS ?_ | refine a_cond_t (by first | assumption | rfl) ?_ | refine a_cond_f (by first | assumption | rfl) ?_ | refine a_box rfl rfl (fun nb_ hnb_ => ?_) | refine a_frz_p (by first | exact .here _ | exact .there _ (.here _) | exact .there _ (.there _ (.here _)) | exact .there _ (.there _ (.there _ (.here _)))) (by first | exact Nat.succ_pos _ | decide | simp) (by first | exact Nat.succ_pos _ | decide | simp) ?_ | refine a_alloc (fun nb_ hnb_ => ?_) | refine a_faddr_p ?_ | refine a_store_box (by first | exact .here _ | exact .there _ (.here _) | exact .there _ (.there _ (.here _)) | exact .there _ (.there _ (.there _ (.here _))) | exact .there _ (.there _ (.there _ (.there _ (.here _))))) rfl rfl rfl rfl ?_ | refine a_store_one (by first | exact .here _ | exact .there _ (.here _) | exact .there _ (.there _ (.here _)) | exact .there _ (.there _ (.there _ (.here _))) | exact .there _ (.there _ (.there _ (.there _ (.here _))))) (by first | assumption | rfl) rfl rfl (by first | decide | exact Nat.lt_of_sub_pos (Nat.succ_pos _) | simp | omega) rfl ?_ | refine a_store_row (by first | exact .here _ | exact .there _ (.here _) | exact .there _ (.there _ (.here _)) | exact .there _ (.there _ (.there _ (.here _))) | exact .there _ (.there _ (.there _ (.there _ (.here _))))) (by first | assumption | rfl) rfl rfl rfl rfl rfl ?_ | refine a_load_p (by first | exact .head _ | exact .tail _ (.head _) | exact .tail _ (.tail _ (.head _)) | exact .tail _ (.tail _ (.tail _ (.head _))) | exact .tail _ (.tail _ (.tail _ (.tail _ (.head _))))) (by first | assumption | rfl) rfl ?_ | refine a_row_q (by first | assumption | rfl) rfl ?_ | refine a_row_q (at_inB (by assumption)) rfl ?_ | refine a_row_p (by first | exact .head _ | exact .tail _ (.head _) | exact .tail _ (.tail _ (.head _)) | exact .tail _ (.tail _ (.tail _ (.head _))) | exact .tail _ (.tail _ (.tail _ (.tail _ (.head _))))) (by first | assumption | rfl) rfl ?_ | refine a_idx_n (by first | assumption | rfl) rfl ?_ | refine a_idx_l (by first | decide | omega) (by first | assumption | rfl) rfl ?_ | refine a_idx_l (nn_inB (by assumption)) (at_inB (by assumption)) rfl ?_ | refine a_idx_sn (by first | assumption | omega) (by first | exact .head _ | exact .tail _ (.head _) | exact .tail _ (.tail _ (.head _)) | exact .tail _ (.tail _ (.tail _ (.head _)))) rfl ?_ | refine a_ext rfl ?_ | refine a_build rfl ?_ | refine a_fld rfl ?_ | refine a_nil_p ?_ | refine a_nil_q ?_ | refine a_nil_f ?_ | refine a_note ?_ | refine a_join ?_ | refine a_len_s ?_ | refine a_len_n ?_ | refine a_lenS ?_ | refine a_tt ?_ | refine a_calm (by simp only [W.free, blocksOf, slOf, List.forall_mem_nil, List.forall_mem_cons, List.not_mem_nil, not_false_eq_true, implies_true, and_true, true_and, and_self, Bool.false_eq_true, reduceCtorEq, forall_const, false_implies, List.mem_singleton, forall_eq, List.append_nil, List.nil_append]) ?_ | refine a_dgrd_y (by first | assumption | rfl) ?_ | refine a_dgrd_n (by first | assumption | rfl) ?_ | refine a_dgrd_u ?_ | refine a_mslice (by omega) (by omega) (by omega) (fun nb_ hnb_ => ?_) | refine a_bslice (by decide) rfl (fun nb_ hnb_ => ?_) | refine a_idx_s (by first | decide | omega) (by first | assumption | omega) (by first | exact .head _ | exact .tail _ (.head _) | exact .tail _ (.tail _ (.head _)) | exact .tail _ (.tail _ (.tail _ (.head _)))) rfl ?_ | refine a_len_e ?_)
    refine call_back (cloneT_ok _ (small_mul h3)) ?_
    rintro v K ⟨ot, rfl, rfl, hot⟩
    unfold object_clone_c1
    cases ot with
    | none =>
      dsimp only [slotL] at fin ⊢
      repeat' (first | refine a_load_q (by first | assumption | rfl) rfl ?_ | refine a_load_q (at_inB (by assumption)) rfl ?_ | refine a_faddr_q ?_ | refine a_len_m ?_ | refine a_len_l ?_ | refine a_grd_y (by first | assumption | rfl) ?_ | refine a_grd_n (by first | assumption | rfl) ?_ | refine a_grd_u ?_ | refine a_pick_t (by first | assumption | rfl) ?_ | refine a_pick_f (by first | assumption | rfl) ?_ | refine a_eql ?_ | refine a_lss ?_ | refine a_neq ?_ | refine a_geq ?_ | refine a_gtr ?_ | refine a_leq ?_ | refine a_add ?_ | refine a_sub ?_ | refine a_mul ?_ | refine a_eqs ?_ | refine a_nes ?_ | refine a_not ?_ | refine a_neg ?_ | refine a_conv ?_ | refine a_convS ?_ | refine a_cond_t (by first | assumption | rfl) ?_ | refine a_cond_f (by first | assumption | rfl) ?_ | refine a_box rfl rfl (fun nb_ hnb_ => ?_) | refine a_frz_p (by first | exact .here _ | exact .there _ (.here _) | exact .there _ (.there _ (.here _)) | exact .there _ (.there _ (.there _ (.here _)))) (by first | exact Nat.succ_pos _ | decide | simp) (by first | exact Nat.succ_pos _ | decide | simp) ?_ | refine a_alloc (fun nb_ hnb_ => ?_) | refine a_faddr_p ?_ | refine a_store_box (by first | exact .here _ | exact .there _ (.here _) | exact .there _ (.there _ (.here _)) | exact .there _ (.there _ (.there _ (.here _))) | exact .there _ (.there _ (.there _ (.there _ (.here _))))) rfl rfl rfl rfl ?_ | refine a_store_one (by first | exact .here _ | exact .there _ (.here _) | exact .there _ (.there _ (.here _)) | exact .there _ (.there _ (.there _ (.here _))) | exact .there _ (.there _ (.there _ (.there _ (.here _))))) (by first | assumption | rfl) rfl rfl (by first | decide | exact Nat.lt_of_sub_pos (Nat.succ_pos _) | simp | omega) rfl ?_ | refine a_store_row (by first | exact .here _ | exact .there _ (.here _) | exact .there _ (.there _ (.here _)) | exact .there _ (.there _ (.there _ (.here _))) | exact .there _ (.there _ (.there _ (.there _ (.here _))))) (by first | assumption | rfl) rfl rfl rfl rfl rfl ?_ | refine a_load_p (by first | exact .head _ | exact .tail _ (.head _) | exact .tail _ (.tail _ (.head _)) | exact .tail _ (.tail _ (.tail _ (.head _))) | exact .tail _ (.tail _ (.tail _ (.tail _ (.head _))))) (by first | assumption | rfl) rfl ?_ | refine a_row_q (by first | assumption | rfl) rfl ?_ | refine a_row_q (at_inB (by assumption)) rfl ?_ | refine a_row_p (by first | exact .head _ | exact .tail _ (.head _) | exact .tail _ (.tail _ (.head _)) | exact .tail _ (.tail _ (.tail _ (.head _))) | exact .tail _ (.tail _ (.tail _ (.tail _ (.head _))))) (by first | assumption | rfl) rfl ?_ | refine a_idx_n (by first | assumption | rfl) rfl ?_ | refine a_idx_l (by first | decide | omega) (by first | assumption | rfl) rfl ?_ | refine a_idx_l (nn_inB (by assumption)) (at_inB (by assumption)) rfl ?_ | refine a_idx_sn (by first | assumption | omega) (by first | exact .head _ | exact .tail _ (.head _) | exact .tail _ (.tail _ (.head _)) | exact .tail _ (.tail _ (.tail _ (.head _)))) rfl ?_ | refine a_ext rfl ?_ | refine a_build rfl ?_ | refine a_fld rfl ?_ | refine a_nil_p ?_ | refine a_nil_q ?_ | refine a_nil_f ?_ | refine a_note ?_ | refine a_join ?_ | refine a_len_s ?_ | refine a_len_n ?_ | refine a_lenS ?_ | refine a_tt ?_ | refine a_calm (by simp only [W.free, blocksOf, slOf, List.forall_mem_nil, List.forall_mem_cons, List.not_mem_nil, not_false_eq_true, implies_true, and_true, true_and, and_self, Bool.false_eq_true, reduceCtorEq, forall_const, false_implies, List.mem_singleton, forall_eq, List.append_nil, List.nil_append]) ?_ | refine a_dgrd_y (by first | assumption | rfl) ?_ | refine a_dgrd_n (by first | assumption | rfl) ?_ | refine a_dgrd_u ?_ | refine a_mslice (by omega) (by omega) (by omega) (fun nb_ hnb_ => ?_) | refine a_bslice (by decide) rfl (fun nb_ hnb_ => ?_) | refine a_idx_s (by first | decide | omega) (by first | assumption | omega) (by first | exact .head _ | exact .tail _ (.head _) | exact .tail _ (.tail _ (.head _)) | exact .tail _ (.tail _ (.tail _ (.head _)))) rfl ?_ | refine a_len_e ?_)
      exact fin _ _ none hot rfl ⟨_, _, rfl⟩
    | some bt =>
      dsimp only [slotL] at fin ⊢
      repeat' (first | refine a_load_q (by first | assumption | rfl) rfl ?_ | refine a_load_q (at_inB (by assumption)) rfl ?_ | refine a_faddr_q ?_ | refine a_len_m ?_ | refine a_len_l ?_ | refine a_grd_y (by first | assumption | rfl) ?_ | refine a_grd_n (by first | assumption | rfl) ?_ | refine a_grd_u ?_ | refine a_pick_t (by first | assumption | rfl) ?_ | refine a_pick_f (by first | assumption | rfl) ?_ | refine a_eql ?_ | refine a_lss ?_ | refine a_neq ?_ | refine a_geq ?_ | refine a_gtr ?_ | refine a_leq ?_ | refine a_add ?_ | refine a_sub ?_ | refine a_mul ?_ | refine a_eqs ?_ | refine a_nes ?_ | refine a_not ?_ | refine a_neg ?_ | refine a_conv ?_ | refine a_convS ?_ | refine a_cond_t (by first | assumption | rfl) ?_ | refine a_cond_f (by first | assumption | rfl) ?_ | refine a_box rfl rfl (fun nb_ hnb_ => ?_) | refine a_frz_p (by first | exact .here _ | exact .there _ (.here _) | exact .there _ (.there _ (.here _)) | exact .there _ (.there _ (.there _ (.here _)))) (by first | exact Nat.succ_pos _ | decide | simp) (by first | exact Nat.succ_pos _ | decide | simp) ?_ | refine a_alloc (fun nb_ hnb_ => ?_) | refine a_faddr_p ?_ | refine a_store_box (by first | exact .here _ | exact .there _ (.here _) | exact .there _ (.there _ (.here _)) | exact .there _ (.there _ (.there _ (.here _))) | exact .there _ (.there _ (.there _ (.there _ (.here _))))) rfl rfl rfl rfl ?_ | refine a_store_one (by first | exact .here _ | exact .there _ (.here _) | exact .there _ (.there _ (.here _)) | exact .there _ (.there _ (.there _ (.here _))) | exact .there _ (.there _ (.there _ (.there _ (.here _))))) (by first | assumption | rfl) rfl rfl (by first | decide | exact Nat.lt_of_sub_pos (Nat.succ_pos _) | simp | omega) rfl ?_ | refine a_store_row (by first | exact .here _ | exact .there _ (.here _) | exact .there _ (.there _ (.here _)) | exact .there _ (.there _ (.there _ (.here _))) | exact .there _ (.there _ (.there _ (.there _ (.here _))))) (by first | assumption | rfl) rfl rfl rfl rfl rfl ?_ | refine a_load_p (by first | exact .head _ | exact .tail _ (.head _) | exact .tail _ (.tail _ (.head _)) | exact .tail _ (.tail _ (.tail _ (.head _))) | exact .tail _ (.tail _ (.tail _ (.tail _ (.head _))))) (by first | assumption | rfl) rfl ?_ | refine a_row_q (by first | assumption | rfl) rfl ?_ | refine a_row_q (at_inB (by assumption)) rfl ?_ | refine a_row_p (by first | exact .head _ | exact .tail _ (.head _) | exact .tail _ (.tail _ (.head _)) | exact .tail _ (.tail _ (.tail _ (.head _))) | exact .tail _ (.tail _ (.tail _ (.tail _ (.head _))))) (by first | assumption | rfl) rfl ?_ | refine a_idx_n (by first | assumption | rfl) rfl ?_ | refine a_idx_l (by first | decide | omega) (by first | assumption | rfl) rfl ?_ | refine a_idx_l (nn_inB (by assumption)) (at_inB (by assumption)) rfl ?_ | refine a_idx_sn (by first | assumption | omega) (by first | exact .head _ | exact .tail _ (.head _) | exact .tail _ (.tail _ (.head _)) | exact .tail _ (.tail _ (.tail _ (.head _)))) rfl ?_ | refine a_ext rfl ?_ | refine a_build rfl ?_ | refine a_fld rfl ?_ | refine a_nil_p ?_ | refine a_nil_q ?_ | refine a_nil_f ?_ | refine a_note ?_ | refine a_join ?_ | refine a_len_s ?_ | refine a_len_n ?_ | refine a_lenS ?_ | refine a_tt ?_ | refine a_calm (by simp only [W.free, blocksOf, slOf, List.forall_mem_nil, List.forall_mem_cons, List.not_mem_nil, not_false_eq_true, implies_true, and_true, true_and, and_self, Bool.false_eq_true, reduceCtorEq, forall_const, false_implies, List.mem_singleton, forall_eq, List.append_nil, List.nil_append]) ?_ | refine a_dgrd_y (by first | assumption | rfl) ?_ | refine a_dgrd_n (by first | assumption | rfl) ?_ | refine a_dgrd_u ?_ | refine a_mslice (by omega) (by omega) (by omega) (fun nb_ hnb_ => ?_) | refine a_bslice (by decide) rfl (fun nb_ hnb_ => ?_) | refine a_idx_s (by first | decide | omega) (by first | assumption | omega) (by first | exact .head _ | exact .tail _ (.head _) | exact .tail _ (.tail _ (.head _)) | exact .tail _ (.tail _ (.tail _ (.head _)))) rfl ?_ | refine a_len_e ?_)
      exact fin _ _ (some bt) hot rfl ⟨_, _, rfl⟩
  | some bd =>
    dsimp only [slotL] at fin ⊢
    repeat' (first | refine a_load_q (by first | assumption | rfl) rfl ?_ | refine a_load_q (at_inB (by assumption)) rfl ?_ | refine a_faddr_q ?_ | refine a_len_m ?_ | refine a_len_l ?_ | refine a_grd_y (by first | assumption | rfl) ?_ | refine a_grd_n (by first | assumption | rfl) ?_ | refine a_grd_u ?_ | refine a_pick_t (by first | assumption | rfl) ?_ | refine a_pick_f (by first | assumption | rfl) ?_ | refine a_eql ?_ | refine a_lss ?_ | refine a_neq ?_ | refine a_geq ?_ | refine a_gtr ?_ | refine a_leq ?_ | refine a_add ?_ | refine a_sub ?_ | refine a_mul ?_ | refine a_eqs ?_ | refine a_nes ?_ | refine a_not ?_ | refine a_neg ?_ | refine a_conv ?_ | refine a_convS ?_ | refine a_cond_t (by first | assumption | rfl) ?_ | refine a_cond_f (by first | assumption | rfl) ?_ | refine a_box rfl rfl (fun nb_ hnb_ => ?_) | refine a_frz_p (by first | exact .here _ | exact .there _ (.here _) | exact .there _ (.there _ (.here _)) | exact .there _ (.there _ (.there _ (.here _)))) (by first | exact Nat.succ_pos _ | decide | simp) (by first | exact Nat.succ_pos _ | decide | simp) ?_ | refine a_alloc (fun nb_ hnb_ => ?_) | refine a_faddr_p ?_ | refine a_store_box (by first | exact .here _ | exact .there _ (.here _) | exact .there _ (.there _ (.here _)) | exact .there _ (.there _ (.there _ (.here _))) | exact .there _ (.there _ (.there _ (.there _ (.here _))))) rfl rfl rfl rfl ?_ | refine a_store_one (by first | exact .here _ | exact .there _ (.here _) | exact .there _ (.there _ (.here _)) | exact .there _ (.there _ (.there _ (.here _))) | exact .there _ (.there _ (.there _ (.there _ (.here _))))) (by first | assumption | rfl) rfl rfl (by first | decide | exact Nat.lt_of_sub_pos (Nat.succ_pos _) | simp | omega) rfl ?_ | refine a_store_row (by first | exact .here _ | exact .there _ (.here _) | exact .there _ (.there _ (.here _)) | exact .there _ (.there _ (.there _ (.here _))) | exact .there _ (.there _ (.there _ (.there _ (.here _))))) (by first | assumption | rfl) rfl rfl rfl rfl rfl ?_ | refine a_load_p (by first | exact .head _ | exact .tail _ (.head _) | exact .tail _ (.tail _ (.head _)) | exact .tail _ (.tail _ (.tail _ (.head _))) | exact .tail _ (.tail _ (.tail _ (.tail _ (.head _))))) (by first | assumption | rfl) rfl ?_ | refine a_row_q (by first | assumption | rfl) rfl ?_ | refine a_row_q (at_inB (by assumption)) rfl ?_ | refine a_row_p (by first | exact .head _ | exact .tail _ (.head _) | exact .tail _ (.tail _ (.head _)) | exact .tail _ (.tail _ (.tail _ (.head _))) | exact .tail _ (.tail _ (.tail _ (.tail _ (.head _))))) (by first | assumption | rfl) rfl ?_ | refine a_idx_n (by first | assumption | rfl) rfl ?_ | refine a_idx_l (by first | decide | omega) (by first | assumption | rfl) rfl ?_ | refine a_idx_l (nn_inB (by assumption)) (at_inB (by assumption)) rfl ?_ | refine a_idx_sn (by first | assumption | omega) (by first | exact .head _ | exact .tail _ (.head _) | exact .tail _ (.tail _ (.head _)) | exact .tail _ (.tail _ (.tail _ (.head _)))) rfl ?_ | refine a_ext rfl ?_ | refine a_build rfl ?_ | refine a_fld rfl ?_ | refine a_nil_p ?_ | refine a_nil_q ?_ | refine a_nil_f ?_ | refine a_note ?_ | refine a_join ?_ | refine a_len_s ?_ | refine a_len_n ?_ | refine a_lenS ?_ | refine a_tt ?_ | refine a_calm (by simp only [W.free, blocksOf, slOf, List.forall_mem_nil, List.forall_mem_cons, List.not_mem_nil, not_false_eq_true, implies_true, and_true, true_and, and_self, Bool.false_eq_true, reduceCtorEq, forall_const, false_implies, List.mem_singleton, forall_eq, List.append_nil, List.nil_append]) ?_ | refine a_dgrd_y (by first | assumption | rfl) ?_ | refine a_dgrd_n (by first | assumption | rfl) ?_ | refine a_dgrd_u ?_ | refine a_mslice (by omega) (by omega) (by omega) (fun nb_ hnb_ => ?_) | refine a_bslice (by decide) rfl (fun nb_ hnb_ => ?_) | refine a_idx_s (by first | decide | omega) (by first | assumption | omega) (by first | exact .head _ | exact .tail _ (.head _) | exact .tail _ (.tail _ (.head _)) | exact .tail _ (.tail _ (.tail _ (.head _)))) rfl ?_ | refine a_len_e ?_)
    refine call_back (cloneT_ok _ (small_mul h3)) ?_
    rintro v K ⟨ot, rfl, rfl, hot⟩
    unfold object_clone_c1
    cases ot with
    | none =>
      dsimp only [slotL] at fin ⊢
      repeat' (first | refine a_load_q (by first | assumption | rfl) rfl ?_ | refine a_load_q (at_inB (by assumption)) rfl ?_ | refine a_faddr_q ?_ | refine a_len_m ?_ | refine a_len_l ?_ | refine a_grd_y (by first | assumption | rfl) ?_ | refine a_grd_n (by first | assumption | rfl) ?_ | refine a_grd_u ?_ | refine a_pick_t (by first | assumption | rfl) ?_ | refine a_pick_f (by first | assumption | rfl) ?_ | refine a_eql ?_ | refine a_lss ?_ | refine a_neq ?_ | refine a_geq ?_ | refine a_gtr ?_ | refine a_leq ?_ | refine a_add ?_ | refine a_sub ?_ | refine a_mul ?_ | refine a_eqs ?_ | refine a_nes ?_ | refine a_not ?_ | refine a_neg ?_ | refine a_conv ?_ | refine a_convS ?_ | refine a_cond_t (by first | assumption | rfl) ?_ | refine a_cond_f (by first | assumption | rfl) ?_ | refine a_box rfl rfl (fun nb_ hnb_ => ?_) | refine a_frz_p (by first | exact .here _ | exact .there _ (.here _) | exact .there _ (.there _ (.here _)) | exact .there _ (.there _ (.there _ (.here _)))) (by first | exact Nat.succ_pos _ | decide | simp) (by first | exact Nat.succ_pos _ | decide | simp) ?_ | refine a_alloc (fun nb_ hnb_ => ?_) | refine a_faddr_p ?_ | refine a_store_box (by first | exact .here _ | exact .there _ (.here _) | exact .there _ (.there _ (.here _)) | exact .there _ (.there _ (.there _ (.here _))) | exact .there _ (.there _ (.there _ (.there _ (.here _))))) rfl rfl rfl rfl ?_ | refine a_store_one (by first | exact .here _ | exact .there _ (.here _) | exact .there _ (.there _ (.here _)) | exact .there _ (.there _ (.there _ (.here _))) | exact .there _ (.there _ (.there _ (.there _ (.here _))))) (by first | assumption | rfl) rfl rfl (by first | decide | exact Nat.lt_of_sub_pos (Nat.succ_pos _) | simp | omega) rfl ?_ | refine a_store_row (by first | exact .here _ | exact .there _ (.here _) | exact .there _ (.there _ (.here _)) | exact .there _ (.there _ (.there _ (.here _))) | exact .there _ (.there _ (.there _ (.there _ (.here _))))) (by first | assumption | rfl) rfl rfl rfl rfl rfl ?_ | refine a_load_p (by first | exact .head _ | exact .tail _ (.head _) | exact .tail _ (.tail _ (.head _)) | exact .tail _ (.tail _ (.tail _ (.head _))) | exact .tail _ (.tail _ (.tail _ (.tail _ (.head _))))) (by first | assumption | rfl) rfl ?_ | refine a_row_q (by first | assumption | rfl) rfl ?_ | refine a_row_q (at_inB (by assumption)) rfl ?_ | refine a_row_p (by first | exact .head _ | exact .tail _ (.head _) | exact .tail _ (.tail _ (.head _)) | exact .tail _ (.tail _ (.tail _ (.head _))) | exact .tail _ (.tail _ (.tail _ (.tail _ (.head _))))) (by first | assumption | rfl) rfl ?_ | refine a_idx_n (by first | assumption | rfl) rfl ?_ | refine a_idx_l (by first | decide | omega) (by first | assumption | rfl) rfl ?_ | refine a_idx_l (nn_inB (by assumption)) (at_inB (by assumption)) rfl ?_ | refine a_idx_sn (by first | assumption | omega) (by first | exact .head _ | exact .tail _ (.head _) | exact .tail _ (.tail _ (.head _)) | exact .tail _ (.tail _ (.tail _ (.head _)))) rfl ?_ | refine a_ext rfl ?_ | refine a_build rfl ?_ | refine a_fld rfl ?_ | refine a_nil_p ?_ | refine a_nil_q ?_ | refine a_nil_f ?_ | refine a_note ?_ | refine a_join ?_ | refine a_len_s ?_ | refine a_len_n ?_ | refine a_lenS ?_ | refine a_tt ?_ | refine a_calm (by simp only [W.free, blocksOf, slOf, List.forall_mem_nil, List.forall_mem_cons, List.not_mem_nil, not_false_eq_true, implies_true, and_true, true_and, and_self, Bool.false_eq_true, reduceCtorEq, forall_const, false_implies, List.mem_singleton, forall_eq, List.append_nil, List.nil_append]) ?_ | refine a_dgrd_y (by first | assumption | rfl) ?_ | refine a_dgrd_n (by first | assumption | rfl) ?_ | refine a_dgrd_u ?_ | refine a_mslice (by omega) (by omega) (by omega) (fun nb_ hnb_ => ?_) | refine a_bslice (by decide) rfl (fun nb_ hnb_ => ?_) | refine a_idx_s (by first | decide | omega) (by first | assumption | omega) (by first | exact .head _ | exact .tail _ (.head _) | exact .tail _ (.tail _ (.head _)) | exact .tail _ (.tail _ (.tail _ (.head _)))) rfl ?_ | refine a_len_e ?_)
      exact fin _ _ none hot rfl ⟨_, _, rfl⟩
    | some bt =>
      dsimp only [slotL] at fin ⊢
      repeat' (first | refine a_load_q (by first | assumption | rfl) rfl ?_ | refine a_load_q (at_inB (by assumption)) rfl ?_ | refine a_faddr_q ?_ | refine a_len_m ?_ | refine a_len_l ?_ | refine a_grd_y (by first | assumption | rfl) ?_ | refine a_grd_n (by first | assumption | rfl) ?_ | refine a_grd_u ?_ | refine a_pick_t (by first | assumption | rfl) ?_ | refine a_pick_f (by first | assumption | rfl) ?_ | refine a_eql ?_ | refine a_lss ?_ | refine a_neq ?_ | refine a_geq ?_ | refine a_gtr ?_ | refine a_leq ?_ | refine a_add ?_ | refine a_sub ?_ | refine a_mul ?_ | refine a_eqs ?_ | refine a_nes ?_ | refine a_not ?_ | refine a_neg ?_ | refine a_conv ?_ | refine a_convS ?_ | refine a_cond_t (by first | assumption | rfl) ?_ | refine a_cond_f (by first | assumption | rfl) ?_ | refine a_box rfl rfl (fun nb_ hnb_ => ?_) | refine a_frz_p (by first | exact .here _ | exact .there _ (.here _) | exact .there _ (.there _ (.here _)) | exact .there _ (.there _ (.there _ (.here _)))) (by first | exact Nat.succ_pos _ | decide | simp) (by first | exact Nat.succ_pos _ | decide | simp) ?_ | refine a_alloc (fun nb_ hnb_ => ?_) | refine a_faddr_p ?_ | refine a_store_box (by first | exact .here _ | exact .there _ (.here _) | exact .there _ (.there _ (.here _)) | exact .there _ (.there _ (.there _ (.here _))) | exact .there _ (.there _ (.there _ (.there _ (.here _))))) rfl rfl rfl rfl ?_ | refine a_store_one (by first | exact .here _ | exact .there _ (.here _) | exact .there _ (.there _ (.here _)) | exact .there _ (.there _ (.there _ (.here _))) | exact .there _ (.there _ (.there _ (.there _ (.here _))))) (by first | assumption | rfl) rfl rfl (by first | decide | exact Nat.lt_of_sub_pos (Nat.succ_pos _) | simp | omega) rfl ?_ | refine a_store_row (by first | exact .here _ | exact .there _ (.here _) | exact .there _ (.there _ (.here _)) | exact .there _ (.there _ (.there _ (.here _))) | exact .there _ (.there _ (.there _ (.there _ (.here _))))) (by first | assumption | rfl) rfl rfl rfl rfl rfl ?_ | refine a_load_p (by first | exact .head _ | exact .tail _ (.head _) | exact .tail _ (.tail _ (.head _)) | exact .tail _ (.tail _ (.tail _ (.head _))) | exact .tail _ (.tail _ (.tail _ (.tail _ (.head _))))) (by first | assumption | rfl) rfl ?_ | refine a_row_q (by first | assumption | rfl) rfl ?_ | refine a_row_q (at_inB (by assumption)) rfl ?_ | refine a_row_p (by first | exact .head _ | exact .tail _ (.head _) | exact .tail _ (.tail _ (.head _)) | exact .tail _ (.tail _ (.tail _ (.head _))) | exact .tail _ (.tail _ (.tail _ (.tail _ (.head _))))) (by first | assumption | rfl) rfl ?_ | refine a_idx_n (by first | assumption | rfl) rfl ?_ | refine a_idx_l (by first | decide | omega) (by first | assumption | rfl) rfl ?_ | refine a_idx_l (nn_inB (by assumption)) (at_inB (by assumption)) rfl ?_ | refine a_idx_sn (by first | assumption | omega) (by first | exact .head _ | exact .tail _ (.head _) | exact .tail _ (.tail _ (.head _)) | exact .tail _ (.tail _ (.tail _ (.head _)))) rfl ?_ | refine a_ext rfl ?_ | refine a_build rfl ?_ | refine a_fld rfl ?_ | refine a_nil_p ?_ | refine a_nil_q ?_ | refine a_nil_f ?_ | refine a_note ?_ | refine a_join ?_ | refine a_len_s ?_ | refine a_len_n ?_ | refine a_lenS ?_ | refine a_tt ?_ | refine a_calm (by simp only [W.free, blocksOf, slOf, List.forall_mem_nil, List.forall_mem_cons, List.not_mem_nil, not_false_eq_true, implies_true, and_true, true_and, and_self, Bool.false_eq_true, reduceCtorEq, forall_const, false_implies, List.mem_singleton, forall_eq, List.append_nil, List.nil_append]) ?_ | refine a_dgrd_y (by first | assumption | rfl) ?_ | refine a_dgrd_n (by first | assumption | rfl) ?_ | refine a_dgrd_u ?_ | refine a_mslice (by omega) (by omega) (by omega) (fun nb_ hnb_ => ?_) | refine a_bslice (by decide) rfl (fun nb_ hnb_ => ?_) | refine a_idx_s (by first | decide | omega) (by first | assumption | omega) (by first | exact .head _ | exact .tail _ (.head _) | exact .tail _ (.tail _ (.head _)) | exact .tail _ (.tail _ (.tail _ (.head _)))) rfl ?_ | refine a_len_e ?_)
      exact fin _ _ (some bt) hot rfl ⟨_, _, rfl⟩
end Go.Proofs.Ytadjimfkfmojkaa.Am

end
section
namespace Go.Proofs.Ytadjimfkfmojkaa.Am
set_option linter.unusedVariables false
set_option maxRecDepth 100000
def object_ApplyF_t : Hints := ⟨fun k => if k = 43 then some [7, 12, 15] else if k = 11 then some [4, 5, 6, 7, 8, 12, 15, 27, 42] else if k = 14 then some [4, 5, 6, 7, 8, 12, 15, 27, 51] else none, fun k => [], fun k => if k = 0 then [6, 8] else [], fun k => if k = 17 then [0, 1, 0, 7, 15, 31, 0, 64, 255, 511] else if k = 19 then [0, 1, 0, 0, 8, 31, 63, 127] else if k = 21 then [0, 1, 0, 0, 8, 0, 56, 120, 248, 0, 1016, 2047, 4095, 8191] else if k = 31 then [0, 1, 0, 4, 0, 28, 60, 124, 255, 511, 1023] else if k = 32 then [0, 1, 0, 0, 8, 0, 0, 7, 135, 391, 1023, 2047, 4095] else if k = 34 then [0, 1, 0, 4, 0, 28, 60, 124, 0, 511, 1023, 2047] else if k = 35 then [0, 1, 0, 0, 8, 0, 7, 71, 199, 511, 1023, 2047] else []⟩
def object_ApplyF_zt0 (t12_6 : AV) (L_16 : SH) (Q : AV → SH → Prop)  : Prop :=
 W.build [.nils, (.int .i64 0), .nils, .nils] [] fun t24_18 =>
 W.store 4 t12_6 t24_18 L_16 fun L_19 =>
 W.load true 4 t12_6 L_19 fun r_20 =>
 Q (.tup [r_20, (.int .i64 0), (.bool false)]) L_19
def object_ApplyF_j0 (Q : AV → SH → Prop) (vs_25 : List AV) (L_27 : SH) : Prop :=
 W.load true 4 (slotOf [7, 12, 15] vs_25 7) L_27 fun t185_28 =>
 W.store 4 (slotOf [7, 12, 15] vs_25 12) t185_28 L_27 fun L_29 =>
 W.load true 4 (slotOf [7, 12, 15] vs_25 12) L_29 fun r_30 =>
 Q (.tup [r_30, (slotOf [7, 12, 15] vs_25 15), (.bool true)]) L_29
def object_ApplyF_zt1 (t7_2 : AV) (L_24 : SH) (t8_10 : AV) (j_26 : W.Kn) (t12_6 : AV)  : Prop :=
 W.faddr 3 t7_2 fun t30_32 =>
 W.load false 1 t30_32 L_24 fun t31_33 =>
 W.load false 1 t8_10 L_24 fun t32_34 =>
 W.idx 3 t31_33 t32_34 L_24 fun t33_35 =>
 W.faddr 0 t33_35 fun t34_36 =>
 W.store 1 t34_36 (.int .i64 2) L_24 fun L_37 =>
 j_26 [t7_2, t12_6, (.int .i64 0)] L_37
def object_ApplyF_zt2 (t7_2 : AV) (L_24 : SH) (t8_10 : AV) (j_26 : W.Kn) (t12_6 : AV)  : Prop :=
 W.faddr 3 t7_2 fun t37_39 =>
 W.load false 1 t37_39 L_24 fun t38_40 =>
 W.load false 1 t8_10 L_24 fun t39_41 =>
 W.idx 3 t38_40 t39_41 L_24 fun t40_42 =>
 W.faddr 0 t40_42 fun t41_43 =>
 W.store 1 t41_43 (.int .i64 5) L_24 fun L_44 =>
 j_26 [t7_2, t12_6, (.int .i64 0)] L_44
def object_ApplyF_zt3 (vs_45 : List AV) (L_47 : SH) (j_26 : W.Kn)  : Prop :=
 W.faddr 0 (slotOf [4, 5, 6, 7, 8, 12, 15, 27, 42] vs_45 7) fun t45_48 =>
 W.load false 1 t45_48 L_47 fun t46_49 =>
 W.load false 1 (slotOf [4, 5, 6, 7, 8, 12, 15, 27, 42] vs_45 8) L_47 fun t48_50 =>
 W.idx 2 t46_49 (slotOf [4, 5, 6, 7, 8, 12, 15, 27, 42] vs_45 4) L_47 fun t49_51 =>
 W.faddr 0 t49_51 fun t50_52 =>
 W.store 1 t50_52 t48_50 L_47 fun L_53 =>
 j_26 [(slotOf [4, 5, 6, 7, 8, 12, 15, 27, 42] vs_45 7), (slotOf [4, 5, 6, 7, 8, 12, 15, 27, 42] vs_45 12), (slotOf [4, 5, 6, 7, 8, 12, 15, 27, 42] vs_45 15)] L_53
def object_ApplyF_zt4 (vs_54 : List AV) (L_56 : SH) (j_26 : W.Kn)  : Prop :=
 W.faddr 0 (slotOf [4, 5, 6, 7, 8, 12, 15, 27, 51] vs_54 7) fun t54_57 =>
 W.load false 1 t54_57 L_56 fun t55_58 =>
 W.idx 2 t55_58 (slotOf [4, 5, 6, 7, 8, 12, 15, 27, 51] vs_54 4) L_56 fun t57_59 =>
 W.faddr 0 t57_59 fun t58_60 =>
 W.store 1 t58_60 (.int .i64 (-1)) L_56 fun L_61 =>
 j_26 [(slotOf [4, 5, 6, 7, 8, 12, 15, 27, 51] vs_54 7), (slotOf [4, 5, 6, 7, 8, 12, 15, 27, 51] vs_54 12), (slotOf [4, 5, 6, 7, 8, 12, 15, 27, 51] vs_54 15)] L_61
def object_ApplyF_d1 (L_80 : SH) (t73_82 : AV) (vs_54 : List AV) (j_26 : W.Kn) (t76_84 : AV) (L_86 : SH) (ks_85 : List Nat) : Prop :=
 W.note ⟨[], ks_85, [], L_80.names⟩ fun r_87 =>
 W.calm [] ⟨5, (slOf t73_82), [], [], false, []⟩ (
 W.idx 2 t73_82 (slotOf [4, 5, 6, 7, 8, 12, 15, 27, 51] vs_54 4) L_86 fun t77_88 =>
 W.note ⟨(slOf t73_82), [], [], []⟩ fun r_89 =>
 W.faddr 1 t77_88 fun t78_90 =>
 W.calm [] ⟨7, (blocksOf t78_90), (blocksOf t78_90), [], false, []⟩ (
 W.store 1 t78_90 t76_84 L_86 fun L_91 =>
 W.note ⟨(blocksOf t78_90), (blocksOf t78_90), [], []⟩ fun r_92 =>
 j_26 [(slotOf [4, 5, 6, 7, 8, 12, 15, 27, 51] vs_54 7), (slotOf [4, 5, 6, 7, 8, 12, 15, 27, 51] vs_54 12), (slotOf [4, 5, 6, 7, 8, 12, 15, 27, 51] vs_54 15)] L_91))
def object_ApplyF_c2 (vs_54 : List AV) (t69_76 : AV) (j_26 : W.Kn) (t71_79 : AV) (L_80 : SH) : Prop :=
 (true = true) ∧ (
 W.faddr 0 (slotOf [4, 5, 6, 7, 8, 12, 15, 27, 51] vs_54 7) fun t72_81 =>
 W.calm [] ⟨1, (blocksOf t72_81), [], [], false, []⟩ (
 W.load false 1 t72_81 L_80 fun t73_82 =>
 W.note ⟨(blocksOf t72_81), [], [], []⟩ fun r_83 =>
 W.dcall Try.prog [⟨1, r_83.reads, r_83.writes, r_83.made, false, r_83.old⟩] 4 (.fn 41 []) [t69_76] L_80 (object_ApplyF_d1 L_80 t73_82 vs_54 j_26)))
def object_ApplyF_zt5 (vs_54 : List AV) (L_56 : SH) (j_26 : W.Kn)  : Prop :=
 (true = true) ∧ (
 W.faddr 0 (slotOf [4, 5, 6, 7, 8, 12, 15, 27, 51] vs_54 7) fun t61_63 =>
 W.calm [] ⟨1, (blocksOf t61_63), [], [], false, []⟩ (
 W.load false 1 t61_63 L_56 fun t62_64 =>
 W.note ⟨(blocksOf t61_63), [], [], []⟩ fun r_65 =>
 W.calm [] ⟨3, (slOf t62_64), [], [], false, []⟩ (
 W.idx 2 t62_64 (slotOf [4, 5, 6, 7, 8, 12, 15, 27, 51] vs_54 4) L_56 fun t64_66 =>
 W.note ⟨(slOf t62_64), [], [], []⟩ fun r_67 =>
 W.faddr 1 t64_66 fun t65_68 =>
 W.calm [] ⟨5, (blocksOf t65_68), [], [], false, []⟩ (
 W.load false 1 t65_68 L_56 fun t66_69 =>
 W.note ⟨(blocksOf t65_68), [], [], []⟩ fun r_70 =>
 W.calm [⟨5, r_70.reads, r_70.writes, r_70.made, false, r_70.old⟩, ⟨3, r_67.reads, r_67.writes, r_67.made, false, r_67.old⟩, ⟨1, r_65.reads, r_65.writes, r_65.made, false, r_65.old⟩] ⟨6, (blocksOf (slotOf [4, 5, 6, 7, 8, 12, 15, 27, 51] vs_54 8)), [], [], false, []⟩ (
 W.load false 1 (slotOf [4, 5, 6, 7, 8, 12, 15, 27, 51] vs_54 8) L_56 fun t67_71 =>
 W.note ⟨(blocksOf (slotOf [4, 5, 6, 7, 8, 12, 15, 27, 51] vs_54 8)), [], [], []⟩ fun r_72 =>
 W.calm [⟨5, r_70.reads, r_70.writes, r_70.made, false, r_70.old⟩, ⟨3, r_67.reads, r_67.writes, r_67.made, false, r_67.old⟩, ⟨1, r_65.reads, r_65.writes, r_65.made, false, r_65.old⟩] ⟨7, [], [], [], false, []⟩ (
 W.bslice 1 [(.int .i64 0)] 1 [(0, t67_71)] L_56 fun t68_73 L_74 =>
 W.note ⟨[], [], (blocksOf t68_73), []⟩ fun r_75 =>
 W.calm [] ⟨8, (blocksOf t66_69 ++ blocksOf t68_73), (blocksOf t66_69), [], false, []⟩ (
 W.append 1 8 t66_69 t68_73 L_74 fun t69_76 L_77 =>
 W.note ⟨(blocksOf t66_69 ++ blocksOf t68_73), (blocksOf t66_69), (blocksOf t69_76), []⟩ fun r_78 =>
 W.call Try.prog (.fn 40 []) [t69_76] L_77 (object_ApplyF_c2 vs_54 t69_76 j_26))))))))
def object_ApplyF_d3 (L_56 : SH) (t82_95 : AV) (vs_54 : List AV) (j_26 : W.Kn) (t91_105 : AV) (L_107 : SH) (ks_106 : List Nat) : Prop :=
 W.note ⟨[], ks_106, [], L_56.names⟩ fun r_108 =>
 W.calm [] ⟨11, (slOf t82_95), [], [], false, []⟩ (
 W.idx 2 t82_95 (slotOf [4, 5, 6, 7, 8, 12, 15, 27, 51] vs_54 4) L_107 fun t92_109 =>
 W.note ⟨(slOf t82_95), [], [], []⟩ fun r_110 =>
 W.faddr 1 t92_109 fun t93_111 =>
 W.calm [] ⟨13, (blocksOf t93_111), (blocksOf t93_111), [], false, []⟩ (
 W.store 1 t93_111 t91_105 L_107 fun L_112 =>
 W.note ⟨(blocksOf t93_111), (blocksOf t93_111), [], []⟩ fun r_113 =>
 j_26 [(slotOf [4, 5, 6, 7, 8, 12, 15, 27, 51] vs_54 7), (slotOf [4, 5, 6, 7, 8, 12, 15, 27, 51] vs_54 12), (slotOf [4, 5, 6, 7, 8, 12, 15, 27, 51] vs_54 15)] L_112))
def object_ApplyF_zt6 (vs_54 : List AV) (L_56 : SH) (j_26 : W.Kn)  : Prop :=
 (true = true) ∧ (
 W.faddr 0 (slotOf [4, 5, 6, 7, 8, 12, 15, 27, 51] vs_54 7) fun t81_94 =>
 W.calm [] ⟨1, (blocksOf t81_94), [], [], false, []⟩ (
 W.load false 1 t81_94 L_56 fun t82_95 =>
 W.note ⟨(blocksOf t81_94), [], [], []⟩ fun r_96 =>
 W.faddr 0 (slotOf [4, 5, 6, 7, 8, 12, 15, 27, 51] vs_54 7) fun t84_97 =>
 W.calm [⟨1, r_96.reads, r_96.writes, r_96.made, false, r_96.old⟩] ⟨4, (blocksOf t84_97), [], [], false, []⟩ (
 W.load false 1 t84_97 L_56 fun t85_98 =>
 W.note ⟨(blocksOf t84_97), [], [], []⟩ fun r_99 =>
 W.calm [⟨1, r_96.reads, r_96.writes, r_96.made, false, r_96.old⟩] ⟨6, (slOf t85_98), [], [], false, []⟩ (
 W.idx 2 t85_98 (slotOf [4, 5, 6, 7, 8, 12, 15, 27, 51] vs_54 4) L_56 fun t87_100 =>
 W.note ⟨(slOf t85_98), [], [], []⟩ fun r_101 =>
 W.faddr 1 t87_100 fun t88_102 =>
 W.calm [⟨1, r_96.reads, r_96.writes, r_96.made, false, r_96.old⟩] ⟨8, (blocksOf t88_102), [], [], false, []⟩ (
 W.load false 1 t88_102 L_56 fun t89_103 =>
 W.note ⟨(blocksOf t88_102), [], [], []⟩ fun r_104 =>
 W.dcall Try.prog [⟨1, r_96.reads, r_96.writes, r_96.made, false, r_96.old⟩] 10 (.fn 48 []) [t89_103, (.fn 49 [(slotOf [4, 5, 6, 7, 8, 12, 15, 27, 51] vs_54 8)])] L_56 (object_ApplyF_d3 L_56 t82_95 vs_54 j_26))))))
def object_ApplyF_zt7 (vs_54 : List AV) (L_56 : SH) (j_26 : W.Kn)  : Prop :=
 W.load false 1 (slotOf [4, 5, 6, 7, 8, 12, 15, 27, 51] vs_54 8) L_56 fun t96_115 =>
 W.faddr 1 (slotOf [4, 5, 6, 7, 8, 12, 15, 27, 51] vs_54 7) fun t97_116 =>
 W.store 1 t97_116 t96_115 L_56 fun L_117 =>
 j_26 [(slotOf [4, 5, 6, 7, 8, 12, 15, 27, 51] vs_54 7), (slotOf [4, 5, 6, 7, 8, 12, 15, 27, 51] vs_54 12), (slotOf [4, 5, 6, 7, 8, 12, 15, 27, 51] vs_54 15)] L_117
def object_ApplyF_zt8 (vs_54 : List AV) (L_56 : SH) (j_26 : W.Kn)  : Prop :=
 W.faddr 1 (slotOf [4, 5, 6, 7, 8, 12, 15, 27, 51] vs_54 7) fun t100_119 =>
 W.store 1 t100_119 (.int .i64 (-1)) L_56 fun L_120 =>
 j_26 [(slotOf [4, 5, 6, 7, 8, 12, 15, 27, 51] vs_54 7), (slotOf [4, 5, 6, 7, 8, 12, 15, 27, 51] vs_54 12), (slotOf [4, 5, 6, 7, 8, 12, 15, 27, 51] vs_54 15)] L_120
def object_ApplyF_zt9 (vs_54 : List AV) (L_56 : SH) (j_26 : W.Kn)  : Prop :=
 W.faddr 3 (slotOf [4, 5, 6, 7, 8, 12, 15, 27, 51] vs_54 7) fun t103_122 =>
 W.load false 1 t103_122 L_56 fun t104_123 =>
 W.load false 1 (slotOf [4, 5, 6, 7, 8, 12, 15, 27, 51] vs_54 8) L_56 fun t105_124 =>
 W.idx 3 t104_123 t105_124 L_56 fun t106_125 =>
 W.faddr 2 t106_125 fun t107_126 =>
 W.store 1 t107_126 (.bool true) L_56 fun L_127 =>
 j_26 [(slotOf [4, 5, 6, 7, 8, 12, 15, 27, 51] vs_54 7), (slotOf [4, 5, 6, 7, 8, 12, 15, 27, 51] vs_54 12), (slotOf [4, 5, 6, 7, 8, 12, 15, 27, 51] vs_54 15)] L_127
def object_ApplyF_zt10 (vs_54 : List AV) (L_56 : SH) (j_26 : W.Kn)  : Prop :=
 W.faddr 3 (slotOf [4, 5, 6, 7, 8, 12, 15, 27, 51] vs_54 7) fun t110_129 =>
 W.load false 1 t110_129 L_56 fun t111_130 =>
 W.load false 1 (slotOf [4, 5, 6, 7, 8, 12, 15, 27, 51] vs_54 8) L_56 fun t112_131 =>
 W.idx 3 t111_130 t112_131 L_56 fun t113_132 =>
 W.faddr 2 t113_132 fun t114_133 =>
 W.store 1 t114_133 (.bool false) L_56 fun L_134 =>
 j_26 [(slotOf [4, 5, 6, 7, 8, 12, 15, 27, 51] vs_54 7), (slotOf [4, 5, 6, 7, 8, 12, 15, 27, 51] vs_54 12), (slotOf [4, 5, 6, 7, 8, 12, 15, 27, 51] vs_54 15)] L_134
def object_ApplyF_zt11 (vs_54 : List AV) (L_56 : SH) (j_26 : W.Kn)  : Prop :=
 (true = true) ∧ (
 W.faddr 0 (slotOf [4, 5, 6, 7, 8, 12, 15, 27, 51] vs_54 7) fun t117_136 =>
 W.calm [] ⟨1, (blocksOf t117_136), [], [], false, []⟩ (
 W.load false 1 t117_136 L_56 fun t118_137 =>
 W.note ⟨(blocksOf t117_136), [], [], []⟩ fun r_138 =>
 W.faddr 2 (slotOf [4, 5, 6, 7, 8, 12, 15, 27, 51] vs_54 6) fun t119_139 =>
 W.calm [⟨1, r_138.reads, r_138.writes, r_138.made, false, r_138.old⟩] ⟨3, (blocksOf t119_139), [], [], false, []⟩ (
 W.load false 1 t119_139 L_56 fun t120_140 =>
 W.note ⟨(blocksOf t119_139), [], [], []⟩ fun r_141 =>
 W.calm [⟨1, r_138.reads, r_138.writes, r_138.made, false, r_138.old⟩] ⟨5, (slOf t120_140), [], [], false, []⟩ (
 W.idx 2 t120_140 (slotOf [4, 5, 6, 7, 8, 12, 15, 27, 51] vs_54 4) L_56 fun t122_142 =>
 W.note ⟨(slOf t120_140), [], [], []⟩ fun r_143 =>
 W.faddr 1 t122_142 fun t123_144 =>
 W.calm [⟨1, r_138.reads, r_138.writes, r_138.made, false, r_138.old⟩] ⟨7, (blocksOf t123_144), [], [], false, []⟩ (
 W.load false 1 t123_144 L_56 fun t124_145 =>
 W.note ⟨(blocksOf t123_144), [], [], []⟩ fun r_146 =>
 W.calm [] ⟨8, (slOf t118_137), [], [], false, []⟩ (
 W.idx 2 t118_137 t124_145 L_56 fun t125_147 =>
 W.note ⟨(slOf t118_137), [], [], []⟩ fun r_148 =>
 W.faddr 0 t125_147 fun t126_149 =>
 W.calm [] ⟨10, (blocksOf t126_149), (blocksOf t126_149), [], false, []⟩ (
 W.store 1 t126_149 (.int .i64 (-1)) L_56 fun L_150 =>
 W.note ⟨(blocksOf t126_149), (blocksOf t126_149), [], []⟩ fun r_151 =>
 (true = true) ∧ (
 W.faddr 3 (slotOf [4, 5, 6, 7, 8, 12, 15, 27, 51] vs_54 7) fun t127_152 =>
 W.calm [] ⟨1, (blocksOf t127_152), [], [], false, []⟩ (
 W.load false 1 t127_152 L_150 fun t128_153 =>
 W.note ⟨(blocksOf t127_152), [], [], []⟩ fun r_154 =>
 W.calm [⟨1, r_154.reads, r_154.writes, r_154.made, false, r_154.old⟩] ⟨2, (blocksOf (slotOf [4, 5, 6, 7, 8, 12, 15, 27, 51] vs_54 8)), [], [], false, []⟩ (
 W.load false 1 (slotOf [4, 5, 6, 7, 8, 12, 15, 27, 51] vs_54 8) L_150 fun t129_155 =>
 W.note ⟨(blocksOf (slotOf [4, 5, 6, 7, 8, 12, 15, 27, 51] vs_54 8)), [], [], []⟩ fun r_156 =>
 W.faddr 3 (slotOf [4, 5, 6, 7, 8, 12, 15, 27, 51] vs_54 7) fun t130_157 =>
 W.calm [⟨2, r_156.reads, r_156.writes, r_156.made, false, r_156.old⟩, ⟨1, r_154.reads, r_154.writes, r_154.made, false, r_154.old⟩] ⟨4, (blocksOf t130_157), [], [], false, []⟩ (
 W.load false 1 t130_157 L_150 fun t131_158 =>
 W.note ⟨(blocksOf t130_157), [], [], []⟩ fun r_159 =>
 W.calm [⟨4, r_159.reads, r_159.writes, r_159.made, false, r_159.old⟩, ⟨2, r_156.reads, r_156.writes, r_156.made, false, r_156.old⟩, ⟨1, r_154.reads, r_154.writes, r_154.made, false, r_154.old⟩] ⟨5, (blocksOf (slotOf [4, 5, 6, 7, 8, 12, 15, 27, 51] vs_54 8)), [], [], false, []⟩ (
 W.load false 1 (slotOf [4, 5, 6, 7, 8, 12, 15, 27, 51] vs_54 8) L_150 fun t132_160 =>
 W.note ⟨(blocksOf (slotOf [4, 5, 6, 7, 8, 12, 15, 27, 51] vs_54 8)), [], [], []⟩ fun r_161 =>
 W.calm [⟨5, r_161.reads, r_161.writes, r_161.made, false, r_161.old⟩, ⟨4, r_159.reads, r_159.writes, r_159.made, false, r_159.old⟩] ⟨7, (slOf t128_153), [], [], false, []⟩ (
 W.idx 3 t128_153 t129_155 L_150 fun t134_162 =>
 W.note ⟨(slOf t128_153), [], [], []⟩ fun r_163 =>
 W.faddr 0 t134_162 fun t135_164 =>
 W.calm [⟨5, r_161.reads, r_161.writes, r_161.made, false, r_161.old⟩, ⟨4, r_159.reads, r_159.writes, r_159.made, false, r_159.old⟩] ⟨9, (blocksOf t135_164), (blocksOf t135_164), [], false, []⟩ (
 W.store 1 t135_164 (.int .i64 3) L_150 fun L_165 =>
 W.note ⟨(blocksOf t135_164), (blocksOf t135_164), [], []⟩ fun r_166 =>
 W.calm [] ⟨10, (slOf t131_158), [], [], false, []⟩ (
 W.idx 3 t131_158 t132_160 L_165 fun t136_167 =>
 W.note ⟨(slOf t131_158), [], [], []⟩ fun r_168 =>
 W.faddr 1 t136_167 fun t137_169 =>
 W.calm [] ⟨12, (blocksOf t137_169), (blocksOf t137_169), [], false, []⟩ (
 W.store 1 t137_169 (slotOf [4, 5, 6, 7, 8, 12, 15, 27, 51] vs_54 4) L_165 fun L_170 =>
 W.note ⟨(blocksOf t137_169), (blocksOf t137_169), [], []⟩ fun r_171 =>
 j_26 [(slotOf [4, 5, 6, 7, 8, 12, 15, 27, 51] vs_54 7), (slotOf [4, 5, 6, 7, 8, 12, 15, 27, 51] vs_54 12), (slotOf [4, 5, 6, 7, 8, 12, 15, 27, 51] vs_54 15)] L_170))))))))))))))))
def object_ApplyF_zt12 (vs_54 : List AV) (L_56 : SH) (j_26 : W.Kn)  : Prop :=
 (true = true) ∧ (
 W.faddr 0 (slotOf [4, 5, 6, 7, 8, 12, 15, 27, 51] vs_54 7) fun t140_173 =>
 W.calm [] ⟨1, (blocksOf t140_173), [], [], false, []⟩ (
 W.load false 1 t140_173 L_56 fun t141_174 =>
 W.note ⟨(blocksOf t140_173), [], [], []⟩ fun r_175 =>
 W.faddr 2 (slotOf [4, 5, 6, 7, 8, 12, 15, 27, 51] vs_54 6) fun t142_176 =>
 W.calm [⟨1, r_175.reads, r_175.writes, r_175.made, false, r_175.old⟩] ⟨3, (blocksOf t142_176), [], [], false, []⟩ (
 W.load false 1 t142_176 L_56 fun t143_177 =>
 W.note ⟨(blocksOf t142_176), [], [], []⟩ fun r_178 =>
 W.calm [⟨1, r_175.reads, r_175.writes, r_175.made, false, r_175.old⟩] ⟨5, (slOf t143_177), [], [], false, []⟩ (
 W.idx 2 t143_177 (slotOf [4, 5, 6, 7, 8, 12, 15, 27, 51] vs_54 4) L_56 fun t145_179 =>
 W.note ⟨(slOf t143_177), [], [], []⟩ fun r_180 =>
 W.faddr 1 t145_179 fun t146_181 =>
 W.calm [⟨1, r_175.reads, r_175.writes, r_175.made, false, r_175.old⟩] ⟨7, (blocksOf t146_181), [], [], false, []⟩ (
 W.load false 1 t146_181 L_56 fun t147_182 =>
 W.note ⟨(blocksOf t146_181), [], [], []⟩ fun r_183 =>
 W.calm [⟨7, r_183.reads, r_183.writes, r_183.made, false, r_183.old⟩, ⟨5, r_180.reads, r_180.writes, r_180.made, false, r_180.old⟩, ⟨3, r_178.reads, r_178.writes, r_178.made, false, r_178.old⟩, ⟨1, r_175.reads, r_175.writes, r_175.made, false, r_175.old⟩] ⟨8, (blocksOf (slotOf [4, 5, 6, 7, 8, 12, 15, 27, 51] vs_54 8)), [], [], false, []⟩ (
 W.load false 1 (slotOf [4, 5, 6, 7, 8, 12, 15, 27, 51] vs_54 8) L_56 fun t148_184 =>
 W.note ⟨(blocksOf (slotOf [4, 5, 6, 7, 8, 12, 15, 27, 51] vs_54 8)), [], [], []⟩ fun r_185 =>
 W.calm [] ⟨9, (slOf t141_174), [], [], false, []⟩ (
 W.idx 2 t141_174 t147_182 L_56 fun t149_186 =>
 W.note ⟨(slOf t141_174), [], [], []⟩ fun r_187 =>
 W.faddr 0 t149_186 fun t150_188 =>
 W.calm [] ⟨11, (blocksOf t150_188), (blocksOf t150_188), [], false, []⟩ (
 W.store 1 t150_188 t148_184 L_56 fun L_189 =>
 W.note ⟨(blocksOf t150_188), (blocksOf t150_188), [], []⟩ fun r_190 =>
 (true = true) ∧ (
 W.faddr 3 (slotOf [4, 5, 6, 7, 8, 12, 15, 27, 51] vs_54 7) fun t151_191 =>
 W.calm [] ⟨1, (blocksOf t151_191), [], [], false, []⟩ (
 W.load false 1 t151_191 L_189 fun t152_192 =>
 W.note ⟨(blocksOf t151_191), [], [], []⟩ fun r_193 =>
 W.calm [⟨1, r_193.reads, r_193.writes, r_193.made, false, r_193.old⟩] ⟨2, (blocksOf (slotOf [4, 5, 6, 7, 8, 12, 15, 27, 51] vs_54 8)), [], [], false, []⟩ (
 W.load false 1 (slotOf [4, 5, 6, 7, 8, 12, 15, 27, 51] vs_54 8) L_189 fun t153_194 =>
 W.note ⟨(blocksOf (slotOf [4, 5, 6, 7, 8, 12, 15, 27, 51] vs_54 8)), [], [], []⟩ fun r_195 =>
 W.faddr 3 (slotOf [4, 5, 6, 7, 8, 12, 15, 27, 51] vs_54 7) fun t154_196 =>
 W.calm [⟨2, r_195.reads, r_195.writes, r_195.made, false, r_195.old⟩, ⟨1, r_193.reads, r_193.writes, r_193.made, false, r_193.old⟩] ⟨4, (blocksOf t154_196), [], [], false, []⟩ (
 W.load false 1 t154_196 L_189 fun t155_197 =>
 W.note ⟨(blocksOf t154_196), [], [], []⟩ fun r_198 =>
 W.calm [⟨4, r_198.reads, r_198.writes, r_198.made, false, r_198.old⟩, ⟨2, r_195.reads, r_195.writes, r_195.made, false, r_195.old⟩, ⟨1, r_193.reads, r_193.writes, r_193.made, false, r_193.old⟩] ⟨5, (blocksOf (slotOf [4, 5, 6, 7, 8, 12, 15, 27, 51] vs_54 8)), [], [], false, []⟩ (
 W.load false 1 (slotOf [4, 5, 6, 7, 8, 12, 15, 27, 51] vs_54 8) L_189 fun t156_199 =>
 W.note ⟨(blocksOf (slotOf [4, 5, 6, 7, 8, 12, 15, 27, 51] vs_54 8)), [], [], []⟩ fun r_200 =>
 W.calm [⟨5, r_200.reads, r_200.writes, r_200.made, false, r_200.old⟩, ⟨4, r_198.reads, r_198.writes, r_198.made, false, r_198.old⟩] ⟨6, (slOf t152_192), [], [], false, []⟩ (
 W.idx 3 t152_192 t153_194 L_189 fun t157_201 =>
 W.note ⟨(slOf t152_192), [], [], []⟩ fun r_202 =>
 W.faddr 0 t157_201 fun t158_203 =>
 W.calm [⟨5, r_200.reads, r_200.writes, r_200.made, false, r_200.old⟩, ⟨4, r_198.reads, r_198.writes, r_198.made, false, r_198.old⟩] ⟨8, (blocksOf t158_203), (blocksOf t158_203), [], false, []⟩ (
 W.store 1 t158_203 (.int .i64 2) L_189 fun L_204 =>
 W.note ⟨(blocksOf t158_203), (blocksOf t158_203), [], []⟩ fun r_205 =>
 W.calm [] ⟨9, (slOf t155_197), [], [], false, []⟩ (
 W.idx 3 t155_197 t156_199 L_204 fun t159_206 =>
 W.note ⟨(slOf t155_197), [], [], []⟩ fun r_207 =>
 W.faddr 1 t159_206 fun t160_208 =>
 W.calm [] ⟨11, (blocksOf t160_208), (blocksOf t160_208), [], false, []⟩ (
 W.store 1 t160_208 (.int .i64 0) L_204 fun L_209 =>
 W.note ⟨(blocksOf t160_208), (blocksOf t160_208), [], []⟩ fun r_210 =>
 j_26 [(slotOf [4, 5, 6, 7, 8, 12, 15, 27, 51] vs_54 7), (slotOf [4, 5, 6, 7, 8, 12, 15, 27, 51] vs_54 12), (slotOf [4, 5, 6, 7, 8, 12, 15, 27, 51] vs_54 15)] L_209)))))))))))))))))
def object_ApplyF_c4 (j_26 : W.Kn) (vs_54 : List AV) (t166_213 : AV) (L_214 : SH) : Prop :=
 j_26 [(slotOf [4, 5, 6, 7, 8, 12, 15, 27, 51] vs_54 7), (slotOf [4, 5, 6, 7, 8, 12, 15, 27, 51] vs_54 12), t166_213] L_214
def object_ApplyF_zt13 (vs_54 : List AV) (L_56 : SH) (j_26 : W.Kn)  : Prop :=
 W.load true 4 (slotOf [4, 5, 6, 7, 8, 12, 15, 27, 51] vs_54 7) L_56 fun t163_212 =>
 W.call Try.prog (.fn 50 []) [t163_212, (slotOf [4, 5, 6, 7, 8, 12, 15, 27, 51] vs_54 4), (slotOf [4, 5, 6, 7, 8, 12, 15, 27, 51] vs_54 5)] L_56 (object_ApplyF_c4 j_26 vs_54)
def object_ApplyF_c5 (j_26 : W.Kn) (vs_54 : List AV) (t171_217 : AV) (L_218 : SH) : Prop :=
 j_26 [(slotOf [4, 5, 6, 7, 8, 12, 15, 27, 51] vs_54 7), (slotOf [4, 5, 6, 7, 8, 12, 15, 27, 51] vs_54 12), t171_217] L_218
def object_ApplyF_zt14 (vs_54 : List AV) (L_56 : SH) (j_26 : W.Kn)  : Prop :=
 W.load true 4 (slotOf [4, 5, 6, 7, 8, 12, 15, 27, 51] vs_54 7) L_56 fun t169_216 =>
 W.call Try.prog (.fn 51 []) [t169_216, (slotOf [4, 5, 6, 7, 8, 12, 15, 27, 51] vs_54 4)] L_56 (object_ApplyF_c5 j_26 vs_54)
def object_ApplyF_zt15 (vs_54 : List AV) (L_56 : SH) (j_26 : W.Kn)  : Prop :=
 W.faddr 3 (slotOf [4, 5, 6, 7, 8, 12, 15, 27, 51] vs_54 7) fun t174_220 =>
 W.load false 1 t174_220 L_56 fun t175_221 =>
 W.idx 3 t175_221 (slotOf [4, 5, 6, 7, 8, 12, 15, 27, 51] vs_54 4) L_56 fun t177_222 =>
 W.faddr 0 t177_222 fun t178_223 =>
 W.store 1 t178_223 (.int .i64 1) L_56 fun L_224 =>
 j_26 [(slotOf [4, 5, 6, 7, 8, 12, 15, 27, 51] vs_54 7), (slotOf [4, 5, 6, 7, 8, 12, 15, 27, 51] vs_54 12), (slotOf [4, 5, 6, 7, 8, 12, 15, 27, 51] vs_54 15)] L_224
def object_ApplyF_zt16 (vs_54 : List AV) (L_56 : SH) (j_26 : W.Kn)  : Prop :=
 W.faddr 2 (slotOf [4, 5, 6, 7, 8, 12, 15, 27, 51] vs_54 7) fun t181_226 =>
 W.load false 1 t181_226 L_56 fun t182_227 =>
 W.idx 1 t182_227 (slotOf [4, 5, 6, 7, 8, 12, 15, 27, 51] vs_54 4) L_56 fun t184_228 =>
 W.store 1 t184_228 (.bool true) L_56 fun L_229 =>
 j_26 [(slotOf [4, 5, 6, 7, 8, 12, 15, 27, 51] vs_54 7), (slotOf [4, 5, 6, 7, 8, 12, 15, 27, 51] vs_54 12), (slotOf [4, 5, 6, 7, 8, 12, 15, 27, 51] vs_54 15)] L_229
def object_ApplyF_zt17 (j_26 : W.Kn) (vs_54 : List AV) (L_56 : SH)  : Prop :=
 j_26 [(slotOf [4, 5, 6, 7, 8, 12, 15, 27, 51] vs_54 7), (slotOf [4, 5, 6, 7, 8, 12, 15, 27, 51] vs_54 12), (slotOf [4, 5, 6, 7, 8, 12, 15, 27, 51] vs_54 15)] L_56
def object_ApplyF_zt18 (vs_54 : List AV) (L_56 : SH) (j_26 : W.Kn)  : Prop :=
 W.bin Try.prog Fl .eql 3 (slotOf [4, 5, 6, 7, 8, 12, 15, 27, 51] vs_54 27) (.int .i64 22) fun t180_225 =>
 W.cond t180_225 (
 (object_ApplyF_zt16 vs_54 L_56 j_26)) (
 (object_ApplyF_zt17 j_26 vs_54 L_56))
def object_ApplyF_zt19 (vs_54 : List AV) (L_56 : SH) (j_26 : W.Kn)  : Prop :=
 W.bin Try.prog Fl .eql 3 (slotOf [4, 5, 6, 7, 8, 12, 15, 27, 51] vs_54 27) (.int .i64 20) fun t173_219 =>
 W.cond t173_219 (
 (object_ApplyF_zt15 vs_54 L_56 j_26)) (
 (object_ApplyF_zt18 vs_54 L_56 j_26))
def object_ApplyF_zt20 (vs_54 : List AV) (L_56 : SH) (j_26 : W.Kn)  : Prop :=
 W.bin Try.prog Fl .eql 3 (slotOf [4, 5, 6, 7, 8, 12, 15, 27, 51] vs_54 27) (.int .i64 19) fun t168_215 =>
 W.cond t168_215 (
 (object_ApplyF_zt14 vs_54 L_56 j_26)) (
 (object_ApplyF_zt19 vs_54 L_56 j_26))
def object_ApplyF_zt21 (vs_54 : List AV) (L_56 : SH) (j_26 : W.Kn)  : Prop :=
 W.bin Try.prog Fl .eql 3 (slotOf [4, 5, 6, 7, 8, 12, 15, 27, 51] vs_54 27) (.int .i64 18) fun t162_211 =>
 W.cond t162_211 (
 (object_ApplyF_zt13 vs_54 L_56 j_26)) (
 (object_ApplyF_zt20 vs_54 L_56 j_26))
def object_ApplyF_zt22 (vs_54 : List AV) (L_56 : SH) (j_26 : W.Kn)  : Prop :=
 W.bin Try.prog Fl .eql 3 (slotOf [4, 5, 6, 7, 8, 12, 15, 27, 51] vs_54 27) (.int .i64 17) fun t139_172 =>
 W.cond t139_172 (
 (object_ApplyF_zt12 vs_54 L_56 j_26)) (
 (object_ApplyF_zt21 vs_54 L_56 j_26))
def object_ApplyF_zt23 (vs_54 : List AV) (L_56 : SH) (j_26 : W.Kn)  : Prop :=
 W.bin Try.prog Fl .eql 3 (slotOf [4, 5, 6, 7, 8, 12, 15, 27, 51] vs_54 27) (.int .i64 16) fun t116_135 =>
 W.cond t116_135 (
 (object_ApplyF_zt11 vs_54 L_56 j_26)) (
 (object_ApplyF_zt22 vs_54 L_56 j_26))
def object_ApplyF_zt24 (vs_54 : List AV) (L_56 : SH) (j_26 : W.Kn)  : Prop :=
 W.bin Try.prog Fl .eql 3 (slotOf [4, 5, 6, 7, 8, 12, 15, 27, 51] vs_54 27) (.int .i64 15) fun t109_128 =>
 W.cond t109_128 (
 (object_ApplyF_zt10 vs_54 L_56 j_26)) (
 (object_ApplyF_zt23 vs_54 L_56 j_26))
def object_ApplyF_zt25 (vs_54 : List AV) (L_56 : SH) (j_26 : W.Kn)  : Prop :=
 W.bin Try.prog Fl .eql 3 (slotOf [4, 5, 6, 7, 8, 12, 15, 27, 51] vs_54 27) (.int .i64 14) fun t102_121 =>
 W.cond t102_121 (
 (object_ApplyF_zt9 vs_54 L_56 j_26)) (
 (object_ApplyF_zt24 vs_54 L_56 j_26))
def object_ApplyF_zt26 (vs_54 : List AV) (L_56 : SH) (j_26 : W.Kn)  : Prop :=
 W.bin Try.prog Fl .eql 3 (slotOf [4, 5, 6, 7, 8, 12, 15, 27, 51] vs_54 27) (.int .i64 13) fun t99_118 =>
 W.cond t99_118 (
 (object_ApplyF_zt8 vs_54 L_56 j_26)) (
 (object_ApplyF_zt25 vs_54 L_56 j_26))
def object_ApplyF_zt27 (vs_54 : List AV) (L_56 : SH) (j_26 : W.Kn)  : Prop :=
 W.bin Try.prog Fl .eql 3 (slotOf [4, 5, 6, 7, 8, 12, 15, 27, 51] vs_54 27) (.int .i64 12) fun t95_114 =>
 W.cond t95_114 (
 (object_ApplyF_zt7 vs_54 L_56 j_26)) (
 (object_ApplyF_zt26 vs_54 L_56 j_26))
def object_ApplyF_zt28 (vs_54 : List AV) (L_56 : SH) (j_26 : W.Kn)  : Prop :=
 W.bin Try.prog Fl .eql 3 (slotOf [4, 5, 6, 7, 8, 12, 15, 27, 51] vs_54 27) (.int .i64 9) fun t80_93 =>
 W.cond t80_93 (
 (object_ApplyF_zt6 vs_54 L_56 j_26)) (
 (object_ApplyF_zt27 vs_54 L_56 j_26))
def object_ApplyF_zt29 (vs_54 : List AV) (L_56 : SH) (j_26 : W.Kn)  : Prop :=
 W.bin Try.prog Fl .eql 3 (slotOf [4, 5, 6, 7, 8, 12, 15, 27, 51] vs_54 27) (.int .i64 8) fun t60_62 =>
 W.cond t60_62 (
 (object_ApplyF_zt5 vs_54 L_56 j_26)) (
 (object_ApplyF_zt28 vs_54 L_56 j_26))
def object_ApplyF_j6 (j_26 : W.Kn) (vs_54 : List AV) (L_56 : SH) : Prop :=
 W.cond (slotOf [4, 5, 6, 7, 8, 12, 15, 27, 51] vs_54 51) (
 (object_ApplyF_zt4 vs_54 L_56 j_26)) (
 (object_ApplyF_zt29 vs_54 L_56 j_26))
def object_ApplyF_zt30 (j_55 : W.Kn) (vs_45 : List AV) (t52_230 : AV) (L_47 : SH)  : Prop :=
 j_55 [(slotOf [4, 5, 6, 7, 8, 12, 15, 27, 42] vs_45 4), (slotOf [4, 5, 6, 7, 8, 12, 15, 27, 42] vs_45 5), (slotOf [4, 5, 6, 7, 8, 12, 15, 27, 42] vs_45 6), (slotOf [4, 5, 6, 7, 8, 12, 15, 27, 42] vs_45 7), (slotOf [4, 5, 6, 7, 8, 12, 15, 27, 42] vs_45 8), (slotOf [4, 5, 6, 7, 8, 12, 15, 27, 42] vs_45 12), (slotOf [4, 5, 6, 7, 8, 12, 15, 27, 42] vs_45 15), (slotOf [4, 5, 6, 7, 8, 12, 15, 27, 42] vs_45 27), t52_230] L_47
def object_ApplyF_zt31 (vs_45 : List AV) (j_55 : W.Kn) (L_47 : SH)  : Prop :=
 W.bin Try.prog Fl .eql 3 (slotOf [4, 5, 6, 7, 8, 12, 15, 27, 42] vs_45 27) (.int .i64 11) fun t53_231 =>
 j_55 [(slotOf [4, 5, 6, 7, 8, 12, 15, 27, 42] vs_45 4), (slotOf [4, 5, 6, 7, 8, 12, 15, 27, 42] vs_45 5), (slotOf [4, 5, 6, 7, 8, 12, 15, 27, 42] vs_45 6), (slotOf [4, 5, 6, 7, 8, 12, 15, 27, 42] vs_45 7), (slotOf [4, 5, 6, 7, 8, 12, 15, 27, 42] vs_45 8), (slotOf [4, 5, 6, 7, 8, 12, 15, 27, 42] vs_45 12), (slotOf [4, 5, 6, 7, 8, 12, 15, 27, 42] vs_45 15), (slotOf [4, 5, 6, 7, 8, 12, 15, 27, 42] vs_45 27), t53_231] L_47
def object_ApplyF_zt32 (j_26 : W.Kn) (vs_45 : List AV) (L_47 : SH)  : Prop :=
 W.join (object_ApplyF_j6 j_26) fun j_55 =>
 W.bin Try.prog Fl .eql 3 (slotOf [4, 5, 6, 7, 8, 12, 15, 27, 42] vs_45 27) (.int .i64 7) fun t52_230 =>
 W.cond t52_230 (
 (object_ApplyF_zt30 j_55 vs_45 t52_230 L_47)) (
 (object_ApplyF_zt31 vs_45 j_55 L_47))
def object_ApplyF_j7 (j_26 : W.Kn) (vs_45 : List AV) (L_47 : SH) : Prop :=
 W.cond (slotOf [4, 5, 6, 7, 8, 12, 15, 27, 42] vs_45 42) (
 (object_ApplyF_zt3 vs_45 L_47 j_26)) (
 (object_ApplyF_zt32 j_26 vs_45 L_47))
def object_ApplyF_zt33 (j_26 : W.Kn) (t3 : AV) (t4 : AV) (t5 : AV) (t6_8 : AV) (t7_2 : AV) (t8_10 : AV) (t12_6 : AV) (L_24 : SH)  : Prop :=
 W.join (object_ApplyF_j7 j_26) fun j_46 =>
 W.bin Try.prog Fl .eql 3 t3 (.int .i64 6) fun t43_232 =>
 W.cond t43_232 (
 j_46 [t4, t5, t6_8, t7_2, t8_10, t12_6, (.int .i64 0), t3, t43_232] L_24) (
 W.bin Try.prog Fl .eql 3 t3 (.int .i64 10) fun t44_233 =>
 j_46 [t4, t5, t6_8, t7_2, t8_10, t12_6, (.int .i64 0), t3, t44_233] L_24)
def object_ApplyF_zt34 (t3 : AV) (t7_2 : AV) (L_24 : SH) (t8_10 : AV) (j_26 : W.Kn) (t12_6 : AV) (t4 : AV) (t5 : AV) (t6_8 : AV)  : Prop :=
 W.bin Try.prog Fl .eql 3 t3 (.int .i64 2) fun t36_38 =>
 W.cond t36_38 (
 (object_ApplyF_zt2 t7_2 L_24 t8_10 j_26 t12_6)) (
 (object_ApplyF_zt33 j_26 t3 t4 t5 t6_8 t7_2 t8_10 t12_6 L_24))
def object_ApplyF_c8 (t7_2 : AV) (Q : AV → SH → Prop) (t3 : AV) (t8_10 : AV) (t12_6 : AV) (t4 : AV) (t5 : AV) (t6_8 : AV) (t26_22 : AV) (L_23 : SH) : Prop :=
 W.store 4 t7_2 t26_22 L_23 fun L_24 =>
 W.join (object_ApplyF_j0 Q) fun j_26 =>
 W.bin Try.prog Fl .eql 3 t3 (.int .i64 1) fun t29_31 =>
 W.cond t29_31 (
 (object_ApplyF_zt1 t7_2 L_24 t8_10 j_26 t12_6)) (
 (object_ApplyF_zt34 t3 t7_2 L_24 t8_10 j_26 t12_6 t4 t5 t6_8))
def object_ApplyF_c9 (t12_6 : AV) (Q : AV → SH → Prop) (t7_2 : AV) (t3 : AV) (t8_10 : AV) (t4 : AV) (t5 : AV) (t6_8 : AV) (t22_15 : AV) (L_16 : SH) : Prop :=
 W.un .not t22_15 fun t23_17 =>
 W.cond t23_17 (
 (object_ApplyF_zt0 t12_6 L_16 Q)) (
 W.load true 4 t7_2 L_16 fun t25_21 =>
 W.call Try.prog (.fn 47 []) [t25_21] L_16 (object_ApplyF_c8 t7_2 Q t3 t8_10 t12_6 t4 t5 t6_8))
def object_ApplyF_w (t0 t1 t2 t3 t4 t5 : AV) (L : SH) (Q : AV → SH → Prop) : Prop :=
 W.box t0 L fun t6_0 L_1 =>
 W.box t1 L_1 fun t7_2 L_3 =>
 W.box t2 L_3 fun t8_4 L_5 =>
 W.alloc [.nils, (.int .i64 0), .nils, .nils] L_5 fun t12_6 L_7 =>
 W.frz1 t6_0 L_7 fun t6_8 L_9 =>
 W.frz1 t8_4 L_9 fun t8_10 L_11 =>
 W.load true 6 t6_8 L_11 fun t17_12 =>
 W.load true 4 t7_2 L_11 fun t18_13 =>
 W.load false 1 t8_10 L_11 fun t19_14 =>
 W.call Try.prog (.fn 27 []) [t17_12, t18_13, t19_14, t3, t4] L_11 (object_ApplyF_c9 t12_6 Q t7_2 t3 t8_10 t4 t5 t6_8)
theorem object_ApplyF_e (t0 t1 t2 t3 t4 t5 : AV) (L : SH) (Q : AV → SH → Prop) : W.func Try.prog Fl object_ApplyF_t Try.f26 (Try.f26.body.getD .skip) [t0, t1, t2, t3, t4, t5] L Q = object_ApplyF_w t0 t1 t2 t3 t4 t5 L Q := by kernel_rfl
theorem object_ApplyF_ok (t0 t1 t2 t3 t4 t5 : AV) (L : SH) (Q : AV → SH → Prop) (h : object_ApplyF_w t0 t1 t2 t3 t4 t5 L Q) : CallA Try.prog 26 [t0, t1, t2, t3, t4, t5] L Q :=
  func_sound (ht := object_ApplyF_t) fit Try.func26 (show Try.f26.body = some (Try.f26.body.getD .skip) by kernel_rfl) (Eq.mpr (object_ApplyF_e t0 t1 t2 t3 t4 t5 L Q) h)

end Go.Proofs.Ytadjimfkfmojkaa.Am

end
section
namespace Go.Proofs.Ytadjimfkfmojkaa.Am
set_option maxRecDepth 100000
set_option linter.unusedSimpArgs false
set_option linter.unusedVariables false
/-- what a predicate says of every number, over a heap that it leaves alone -/
def PredA (P : Program) (g : FuncId) (cs : List AV) (p : Int → Bool) : Prop := ∀ x : Int, PureA P g (.int .i64 x :: cs) (.bool (p x))
theorem PredA.call {P : Program} {g : FuncId} {cs : List AV} {p : Int → Bool} (h : PredA P g cs p) {x : Int} {L : SH} {KL : AV → SH → Prop} (hk : KL (.bool (p x)) L) : W.call P (.fn g cs) [.int .i64 x] L KL := ⟨(h x).call hk⟩
/-- where the first number lies that the predicate holds of -/
def idxF (p : Int → Bool) (l : List Int) : Int := if l.any p then (l.findIdx p : Int) else -1
theorem idxF_take {p : Int → Bool} {l : List Int} {i : Nat} (hi : i < l.length) (hno : (l.take i).any p = false) (hp : p l[i] = true) : idxF p l = i := by
  have h1 : l.any p = true := List.any_eq_true.2 ⟨l[i], List.getElem_mem hi, hp⟩
  have h2 : l.findIdx p = i := by
    rw [List.findIdx_eq hi]
    refine ⟨hp, fun j hj => ?_⟩
    have := List.any_eq_false.1 hno l[j] (List.mem_take_iff_getElem.2 ⟨j, by omega, rfl⟩)
    simpa using this
  rw [idxF, if_pos h1, h2]
theorem indexFunc_ok (g : FuncId) (cs : List AV) (p : Int → Bool) (hp : PredA Try.prog g cs p) (b : Nat) (xs : List Int) (hl : xs.length < 2 ^ 62) : CallA Try.prog 78 [.sl b 0 xs.length, .fn g cs] [(b, ⟨1, xs.map intE⟩)] fun v L => v = .int .i64 (idxF p xs) ∧ L = [(b, ⟨1, xs.map intE⟩)] := by
  refine slices_IndexFunc___int_int__ok _ _ _ _ ?_
  unfold slices_IndexFunc___int_int__w
  generalize hQ : (fun (v : AV) (L : SH) => v = AV.int .i64 (idxF p xs) ∧ L = [(b, (⟨1, xs.map intE⟩ : Blk))]) = Q
  repeat' (first | (refine h_len ?_; refine a_len_s ?_))
  refine for_by xs.length (fun i => ([.sl b 0 xs.length, .fn g cs, .int .i64 xs.length, .int .i64 i], [(b, ⟨1, xs.map intE⟩)])) (fun i => (xs.take i).any p = false) (by simp) rfl rfl ?_
  intro i hi hno
  dsimp only
  unfold slices_IndexFunc___int_int__l1
  rcases Nat.lt_or_ge i xs.length with h1 | h1
  · have hx := map_at (f := intE) h1
    have hd := dec_lt h1
    repeat' (first | (refine h_load1 ?_; refine b_load_p ?_) | (refine h_bin ?_; first | refine a_lss ?_ | refine a_add ?_) | (refine h_cond ?_; first | refine b_cond_t ?_ | refine a_cond (fun h => ?_) (fun h => ?_)) | (refine h_idx ?_; refine b_idx_sn ?_) | refine PredA.call hp ?_)
    · subst hQ
      exact ⟨by rw [idxF_take h1 hno h]; rfl, rfl⟩
    · refine ⟨i + 1, by omega, by omega, ?_, fzs_eq (by rw [i64_succ h1 hl]; rfl) rfl⟩
      rw [List.take_succ_eq_append_getElem h1, List.any_append, hno]
      simpa using h
  · have hd := dec_ge h1
    repeat' (first | (refine h_bin ?_; refine a_lss ?_) | (refine h_cond ?_; refine b_cond_f ?_))
    subst hQ
    rw [List.take_of_length_le h1] at hno
    exact ⟨by rw [idxF, if_neg (by simp [hno])], rfl⟩
theorem bound_nat {k : IntKind} {m d : Nat} : boundA (some (.int k (m : Int))) d = some m := by simp [boundA, natOf]
theorem idxF_split {p : Int → Bool} {l : List Int} (h : idxF p l ≠ -1) : ∃ i : Nat, idxF p l = i ∧ i < l.length ∧ (l.take (i + 1)).filter (fun x => !p x) = l.take i := by
  unfold idxF at h ⊢
  split at h
  · rename_i ha
    rw [if_pos ha]
    refine ⟨l.findIdx p, rfl, List.findIdx_lt_length.2 (List.any_eq_true.1 ha), ?_⟩
    have hlt := List.findIdx_lt_length.2 (List.any_eq_true.1 ha)
    rw [List.take_succ_eq_append_getElem hlt, List.filter_append]
    have h1 : p l[l.findIdx p] = true := List.findIdx_getElem
    rw [List.filter_cons_of_neg (by simp [h1]), List.filter_nil, List.append_nil, List.filter_eq_self]
    intro x hx
    obtain ⟨j, hj, rfl⟩ := List.mem_take_iff_getElem.1 hx
    have := List.not_of_lt_findIdx (xs := l) (p := p) (i := j) (by omega)
    simpa using this
  · exact absurd rfl h
theorem idxF_none {p : Int → Bool} {l : List Int} (h : idxF p l = -1) : l.filter (fun x => !p x) = l := by
  unfold idxF at h
  split at h
  · omega
  · rename_i ha
    rw [List.filter_eq_self]
    intro x hx
    simp only [Bool.not_eq_true, List.any_eq_false] at ha
    simpa using ha x hx
theorem deleteFunc_ok (g : FuncId) (cs : List AV) (p : Int → Bool) (hp : PredA Try.prog g cs p) (b : Nat) (xs : List Int) (hl : xs.length < 2 ^ 61) : CallA Try.prog 48 [.sl b 0 xs.length, .fn g cs] [(b, ⟨1, xs.map intE⟩)] fun v L => ∃ R : List Int, v = .sl b 0 (xs.filter fun x => !p x).length ∧ L = [(b, ⟨1, R.map intE⟩)] ∧ R.take (xs.filter fun x => !p x).length = (xs.filter fun x => !p x) ∧ R.length = xs.length := by
  refine slices_DeleteFunc___int_int__ok _ _ _ _ ?_
  unfold slices_DeleteFunc___int_int__w
  refine ⟨(indexFunc_ok g cs p hp b xs (by omega)).mono ?_⟩
  rintro v L ⟨rfl, rfl⟩
  unfold slices_DeleteFunc___int_int__c2
  generalize hQ : (fun (v : AV) (L : SH) => ∃ R : List Int, v = AV.sl b 0 (xs.filter fun x => !p x).length ∧ L = [(b, (⟨1, R.map intE⟩ : Blk))] ∧ R.take (xs.filter fun x => !p x).length = (xs.filter fun x => !p x) ∧ R.length = xs.length) = Q
  by_cases hm : idxF p xs = -1
  · have hd : decide (idxF p xs = -1) = true := decide_eq_true hm
    repeat' (first | (refine h_bin ?_; refine a_eql ?_) | (refine h_cond ?_; refine b_cond_t ?_))
    subst hQ
    refine ⟨xs, ?_, rfl, ?_, rfl⟩
    · rw [idxF_none hm]
    · rw [idxF_none hm]; simp
  · have hd : decide (idxF p xs = -1) = false := decide_eq_false hm
    obtain ⟨i0, hi0, hlt, hfil⟩ := idxF_split hm
    rw [hi0] at hd ⊢
    repeat' (first | (refine h_bin ?_; first | refine a_eql ?_ | refine a_add ?_) | (refine h_cond ?_; refine b_cond_f ?_))
    rw [i64_succ hlt (by omega)]
    have hc : ∀ j, ((xs.take j).filter fun x => !p x).length ≤ j := fun j => Nat.le_trans (List.length_filter_le _ _) (by simp; omega)
    refine loop_ex (xs.length - (i0 + 1)) (fun k (R : List Int) => ([.sl b 0 xs.length, .fn g cs, .int .i64 (((xs.take (i0 + 1 + k)).filter fun x => !p x).length : Nat), .int .i64 (i0 + 1 + k : Nat)], [(b, ⟨1, R.map intE⟩)]))
      (fun k R => R.length = xs.length ∧ R.take ((xs.take (i0 + 1 + k)).filter fun x => !p x).length = ((xs.take (i0 + 1 + k)).filter fun x => !p x) ∧ R.drop (i0 + 1 + k) = xs.drop (i0 + 1 + k)) xs ⟨rfl, by rw [Nat.add_zero, hfil]; simp, rfl⟩ (fzs_eq (by rw [Nat.add_zero, hfil, List.length_take, Nat.min_eq_left (by omega)]) rfl) ?_
    rintro k R hk ⟨r1, r2, r3⟩
    dsimp only
    unfold slices_DeleteFunc___int_int__l1
    have hcj := hc (i0 + 1 + k)
    generalize hj : i0 + 1 + k = j at r2 r3 hcj ⊢
    rcases Nat.lt_or_ge j xs.length with h1 | h1
    · have hd2 := dec_lt h1
      have h1' : j < R.length := by omega
      have hxj : R[j] = xs[j] := by
        have h0 := congrArg (fun l => l[0]?) r3
        simp only [List.getElem?_drop, Nat.add_zero] at h0
        rw [List.getElem?_eq_getElem h1', List.getElem?_eq_getElem h1] at h0
        exact Option.some.inj h0
      have hx := map_at (f := intE) h1'
      rw [hxj] at hx
      have htk : (xs.take (j + 1)).filter (fun x => !p x) = (xs.take j).filter (fun x => !p x) ++ ([xs[j]].filter fun x => !p x) := by rw [List.take_succ_eq_append_getElem h1, List.filter_append]
      have hm1 : ((xs.take j).filter fun x => !p x).length < xs.length := by omega
      have hm2 : ((xs.take j).filter fun x => !p x).length < R.length := by omega
      have hxm := map_at (f := intE) hm2
      cases hpx : p xs[j] with
      | true =>
        have hnp : (!p xs[j]) = false := by simp [hpx]
        repeat' (first | (refine h_load1 ?_; refine b_load_p ?_) | (refine h_bin ?_; first | refine a_lss ?_ | refine a_add ?_) | (refine h_cond ?_; first | refine b_cond_t ?_ | refine b_cond_f ?_) | (refine h_idx ?_; refine b_idx_sn ?_) | (refine h_len ?_; refine a_len_s ?_) | refine PredA.call hp ?_ | (refine h_un ?_; refine a_not ?_))
        refine ⟨k + 1, R, by omega, by omega, ⟨r1, ?_, ?_⟩, fzs_eq ?_ rfl⟩
        · rw [show i0 + 1 + (k + 1) = j + 1 by omega, htk]; simpa [hpx] using r2
        · rw [show i0 + 1 + (k + 1) = j + 1 by omega, ← List.drop_drop, ← List.drop_drop, r3]
        · rw [show i0 + 1 + (k + 1) = j + 1 by omega, htk, i64_succ h1 (by omega)]; simp [hpx, slotOf]
      | false =>
        have hnp : (!p xs[j]) = true := by simp [hpx]
        repeat' (first | (refine h_load1 ?_; refine b_load_p ?_) | (refine h_bin ?_; first | refine a_lss ?_ | refine a_add ?_) | (refine h_cond ?_; refine b_cond_t ?_) | (refine h_idx ?_; refine b_idx_sn ?_) | (refine h_len ?_; refine a_len_s ?_) | refine PredA.call hp ?_ | (refine h_un ?_; refine a_not ?_) | (refine h_store ?_; refine b_store_one ?_))
        refine ⟨k + 1, R.set ((xs.take j).filter fun x => !p x).length xs[j], by omega, by omega, ⟨by simp [r1], ?_, ?_⟩, fzs_eq ?_ ?_⟩
        · rw [show i0 + 1 + (k + 1) = j + 1 by omega, htk]
          simp only [List.filter_cons, hpx, Bool.not_false, if_true, List.filter_nil, List.length_append, List.length_singleton]
          rw [List.take_succ_eq_append_getElem (by simpa using hm2), List.take_set_of_le (Nat.le_refl _), r2]
          simp
        · rw [show i0 + 1 + (k + 1) = j + 1 by omega, List.drop_set_of_lt (by omega), ← List.drop_drop, ← List.drop_drop, r3]
        · rw [show i0 + 1 + (k + 1) = j + 1 by omega, htk, i64_succ h1 (by omega), i64_succ hm1 (by omega)]; simp [hpx, slotOf]
        · simp [List.map_set, intE]
    · have hd2 := dec_ge h1
      have ht : xs.take j = xs := List.take_of_length_le h1
      rw [ht] at r2 hcj ⊢
      have hle : (xs.filter fun x => !p x).length ≤ xs.length := List.length_filter_le _ _
      generalize hmm : (xs.filter fun x => !p x).length = m at r2 hcj hle hQ ⊢
      repeat' (first | (refine h_bin ?_; refine a_lss ?_) | (refine h_cond ?_; refine b_cond_f ?_) | (refine h_len ?_; refine a_len_s ?_) | refine a_slice_s (l := m) (h := xs.length) bound_nat rfl hle (Nat.le_refl _) (.head _) rfl ?_ | refine a_clear_s (.here _) rfl (by simp [r1]; omega) rfl ?_ | refine a_slice_s (l := 0) (h := m) rfl bound_nat (Nat.zero_le _) hle (.head _) rfl ?_)
      subst hQ
      refine ⟨R.take m ++ List.replicate (xs.length - m) 0, by simp, ?_, ?_, ?_⟩
      · simp only [Nat.zero_add]
        rw [List.drop_of_length_le (by simp [r1]; omega), List.append_nil, List.map_append, List.map_take]
        simp [intE]
      · rw [List.take_left' (by simp [r1]; omega)]; exact r2
      · simp [r1]; omega
theorem apply1_ok (t x : Int) (L : SH) : PredA Try.prog 49 [.pptr [[.int .i64 t]] 0 0] (fun x => decide (x = t)) := fun x => by
  refine object_Apply_1_ok _ _ _ _ ?_
  unfold object_Apply_1_w
  repeat' (first | (refine h_load1 ?_; refine b_load_q ?_) | (refine h_bin ?_; refine a_eql ?_))
  exact ⟨rfl, rfl⟩
end Go.Proofs.Ytadjimfkfmojkaa.Am

end
section
namespace Go.Proofs.Ytadjimfkfmojkaa.Am
set_option maxRecDepth 100000
set_option linter.unusedSimpArgs false
set_option linter.unusedVariables false
def waitsAt (T : List ThrD) (c : Int) (i : Nat) : Bool := waitsS (T.getD i default) c
/-- the threads below n that wait for a condition -/
def waiting (T : List ThrD) (c : Int) (n : Nat) : List Nat := (List.range n).filter fun i => waitsAt T c i
def chosenOf (l : List Nat) (wake : Int) : Int := match l with
  | [] => -1
  | u :: l => if (u :: l).any (fun x => decide ((x : Int) = wake)) then wake else u
def notifyS (T : List ThrD) (c wake : Int) : Int := chosenOf (waiting T c T.length) wake
def setSt (T : List ThrD) (i : Nat) (st : Int) : List ThrD := T.set i { T.getD i default with status := st }
def wokenS (T : List ThrD) (c wake : Int) : List ThrD := if 0 ≤ notifyS T c wake then setSt T (notifyS T c wake).toNat 4 else T
theorem chosen_mem {l : List Nat} {wake : Int} (h : 0 ≤ chosenOf l wake) : (chosenOf l wake).toNat ∈ l := by
  cases l with
  | nil => simp [chosenOf] at h
  | cons u l =>
    simp only [chosenOf] at h ⊢
    split
    · rename_i ha
      obtain ⟨x, hx, he⟩ := List.any_eq_true.1 ha
      have := of_decide_eq_true he
      rw [← this]; simpa using hx
    · simp
theorem chosen_low (l : List Nat) (wake : Int) : chosenOf l wake = -1 ∨ 0 ≤ chosenOf l wake := by
  cases l with
  | nil => simp [chosenOf]
  | cons u l =>
    right
    simp only [chosenOf]
    split
    · rename_i ha
      obtain ⟨x, hx, he⟩ := List.any_eq_true.1 ha
      have := of_decide_eq_true he
      omega
    · omega
theorem chosen_snoc (l : List Nat) (i : Nat) (wake : Int) : chosenOf (l ++ [i]) wake = if chosenOf l wake < 0 ∨ (i : Int) = wake then (i : Int) else chosenOf l wake := by
  cases l with
  | nil =>
    simp only [chosenOf, List.nil_append]
    split <;> simp_all
  | cons u l =>
    have hlow := chosen_low (u :: l) wake
    simp only [List.cons_append]
    rw [chosenOf, ← List.cons_append, List.any_append]
    by_cases hw : (i : Int) = wake
    · simp [hw]
    · by_cases ha : (u :: l).any (fun x => decide ((x : Int) = wake)) = true
      · have hc : chosenOf (u :: l) wake = wake := by simp only [chosenOf]; rw [if_pos ha]
        rw [hc] at hlow ⊢
        obtain ⟨x, hx, he⟩ := List.any_eq_true.1 ha
        have := of_decide_eq_true he
        rw [ha, Bool.true_or, if_pos rfl, if_neg (by omega)]
      · have hc : chosenOf (u :: l) wake = u := by simp only [chosenOf]; rw [if_neg ha]
        rw [hc, if_neg (by simp only [Bool.or_eq_true, not_or]; exact ⟨ha, by simp [hw]⟩), if_neg (by omega)]
theorem waiting_succ (T : List ThrD) (c : Int) (n : Nat) : waiting T c (n + 1) = waiting T c n ++ (if waitsAt T c n then [n] else []) := by
  simp only [waiting, List.range_succ, List.filter_append, List.filter_cons, List.filter_nil]
theorem waiting_lt {T : List ThrD} {c : Int} {n x : Nat} (h : x ∈ waiting T c n) : x < n := by
  simp only [waiting, List.mem_filter, List.mem_range] at h; exact h.1
theorem set_enc (T : List ThrD) (i : Nat) (st : Int) (hi : i < T.length) : (T.map ThrD.enc).set i ((ThrD.enc T[i]).set 0 (.int .i64 st)) = (setSt T i st).map ThrD.enc := by
  unfold setSt
  rw [List.map_set]
  congr 1
  simp [List.getD, hi, ThrD.enc]
section
variable (a b d : AV) (bt : Nat)
theorem notify_ok (T : List ThrD) (c wake : Int) (hT : T.length < 2 ^ 40) (hbox : ([a, b, d, .sl bt 0 T.length] : List AV).all AV.one = true) :
    CallA Try.prog 50 [.agg [a, b, d, .sl bt 0 T.length], .int .i64 c, .int .i64 wake] [(bt, ⟨3, T.map ThrD.enc⟩)] fun v L => v = .int .i64 (notifyS T c wake) ∧ L = [(bt, ⟨3, (wokenS T c wake).map ThrD.enc⟩)] := by
  refine object_notify_ok _ _ _ _ _ ?_
  unfold object_notify_w
  generalize hQ : (fun (v : AV) (L : SH) => v = AV.int .i64 (notifyS T c wake) ∧ L = [(bt, (⟨3, (wokenS T c wake).map ThrD.enc⟩ : Blk))]) = Q
  repeat' (first | (refine h_load1 ?_; refine b_load_q ?_) | (refine h_faddr ?_; refine a_faddr_q ?_) | (refine h_len ?_; refine a_len_s ?_) | refine a_box rfl hbox (fun nb_ hnb_ => ?_) | (refine h_frz1 ?_; refine b_frz_p ?_))
  refine for_by T.length (fun i => ([.int .i64 c, .int .i64 wake, .pptr [[a, b, d, .sl bt 0 T.length]] 0 0, .int .i64 (chosenOf (waiting T c i) wake), .sl bt 0 T.length, .int .i64 T.length, .int .i64 i], [(bt, ⟨3, T.map ThrD.enc⟩)])) (fun _ => True) trivial (by simp [waiting, chosenOf]) rfl ?_
  intro i hi _
  dsimp only
  unfold object_notify_l1
  rcases Nat.lt_or_ge i T.length with h1 | h1
  · have hd := dec_lt h1
    have hx := map_at (f := ThrD.enc) h1
    have hsn := chosen_snoc (waiting T c i) i wake
    have hws := waiting_succ T c i
    have hwa : waitsAt T c i = waitsS T[i] c := by simp [waitsAt, h1]
    have goal : ∀ ch : Int, ch = chosenOf (waiting T c (i + 1)) wake → ∃ j, i < j ∧ j ≤ T.length ∧ True ∧ FzS [.int .i64 c, .int .i64 wake, .pptr [[a, b, d, .sl bt 0 T.length]] 0 0, .int .i64 ch, .sl bt 0 T.length, .int .i64 T.length, .int .i64 (IntKind.i64.wrap ((i : Int) + 1))] [(bt, ⟨3, T.map ThrD.enc⟩)]
        [.int .i64 c, .int .i64 wake, .pptr [[a, b, d, .sl bt 0 T.length]] 0 0, .int .i64 (chosenOf (waiting T c j) wake), .sl bt 0 T.length, .int .i64 T.length, .int .i64 j] [(bt, ⟨3, T.map ThrD.enc⟩)] := fun ch hch => ⟨i + 1, by omega, by omega, trivial, fzs_eq (by rw [i64_succ h1 (by omega), hch]) rfl⟩
    cases hw : waitsS T[i] c with
    | false =>
      rw [hw] at hwa
      repeat' (first | (refine h_bin ?_; first | refine a_lss ?_ | refine a_add ?_) | (refine h_cond ?_; first | refine b_cond_t ?_ | refine b_cond_f ?_) | (refine h_idx ?_; refine b_idx_sn ?_) | (refine h_row ?_; first | refine b_row_q ?_ | refine b_row_p ?_) | (refine h_pick ?_; refine b_pick_f ?_) | (refine h_grd ?_; first | refine b_grd_n ?_ | refine a_grd_u ?_) | refine a_mark ?_ | ((with_reducible refine h_fn 79 ?_); refine m_call (waits_ok _ _) ?_) | (refine h_frz1 ?_; refine b_frz_p ?_) | (refine h_store ?_; refine b_store_box ?_) | refine a_alloc (fun nb_ hnb_ => ?_))
      exact goal _ (by rw [hws, hwa]; simp)
    | true =>
      rw [hw] at hwa
      have hn : chosenOf (waiting T c (i + 1)) wake = if chosenOf (waiting T c i) wake < 0 ∨ (i : Int) = wake then (i : Int) else chosenOf (waiting T c i) wake := by rw [hws, hwa, if_pos rfl, hsn]
      by_cases g1 : chosenOf (waiting T c i) wake < 0
      · have e1 : decide (chosenOf (waiting T c i) wake < 0) = true := decide_eq_true g1
        repeat' (first | (refine h_bin ?_; first | refine a_lss ?_ | refine a_add ?_) | (refine h_cond ?_; refine b_cond_t ?_) | (refine h_idx ?_; refine b_idx_sn ?_) | (refine h_row ?_; first | refine b_row_q ?_ | refine b_row_p ?_) | (refine h_pick ?_; refine b_pick_t ?_) | (refine h_grd ?_; first | refine b_grd_y ?_ | refine b_grd_n ?_) | refine a_mark ?_ | ((with_reducible refine h_fn 79 ?_); refine m_call (waits_ok _ _) ?_) | (refine h_frz1 ?_; refine b_frz_p ?_) | (refine h_store ?_; refine b_store_box ?_) | refine a_alloc (fun nb_ hnb_ => ?_))
        exact goal _ (by rw [hn, if_pos (.inl g1)])
      · have e1 : decide (chosenOf (waiting T c i) wake < 0) = false := decide_eq_false g1
        by_cases g2 : (i : Int) = wake
        · have e2 : decide ((i : Int) = wake) = true := decide_eq_true g2
          repeat' (first | (refine h_bin ?_; first | refine a_eql ?_ | refine a_lss ?_ | refine a_add ?_) | (refine h_cond ?_; refine b_cond_t ?_) | (refine h_idx ?_; refine b_idx_sn ?_) | (refine h_row ?_; first | refine b_row_q ?_ | refine b_row_p ?_) | (refine h_pick ?_; first | refine b_pick_t ?_ | refine b_pick_f ?_) | (refine h_grd ?_; refine b_grd_y ?_) | refine a_mark ?_ | ((with_reducible refine h_fn 79 ?_); refine m_call (waits_ok _ _) ?_) | (refine h_frz1 ?_; refine b_frz_p ?_) | (refine h_store ?_; refine b_store_box ?_) | refine a_alloc (fun nb_ hnb_ => ?_))
          exact goal _ (by rw [hn, if_pos (.inr g2)])
        · have e2 : decide ((i : Int) = wake) = false := decide_eq_false g2
          repeat' (first | (refine h_bin ?_; first | refine a_eql ?_ | refine a_lss ?_ | refine a_add ?_) | (refine h_cond ?_; first | refine b_cond_t ?_ | refine b_cond_f ?_) | (refine h_idx ?_; refine b_idx_sn ?_) | (refine h_row ?_; first | refine b_row_q ?_ | refine b_row_p ?_) | (refine h_pick ?_; first | refine b_pick_t ?_ | refine b_pick_f ?_) | (refine h_grd ?_; refine b_grd_y ?_) | refine a_mark ?_ | ((with_reducible refine h_fn 79 ?_); refine m_call (waits_ok _ _) ?_) | (refine h_frz1 ?_; refine b_frz_p ?_) | (refine h_store ?_; refine b_store_box ?_) | refine a_alloc (fun nb_ hnb_ => ?_))
          exact goal _ (by rw [hn, if_neg (by omega)])
  · have hd := dec_ge h1
    have hi0 : i = T.length := by omega
    subst hi0
    have hns : chosenOf (waiting T c T.length) wake = notifyS T c wake := rfl
    rw [hns]
    by_cases g1 : 0 ≤ notifyS T c wake
    · have e1 : decide (0 ≤ notifyS T c wake) = true := decide_eq_true g1
      have hlt : (notifyS T c wake).toNat < T.length := waiting_lt (chosen_mem g1)
      have hx := map_at (f := ThrD.enc) hlt
      have hidx : notifyS T c wake = ((notifyS T c wake).toNat : Nat) := (Int.toNat_of_nonneg g1).symm
      have hst := set_enc T _ 4 hlt
      have hwk : wokenS T c wake = setSt T (notifyS T c wake).toNat 4 := by rw [wokenS, if_pos g1]
      generalize hk : (notifyS T c wake).toNat = k at *
      rw [hidx] at e1 hQ ⊢
      repeat' (first | (refine h_load1 ?_; refine b_load_q ?_) | (refine h_faddr ?_; first | refine a_faddr_q ?_ | refine a_faddr_p ?_) | (refine h_bin ?_; first | refine a_lss ?_ | refine a_geq ?_) | (refine h_cond ?_; first | refine b_cond_t ?_ | refine b_cond_f ?_) | (refine h_idx ?_; refine b_idx_sn ?_) | (refine h_store ?_; refine b_store_one ?_))
      subst hQ
      exact ⟨rfl, by rw [hwk, ← hst]⟩
    · have e1 : decide (0 ≤ notifyS T c wake) = false := decide_eq_false g1
      have hwk : wokenS T c wake = T := by rw [wokenS, if_neg g1]
      repeat' (first | (refine h_bin ?_; first | refine a_lss ?_ | refine a_geq ?_) | (refine h_cond ?_; refine b_cond_f ?_))
      subst hQ
      exact ⟨rfl, by rw [hwk]⟩
/-- all that wait below n are woken -/
def wakeAll (T : List ThrD) (c : Int) (n : Nat) : List ThrD := T.zipIdx.map fun p => if decide (p.2 < n) && waitsS p.1 c then { p.1 with status := 4 } else p.1
theorem wakeAll_at (T : List ThrD) (c : Int) (n i : Nat) (hi : i < T.length) : (wakeAll T c n)[i]? = some (if decide (i < n) && waitsS T[i] c then { T[i] with status := 4 } else T[i]) := by
  simp [wakeAll, hi]
theorem wakeAll_len (T : List ThrD) (c : Int) (n : Nat) : (wakeAll T c n).length = T.length := by simp [wakeAll]
theorem wakeAll_zero (T : List ThrD) (c : Int) : wakeAll T c 0 = T := by
  apply List.ext_getElem?
  intro i
  rcases Nat.lt_or_ge i T.length with hi | hi
  · rw [wakeAll_at T c 0 i hi]; simp [hi]
  · rw [List.getElem?_eq_none (by rw [wakeAll_len]; exact hi), List.getElem?_eq_none hi]
theorem wakeAll_succ (T : List ThrD) (c : Int) (n : Nat) (hn : n < T.length) : wakeAll T c (n + 1) = if waitsS T[n] c then (wakeAll T c n).set n { T[n] with status := 4 } else wakeAll T c n := by
  apply List.ext_getElem?
  intro i
  have key : ∀ hi : i < T.length, (if waitsS T[n] c then (wakeAll T c n).set n { T[n] with status := 4 } else wakeAll T c n)[i]? = some (if decide (i < n + 1) && waitsS T[i] c then { T[i] with status := 4 } else T[i]) := fun hi => by
    by_cases hin : i = n
    · subst hin
      cases hw : waitsS T[i] c with
      | true => simp [hw, wakeAll_len, hi]
      | false => simp [hw, wakeAll_at T c i i hi]
    · have h1 : decide (i < n + 1) = decide (i < n) := by apply decide_eq_decide.2; omega
      rw [h1]
      split
      · rw [List.getElem?_set_ne (by omega)]; exact wakeAll_at T c n i hi
      · exact wakeAll_at T c n i hi
  rcases Nat.lt_or_ge i T.length with hi | hi
  · rw [key hi, wakeAll_at T c (n + 1) i hi]
  · rw [List.getElem?_eq_none (by rw [wakeAll_len]; exact hi), List.getElem?_eq_none]
    split <;> simp [wakeAll_len, hi]
theorem notifyAll_ok (T : List ThrD) (c : Int) (hT : T.length < 2 ^ 40) (hbox : ([a, b, d, .sl bt 0 T.length] : List AV).all AV.one = true) :
    CallA Try.prog 51 [.agg [a, b, d, .sl bt 0 T.length], .int .i64 c] [(bt, ⟨3, T.map ThrD.enc⟩)] fun v L => v = .int .i64 ((waiting T c T.length).length : Nat) ∧ L = [(bt, ⟨3, (wakeAll T c T.length).map ThrD.enc⟩)] := by
  refine object_notifyAll_ok _ _ _ _ ?_
  unfold object_notifyAll_w
  generalize hQ : (fun (v : AV) (L : SH) => v = AV.int .i64 ((waiting T c T.length).length : Nat) ∧ L = [(bt, (⟨3, (wakeAll T c T.length).map ThrD.enc⟩ : Blk))]) = Q
  repeat' (first | (refine h_load1 ?_; refine b_load_q ?_) | (refine h_faddr ?_; refine a_faddr_q ?_) | (refine h_len ?_; refine a_len_s ?_) | refine a_box rfl hbox (fun nb_ hnb_ => ?_) | (refine h_frz1 ?_; refine b_frz_p ?_))
  refine for_by T.length (fun i => ([.int .i64 c, .pptr [[a, b, d, .sl bt 0 T.length]] 0 0, .int .i64 ((waiting T c i).length : Nat), .sl bt 0 T.length, .int .i64 T.length, .int .i64 i], [(bt, ⟨3, (wakeAll T c i).map ThrD.enc⟩)])) (fun _ => True) trivial (by simp [waiting]) (by rw [wakeAll_zero]) ?_
  intro i hi _
  dsimp only
  unfold object_notifyAll_l1
  rcases Nat.lt_or_ge i T.length with h1 | h1
  · have hd := dec_lt h1
    have hi2 : i < (wakeAll T c i).length := by rw [wakeAll_len]; exact h1
    have hti : (wakeAll T c i)[i] = T[i] := by
      have := wakeAll_at T c i i h1
      rw [List.getElem?_eq_getElem hi2] at this
      simpa using this
    have hx := map_at (f := ThrD.enc) hi2
    rw [hti] at hx
    have hws := waiting_succ T c i
    have hwa : waitsAt T c i = waitsS T[i] c := by simp [waitsAt, h1]
    have hsu := wakeAll_succ T c i h1
    have hwl : (waiting T c i).length ≤ i := Nat.le_trans (List.length_filter_le _ _) (by simp)
    cases hw : waitsS T[i] c with
    | false =>
      rw [hw] at hwa hsu
      repeat' (first | (refine h_bin ?_; first | refine a_lss ?_ | refine a_add ?_) | (refine h_cond ?_; first | refine b_cond_t ?_ | refine b_cond_f ?_) | (refine h_idx ?_; refine b_idx_sn ?_) | (refine h_row ?_; first | refine b_row_q ?_ | refine b_row_p ?_) | refine a_mark ?_ | ((with_reducible refine h_fn 79 ?_); refine m_call (waits_ok _ _) ?_) | (refine h_frz1 ?_; refine b_frz_p ?_) | (refine h_store ?_; refine b_store_box ?_) | refine a_alloc (fun nb_ hnb_ => ?_))
      refine ⟨i + 1, by omega, by omega, trivial, fzs_eq (by rw [i64_succ h1 (by omega), hws, hwa]; simp [slotOf]) (by rw [hsu]; simp)⟩
    | true =>
      rw [hw] at hwa hsu
      repeat' (first | (refine h_load1 ?_; refine b_load_q ?_) | (refine h_faddr ?_; first | refine a_faddr_q ?_ | refine a_faddr_p ?_) | (refine h_bin ?_; first | refine a_lss ?_ | refine a_add ?_) | (refine h_cond ?_; refine b_cond_t ?_) | (refine h_idx ?_; refine b_idx_sn ?_) | (refine h_row ?_; first | refine b_row_q ?_ | refine b_row_p ?_) | refine a_mark ?_ | ((with_reducible refine h_fn 79 ?_); refine m_call (waits_ok _ _) ?_) | (refine h_frz1 ?_; refine b_frz_p ?_) | (refine h_store ?_; first | refine b_store_box ?_ | refine b_store_one ?_) | refine a_alloc (fun nb_ hnb_ => ?_))
      refine ⟨i + 1, by omega, by omega, trivial, fzs_eq (by rw [i64_succ h1 (by omega), hws, hwa, i64_succ (Nat.lt_of_le_of_lt hwl h1) (by omega)]; simp [slotOf]) ?_⟩
      rw [hsu, if_pos rfl, List.map_set]
      simp [ThrD.enc]
  · have hd := dec_ge h1
    have hi0 : i = T.length := by omega
    subst hi0
    repeat' (first | (refine h_bin ?_; refine a_lss ?_) | (refine h_cond ?_; refine b_cond_f ?_))
    subst hQ
    exact ⟨rfl, rfl⟩
end
end Go.Proofs.Ytadjimfkfmojkaa.Am

end
