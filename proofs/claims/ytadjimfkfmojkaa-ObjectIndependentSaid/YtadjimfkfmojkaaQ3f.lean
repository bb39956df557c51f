/- ObjectIndependent: two events of different threads on different locks can be exchanged: the law returns true for every list of events and both choices. -/
import Derived.Test.YtadjimfkfmojkaaQ3e
import Derived.Test.YtadjimfkfmojkaaChecked
set_option linter.unusedSimpArgs false
set_option linter.unusedVariables false
section
namespace Go.Proofs.Ytadjimfkfmojkaa.Am
set_option maxRecDepth 100000
set_option linter.unusedSimpArgs false
set_option linter.unusedVariables false
set_option linter.unusedSectionVars false
/-- locks, row by row -/
theorem fz_locks {K : SH} {bl : Nat} {rows : List (List AV)} {ls : List LockD} {n : Nat} (hm : (bl, ⟨2, rows⟩) ∈ K) (hn : n = ls.length) (hl : rows.length = ls.length)
    (h : ∀ (j : Nat) (r : List AV) (x : LockD), rows[j]? = some r → ls[j]? = some x → ∃ a, r = [.int .i64 x.owner, a] ∧ Fz K a (.lst (x.readers.map intE))) : Fz K (.sl bl 0 n) (.lst (ls.map LockD.enc)) := by
  subst hn
  rcases Nat.eq_zero_or_pos ls.length with h0 | h0
  · have : ls = [] := List.length_eq_zero_iff.1 h0
    subst this
    exact .sl0 bl 0
  · have get : ∀ (j : Nat) (r r2 : List AV), rows[0 + j]? = some r → (ls.map LockD.enc)[j]? = some r2 → ∃ x : LockD, ls[j]? = some x ∧ r2 = x.enc ∧ ∃ a, r = [.int .i64 x.owner, a] ∧ Fz K a (.lst (x.readers.map intE)) := fun j r r2 h1 h2 => by
      rw [Nat.zero_add] at h1
      rw [List.getElem?_map] at h2
      cases hj : ls[j]? with
      | none => rw [hj] at h2; cases h2
      | some x => rw [hj] at h2; cases h2; exact ⟨x, rfl, rfl, h j r x h1 hj⟩
    refine .sl bl 0 _ ⟨2, rows⟩ _ hm (by simp) h0 (by simp) (by simp; omega) (fun j r r2 h1 h2 => ?_) (fun j r r2 q a a2 h1 h2 h3 h4 => ?_)
    · obtain ⟨x, _, rfl, a, rfl, _⟩ := get j r r2 h1 h2; rfl
    · obtain ⟨x, _, rfl, a', rfl, hz⟩ := get j r r2 h1 h2
      match q with
      | 0 => cases h3; cases h4; exact .refl _
      | 1 => cases h3; cases h4; exact hz
      | q + 2 => simp at h3
theorem enc_row (x : LockD) {K : SH} : ∃ a, x.enc = [.int .i64 x.owner, a] ∧ Fz K a (.lst (x.readers.map intE)) := ⟨_, rfl, .refl _⟩
/-- the rows behind a change of the readers of lock q -/
theorem rows_rd {K : SH} {s : SyncD} {o : Int} {ro : Option Nat} {f : LockD → LockD} {a : AV} (hl : inB o s.locks.length = true) (hf : ∀ x, (f x).owner = x.owner) (ha : Fz K a (.lst ((f (lockAt s o)).readers.map intE))) :
    ∀ (j : Nat) (r : List AV) (x : LockD), ((lockRows o.toNat ro s.locks).set (0 + o.toNat) [.int .i64 (lockAt s o).owner, a])[j]? = some r → (setLock s o f)[j]? = some x → ∃ a, r = [.int .i64 x.owner, a] ∧ Fz K a (.lst (x.readers.map intE)) := by
  intro j r x h1 h2
  obtain ⟨o0, o1⟩ := inB_iff.1 hl
  have hlt : o.toNat < s.locks.length := by omega
  unfold setLock at h2
  rw [Nat.zero_add] at h1
  by_cases hj : o.toNat = j
  · subst hj
    rw [List.getElem?_set_self (by rw [lockRows_len]; exact hlt)] at h1
    rw [List.getElem?_set_self hlt] at h2
    cases h1; cases h2
    exact ⟨a, by rw [hf], ha⟩
  · rw [List.getElem?_set_ne hj] at h1 h2
    have hjl : j < s.locks.length := (List.getElem?_eq_some_iff.1 h2).1
    rw [lockRows_at _ _ _ _ hjl] at h1
    rw [List.getElem?_eq_getElem hjl] at h2
    cases h1; cases h2
    unfold lockR
    rw [if_neg (fun e => hj e.symm)]
    exact enc_row _
theorem rowR_get {s : SyncD} {o : Int} {ro : Option Nat} (hl : inB o s.locks.length = true) : (lockRows o.toNat ro s.locks)[0 + o.toNat]? = some [.int .i64 (lockAt s o).owner, slotV ro (lockAt s o).readers.length] := by
  obtain ⟨o0, o1⟩ := inB_iff.1 hl
  have hlt : o.toNat < s.locks.length := by omega
  rw [Nat.zero_add, lockRows_at _ _ _ _ hlt]
  unfold lockR
  rw [if_pos rfl]
  simp [lockAt, hlt]
theorem take_map {α β : Type} {f : α → β} {l m : List α} {n : Nat} (h : l.take n = m) : ((l.map f).drop 0).take n = m.map f := by
  rw [List.drop_zero, ← List.map_take, h]
section
variable (w : WorldD) (s : SyncD) (t o wake : Int) (b7 b12 bl bt : Nat)
/-- the heap behind clone, where the readers of lock o lie in a block of their own -/
def apQ (ro : Option Nat) (R : SH) : SH := (bl, ⟨2, lockRows o.toNat ro s.locks⟩) :: (bt, ⟨3, s.threads.map ThrD.enc⟩) :: (b12, ⟨4, [[.nils, .int .i64 0, .nils, .nils]]⟩) :: (b7, ⟨4, [s.enc]⟩) :: (slotB ro 1 ((lockAt s o).readers.map intE) ++ R)
variable (R : SH) (dv : AV) (hone : dv.one = true) (Q : AV → SH → Prop) (hl : inB o s.locks.length = true) (hrd : (lockAt s o).readers.length < 2 ^ 40)
include hone hl hrd
theorem app_9 (br : Nat) (hnd : (apQ s o b7 b12 bl bt (some br) R).names.Nodup) (hq : Ends1 w s t o wake bl bt 9 R dv Q) : object_ApplyF_c8 (.ptr b7 0 0) Q (.int .i64 9) (.pptr [[.int .i64 t]] 0 0) (.ptr b12 0 0) (.int .i64 o) (.int .i64 wake) (.pptr [w.enc] 0 0) (.agg [.sl bl 0 s.locks.length, .int .i64 s.tx, dv, .sl bt 0 s.threads.length]) (apQ s o b7 b12 bl bt (some br) R) := by
  unfold object_ApplyF_c8
  simp only [SH.names, apQ, slotB, List.map_cons, List.nodup_cons, List.mem_cons, not_or, List.cons_append, List.nil_append] at hnd
  obtain ⟨⟨n1, n2, n3, n4, n12⟩, ⟨n5, n6, n7, n13⟩, ⟨n8, n9, n14⟩, ⟨n15, n16⟩, n10, n11⟩ := hnd
  have hb2 : ∀ tx : Int, ([.sl bl 0 s.locks.length, .int .i64 tx, dv, .sl bt 0 s.threads.length] : List AV).all AV.one = true := fun tx => box_one hone
  obtain ⟨o0, o1⟩ := inB_iff.1 hl
  have hx := rowR_get (ro := some br) hl
  have hdel := deleteFunc_ok 49 [.pptr [[.int .i64 t]] 0 0] (fun x => decide (x = t)) (apply1_ok t 0 []) br (lockAt s o).readers (by omega)
  unfold apQ
  simp only [slotB, List.cons_append, List.nil_append]
  repeat' (first | (refine h_load1 ?_; first | refine b_load_q ?_ | refine b_load_i ?_ | refine b_load_p ?_) | (refine h_faddr ?_; first | refine a_faddr_q ?_ | refine a_faddr_p ?_) | (refine h_bin ?_; first | refine a_eql ?_ | refine a_lss ?_ | refine a_neq ?_ | refine a_geq ?_ | refine a_gtr ?_ | refine a_leq ?_ | refine a_add ?_ | refine a_sub ?_ | refine a_mul ?_ | refine a_eqs ?_ | refine a_nes ?_ | refine b_rem ?_ | refine b_quo ?_) | (refine h_cond ?_; first | refine b_cond_t ?_ | refine b_cond_f ?_ | refine a_cond (fun h => ?_) (fun h => ?_)) | (refine h_idx ?_; first | refine b_idx_n ?_ | refine b_idx_l ?_ | refine b_idx_i ?_ | refine b_idx_sn ?_ | refine b_idx_s ?_) | (refine h_row ?_; first | refine b_row_q ?_ | refine b_row_i ?_ | refine b_row_p ?_) | (refine h_len ?_; first | refine a_len_m ?_ | refine a_len_l ?_ | refine a_len_s ?_ | refine a_len_n ?_ | refine a_len_e ?_) | (refine h_ext ?_; first | refine b_ext ?_) | (refine h_calm ?_; first | refine b_calm ?_) | (refine h_note ?_; first | refine a_note ?_) | (refine h_pick ?_; first | refine b_pick_t ?_ | refine b_pick_f ?_) | (refine h_grd ?_; first | refine b_grd_y ?_ | refine b_grd_n ?_ | refine a_grd_u ?_ | refine a_grd_t (fun h => ?_) (fun h => ?_) | refine a_grd_f (fun h => ?_) (fun h => ?_)) | (refine h_dgrd ?_; first | refine b_dgrd_y ?_ | refine b_dgrd_n ?_ | refine a_dgrd_u ?_ | refine a_dgrd_t (fun h => ?_) (fun h => ?_) | refine a_dgrd_f (fun h => ?_) (fun h => ?_)) | (refine h_nilchk ?_; first | refine a_nil_p ?_ | refine a_nil_q ?_ | refine a_nil_f ?_) | refine a_mark ?_ | refine a_dmark ?_ | refine a_store_box (by repeat constructor) rfl rfl (hb2 _) rfl ?_ | ((with_reducible refine h_dfn 48 ?_); (refine m_dcallD hdel (by repeat constructor) (by (simp only [W.free, slotOf, ↓reduceIte, Nat.reduceEqDiff, blocksOf, slOf, List.forall_mem_nil, List.forall_mem_cons, List.not_mem_nil, not_false_eq_true, implies_true, and_true, true_and, and_self, Bool.false_eq_true, reduceCtorEq, forall_const, false_implies, List.mem_singleton, forall_eq, List.append_nil, List.nil_append, List.mem_cons, or_false, false_or, forall_eq_or_imp, not_or]) <;> (repeat' constructor) <;> first | assumption | (exact Ne.symm (by assumption)) | (intro e_; subst e_; simp [SH.names] at *; done)) ?_; rintro _ _ ⟨R', rfl, rfl, hR1, hR2⟩)) | (refine h_un ?_; first | refine a_not ?_ | refine a_neg ?_) | (refine h_box ?_; first | refine b_box (fun nb_ hnb_ => ?_)) | (refine h_frz1 ?_; first | refine b_frz_p ?_ | refine b_frz_s ?_) | (refine h_store ?_; first | refine b_store_box ?_ | refine b_store_one ?_ | refine b_store_row ?_) | (refine h_idxP ?_; first | refine b_idxP_p ?_ | refine b_idxP_q ?_) | (refine h_mslice ?_; first | refine b_mslice (fun nb_ hnb_ => ?_)) | (refine h_bslice ?_; first | refine b_bslice (fun nb_ hnb_ => ?_)) | refine a_conv ?_ | refine a_convS ?_ | refine a_alloc (fun nb_ hnb_ => ?_) | refine b_build ?_ | refine b_fld ?_ | refine a_join ?_ | refine a_lenS ?_ | refine a_tt ?_)
  refine hq _ _ (setLock s o fun x => { x with readers := x.readers.filter fun y => !decide (y = t) }) s.threads _ (fz_locks (by repeat constructor) (by simp [setLock]) (by simp [setLock, lockRows_len]) (rows_rd hl (fun _ => rfl) ?_)) (Fz.sls (by repeat constructor) rfl (by simp) rfl) (fun p hp => by simp only [List.mem_cons, List.mem_append]; simp [hp]) (by simp only [applyS, Int.reduceEq, if_true, if_false, or_self, reduceIte])
  rw [← take_map hR1]
  exact Fz.rows (x := ⟨1, R'.map intE⟩) (by repeat constructor) (by simp) (by simp [hR2]; exact List.length_filter_le _ _)
theorem app_8 (ro : Option Nat) (hro : ro = none → (lockAt s o).readers = []) (hnd : (apQ s o b7 b12 bl bt ro R).names.Nodup) (hq : Ends1 w s t o wake bl bt 8 R dv Q) : object_ApplyF_c8 (.ptr b7 0 0) Q (.int .i64 8) (.pptr [[.int .i64 t]] 0 0) (.ptr b12 0 0) (.int .i64 o) (.int .i64 wake) (.pptr [w.enc] 0 0) (.agg [.sl bl 0 s.locks.length, .int .i64 s.tx, dv, .sl bt 0 s.threads.length]) (apQ s o b7 b12 bl bt ro R) := by
  unfold object_ApplyF_c8
  simp only [SH.names, apQ, List.map_cons, List.nodup_cons, List.mem_cons, not_or] at hnd
  obtain ⟨⟨n1, n2, n3, n4⟩, ⟨n5, n6, n7⟩, ⟨n8, n9⟩, n10, n11⟩ := hnd
  have hb2 : ∀ tx : Int, ([.sl bl 0 s.locks.length, .int .i64 tx, dv, .sl bt 0 s.threads.length] : List AV).all AV.one = true := fun tx => box_one hone
  obtain ⟨o0, o1⟩ := inB_iff.1 hl
  have hx := rowR_get (ro := ro) hl
  have hsort : ∀ nb, CallA Try.prog 40 [.sl nb 0 ((lockAt s o).readers.length + 1)] [(nb, ⟨1, (lockAt s o).readers.map intE ++ [[.int .i64 t]]⟩)] fun v L => v = .tup [] ∧ L = [(nb, ⟨1, (srt ((lockAt s o).readers ++ [t])).map intE⟩)] := fun nb => by
    have := sort_ok nb ((lockAt s o).readers ++ [t]) (by simp; omega)
    rw [List.length_append, List.map_append] at this
    exact this
  have hcomp : ∀ nb, CallA Try.prog 41 [.sl nb 0 ((lockAt s o).readers.length + 1)] [(nb, ⟨1, (srt ((lockAt s o).readers ++ [t])).map intE⟩)] fun v L => ∃ R' : List Int, v = .sl nb 0 (addRd (lockAt s o).readers t).length ∧ L = [(nb, ⟨1, R'.map intE⟩)] ∧ R'.take (addRd (lockAt s o).readers t).length = addRd (lockAt s o).readers t ∧ (addRd (lockAt s o).readers t).length ≤ R'.length := fun nb => by
    have := compact_ok nb (srt ((lockAt s o).readers ++ [t])) (by rw [srt_len]; simp; omega)
    rw [srt_len, List.length_append] at this
    refine this.mono fun v L ⟨h1, h2⟩ => ⟨_, h1, h2, ?_, ?_⟩
    · exact List.take_left' rfl
    · simp [addRd]
  unfold apQ
  repeat' (first | (refine h_load1 ?_; first | refine b_load_q ?_ | refine b_load_i ?_ | refine b_load_p ?_) | (refine h_faddr ?_; first | refine a_faddr_q ?_ | refine a_faddr_p ?_) | (refine h_bin ?_; first | refine a_eql ?_ | refine a_lss ?_ | refine a_neq ?_ | refine a_geq ?_ | refine a_gtr ?_ | refine a_leq ?_ | refine a_add ?_ | refine a_sub ?_ | refine a_mul ?_ | refine a_eqs ?_ | refine a_nes ?_ | refine b_rem ?_ | refine b_quo ?_) | (refine h_cond ?_; first | refine b_cond_t ?_ | refine b_cond_f ?_ | refine a_cond (fun h => ?_) (fun h => ?_)) | (refine h_idx ?_; first | refine b_idx_n ?_ | refine b_idx_l ?_ | refine b_idx_i ?_ | refine b_idx_sn ?_ | refine b_idx_s ?_) | (refine h_row ?_; first | refine b_row_q ?_ | refine b_row_i ?_ | refine b_row_p ?_) | (refine h_len ?_; first | refine a_len_m ?_ | refine a_len_l ?_ | refine a_len_s ?_ | refine a_len_n ?_ | refine a_len_e ?_) | (refine h_ext ?_; first | refine b_ext ?_) | (refine h_calm ?_; first | refine b_calm ?_) | (refine h_note ?_; first | refine a_note ?_) | (refine h_pick ?_; first | refine b_pick_t ?_ | refine b_pick_f ?_) | (refine h_grd ?_; first | refine b_grd_y ?_ | refine b_grd_n ?_ | refine a_grd_u ?_ | refine a_grd_t (fun h => ?_) (fun h => ?_) | refine a_grd_f (fun h => ?_) (fun h => ?_)) | (refine h_dgrd ?_; first | refine b_dgrd_y ?_ | refine b_dgrd_n ?_ | refine a_dgrd_u ?_ | refine a_dgrd_t (fun h => ?_) (fun h => ?_) | refine a_dgrd_f (fun h => ?_) (fun h => ?_)) | (refine h_nilchk ?_; first | refine a_nil_p ?_ | refine a_nil_q ?_ | refine a_nil_f ?_) | refine a_mark ?_ | refine a_dmark ?_ | refine a_store_box (by repeat constructor) rfl rfl (hb2 _) rfl ?_ | (refine a_app_slotN [_, _, _, _] (by simp) (fun e => by rw [hro e]; rfl) rfl (Nat.succ_pos 0) (by simp; omega) (by simp; omega) rfl ?_; intro nb_ hnb_; simp only [List.mem_cons, List.not_mem_nil, or_false, forall_eq_or_imp, forall_eq] at hnb_; obtain ⟨q1, q2, q3, q4⟩ := hnb_) | ((with_reducible refine h_fn 40 ?_); (refine m_callD (hsort _) (by repeat constructor) ?_; rintro _ _ ⟨rfl, rfl⟩)) | ((with_reducible refine h_dfn 41 ?_); (refine m_dcallD (hcomp _) (by repeat constructor) (by (simp only [W.free, slotOf, ↓reduceIte, Nat.reduceEqDiff, blocksOf, slOf, List.forall_mem_nil, List.forall_mem_cons, List.not_mem_nil, not_false_eq_true, implies_true, and_true, true_and, and_self, Bool.false_eq_true, reduceCtorEq, forall_const, false_implies, List.mem_singleton, forall_eq, List.append_nil, List.nil_append, List.mem_cons, or_false, false_or, forall_eq_or_imp, not_or]) <;> (repeat' constructor) <;> first | assumption | (exact Ne.symm (by assumption)) | (intro e_; subst e_; simp [SH.names] at *; done)) ?_; rintro _ _ ⟨R', rfl, rfl, hR1, hR2⟩)) | (refine h_un ?_; first | refine a_not ?_ | refine a_neg ?_) | (refine h_box ?_; first | refine b_box (fun nb_ hnb_ => ?_)) | (refine h_frz1 ?_; first | refine b_frz_p ?_ | refine b_frz_s ?_) | (refine h_store ?_; first | refine b_store_box ?_ | refine b_store_one ?_ | refine b_store_row ?_) | (refine h_idxP ?_; first | refine b_idxP_p ?_ | refine b_idxP_q ?_) | (refine h_mslice ?_; first | refine b_mslice (fun nb_ hnb_ => ?_)) | (refine h_bslice ?_; first | refine b_bslice (fun nb_ hnb_ => ?_)) | refine a_conv ?_ | refine a_convS ?_ | refine a_alloc (fun nb_ hnb_ => ?_) | refine b_build ?_ | refine b_fld ?_ | refine a_join ?_ | refine a_lenS ?_ | refine a_tt ?_)
  refine hq _ _ (setLock s o fun x => { x with readers := addRd x.readers t }) s.threads _ (fz_locks (by repeat constructor) (by simp [setLock]) (by simp [setLock, lockRows_len]) (rows_rd hl (fun _ => rfl) ?_)) (Fz.sls (by repeat constructor) rfl (by simp) rfl) (fun p hp => by simp only [List.mem_cons, List.mem_append]; simp [hp]) (by simp only [applyS, Int.reduceEq, if_true, if_false, or_self, reduceIte])
  rw [← take_map hR1]
  exact Fz.rows (x := ⟨1, R'.map intE⟩) (by repeat constructor) (by simp) (by simp; exact hR2)
end
end Go.Proofs.Ytadjimfkfmojkaa.Am

end
section
namespace Go.Proofs.Ytadjimfkfmojkaa.Am
set_option maxRecDepth 100000
set_option linter.unusedSimpArgs false
set_option linter.unusedVariables false
set_option linter.unusedSectionVars false
def zeroS : SyncD := ⟨[], 0, [], []⟩
def resS (w : WorldD) (s : SyncD) (t k o wake : Int) : SyncD × Int × Bool := if enabledS w s t k o then ((applyS w s t k o wake).1, (applyS w s t k o wake).2, true) else (zeroS, 0, false)
def encR (r : SyncD × Int × Bool) : AV := .tup [.agg r.1.enc, .int .i64 r.2.1, .bool r.2.2]
theorem lockRows_all (ro : Option Nat) (ls : List LockD) : lockRows ls.length ro ls = ls.map LockD.enc := by
  apply List.ext_getElem?
  intro i
  rcases Nat.lt_or_ge i ls.length with hi | hi
  · rw [lockRows_at _ _ _ _ hi, lockR, if_neg (by omega)]; simp [hi]
  · rw [List.getElem?_eq_none (by rw [lockRows_len]; exact hi), List.getElem?_eq_none (by simpa using hi)]
section
variable (s : SyncD) (h1 : s.locks.length < 2 ^ 40) (h2 : s.done.length < 2 ^ 40) (h3 : s.threads.length < 2 ^ 40) (hrd : ∀ l ∈ s.locks, l.readers.length < 2 ^ 40) (hne : s.threads ≠ [])
include h1 h2 h3 hrd hne
theorem clone_plain : CallA Try.prog 47 [.agg s.enc] [] fun v L => ∃ bl bt od, v = .agg [.sl bl 0 s.locks.length, .int .i64 s.tx, slotL od s.done.length, .sl bt 0 s.threads.length] ∧ L = (bl, ⟨2, s.locks.map LockD.enc⟩) :: (slotB od 1 (s.done.map boolE) ++ [(bt, ⟨3, s.threads.map ThrD.enc⟩)]) ∧ (od = none → s.done = []) := by
  refine (clone_ok s s.locks.length h1 h2 h3 hrd).mono ?_
  rintro v L ⟨bl, ro, od, ot, rfl, rfl, hod, hot, hro⟩
  cases ot with
  | none => exact absurd (hot rfl) hne
  | some bt => exact ⟨bl, bt, od, rfl, by rw [lockRows_all, rdB, if_neg (Nat.lt_irrefl _)]; rfl, hod⟩
theorem clone_rd (o : Int) (hl : inB o s.locks.length = true) : CallA Try.prog 47 [.agg s.enc] [] fun v L => ∃ bl bt ro od, v = .agg [.sl bl 0 s.locks.length, .int .i64 s.tx, slotL od s.done.length, .sl bt 0 s.threads.length] ∧ L = (bl, ⟨2, lockRows o.toNat ro s.locks⟩) :: (slotB ro 1 ((lockAt s o).readers.map intE) ++ (slotB od 1 (s.done.map boolE) ++ [(bt, ⟨3, s.threads.map ThrD.enc⟩)])) ∧ (od = none → s.done = []) ∧ (ro = none → (lockAt s o).readers = []) := by
  obtain ⟨o0, o1⟩ := inB_iff.1 hl
  have hlt : o.toNat < s.locks.length := by omega
  refine (clone_ok s o.toNat h1 h2 h3 hrd).mono ?_
  rintro v L ⟨bl, ro, od, ot, rfl, rfl, hod, hot, hro⟩
  cases ot with
  | none => exact absurd (hot rfl) hne
  | some bt => exact ⟨bl, bt, ro, od, rfl, by rw [rdB, if_pos hlt]; rfl, hod, fun e => hro e hlt⟩
end
theorem perm_a {α : Type} (a b c d : α) (X : List α) : ((a :: (X ++ [b])) ++ [c, d]).Perm (a :: b :: c :: d :: X) := by
  refine List.Perm.cons a ?_
  show ((X ++ [b]) ++ [c, d]).Perm _
  rw [List.append_assoc]
  exact List.perm_append_comm (l₁ := X) (l₂ := [b, c, d])
theorem perm_b {α : Type} (a b c d : α) (X Y : List α) : ((a :: (X ++ (Y ++ [b]))) ++ [c, d]).Perm (a :: b :: c :: d :: (X ++ Y)) := by
  rw [← List.append_assoc]
  exact perm_a a b c d (X ++ Y)
theorem slotL_one (od : Option Nat) (n : Nat) : (slotL od n).one = true := by cases od <;> rfl
theorem fz_done {s : SyncD} {od : Option Nat} (hod : od = none → s.done = []) {L : SH} (hR : ∀ p ∈ slotB od 1 (s.done.map boolE), p ∈ L) : Fz L (slotL od s.done.length) (.lst (s.done.map boolE)) := by
  cases od with
  | none => rw [hod rfl]; exact .refl _
  | some bd => exact Fz.sls (hR _ (List.mem_singleton.2 rfl)) rfl (by simp) rfl
structure Small (w : WorldD) (s : SyncD) : Prop where
  conds : w.conds.length < 2 ^ 40
  locks : s.locks.length < 2 ^ 40
  done : s.done.length < 2 ^ 40
  threads : s.threads.length < 2 ^ 40
  rd : ∀ l ∈ s.locks, l.readers.length < 2 ^ 40
section
variable (w : WorldD) (s : SyncD) (t k o wake : Int)
def EndQ (v : AV) (L : SH) : Prop := ∃ v2 L2, FzS [v] L [v2] L2 ∧ v2 = encR (resS w s t k o wake) ∧ L2 = []
theorem ends1 (hen : enabledS w s t k o = true) (bl bt : Nat) (od : Option Nat) (hod : od = none → s.done = []) : Ends1 w s t o wake bl bt k (slotB od 1 (s.done.map boolE)) (slotL od s.done.length) (EndQ w s t k o wake) := by
  intro tx val ls th L f1 f2 hR e
  refine ⟨_, [], FzS.all (Fz.tups (.cons (Fz.aggs (.cons f1 (.cons (.refl _) (.cons (fz_done hod hR) (.cons f2 .nil))))) (.cons (.refl _) (.cons (.refl _) .nil)))), ?_, rfl⟩
  unfold resS
  rw [if_pos hen, e]
  rfl
theorem ends2 (hen : enabledS w s t 22 o = true) (bl bt bd : Nat) : Ends2 s o bl bt bd (EndQ w s t 22 o wake) := by
  intro L f1 f2 f3
  refine ⟨_, [], FzS.all (Fz.tups (.cons (Fz.aggs (.cons f1 (.cons (.refl _) (.cons f3 (.cons f2 .nil))))) (.cons (.refl _) (.cons (.refl _) .nil)))), ?_, rfl⟩
  unfold resS
  rw [if_pos hen]
  rfl
theorem apply_c8 (hs : Small w s) (hen : enabledS w s t k o = true) (b7 b12 : Nat) :
    W.callM Try.prog 47 [.agg s.enc] [(b12, ⟨4, [[.nils, .int .i64 0, .nils, .nils]]⟩), (b7, ⟨4, [s.enc]⟩)] (object_ApplyF_c8 (.ptr b7 0 0) (EndQ w s t k o wake) (.int .i64 k) (.pptr [[.int .i64 t]] 0 0) (.ptr b12 0 0) (.int .i64 o) (.int .i64 wake) (.pptr [w.enc] 0 0)) := by
  have hen' := hen
  unfold enabledS at hen'
  simp only [Bool.and_eq_true] at hen'
  obtain ⟨⟨⟨hfi, hth⟩, hal⟩, hkd⟩ := hen'
  have hf := fitsS_iff.1 hfi
  have ht : inB t s.threads.length = true := by rw [hf.threads]; exact hth
  obtain ⟨t0, t1⟩ := inB_iff.1 ht
  have hne : s.threads ≠ [] := fun e => by rw [e] at t1; simp at t1; omega
  have plain : (∀ bl bt od, (od = none → s.done = []) → (apL s b7 b12 bl bt (slotB od 1 (s.done.map boolE))).names.Nodup → object_ApplyF_c8 (.ptr b7 0 0) (EndQ w s t k o wake) (.int .i64 k) (.pptr [[.int .i64 t]] 0 0) (.ptr b12 0 0) (.int .i64 o) (.int .i64 wake) (.pptr [w.enc] 0 0) (.agg [.sl bl 0 s.locks.length, .int .i64 s.tx, slotL od s.done.length, .sl bt 0 s.threads.length]) (apL s b7 b12 bl bt (slotB od 1 (s.done.map boolE)))) →
      W.callM Try.prog 47 [.agg s.enc] [(b12, ⟨4, [[.nils, .int .i64 0, .nils, .nils]]⟩), (b7, ⟨4, [s.enc]⟩)] (object_ApplyF_c8 (.ptr b7 0 0) (EndQ w s t k o wake) (.int .i64 k) (.pptr [[.int .i64 t]] 0 0) (.ptr b12 0 0) (.int .i64 o) (.int .i64 wake) (.pptr [w.enc] 0 0)) := fun h => by
    refine m_callN (clone_plain s hs.locks hs.done hs.threads hs.rd hne) ?_
    rintro v K ⟨bl, bt, od, rfl, rfl, hod⟩
    exact ⟨apL s b7 b12 bl bt (slotB od 1 (s.done.map boolE)), perm_a _ _ _ _ _, h bl bt od hod⟩
  have readers : inB o s.locks.length = true → (∀ bl bt ro od, (od = none → s.done = []) → (ro = none → (lockAt s o).readers = []) → (apQ s o b7 b12 bl bt ro (slotB od 1 (s.done.map boolE))).names.Nodup → object_ApplyF_c8 (.ptr b7 0 0) (EndQ w s t k o wake) (.int .i64 k) (.pptr [[.int .i64 t]] 0 0) (.ptr b12 0 0) (.int .i64 o) (.int .i64 wake) (.pptr [w.enc] 0 0) (.agg [.sl bl 0 s.locks.length, .int .i64 s.tx, slotL od s.done.length, .sl bt 0 s.threads.length]) (apQ s o b7 b12 bl bt ro (slotB od 1 (s.done.map boolE)))) →
      W.callM Try.prog 47 [.agg s.enc] [(b12, ⟨4, [[.nils, .int .i64 0, .nils, .nils]]⟩), (b7, ⟨4, [s.enc]⟩)] (object_ApplyF_c8 (.ptr b7 0 0) (EndQ w s t k o wake) (.int .i64 k) (.pptr [[.int .i64 t]] 0 0) (.ptr b12 0 0) (.int .i64 o) (.int .i64 wake) (.pptr [w.enc] 0 0)) := fun hl h => by
    refine m_callN (clone_rd s hs.locks hs.done hs.threads hs.rd hne o hl) ?_
    rintro v K ⟨bl, bt, ro, od, rfl, rfl, hod, hro⟩
    exact ⟨apQ s o b7 b12 bl bt ro (slotB od 1 (s.done.map boolE)), perm_b _ _ _ _ _ _, h bl bt ro od hod hro⟩
  have e1 := fun bl bt od hod => ends1 w s t k o wake hen bl bt od hod
  have hrl : ∀ o, inB o s.locks.length = true → (lockAt s o).readers.length < 2 ^ 40 := fun o h => by
    obtain ⟨o0, o1⟩ := inB_iff.1 h
    have hlt : o.toNat < s.locks.length := by omega
    unfold lockAt
    rw [show s.locks.getD o.toNat default = s.locks[o.toNat] by simp [hlt]]
    exact hs.rd _ (List.getElem_mem hlt)
  rcases kinds k with hk | rfl | rfl | rfl | rfl | rfl | rfl | rfl | rfl | rfl | rfl | rfl | rfl | rfl | rfl | rfl | rfl | rfl | rfl | rfl | rfl | rfl | rfl | rfl 
  · simp only [allowedS] at hal
    repeat (rw [if_neg (by omega)] at hal)
    cases hal
  · exact plain fun bl bt od hod hnd => app_1 w s t o wake b7 b12 bl bt _ _ (slotL_one _ _) _ hf ht hnd hal (e1 bl bt od hod)
  · exact plain fun bl bt od hod hnd => app_2 w s t o wake b7 b12 bl bt _ _ (slotL_one _ _) _ hf ht hnd hal (e1 bl bt od hod)
  · exact plain fun bl bt od hod hnd => app_3 w s t o wake b7 b12 bl bt _ _ (slotL_one _ _) _ hf ht hnd hal (e1 bl bt od hod)
  · exact plain fun bl bt od hod hnd => app_4 w s t o wake b7 b12 bl bt _ _ (slotL_one _ _) _ hf ht hnd hal (e1 bl bt od hod)
  · exact plain fun bl bt od hod hnd => app_5 w s t o wake b7 b12 bl bt _ _ (slotL_one _ _) _ hf ht hnd hal (e1 bl bt od hod)
  · exact plain fun bl bt od hod hnd => app_6 w s t o wake b7 b12 bl bt _ _ (slotL_one _ _) _ hf ht hnd hal (e1 bl bt od hod)
  · exact plain fun bl bt od hod hnd => app_7 w s t o wake b7 b12 bl bt _ _ (slotL_one _ _) _ hf ht hnd hal (e1 bl bt od hod)
  · have hl : inB o s.locks.length = true := by rw [hf.locks]; simp [allowedS] at hal; exact hal.1
    exact readers hl fun bl bt ro od hod hro hnd => app_8 w s t o wake b7 b12 bl bt _ _ (slotL_one _ _) _ hl (hrl o hl) ro hro hnd (e1 bl bt od hod)
  · have hl : inB o s.locks.length = true := by rw [hf.locks]; simp [allowedS] at hal; exact hal.1
    refine readers hl fun bl bt ro od hod hro hnd => ?_
    cases ro with
    | none =>
      have hc : (lockAt s o).readers.contains t = true := by
        have := hkd
        simp [readyS] at this
        simpa using this.2
      rw [hro rfl] at hc
      cases hc
    | some br => exact app_9 w s t o wake b7 b12 bl bt _ _ (slotL_one _ _) _ hl (hrl o hl) br hnd (e1 bl bt od hod)
  · exact plain fun bl bt od hod hnd => app_10 w s t o wake b7 b12 bl bt _ _ (slotL_one _ _) _ hf ht hnd hal (e1 bl bt od hod)
  · exact plain fun bl bt od hod hnd => app_11 w s t o wake b7 b12 bl bt _ _ (slotL_one _ _) _ hf ht hnd hal (e1 bl bt od hod)
  · exact plain fun bl bt od hod hnd => app_12 w s t o wake b7 b12 bl bt _ _ (slotL_one _ _) _ hf ht hnd hal (e1 bl bt od hod)
  · exact plain fun bl bt od hod hnd => app_13 w s t o wake b7 b12 bl bt _ _ (slotL_one _ _) _ hf ht hnd hal (e1 bl bt od hod)
  · exact plain fun bl bt od hod hnd => app_14 w s t o wake b7 b12 bl bt _ _ (slotL_one _ _) _ hf ht hnd hal (e1 bl bt od hod)
  · exact plain fun bl bt od hod hnd => app_15 w s t o wake b7 b12 bl bt _ _ (slotL_one _ _) _ hf ht hnd hal (e1 bl bt od hod)
  · exact plain fun bl bt od hod hnd => app_16 w s t o wake b7 b12 bl bt _ _ (slotL_one _ _) _ hf ht hnd hal (e1 bl bt od hod)
  · exact plain fun bl bt od hod hnd => app_17 w s t o wake b7 b12 bl bt _ _ (slotL_one _ _) _ hf ht hnd hal (e1 bl bt od hod)
  · exact plain fun bl bt od hod hnd => app_18 w s t o wake b7 b12 bl bt _ _ (slotL_one _ _) _ hf ht hnd hs.threads (e1 bl bt od hod)
  · exact plain fun bl bt od hod hnd => app_19 w s t o wake b7 b12 bl bt _ _ (slotL_one _ _) _ hf ht hnd hs.threads (e1 bl bt od hod)
  · exact plain fun bl bt od hod hnd => app_20 w s t o wake b7 b12 bl bt _ _ (slotL_one _ _) _ hf ht hnd hal (e1 bl bt od hod)
  · exact plain fun bl bt od hod hnd => app_21 w s t o wake b7 b12 bl bt _ _ (slotL_one _ _) _ hf ht hnd hal (e1 bl bt od hod)
  · refine plain fun bl bt od hod hnd => ?_
    cases od with
    | none =>
      have hl : inB o s.done.length = true := by rw [hf.done]; simpa [allowedS] using hal
      obtain ⟨o0, o1⟩ := inB_iff.1 hl
      rw [hod rfl] at o1
      simp at o1
      omega
    | some bd => exact app_22 w s t o wake b7 b12 bl bt _ hf ht bd hnd hal (ends2 w s t o wake hen bl bt bd)
  · exact plain fun bl bt od hod hnd => app_23 w s t o wake b7 b12 bl bt _ _ (slotL_one _ _) _ hf ht hnd hal (e1 bl bt od hod)
theorem apply_ok (hs : Small w s) : PureA Try.prog 26 [.agg w.enc, .agg s.enc, .int .i64 t, .int .i64 k, .int .i64 o, .int .i64 wake] (encR (resS w s t k o wake)) := by
  refine CallA.fz (object_ApplyF_ok _ _ _ _ _ _ _ _ ?_)
  show object_ApplyF_w _ _ _ _ _ _ _ (EndQ w s t k o wake)
  unfold object_ApplyF_w
  have hcn : w.conds.length < 2 ^ 62 := by have := hs.conds; omega
  have he := enabled_ok w s t k o hcn hs.rd
  have hc8 := apply_c8 w s t k o wake hs
  have fin : enabledS w s t k o = false → ∀ L, EndQ w s t k o wake (.tup [.agg [.nils, .int .i64 0, .nils, .nils], .int .i64 0, .bool false]) L := fun hn L => by
    refine ⟨_, [], FzS.all (Fz.tups (.cons (Fz.aggs (.cons .nils (.cons (.refl _) (.cons .nils (.cons .nils .nil))))) (.cons (.refl _) (.cons (.refl _) .nil)))), ?_, rfl⟩
    unfold resS
    rw [hn]
    rfl
  generalize EndQ w s t k o wake = Q at *
  cases hen : enabledS w s t k o with
  | false =>
    rw [hen] at he
    have nh : (!false) = true := rfl
    have fin := fin hen
    clear hc8
    repeat' (first | (refine h_load1 ?_; first | refine b_load_q ?_ | refine b_load_i ?_ | refine b_load_p ?_) | (refine h_faddr ?_; first | refine a_faddr_q ?_ | refine a_faddr_p ?_) | (refine h_bin ?_; first | refine a_eql ?_ | refine a_lss ?_ | refine a_neq ?_ | refine a_geq ?_ | refine a_gtr ?_ | refine a_leq ?_ | refine a_add ?_ | refine a_sub ?_ | refine a_mul ?_ | refine a_eqs ?_ | refine a_nes ?_ | refine b_rem ?_ | refine b_quo ?_) | (refine h_cond ?_; first | refine b_cond_t ?_ | refine b_cond_f ?_ | refine a_cond (fun h => ?_) (fun h => ?_)) | (refine h_idx ?_; first | refine b_idx_n ?_ | refine b_idx_l ?_ | refine b_idx_i ?_ | refine b_idx_sn ?_ | refine b_idx_s ?_) | (refine h_row ?_; first | refine b_row_q ?_ | refine b_row_i ?_ | refine b_row_p ?_) | (refine h_len ?_; first | refine a_len_m ?_ | refine a_len_l ?_ | refine a_len_s ?_ | refine a_len_n ?_ | refine a_len_e ?_) | (refine h_ext ?_; first | refine b_ext ?_) | (refine h_calm ?_; first | refine b_calm ?_) | (refine h_note ?_; first | refine a_note ?_) | (refine h_pick ?_; first | refine b_pick_t ?_ | refine b_pick_f ?_) | (refine h_grd ?_; first | refine b_grd_y ?_ | refine b_grd_n ?_ | refine a_grd_u ?_ | refine a_grd_t (fun h => ?_) (fun h => ?_) | refine a_grd_f (fun h => ?_) (fun h => ?_)) | (refine h_dgrd ?_; first | refine b_dgrd_y ?_ | refine b_dgrd_n ?_ | refine a_dgrd_u ?_ | refine a_dgrd_t (fun h => ?_) (fun h => ?_) | refine a_dgrd_f (fun h => ?_) (fun h => ?_)) | (refine h_nilchk ?_; first | refine a_nil_p ?_ | refine a_nil_q ?_ | refine a_nil_f ?_) | refine a_mark ?_ | refine a_dmark ?_ | ((with_reducible refine h_fn 27 ?_); refine m_call (he) ?_) | ((with_reducible refine h_dfn 27 ?_); refine b_dcall (he) ?_) | (refine h_un ?_; first | refine a_not ?_ | refine a_neg ?_) | (refine h_box ?_; first | refine b_box (fun nb_ hnb_ => ?_)) | (refine h_frz1 ?_; first | refine b_frz_p ?_ | refine b_frz_s ?_) | (refine h_store ?_; first | refine b_store_box ?_ | refine b_store_one ?_ | refine b_store_row ?_) | (refine h_idxP ?_; first | refine b_idxP_p ?_ | refine b_idxP_q ?_) | (refine h_mslice ?_; first | refine b_mslice (fun nb_ hnb_ => ?_)) | (refine h_bslice ?_; first | refine b_bslice (fun nb_ hnb_ => ?_)) | refine a_conv ?_ | refine a_convS ?_ | refine a_alloc (fun nb_ hnb_ => ?_) | refine b_build ?_ | refine b_fld ?_ | refine a_join ?_ | refine a_lenS ?_ | refine a_tt ?_)
    exact fin _
  | true =>
    rw [hen] at he
    have hc8 := hc8 hen
    clear fin
    repeat' (first | exact hc8 _ _ | (refine h_load1 ?_; first | refine b_load_q ?_ | refine b_load_i ?_ | refine b_load_p ?_) | (refine h_faddr ?_; first | refine a_faddr_q ?_ | refine a_faddr_p ?_) | (refine h_bin ?_; first | refine a_eql ?_ | refine a_lss ?_ | refine a_neq ?_ | refine a_geq ?_ | refine a_gtr ?_ | refine a_leq ?_ | refine a_add ?_ | refine a_sub ?_ | refine a_mul ?_ | refine a_eqs ?_ | refine a_nes ?_ | refine b_rem ?_ | refine b_quo ?_) | (refine h_cond ?_; first | refine b_cond_t ?_ | refine b_cond_f ?_ | refine a_cond (fun h => ?_) (fun h => ?_)) | (refine h_idx ?_; first | refine b_idx_n ?_ | refine b_idx_l ?_ | refine b_idx_i ?_ | refine b_idx_sn ?_ | refine b_idx_s ?_) | (refine h_row ?_; first | refine b_row_q ?_ | refine b_row_i ?_ | refine b_row_p ?_) | (refine h_len ?_; first | refine a_len_m ?_ | refine a_len_l ?_ | refine a_len_s ?_ | refine a_len_n ?_ | refine a_len_e ?_) | (refine h_ext ?_; first | refine b_ext ?_) | (refine h_calm ?_; first | refine b_calm ?_) | (refine h_note ?_; first | refine a_note ?_) | (refine h_pick ?_; first | refine b_pick_t ?_ | refine b_pick_f ?_) | (refine h_grd ?_; first | refine b_grd_y ?_ | refine b_grd_n ?_ | refine a_grd_u ?_ | refine a_grd_t (fun h => ?_) (fun h => ?_) | refine a_grd_f (fun h => ?_) (fun h => ?_)) | (refine h_dgrd ?_; first | refine b_dgrd_y ?_ | refine b_dgrd_n ?_ | refine a_dgrd_u ?_ | refine a_dgrd_t (fun h => ?_) (fun h => ?_) | refine a_dgrd_f (fun h => ?_) (fun h => ?_)) | (refine h_nilchk ?_; first | refine a_nil_p ?_ | refine a_nil_q ?_ | refine a_nil_f ?_) | refine a_mark ?_ | refine a_dmark ?_ | ((with_reducible refine h_fn 27 ?_); refine m_call (he) ?_) | ((with_reducible refine h_dfn 27 ?_); refine b_dcall (he) ?_) | (refine h_un ?_; first | refine a_not ?_ | refine a_neg ?_) | (refine h_box ?_; first | refine b_box (fun nb_ hnb_ => ?_)) | (refine h_frz1 ?_; first | refine b_frz_p ?_ | refine b_frz_s ?_) | (refine h_store ?_; first | refine b_store_box ?_ | refine b_store_one ?_ | refine b_store_row ?_) | (refine h_idxP ?_; first | refine b_idxP_p ?_ | refine b_idxP_q ?_) | (refine h_mslice ?_; first | refine b_mslice (fun nb_ hnb_ => ?_)) | (refine h_bslice ?_; first | refine b_bslice (fun nb_ hnb_ => ?_)) | refine a_conv ?_ | refine a_convS ?_ | refine a_alloc (fun nb_ hnb_ => ?_) | refine b_build ?_ | refine b_fld ?_ | refine a_join ?_ | refine a_lenS ?_ | refine a_tt ?_)
end
end Go.Proofs.Ytadjimfkfmojkaa.Am

end
section
namespace Go.Proofs.Ytadjimfkfmojkaa.Am
set_option maxRecDepth 100000
set_option linter.unusedSimpArgs false
set_option linter.unusedVariables false
theorem take_step {α : Type} {a b : List α} {i : Nat} (ha : i < a.length) (hb : i < b.length) (h : a.take i = b.take i) (he : a[i] = b[i]) : a.take (i + 1) = b.take (i + 1) := by
  rw [List.take_succ_eq_append_getElem ha, List.take_succ_eq_append_getElem hb, h, he]
theorem take_all {α : Type} {a b : List α} {i : Nat} (ha : a.length ≤ i) (hl : a.length = b.length) (h : a.take i = b.take i) : a = b := by
  rwa [List.take_of_length_le ha, List.take_of_length_le (by omega)] at h
theorem sameInts_ok (a b : List Int) (hl : a.length < 2 ^ 62) : PureA Try.prog 34 [.lst (a.map intE), .lst (b.map intE)] (.bool (decide (a = b))) := by
  refine ref07_SameInts_ok _ _ _ _ ?_
  unfold ref07_SameInts_w
  repeat' (first | (refine h_load1 ?_; first | refine b_load_q ?_ | refine b_load_i ?_ | refine b_load_p ?_) | (refine h_faddr ?_; first | refine a_faddr_q ?_ | refine a_faddr_p ?_) | (refine h_bin ?_; first | refine a_eql ?_ | refine a_lss ?_ | refine a_neq ?_ | refine a_geq ?_ | refine a_gtr ?_ | refine a_leq ?_ | refine a_add ?_ | refine a_sub ?_ | refine a_mul ?_ | refine a_eqs ?_ | refine a_nes ?_ | refine b_rem ?_ | refine b_quo ?_) | (refine h_cond ?_; first | refine b_cond_t ?_ | refine b_cond_f ?_ | refine a_cond (fun h => ?_) (fun h => ?_)) | (refine h_idx ?_; first | refine b_idx_n ?_ | refine b_idx_l ?_ | refine b_idx_i ?_ | refine b_idx_sn ?_ | refine b_idx_s ?_) | (refine h_row ?_; first | refine b_row_q ?_ | refine b_row_i ?_ | refine b_row_p ?_) | (refine h_len ?_; first | refine a_len_m ?_ | refine a_len_l ?_ | refine a_len_s ?_ | refine a_len_n ?_ | refine a_len_e ?_) | (refine h_ext ?_; first | refine b_ext ?_) | (refine h_calm ?_; first | refine b_calm ?_) | (refine h_note ?_; first | refine a_note ?_) | (refine h_pick ?_; first | refine b_pick_t ?_ | refine b_pick_f ?_) | (refine h_grd ?_; first | refine b_grd_y ?_ | refine b_grd_n ?_ | refine a_grd_u ?_ | refine a_grd_t (fun h => ?_) (fun h => ?_) | refine a_grd_f (fun h => ?_) (fun h => ?_)) | (refine h_dgrd ?_; first | refine b_dgrd_y ?_ | refine b_dgrd_n ?_ | refine a_dgrd_u ?_ | refine a_dgrd_t (fun h => ?_) (fun h => ?_) | refine a_dgrd_f (fun h => ?_) (fun h => ?_)) | (refine h_nilchk ?_; first | refine a_nil_p ?_ | refine a_nil_q ?_ | refine a_nil_f ?_) | refine a_mark ?_ | refine a_dmark ?_ | (refine h_un ?_; first | refine a_not ?_ | refine a_neg ?_) | (refine h_box ?_; first | refine b_box (fun nb_ hnb_ => ?_)) | (refine h_frz1 ?_; first | refine b_frz_p ?_ | refine b_frz_s ?_) | (refine h_store ?_; first | refine b_store_box ?_ | refine b_store_one ?_ | refine b_store_row ?_) | (refine h_idxP ?_; first | refine b_idxP_p ?_ | refine b_idxP_q ?_) | (refine h_mslice ?_; first | refine b_mslice (fun nb_ hnb_ => ?_)) | (refine h_bslice ?_; first | refine b_bslice (fun nb_ hnb_ => ?_)) | refine a_conv ?_ | refine a_convS ?_ | refine a_alloc (fun nb_ hnb_ => ?_) | refine b_build ?_ | refine b_fld ?_ | refine a_join ?_ | refine a_lenS ?_ | refine a_tt ?_)
  · refine ⟨?_, rfl⟩
    have := of_decide_eq_true h
    rw [show decide (a = b) = false from decide_eq_false fun e => this (by rw [e])]
  · have he : a.length = b.length := by have := of_decide_eq_false h; omega
    refine for_by a.length (fun i => ([.lst (a.map intE), .lst (b.map intE), .int .i64 i], [])) (fun i => a.take i = b.take i) rfl rfl rfl ?_
    intro i hi hG
    dsimp only
    unfold ref07_SameInts_l0
    rcases Nat.lt_or_ge i a.length with g1 | g1
    · have g2 : i < b.length := by omega
      have hx := map_at (f := intE) g1
      have hy := map_at (f := intE) g2
      have hd := dec_lt g1
      repeat' (first | (refine h_load1 ?_; first | refine b_load_q ?_ | refine b_load_i ?_ | refine b_load_p ?_) | (refine h_faddr ?_; first | refine a_faddr_q ?_ | refine a_faddr_p ?_) | (refine h_bin ?_; first | refine a_eql ?_ | refine a_lss ?_ | refine a_neq ?_ | refine a_geq ?_ | refine a_gtr ?_ | refine a_leq ?_ | refine a_add ?_ | refine a_sub ?_ | refine a_mul ?_ | refine a_eqs ?_ | refine a_nes ?_ | refine b_rem ?_ | refine b_quo ?_) | (refine h_cond ?_; first | refine b_cond_t ?_ | refine b_cond_f ?_ | refine a_cond (fun h => ?_) (fun h => ?_)) | (refine h_idx ?_; first | refine b_idx_n ?_ | refine b_idx_l ?_ | refine b_idx_i ?_ | refine b_idx_sn ?_ | refine b_idx_s ?_) | (refine h_row ?_; first | refine b_row_q ?_ | refine b_row_i ?_ | refine b_row_p ?_) | (refine h_len ?_; first | refine a_len_m ?_ | refine a_len_l ?_ | refine a_len_s ?_ | refine a_len_n ?_ | refine a_len_e ?_) | (refine h_ext ?_; first | refine b_ext ?_) | (refine h_calm ?_; first | refine b_calm ?_) | (refine h_note ?_; first | refine a_note ?_) | (refine h_pick ?_; first | refine b_pick_t ?_ | refine b_pick_f ?_) | (refine h_grd ?_; first | refine b_grd_y ?_ | refine b_grd_n ?_ | refine a_grd_u ?_ | refine a_grd_t (fun h => ?_) (fun h => ?_) | refine a_grd_f (fun h => ?_) (fun h => ?_)) | (refine h_dgrd ?_; first | refine b_dgrd_y ?_ | refine b_dgrd_n ?_ | refine a_dgrd_u ?_ | refine a_dgrd_t (fun h => ?_) (fun h => ?_) | refine a_dgrd_f (fun h => ?_) (fun h => ?_)) | (refine h_nilchk ?_; first | refine a_nil_p ?_ | refine a_nil_q ?_ | refine a_nil_f ?_) | refine a_mark ?_ | refine a_dmark ?_ | (refine h_un ?_; first | refine a_not ?_ | refine a_neg ?_) | (refine h_box ?_; first | refine b_box (fun nb_ hnb_ => ?_)) | (refine h_frz1 ?_; first | refine b_frz_p ?_ | refine b_frz_s ?_) | (refine h_store ?_; first | refine b_store_box ?_ | refine b_store_one ?_ | refine b_store_row ?_) | (refine h_idxP ?_; first | refine b_idxP_p ?_ | refine b_idxP_q ?_) | (refine h_mslice ?_; first | refine b_mslice (fun nb_ hnb_ => ?_)) | (refine h_bslice ?_; first | refine b_bslice (fun nb_ hnb_ => ?_)) | refine a_conv ?_ | refine a_convS ?_ | refine a_alloc (fun nb_ hnb_ => ?_) | refine b_build ?_ | refine b_fld ?_ | refine a_join ?_ | refine a_lenS ?_ | refine a_tt ?_)
      · refine ⟨?_, rfl⟩
        have h3 := of_decide_eq_true h
        rw [show decide (a = b) = false from decide_eq_false fun e => h3 (by subst e; rfl)]
      · refine ⟨i + 1, by omega, by omega, take_step g1 g2 hG (by simpa using h), fzs_eq (by rw [i64_succ g1 hl]; rfl) rfl⟩
    · have hd := dec_ge g1
      repeat' (first | (refine h_load1 ?_; first | refine b_load_q ?_ | refine b_load_i ?_ | refine b_load_p ?_) | (refine h_faddr ?_; first | refine a_faddr_q ?_ | refine a_faddr_p ?_) | (refine h_bin ?_; first | refine a_eql ?_ | refine a_lss ?_ | refine a_neq ?_ | refine a_geq ?_ | refine a_gtr ?_ | refine a_leq ?_ | refine a_add ?_ | refine a_sub ?_ | refine a_mul ?_ | refine a_eqs ?_ | refine a_nes ?_ | refine b_rem ?_ | refine b_quo ?_) | (refine h_cond ?_; first | refine b_cond_t ?_ | refine b_cond_f ?_ | refine a_cond (fun h => ?_) (fun h => ?_)) | (refine h_idx ?_; first | refine b_idx_n ?_ | refine b_idx_l ?_ | refine b_idx_i ?_ | refine b_idx_sn ?_ | refine b_idx_s ?_) | (refine h_row ?_; first | refine b_row_q ?_ | refine b_row_i ?_ | refine b_row_p ?_) | (refine h_len ?_; first | refine a_len_m ?_ | refine a_len_l ?_ | refine a_len_s ?_ | refine a_len_n ?_ | refine a_len_e ?_) | (refine h_ext ?_; first | refine b_ext ?_) | (refine h_calm ?_; first | refine b_calm ?_) | (refine h_note ?_; first | refine a_note ?_) | (refine h_pick ?_; first | refine b_pick_t ?_ | refine b_pick_f ?_) | (refine h_grd ?_; first | refine b_grd_y ?_ | refine b_grd_n ?_ | refine a_grd_u ?_ | refine a_grd_t (fun h => ?_) (fun h => ?_) | refine a_grd_f (fun h => ?_) (fun h => ?_)) | (refine h_dgrd ?_; first | refine b_dgrd_y ?_ | refine b_dgrd_n ?_ | refine a_dgrd_u ?_ | refine a_dgrd_t (fun h => ?_) (fun h => ?_) | refine a_dgrd_f (fun h => ?_) (fun h => ?_)) | (refine h_nilchk ?_; first | refine a_nil_p ?_ | refine a_nil_q ?_ | refine a_nil_f ?_) | refine a_mark ?_ | refine a_dmark ?_ | (refine h_un ?_; first | refine a_not ?_ | refine a_neg ?_) | (refine h_box ?_; first | refine b_box (fun nb_ hnb_ => ?_)) | (refine h_frz1 ?_; first | refine b_frz_p ?_ | refine b_frz_s ?_) | (refine h_store ?_; first | refine b_store_box ?_ | refine b_store_one ?_ | refine b_store_row ?_) | (refine h_idxP ?_; first | refine b_idxP_p ?_ | refine b_idxP_q ?_) | (refine h_mslice ?_; first | refine b_mslice (fun nb_ hnb_ => ?_)) | (refine h_bslice ?_; first | refine b_bslice (fun nb_ hnb_ => ?_)) | refine a_conv ?_ | refine a_convS ?_ | refine a_alloc (fun nb_ hnb_ => ?_) | refine b_build ?_ | refine b_fld ?_ | refine a_join ?_ | refine a_lenS ?_ | refine a_tt ?_)
      refine ⟨?_, rfl⟩
      rw [show decide (a = b) = true from decide_eq_true (take_all g1 he hG)]
theorem neq_thr {K : AV → Prop} (x y : ThrD) (h : K (.bool (decide (x ≠ y)))) : W.bin Try.prog Fl .neq 66 (.agg x.enc) (.agg y.enc) K := by
  rw [bin_eq]
  refine ⟨.bool (decide (x ≠ y)), ?_, h⟩
  have hF : Fl 66 = some [3, 3, 4] := by kernel_rfl
  have hi : Try.prog.underlying 3 = some (.int .i64) := by kernel_rfl
  have hb : Try.prog.underlying 4 = some .bool := by kernel_rfl
  obtain ⟨a1, a2, a3⟩ := x
  obtain ⟨b1, b2, b3⟩ := y
  simp only [binA, ThrD.enc, hF, Option.bind_some, eqAs, eqA, hi, hb, if_true]
  by_cases h1 : a1 = b1 <;> by_cases h2 : a2 = b2 <;> by_cases h3 : a3 = b3 <;> simp [h1, h2, h3]
/-- two lists, one by one -/
theorem neq_bool {K : AV → Prop} (x y : Bool) (h : K (.bool (decide (x ≠ y)))) : W.bin Try.prog Fl .neq 4 (.bool x) (.bool y) K := by
  rw [neq_b _ (show Try.prog.underlying 4 = some .bool by kernel_rfl)]
  rw [show (!(x == y)) = decide (x ≠ y) by cases x <;> cases y <;> rfl]
  exact h
def SmallS (a : SyncD) : Prop := a.locks.length < 2 ^ 40 ∧ a.done.length < 2 ^ 40 ∧ a.threads.length < 2 ^ 40 ∧ ∀ l ∈ a.locks, l.readers.length < 2 ^ 40
theorem same_l0 (a b : SyncD) (s3 : a.threads.length < 2 ^ 40) (l3 : a.threads.length = b.threads.length) (hr : a.threads = b.threads → a = b) :
    W.loop (ref08_Same_l0 fun u K => u = AV.bool (decide (a = b)) ∧ K = []) [.pptr [a.enc] 0 0, .pptr [b.enc] 0 0, .int .i64 (0 : Nat)] [] := by
  refine for_by a.threads.length (fun i => ([.pptr [a.enc] 0 0, .pptr [b.enc] 0 0, .int .i64 i], [])) (fun i => a.threads.take i = b.threads.take i) rfl rfl rfl ?_
  intro k hk hG3
  dsimp only
  unfold ref08_Same_l0
  generalize hQ : (fun (u : AV) (K : SH) => u = AV.bool (decide (a = b)) ∧ K = []) = Q
  rcases Nat.lt_or_ge k a.threads.length with g5 | g5
  · have g6 : k < b.threads.length := by omega
    have hx := map_at (f := ThrD.enc) g5
    have hy := map_at (f := ThrD.enc) g6
    have hd := dec_lt g5
    repeat' (first | (refine h_load1 ?_; first | refine b_load_q ?_ | refine b_load_i ?_ | refine b_load_p ?_) | (refine h_faddr ?_; first | refine a_faddr_q ?_ | refine a_faddr_p ?_) | (refine h_bin ?_; first | refine a_eql ?_ | refine a_lss ?_ | refine a_neq ?_ | refine a_geq ?_ | refine a_gtr ?_ | refine a_leq ?_ | refine a_add ?_ | refine a_sub ?_ | refine a_mul ?_ | refine a_eqs ?_ | refine a_nes ?_ | refine b_rem ?_ | refine b_quo ?_) | (refine h_cond ?_; first | refine b_cond_t ?_ | refine b_cond_f ?_ | refine a_cond (fun h => ?_) (fun h => ?_)) | (refine h_idx ?_; first | refine b_idx_n ?_ | refine b_idx_l ?_ | refine b_idx_i ?_ | refine b_idx_sn ?_ | refine b_idx_s ?_) | (refine h_row ?_; first | refine b_row_q ?_ | refine b_row_i ?_ | refine b_row_p ?_) | (refine h_len ?_; first | refine a_len_m ?_ | refine a_len_l ?_ | refine a_len_s ?_ | refine a_len_n ?_ | refine a_len_e ?_) | (refine h_ext ?_; first | refine b_ext ?_) | (refine h_calm ?_; first | refine b_calm ?_) | (refine h_note ?_; first | refine a_note ?_) | (refine h_pick ?_; first | refine b_pick_t ?_ | refine b_pick_f ?_) | (refine h_grd ?_; first | refine b_grd_y ?_ | refine b_grd_n ?_ | refine a_grd_u ?_ | refine a_grd_t (fun h => ?_) (fun h => ?_) | refine a_grd_f (fun h => ?_) (fun h => ?_)) | (refine h_dgrd ?_; first | refine b_dgrd_y ?_ | refine b_dgrd_n ?_ | refine a_dgrd_u ?_ | refine a_dgrd_t (fun h => ?_) (fun h => ?_) | refine a_dgrd_f (fun h => ?_) (fun h => ?_)) | (refine h_nilchk ?_; first | refine a_nil_p ?_ | refine a_nil_q ?_ | refine a_nil_f ?_) | refine a_mark ?_ | refine a_dmark ?_ | refine neq_thr _ _ ?_ | (refine h_un ?_; first | refine a_not ?_ | refine a_neg ?_) | (refine h_box ?_; first | refine b_box (fun nb_ hnb_ => ?_)) | (refine h_frz1 ?_; first | refine b_frz_p ?_ | refine b_frz_s ?_) | (refine h_store ?_; first | refine b_store_box ?_ | refine b_store_one ?_ | refine b_store_row ?_) | (refine h_idxP ?_; first | refine b_idxP_p ?_ | refine b_idxP_q ?_) | (refine h_mslice ?_; first | refine b_mslice (fun nb_ hnb_ => ?_)) | (refine h_bslice ?_; first | refine b_bslice (fun nb_ hnb_ => ?_)) | refine a_conv ?_ | refine a_convS ?_ | refine a_alloc (fun nb_ hnb_ => ?_) | refine b_build ?_ | refine b_fld ?_ | refine a_join ?_ | refine a_lenS ?_ | refine a_tt ?_)
    · subst hQ
      refine ⟨?_, rfl⟩
      have q1 := of_decide_eq_true h
      rw [show decide (a = b) = false from decide_eq_false fun e => q1 (by subst e; rfl)]
    · exact ⟨k + 1, by omega, by omega, take_step g5 g6 hG3 (by simpa using h), fzs_eq (by rw [i64_succ g5 (by omega)]; rfl) rfl⟩
  · have hd := dec_ge g5
    have hth := take_all g5 l3 hG3
    repeat' (first | (refine h_load1 ?_; first | refine b_load_q ?_ | refine b_load_i ?_ | refine b_load_p ?_) | (refine h_faddr ?_; first | refine a_faddr_q ?_ | refine a_faddr_p ?_) | (refine h_bin ?_; first | refine a_eql ?_ | refine a_lss ?_ | refine a_neq ?_ | refine a_geq ?_ | refine a_gtr ?_ | refine a_leq ?_ | refine a_add ?_ | refine a_sub ?_ | refine a_mul ?_ | refine a_eqs ?_ | refine a_nes ?_ | refine b_rem ?_ | refine b_quo ?_) | (refine h_cond ?_; first | refine b_cond_t ?_ | refine b_cond_f ?_ | refine a_cond (fun h => ?_) (fun h => ?_)) | (refine h_idx ?_; first | refine b_idx_n ?_ | refine b_idx_l ?_ | refine b_idx_i ?_ | refine b_idx_sn ?_ | refine b_idx_s ?_) | (refine h_row ?_; first | refine b_row_q ?_ | refine b_row_i ?_ | refine b_row_p ?_) | (refine h_len ?_; first | refine a_len_m ?_ | refine a_len_l ?_ | refine a_len_s ?_ | refine a_len_n ?_ | refine a_len_e ?_) | (refine h_ext ?_; first | refine b_ext ?_) | (refine h_calm ?_; first | refine b_calm ?_) | (refine h_note ?_; first | refine a_note ?_) | (refine h_pick ?_; first | refine b_pick_t ?_ | refine b_pick_f ?_) | (refine h_grd ?_; first | refine b_grd_y ?_ | refine b_grd_n ?_ | refine a_grd_u ?_ | refine a_grd_t (fun h => ?_) (fun h => ?_) | refine a_grd_f (fun h => ?_) (fun h => ?_)) | (refine h_dgrd ?_; first | refine b_dgrd_y ?_ | refine b_dgrd_n ?_ | refine a_dgrd_u ?_ | refine a_dgrd_t (fun h => ?_) (fun h => ?_) | refine a_dgrd_f (fun h => ?_) (fun h => ?_)) | (refine h_nilchk ?_; first | refine a_nil_p ?_ | refine a_nil_q ?_ | refine a_nil_f ?_) | refine a_mark ?_ | refine a_dmark ?_ | (refine h_un ?_; first | refine a_not ?_ | refine a_neg ?_) | (refine h_box ?_; first | refine b_box (fun nb_ hnb_ => ?_)) | (refine h_frz1 ?_; first | refine b_frz_p ?_ | refine b_frz_s ?_) | (refine h_store ?_; first | refine b_store_box ?_ | refine b_store_one ?_ | refine b_store_row ?_) | (refine h_idxP ?_; first | refine b_idxP_p ?_ | refine b_idxP_q ?_) | (refine h_mslice ?_; first | refine b_mslice (fun nb_ hnb_ => ?_)) | (refine h_bslice ?_; first | refine b_bslice (fun nb_ hnb_ => ?_)) | refine a_conv ?_ | refine a_convS ?_ | refine a_alloc (fun nb_ hnb_ => ?_) | refine b_build ?_ | refine b_fld ?_ | refine a_join ?_ | refine a_lenS ?_ | refine a_tt ?_)
    subst hQ
    refine ⟨?_, rfl⟩
    rw [show decide (a = b) = true from decide_eq_true (hr hth)]
theorem same_l1 (a b : SyncD) (s2 : a.done.length < 2 ^ 40) (s3 : a.threads.length < 2 ^ 40) (l2 : a.done.length = b.done.length) (l3 : a.threads.length = b.threads.length) (hr : a.done = b.done → a.threads = b.threads → a = b) :
    W.loop (ref08_Same_l1 fun u K => u = AV.bool (decide (a = b)) ∧ K = []) [.pptr [a.enc] 0 0, .pptr [b.enc] 0 0, .int .i64 (0 : Nat)] [] := by
  refine for_by a.done.length (fun i => ([.pptr [a.enc] 0 0, .pptr [b.enc] 0 0, .int .i64 i], [])) (fun i => a.done.take i = b.done.take i) rfl rfl rfl ?_
  intro k hk hG3
  dsimp only
  unfold ref08_Same_l1
  generalize hQ : (fun (u : AV) (K : SH) => u = AV.bool (decide (a = b)) ∧ K = []) = Q
  rcases Nat.lt_or_ge k a.done.length with g5 | g5
  · have g6 : k < b.done.length := by omega
    have hx := map_at (f := boolE) g5
    have hy := map_at (f := boolE) g6
    have hd := dec_lt g5
    repeat' (first | (refine h_load1 ?_; first | refine b_load_q ?_ | refine b_load_i ?_ | refine b_load_p ?_) | (refine h_faddr ?_; first | refine a_faddr_q ?_ | refine a_faddr_p ?_) | (refine h_bin ?_; first | refine a_eql ?_ | refine a_lss ?_ | refine a_neq ?_ | refine a_geq ?_ | refine a_gtr ?_ | refine a_leq ?_ | refine a_add ?_ | refine a_sub ?_ | refine a_mul ?_ | refine a_eqs ?_ | refine a_nes ?_ | refine b_rem ?_ | refine b_quo ?_) | (refine h_cond ?_; first | refine b_cond_t ?_ | refine b_cond_f ?_ | refine a_cond (fun h => ?_) (fun h => ?_)) | (refine h_idx ?_; first | refine b_idx_n ?_ | refine b_idx_l ?_ | refine b_idx_i ?_ | refine b_idx_sn ?_ | refine b_idx_s ?_) | (refine h_row ?_; first | refine b_row_q ?_ | refine b_row_i ?_ | refine b_row_p ?_) | (refine h_len ?_; first | refine a_len_m ?_ | refine a_len_l ?_ | refine a_len_s ?_ | refine a_len_n ?_ | refine a_len_e ?_) | (refine h_ext ?_; first | refine b_ext ?_) | (refine h_calm ?_; first | refine b_calm ?_) | (refine h_note ?_; first | refine a_note ?_) | (refine h_pick ?_; first | refine b_pick_t ?_ | refine b_pick_f ?_) | (refine h_grd ?_; first | refine b_grd_y ?_ | refine b_grd_n ?_ | refine a_grd_u ?_ | refine a_grd_t (fun h => ?_) (fun h => ?_) | refine a_grd_f (fun h => ?_) (fun h => ?_)) | (refine h_dgrd ?_; first | refine b_dgrd_y ?_ | refine b_dgrd_n ?_ | refine a_dgrd_u ?_ | refine a_dgrd_t (fun h => ?_) (fun h => ?_) | refine a_dgrd_f (fun h => ?_) (fun h => ?_)) | (refine h_nilchk ?_; first | refine a_nil_p ?_ | refine a_nil_q ?_ | refine a_nil_f ?_) | refine a_mark ?_ | refine a_dmark ?_ | refine neq_bool _ _ ?_ | (refine h_un ?_; first | refine a_not ?_ | refine a_neg ?_) | (refine h_box ?_; first | refine b_box (fun nb_ hnb_ => ?_)) | (refine h_frz1 ?_; first | refine b_frz_p ?_ | refine b_frz_s ?_) | (refine h_store ?_; first | refine b_store_box ?_ | refine b_store_one ?_ | refine b_store_row ?_) | (refine h_idxP ?_; first | refine b_idxP_p ?_ | refine b_idxP_q ?_) | (refine h_mslice ?_; first | refine b_mslice (fun nb_ hnb_ => ?_)) | (refine h_bslice ?_; first | refine b_bslice (fun nb_ hnb_ => ?_)) | refine a_conv ?_ | refine a_convS ?_ | refine a_alloc (fun nb_ hnb_ => ?_) | refine b_build ?_ | refine b_fld ?_ | refine a_join ?_ | refine a_lenS ?_ | refine a_tt ?_)
    · subst hQ
      refine ⟨?_, rfl⟩
      have q1 := of_decide_eq_true h
      rw [show decide (a = b) = false from decide_eq_false fun e => q1 (by subst e; rfl)]
    · exact ⟨k + 1, by omega, by omega, take_step g5 g6 hG3 (by simpa using h), fzs_eq (by rw [i64_succ g5 (by omega)]; rfl) rfl⟩
  · have hd := dec_ge g5
    have hth := take_all g5 l2 hG3
    repeat' (first | (refine h_load1 ?_; first | refine b_load_q ?_ | refine b_load_i ?_ | refine b_load_p ?_) | (refine h_faddr ?_; first | refine a_faddr_q ?_ | refine a_faddr_p ?_) | (refine h_bin ?_; first | refine a_eql ?_ | refine a_lss ?_ | refine a_neq ?_ | refine a_geq ?_ | refine a_gtr ?_ | refine a_leq ?_ | refine a_add ?_ | refine a_sub ?_ | refine a_mul ?_ | refine a_eqs ?_ | refine a_nes ?_ | refine b_rem ?_ | refine b_quo ?_) | (refine h_cond ?_; first | refine b_cond_t ?_ | refine b_cond_f ?_ | refine a_cond (fun h => ?_) (fun h => ?_)) | (refine h_idx ?_; first | refine b_idx_n ?_ | refine b_idx_l ?_ | refine b_idx_i ?_ | refine b_idx_sn ?_ | refine b_idx_s ?_) | (refine h_row ?_; first | refine b_row_q ?_ | refine b_row_i ?_ | refine b_row_p ?_) | (refine h_len ?_; first | refine a_len_m ?_ | refine a_len_l ?_ | refine a_len_s ?_ | refine a_len_n ?_ | refine a_len_e ?_) | (refine h_ext ?_; first | refine b_ext ?_) | (refine h_calm ?_; first | refine b_calm ?_) | (refine h_note ?_; first | refine a_note ?_) | (refine h_pick ?_; first | refine b_pick_t ?_ | refine b_pick_f ?_) | (refine h_grd ?_; first | refine b_grd_y ?_ | refine b_grd_n ?_ | refine a_grd_u ?_ | refine a_grd_t (fun h => ?_) (fun h => ?_) | refine a_grd_f (fun h => ?_) (fun h => ?_)) | (refine h_dgrd ?_; first | refine b_dgrd_y ?_ | refine b_dgrd_n ?_ | refine a_dgrd_u ?_ | refine a_dgrd_t (fun h => ?_) (fun h => ?_) | refine a_dgrd_f (fun h => ?_) (fun h => ?_)) | (refine h_nilchk ?_; first | refine a_nil_p ?_ | refine a_nil_q ?_ | refine a_nil_f ?_) | refine a_mark ?_ | refine a_dmark ?_ | (refine h_un ?_; first | refine a_not ?_ | refine a_neg ?_) | (refine h_box ?_; first | refine b_box (fun nb_ hnb_ => ?_)) | (refine h_frz1 ?_; first | refine b_frz_p ?_ | refine b_frz_s ?_) | (refine h_store ?_; first | refine b_store_box ?_ | refine b_store_one ?_ | refine b_store_row ?_) | (refine h_idxP ?_; first | refine b_idxP_p ?_ | refine b_idxP_q ?_) | (refine h_mslice ?_; first | refine b_mslice (fun nb_ hnb_ => ?_)) | (refine h_bslice ?_; first | refine b_bslice (fun nb_ hnb_ => ?_)) | refine a_conv ?_ | refine a_convS ?_ | refine a_alloc (fun nb_ hnb_ => ?_) | refine b_build ?_ | refine b_fld ?_ | refine a_join ?_ | refine a_lenS ?_ | refine a_tt ?_)
    subst hQ
    exact same_l0 a b s3 l3 (hr hth)
theorem same_l2 (a b : SyncD) (ha : SmallS a) (l1 : a.locks.length = b.locks.length) (l2 : a.done.length = b.done.length) (l3 : a.threads.length = b.threads.length) (l4 : a.tx = b.tx) :
    W.loop (ref08_Same_l2 fun u K => u = AV.bool (decide (a = b)) ∧ K = []) [.pptr [a.enc] 0 0, .pptr [b.enc] 0 0, .int .i64 (0 : Nat)] [] := by
  obtain ⟨s1, s2, s3, s4⟩ := ha
  refine for_by a.locks.length (fun i => ([.pptr [a.enc] 0 0, .pptr [b.enc] 0 0, .int .i64 i], [])) (fun i => a.locks.take i = b.locks.take i) rfl rfl rfl ?_
  intro i hi hG
  dsimp only
  unfold ref08_Same_l2
  generalize hQ : (fun (u : AV) (K : SH) => u = AV.bool (decide (a = b)) ∧ K = []) = Q
  rcases Nat.lt_or_ge i a.locks.length with g1 | g1
  · have g2 : i < b.locks.length := by omega
    have hx := map_at (f := LockD.enc) g1
    have hy := map_at (f := LockD.enc) g2
    have hd := dec_lt g1
    have hrd : (a.locks[i]).readers.length < 2 ^ 62 := by have := s4 _ (List.getElem_mem g1); omega
    repeat' (first | (refine h_load1 ?_; first | refine b_load_q ?_ | refine b_load_i ?_ | refine b_load_p ?_) | (refine h_faddr ?_; first | refine a_faddr_q ?_ | refine a_faddr_p ?_) | (refine h_bin ?_; first | refine a_eql ?_ | refine a_lss ?_ | refine a_neq ?_ | refine a_geq ?_ | refine a_gtr ?_ | refine a_leq ?_ | refine a_add ?_ | refine a_sub ?_ | refine a_mul ?_ | refine a_eqs ?_ | refine a_nes ?_ | refine b_rem ?_ | refine b_quo ?_) | (refine h_cond ?_; first | refine b_cond_t ?_ | refine b_cond_f ?_ | refine a_cond (fun h => ?_) (fun h => ?_)) | (refine h_idx ?_; first | refine b_idx_n ?_ | refine b_idx_l ?_ | refine b_idx_i ?_ | refine b_idx_sn ?_ | refine b_idx_s ?_) | (refine h_row ?_; first | refine b_row_q ?_ | refine b_row_i ?_ | refine b_row_p ?_) | (refine h_len ?_; first | refine a_len_m ?_ | refine a_len_l ?_ | refine a_len_s ?_ | refine a_len_n ?_ | refine a_len_e ?_) | (refine h_ext ?_; first | refine b_ext ?_) | (refine h_calm ?_; first | refine b_calm ?_) | (refine h_note ?_; first | refine a_note ?_) | (refine h_pick ?_; first | refine b_pick_t ?_ | refine b_pick_f ?_) | (refine h_grd ?_; first | refine b_grd_y ?_ | refine b_grd_n ?_ | refine a_grd_u ?_ | refine a_grd_t (fun h => ?_) (fun h => ?_) | refine a_grd_f (fun h => ?_) (fun h => ?_)) | (refine h_dgrd ?_; first | refine b_dgrd_y ?_ | refine b_dgrd_n ?_ | refine a_dgrd_u ?_ | refine a_dgrd_t (fun h => ?_) (fun h => ?_) | refine a_dgrd_f (fun h => ?_) (fun h => ?_)) | (refine h_nilchk ?_; first | refine a_nil_p ?_ | refine a_nil_q ?_ | refine a_nil_f ?_) | refine a_mark ?_ | refine a_dmark ?_ | ((with_reducible refine h_fn 34 ?_); refine m_call (sameInts_ok _ _ hrd) ?_) | ((with_reducible refine h_dfn 34 ?_); refine b_dcall (sameInts_ok _ _ hrd) ?_) | (refine h_un ?_; first | refine a_not ?_ | refine a_neg ?_) | (refine h_box ?_; first | refine b_box (fun nb_ hnb_ => ?_)) | (refine h_frz1 ?_; first | refine b_frz_p ?_ | refine b_frz_s ?_) | (refine h_store ?_; first | refine b_store_box ?_ | refine b_store_one ?_ | refine b_store_row ?_) | (refine h_idxP ?_; first | refine b_idxP_p ?_ | refine b_idxP_q ?_) | (refine h_mslice ?_; first | refine b_mslice (fun nb_ hnb_ => ?_)) | (refine h_bslice ?_; first | refine b_bslice (fun nb_ hnb_ => ?_)) | refine a_conv ?_ | refine a_convS ?_ | refine a_alloc (fun nb_ hnb_ => ?_) | refine b_build ?_ | refine b_fld ?_ | refine a_join ?_ | refine a_lenS ?_ | refine a_tt ?_)
    · subst hQ
      refine ⟨?_, rfl⟩
      rw [show decide (a = b) = false from decide_eq_false fun e => by subst e; simp at h]
    · refine ⟨i + 1, by omega, by omega, take_step g1 g2 hG ?_, fzs_eq (by rw [i64_succ g1 (by omega)]; rfl) rfl⟩
      rename_i hr
      have q1 := of_decide_eq_false hr
      have q2 : a.locks[i].readers = b.locks[i].readers := by simpa using h
      have q3 : a.locks[i].owner = b.locks[i].owner := by omega
      rw [show a.locks[i] = ⟨a.locks[i].owner, a.locks[i].readers⟩ from rfl, q2, q3]
    · subst hQ
      refine ⟨?_, rfl⟩
      have q1 := of_decide_eq_true h
      rw [show decide (a = b) = false from decide_eq_false fun e => q1 (by subst e; rfl)]
  · have hd := dec_ge g1
    have hlk := take_all g1 l1 hG
    repeat' (first | (refine h_load1 ?_; first | refine b_load_q ?_ | refine b_load_i ?_ | refine b_load_p ?_) | (refine h_faddr ?_; first | refine a_faddr_q ?_ | refine a_faddr_p ?_) | (refine h_bin ?_; first | refine a_eql ?_ | refine a_lss ?_ | refine a_neq ?_ | refine a_geq ?_ | refine a_gtr ?_ | refine a_leq ?_ | refine a_add ?_ | refine a_sub ?_ | refine a_mul ?_ | refine a_eqs ?_ | refine a_nes ?_ | refine b_rem ?_ | refine b_quo ?_) | (refine h_cond ?_; first | refine b_cond_t ?_ | refine b_cond_f ?_ | refine a_cond (fun h => ?_) (fun h => ?_)) | (refine h_idx ?_; first | refine b_idx_n ?_ | refine b_idx_l ?_ | refine b_idx_i ?_ | refine b_idx_sn ?_ | refine b_idx_s ?_) | (refine h_row ?_; first | refine b_row_q ?_ | refine b_row_i ?_ | refine b_row_p ?_) | (refine h_len ?_; first | refine a_len_m ?_ | refine a_len_l ?_ | refine a_len_s ?_ | refine a_len_n ?_ | refine a_len_e ?_) | (refine h_ext ?_; first | refine b_ext ?_) | (refine h_calm ?_; first | refine b_calm ?_) | (refine h_note ?_; first | refine a_note ?_) | (refine h_pick ?_; first | refine b_pick_t ?_ | refine b_pick_f ?_) | (refine h_grd ?_; first | refine b_grd_y ?_ | refine b_grd_n ?_ | refine a_grd_u ?_ | refine a_grd_t (fun h => ?_) (fun h => ?_) | refine a_grd_f (fun h => ?_) (fun h => ?_)) | (refine h_dgrd ?_; first | refine b_dgrd_y ?_ | refine b_dgrd_n ?_ | refine a_dgrd_u ?_ | refine a_dgrd_t (fun h => ?_) (fun h => ?_) | refine a_dgrd_f (fun h => ?_) (fun h => ?_)) | (refine h_nilchk ?_; first | refine a_nil_p ?_ | refine a_nil_q ?_ | refine a_nil_f ?_) | refine a_mark ?_ | refine a_dmark ?_ | (refine h_un ?_; first | refine a_not ?_ | refine a_neg ?_) | (refine h_box ?_; first | refine b_box (fun nb_ hnb_ => ?_)) | (refine h_frz1 ?_; first | refine b_frz_p ?_ | refine b_frz_s ?_) | (refine h_store ?_; first | refine b_store_box ?_ | refine b_store_one ?_ | refine b_store_row ?_) | (refine h_idxP ?_; first | refine b_idxP_p ?_ | refine b_idxP_q ?_) | (refine h_mslice ?_; first | refine b_mslice (fun nb_ hnb_ => ?_)) | (refine h_bslice ?_; first | refine b_bslice (fun nb_ hnb_ => ?_)) | refine a_conv ?_ | refine a_convS ?_ | refine a_alloc (fun nb_ hnb_ => ?_) | refine b_build ?_ | refine b_fld ?_ | refine a_join ?_ | refine a_lenS ?_ | refine a_tt ?_)
    subst hQ
    exact same_l1 a b s2 s3 l2 l3 (fun h1 h2 => by cases a; cases b; simp_all)
theorem same_ok (a b : SyncD) (ha : SmallS a) : PureA Try.prog 20 [.agg a.enc, .agg b.enc] (.bool (decide (a = b))) := by
  refine ref08_Same_ok _ _ _ _ ?_
  unfold ref08_Same_w
  generalize hQ : (fun (u : AV) (K : SH) => u = AV.bool (decide (a = b)) ∧ K = []) = Q
  repeat' (first | (refine h_load1 ?_; first | refine b_load_q ?_ | refine b_load_i ?_ | refine b_load_p ?_) | (refine h_faddr ?_; first | refine a_faddr_q ?_ | refine a_faddr_p ?_) | (refine h_bin ?_; first | refine a_eql ?_ | refine a_lss ?_ | refine a_neq ?_ | refine a_geq ?_ | refine a_gtr ?_ | refine a_leq ?_ | refine a_add ?_ | refine a_sub ?_ | refine a_mul ?_ | refine a_eqs ?_ | refine a_nes ?_ | refine b_rem ?_ | refine b_quo ?_) | (refine h_cond ?_; first | refine b_cond_t ?_ | refine b_cond_f ?_ | refine a_cond (fun h => ?_) (fun h => ?_)) | (refine h_idx ?_; first | refine b_idx_n ?_ | refine b_idx_l ?_ | refine b_idx_i ?_ | refine b_idx_sn ?_ | refine b_idx_s ?_) | (refine h_row ?_; first | refine b_row_q ?_ | refine b_row_i ?_ | refine b_row_p ?_) | (refine h_len ?_; first | refine a_len_m ?_ | refine a_len_l ?_ | refine a_len_s ?_ | refine a_len_n ?_ | refine a_len_e ?_) | (refine h_ext ?_; first | refine b_ext ?_) | (refine h_calm ?_; first | refine b_calm ?_) | (refine h_note ?_; first | refine a_note ?_) | (refine h_pick ?_; first | refine b_pick_t ?_ | refine b_pick_f ?_) | (refine h_grd ?_; first | refine b_grd_y ?_ | refine b_grd_n ?_ | refine a_grd_u ?_ | refine a_grd_t (fun h => ?_) (fun h => ?_) | refine a_grd_f (fun h => ?_) (fun h => ?_)) | (refine h_dgrd ?_; first | refine b_dgrd_y ?_ | refine b_dgrd_n ?_ | refine a_dgrd_u ?_ | refine a_dgrd_t (fun h => ?_) (fun h => ?_) | refine a_dgrd_f (fun h => ?_) (fun h => ?_)) | (refine h_nilchk ?_; first | refine a_nil_p ?_ | refine a_nil_q ?_ | refine a_nil_f ?_) | refine a_mark ?_ | refine a_dmark ?_ | (refine h_un ?_; first | refine a_not ?_ | refine a_neg ?_) | (refine h_box ?_; first | refine b_box (fun nb_ hnb_ => ?_)) | (refine h_frz1 ?_; first | refine b_frz_p ?_ | refine b_frz_s ?_) | (refine h_store ?_; first | refine b_store_box ?_ | refine b_store_one ?_ | refine b_store_row ?_) | (refine h_idxP ?_; first | refine b_idxP_p ?_ | refine b_idxP_q ?_) | (refine h_mslice ?_; first | refine b_mslice (fun nb_ hnb_ => ?_)) | (refine h_bslice ?_; first | refine b_bslice (fun nb_ hnb_ => ?_)) | refine a_conv ?_ | refine a_convS ?_ | refine a_alloc (fun nb_ hnb_ => ?_) | refine b_build ?_ | refine b_fld ?_ | refine a_join ?_ | refine a_lenS ?_ | refine a_tt ?_)
  · subst hQ
    refine ⟨?_, rfl⟩
    have := of_decide_eq_true h
    rw [show decide (a = b) = false from decide_eq_false fun e => this (by rw [e])]
  · rename_i h1 h2 h3
    have e1 := of_decide_eq_false h
    have e2 := of_decide_eq_false h1
    have e3 := of_decide_eq_false h2
    have e4 := of_decide_eq_false h3
    subst hQ
    exact same_l2 a b ha (by omega) (by omega) (by omega) (by omega)
  all_goals
    subst hQ
    refine ⟨?_, rfl⟩
    have := of_decide_eq_true h
    rw [show decide (a = b) = false from decide_eq_false fun e => this (by rw [e])]
end Go.Proofs.Ytadjimfkfmojkaa.Am

end
section
namespace Go.Proofs.Ytadjimfkfmojkaa.Am
set_option maxRecDepth 100000
set_option linter.unusedSimpArgs false
set_option linter.unusedVariables false
def startS (w : WorldD) : SyncD := ⟨List.replicate w.locks.length ⟨-1, []⟩, -1, List.replicate w.futures.length false, (List.replicate w.threads.length (⟨0, 0, false⟩ : ThrD)).set 0 ⟨1, 0, false⟩⟩
theorem start_ok (w : WorldD) (h1 : w.locks.length ≤ 100) (h2 : w.futures.length ≤ 100) (h3 : w.threads.length ≤ 100) : PureA Try.prog 21 [.agg w.enc] (.agg (startS w).enc) := by
  refine CallA.fz (object_Start_ok _ _ _ ?_)
  unfold object_Start_w
  generalize hQ : (fun (v : AV) (L : SH) => ∃ v2 L2, FzS [v] L [v2] L2 ∧ v2 = AV.agg (startS w).enc ∧ L2 = []) = Q
  repeat' (first | (refine h_load1 ?_; first | refine b_load_q ?_ | refine b_load_i ?_ | refine b_load_p ?_) | (refine h_faddr ?_; first | refine a_faddr_q ?_ | refine a_faddr_p ?_) | (refine h_bin ?_; first | refine a_eql ?_ | refine a_lss ?_ | refine a_neq ?_ | refine a_geq ?_ | refine a_gtr ?_ | refine a_leq ?_ | refine a_add ?_ | refine a_sub ?_ | refine a_mul ?_ | refine a_eqs ?_ | refine a_nes ?_ | refine b_rem ?_ | refine b_quo ?_) | (refine h_cond ?_; first | refine b_cond_t ?_ | refine b_cond_f ?_ | refine a_cond (fun h => ?_) (fun h => ?_)) | (refine h_idx ?_; first | refine b_idx_n ?_ | refine b_idx_l ?_ | refine b_idx_i ?_ | refine b_idx_sn ?_ | refine b_idx_s ?_) | (refine h_row ?_; first | refine b_row_q ?_ | refine b_row_i ?_ | refine b_row_p ?_) | (refine h_len ?_; first | refine a_len_m ?_ | refine a_len_l ?_ | refine a_len_s ?_ | refine a_len_n ?_ | refine a_len_e ?_) | (refine h_ext ?_; first | refine b_ext ?_) | (refine h_calm ?_; first | refine b_calm ?_) | (refine h_note ?_; first | refine a_note ?_) | (refine h_pick ?_; first | refine b_pick_t ?_ | refine b_pick_f ?_) | (refine h_grd ?_; first | refine b_grd_y ?_ | refine b_grd_n ?_ | refine a_grd_u ?_ | refine a_grd_t (fun h => ?_) (fun h => ?_) | refine a_grd_f (fun h => ?_) (fun h => ?_)) | (refine h_dgrd ?_; first | refine b_dgrd_y ?_ | refine b_dgrd_n ?_ | refine a_dgrd_u ?_ | refine a_dgrd_t (fun h => ?_) (fun h => ?_) | refine a_dgrd_f (fun h => ?_) (fun h => ?_)) | (refine h_nilchk ?_; first | refine a_nil_p ?_ | refine a_nil_q ?_ | refine a_nil_f ?_) | refine a_mark ?_ | refine a_dmark ?_ | (refine h_un ?_; first | refine a_not ?_ | refine a_neg ?_) | (refine h_box ?_; first | refine b_box (fun nb_ hnb_ => ?_)) | (refine h_frz1 ?_; first | refine b_frz_p ?_ | refine b_frz_s ?_) | (refine h_store ?_; first | refine b_store_box ?_ | refine b_store_one ?_ | refine b_store_row ?_) | (refine h_idxP ?_; first | refine b_idxP_p ?_ | refine b_idxP_q ?_) | (refine h_mslice ?_; first | refine b_mslice (fun nb_ hnb_ => ?_)) | (refine h_bslice ?_; first | refine b_bslice (fun nb_ hnb_ => ?_)) | refine a_conv ?_ | refine a_convS ?_ | refine a_alloc (fun nb_ hnb_ => ?_) | refine b_build ?_ | refine b_fld ?_ | refine a_join ?_ | refine a_lenS ?_ | refine a_tt ?_)
  rename_i b2 _ b3 _ b4 _ b5 _ b6 _
  refine for_by w.locks.length (fun i => ([.ptr b3 0 0, .pptr [[.sl b4 0 w.locks.length, .int .i64 (-1), .sl b5 0 w.futures.length, .sl b6 0 w.threads.length]] 0 0, .int .i64 w.locks.length, .int .i64 i],
    [(b6, ⟨3, List.replicate w.threads.length [.int .i64 0, .int .i64 0, .bool false]⟩), (b5, ⟨1, List.replicate w.futures.length [.bool false]⟩), (b4, ⟨2, List.replicate i [.int .i64 (-1), .nils] ++ List.replicate (w.locks.length - i) [.int .i64 0, .nils]⟩), (b3, ⟨4, [[.nils, .int .i64 0, .nils, .nils]]⟩)])) (fun _ => True) trivial rfl (by simp) ?_
  intro i hi _
  dsimp only
  unfold object_Start_l0
  rcases Nat.lt_or_ge i w.locks.length with g1 | g1
  · have hd := dec_lt g1
    have hx := rep_get i w.locks.length (α := List AV) [.int .i64 (-1), .nils] [.int .i64 0, .nils] g1
    repeat' (first | (refine h_load1 ?_; first | refine b_load_q ?_ | refine b_load_i ?_ | refine b_load_p ?_) | (refine h_faddr ?_; first | refine a_faddr_q ?_ | refine a_faddr_p ?_) | (refine h_bin ?_; first | refine a_eql ?_ | refine a_lss ?_ | refine a_neq ?_ | refine a_geq ?_ | refine a_gtr ?_ | refine a_leq ?_ | refine a_add ?_ | refine a_sub ?_ | refine a_mul ?_ | refine a_eqs ?_ | refine a_nes ?_ | refine b_rem ?_ | refine b_quo ?_) | (refine h_cond ?_; first | refine b_cond_t ?_ | refine b_cond_f ?_ | refine a_cond (fun h => ?_) (fun h => ?_)) | (refine h_idx ?_; first | refine b_idx_n ?_ | refine b_idx_l ?_ | refine b_idx_i ?_ | refine b_idx_sn ?_ | refine b_idx_s ?_) | (refine h_row ?_; first | refine b_row_q ?_ | refine b_row_i ?_ | refine b_row_p ?_) | (refine h_len ?_; first | refine a_len_m ?_ | refine a_len_l ?_ | refine a_len_s ?_ | refine a_len_n ?_ | refine a_len_e ?_) | (refine h_ext ?_; first | refine b_ext ?_) | (refine h_calm ?_; first | refine b_calm ?_) | (refine h_note ?_; first | refine a_note ?_) | (refine h_pick ?_; first | refine b_pick_t ?_ | refine b_pick_f ?_) | (refine h_grd ?_; first | refine b_grd_y ?_ | refine b_grd_n ?_ | refine a_grd_u ?_ | refine a_grd_t (fun h => ?_) (fun h => ?_) | refine a_grd_f (fun h => ?_) (fun h => ?_)) | (refine h_dgrd ?_; first | refine b_dgrd_y ?_ | refine b_dgrd_n ?_ | refine a_dgrd_u ?_ | refine a_dgrd_t (fun h => ?_) (fun h => ?_) | refine a_dgrd_f (fun h => ?_) (fun h => ?_)) | (refine h_nilchk ?_; first | refine a_nil_p ?_ | refine a_nil_q ?_ | refine a_nil_f ?_) | refine a_mark ?_ | refine a_dmark ?_ | (refine h_un ?_; first | refine a_not ?_ | refine a_neg ?_) | (refine h_box ?_; first | refine b_box (fun nb_ hnb_ => ?_)) | (refine h_frz1 ?_; first | refine b_frz_p ?_ | refine b_frz_s ?_) | (refine h_store ?_; first | refine b_store_box ?_ | refine b_store_one ?_ | refine b_store_row ?_) | (refine h_idxP ?_; first | refine b_idxP_p ?_ | refine b_idxP_q ?_) | (refine h_mslice ?_; first | refine b_mslice (fun nb_ hnb_ => ?_)) | (refine h_bslice ?_; first | refine b_bslice (fun nb_ hnb_ => ?_)) | refine a_conv ?_ | refine a_convS ?_ | refine a_alloc (fun nb_ hnb_ => ?_) | refine b_build ?_ | refine b_fld ?_ | refine a_join ?_ | refine a_lenS ?_ | refine a_tt ?_)
    refine ⟨i + 1, by omega, by omega, trivial, fzs_eq (by rw [i64_succ g1 (by omega)]; rfl) ?_⟩
    rw [← rep_set i w.locks.length _ _ g1]
    rfl
  · have hd := dec_ge g1
    have fin : ∀ (T : List ThrD) (L : SH), T = (startS w).threads → L = [(b6, ⟨3, T.map ThrD.enc⟩), (b5, ⟨1, List.replicate w.futures.length [.bool false]⟩), (b4, ⟨2, List.replicate i [.int .i64 (-1), .nils] ++ List.replicate (w.locks.length - i) [.int .i64 0, .nils]⟩), (b3, ⟨4, [[.sl b4 0 w.locks.length, .int .i64 (-1), .sl b5 0 w.futures.length, .sl b6 0 w.threads.length]]⟩)] →
        Q (.agg [.sl b4 0 w.locks.length, .int .i64 (-1), .sl b5 0 w.futures.length, .sl b6 0 w.threads.length]) L := by
      intro T L hT hL
      subst hL
      subst hQ
      have hi0 : i = w.locks.length := by omega
      subst hi0
      refine ⟨_, [], FzS.all (Fz.aggs (.cons ?_ (.cons (.refl _) (.cons ?_ (.cons ?_ .nil))))), rfl, rfl⟩
      · refine Fz.slm (f := fun _ => [.int .i64 (-1), .nils]) (.tail _ (.tail _ (.head _))) (by simp [startS]) (by decide) (by simp [startS]) (fun y hy => rfl) (fun y hy q a a2 q1 q2 => ?_)
        have : y = ⟨-1, []⟩ := by simp [startS] at hy; exact hy.2
        subst this
        match q with
        | 0 => cases q1; cases q2; exact .refl _
        | 1 => cases q1; cases q2; exact .nils
        | q + 2 => simp at q1
      · exact Fz.sls (.tail _ (.head _)) (by simp [startS, boolE]) (by decide) (by simp [startS])
      · exact Fz.sls (.head _) (by rw [hT]) (by decide) (by simp [startS])
    rcases Nat.eq_zero_or_pos w.threads.length with g2 | g2
    · have hd2 : decide ((0 : Int) < (w.threads.length : Int)) = false := by simp [g2]
      repeat' (first | (refine h_load1 ?_; first | refine b_load_q ?_ | refine b_load_i ?_ | refine b_load_p ?_) | (refine h_faddr ?_; first | refine a_faddr_q ?_ | refine a_faddr_p ?_) | (refine h_bin ?_; first | refine a_eql ?_ | refine a_lss ?_ | refine a_neq ?_ | refine a_geq ?_ | refine a_gtr ?_ | refine a_leq ?_ | refine a_add ?_ | refine a_sub ?_ | refine a_mul ?_ | refine a_eqs ?_ | refine a_nes ?_ | refine b_rem ?_ | refine b_quo ?_) | (refine h_cond ?_; first | refine b_cond_t ?_ | refine b_cond_f ?_ | refine a_cond (fun h => ?_) (fun h => ?_)) | (refine h_idx ?_; first | refine b_idx_n ?_ | refine b_idx_l ?_ | refine b_idx_i ?_ | refine b_idx_sn ?_ | refine b_idx_s ?_) | (refine h_row ?_; first | refine b_row_q ?_ | refine b_row_i ?_ | refine b_row_p ?_) | (refine h_len ?_; first | refine a_len_m ?_ | refine a_len_l ?_ | refine a_len_s ?_ | refine a_len_n ?_ | refine a_len_e ?_) | (refine h_ext ?_; first | refine b_ext ?_) | (refine h_calm ?_; first | refine b_calm ?_) | (refine h_note ?_; first | refine a_note ?_) | (refine h_pick ?_; first | refine b_pick_t ?_ | refine b_pick_f ?_) | (refine h_grd ?_; first | refine b_grd_y ?_ | refine b_grd_n ?_ | refine a_grd_u ?_ | refine a_grd_t (fun h => ?_) (fun h => ?_) | refine a_grd_f (fun h => ?_) (fun h => ?_)) | (refine h_dgrd ?_; first | refine b_dgrd_y ?_ | refine b_dgrd_n ?_ | refine a_dgrd_u ?_ | refine a_dgrd_t (fun h => ?_) (fun h => ?_) | refine a_dgrd_f (fun h => ?_) (fun h => ?_)) | (refine h_nilchk ?_; first | refine a_nil_p ?_ | refine a_nil_q ?_ | refine a_nil_f ?_) | refine a_mark ?_ | refine a_dmark ?_ | (refine h_un ?_; first | refine a_not ?_ | refine a_neg ?_) | (refine h_box ?_; first | refine b_box (fun nb_ hnb_ => ?_)) | (refine h_frz1 ?_; first | refine b_frz_p ?_ | refine b_frz_s ?_) | (refine h_store ?_; first | refine b_store_box ?_ | refine b_store_one ?_ | refine b_store_row ?_) | (refine h_idxP ?_; first | refine b_idxP_p ?_ | refine b_idxP_q ?_) | (refine h_mslice ?_; first | refine b_mslice (fun nb_ hnb_ => ?_)) | (refine h_bslice ?_; first | refine b_bslice (fun nb_ hnb_ => ?_)) | refine a_conv ?_ | refine a_convS ?_ | refine a_alloc (fun nb_ hnb_ => ?_) | refine b_build ?_ | refine b_fld ?_ | refine a_join ?_ | refine a_lenS ?_ | refine a_tt ?_)
      exact fin [] _ (by simp [startS, g2]) (by simp [g2])
    · have hd2 : decide ((0 : Int) < (w.threads.length : Int)) = true := by simpa using g2
      have hx0 : (List.replicate w.threads.length ([.int .i64 0, .int .i64 0, .bool false] : List AV))[0]? = some [.int .i64 0, .int .i64 0, .bool false] := by simp [g2]
      repeat' (first | (refine h_load1 ?_; first | refine b_load_q ?_ | refine b_load_i ?_ | refine b_load_p ?_) | (refine h_faddr ?_; first | refine a_faddr_q ?_ | refine a_faddr_p ?_) | (refine h_bin ?_; first | refine a_eql ?_ | refine a_lss ?_ | refine a_neq ?_ | refine a_geq ?_ | refine a_gtr ?_ | refine a_leq ?_ | refine a_add ?_ | refine a_sub ?_ | refine a_mul ?_ | refine a_eqs ?_ | refine a_nes ?_ | refine b_rem ?_ | refine b_quo ?_) | (refine h_cond ?_; first | refine b_cond_t ?_ | refine b_cond_f ?_ | refine a_cond (fun h => ?_) (fun h => ?_)) | (refine h_idx ?_; first | refine b_idx_n ?_ | refine b_idx_l ?_ | refine b_idx_i ?_ | refine b_idx_sn ?_ | refine b_idx_s ?_) | (refine h_row ?_; first | refine b_row_q ?_ | refine b_row_i ?_ | refine b_row_p ?_) | (refine h_len ?_; first | refine a_len_m ?_ | refine a_len_l ?_ | refine a_len_s ?_ | refine a_len_n ?_ | refine a_len_e ?_) | (refine h_ext ?_; first | refine b_ext ?_) | (refine h_calm ?_; first | refine b_calm ?_) | (refine h_note ?_; first | refine a_note ?_) | (refine h_pick ?_; first | refine b_pick_t ?_ | refine b_pick_f ?_) | (refine h_grd ?_; first | refine b_grd_y ?_ | refine b_grd_n ?_ | refine a_grd_u ?_ | refine a_grd_t (fun h => ?_) (fun h => ?_) | refine a_grd_f (fun h => ?_) (fun h => ?_)) | (refine h_dgrd ?_; first | refine b_dgrd_y ?_ | refine b_dgrd_n ?_ | refine a_dgrd_u ?_ | refine a_dgrd_t (fun h => ?_) (fun h => ?_) | refine a_dgrd_f (fun h => ?_) (fun h => ?_)) | (refine h_nilchk ?_; first | refine a_nil_p ?_ | refine a_nil_q ?_ | refine a_nil_f ?_) | refine a_mark ?_ | refine a_dmark ?_ | (refine h_un ?_; first | refine a_not ?_ | refine a_neg ?_) | (refine h_box ?_; first | refine b_box (fun nb_ hnb_ => ?_)) | (refine h_frz1 ?_; first | refine b_frz_p ?_ | refine b_frz_s ?_) | (refine h_store ?_; first | refine b_store_box ?_ | refine b_store_one ?_ | refine b_store_row ?_) | (refine h_idxP ?_; first | refine b_idxP_p ?_ | refine b_idxP_q ?_) | (refine h_mslice ?_; first | refine b_mslice (fun nb_ hnb_ => ?_)) | (refine h_bslice ?_; first | refine b_bslice (fun nb_ hnb_ => ?_)) | refine a_conv ?_ | refine a_convS ?_ | refine a_alloc (fun nb_ hnb_ => ?_) | refine b_build ?_ | refine b_fld ?_ | refine a_join ?_ | refine a_lenS ?_ | refine a_tt ?_)
      refine fin _ _ rfl ?_
      simp [startS, ThrD.enc, List.map_set]
end Go.Proofs.Ytadjimfkfmojkaa.Am

end
section
namespace Go.Proofs.Ytadjimfkfmojkaa.Am
set_option linter.unusedVariables false
theorem compactUpTo_asc (d : Array Int) (hs : ∀ i j, i < j → j < d.size → d[i]! ≤ d[j]!) : ∀ m, m ≤ d.size →
    (Lib.compactUpTo d m).Pairwise (· < ·) ∧ (∀ x ∈ Lib.compactUpTo d m, ∃ j, j < m ∧ x = d[j]!) ∧ (∀ j, j < m → d[j]! ∈ Lib.compactUpTo d m)
  | 0, _ => ⟨by simp [Lib.compactUpTo], by simp [Lib.compactUpTo], by intro j hj; omega⟩
  | m + 1, hm => by
    obtain ⟨h1, h2, h3⟩ := compactUpTo_asc d hs m (by omega)
    rw [Lib.compactUpTo_succ]
    by_cases hk : Lib.keeps d m = true
    · rw [if_pos hk]
      refine ⟨?_, ?_, ?_⟩
      · rw [List.pairwise_append]
        refine ⟨h1, by simp, ?_⟩
        intro x hx y hy
        obtain ⟨j, hj, rfl⟩ := h2 x hx
        simp at hy
        subst hy
        have hle := hs j m hj (by omega)
        have hne : d[j]! ≠ d[m]! := by
          intro he
          have hm0 : 0 < m := by omega
          have h4 : d[m]! ≠ d[m - 1]! := by
            intro h5
            rw [Lib.keeps_neg hm0 h5] at hk
            cases hk
          have h5 : d[j]! ≤ d[m - 1]! := by
            rcases Nat.lt_or_ge j (m - 1) with h | h
            · exact hs j (m - 1) h (by omega)
            · rw [show j = m - 1 from by omega]
              exact Int.le_refl _
          have h6 : d[m - 1]! ≤ d[m]! := hs (m - 1) m (by omega) (by omega)
          exact h4 (by omega)
        omega
      · intro x hx
        rw [List.mem_append] at hx
        rcases hx with hx | hx
        · obtain ⟨j, hj, e⟩ := h2 x hx
          exact ⟨j, by omega, e⟩
        · simp at hx
          exact ⟨m, by omega, hx⟩
      · intro j hj
        rw [List.mem_append]
        rcases Nat.lt_or_ge j m with h | h
        · exact .inl (h3 j h)
        · rw [show j = m from by omega]
          exact .inr (by simp)
    · rw [if_neg hk, List.append_nil]
      have hm0 : 0 < m := by
        rcases Nat.eq_zero_or_pos m with h | h
        · subst h
          exact absurd (Lib.keeps_lt_one d 0 (by omega)) hk
        · exact h
      have he : d[m]! = d[m - 1]! := by
        apply Classical.byContradiction
        intro h
        exact hk (Lib.keeps_pos h)
      refine ⟨h1, fun x hx => ?_, fun j hj => ?_⟩
      · obtain ⟨j, hj, e⟩ := h2 x hx
        exact ⟨j, by omega, e⟩
      · rcases Nat.lt_or_ge j m with h | h
        · exact h3 j h
        · rw [show j = m from by omega, he]
          exact h3 (m - 1) (by omega)
theorem getI (l : List Int) (j : Nat) (hj : j < l.length) : l.toArray[j]! = l[j] := by
  rw [getElem!_pos _ _ (by simpa using hj)]
  simp
theorem srt_sorted (l : List Int) : ∀ i j, i < j → j < (srt l).toArray.size → (srt l).toArray[i]! ≤ (srt l).toArray[j]! := by
  intro i j hij hj
  have hj' : j < (srt l).length := by simpa using hj
  rw [getI _ i (by omega), getI _ j hj']
  have hp : (srt l).Pairwise (fun x y => (decide (x ≤ y)) = true) := List.pairwise_mergeSort (fun a b c => by simp; omega) (fun a b => by simp; omega) l
  have := (List.pairwise_iff_getElem.1 hp) i j (by omega) hj' hij
  simpa using this
def asc (l : List Int) : List Int := Lib.compact (srt l)
theorem asc_mem (l : List Int) (x : Int) : x ∈ asc l ↔ x ∈ l := by
  obtain ⟨h1, h2, h3⟩ := compactUpTo_asc (srt l).toArray (srt_sorted _) (srt l).length (by simp)
  have hm : ∀ y, y ∈ srt l ↔ y ∈ l := fun y => by simp [srt, List.mem_mergeSort]
  unfold asc Lib.compact
  constructor
  · intro hx
    obtain ⟨j, hj, rfl⟩ := h2 x hx
    rw [getI _ j hj]
    exact (hm _).1 (List.getElem_mem _)
  · intro hx
    obtain ⟨j, hj, rfl⟩ := List.getElem_of_mem ((hm x).2 hx)
    rw [← getI _ j hj]
    exact h3 j hj
theorem asc_asc (l : List Int) : (asc l).Pairwise (· < ·) :=
  (compactUpTo_asc (srt l).toArray (srt_sorted _) (srt l).length (by simp)).1
theorem asc_ext {a b : List Int} (ha : a.Pairwise (· < ·)) (hb : b.Pairwise (· < ·)) (h : ∀ x, x ∈ a ↔ x ∈ b) : a = b := by
  have na : a.Nodup := ha.imp fun hlt => by omega
  have nb : b.Nodup := hb.imp fun hlt => by omega
  exact List.Perm.eq_of_pairwise (le := fun x y : Int => x < y) (fun x y _ _ h1 h2 => by omega) ha hb ((List.perm_ext_iff_of_nodup na nb).2 h)
theorem asc_len3 {l : List Int} (h : l.Pairwise (· < ·)) (hr : ∀ y ∈ l, 0 ≤ y ∧ y < 3) : l.length ≤ 3 := by
  match l, h with
  | [], _ => simp
  | [a], _ => simp
  | [a, b], _ => simp
  | [a, b, c], _ => simp
  | a :: b :: c :: d :: l, h =>
    have h0 := hr a (by simp)
    have h3 := hr d (by simp)
    simp only [List.pairwise_cons, List.mem_cons, forall_eq_or_imp] at h
    omega
end Go.Proofs.Ytadjimfkfmojkaa.Am

end
section
namespace Go.Proofs.Ytadjimfkfmojkaa.Am
set_option maxRecDepth 100000
set_option linter.unusedSimpArgs false
set_option linter.unusedVariables false
def W0 : WorldD := ⟨[⟨[120], 0, 0, false, 0⟩], [⟨[109], false⟩, ⟨[110], false⟩, ⟨[114], true⟩], [⟨[99], 0⟩], [[102]], [[116], [117], [119]], []⟩
def RdOk (l : LockD) : Prop := l.readers.Pairwise (· < ·) ∧ ∀ y ∈ l.readers, 0 ≤ y ∧ y < 3
structure OInv (s : SyncD) : Prop where
  nl : s.locks.length = 3
  nd : s.done.length = 1
  nt : s.threads.length = 3
  cond : ∀ x ∈ s.threads, x.cond = 0
  rd : ∀ l ∈ s.locks, RdOk l
theorem rdOk_default : RdOk default := ⟨List.Pairwise.nil, fun y hy => by cases hy⟩
theorem OInv.small {s : SyncD} (h : OInv s) : Small W0 s := ⟨by decide, by rw [h.nl]; decide, by rw [h.nd]; decide, by rw [h.nt]; decide, fun l hl => by
  obtain ⟨h1, h2⟩ := h.rd l hl
  have := asc_len3 h1 h2
  omega⟩
theorem OInv.fit {s : SyncD} (h : OInv s) : FitD W0 s := ⟨h.nl, h.nd, h.nt, fun c hc => by
  have : c = ⟨[99], 0⟩ := by simpa [W0] using hc
  subst this; rfl⟩
theorem inv_start : OInv (startS W0) := ⟨by simp [startS, W0], by simp [startS, W0], by simp [startS, W0], by decide, fun l hl => by
  have : l = ⟨-1, []⟩ := by simp [startS, W0] at hl; exact hl
  subst this
  exact ⟨List.Pairwise.nil, fun y hy => by cases hy⟩⟩
theorem thr_cond {s : SyncD} (h : OInv s) (i : Int) : (thrAt s i).cond = 0 := by
  unfold thrAt
  rcases Nat.lt_or_ge i.toNat s.threads.length with hi | hi
  · rw [show s.threads.getD i.toNat default = s.threads[i.toNat] by simp [hi]]; exact h.cond _ (List.getElem_mem hi)
  · simp [List.getD, List.getElem?_eq_none hi]; rfl
theorem lock_rd {s : SyncD} (h : OInv s) (i : Int) : RdOk (lockAt s i) := by
  unfold lockAt
  rcases Nat.lt_or_ge i.toNat s.locks.length with hi | hi
  · rw [show s.locks.getD i.toNat default = s.locks[i.toNat] by simp [hi]]; exact h.rd _ (List.getElem_mem hi)
  · simp [List.getD, List.getElem?_eq_none hi]; exact rdOk_default
theorem set_thr {s : SyncD} (h : OInv s) (i : Int) (f : ThrD → ThrD) (hf : ∀ x : ThrD, x.cond = 0 → (f x).cond = 0) : ∀ x ∈ setThr s i f, x.cond = 0 := fun x hx => by
  rcases List.mem_or_eq_of_mem_set hx with h1 | h1
  · exact h.cond x h1
  · rw [h1]; exact hf _ (thr_cond h i)
theorem set_lock {s : SyncD} (h : OInv s) (i : Int) (f : LockD → LockD) (hf : RdOk (f (lockAt s i))) : ∀ x ∈ setLock s i f, RdOk x := fun x hx => by
  rcases List.mem_or_eq_of_mem_set hx with h1 | h1
  · exact h.rd x h1
  · rw [h1]; exact hf
theorem inv_thr {s : SyncD} (h : OInv s) {th : List ThrD} (hl : th.length = s.threads.length) (hc : ∀ x ∈ th, x.cond = 0) : OInv { s with threads := th } := ⟨h.nl, h.nd, by rw [hl]; exact h.nt, hc, h.rd⟩
theorem inv_lock {s : SyncD} (h : OInv s) {ls : List LockD} (hl : ls.length = s.locks.length) (hc : ∀ x ∈ ls, RdOk x) : OInv { s with locks := ls } := ⟨by rw [hl]; exact h.nl, h.nd, h.nt, h.cond, hc⟩
theorem woken_cond {s : SyncD} (h : OInv s) (o wake : Int) : ∀ x ∈ wokenS s.threads o wake, x.cond = 0 := fun x hx => by
  unfold wokenS at hx
  split at hx
  · unfold setSt at hx
    rcases List.mem_or_eq_of_mem_set hx with h1 | h1
    · exact h.cond x h1
    · rw [h1]
      have := thr_cond h (notifyS s.threads o wake)
      exact this
  · exact h.cond x hx
theorem wake_cond {s : SyncD} (h : OInv s) (o : Int) : ∀ x ∈ wakeS s o, x.cond = 0 := fun x hx => by
  unfold wakeS wakeAll at hx
  obtain ⟨p, hp, rfl⟩ := List.mem_map.1 hx
  have hm : p.1 ∈ s.threads := by
    have := List.mem_zipIdx hp
    rw [this.2.2]
    exact List.getElem_mem _
  split
  · show p.1.cond = 0; exact h.cond _ hm
  · exact h.cond _ hm
theorem addRd_mem (l : List Int) (t x : Int) : x ∈ addRd l t ↔ x ∈ l ∨ x = t := by
  show x ∈ asc (l ++ [t]) ↔ _
  rw [asc_mem]; simp
theorem addRd_asc (l : List Int) (t : Int) : (addRd l t).Pairwise (· < ·) := asc_asc (l ++ [t])
/-- what an event of this world shows -/
theorem en_parts {w : WorldD} {s : SyncD} {t k o : Int} (h : enabledS w s t k o = true) : fitsS w s = true ∧ inB t w.threads.length = true ∧ allowedS w k o = true := by
  unfold enabledS at h
  simp only [Bool.and_eq_true] at h
  exact ⟨h.1.1.1, h.1.1.2, h.1.2⟩
theorem oinv_step {s : SyncD} (h : OInv s) {t k o wake : Int} (hen : enabledS W0 s t k o = true) : OInv (applyS W0 s t k o wake).1 := by
  obtain ⟨_, ht, ha⟩ := en_parts hen
  obtain ⟨t0, t1⟩ := inB_iff.1 ht
  have t3 : t < 3 := t1
  unfold applyS
  refine iteInduction (motive := fun x : SyncD × Int => OInv x.1) (fun hk => ?_) (fun _ => ?_)
  · exact inv_thr h (by simp [setThr]) (set_thr h t _ fun x hx => hx)
  refine iteInduction (motive := fun x : SyncD × Int => OInv x.1) (fun hk => ?_) (fun _ => ?_)
  · exact inv_thr h (by simp [setThr]) (set_thr h t _ fun x hx => hx)
  refine iteInduction (motive := fun x : SyncD × Int => OInv x.1) (fun hk => ?_) (fun _ => ?_)
  · exact inv_lock h (by simp [setLock]) (set_lock h o _ (lock_rd h o))
  refine iteInduction (motive := fun x : SyncD × Int => OInv x.1) (fun hk => ?_) (fun _ => ?_)
  · exact inv_lock h (by simp [setLock]) (set_lock h o _ (lock_rd h o))
  refine iteInduction (motive := fun x : SyncD × Int => OInv x.1) (fun hk => ?_) (fun _ => ?_)
  · refine inv_lock h (by simp [setLock]) (set_lock h o _ ⟨addRd_asc _ _, fun y hy => ?_⟩)
    rcases (addRd_mem _ _ _).1 hy with h1 | h1
    · exact (lock_rd h o).2 y h1
    · omega
  refine iteInduction (motive := fun x : SyncD × Int => OInv x.1) (fun hk => ?_) (fun _ => ?_)
  · exact inv_lock h (by simp [setLock]) (set_lock h o _ ⟨(lock_rd h o).1.filter _, fun y hy => (lock_rd h o).2 y ((List.mem_filter.1 hy).1)⟩)
  refine iteInduction (motive := fun x : SyncD × Int => OInv x.1) (fun hk => ?_) (fun _ => ?_)
  · exact ⟨h.nl, h.nd, h.nt, h.cond, h.rd⟩
  refine iteInduction (motive := fun x : SyncD × Int => OInv x.1) (fun hk => ?_) (fun _ => ?_)
  · exact ⟨h.nl, h.nd, h.nt, h.cond, h.rd⟩
  refine iteInduction (motive := fun x : SyncD × Int => OInv x.1) (fun hk => ?_) (fun _ => ?_)
  · exact inv_thr h (by simp [setThr]) (set_thr h t _ fun x hx => hx)
  refine iteInduction (motive := fun x : SyncD × Int => OInv x.1) (fun hk => ?_) (fun _ => ?_)
  · exact inv_thr h (by simp [setThr]) (set_thr h t _ fun x hx => hx)
  refine iteInduction (motive := fun x : SyncD × Int => OInv x.1) (fun hk => ?_) (fun _ => ?_)
  · subst hk
    have ho : inB o W0.conds.length = true := by simpa [allowedS] using ha
    obtain ⟨o0, o1⟩ := inB_iff.1 ho
    have o2 : o < 1 := o1
    have e : o = 0 := by omega
    subst e
    exact ⟨by simpa [setLock] using h.nl, h.nd, by simpa [setThr] using h.nt, set_thr h t (fun x => { x with status := 3, cond := 0 }) fun x hx => rfl, set_lock h (mxAt W0 0) (fun x => { x with owner := -1 }) (lock_rd h _)⟩
  refine iteInduction (motive := fun x : SyncD × Int => OInv x.1) (fun hk => ?_) (fun _ => ?_)
  · exact ⟨by simpa [setLock] using h.nl, h.nd, by simpa [setThr] using h.nt, set_thr h t (fun x => { x with status := 2, cond := 0 }) fun x hx => rfl, set_lock h (mxAt W0 o) (fun x => { x with owner := t }) (lock_rd h _)⟩
  refine iteInduction (motive := fun x : SyncD × Int => OInv x.1) (fun hk => ?_) (fun _ => ?_)
  · exact inv_thr h (woken_len _ _ _) (woken_cond h o wake)
  refine iteInduction (motive := fun x : SyncD × Int => OInv x.1) (fun hk => ?_) (fun _ => ?_)
  · exact inv_thr h (wakeAll_len _ _ _) (wake_cond h o)
  refine iteInduction (motive := fun x : SyncD × Int => OInv x.1) (fun hk => ?_) (fun _ => ?_)
  · exact inv_thr h (by simp [setThr]) (set_thr h o _ fun x hx => hx)
  refine iteInduction (motive := fun x : SyncD × Int => OInv x.1) (fun hk => ?_) (fun _ => ?_)
  · exact ⟨h.nl, by simpa using h.nd, h.nt, h.cond, h.rd⟩
  · exact h
end Go.Proofs.Ytadjimfkfmojkaa.Am

end
section
namespace Go.Proofs.Ytadjimfkfmojkaa.Am
set_option linter.unusedVariables false
set_option maxRecDepth 100000
def law08_ObjectIndependent_t : Hints := ⟨fun k => none, fun k => [], fun k => if k = 3 then [7] else if k = 4 then [8] else if k = 10 then [14] else if k = 11 then [17] else if k = 12 then [20] else if k = 13 then [23] else [], fun k => if k = 6 then [0, 0, 2, 6, 15, 31, 0, 0, 128, 384, 960, 1984, 63, 8191] else []⟩
def law08_ObjectIndependent_zt0 (t84_73 : AV) (t93_85 : AV) (L_97 : SH) (t20_77 : AV) (t23_89 : AV) (Q : AV → SH → Prop)  : Prop :=
 W.grd t84_73 true (fun k_103 => k_103 t93_85 L_97) L_97 fun t103_102 L_104 =>
 W.pick t84_73 t103_102 (.bool false) fun t104_105 =>
 W.grd t104_105 true (fun k_107 => W.load true 4 t20_77 L_104 fun v_109 =>
 k_107 v_109 L_104) L_104 fun t106_106 L_108 =>
 W.grd t104_105 true (fun k_111 => W.load true 4 t23_89 L_108 fun v_113 =>
 k_111 v_113 L_108) L_108 fun t107_110 L_112 =>
 W.grd t104_105 true (fun k_115 => W.call Try.prog (.fn 20 []) [t106_106, t107_110] L_112 fun v_117 L_118 =>
 k_115 v_117 L_118) L_112 fun t108_114 L_116 =>
 W.pick t104_105 t108_114 (.bool false) fun t109_119 =>
 W.grd t109_119 true (fun k_121 => W.call Try.prog (.fn 23 []) [] L_116 fun v_123 L_124 =>
 k_121 v_123 L_124) L_116 fun t111_120 L_122 =>
 W.pick t109_119 t111_120 (.bool false) fun t112_125 =>
 Q t112_125 L_122
def law08_ObjectIndependent_c0 (t66_49 : AV) (t75_61 : AV) (Q : AV → SH → Prop) (t84_73 : AV) (t20_77 : AV) (t90_81 : AV) (L_82 : SH) : Prop :=
 W.ext 0 t90_81 fun t91_83 =>
 W.ext 1 t90_81 fun t92_84 =>
 W.ext 2 t90_81 fun t93_85 =>
 W.alloc [.nils, (.int .i64 0), .nils, .nils] L_82 fun t23_86 L_87 =>
 W.store 4 t23_86 t91_83 L_87 fun L_88 =>
 W.frz1 t23_86 L_88 fun t23_89 L_90 =>
 W.un .not t66_49 fun t95_91 =>
 W.grd t95_91 false (fun k_93 => k_93 t75_61 L_90) L_90 fun t97_92 L_94 =>
 W.grd t95_91 false (fun k_96 => W.un .not t97_92 fun v_98 =>
 k_96 v_98 L_94) L_94 fun t98_95 L_97 =>
 W.pick t95_91 (.bool true) t98_95 fun t99_99 =>
 W.cond t99_99 (
 W.call Try.prog (.fn 23 []) [] L_97 fun t100_100 L_101 =>
 Q t100_100 L_101) (
 (law08_ObjectIndependent_zt0 t84_73 t93_85 L_97 t20_77 t23_89 Q))
def law08_ObjectIndependent_c1 (t7_7 : AV) (t17_65 : AV) (t49_36 : AV) (t39_23 : AV) (t66_49 : AV) (t75_61 : AV) (Q : AV → SH → Prop) (t81_69 : AV) (L_70 : SH) : Prop :=
 W.ext 0 t81_69 fun t82_71 =>
 W.ext 1 t81_69 fun t83_72 =>
 W.ext 2 t81_69 fun t84_73 =>
 W.alloc [.nils, (.int .i64 0), .nils, .nils] L_70 fun t20_74 L_75 =>
 W.store 4 t20_74 t82_71 L_75 fun L_76 =>
 W.frz1 t20_74 L_76 fun t20_77 L_78 =>
 W.load true 6 t7_7 L_78 fun t86_79 =>
 W.load true 4 t17_65 L_78 fun t87_80 =>
 W.call Try.prog (.fn 26 []) [t86_79, t87_80, t49_36, t39_23, (.int .i64 0), (.int .i64 (-1))] L_78 (law08_ObjectIndependent_c0 t66_49 t75_61 Q t84_73 t20_77)
def law08_ObjectIndependent_c2 (t7_7 : AV) (t14_53 : AV) (t53_39 : AV) (t45_32 : AV) (t49_36 : AV) (t39_23 : AV) (t66_49 : AV) (Q : AV → SH → Prop) (t72_57 : AV) (L_58 : SH) : Prop :=
 W.ext 0 t72_57 fun t73_59 =>
 W.ext 1 t72_57 fun t74_60 =>
 W.ext 2 t72_57 fun t75_61 =>
 W.alloc [.nils, (.int .i64 0), .nils, .nils] L_58 fun t17_62 L_63 =>
 W.store 4 t17_62 t73_59 L_63 fun L_64 =>
 W.frz1 t17_62 L_64 fun t17_65 L_66 =>
 W.load true 6 t7_7 L_66 fun t77_67 =>
 W.load true 4 t14_53 L_66 fun t78_68 =>
 W.call Try.prog (.fn 26 []) [t77_67, t78_68, t53_39, t45_32, (.int .i64 2), (.int .i64 (-1))] L_66 (law08_ObjectIndependent_c1 t7_7 t17_65 t49_36 t39_23 t66_49 t75_61 Q)
def law08_ObjectIndependent_c3 (t7_7 : AV) (t8_15 : AV) (t53_39 : AV) (t45_32 : AV) (t49_36 : AV) (t39_23 : AV) (Q : AV → SH → Prop) (t63_45 : AV) (L_46 : SH) : Prop :=
 W.ext 0 t63_45 fun t64_47 =>
 W.ext 1 t63_45 fun t65_48 =>
 W.ext 2 t63_45 fun t66_49 =>
 W.alloc [.nils, (.int .i64 0), .nils, .nils] L_46 fun t14_50 L_51 =>
 W.store 4 t14_50 t64_47 L_51 fun L_52 =>
 W.frz1 t14_50 L_52 fun t14_53 L_54 =>
 W.load true 6 t7_7 L_54 fun t68_55 =>
 W.load true 4 t8_15 L_54 fun t69_56 =>
 W.call Try.prog (.fn 26 []) [t68_55, t69_56, t53_39, t45_32, (.int .i64 2), (.int .i64 (-1))] L_54 (law08_ObjectIndependent_c2 t7_7 t14_53 t53_39 t45_32 t49_36 t39_23 t66_49 Q)
def law08_ObjectIndependent_zt1 (t7_7 : AV) (L_26 : SH) (t8_15 : AV) (t49_36 : AV) (t39_23 : AV) (t53_39 : AV) (t45_32 : AV) (Q : AV → SH → Prop)  : Prop :=
 W.load true 6 t7_7 L_26 fun t59_43 =>
 W.load true 4 t8_15 L_26 fun t60_44 =>
 W.call Try.prog (.fn 26 []) [t59_43, t60_44, t49_36, t39_23, (.int .i64 0), (.int .i64 (-1))] L_26 (law08_ObjectIndependent_c3 t7_7 t8_15 t53_39 t45_32 t49_36 t39_23 Q)
def law08_ObjectIndependent_c4 (t1 : AV) (t2 : AV) (Q : AV → SH → Prop) (t7_7 : AV) (t32_10 : AV) (L_11 : SH) : Prop :=
 W.alloc [.nils, (.int .i64 0), .nils, .nils] L_11 fun t8_12 L_13 =>
 W.store 4 t8_12 t32_10 L_13 fun L_14 =>
 W.frz1 t8_12 L_14 fun t8_15 L_16 =>
 W.bslice 1 [(.int .i64 0)] 4 [(0, (.int .i64 6)), (1, (.int .i64 7)), (2, (.int .i64 18)), (3, (.int .i64 16))] L_16 fun t33_17 L_18 =>
 (true = true) ∧ (
 W.conv .i64 t1 fun t36_19 =>
 W.bin Try.prog Fl .rem 3 t36_19 (.int .i64 4) fun t37_20 =>
 W.calm [] ⟨4, (slOf t33_17), [], [], false, []⟩ (
 W.idx 1 t33_17 t37_20 L_18 fun t38_21 =>
 W.note ⟨(slOf t33_17), [], [], []⟩ fun r_22 =>
 W.calm [] ⟨5, (blocksOf t38_21), [], [], false, []⟩ (
 W.load false 1 t38_21 L_18 fun t39_23 =>
 W.note ⟨(blocksOf t38_21), [], [], []⟩ fun r_24 =>
 W.calm [⟨5, r_24.reads, r_24.writes, r_24.made, false, r_24.old⟩, ⟨4, r_22.reads, r_22.writes, r_22.made, false, r_22.old⟩] ⟨6, [], [], [], false, []⟩ (
 W.bslice 1 [(.int .i64 0)] 4 [(0, (.int .i64 8)), (1, (.int .i64 9)), (2, (.int .i64 10)), (3, (.int .i64 11))] L_18 fun t40_25 L_26 =>
 W.note ⟨[], [], (blocksOf t40_25), []⟩ fun r_27 =>
 W.conv .i64 t2 fun t42_28 =>
 W.bin Try.prog Fl .rem 3 t42_28 (.int .i64 4) fun t43_29 =>
 W.calm [⟨5, r_24.reads, r_24.writes, r_24.made, false, r_24.old⟩, ⟨4, r_22.reads, r_22.writes, r_22.made, false, r_22.old⟩] ⟨10, (slOf t40_25), [], [], false, []⟩ (
 W.idx 1 t40_25 t43_29 L_26 fun t44_30 =>
 W.note ⟨(slOf t40_25), [], [], []⟩ fun r_31 =>
 W.calm [⟨5, r_24.reads, r_24.writes, r_24.made, false, r_24.old⟩, ⟨4, r_22.reads, r_22.writes, r_22.made, false, r_22.old⟩] ⟨11, (blocksOf t44_30), [], [], false, []⟩ (
 W.load false 1 t44_30 L_26 fun t45_32 =>
 W.note ⟨(blocksOf t44_30), [], [], []⟩ fun r_33 =>
 W.conv .i64 t1 fun t47_34 =>
 W.bin Try.prog Fl .quo 3 t47_34 (.int .i64 4) fun t48_35 =>
 W.bin Try.prog Fl .rem 3 t48_35 (.int .i64 3) fun t49_36 =>
 W.conv .i64 t2 fun t51_37 =>
 W.bin Try.prog Fl .quo 3 t51_37 (.int .i64 4) fun t52_38 =>
 W.bin Try.prog Fl .rem 3 t52_38 (.int .i64 3) fun t53_39 =>
 W.bin Try.prog Fl .eql 3 t49_36 t53_39 fun t56_40 =>
 W.cond t56_40 (
 W.call Try.prog (.fn 23 []) [] L_26 fun t57_41 L_42 =>
 Q t57_41 L_42) (
 (law08_ObjectIndependent_zt1 t7_7 L_26 t8_15 t49_36 t39_23 t53_39 t45_32 Q))))))))
def law08_ObjectIndependent_c5 (t0 : AV) (t1 : AV) (t2 : AV) (Q : AV → SH → Prop) (t29_2 : AV) (L_3 : SH) : Prop :=
 W.alloc [.nils, .nils, .nils, .nils, .nils, .nils] L_3 fun t7_4 L_5 =>
 W.store 6 t7_4 t29_2 L_5 fun L_6 =>
 W.frz1 t7_4 L_6 fun t7_7 L_8 =>
 W.load true 6 t7_7 L_8 fun t30_9 =>
 W.call Try.prog (.fn 25 []) [t30_9, t0] L_8 (law08_ObjectIndependent_c4 t1 t2 Q t7_7)
def law08_ObjectIndependent_w (t0 t1 t2 : AV) (L : SH) (Q : AV → SH → Prop) : Prop :=
 W.len t0 fun t27_0 =>
 W.bin Try.prog Fl .gtr 3 t27_0 (.int .i64 100) fun t28_1 =>
 W.cond t28_1 (
 Q (.bool true) L) (
 W.call Try.prog (.fn 24 []) [] L (law08_ObjectIndependent_c5 t0 t1 t2 Q))
theorem law08_ObjectIndependent_e (t0 t1 t2 : AV) (L : SH) (Q : AV → SH → Prop) : W.func Try.prog Fl law08_ObjectIndependent_t Try.f9 (Try.f9.body.getD .skip) [t0, t1, t2] L Q = law08_ObjectIndependent_w t0 t1 t2 L Q := by kernel_rfl
theorem law08_ObjectIndependent_ok (t0 t1 t2 : AV) (L : SH) (Q : AV → SH → Prop) (h : law08_ObjectIndependent_w t0 t1 t2 L Q) : CallA Try.prog 9 [t0, t1, t2] L Q :=
  func_sound (ht := law08_ObjectIndependent_t) fit Try.func9 (show Try.f9.body = some (Try.f9.body.getD .skip) by kernel_rfl) (Eq.mpr (law08_ObjectIndependent_e t0 t1 t2 L Q) h)

def law08_world_t : Hints := ⟨fun k => none, fun k => [], fun k => [], fun k => []⟩
def law08_world_w (L : SH) (Q : AV → SH → Prop) : Prop :=
 W.alloc [.nils, .nils, .nils, .nils, .nils, .nils] L fun t0_0 L_1 =>
 W.build [(.str []), (.int .i64 0), (.int .i64 0), (.bool false), (.int .i64 0)] [(0, 1, (.str [120]))] fun t1_2 =>
 W.bslice 5 [(.str []), (.int .i64 0), (.int .i64 0), (.bool false), (.int .i64 0)] 1 [(0, t1_2)] L_1 fun t2_3 L_4 =>
 W.build [(.str []), (.bool false)] [(0, 1, (.str [109]))] fun t3_5 =>
 W.build [(.str []), (.bool false)] [(0, 1, (.str [110]))] fun t4_6 =>
 W.build [(.str []), (.bool false)] [(0, 1, (.str [114])), (1, 1, (.bool true))] fun t5_7 =>
 W.bslice 2 [(.str []), (.bool false)] 3 [(0, t3_5), (1, t4_6), (2, t5_7)] L_4 fun t6_8 L_9 =>
 W.build [(.str []), (.int .i64 0)] [(0, 1, (.str [99]))] fun t7_10 =>
 W.bslice 2 [(.str []), (.int .i64 0)] 1 [(0, t7_10)] L_9 fun t8_11 L_12 =>
 W.bslice 1 [(.str [])] 1 [(0, (.str [102]))] L_12 fun t9_13 L_14 =>
 W.bslice 1 [(.str [])] 3 [(0, (.str [116])), (1, (.str [117])), (2, (.str [119]))] L_14 fun t10_15 L_16 =>
 W.build [.nils, .nils, .nils, .nils, .nils, .nils] [(0, 1, t2_3), (1, 1, t6_8), (2, 1, t8_11), (3, 1, t9_13), (4, 1, t10_15)] fun t11_17 =>
 W.store 6 t0_0 t11_17 L_16 fun L_18 =>
 W.load true 6 t0_0 L_18 fun r_19 =>
 Q r_19 L_18
theorem law08_world_e (L : SH) (Q : AV → SH → Prop) : W.func Try.prog Fl law08_world_t Try.f24 (Try.f24.body.getD .skip) [] L Q = law08_world_w  L Q := by kernel_rfl
theorem law08_world_ok (L : SH) (Q : AV → SH → Prop) (h : law08_world_w  L Q) : CallA Try.prog 24 [] L Q :=
  func_sound (ht := law08_world_t) fit Try.func24 (show Try.f24.body = some (Try.f24.body.getD .skip) by kernel_rfl) (Eq.mpr (law08_world_e  L Q) h)

def law08_reach_t : Hints := ⟨fun k => none, fun k => if k = 3 then [1, 2, 4, 5, 6] else [], fun k => if k = 0 then [2] else if k = 6 then [11] else [], fun k => []⟩
def law08_reach_zt0 (t11_35 : AV) (L_36 : SH) (vs_12 : List AV) (nx_13 : W.Kn)  : Prop :=
 W.load true 4 t11_35 L_36 fun t44_37 =>
 W.store 4 (slotOf [1, 2, 4, 5, 6] vs_12 5) t44_37 L_36 fun L_38 =>
 W.bin Try.prog Fl .add 3 (slotOf [1, 2, 4, 5, 6] vs_12 6) (.int .i64 1) fun t21_39 =>
 nx_13 [(slotOf [1, 2, 4, 5, 6] vs_12 1), (slotOf [1, 2, 4, 5, 6] vs_12 2), (slotOf [1, 2, 4, 5, 6] vs_12 4), (slotOf [1, 2, 4, 5, 6] vs_12 5), t21_39] L_38
def law08_reach_zt1 (vs_12 : List AV) (nx_13 : W.Kn) (L_36 : SH)  : Prop :=
 W.bin Try.prog Fl .add 3 (slotOf [1, 2, 4, 5, 6] vs_12 6) (.int .i64 1) fun t21_40 =>
 nx_13 [(slotOf [1, 2, 4, 5, 6] vs_12 1), (slotOf [1, 2, 4, 5, 6] vs_12 2), (slotOf [1, 2, 4, 5, 6] vs_12 4), (slotOf [1, 2, 4, 5, 6] vs_12 5), t21_40] L_36
def law08_reach_c0 (vs_12 : List AV) (nx_13 : W.Kn) (t39_27 : AV) (L_28 : SH) : Prop :=
 W.ext 0 t39_27 fun t40_29 =>
 W.ext 1 t39_27 fun t41_30 =>
 W.ext 2 t39_27 fun t42_31 =>
 W.alloc [.nils, (.int .i64 0), .nils, .nils] L_28 fun t11_32 L_33 =>
 W.store 4 t11_32 t40_29 L_33 fun L_34 =>
 W.frz1 t11_32 L_34 fun t11_35 L_36 =>
 W.cond t42_31 (
 (law08_reach_zt0 t11_35 L_36 vs_12 nx_13)) (
 (law08_reach_zt1 vs_12 nx_13 L_36))
def law08_reach_c1 (vs_12 : List AV) (nx_13 : W.Kn) (t27_19 : AV) (L_20 : SH) : Prop :=
 W.ext 0 t27_19 fun t28_21 =>
 W.ext 1 t27_19 fun t29_22 =>
 W.ext 2 t27_19 fun t30_23 =>
 W.ext 3 t27_19 fun t31_24 =>
 W.load true 6 (slotOf [1, 2, 4, 5, 6] vs_12 2) L_20 fun t33_25 =>
 W.load true 4 (slotOf [1, 2, 4, 5, 6] vs_12 5) L_20 fun t34_26 =>
 W.call Try.prog (.fn 26 []) [t33_25, t34_26, t28_21, t29_22, t30_23, t31_24] L_20 (law08_reach_c0 vs_12 nx_13)
def law08_reach_zt2 (vs_12 : List AV) (L_14 : SH) (nx_13 : W.Kn)  : Prop :=
 W.idx 4 (slotOf [1, 2, 4, 5, 6] vs_12 1) (slotOf [1, 2, 4, 5, 6] vs_12 6) L_14 fun t25_17 =>
 W.load true 4 t25_17 L_14 fun t26_18 =>
 W.call Try.prog (.fn 28 []) [t26_18] L_14 (law08_reach_c1 vs_12 nx_13)
def law08_reach_zt3 (vs_12 : List AV) (L_14 : SH) (Q : AV → SH → Prop)  : Prop :=
 W.load true 4 (slotOf [1, 2, 4, 5, 6] vs_12 5) L_14 fun t45_41 =>
 W.store 4 (slotOf [1, 2, 4, 5, 6] vs_12 4) t45_41 L_14 fun L_42 =>
 W.load true 4 (slotOf [1, 2, 4, 5, 6] vs_12 4) L_42 fun r_43 =>
 Q r_43 L_42
def law08_reach_l2 (Q : AV → SH → Prop) (vs_12 : List AV) (L_14 : SH) (nx_13 : W.Kn) : Prop :=
 W.len (slotOf [1, 2, 4, 5, 6] vs_12 1) fun t18_15 =>
 W.bin Try.prog Fl .lss 3 (slotOf [1, 2, 4, 5, 6] vs_12 6) t18_15 fun t19_16 =>
 W.cond t19_16 (
 (law08_reach_zt2 vs_12 L_14 nx_13)) (
 (law08_reach_zt3 vs_12 L_14 Q))
def law08_reach_c3 (Q : AV → SH → Prop) (t1 : AV) (t2_4 : AV) (t4_2 : AV) (t15_7 : AV) (L_8 : SH) : Prop :=
 W.alloc [.nils, (.int .i64 0), .nils, .nils] L_8 fun t5_9 L_10 =>
 W.store 4 t5_9 t15_7 L_10 fun L_11 =>
 W.loop (law08_reach_l2 Q) [t1, t2_4, t4_2, t5_9, (.int .i64 0)] L_11
def law08_reach_w (t0 t1 : AV) (L : SH) (Q : AV → SH → Prop) : Prop :=
 W.box t0 L fun t2_0 L_1 =>
 W.alloc [.nils, (.int .i64 0), .nils, .nils] L_1 fun t4_2 L_3 =>
 W.frz1 t2_0 L_3 fun t2_4 L_5 =>
 W.load true 6 t2_4 L_5 fun t14_6 =>
 W.call Try.prog (.fn 21 []) [t14_6] L_5 (law08_reach_c3 Q t1 t2_4 t4_2)
theorem law08_reach_e (t0 t1 : AV) (L : SH) (Q : AV → SH → Prop) : W.func Try.prog Fl law08_reach_t Try.f25 (Try.f25.body.getD .skip) [t0, t1] L Q = law08_reach_w t0 t1 L Q := by kernel_rfl
theorem law08_reach_ok (t0 t1 : AV) (L : SH) (Q : AV → SH → Prop) (h : law08_reach_w t0 t1 L Q) : CallA Try.prog 25 [t0, t1] L Q :=
  func_sound (ht := law08_reach_t) fit Try.func25 (show Try.f25.body = some (Try.f25.body.getD .skip) by kernel_rfl) (Eq.mpr (law08_reach_e t0 t1 L Q) h)

def law08_Event_try_t : Hints := ⟨fun k => if k = 20 then some [1, 6, 7] else if k = 10 then some [1, 6, 7, 19, 20] else none, fun k => [], fun k => if k = 0 then [1] else [], fun k => if k = 21 then [0, 1, 3, 7, 15, 0, 0, 0, 128, 384, 896, 1920, 3968, 31, 8255, 24703, 65535] else []⟩
def law08_Event_try_j0 (Q : AV → SH → Prop) (vs_15 : List AV) (L_17 : SH) : Prop :=
 (true = true) ∧ (
 W.faddr 0 (slotOf [1, 6, 7] vs_15 1) fun t37_18 =>
 W.calm [] ⟨1, (blocksOf t37_18), [], [], false, []⟩ (
 W.load false 1 t37_18 L_17 fun t38_19 =>
 W.note ⟨(blocksOf t37_18), [], [], []⟩ fun r_20 =>
 W.conv .u8 t38_19 fun t39_21 =>
 W.conv .i64 t39_21 fun t40_22 =>
 W.bin Try.prog Fl .rem 3 t40_22 (.int .i64 3) fun t41_23 =>
 W.faddr 3 (slotOf [1, 6, 7] vs_15 1) fun t44_24 =>
 W.calm [⟨1, r_20.reads, r_20.writes, r_20.made, false, r_20.old⟩] ⟨8, (blocksOf t44_24), [], [], false, []⟩ (
 W.load false 1 t44_24 L_17 fun t45_25 =>
 W.note ⟨(blocksOf t44_24), [], [], []⟩ fun r_26 =>
 W.conv .u8 t45_25 fun t46_27 =>
 W.conv .i64 t46_27 fun t47_28 =>
 W.bin Try.prog Fl .rem 3 t47_28 (.int .i64 4) fun t48_29 =>
 W.bin Try.prog Fl .sub 3 t48_29 (.int .i64 1) fun t49_30 =>
 Q (.tup [t41_23, (slotOf [1, 6, 7] vs_15 6), (slotOf [1, 6, 7] vs_15 7), t49_30]) L_17)))
def law08_Event_try_zt0 (t29_34 : AV) (j_16 : W.Kn) (vs_31 : List AV) (L_33 : SH)  : Prop :=
 W.cond t29_34 (
 j_16 [(slotOf [1, 6, 7, 19, 20] vs_31 1), (slotOf [1, 6, 7, 19, 20] vs_31 6), (.int .i64 0)] L_33) (
 j_16 [(slotOf [1, 6, 7, 19, 20] vs_31 1), (slotOf [1, 6, 7, 19, 20] vs_31 6), (slotOf [1, 6, 7, 19, 20] vs_31 7)] L_33)
def law08_Event_try_zt1 (t30_35 : AV) (j_16 : W.Kn) (vs_31 : List AV) (L_33 : SH)  : Prop :=
 W.cond t30_35 (
 j_16 [(slotOf [1, 6, 7, 19, 20] vs_31 1), (slotOf [1, 6, 7, 19, 20] vs_31 6), (.int .i64 0)] L_33) (
 j_16 [(slotOf [1, 6, 7, 19, 20] vs_31 1), (slotOf [1, 6, 7, 19, 20] vs_31 6), (slotOf [1, 6, 7, 19, 20] vs_31 7)] L_33)
def law08_Event_try_zt2 (t31_36 : AV) (j_16 : W.Kn) (vs_31 : List AV) (L_33 : SH)  : Prop :=
 W.cond t31_36 (
 j_16 [(slotOf [1, 6, 7, 19, 20] vs_31 1), (slotOf [1, 6, 7, 19, 20] vs_31 6), (.int .i64 0)] L_33) (
 j_16 [(slotOf [1, 6, 7, 19, 20] vs_31 1), (slotOf [1, 6, 7, 19, 20] vs_31 6), (slotOf [1, 6, 7, 19, 20] vs_31 7)] L_33)
def law08_Event_try_zt3 (t32_37 : AV) (j_16 : W.Kn) (vs_31 : List AV) (L_33 : SH)  : Prop :=
 W.cond t32_37 (
 j_16 [(slotOf [1, 6, 7, 19, 20] vs_31 1), (slotOf [1, 6, 7, 19, 20] vs_31 6), (.int .i64 0)] L_33) (
 j_16 [(slotOf [1, 6, 7, 19, 20] vs_31 1), (slotOf [1, 6, 7, 19, 20] vs_31 6), (slotOf [1, 6, 7, 19, 20] vs_31 7)] L_33)
def law08_Event_try_zt4 (t33_38 : AV) (j_16 : W.Kn) (vs_31 : List AV) (L_33 : SH)  : Prop :=
 W.cond t33_38 (
 j_16 [(slotOf [1, 6, 7, 19, 20] vs_31 1), (slotOf [1, 6, 7, 19, 20] vs_31 6), (.int .i64 0)] L_33) (
 j_16 [(slotOf [1, 6, 7, 19, 20] vs_31 1), (slotOf [1, 6, 7, 19, 20] vs_31 6), (slotOf [1, 6, 7, 19, 20] vs_31 7)] L_33)
def law08_Event_try_zt5 (t34_39 : AV) (j_16 : W.Kn) (vs_31 : List AV) (L_33 : SH)  : Prop :=
 W.cond t34_39 (
 j_16 [(slotOf [1, 6, 7, 19, 20] vs_31 1), (slotOf [1, 6, 7, 19, 20] vs_31 6), (.int .i64 0)] L_33) (
 j_16 [(slotOf [1, 6, 7, 19, 20] vs_31 1), (slotOf [1, 6, 7, 19, 20] vs_31 6), (slotOf [1, 6, 7, 19, 20] vs_31 7)] L_33)
def law08_Event_try_zt6 (t35_40 : AV) (j_16 : W.Kn) (vs_31 : List AV) (L_33 : SH)  : Prop :=
 W.cond t35_40 (
 j_16 [(slotOf [1, 6, 7, 19, 20] vs_31 1), (slotOf [1, 6, 7, 19, 20] vs_31 6), (.int .i64 0)] L_33) (
 j_16 [(slotOf [1, 6, 7, 19, 20] vs_31 1), (slotOf [1, 6, 7, 19, 20] vs_31 6), (slotOf [1, 6, 7, 19, 20] vs_31 7)] L_33)
def law08_Event_try_zt7 (vs_31 : List AV) (j_16 : W.Kn) (L_33 : SH)  : Prop :=
 W.bin Try.prog Fl .eql 3 (slotOf [1, 6, 7, 19, 20] vs_31 19) (.int .i64 23) fun t36_41 =>
 W.cond t36_41 (
 j_16 [(slotOf [1, 6, 7, 19, 20] vs_31 1), (slotOf [1, 6, 7, 19, 20] vs_31 6), (.int .i64 0)] L_33) (
 j_16 [(slotOf [1, 6, 7, 19, 20] vs_31 1), (slotOf [1, 6, 7, 19, 20] vs_31 6), (slotOf [1, 6, 7, 19, 20] vs_31 7)] L_33)
def law08_Event_try_zt8 (vs_31 : List AV) (j_16 : W.Kn) (L_33 : SH)  : Prop :=
 W.bin Try.prog Fl .eql 3 (slotOf [1, 6, 7, 19, 20] vs_31 19) (.int .i64 22) fun t35_40 =>
 W.cond t35_40 (
 (law08_Event_try_zt6 t35_40 j_16 vs_31 L_33)) (
 (law08_Event_try_zt7 vs_31 j_16 L_33))
def law08_Event_try_zt9 (vs_31 : List AV) (j_16 : W.Kn) (L_33 : SH)  : Prop :=
 W.bin Try.prog Fl .eql 3 (slotOf [1, 6, 7, 19, 20] vs_31 19) (.int .i64 19) fun t34_39 =>
 W.cond t34_39 (
 (law08_Event_try_zt5 t34_39 j_16 vs_31 L_33)) (
 (law08_Event_try_zt8 vs_31 j_16 L_33))
def law08_Event_try_zt10 (vs_31 : List AV) (j_16 : W.Kn) (L_33 : SH)  : Prop :=
 W.bin Try.prog Fl .eql 3 (slotOf [1, 6, 7, 19, 20] vs_31 19) (.int .i64 18) fun t33_38 =>
 W.cond t33_38 (
 (law08_Event_try_zt4 t33_38 j_16 vs_31 L_33)) (
 (law08_Event_try_zt9 vs_31 j_16 L_33))
def law08_Event_try_zt11 (vs_31 : List AV) (j_16 : W.Kn) (L_33 : SH)  : Prop :=
 W.bin Try.prog Fl .eql 3 (slotOf [1, 6, 7, 19, 20] vs_31 19) (.int .i64 17) fun t32_37 =>
 W.cond t32_37 (
 (law08_Event_try_zt3 t32_37 j_16 vs_31 L_33)) (
 (law08_Event_try_zt10 vs_31 j_16 L_33))
def law08_Event_try_zt12 (vs_31 : List AV) (j_16 : W.Kn) (L_33 : SH)  : Prop :=
 W.bin Try.prog Fl .eql 3 (slotOf [1, 6, 7, 19, 20] vs_31 19) (.int .i64 16) fun t31_36 =>
 W.cond t31_36 (
 (law08_Event_try_zt2 t31_36 j_16 vs_31 L_33)) (
 (law08_Event_try_zt11 vs_31 j_16 L_33))
def law08_Event_try_zt13 (vs_31 : List AV) (j_16 : W.Kn) (L_33 : SH)  : Prop :=
 W.bin Try.prog Fl .eql 3 (slotOf [1, 6, 7, 19, 20] vs_31 19) (.int .i64 4) fun t30_35 =>
 W.cond t30_35 (
 (law08_Event_try_zt1 t30_35 j_16 vs_31 L_33)) (
 (law08_Event_try_zt12 vs_31 j_16 L_33))
def law08_Event_try_zt14 (vs_31 : List AV) (j_16 : W.Kn) (L_33 : SH)  : Prop :=
 W.bin Try.prog Fl .eql 3 (slotOf [1, 6, 7, 19, 20] vs_31 19) (.int .i64 3) fun t29_34 =>
 W.cond t29_34 (
 (law08_Event_try_zt0 t29_34 j_16 vs_31 L_33)) (
 (law08_Event_try_zt13 vs_31 j_16 L_33))
def law08_Event_try_j1 (j_16 : W.Kn) (vs_31 : List AV) (L_33 : SH) : Prop :=
 W.cond (slotOf [1, 6, 7, 19, 20] vs_31 20) (
 j_16 [(slotOf [1, 6, 7, 19, 20] vs_31 1), (slotOf [1, 6, 7, 19, 20] vs_31 6), (.int .i64 (-1))] L_33) (
 (law08_Event_try_zt14 vs_31 j_16 L_33))
def law08_Event_try_zt15 (t13_9 : AV) (j_32 : W.Kn) (t1_2 : AV) (t18_14 : AV) (L_3 : SH)  : Prop :=
 W.bin Try.prog Fl .eql 3 t13_9 (.int .i64 14) fun t26_47 =>
 W.cond t26_47 (
 j_32 [t1_2, t13_9, t18_14, t13_9, t26_47] L_3) (
 W.bin Try.prog Fl .eql 3 t13_9 (.int .i64 15) fun t27_48 =>
 j_32 [t1_2, t13_9, t18_14, t13_9, t27_48] L_3)
def law08_Event_try_zt16 (t13_9 : AV) (j_32 : W.Kn) (t1_2 : AV) (t18_14 : AV) (L_3 : SH)  : Prop :=
 W.bin Try.prog Fl .eql 3 t13_9 (.int .i64 13) fun t25_46 =>
 W.cond t25_46 (
 j_32 [t1_2, t13_9, t18_14, t13_9, t25_46] L_3) (
 (law08_Event_try_zt15 t13_9 j_32 t1_2 t18_14 L_3))
def law08_Event_try_zt17 (t13_9 : AV) (j_32 : W.Kn) (t1_2 : AV) (t18_14 : AV) (L_3 : SH)  : Prop :=
 W.bin Try.prog Fl .eql 3 t13_9 (.int .i64 12) fun t24_45 =>
 W.cond t24_45 (
 j_32 [t1_2, t13_9, t18_14, t13_9, t24_45] L_3) (
 (law08_Event_try_zt16 t13_9 j_32 t1_2 t18_14 L_3))
def law08_Event_try_zt18 (t13_9 : AV) (j_32 : W.Kn) (t1_2 : AV) (t18_14 : AV) (L_3 : SH)  : Prop :=
 W.bin Try.prog Fl .eql 3 t13_9 (.int .i64 5) fun t23_44 =>
 W.cond t23_44 (
 j_32 [t1_2, t13_9, t18_14, t13_9, t23_44] L_3) (
 (law08_Event_try_zt17 t13_9 j_32 t1_2 t18_14 L_3))
def law08_Event_try_zt19 (t13_9 : AV) (j_32 : W.Kn) (t1_2 : AV) (t18_14 : AV) (L_3 : SH)  : Prop :=
 W.bin Try.prog Fl .eql 3 t13_9 (.int .i64 2) fun t22_43 =>
 W.cond t22_43 (
 j_32 [t1_2, t13_9, t18_14, t13_9, t22_43] L_3) (
 (law08_Event_try_zt18 t13_9 j_32 t1_2 t18_14 L_3))
def law08_Event_try_w (t0 : AV) (L : SH) (Q : AV → SH → Prop) : Prop :=
 W.box t0 L fun t1_0 L_1 =>
 W.frz1 t1_0 L_1 fun t1_2 L_3 =>
 W.faddr 1 t1_2 fun t8_4 =>
 W.load false 1 t8_4 L_3 fun t9_5 =>
 W.conv .u8 t9_5 fun t10_6 =>
 W.conv .i64 t10_6 fun t11_7 =>
 W.bin Try.prog Fl .rem 3 t11_7 (.int .i64 23) fun t12_8 =>
 W.bin Try.prog Fl .add 3 t12_8 (.int .i64 1) fun t13_9 =>
 W.faddr 2 t1_2 fun t14_10 =>
 W.load false 1 t14_10 L_3 fun t15_11 =>
 W.conv .u8 t15_11 fun t16_12 =>
 W.conv .i64 t16_12 fun t17_13 =>
 W.bin Try.prog Fl .rem 3 t17_13 (.int .i64 3) fun t18_14 =>
 W.join (law08_Event_try_j0 Q) fun j_16 =>
 W.join (law08_Event_try_j1 j_16) fun j_32 =>
 W.bin Try.prog Fl .eql 3 t13_9 (.int .i64 1) fun t21_42 =>
 W.cond t21_42 (
 j_32 [t1_2, t13_9, t18_14, t13_9, t21_42] L_3) (
 (law08_Event_try_zt19 t13_9 j_32 t1_2 t18_14 L_3))
theorem law08_Event_try_e (t0 : AV) (L : SH) (Q : AV → SH → Prop) : W.func Try.prog Fl law08_Event_try_t Try.f28 (Try.f28.body.getD .skip) [t0] L Q = law08_Event_try_w t0 L Q := by kernel_rfl
theorem law08_Event_try_ok (t0 : AV) (L : SH) (Q : AV → SH → Prop) (h : law08_Event_try_w t0 L Q) : CallA Try.prog 28 [t0] L Q :=
  func_sound (ht := law08_Event_try_t) fit Try.func28 (show Try.f28.body = some (Try.f28.body.getD .skip) by kernel_rfl) (Eq.mpr (law08_Event_try_e t0 L Q) h)

end Go.Proofs.Ytadjimfkfmojkaa.Am

end
section
namespace Go.Proofs.Ytadjimfkfmojkaa.Am
set_option linter.unusedVariables false
/-- a block that may not be there yet is given up -/
inductive DelO (o : Option Nat) (n : Nat) (rows : List (List AV)) : SH → SH → Prop where
  | here (R : SH) : DelO o n rows (slotB o n rows ++ R) R
  | last : DelO o n rows (slotB o n rows) []
  | there (p : Nat × Blk) {L L' : SH} : DelO o n rows L L' → DelO o n rows (p :: L) (p :: L')
  | skip (o2 : Option Nat) (n2 : Nat) (rows2 : List (List AV)) {L L' : SH} : DelO o n rows L L' → DelO o n rows (slotB o2 n2 rows2 ++ L) (slotB o2 n2 rows2 ++ L')
theorem DelO.some' {b n : Nat} {rows : List (List AV)} {L L' : SH} (h : DelO (some b) n rows L L') : Del b ⟨n, rows⟩ L L' := by
  induction h with
  | here R => exact .here R
  | last => exact .here []
  | there p h ih => exact .there p ih
  | skip o2 n2 rows2 h ih => exact ih.app _
theorem DelO.none' {n : Nat} {rows : List (List AV)} {L L' : SH} (h : DelO none n rows L L') : L = L' := by
  induction h with
  | here R => rfl
  | last => rfl
  | there p h ih => rw [ih]
  | skip o2 n2 rows2 h ih => rw [ih]
theorem DelO.perm {o : Option Nat} {n : Nat} {rows : List (List AV)} {L L' : SH} (h : DelO o n rows L L') : L.Perm (slotB o n rows ++ L') := by
  cases o with
  | none => rw [h.none']; exact .refl _
  | some b => exact h.some'.perm
section
variable {KL : AV → SH → Prop} {L L' : SH}
/-- some blocks are kept, in an order of one's own -/
inductive Pick : SH → SH → Prop where
  | nil (L : SH) : Pick L []
  | one {b : Nat} {x : Blk} {L L' R : SH} : Del b x L L' → Pick L' R → Pick L ((b, x) :: R)
  | slot {o : Option Nat} {n : Nat} {rows : List (List AV)} {L L' R : SH} : DelO o n rows L L' → Pick L' R → Pick L (slotB o n rows ++ R)
  | slotl {o : Option Nat} {n : Nat} {rows : List (List AV)} {L L' : SH} : DelO o n rows L L' → Pick L (slotB o n rows)
theorem Pick.perm {L R : SH} (h : Pick L R) : ∃ K, L.Perm (K ++ R) := by
  induction h with
  | nil L => exact ⟨L, by simp⟩
  | one hd hp ih =>
    obtain ⟨K, hK⟩ := ih
    exact ⟨K, (hd.perm.trans ((hK.cons _).trans List.perm_middle.symm))⟩
  | slot hd hp ih =>
    obtain ⟨K, hK⟩ := ih
    refine ⟨K, hd.perm.trans ((hK.append_left _).trans ?_)⟩
    rw [← List.append_assoc, ← List.append_assoc]
    exact List.perm_append_comm.append_right _
  | slotl hd => exact ⟨_, hd.perm.trans List.perm_append_comm⟩
theorem FzS.pick {vs vs2 : List AV} {R : SH} (h : Pick L R) (hv : vs = vs2) : FzS vs L vs2 R := by
  subst hv
  obtain ⟨K, hK⟩ := h.perm
  exact FzS.forget hK
end
end Go.Proofs.Ytadjimfkfmojkaa.Am

end
section
namespace Go.Proofs.Ytadjimfkfmojkaa.Am
set_option maxRecDepth 100000
set_option linter.unusedSimpArgs false
set_option linter.unusedVariables false
theorem world_ok : PureA Try.prog 24 [] (.agg W0.enc) := by
  refine CallA.fz (law08_world_ok _ _ ?_)
  unfold law08_world_w
  repeat' (first | (refine h_load1 ?_; first | refine b_load_q ?_ | refine b_load_i ?_ | refine b_load_p ?_) | (refine h_faddr ?_; first | refine a_faddr_q ?_ | refine a_faddr_p ?_) | (refine h_bin ?_; first | refine a_eql ?_ | refine a_lss ?_ | refine a_neq ?_ | refine a_geq ?_ | refine a_gtr ?_ | refine a_leq ?_ | refine a_add ?_ | refine a_sub ?_ | refine a_mul ?_ | refine a_eqs ?_ | refine a_nes ?_ | refine b_rem ?_ | refine b_quo ?_) | (refine h_cond ?_; first | refine b_cond_t ?_ | refine b_cond_f ?_ | refine a_cond (fun h => ?_) (fun h => ?_)) | (refine h_idx ?_; first | refine b_idx_n ?_ | refine b_idx_l ?_ | refine b_idx_i ?_ | refine b_idx_sn ?_ | refine b_idx_s ?_) | (refine h_row ?_; first | refine b_row_q ?_ | refine b_row_i ?_ | refine b_row_p ?_) | (refine h_len ?_; first | refine a_len_m ?_ | refine a_len_l ?_ | refine a_len_s ?_ | refine a_len_n ?_ | refine a_len_e ?_) | (refine h_ext ?_; first | refine b_ext ?_) | (refine h_calm ?_; first | refine b_calm ?_) | (refine h_note ?_; first | refine a_note ?_) | (refine h_pick ?_; first | refine b_pick_t ?_ | refine b_pick_f ?_) | (refine h_grd ?_; first | refine b_grd_y ?_ | refine b_grd_n ?_ | refine a_grd_u ?_ | refine a_grd_t (fun h => ?_) (fun h => ?_) | refine a_grd_f (fun h => ?_) (fun h => ?_)) | (refine h_dgrd ?_; first | refine b_dgrd_y ?_ | refine b_dgrd_n ?_ | refine a_dgrd_u ?_ | refine a_dgrd_t (fun h => ?_) (fun h => ?_) | refine a_dgrd_f (fun h => ?_) (fun h => ?_)) | (refine h_nilchk ?_; first | refine a_nil_p ?_ | refine a_nil_q ?_ | refine a_nil_f ?_) | refine a_mark ?_ | refine a_dmark ?_ | (refine h_un ?_; first | refine a_not ?_ | refine a_neg ?_) | (refine h_box ?_; first | refine b_box (fun nb_ hnb_ => ?_)) | (refine h_frz1 ?_; first | refine b_frz_p ?_ | refine b_frz_s ?_) | (refine h_store ?_; first | refine b_store_box ?_ | refine b_store_one ?_ | refine b_store_row ?_) | (refine h_idxP ?_; first | refine b_idxP_p ?_ | refine b_idxP_q ?_) | (refine h_mslice ?_; first | refine b_mslice (fun nb_ hnb_ => ?_)) | (refine h_bslice ?_; first | refine b_bslice (fun nb_ hnb_ => ?_)) | refine a_conv ?_ | refine a_convS ?_ | refine a_alloc (fun nb_ hnb_ => ?_) | refine b_build ?_ | refine b_fld ?_ | refine a_join ?_ | refine a_lenS ?_ | refine a_tt ?_)
  exact ⟨_, [], FzS.all (Fz.aggs (.cons (Fz.sls (l := W0.cells) (f := CellD.enc) (by repeat constructor) rfl (by decide) rfl) (.cons (Fz.sls (l := W0.locks) (f := LockI.enc) (by repeat constructor) rfl (by decide) rfl) (.cons (Fz.sls (l := W0.conds) (f := CondI.enc) (by repeat constructor) rfl (by decide) rfl) (.cons (Fz.sls (l := W0.futures) (f := strE) (by repeat constructor) rfl (by decide) rfl) (.cons (Fz.sls (l := W0.threads) (f := strE) (by repeat constructor) rfl (by decide) rfl) (.cons .nils .nil))))))), rfl, rfl⟩
structure EvD where
  thread : Int
  kind : Int
  obj : Int
  wake : Int
def EvD.enc (e : EvD) : List AV := [.int .i8 e.thread, .int .i8 e.kind, .int .i8 e.obj, .int .i8 e.wake]
theorem try_ok (e : EvD) : CallA Try.prog 28 [.agg e.enc] [] fun v L => ∃ t k o wake : Int, v = .tup [.int .i64 t, .int .i64 k, .int .i64 o, .int .i64 wake] ∧ L = [] := by
  refine law08_Event_try_ok _ _ _ ?_
  unfold law08_Event_try_w
  generalize hQ : (fun (v : AV) (L : SH) => ∃ t k o wake : Int, v = .tup [.int .i64 t, .int .i64 k, .int .i64 o, .int .i64 wake] ∧ L = []) = Q
  have hj : ∀ k o : Int, law08_Event_try_j0 Q [.pptr [e.enc] 0 0, .int .i64 k, .int .i64 o] [] := fun k o => by
    unfold law08_Event_try_j0
    repeat' (first | (refine h_load1 ?_; first | refine b_load_q ?_ | refine b_load_i ?_ | refine b_load_p ?_) | (refine h_faddr ?_; first | refine a_faddr_q ?_ | refine a_faddr_p ?_) | (refine h_bin ?_; first | refine a_eql ?_ | refine a_lss ?_ | refine a_neq ?_ | refine a_geq ?_ | refine a_gtr ?_ | refine a_leq ?_ | refine a_add ?_ | refine a_sub ?_ | refine a_mul ?_ | refine a_eqs ?_ | refine a_nes ?_ | refine b_rem ?_ | refine b_quo ?_) | (refine h_cond ?_; first | refine b_cond_t ?_ | refine b_cond_f ?_ | refine a_cond (fun h => ?_) (fun h => ?_)) | (refine h_idx ?_; first | refine b_idx_n ?_ | refine b_idx_l ?_ | refine b_idx_i ?_ | refine b_idx_sn ?_ | refine b_idx_s ?_) | (refine h_row ?_; first | refine b_row_q ?_ | refine b_row_i ?_ | refine b_row_p ?_) | (refine h_len ?_; first | refine a_len_m ?_ | refine a_len_l ?_ | refine a_len_s ?_ | refine a_len_n ?_ | refine a_len_e ?_) | (refine h_ext ?_; first | refine b_ext ?_) | (refine h_calm ?_; first | refine b_calm ?_) | (refine h_note ?_; first | refine a_note ?_) | (refine h_pick ?_; first | refine b_pick_t ?_ | refine b_pick_f ?_) | (refine h_grd ?_; first | refine b_grd_y ?_ | refine b_grd_n ?_ | refine a_grd_u ?_ | refine a_grd_t (fun h => ?_) (fun h => ?_) | refine a_grd_f (fun h => ?_) (fun h => ?_)) | (refine h_dgrd ?_; first | refine b_dgrd_y ?_ | refine b_dgrd_n ?_ | refine a_dgrd_u ?_ | refine a_dgrd_t (fun h => ?_) (fun h => ?_) | refine a_dgrd_f (fun h => ?_) (fun h => ?_)) | (refine h_nilchk ?_; first | refine a_nil_p ?_ | refine a_nil_q ?_ | refine a_nil_f ?_) | refine a_mark ?_ | refine a_dmark ?_ | (refine h_un ?_; first | refine a_not ?_ | refine a_neg ?_) | (refine h_box ?_; first | refine b_box (fun nb_ hnb_ => ?_)) | (refine h_frz1 ?_; first | refine b_frz_p ?_ | refine b_frz_s ?_) | (refine h_store ?_; first | refine b_store_box ?_ | refine b_store_one ?_ | refine b_store_row ?_) | (refine h_idxP ?_; first | refine b_idxP_p ?_ | refine b_idxP_q ?_) | (refine h_mslice ?_; first | refine b_mslice (fun nb_ hnb_ => ?_)) | (refine h_bslice ?_; first | refine b_bslice (fun nb_ hnb_ => ?_)) | refine a_conv ?_ | refine a_convS ?_ | refine a_alloc (fun nb_ hnb_ => ?_) | refine b_build ?_ | refine b_fld ?_ | refine a_join ?_ | refine a_lenS ?_ | refine a_tt ?_)
    subst hQ
    exact ⟨_, _, _, _, rfl, rfl⟩
  have hj1 : ∀ (k o : Int) (b : Bool), law08_Event_try_j1 (law08_Event_try_j0 Q) [.pptr [e.enc] 0 0, .int .i64 k, .int .i64 o, .int .i64 k, .bool b] [] := fun k o b => by
    unfold law08_Event_try_j1
    repeat' (first | exact hj _ _ | (refine h_load1 ?_; first | refine b_load_q ?_ | refine b_load_i ?_ | refine b_load_p ?_) | (refine h_faddr ?_; first | refine a_faddr_q ?_ | refine a_faddr_p ?_) | (refine h_bin ?_; first | refine a_eql ?_ | refine a_lss ?_ | refine a_neq ?_ | refine a_geq ?_ | refine a_gtr ?_ | refine a_leq ?_ | refine a_add ?_ | refine a_sub ?_ | refine a_mul ?_ | refine a_eqs ?_ | refine a_nes ?_ | refine b_rem ?_ | refine b_quo ?_) | (refine h_cond ?_; first | refine b_cond_t ?_ | refine b_cond_f ?_ | refine a_cond (fun h => ?_) (fun h => ?_)) | (refine h_idx ?_; first | refine b_idx_n ?_ | refine b_idx_l ?_ | refine b_idx_i ?_ | refine b_idx_sn ?_ | refine b_idx_s ?_) | (refine h_row ?_; first | refine b_row_q ?_ | refine b_row_i ?_ | refine b_row_p ?_) | (refine h_len ?_; first | refine a_len_m ?_ | refine a_len_l ?_ | refine a_len_s ?_ | refine a_len_n ?_ | refine a_len_e ?_) | (refine h_ext ?_; first | refine b_ext ?_) | (refine h_calm ?_; first | refine b_calm ?_) | (refine h_note ?_; first | refine a_note ?_) | (refine h_pick ?_; first | refine b_pick_t ?_ | refine b_pick_f ?_) | (refine h_grd ?_; first | refine b_grd_y ?_ | refine b_grd_n ?_ | refine a_grd_u ?_ | refine a_grd_t (fun h => ?_) (fun h => ?_) | refine a_grd_f (fun h => ?_) (fun h => ?_)) | (refine h_dgrd ?_; first | refine b_dgrd_y ?_ | refine b_dgrd_n ?_ | refine a_dgrd_u ?_ | refine a_dgrd_t (fun h => ?_) (fun h => ?_) | refine a_dgrd_f (fun h => ?_) (fun h => ?_)) | (refine h_nilchk ?_; first | refine a_nil_p ?_ | refine a_nil_q ?_ | refine a_nil_f ?_) | refine a_mark ?_ | refine a_dmark ?_ | (refine h_un ?_; first | refine a_not ?_ | refine a_neg ?_) | (refine h_box ?_; first | refine b_box (fun nb_ hnb_ => ?_)) | (refine h_frz1 ?_; first | refine b_frz_p ?_ | refine b_frz_s ?_) | (refine h_store ?_; first | refine b_store_box ?_ | refine b_store_one ?_ | refine b_store_row ?_) | (refine h_idxP ?_; first | refine b_idxP_p ?_ | refine b_idxP_q ?_) | (refine h_mslice ?_; first | refine b_mslice (fun nb_ hnb_ => ?_)) | (refine h_bslice ?_; first | refine b_bslice (fun nb_ hnb_ => ?_)) | refine a_conv ?_ | refine a_convS ?_ | refine a_alloc (fun nb_ hnb_ => ?_) | refine b_build ?_ | refine b_fld ?_ | refine a_join ?_ | refine a_lenS ?_ | refine a_tt ?_)
  repeat' (first | exact hj _ _ | exact hj1 _ _ _ | (refine h_load1 ?_; first | refine b_load_q ?_ | refine b_load_i ?_ | refine b_load_p ?_) | (refine h_faddr ?_; first | refine a_faddr_q ?_ | refine a_faddr_p ?_) | (refine h_bin ?_; first | refine a_eql ?_ | refine a_lss ?_ | refine a_neq ?_ | refine a_geq ?_ | refine a_gtr ?_ | refine a_leq ?_ | refine a_add ?_ | refine a_sub ?_ | refine a_mul ?_ | refine a_eqs ?_ | refine a_nes ?_ | refine b_rem ?_ | refine b_quo ?_) | (refine h_cond ?_; first | refine b_cond_t ?_ | refine b_cond_f ?_ | refine a_cond (fun h => ?_) (fun h => ?_)) | (refine h_idx ?_; first | refine b_idx_n ?_ | refine b_idx_l ?_ | refine b_idx_i ?_ | refine b_idx_sn ?_ | refine b_idx_s ?_) | (refine h_row ?_; first | refine b_row_q ?_ | refine b_row_i ?_ | refine b_row_p ?_) | (refine h_len ?_; first | refine a_len_m ?_ | refine a_len_l ?_ | refine a_len_s ?_ | refine a_len_n ?_ | refine a_len_e ?_) | (refine h_ext ?_; first | refine b_ext ?_) | (refine h_calm ?_; first | refine b_calm ?_) | (refine h_note ?_; first | refine a_note ?_) | (refine h_pick ?_; first | refine b_pick_t ?_ | refine b_pick_f ?_) | (refine h_grd ?_; first | refine b_grd_y ?_ | refine b_grd_n ?_ | refine a_grd_u ?_ | refine a_grd_t (fun h => ?_) (fun h => ?_) | refine a_grd_f (fun h => ?_) (fun h => ?_)) | (refine h_dgrd ?_; first | refine b_dgrd_y ?_ | refine b_dgrd_n ?_ | refine a_dgrd_u ?_ | refine a_dgrd_t (fun h => ?_) (fun h => ?_) | refine a_dgrd_f (fun h => ?_) (fun h => ?_)) | (refine h_nilchk ?_; first | refine a_nil_p ?_ | refine a_nil_q ?_ | refine a_nil_f ?_) | refine a_mark ?_ | refine a_dmark ?_ | (refine h_un ?_; first | refine a_not ?_ | refine a_neg ?_) | (refine h_box ?_; first | refine b_box (fun nb_ hnb_ => ?_)) | (refine h_frz1 ?_; first | refine b_frz_p ?_ | refine b_frz_s ?_) | (refine h_store ?_; first | refine b_store_box ?_ | refine b_store_one ?_ | refine b_store_row ?_) | (refine h_idxP ?_; first | refine b_idxP_p ?_ | refine b_idxP_q ?_) | (refine h_mslice ?_; first | refine b_mslice (fun nb_ hnb_ => ?_)) | (refine h_bslice ?_; first | refine b_bslice (fun nb_ hnb_ => ?_)) | refine a_conv ?_ | refine a_convS ?_ | refine a_alloc (fun nb_ hnb_ => ?_) | refine b_build ?_ | refine b_fld ?_ | refine a_join ?_ | refine a_lenS ?_ | refine a_tt ?_)
theorem reach_ok (J : SyncD → Prop) (hsm : ∀ s, J s → Small W0 s) (h0 : J (startS W0)) (hst : ∀ s t k o wake, J s → enabledS W0 s t k o = true → J (applyS W0 s t k o wake).1) (l : List EvD) (hl : l.length ≤ 200) :
    CallA Try.prog 25 [.agg W0.enc, .lst (l.map EvD.enc)] [] fun v L => ∃ s, v = .agg s.enc ∧ J s ∧ L = [] := by
  refine CallA.fz (law08_reach_ok _ _ _ _ ?_)
  unfold law08_reach_w
  generalize hQ : (fun (v : AV) (L : SH) => ∃ v2 L2, FzS [v] L [v2] L2 ∧ ∃ s, v2 = .agg s.enc ∧ J s ∧ L2 = []) = Q
  have hs := start_ok W0 (by decide) (by decide) (by decide)
  repeat' (first | (refine h_load1 ?_; first | refine b_load_q ?_ | refine b_load_i ?_ | refine b_load_p ?_) | (refine h_faddr ?_; first | refine a_faddr_q ?_ | refine a_faddr_p ?_) | (refine h_bin ?_; first | refine a_eql ?_ | refine a_lss ?_ | refine a_neq ?_ | refine a_geq ?_ | refine a_gtr ?_ | refine a_leq ?_ | refine a_add ?_ | refine a_sub ?_ | refine a_mul ?_ | refine a_eqs ?_ | refine a_nes ?_ | refine b_rem ?_ | refine b_quo ?_) | (refine h_cond ?_; first | refine b_cond_t ?_ | refine b_cond_f ?_ | refine a_cond (fun h => ?_) (fun h => ?_)) | (refine h_idx ?_; first | refine b_idx_n ?_ | refine b_idx_l ?_ | refine b_idx_i ?_ | refine b_idx_sn ?_ | refine b_idx_s ?_) | (refine h_row ?_; first | refine b_row_q ?_ | refine b_row_i ?_ | refine b_row_p ?_) | (refine h_len ?_; first | refine a_len_m ?_ | refine a_len_l ?_ | refine a_len_s ?_ | refine a_len_n ?_ | refine a_len_e ?_) | (refine h_ext ?_; first | refine b_ext ?_) | (refine h_calm ?_; first | refine b_calm ?_) | (refine h_note ?_; first | refine a_note ?_) | (refine h_pick ?_; first | refine b_pick_t ?_ | refine b_pick_f ?_) | (refine h_grd ?_; first | refine b_grd_y ?_ | refine b_grd_n ?_ | refine a_grd_u ?_ | refine a_grd_t (fun h => ?_) (fun h => ?_) | refine a_grd_f (fun h => ?_) (fun h => ?_)) | (refine h_dgrd ?_; first | refine b_dgrd_y ?_ | refine b_dgrd_n ?_ | refine a_dgrd_u ?_ | refine a_dgrd_t (fun h => ?_) (fun h => ?_) | refine a_dgrd_f (fun h => ?_) (fun h => ?_)) | (refine h_nilchk ?_; first | refine a_nil_p ?_ | refine a_nil_q ?_ | refine a_nil_f ?_) | refine a_mark ?_ | refine a_dmark ?_ | ((with_reducible refine h_fn 21 ?_); refine m_call (hs) ?_) | ((with_reducible refine h_dfn 21 ?_); refine b_dcall (hs) ?_) | (refine h_un ?_; first | refine a_not ?_ | refine a_neg ?_) | (refine h_box ?_; first | refine b_box (fun nb_ hnb_ => ?_)) | (refine h_frz1 ?_; first | refine b_frz_p ?_ | refine b_frz_s ?_) | (refine h_store ?_; first | refine b_store_box ?_ | refine b_store_one ?_ | refine b_store_row ?_) | (refine h_idxP ?_; first | refine b_idxP_p ?_ | refine b_idxP_q ?_) | (refine h_mslice ?_; first | refine b_mslice (fun nb_ hnb_ => ?_)) | (refine h_bslice ?_; first | refine b_bslice (fun nb_ hnb_ => ?_)) | refine a_conv ?_ | refine a_convS ?_ | refine a_alloc (fun nb_ hnb_ => ?_) | refine b_build ?_ | refine b_fld ?_ | refine a_join ?_ | refine a_lenS ?_ | refine a_tt ?_)
  rename_i b4 _
  revert nb_
  intro b5 _
  refine loop_ex l.length (fun i (s : SyncD) => ([.lst (l.map EvD.enc), .pptr [W0.enc] 0 0, .ptr b4 0 0, .ptr b5 0 0, .int .i64 i], [(b5, ⟨4, [s.enc]⟩), (b4, ⟨4, [[.nils, .int .i64 0, .nils, .nils]]⟩)])) (fun _ s => J s) (startS W0) h0 (fzs_eq rfl rfl) ?_
  intro i s hi hJ
  dsimp only
  unfold law08_reach_l2
  rcases Nat.lt_or_ge i l.length with g1 | g1
  · have hd := dec_lt g1
    have hx := map_at (f := EvD.enc) g1
    have hap := fun t k o wake => apply_ok W0 s t k o wake (hsm s hJ)
    have htry := try_ok l[i]
    repeat' (first | (refine h_load1 ?_; first | refine b_load_q ?_ | refine b_load_i ?_ | refine b_load_p ?_) | (refine h_faddr ?_; first | refine a_faddr_q ?_ | refine a_faddr_p ?_) | (refine h_bin ?_; first | refine a_eql ?_ | refine a_lss ?_ | refine a_neq ?_ | refine a_geq ?_ | refine a_gtr ?_ | refine a_leq ?_ | refine a_add ?_ | refine a_sub ?_ | refine a_mul ?_ | refine a_eqs ?_ | refine a_nes ?_ | refine b_rem ?_ | refine b_quo ?_) | (refine h_cond ?_; first | refine b_cond_t ?_ | refine b_cond_f ?_ | refine a_cond (fun h => ?_) (fun h => ?_)) | (refine h_idx ?_; first | refine b_idx_n ?_ | refine b_idx_l ?_ | refine b_idx_i ?_ | refine b_idx_sn ?_ | refine b_idx_s ?_) | (refine h_row ?_; first | refine b_row_q ?_ | refine b_row_i ?_ | refine b_row_p ?_) | (refine h_len ?_; first | refine a_len_m ?_ | refine a_len_l ?_ | refine a_len_s ?_ | refine a_len_n ?_ | refine a_len_e ?_) | (refine h_ext ?_; first | refine b_ext ?_) | (refine h_calm ?_; first | refine b_calm ?_) | (refine h_note ?_; first | refine a_note ?_) | (refine h_pick ?_; first | refine b_pick_t ?_ | refine b_pick_f ?_) | (refine h_grd ?_; first | refine b_grd_y ?_ | refine b_grd_n ?_ | refine a_grd_u ?_ | refine a_grd_t (fun h => ?_) (fun h => ?_) | refine a_grd_f (fun h => ?_) (fun h => ?_)) | (refine h_dgrd ?_; first | refine b_dgrd_y ?_ | refine b_dgrd_n ?_ | refine a_dgrd_u ?_ | refine a_dgrd_t (fun h => ?_) (fun h => ?_) | refine a_dgrd_f (fun h => ?_) (fun h => ?_)) | (refine h_nilchk ?_; first | refine a_nil_p ?_ | refine a_nil_q ?_ | refine a_nil_f ?_) | refine a_mark ?_ | refine a_dmark ?_ | ((with_reducible refine h_fn 28 ?_); (refine m_callF (K := []) htry (.refl _) ?_; rintro _ _ ⟨t, k, o, wake, rfl, rfl⟩)) | (refine h_un ?_; first | refine a_not ?_ | refine a_neg ?_) | (refine h_box ?_; first | refine b_box (fun nb_ hnb_ => ?_)) | (refine h_frz1 ?_; first | refine b_frz_p ?_ | refine b_frz_s ?_) | (refine h_store ?_; first | refine b_store_box ?_ | refine b_store_one ?_ | refine b_store_row ?_) | (refine h_idxP ?_; first | refine b_idxP_p ?_ | refine b_idxP_q ?_) | (refine h_mslice ?_; first | refine b_mslice (fun nb_ hnb_ => ?_)) | (refine h_bslice ?_; first | refine b_bslice (fun nb_ hnb_ => ?_)) | refine a_conv ?_ | refine a_convS ?_ | refine a_alloc (fun nb_ hnb_ => ?_) | refine b_build ?_ | refine b_fld ?_ | refine a_join ?_ | refine a_lenS ?_ | refine a_tt ?_)
    refine m_call (hap t k o wake) ?_
    cases hen : enabledS W0 s t k o with
    | false =>
      have e : resS W0 s t k o wake = (zeroS, 0, false) := by unfold resS; rw [hen]; rfl
      rw [e]
      unfold law08_reach_c0
      repeat' (first | (refine h_load1 ?_; first | refine b_load_q ?_ | refine b_load_i ?_ | refine b_load_p ?_) | (refine h_faddr ?_; first | refine a_faddr_q ?_ | refine a_faddr_p ?_) | (refine h_bin ?_; first | refine a_eql ?_ | refine a_lss ?_ | refine a_neq ?_ | refine a_geq ?_ | refine a_gtr ?_ | refine a_leq ?_ | refine a_add ?_ | refine a_sub ?_ | refine a_mul ?_ | refine a_eqs ?_ | refine a_nes ?_ | refine b_rem ?_ | refine b_quo ?_) | (refine h_cond ?_; first | refine b_cond_t ?_ | refine b_cond_f ?_ | refine a_cond (fun h => ?_) (fun h => ?_)) | (refine h_idx ?_; first | refine b_idx_n ?_ | refine b_idx_l ?_ | refine b_idx_i ?_ | refine b_idx_sn ?_ | refine b_idx_s ?_) | (refine h_row ?_; first | refine b_row_q ?_ | refine b_row_i ?_ | refine b_row_p ?_) | (refine h_len ?_; first | refine a_len_m ?_ | refine a_len_l ?_ | refine a_len_s ?_ | refine a_len_n ?_ | refine a_len_e ?_) | (refine h_ext ?_; first | refine b_ext ?_) | (refine h_calm ?_; first | refine b_calm ?_) | (refine h_note ?_; first | refine a_note ?_) | (refine h_pick ?_; first | refine b_pick_t ?_ | refine b_pick_f ?_) | (refine h_grd ?_; first | refine b_grd_y ?_ | refine b_grd_n ?_ | refine a_grd_u ?_ | refine a_grd_t (fun h => ?_) (fun h => ?_) | refine a_grd_f (fun h => ?_) (fun h => ?_)) | (refine h_dgrd ?_; first | refine b_dgrd_y ?_ | refine b_dgrd_n ?_ | refine a_dgrd_u ?_ | refine a_dgrd_t (fun h => ?_) (fun h => ?_) | refine a_dgrd_f (fun h => ?_) (fun h => ?_)) | (refine h_nilchk ?_; first | refine a_nil_p ?_ | refine a_nil_q ?_ | refine a_nil_f ?_) | refine a_mark ?_ | refine a_dmark ?_ | (refine h_un ?_; first | refine a_not ?_ | refine a_neg ?_) | (refine h_box ?_; first | refine b_box (fun nb_ hnb_ => ?_)) | (refine h_frz1 ?_; first | refine b_frz_p ?_ | refine b_frz_s ?_) | (refine h_store ?_; first | refine b_store_box ?_ | refine b_store_one ?_ | refine b_store_row ?_) | (refine h_idxP ?_; first | refine b_idxP_p ?_ | refine b_idxP_q ?_) | (refine h_mslice ?_; first | refine b_mslice (fun nb_ hnb_ => ?_)) | (refine h_bslice ?_; first | refine b_bslice (fun nb_ hnb_ => ?_)) | refine a_conv ?_ | refine a_convS ?_ | refine a_alloc (fun nb_ hnb_ => ?_) | refine b_build ?_ | refine b_fld ?_ | refine a_join ?_ | refine a_lenS ?_ | refine a_tt ?_)
      exact ⟨i + 1, s, by omega, by omega, hJ, FzS.pick (by repeat constructor) (by rw [i64_succ g1 (by omega)]; rfl)⟩
    | true =>
      have e : resS W0 s t k o wake = ((applyS W0 s t k o wake).1, (applyS W0 s t k o wake).2, true) := by unfold resS; rw [hen]; rfl
      have hJ' := hst s t k o wake hJ hen
      rw [e]
      generalize (applyS W0 s t k o wake).1 = s' at *
      generalize (applyS W0 s t k o wake).2 = v' at *
      unfold law08_reach_c0
      repeat' (first | (refine h_load1 ?_; first | refine b_load_q ?_ | refine b_load_i ?_ | refine b_load_p ?_) | (refine h_faddr ?_; first | refine a_faddr_q ?_ | refine a_faddr_p ?_) | (refine h_bin ?_; first | refine a_eql ?_ | refine a_lss ?_ | refine a_neq ?_ | refine a_geq ?_ | refine a_gtr ?_ | refine a_leq ?_ | refine a_add ?_ | refine a_sub ?_ | refine a_mul ?_ | refine a_eqs ?_ | refine a_nes ?_ | refine b_rem ?_ | refine b_quo ?_) | (refine h_cond ?_; first | refine b_cond_t ?_ | refine b_cond_f ?_ | refine a_cond (fun h => ?_) (fun h => ?_)) | (refine h_idx ?_; first | refine b_idx_n ?_ | refine b_idx_l ?_ | refine b_idx_i ?_ | refine b_idx_sn ?_ | refine b_idx_s ?_) | (refine h_row ?_; first | refine b_row_q ?_ | refine b_row_i ?_ | refine b_row_p ?_) | (refine h_len ?_; first | refine a_len_m ?_ | refine a_len_l ?_ | refine a_len_s ?_ | refine a_len_n ?_ | refine a_len_e ?_) | (refine h_ext ?_; first | refine b_ext ?_) | (refine h_calm ?_; first | refine b_calm ?_) | (refine h_note ?_; first | refine a_note ?_) | (refine h_pick ?_; first | refine b_pick_t ?_ | refine b_pick_f ?_) | (refine h_grd ?_; first | refine b_grd_y ?_ | refine b_grd_n ?_ | refine a_grd_u ?_ | refine a_grd_t (fun h => ?_) (fun h => ?_) | refine a_grd_f (fun h => ?_) (fun h => ?_)) | (refine h_dgrd ?_; first | refine b_dgrd_y ?_ | refine b_dgrd_n ?_ | refine a_dgrd_u ?_ | refine a_dgrd_t (fun h => ?_) (fun h => ?_) | refine a_dgrd_f (fun h => ?_) (fun h => ?_)) | (refine h_nilchk ?_; first | refine a_nil_p ?_ | refine a_nil_q ?_ | refine a_nil_f ?_) | refine a_mark ?_ | refine a_dmark ?_ | (refine h_un ?_; first | refine a_not ?_ | refine a_neg ?_) | (refine h_box ?_; first | refine b_box (fun nb_ hnb_ => ?_)) | (refine h_frz1 ?_; first | refine b_frz_p ?_ | refine b_frz_s ?_) | (refine h_store ?_; first | refine b_store_box ?_ | refine b_store_one ?_ | refine b_store_row ?_) | (refine h_idxP ?_; first | refine b_idxP_p ?_ | refine b_idxP_q ?_) | (refine h_mslice ?_; first | refine b_mslice (fun nb_ hnb_ => ?_)) | (refine h_bslice ?_; first | refine b_bslice (fun nb_ hnb_ => ?_)) | refine a_conv ?_ | refine a_convS ?_ | refine a_alloc (fun nb_ hnb_ => ?_) | refine b_build ?_ | refine b_fld ?_ | refine a_join ?_ | refine a_lenS ?_ | refine a_tt ?_)
      exact ⟨i + 1, s', by omega, by omega, hJ', FzS.pick (by repeat constructor) (by rw [i64_succ g1 (by omega)]; rfl)⟩
  · have hd := dec_ge g1
    repeat' (first | (refine h_load1 ?_; first | refine b_load_q ?_ | refine b_load_i ?_ | refine b_load_p ?_) | (refine h_faddr ?_; first | refine a_faddr_q ?_ | refine a_faddr_p ?_) | (refine h_bin ?_; first | refine a_eql ?_ | refine a_lss ?_ | refine a_neq ?_ | refine a_geq ?_ | refine a_gtr ?_ | refine a_leq ?_ | refine a_add ?_ | refine a_sub ?_ | refine a_mul ?_ | refine a_eqs ?_ | refine a_nes ?_ | refine b_rem ?_ | refine b_quo ?_) | (refine h_cond ?_; first | refine b_cond_t ?_ | refine b_cond_f ?_ | refine a_cond (fun h => ?_) (fun h => ?_)) | (refine h_idx ?_; first | refine b_idx_n ?_ | refine b_idx_l ?_ | refine b_idx_i ?_ | refine b_idx_sn ?_ | refine b_idx_s ?_) | (refine h_row ?_; first | refine b_row_q ?_ | refine b_row_i ?_ | refine b_row_p ?_) | (refine h_len ?_; first | refine a_len_m ?_ | refine a_len_l ?_ | refine a_len_s ?_ | refine a_len_n ?_ | refine a_len_e ?_) | (refine h_ext ?_; first | refine b_ext ?_) | (refine h_calm ?_; first | refine b_calm ?_) | (refine h_note ?_; first | refine a_note ?_) | (refine h_pick ?_; first | refine b_pick_t ?_ | refine b_pick_f ?_) | (refine h_grd ?_; first | refine b_grd_y ?_ | refine b_grd_n ?_ | refine a_grd_u ?_ | refine a_grd_t (fun h => ?_) (fun h => ?_) | refine a_grd_f (fun h => ?_) (fun h => ?_)) | (refine h_dgrd ?_; first | refine b_dgrd_y ?_ | refine b_dgrd_n ?_ | refine a_dgrd_u ?_ | refine a_dgrd_t (fun h => ?_) (fun h => ?_) | refine a_dgrd_f (fun h => ?_) (fun h => ?_)) | (refine h_nilchk ?_; first | refine a_nil_p ?_ | refine a_nil_q ?_ | refine a_nil_f ?_) | refine a_mark ?_ | refine a_dmark ?_ | (refine h_un ?_; first | refine a_not ?_ | refine a_neg ?_) | (refine h_box ?_; first | refine b_box (fun nb_ hnb_ => ?_)) | (refine h_frz1 ?_; first | refine b_frz_p ?_ | refine b_frz_s ?_) | (refine h_store ?_; first | refine b_store_box ?_ | refine b_store_one ?_ | refine b_store_row ?_) | (refine h_idxP ?_; first | refine b_idxP_p ?_ | refine b_idxP_q ?_) | (refine h_mslice ?_; first | refine b_mslice (fun nb_ hnb_ => ?_)) | (refine h_bslice ?_; first | refine b_bslice (fun nb_ hnb_ => ?_)) | refine a_conv ?_ | refine a_convS ?_ | refine a_alloc (fun nb_ hnb_ => ?_) | refine b_build ?_ | refine b_fld ?_ | refine a_join ?_ | refine a_lenS ?_ | refine a_tt ?_)
    subst hQ
    exact ⟨_, [], FzS.all (.refl _), s, rfl, hJ, rfl⟩
end Go.Proofs.Ytadjimfkfmojkaa.Am

end
section
namespace Go.Proofs.Ytadjimfkfmojkaa.Am
set_option maxRecDepth 100000
set_option linter.unusedSimpArgs false
set_option linter.unusedVariables false
section
variable {w : WorldD} {s : SyncD} {t o : Int}
theorem lockAt_set {f : LockD → LockD} (h : inB o s.locks.length = true) {tx : Int} {d : List Bool} {th : List ThrD} : lockAt ⟨setLock s o f, tx, d, th⟩ o = f (lockAt s o) := by
  obtain ⟨o0, o1⟩ := inB_iff.1 h
  have hlt : o.toNat < s.locks.length := by omega
  unfold lockAt setLock
  simp [List.getD, hlt, lockAt]
theorem lockAt_ne {p : Int} {f : LockD → LockD} (h : o.toNat ≠ p.toNat) {tx : Int} {d : List Bool} {th : List ThrD} : lockAt ⟨setLock s o f, tx, d, th⟩ p = lockAt s p := by
  unfold lockAt setLock
  simp [List.getD, List.getElem?_set_ne h]
theorem setLock_twice {f g : LockD → LockD} (h : inB o s.locks.length = true) {tx : Int} {d : List Bool} {th : List ThrD} : setLock ⟨setLock s o f, tx, d, th⟩ o g = setLock s o (fun x => g (f x)) := by
  have e := lockAt_set (s := s) (f := f) h (tx := tx) (d := d) (th := th)
  unfold setLock at e ⊢
  rw [e]
  simp
theorem setLock_same {f : LockD → LockD} (h : inB o s.locks.length = true) (hf : f (lockAt s o) = lockAt s o) : setLock s o f = s.locks := by
  obtain ⟨o0, o1⟩ := inB_iff.1 h
  have hlt : o.toNat < s.locks.length := by omega
  unfold setLock
  rw [hf]
  unfold lockAt
  rw [show s.locks.getD o.toNat default = s.locks[o.toNat] by simp [hlt]]
  simp
theorem setLock_comm {p : Int} {f g : LockD → LockD} (h : o.toNat ≠ p.toNat) {tx tx' : Int} {d d' : List Bool} {th th' : List ThrD} : setLock ⟨setLock s o f, tx, d, th⟩ p g = setLock ⟨setLock s p g, tx', d', th'⟩ o f := by
  have e1 := lockAt_ne (s := s) (f := f) h (tx := tx) (d := d) (th := th)
  have e2 := lockAt_ne (s := s) (o := p) (p := o) (f := g) (fun e => h e.symm) (tx := tx') (d := d') (th := th')
  unfold setLock at e1 e2 ⊢
  rw [e1, e2]
  exact List.set_comm _ _ h
theorem fits_eq {a : SyncD} (h1 : a.locks.length = s.locks.length) (h2 : a.done.length = s.done.length) (h3 : a.threads.length = s.threads.length) : fitsS w a = fitsS w s := by
  unfold fitsS; rw [h1, h2, h3]
theorem setLock_len {f : LockD → LockD} : (setLock s o f).length = s.locks.length := by simp [setLock]
end
/-- what a lock event of a running thread wants -/
theorem en_lock {w : WorldD} {s : SyncD} {t k o : Int} (hk : k = 6 ∨ k = 7 ∨ k = 8 ∨ k = 9 ∨ k = 10 ∨ k = 11) : enabledS w s t k o = true ↔ fitsS w s = true ∧ inB t w.threads.length = true ∧ allowedS w k o = true ∧ (thrAt s t).status = 2 ∧ readyS w s t k o = true := by
  unfold enabledS
  rw [if_neg (by omega), if_neg (by omega)]
  simp only [Bool.and_eq_true, decide_eq_true_eq]
  constructor
  · rintro ⟨⟨⟨a, b⟩, c⟩, d, e⟩; exact ⟨a, b, c, d, e⟩
  · rintro ⟨a, b, c, d, e⟩; exact ⟨⟨⟨a, b⟩, c⟩, d, e⟩
theorem al_lock {w : WorldD} {k o : Int} (hk : k = 6 ∨ k = 7 ∨ k = 8 ∨ k = 9 ∨ k = 10 ∨ k = 11) (h : allowedS w k o = true) : inB o w.locks.length = true := by
  rcases hk with rfl | rfl | rfl | rfl | rfl | rfl <;> (simp [allowedS] at h; exact h.1)
theorem readers_back {l : List Int} {t : Int} (h : l.Pairwise (· < ·)) (hn : l.contains t = false) : (addRd l t).filter (fun y => !decide (y = t)) = l := by
  refine asc_ext ((addRd_asc l t).filter _) h fun x => ?_
  rw [List.mem_filter, addRd_mem]
  have : x = t → x ∉ l := fun e hm => by subst e; simp at hn; exact hn hm
  constructor
  · rintro ⟨h1 | h1, h2⟩
    · exact h1
    · simp [h1] at h2
  · intro hx
    refine ⟨.inl hx, ?_⟩
    simp
    exact fun e => this e hx
/-- taking and giving back -/
theorem back {s : SyncD} (hs : OInv s) {t k j o wk : Int} (hk : (k = 6 ∧ j = 7) ∨ (k = 8 ∧ j = 9) ∨ (k = 10 ∧ j = 11)) (hen : enabledS W0 s t k o = true) :
    enabledS W0 (applyS W0 s t k o wk).1 t k o = false ∧ enabledS W0 (applyS W0 s t k o wk).1 t j o = true ∧ applyS W0 (applyS W0 s t k o wk).1 t j o wk = (s, 0) := by
  obtain ⟨h1, h2, h3, h4, h5⟩ := (en_lock (by omega)).1 hen
  have hl : inB o s.locks.length = true := by rw [(fitsS_iff.1 h1).locks]; exact al_lock (by omega) h3
  obtain ⟨t0, t1⟩ := inB_iff.1 h2
  have hrd := lock_rd hs o
  have hal : allowedS W0 j o = true := by
    rcases hk with ⟨rfl, rfl⟩ | ⟨rfl, rfl⟩ | ⟨rfl, rfl⟩ <;> exact h3
  have fin : ∀ f : LockD → LockD, (applyS W0 s t k o wk).1 = { s with locks := setLock s o f } → readyS W0 { s with locks := setLock s o f } t k o = false → readyS W0 { s with locks := setLock s o f } t j o = true → applyS W0 { s with locks := setLock s o f } t j o wk = (s, 0) →
      enabledS W0 (applyS W0 s t k o wk).1 t k o = false ∧ enabledS W0 (applyS W0 s t k o wk).1 t j o = true ∧ applyS W0 (applyS W0 s t k o wk).1 t j o wk = (s, 0) := fun f e r1 r2 r3 => by
    rw [e]
    have hft : fitsS W0 { s with locks := setLock s o f } = true := (fits_eq (w := W0) (s := s) (a := { s with locks := setLock s o f }) setLock_len rfl rfl).trans h1
    refine ⟨?_, (en_lock (by omega)).2 ⟨hft, h2, hal, h4, r2⟩, r3⟩
    cases hx : enabledS W0 { s with locks := setLock s o f } t k o with
    | false => rfl
    | true =>
      have := ((en_lock (by omega)).1 hx).2.2.2.2
      rw [r1] at this; cases this
  rcases hk with ⟨rfl, rfl⟩ | ⟨rfl, rfl⟩ | ⟨rfl, rfl⟩
  · have ho : (lockAt s o).owner = -1 := by simpa [readyS] using h5
    refine fin (fun x => { x with owner := t }) (by simp [applyS]) ?_ ?_ ?_
    · simp [readyS, lockAt_set hl]; omega
    · simp [readyS, lockAt_set hl]
    · simp only [applyS, Int.reduceEq, if_true, if_false, or_self, or_true, true_or, reduceIte]
      rw [setLock_twice hl, setLock_same hl (by rw [show ({ owner := -1, readers := (lockAt s o).readers } : LockD) = lockAt s o by rw [← ho]])]
  · have hn : (lockAt s o).readers.contains t = false := by simp [readyS] at h5; simpa using h5.2
    refine fin (fun x => { x with readers := addRd x.readers t }) (by simp [applyS]) ?_ ?_ ?_
    · have : t ∈ addRd (lockAt s o).readers t := (addRd_mem _ _ _).2 (.inr rfl)
      simp [readyS, lockAt_set hl, this]
    · have : t ∈ addRd (lockAt s o).readers t := (addRd_mem _ _ _).2 (.inr rfl)
      simp [readyS, lockAt_set hl, this]
    · simp only [applyS, Int.reduceEq, if_true, if_false, or_self, or_true, true_or, reduceIte]
      rw [setLock_twice hl, setLock_same hl (by dsimp only; rw [readers_back hrd.1 hn])]
  · have ho : (lockAt s o).owner = -1 := by simp [readyS] at h5; exact h5.1
    refine fin (fun x => { x with owner := t }) (by simp [applyS]) ?_ ?_ ?_
    · simp [readyS, lockAt_set hl]; omega
    · simp [readyS, lockAt_set hl]
    · simp only [applyS, Int.reduceEq, if_true, if_false, or_self, or_true, true_or, reduceIte]
      rw [setLock_twice hl, setLock_same hl (by rw [show ({ owner := -1, readers := (lockAt s o).readers } : LockD) = lockAt s o by rw [← ho]])]
end Go.Proofs.Ytadjimfkfmojkaa.Am

end
section
namespace Go.Proofs.Ytadjimfkfmojkaa.Am
set_option linter.unusedVariables false
theorem fit0 : Fit Try.prog (fun _ => none) := ⟨fun t ts h => (by cases h), fit.names, fit.order⟩
theorem closed_pure {f : FuncId} {n : Nat} (hrun : isTrue (callBy Try.prog (exec Try.prog (fun _ => none) n) f [] Heap.empty) = true) : PureA Try.prog f [] (.bool true) := by
  have hd := (goods checkedAll).2
  have hs := callBy_sound (P := Try.prog) hd (fun c τ H e τ' H' dr hx => exec_sound fit0 hd n c τ H e τ' H' dr hx)
  cases hc : callBy Try.prog (exec Try.prog (fun _ => none) n) f [] Heap.empty with
  | none => rw [hc] at hrun; cases hrun
  | some r =>
    obtain ⟨v, H'⟩ := r
    rw [hc] at hrun
    have hv : v = .bool true := by
      unfold isTrue at hrun
      split at hrun
      · rename_i heq; cases heq; rfl
      · cases hrun
    subst hv
    have hV : CallV Try.prog f [] (.bool true) := fun w σ vs hW hvs => (hs.ok _ _ _ _ _ hc w σ vs hW hvs).mono fun e w' ⟨v', σ', he, k1, k2, k3, k4⟩ => ⟨v', σ', H', he, k1, k3⟩
    exact ⟨hs.body _ _ _ _ _ hc, fun H hb hS => ⟨.bool true, H, [], lift (.bool true) (fun i a h => by simp at h) hV H, .refl hb hS, rfl, rfl⟩⟩
set_option maxRecDepth 1000000 in
theorem awake08 : PureA Try.prog 23 [] (.bool true) := closed_pure (n := 1000) (by kernel_rfl)
end Go.Proofs.Ytadjimfkfmojkaa.Am

end
section
namespace Go.Proofs.Ytadjimfkfmojkaa.Am
open Go.ChangeShapes Go.WideShapes Go.ChangeAt Go.RowKit
set_option linter.unusedVariables false
def sig0 : Sig := ⟨fun _ => none, fun _ => False⟩
def tok0 : Nat → Prop := fun _ => False
/-- cells that read as the cells of a datum -/
def rAM {α : Type} (e : α → List AV) (G : α → Prop) : Rel α := fun w _ x cs => G x ∧ Reps w sig0 tok0 (e x) cs
theorem reps_one {w : World} {σ : Sig} {T : Nat → Prop} {a : AV} {v : Value} (h : Rep w σ T a v) : Reps w σ T [a] [v] := ⟨rfl, fun i x u h1 h2 => by
  match i with
  | 0 => cases h1; cases h2; exact h
  | i + 1 => simp at h1⟩
theorem reps_cons {w : World} {σ : Sig} {T : Nat → Prop} {a : AV} {v : Value} {l : List AV} {m : List Value} (h : Reps w σ T [a] [v]) (hl : Reps w σ T l m) : Reps w σ T (a :: l) (v :: m) := ⟨by simp [hl.1], fun i x u h1 h2 => by
  match i with
  | 0 => exact h.2 0 x u h1 h2
  | i + 1 => exact hl.2 i x u (by simpa using h1) (by simpa using h2)⟩
theorem reps_nil {w : World} {σ : Sig} {T : Nat → Prop} : Reps w σ T [] [] := ⟨rfl, fun i x u h1 h2 => by simp at h1⟩
section
variable {H : Type} {enc : TypeId × Value → H} {P : Program} {w : World} {base : Nat} {spare : Nat → Bool} {held : Bool}
theorem am_int {t : TypeId} {k : IntKind} (ht : P.underlying t = some (.int k)) : Opens H enc P w base spare held t (rAM (fun n : Int => [.int k n]) fun n => (Lit.int k n).wf = true) := fun fuel cs x h => by
  obtain ⟨n, rfl, hn⟩ := opens_int ht fuel cs x h
  exact ⟨n, hn, reps_one (.int k n)⟩
theorem am_slice {α : Type} {t e : TypeId} {size : Nat} {f : α → List AV} {G : α → Prop} (ht : P.underlying t = some (.slice e)) (hc : P.cellsOf e = size) (hs : 0 < size) (he : Opens H enc P w base spare held e (rAM f G)) :
    Opens H enc P w base spare held t (rAM (fun l : List α => [.lst (l.map f)]) fun l => l.length ≤ maxLen ∧ ∀ x ∈ l, G x) := fun fuel cs x h => by
  obtain ⟨l, A, c, rfl, h1, h2, h3⟩ := opens_slice ht hc hs he fuel cs x h
  refine ⟨l, ⟨by omega, fun x hx => ?_⟩, reps_one ?_⟩
  · obtain ⟨i, hi, rfl⟩ := List.getElem_of_mem hx
    obtain ⟨b, o, _, _, hall⟩ := h3 (by omega)
    obtain ⟨cs', _, hR, _⟩ := hall i l[i] (List.getElem?_eq_getElem hi)
    exact hR.1
  · rcases Nat.eq_zero_or_pos l.length with h0 | h0
    · have : l = [] := List.length_eq_zero_iff.1 h0
      subst this
      exact .lst0 A c h2
    · obtain ⟨b, o, rfl, hb, hall⟩ := h3 h0
      have := Rep.lst (w := w) (σ := sig0) (T := tok0) (l.map f) b o size c ⟨fun h => h, fun i r hr => ?_, fun i j hi hj => ?_, hs, by simpa using h0⟩ (by simpa using h1) h2 (fun i r j a u hr ha hu => ?_)
      · simpa using this
      · rw [List.getElem?_map] at hr
        cases hx : l[i]? with
        | none => rw [hx] at hr; cases hr
        | some y =>
          rw [hx] at hr; cases hr
          obtain ⟨cs', k1, k2, _⟩ := hall i y hx
          rw [k2.2.1, k1]
      · have hi' : i < l.length := by simpa using hi
        obtain ⟨cs', k1, k2, k3⟩ := hall i l[i] (List.getElem?_eq_getElem hi')
        exact ⟨cs'[j], k3 j _ (List.getElem?_eq_getElem (by omega))⟩
      · rw [List.getElem?_map] at hr
        cases hx : l[i]? with
        | none => rw [hx] at hr; cases hr
        | some y =>
          rw [hx] at hr; cases hr
          obtain ⟨cs', k1, k2, k3⟩ := hall i y hx
          have hj : j < cs'.length := by rw [← k2.2.1]; exact lt_of_some ha
          have hu' := k3 j _ (List.getElem?_eq_getElem hj)
          rw [hu] at hu'
          cases hu'
          exact k2.2.2 j a _ ha (List.getElem?_eq_getElem hj)
/-- a struct of single cells -/
theorem am_cells {t : TypeId} {fs : Array Field} (tys : List TypeId) {fuel : Nat} {cs : List Value} {x : DataW H × List MemPlace} (ht : P.underlying t = some (.struct fs)) (h : DataW.trod enc P w base spare held fuel t cs = some x)
    (hf : fs.toList.map (fun f => (f.type, f.offset)) = tys.zipIdx) (hc : tys.all (fun ty => P.cellsOf ty == 1) = true) (hn : P.cellsOf t = tys.length) :
    cs.length = tys.length ∧ ∀ (i : Nat) (ty : TypeId), tys[i]? = some ty → ∃ c m y, cs[i]? = some c ∧ DataW.trod enc P w base spare held m ty [c] = some y := by
  obtain ⟨hl, hall⟩ := opens_fields ht h
  rw [hn] at hl
  refine ⟨hl, fun i ty hi => ?_⟩
  have hlt := lt_of_some hi
  have hci : i < cs.length := by omega
  obtain ⟨m, y, hy⟩ := hall i ty i 1 [cs[i]] (by
    have := congrArg (fun l => l[i]?) hf
    simp only [List.getElem?_map, List.getElem?_zipIdx, hi, Array.getElem?_toList] at this
    simpa using this) (by rw [List.all_eq_true] at hc; simpa using hc ty (List.mem_of_getElem? hi)) (by rw [List.drop_eq_getElem_cons hci]; rfl)
  exact ⟨cs[i], m, y, List.getElem?_eq_getElem hci, hy⟩
end
/-- A law that is true over the empty heap, in the model. -/
theorem law_calls {P : Program} {f : FuncId} {args : List AV} {vs : List Value} (h : PureA P f args (.bool true)) (w : World) (hv : Reps w sig0 tok0 args vs) : Calls P f vs.toArray w fun e w' => e = .returned (.bool true) ∧ Below w.heap.size w w' := by
  obtain ⟨v, H', L', h1, h2, rfl, rfl⟩ := h.2 Heap.empty (fun b _ => empty_get b) ⟨List.nodup_nil, fun p hp => by simp at hp⟩
  have hown : Own sig0 Heap.empty = tok0 := by
    funext c
    apply propext
    constructor
    · rintro (h | ⟨b, x, pl, h4, _, _⟩)
      · exact h
      · rw [empty_get] at h4; cases h4
    · exact fun h => h.elim
  have hW : WRel w sig0 Heap.empty := ⟨fun b pl hb => (by cases hb), fun b pl hb => (by cases hb), fun b x hb => (by rw [empty_get] at hb; cases hb), fun c hc => hc.elim, fun b b' x x' pl pl' hb => (by rw [empty_get] at hb; cases hb)⟩
  refine (h1 w sig0 vs hW (by rw [hown]; exact hv)).mono ?_
  rintro e w' ⟨v', σ', rfl, k1, k2, k3, _⟩
  cases k1
  rw [hown] at k3
  exact ⟨rfl, k3.os, k3.tape, k3.output, k3.size, fun k hk => k3.keep k hk fun h => h⟩
end Go.Proofs.Ytadjimfkfmojkaa.Am

end
section
namespace Go.Proofs.Ytadjimfkfmojkaa.Am
set_option linter.unusedVariables false
set_option linter.unusedSimpArgs false
set_option maxRecDepth 100000
theorem a_convE {k k' : IntKind} {n m : Int} {K : AV → Prop} (e : k.wrap n = m) (h : K (.int k m)) : W.conv k (.int k' n) K := a_conv (by rw [e]; exact h)
theorem a_remE {P : Program} {F : TypeId → Option (List TypeId)} {t : TypeId} {k : IntKind} {a b m : Int} {K : AV → Prop} (e : a.tmod b = m) (hb : b ≠ 0) (h : K (.int k m)) : W.bin P F .rem t (.int k a) (.int k b) K := a_rem hb (by rw [e]; exact h)
theorem small_s {s : SyncD} (h : OInv s) : SmallS s := ⟨by rw [h.nl]; decide, by rw [h.nd]; decide, by rw [h.nt]; decide, h.small.rd⟩
theorem u8_nn {x : Int} (h : (Lit.int .u8 x).wf = true) : 0 ≤ x ∧ x < 256 := by
  simp only [Lit.wf, Bool.and_eq_true, decide_eq_true_eq] at h
  have h1 : IntKind.u8.min = 0 := by decide
  have h2 : IntKind.u8.max = 255 := by decide
  omega
theorem reach0 (l : List EvD) (hl : l.length ≤ 200) : CallA Try.prog 25 [.agg W0.enc, .lst (l.map EvD.enc)] [] fun v L => ∃ s, v = .agg s.enc ∧ OInv s ∧ L = [] :=
  reach_ok OInv (fun s h => h.small) inv_start (fun s t k o wake h hen => oinv_step h hen) l hl
end Go.Proofs.Ytadjimfkfmojkaa.Am

end
section
namespace Go.Proofs.Ytadjimfkfmojkaa.Am
set_option maxRecDepth 100000
set_option linter.unusedSimpArgs false
set_option linter.unusedVariables false
theorem waits_iff {T : List ThrD} (hc : ∀ x ∈ T, x.cond = 0) {i : Nat} (hi : i < T.length) : waitsAt T 0 i = decide (T[i].status = 3) := by
  unfold waitsAt waitsS
  have : T.getD i default = T[i] := by simp [hi]
  rw [this, hc _ (List.getElem_mem hi)]
  simp
theorem mem_waiting {T : List ThrD} {c : Int} {n i : Nat} : i ∈ waiting T c n ↔ i < n ∧ waitsAt T c i = true := by simp [waiting]
/-- the thread that is woken waits -/
theorem notify_waits {T : List ThrD} {wake : Int} {i : Nat} (h : notifyS T 0 wake = (i : Int)) : i < T.length ∧ waitsAt T 0 i = true := by
  have h0 : 0 ≤ chosenOf (waiting T 0 T.length) wake := by unfold notifyS at h; omega
  have := chosen_mem h0
  unfold notifyS at h
  rw [h] at this
  exact mem_waiting.1 (by simpa using this)
theorem woken_st {T : List ThrD} {wake : Int} (hc : ∀ x ∈ T, x.cond = 0) {i : Nat} (hi : i < T.length) (hi2 : i < (wokenS T 0 wake).length) :
    decide ((wokenS T 0 wake)[i].status ≠ T[i].status) = decide (notifyS T 0 wake = (i : Int)) := by
  unfold wokenS at hi2 ⊢
  by_cases h : 0 ≤ notifyS T 0 wake
  · have hn : notifyS T 0 wake = ((notifyS T 0 wake).toNat : Int) := (Int.toNat_of_nonneg h).symm
    obtain ⟨h1, h2⟩ := notify_waits hn
    rw [waits_iff hc h1] at h2
    have h3 := of_decide_eq_true h2
    simp only [if_pos h]
    unfold setSt
    by_cases hk : (notifyS T 0 wake).toNat = i
    · subst hk
      rw [List.getElem_set_self, h3, decide_eq_true hn]
      rfl
    · have hne : ¬ notifyS T 0 wake = (i : Int) := by omega
      rw [List.getElem_set_ne hk, decide_eq_false hne]
      simp
  · simp only [if_neg h]
    rw [decide_eq_false (p := notifyS T 0 wake = (i : Int)) (by omega)]
    simp
end Go.Proofs.Ytadjimfkfmojkaa.Am

end
section
namespace Go.Proofs.Ytadjimfkfmojkaa.Am
set_option maxRecDepth 100000
set_option linter.unusedSimpArgs false
set_option linter.unusedVariables false
theorem en_run {w : WorldD} {s : SyncD} {t k o : Int} (h1 : k ≠ 1) (h17 : k ≠ 17) : enabledS w s t k o = true ↔ fitsS w s = true ∧ inB t w.threads.length = true ∧ allowedS w k o = true ∧ (thrAt s t).status = 2 ∧ readyS w s t k o = true := by
  unfold enabledS
  rw [if_neg h1, if_neg h17]
  simp only [Bool.and_eq_true, decide_eq_true_eq]
  constructor
  · rintro ⟨⟨⟨a, b⟩, c⟩, d, e⟩; exact ⟨a, b, c, d, e⟩
  · rintro ⟨a, b, c, d, e⟩; exact ⟨⟨⟨a, b⟩, c⟩, d, e⟩
def IsA (k : Int) : Prop := k = 6 ∨ k = 7 ∨ k = 18 ∨ k = 16
def IsB (j : Int) : Prop := j = 8 ∨ j = 9 ∨ j = 10 ∨ j = 11
theorem ready_a {k : Int} (hk : IsA k) {x y : SyncD} {t : Int} (h : lockAt x 0 = lockAt y 0) : readyS W0 x t k 0 = readyS W0 y t k 0 := by
  have hm : mxAt W0 0 = 0 := rfl
  rcases hk with rfl | rfl | rfl | rfl <;> simp [readyS, hm, h]
theorem ready_b {j : Int} (hj : IsB j) {x y : SyncD} {u : Int} (h : lockAt x 2 = lockAt y 2) : readyS W0 x u j 2 = readyS W0 y u j 2 := by
  rcases hj with rfl | rfl | rfl | rfl <;> simp [readyS, h]
theorem woken_run {T : List ThrD} {wake : Int} {i : Nat} (hc : ∀ x ∈ T, x.cond = 0) (h : (T.getD i default).status = 2) : ((wokenS T 0 wake).getD i default).status = 2 := by
  rcases Nat.lt_or_ge i T.length with hi | hi
  · have hi2 : i < (wokenS T 0 wake).length := by rw [woken_len]; exact hi
    have := woken_st (wake := wake) hc hi hi2
    rw [show T.getD i default = T[i] by simp [hi]] at h
    rw [show (wokenS T 0 wake).getD i default = (wokenS T 0 wake)[i] by simp [hi2]]
    by_cases hn : notifyS T 0 wake = (i : Int)
    · have hw := (notify_waits hn).2
      rw [waits_iff hc hi] at hw
      have := of_decide_eq_true hw
      omega
    · rw [decide_eq_false hn] at this
      have := of_decide_eq_false this
      rw [Classical.not_not] at this
      rw [this]; exact h
  · rw [show T.getD i default = default by simp [List.getD, List.getElem?_eq_none hi]] at h
    cases h
theorem shape_a {k t : Int} (hk : IsA k) : ∃ (f : LockD → LockD) (T : List ThrD → List ThrD), (∀ x : SyncD, inB 0 x.locks.length = true → (applyS W0 x t k 0 (-1)).1 = ⟨setLock x 0 f, x.tx, x.done, T x.threads⟩) ∧ (∀ th, (T th).length = th.length) ∧
    (∀ th u, (∀ x ∈ th, x.cond = 0) → u ≠ t.toNat → (th.getD u default).status = 2 → ((T th).getD u default).status = 2) := by
  have hm : mxAt W0 0 = 0 := rfl
  rcases hk with rfl | rfl | rfl | rfl
  · exact ⟨fun x => { x with owner := t }, fun th => th, fun x _ => by simp [applyS], fun _ => rfl, fun th u _ _ h => h⟩
  · exact ⟨fun x => { x with owner := -1 }, fun th => th, fun x _ => by simp [applyS], fun _ => rfl, fun th u _ _ h => h⟩
  · exact ⟨fun x => x, fun th => wokenS th 0 (-1), fun x hx => by simp only [applyS, Int.reduceEq, if_true, if_false, or_self, reduceIte]; rw [setLock_same hx rfl], fun th => woken_len _ _ _, fun th u hc _ h => woken_run hc h⟩
  · refine ⟨fun x => { x with owner := -1 }, fun th => th.set t.toNat { th.getD t.toNat default with status := 3, cond := 0 }, fun x _ => ?_, fun th => by simp, fun th u _ hu h => ?_⟩
    · simp only [applyS, Int.reduceEq, if_true, if_false, or_self, or_true, true_or, reduceIte, hm]
      rfl
    · simp only [List.getD, List.getElem?_set_ne (Ne.symm hu)] at h ⊢
      exact h
theorem shape_b {j u : Int} (hj : IsB j) : ∃ h : LockD → LockD, ∀ x : SyncD, (applyS W0 x u j 2 (-1)).1 = ⟨setLock x 2 h, x.tx, x.done, x.threads⟩ := by
  rcases hj with rfl | rfl | rfl | rfl
  · exact ⟨fun x => { x with readers := addRd x.readers u }, fun x => by simp [applyS]⟩
  · exact ⟨fun x => { x with readers := x.readers.filter fun y => !decide (y = u) }, fun x => by simp only [applyS, Int.reduceEq, if_true, if_false, or_self, reduceIte]⟩
  · exact ⟨fun x => { x with owner := u }, fun x => by simp [applyS]⟩
  · exact ⟨fun x => { x with owner := -1 }, fun x => by simp [applyS]⟩
theorem indep {s : SyncD} (hs : OInv s) {t u k j : Int} (hk : IsA k) (hj : IsB j) (hne : t.toNat ≠ u.toNat) (p : enabledS W0 s t k 0 = true) (q : enabledS W0 s u j 2 = true) :
    enabledS W0 (applyS W0 s t k 0 (-1)).1 u j 2 = true ∧ enabledS W0 (applyS W0 s u j 2 (-1)).1 t k 0 = true ∧ (applyS W0 (applyS W0 s t k 0 (-1)).1 u j 2 (-1)).1 = (applyS W0 (applyS W0 s u j 2 (-1)).1 t k 0 (-1)).1 := by
  have k1 : k ≠ 1 ∧ k ≠ 17 := by unfold IsA at hk; omega
  have j1 : j ≠ 1 ∧ j ≠ 17 := by unfold IsB at hj; omega
  obtain ⟨p1, p2, p3, p4, p5⟩ := (en_run k1.1 k1.2).1 p
  obtain ⟨q1, q2, q3, q4, q5⟩ := (en_run j1.1 j1.2).1 q
  obtain ⟨f, T, ha, hT, hst⟩ := shape_a (t := t) hk
  obtain ⟨h, hb⟩ := shape_b (u := u) hj
  have hl : inB 0 s.locks.length = true := by rw [hs.nl]; decide
  rw [ha s hl, hb s]
  have hlb : inB 0 (⟨setLock s 2 h, s.tx, s.done, s.threads⟩ : SyncD).locks.length = true := by show inB 0 (setLock s 2 h).length = true; rw [setLock_len]; exact hl
  refine ⟨(en_run j1.1 j1.2).2 ⟨(fits_eq (w := W0) (s := s) (a := ⟨setLock s 0 f, s.tx, s.done, T s.threads⟩) setLock_len rfl (hT _)).trans q1, q2, q3, ?_, ?_⟩, (en_run k1.1 k1.2).2 ⟨(fits_eq (w := W0) (s := s) (a := ⟨setLock s 2 h, s.tx, s.done, s.threads⟩) setLock_len rfl rfl).trans p1, p2, p3, p4, ?_⟩, ?_⟩
  · exact hst s.threads u.toNat hs.cond (Ne.symm hne) q4
  · rw [← q5]; exact ready_b hj (lockAt_ne (by decide))
  · rw [← p5]; exact ready_a hk (lockAt_ne (by decide))
  · rw [ha _ hlb, hb]
    simp only [SyncD.mk.injEq, and_true, true_and]
    exact setLock_comm (by decide)
end Go.Proofs.Ytadjimfkfmojkaa.Am

end
section
namespace Go.Proofs.Ytadjimfkfmojkaa.Am
set_option linter.unusedVariables false
set_option linter.unusedSimpArgs false
set_option maxRecDepth 100000
theorem small_zero : Small W0 zeroS := ⟨by decide, by decide, by decide, by decide, fun l hl => by cases hl⟩
theorem a_quoE {P : Program} {F : TypeId → Option (List TypeId)} {t : TypeId} {k : IntKind} {a b m : Int} {K : AV → Prop} (e : k.wrap (a.tdiv b) = m) (hb : b ≠ 0) (h : K (.int k m)) : W.bin P F .quo t (.int k a) (.int k b) K := a_quo hb (by rw [e]; exact h)
theorem small_res {s : SyncD} (hs : OInv s) (t k o wake : Int) : Small W0 (resS W0 s t k o wake).1 ∧ SmallS (resS W0 s t k o wake).1 := by
  unfold resS
  split
  · rename_i h
    exact ⟨(oinv_step hs h).small, small_s (oinv_step hs h)⟩
  · exact ⟨small_zero, by decide, by decide, by decide, fun l hl => by cases hl⟩
theorem small_res2 {s : SyncD} (hs : OInv s) (t k o wake t' k' o' wake' : Int) : SmallS (resS W0 (resS W0 s t k o wake).1 t' k' o' wake').1 := by
  by_cases h : enabledS W0 s t k o = true
  · rw [show (resS W0 s t k o wake).1 = (applyS W0 s t k o wake).1 by unfold resS; rw [if_pos h]]
    exact (small_res (oinv_step hs h) _ _ _ _).2
  · rw [show (resS W0 s t k o wake).1 = zeroS by unfold resS; rw [if_neg h]]
    have : enabledS W0 zeroS t' k' o' = false := by
      have hf : fitsS W0 zeroS = false := by decide
      unfold enabledS; rw [hf]; rfl
    rw [show resS W0 zeroS t' k' o' wake' = (zeroS, 0, false) by unfold resS; rw [this]; rfl]
    exact ⟨by decide, by decide, by decide, fun l hl => by cases hl⟩
theorem ind_zt (s : SyncD) (hs : OInv s) (t u k j : Int) (hk : IsA k) (hj : IsB j) (hne : t.toNat ≠ u.toNat) (Q : AV → SH → Prop) (hq : ∀ L, Q (.bool true) L) (L : SH) :
    law08_ObjectIndependent_zt1 (.pptr [W0.enc] 0 0) L (.pptr [s.enc] 0 0) (.int .i64 t) (.int .i64 k) (.int .i64 u) (.int .i64 j) Q := by
  have h1 := apply_ok W0 s t k 0 (-1) hs.small
  have h2 := apply_ok W0 s u j 2 (-1) hs.small
  have h3 := apply_ok W0 (resS W0 s t k 0 (-1)).1 u j 2 (-1) (small_res hs _ _ _ _).1
  have h4 := apply_ok W0 (resS W0 s u j 2 (-1)).1 t k 0 (-1) (small_res hs _ _ _ _).1
  have h5 := same_ok (resS W0 (resS W0 s t k 0 (-1)).1 u j 2 (-1)).1 (resS W0 (resS W0 s u j 2 (-1)).1 t k 0 (-1)).1 (small_res2 hs _ _ _ _ _ _ _ _)
  have key : (resS W0 s t k 0 (-1)).2.2 = true → (resS W0 s u j 2 (-1)).2.2 = true → (resS W0 (resS W0 s t k 0 (-1)).1 u j 2 (-1)).2.2 = true ∧ (resS W0 (resS W0 s u j 2 (-1)).1 t k 0 (-1)).2.2 = true ∧ decide ((resS W0 (resS W0 s t k 0 (-1)).1 u j 2 (-1)).1 = (resS W0 (resS W0 s u j 2 (-1)).1 t k 0 (-1)).1) = true := by
    intro a b
    have ea : enabledS W0 s t k 0 = true := by
      by_cases h : enabledS W0 s t k 0 = true
      · exact h
      · unfold resS at a; rw [if_neg h] at a; cases a
    have eb : enabledS W0 s u j 2 = true := by
      by_cases h : enabledS W0 s u j 2 = true
      · exact h
      · unfold resS at b; rw [if_neg h] at b; cases b
    obtain ⟨i1, i2, i3⟩ := indep hs hk hj hne ea eb
    have ra : (resS W0 s t k 0 (-1)).1 = (applyS W0 s t k 0 (-1)).1 := by unfold resS; rw [if_pos ea]
    have rb : (resS W0 s u j 2 (-1)).1 = (applyS W0 s u j 2 (-1)).1 := by unfold resS; rw [if_pos eb]
    rw [ra, rb]
    refine ⟨by unfold resS; rw [if_pos i1], by unfold resS; rw [if_pos i2], decide_eq_true ?_⟩
    unfold resS
    rw [if_pos i1, if_pos i2]
    exact i3
  unfold encR at h1 h2 h3 h4
  generalize decide ((resS W0 (resS W0 s t k 0 (-1)).1 u j 2 (-1)).1 = (resS W0 (resS W0 s u j 2 (-1)).1 t k 0 (-1)).1) = sm at *
  generalize resS W0 (resS W0 s t k 0 (-1)).1 u j 2 (-1) = r3 at *
  generalize resS W0 (resS W0 s u j 2 (-1)).1 t k 0 (-1) = r4 at *
  generalize resS W0 s t k 0 (-1) = r1 at *
  generalize resS W0 s u j 2 (-1) = r2 at *
  obtain ⟨a1, v1, p⟩ := r1
  obtain ⟨a2, v2, q⟩ := r2
  obtain ⟨a3, v3, x⟩ := r3
  obtain ⟨a4, v4, y⟩ := r4
  dsimp only at *
  unfold law08_ObjectIndependent_zt1
  cases p with
  | false =>
    have np : (!false) = true := rfl
    repeat' (first | (refine h_load1 ?_; first | refine b_load_q ?_ | refine b_load_i ?_ | refine b_load_p ?_) | (refine h_faddr ?_; first | refine a_faddr_q ?_ | refine a_faddr_p ?_) | (refine h_bin ?_; first | refine a_eql ?_ | refine a_lss ?_ | refine a_neq ?_ | refine a_geq ?_ | refine a_gtr ?_ | refine a_leq ?_ | refine a_add ?_ | refine a_sub ?_ | refine a_mul ?_ | refine a_eqs ?_ | refine a_nes ?_ | refine b_rem ?_ | refine b_quo ?_) | (refine h_cond ?_; first | refine b_cond_t ?_ | refine b_cond_f ?_ | refine a_cond (fun h => ?_) (fun h => ?_)) | (refine h_idx ?_; first | refine b_idx_n ?_ | refine b_idx_l ?_ | refine b_idx_i ?_ | refine b_idx_sn ?_ | refine b_idx_s ?_) | (refine h_row ?_; first | refine b_row_q ?_ | refine b_row_i ?_ | refine b_row_p ?_) | (refine h_len ?_; first | refine a_len_m ?_ | refine a_len_l ?_ | refine a_len_s ?_ | refine a_len_n ?_ | refine a_len_e ?_) | (refine h_ext ?_; first | refine b_ext ?_) | (refine h_calm ?_; first | refine b_calm ?_) | (refine h_note ?_; first | refine a_note ?_) | (refine h_pick ?_; first | refine b_pick_t ?_ | refine b_pick_f ?_) | (refine h_grd ?_; first | refine b_grd_y ?_ | refine b_grd_n ?_ | refine a_grd_u ?_ | refine a_grd_t (fun h => ?_) (fun h => ?_) | refine a_grd_f (fun h => ?_) (fun h => ?_)) | (refine h_dgrd ?_; first | refine b_dgrd_y ?_ | refine b_dgrd_n ?_ | refine a_dgrd_u ?_ | refine a_dgrd_t (fun h => ?_) (fun h => ?_) | refine a_dgrd_f (fun h => ?_) (fun h => ?_)) | (refine h_nilchk ?_; first | refine a_nil_p ?_ | refine a_nil_q ?_ | refine a_nil_f ?_) | refine a_mark ?_ | refine a_dmark ?_ | ((with_reducible refine h_fn 26 ?_); refine m_call (h1) ?_) | ((with_reducible refine h_dfn 26 ?_); refine b_dcall (h1) ?_) | ((with_reducible refine h_fn 26 ?_); refine m_call (h2) ?_) | ((with_reducible refine h_dfn 26 ?_); refine b_dcall (h2) ?_) | ((with_reducible refine h_fn 26 ?_); refine m_call (h3) ?_) | ((with_reducible refine h_dfn 26 ?_); refine b_dcall (h3) ?_) | ((with_reducible refine h_fn 26 ?_); refine m_call (h4) ?_) | ((with_reducible refine h_dfn 26 ?_); refine b_dcall (h4) ?_) | ((with_reducible refine h_fn 20 ?_); refine m_call (h5) ?_) | ((with_reducible refine h_dfn 20 ?_); refine b_dcall (h5) ?_) | ((with_reducible refine h_fn 23 ?_); refine m_call (awake08) ?_) | ((with_reducible refine h_dfn 23 ?_); refine b_dcall (awake08) ?_) | (refine h_un ?_; first | refine a_not ?_ | refine a_neg ?_) | (refine h_box ?_; first | refine b_box (fun nb_ hnb_ => ?_)) | (refine h_frz1 ?_; first | refine b_frz_p ?_ | refine b_frz_s ?_) | (refine h_store ?_; first | refine b_store_box ?_ | refine b_store_one ?_ | refine b_store_row ?_) | (refine h_idxP ?_; first | refine b_idxP_p ?_ | refine b_idxP_q ?_) | (refine h_mslice ?_; first | refine b_mslice (fun nb_ hnb_ => ?_)) | (refine h_bslice ?_; first | refine b_bslice (fun nb_ hnb_ => ?_)) | refine a_conv ?_ | refine a_convS ?_ | refine a_alloc (fun nb_ hnb_ => ?_) | refine b_build ?_ | refine b_fld ?_ | refine a_join ?_ | refine a_lenS ?_ | refine a_tt ?_)
    exact hq _
  | true =>
    have np : (!true) = false := rfl
    cases q with
    | false =>
      have nq : (!false) = true := rfl
      repeat' (first | (refine h_load1 ?_; first | refine b_load_q ?_ | refine b_load_i ?_ | refine b_load_p ?_) | (refine h_faddr ?_; first | refine a_faddr_q ?_ | refine a_faddr_p ?_) | (refine h_bin ?_; first | refine a_eql ?_ | refine a_lss ?_ | refine a_neq ?_ | refine a_geq ?_ | refine a_gtr ?_ | refine a_leq ?_ | refine a_add ?_ | refine a_sub ?_ | refine a_mul ?_ | refine a_eqs ?_ | refine a_nes ?_ | refine b_rem ?_ | refine b_quo ?_) | (refine h_cond ?_; first | refine b_cond_t ?_ | refine b_cond_f ?_ | refine a_cond (fun h => ?_) (fun h => ?_)) | (refine h_idx ?_; first | refine b_idx_n ?_ | refine b_idx_l ?_ | refine b_idx_i ?_ | refine b_idx_sn ?_ | refine b_idx_s ?_) | (refine h_row ?_; first | refine b_row_q ?_ | refine b_row_i ?_ | refine b_row_p ?_) | (refine h_len ?_; first | refine a_len_m ?_ | refine a_len_l ?_ | refine a_len_s ?_ | refine a_len_n ?_ | refine a_len_e ?_) | (refine h_ext ?_; first | refine b_ext ?_) | (refine h_calm ?_; first | refine b_calm ?_) | (refine h_note ?_; first | refine a_note ?_) | (refine h_pick ?_; first | refine b_pick_t ?_ | refine b_pick_f ?_) | (refine h_grd ?_; first | refine b_grd_y ?_ | refine b_grd_n ?_ | refine a_grd_u ?_ | refine a_grd_t (fun h => ?_) (fun h => ?_) | refine a_grd_f (fun h => ?_) (fun h => ?_)) | (refine h_dgrd ?_; first | refine b_dgrd_y ?_ | refine b_dgrd_n ?_ | refine a_dgrd_u ?_ | refine a_dgrd_t (fun h => ?_) (fun h => ?_) | refine a_dgrd_f (fun h => ?_) (fun h => ?_)) | (refine h_nilchk ?_; first | refine a_nil_p ?_ | refine a_nil_q ?_ | refine a_nil_f ?_) | refine a_mark ?_ | refine a_dmark ?_ | ((with_reducible refine h_fn 26 ?_); refine m_call (h1) ?_) | ((with_reducible refine h_dfn 26 ?_); refine b_dcall (h1) ?_) | ((with_reducible refine h_fn 26 ?_); refine m_call (h2) ?_) | ((with_reducible refine h_dfn 26 ?_); refine b_dcall (h2) ?_) | ((with_reducible refine h_fn 26 ?_); refine m_call (h3) ?_) | ((with_reducible refine h_dfn 26 ?_); refine b_dcall (h3) ?_) | ((with_reducible refine h_fn 26 ?_); refine m_call (h4) ?_) | ((with_reducible refine h_dfn 26 ?_); refine b_dcall (h4) ?_) | ((with_reducible refine h_fn 20 ?_); refine m_call (h5) ?_) | ((with_reducible refine h_dfn 20 ?_); refine b_dcall (h5) ?_) | ((with_reducible refine h_fn 23 ?_); refine m_call (awake08) ?_) | ((with_reducible refine h_dfn 23 ?_); refine b_dcall (awake08) ?_) | (refine h_un ?_; first | refine a_not ?_ | refine a_neg ?_) | (refine h_box ?_; first | refine b_box (fun nb_ hnb_ => ?_)) | (refine h_frz1 ?_; first | refine b_frz_p ?_ | refine b_frz_s ?_) | (refine h_store ?_; first | refine b_store_box ?_ | refine b_store_one ?_ | refine b_store_row ?_) | (refine h_idxP ?_; first | refine b_idxP_p ?_ | refine b_idxP_q ?_) | (refine h_mslice ?_; first | refine b_mslice (fun nb_ hnb_ => ?_)) | (refine h_bslice ?_; first | refine b_bslice (fun nb_ hnb_ => ?_)) | refine a_conv ?_ | refine a_convS ?_ | refine a_alloc (fun nb_ hnb_ => ?_) | refine b_build ?_ | refine b_fld ?_ | refine a_join ?_ | refine a_lenS ?_ | refine a_tt ?_)
      exact hq _
    | true =>
      obtain ⟨rfl, rfl, rfl⟩ := key rfl rfl
      repeat' (first | (refine h_load1 ?_; first | refine b_load_q ?_ | refine b_load_i ?_ | refine b_load_p ?_) | (refine h_faddr ?_; first | refine a_faddr_q ?_ | refine a_faddr_p ?_) | (refine h_bin ?_; first | refine a_eql ?_ | refine a_lss ?_ | refine a_neq ?_ | refine a_geq ?_ | refine a_gtr ?_ | refine a_leq ?_ | refine a_add ?_ | refine a_sub ?_ | refine a_mul ?_ | refine a_eqs ?_ | refine a_nes ?_ | refine b_rem ?_ | refine b_quo ?_) | (refine h_cond ?_; first | refine b_cond_t ?_ | refine b_cond_f ?_ | refine a_cond (fun h => ?_) (fun h => ?_)) | (refine h_idx ?_; first | refine b_idx_n ?_ | refine b_idx_l ?_ | refine b_idx_i ?_ | refine b_idx_sn ?_ | refine b_idx_s ?_) | (refine h_row ?_; first | refine b_row_q ?_ | refine b_row_i ?_ | refine b_row_p ?_) | (refine h_len ?_; first | refine a_len_m ?_ | refine a_len_l ?_ | refine a_len_s ?_ | refine a_len_n ?_ | refine a_len_e ?_) | (refine h_ext ?_; first | refine b_ext ?_) | (refine h_calm ?_; first | refine b_calm ?_) | (refine h_note ?_; first | refine a_note ?_) | (refine h_pick ?_; first | refine b_pick_t ?_ | refine b_pick_f ?_) | (refine h_grd ?_; first | refine b_grd_y ?_ | refine b_grd_n ?_ | refine a_grd_u ?_ | refine a_grd_t (fun h => ?_) (fun h => ?_) | refine a_grd_f (fun h => ?_) (fun h => ?_)) | (refine h_dgrd ?_; first | refine b_dgrd_y ?_ | refine b_dgrd_n ?_ | refine a_dgrd_u ?_ | refine a_dgrd_t (fun h => ?_) (fun h => ?_) | refine a_dgrd_f (fun h => ?_) (fun h => ?_)) | (refine h_nilchk ?_; first | refine a_nil_p ?_ | refine a_nil_q ?_ | refine a_nil_f ?_) | refine a_mark ?_ | refine a_dmark ?_ | ((with_reducible refine h_fn 26 ?_); refine m_call (h1) ?_) | ((with_reducible refine h_dfn 26 ?_); refine b_dcall (h1) ?_) | ((with_reducible refine h_fn 26 ?_); refine m_call (h2) ?_) | ((with_reducible refine h_dfn 26 ?_); refine b_dcall (h2) ?_) | ((with_reducible refine h_fn 26 ?_); refine m_call (h3) ?_) | ((with_reducible refine h_dfn 26 ?_); refine b_dcall (h3) ?_) | ((with_reducible refine h_fn 26 ?_); refine m_call (h4) ?_) | ((with_reducible refine h_dfn 26 ?_); refine b_dcall (h4) ?_) | ((with_reducible refine h_fn 20 ?_); refine m_call (h5) ?_) | ((with_reducible refine h_dfn 20 ?_); refine b_dcall (h5) ?_) | ((with_reducible refine h_fn 23 ?_); refine m_call (awake08) ?_) | ((with_reducible refine h_dfn 23 ?_); refine b_dcall (awake08) ?_) | (refine h_un ?_; first | refine a_not ?_ | refine a_neg ?_) | (refine h_box ?_; first | refine b_box (fun nb_ hnb_ => ?_)) | (refine h_frz1 ?_; first | refine b_frz_p ?_ | refine b_frz_s ?_) | (refine h_store ?_; first | refine b_store_box ?_ | refine b_store_one ?_ | refine b_store_row ?_) | (refine h_idxP ?_; first | refine b_idxP_p ?_ | refine b_idxP_q ?_) | (refine h_mslice ?_; first | refine b_mslice (fun nb_ hnb_ => ?_)) | (refine h_bslice ?_; first | refine b_bslice (fun nb_ hnb_ => ?_)) | refine a_conv ?_ | refine a_convS ?_ | refine a_alloc (fun nb_ hnb_ => ?_) | refine b_build ?_ | refine b_fld ?_ | refine a_join ?_ | refine a_lenS ?_ | refine a_tt ?_)
      exact hq _
theorem h_indzt {t7 t8 t49 t39 t53 t45 : AV} {Q : AV → SH → Prop} {L : SH} (h : law08_ObjectIndependent_zt1 t7 L t8 t49 t39 t53 t45 Q) : law08_ObjectIndependent_zt1 t7 L t8 t49 t39 t53 t45 Q := h
theorem h_indc4 {t1 t2 t7 v : AV} {Q : AV → SH → Prop} {L : SH} (h : law08_ObjectIndependent_c4 t1 t2 Q t7 v L) : law08_ObjectIndependent_c4 t1 t2 Q t7 v L := h
theorem row4 (a b c d : Int) {i : Int} (h : i = 0 ∨ i = 1 ∨ i = 2 ∨ i = 3) : ([[.int .i64 a], [.int .i64 b], [.int .i64 c], [.int .i64 d]] : List (List AV))[i.toNat]? = some [.int .i64 (if i = 0 then a else if i = 1 then b else if i = 2 then c else d)] := by
  rcases h with rfl | rfl | rfl | rfl <;> rfl
theorem ind_c4 (s : SyncD) (hs : OInv s) (f g : Int) (hf : 0 ≤ f ∧ f < 256) (hg : 0 ≤ g ∧ g < 256) (Q : AV → SH → Prop) (hq : ∀ L, Q (.bool true) L) :
    law08_ObjectIndependent_c4 (.int .u8 f) (.int .u8 g) Q (.pptr [W0.enc] 0 0) (.agg s.enc) [] := by
  have hf0 : IntKind.i64.wrap f = f := IntWalk.i64_in _ (by omega)
  have hg0 : IntKind.i64.wrap g = g := IntWalk.i64_in _ (by omega)
  have f4 : f.tmod 4 = f % 4 := Int.tmod_eq_emod_of_nonneg hf.1
  have g4 : g.tmod 4 = g % 4 := Int.tmod_eq_emod_of_nonneg hg.1
  have fd : f.tdiv 4 = f / 4 := Int.tdiv_eq_ediv_of_nonneg hf.1
  have gd : g.tdiv 4 = g / 4 := Int.tdiv_eq_ediv_of_nonneg hg.1
  have fw : IntKind.i64.wrap (f.tdiv 4) = f / 4 := by rw [fd]; exact IntWalk.i64_in _ (by omega)
  have gw : IntKind.i64.wrap (g.tdiv 4) = g / 4 := by rw [gd]; exact IntWalk.i64_in _ (by omega)
  have ft : (f / 4).tmod 3 = f / 4 % 3 := Int.tmod_eq_emod_of_nonneg (by omega)
  have gt : (g / 4).tmod 3 = g / 4 % 3 := Int.tmod_eq_emod_of_nonneg (by omega)
  have hfr : f % 4 = 0 ∨ f % 4 = 1 ∨ f % 4 = 2 ∨ f % 4 = 3 := by omega
  have hgr : g % 4 = 0 ∨ g % 4 = 1 ∨ g % 4 = 2 ∨ g % 4 = 3 := by omega
  have ht0 : 0 ≤ f / 4 % 3 := by omega
  have hu0 : 0 ≤ g / 4 % 3 := by omega
  obtain ⟨i, hi⟩ : ∃ i, i = f % 4 := ⟨_, rfl⟩
  obtain ⟨j, hj⟩ : ∃ j, j = g % 4 := ⟨_, rfl⟩
  rw [← hi] at f4 hfr
  rw [← hj] at g4 hgr
  generalize f / 4 % 3 = t at *
  generalize g / 4 % 3 = u at *
  clear hi hj fd gd
  have r1 := row4 6 7 18 16 hfr
  have r2 := row4 8 9 10 11 hgr
  have hA : IsA (if i = 0 then 6 else if i = 1 then 7 else if i = 2 then 18 else 16) := by rcases hfr with rfl | rfl | rfl | rfl <;> simp [IsA]
  have hB : IsB (if j = 0 then 8 else if j = 1 then 9 else if j = 2 then 10 else 11) := by rcases hgr with rfl | rfl | rfl | rfl <;> simp [IsB]
  generalize (if i = 0 then (6 : Int) else if i = 1 then 7 else if i = 2 then 18 else 16) = k at *
  generalize (if j = 0 then (8 : Int) else if j = 1 then 9 else if j = 2 then 10 else 11) = l at *
  have i0 : 0 ≤ i := by omega
  have j0 : 0 ≤ j := by omega
  have i4 : i.toNat < 4 := by omega
  have j4 : j.toNat < 4 := by omega
  have r1' : ([[.int .i64 6], [.int .i64 7], [.int .i64 18], [.int .i64 16]] : List (List AV))[0 + i.toNat]? = some [.int .i64 k] := by rw [Nat.zero_add]; exact r1
  have r2' : ([[.int .i64 8], [.int .i64 9], [.int .i64 10], [.int .i64 11]] : List (List AV))[0 + j.toNat]? = some [.int .i64 l] := by rw [Nat.zero_add]; exact r2
  unfold law08_ObjectIndependent_c4
  by_cases hne : t = u
  · have he : decide (t = u) = true := decide_eq_true hne
    repeat' (first | refine a_convE hf0 ?_ | refine a_convE hg0 ?_ | refine a_remE f4 (by decide) ?_ | refine a_remE g4 (by decide) ?_ | refine a_remE ft (by decide) ?_ | refine a_remE gt (by decide) ?_ | refine a_quoE fw (by decide) ?_ | refine a_quoE gw (by decide) ?_ | (refine h_load1 ?_; first | refine b_load_q ?_ | refine b_load_i ?_ | refine b_load_p ?_) | (refine h_faddr ?_; first | refine a_faddr_q ?_ | refine a_faddr_p ?_) | (refine h_bin ?_; first | refine a_eql ?_ | refine a_lss ?_ | refine a_neq ?_ | refine a_geq ?_ | refine a_gtr ?_ | refine a_leq ?_ | refine a_add ?_ | refine a_sub ?_ | refine a_mul ?_ | refine a_eqs ?_ | refine a_nes ?_ | refine b_rem ?_ | refine b_quo ?_) | (refine h_cond ?_; first | refine b_cond_t ?_ | refine b_cond_f ?_ | refine a_cond (fun h => ?_) (fun h => ?_)) | (refine h_idx ?_; first | refine b_idx_n ?_ | refine b_idx_l ?_ | refine b_idx_i ?_ | refine b_idx_sn ?_ | refine b_idx_s ?_) | (refine h_row ?_; first | refine b_row_q ?_ | refine b_row_i ?_ | refine b_row_p ?_) | (refine h_len ?_; first | refine a_len_m ?_ | refine a_len_l ?_ | refine a_len_s ?_ | refine a_len_n ?_ | refine a_len_e ?_) | (refine h_ext ?_; first | refine b_ext ?_) | (refine h_calm ?_; first | refine b_calm ?_) | (refine h_note ?_; first | refine a_note ?_) | (refine h_pick ?_; first | refine b_pick_t ?_ | refine b_pick_f ?_) | (refine h_grd ?_; first | refine b_grd_y ?_ | refine b_grd_n ?_ | refine a_grd_u ?_ | refine a_grd_t (fun h => ?_) (fun h => ?_) | refine a_grd_f (fun h => ?_) (fun h => ?_)) | (refine h_dgrd ?_; first | refine b_dgrd_y ?_ | refine b_dgrd_n ?_ | refine a_dgrd_u ?_ | refine a_dgrd_t (fun h => ?_) (fun h => ?_) | refine a_dgrd_f (fun h => ?_) (fun h => ?_)) | (refine h_nilchk ?_; first | refine a_nil_p ?_ | refine a_nil_q ?_ | refine a_nil_f ?_) | refine a_mark ?_ | refine a_dmark ?_ | ((with_reducible refine h_fn 23 ?_); refine m_call (awake08) ?_) | ((with_reducible refine h_dfn 23 ?_); refine b_dcall (awake08) ?_) | (refine h_un ?_; first | refine a_not ?_ | refine a_neg ?_) | (refine h_box ?_; first | refine b_box (fun nb_ hnb_ => ?_)) | (refine h_frz1 ?_; first | refine b_frz_p ?_ | refine b_frz_s ?_) | (refine h_store ?_; first | refine b_store_box ?_ | refine b_store_one ?_ | refine b_store_row ?_) | (refine h_idxP ?_; first | refine b_idxP_p ?_ | refine b_idxP_q ?_) | (refine h_mslice ?_; first | refine b_mslice (fun nb_ hnb_ => ?_)) | (refine h_bslice ?_; first | refine b_bslice (fun nb_ hnb_ => ?_)) | refine a_conv ?_ | refine a_convS ?_ | refine a_alloc (fun nb_ hnb_ => ?_) | refine b_build ?_ | refine b_fld ?_ | refine a_join ?_ | refine a_lenS ?_ | refine a_tt ?_)
    exact hq _
  · have he : decide (t = u) = false := decide_eq_false hne
    repeat' (first | refine a_convE hf0 ?_ | refine a_convE hg0 ?_ | refine a_remE f4 (by decide) ?_ | refine a_remE g4 (by decide) ?_ | refine a_remE ft (by decide) ?_ | refine a_remE gt (by decide) ?_ | refine a_quoE fw (by decide) ?_ | refine a_quoE gw (by decide) ?_ | ((with_reducible refine h_indzt ?_); exact ind_zt s hs t u k l hA hB (by omega) Q hq _) | (refine h_load1 ?_; first | refine b_load_q ?_ | refine b_load_i ?_ | refine b_load_p ?_) | (refine h_faddr ?_; first | refine a_faddr_q ?_ | refine a_faddr_p ?_) | (refine h_bin ?_; first | refine a_eql ?_ | refine a_lss ?_ | refine a_neq ?_ | refine a_geq ?_ | refine a_gtr ?_ | refine a_leq ?_ | refine a_add ?_ | refine a_sub ?_ | refine a_mul ?_ | refine a_eqs ?_ | refine a_nes ?_ | refine b_rem ?_ | refine b_quo ?_) | (refine h_cond ?_; first | refine b_cond_t ?_ | refine b_cond_f ?_ | refine a_cond (fun h => ?_) (fun h => ?_)) | (refine h_idx ?_; first | refine b_idx_n ?_ | refine b_idx_l ?_ | refine b_idx_i ?_ | refine b_idx_sn ?_ | refine b_idx_s ?_) | (refine h_row ?_; first | refine b_row_q ?_ | refine b_row_i ?_ | refine b_row_p ?_) | (refine h_len ?_; first | refine a_len_m ?_ | refine a_len_l ?_ | refine a_len_s ?_ | refine a_len_n ?_ | refine a_len_e ?_) | (refine h_ext ?_; first | refine b_ext ?_) | (refine h_calm ?_; first | refine b_calm ?_) | (refine h_note ?_; first | refine a_note ?_) | (refine h_pick ?_; first | refine b_pick_t ?_ | refine b_pick_f ?_) | (refine h_grd ?_; first | refine b_grd_y ?_ | refine b_grd_n ?_ | refine a_grd_u ?_ | refine a_grd_t (fun h => ?_) (fun h => ?_) | refine a_grd_f (fun h => ?_) (fun h => ?_)) | (refine h_dgrd ?_; first | refine b_dgrd_y ?_ | refine b_dgrd_n ?_ | refine a_dgrd_u ?_ | refine a_dgrd_t (fun h => ?_) (fun h => ?_) | refine a_dgrd_f (fun h => ?_) (fun h => ?_)) | (refine h_nilchk ?_; first | refine a_nil_p ?_ | refine a_nil_q ?_ | refine a_nil_f ?_) | refine a_mark ?_ | refine a_dmark ?_ | (refine h_un ?_; first | refine a_not ?_ | refine a_neg ?_) | (refine h_box ?_; first | refine b_box (fun nb_ hnb_ => ?_)) | (refine h_frz1 ?_; first | refine b_frz_p ?_ | refine b_frz_s ?_) | (refine h_store ?_; first | refine b_store_box ?_ | refine b_store_one ?_ | refine b_store_row ?_) | (refine h_idxP ?_; first | refine b_idxP_p ?_ | refine b_idxP_q ?_) | (refine h_mslice ?_; first | refine b_mslice (fun nb_ hnb_ => ?_)) | (refine h_bslice ?_; first | refine b_bslice (fun nb_ hnb_ => ?_)) | refine a_conv ?_ | refine a_convS ?_ | refine a_alloc (fun nb_ hnb_ => ?_) | refine b_build ?_ | refine b_fld ?_ | refine a_join ?_ | refine a_lenS ?_ | refine a_tt ?_)
theorem independent (l : List EvD) (f g : Int) (hf : 0 ≤ f ∧ f < 256) (hg : 0 ≤ g ∧ g < 256) : PureA Try.prog 9 [.lst (l.map EvD.enc), .int .u8 f, .int .u8 g] (.bool true) := by
  refine CallA.fz (law08_ObjectIndependent_ok _ _ _ _ _ ?_)
  unfold law08_ObjectIndependent_w
  rcases Nat.lt_or_ge 100 l.length with h1 | h1
  · have hd : decide ((100 : Int) < (l.length : Int)) = true := decide_eq_true (by omega)
    repeat' (first | (refine h_load1 ?_; first | refine b_load_q ?_ | refine b_load_i ?_ | refine b_load_p ?_) | (refine h_faddr ?_; first | refine a_faddr_q ?_ | refine a_faddr_p ?_) | (refine h_bin ?_; first | refine a_eql ?_ | refine a_lss ?_ | refine a_neq ?_ | refine a_geq ?_ | refine a_gtr ?_ | refine a_leq ?_ | refine a_add ?_ | refine a_sub ?_ | refine a_mul ?_ | refine a_eqs ?_ | refine a_nes ?_ | refine b_rem ?_ | refine b_quo ?_) | (refine h_cond ?_; first | refine b_cond_t ?_ | refine b_cond_f ?_ | refine a_cond (fun h => ?_) (fun h => ?_)) | (refine h_idx ?_; first | refine b_idx_n ?_ | refine b_idx_l ?_ | refine b_idx_i ?_ | refine b_idx_sn ?_ | refine b_idx_s ?_) | (refine h_row ?_; first | refine b_row_q ?_ | refine b_row_i ?_ | refine b_row_p ?_) | (refine h_len ?_; first | refine a_len_m ?_ | refine a_len_l ?_ | refine a_len_s ?_ | refine a_len_n ?_ | refine a_len_e ?_) | (refine h_ext ?_; first | refine b_ext ?_) | (refine h_calm ?_; first | refine b_calm ?_) | (refine h_note ?_; first | refine a_note ?_) | (refine h_pick ?_; first | refine b_pick_t ?_ | refine b_pick_f ?_) | (refine h_grd ?_; first | refine b_grd_y ?_ | refine b_grd_n ?_ | refine a_grd_u ?_ | refine a_grd_t (fun h => ?_) (fun h => ?_) | refine a_grd_f (fun h => ?_) (fun h => ?_)) | (refine h_dgrd ?_; first | refine b_dgrd_y ?_ | refine b_dgrd_n ?_ | refine a_dgrd_u ?_ | refine a_dgrd_t (fun h => ?_) (fun h => ?_) | refine a_dgrd_f (fun h => ?_) (fun h => ?_)) | (refine h_nilchk ?_; first | refine a_nil_p ?_ | refine a_nil_q ?_ | refine a_nil_f ?_) | refine a_mark ?_ | refine a_dmark ?_ | (refine h_un ?_; first | refine a_not ?_ | refine a_neg ?_) | (refine h_box ?_; first | refine b_box (fun nb_ hnb_ => ?_)) | (refine h_frz1 ?_; first | refine b_frz_p ?_ | refine b_frz_s ?_) | (refine h_store ?_; first | refine b_store_box ?_ | refine b_store_one ?_ | refine b_store_row ?_) | (refine h_idxP ?_; first | refine b_idxP_p ?_ | refine b_idxP_q ?_) | (refine h_mslice ?_; first | refine b_mslice (fun nb_ hnb_ => ?_)) | (refine h_bslice ?_; first | refine b_bslice (fun nb_ hnb_ => ?_)) | refine a_conv ?_ | refine a_convS ?_ | refine a_alloc (fun nb_ hnb_ => ?_) | refine b_build ?_ | refine b_fld ?_ | refine a_join ?_ | refine a_lenS ?_ | refine a_tt ?_)
    exact ⟨_, [], FzS.all (.refl _), rfl, rfl⟩
  · have hd : decide ((100 : Int) < (l.length : Int)) = false := decide_eq_false (by omega)
    have hre := reach0 l (by omega)
    generalize hQ : (fun (v : AV) (L : SH) => ∃ v2 L2, FzS [v] L [v2] L2 ∧ v2 = AV.bool true ∧ L2 = []) = Q
    have hq : ∀ L, Q (.bool true) L := by subst hQ; exact fun L => ⟨_, [], FzS.all (.refl _), rfl, rfl⟩
    repeat' (first | ((with_reducible refine h_indc4 ?_); exact ind_c4 s hs f g hf hg Q hq) | (refine h_load1 ?_; first | refine b_load_q ?_ | refine b_load_i ?_ | refine b_load_p ?_) | (refine h_faddr ?_; first | refine a_faddr_q ?_ | refine a_faddr_p ?_) | (refine h_bin ?_; first | refine a_eql ?_ | refine a_lss ?_ | refine a_neq ?_ | refine a_geq ?_ | refine a_gtr ?_ | refine a_leq ?_ | refine a_add ?_ | refine a_sub ?_ | refine a_mul ?_ | refine a_eqs ?_ | refine a_nes ?_ | refine b_rem ?_ | refine b_quo ?_) | (refine h_cond ?_; first | refine b_cond_t ?_ | refine b_cond_f ?_ | refine a_cond (fun h => ?_) (fun h => ?_)) | (refine h_idx ?_; first | refine b_idx_n ?_ | refine b_idx_l ?_ | refine b_idx_i ?_ | refine b_idx_sn ?_ | refine b_idx_s ?_) | (refine h_row ?_; first | refine b_row_q ?_ | refine b_row_i ?_ | refine b_row_p ?_) | (refine h_len ?_; first | refine a_len_m ?_ | refine a_len_l ?_ | refine a_len_s ?_ | refine a_len_n ?_ | refine a_len_e ?_) | (refine h_ext ?_; first | refine b_ext ?_) | (refine h_calm ?_; first | refine b_calm ?_) | (refine h_note ?_; first | refine a_note ?_) | (refine h_pick ?_; first | refine b_pick_t ?_ | refine b_pick_f ?_) | (refine h_grd ?_; first | refine b_grd_y ?_ | refine b_grd_n ?_ | refine a_grd_u ?_ | refine a_grd_t (fun h => ?_) (fun h => ?_) | refine a_grd_f (fun h => ?_) (fun h => ?_)) | (refine h_dgrd ?_; first | refine b_dgrd_y ?_ | refine b_dgrd_n ?_ | refine a_dgrd_u ?_ | refine a_dgrd_t (fun h => ?_) (fun h => ?_) | refine a_dgrd_f (fun h => ?_) (fun h => ?_)) | (refine h_nilchk ?_; first | refine a_nil_p ?_ | refine a_nil_q ?_ | refine a_nil_f ?_) | refine a_mark ?_ | refine a_dmark ?_ | ((with_reducible refine h_fn 24 ?_); refine m_call (world_ok) ?_) | ((with_reducible refine h_dfn 24 ?_); refine b_dcall (world_ok) ?_) | ((with_reducible refine h_fn 25 ?_); (refine m_callF (K := []) hre (.refl _) ?_; rintro _ _ ⟨s, rfl, hs, rfl⟩)) | (refine h_un ?_; first | refine a_not ?_ | refine a_neg ?_) | (refine h_box ?_; first | refine b_box (fun nb_ hnb_ => ?_)) | (refine h_frz1 ?_; first | refine b_frz_p ?_ | refine b_frz_s ?_) | (refine h_store ?_; first | refine b_store_box ?_ | refine b_store_one ?_ | refine b_store_row ?_) | (refine h_idxP ?_; first | refine b_idxP_p ?_ | refine b_idxP_q ?_) | (refine h_mslice ?_; first | refine b_mslice (fun nb_ hnb_ => ?_)) | (refine h_bslice ?_; first | refine b_bslice (fun nb_ hnb_ => ?_)) | refine a_conv ?_ | refine a_convS ?_ | refine a_alloc (fun nb_ hnb_ => ?_) | refine b_build ?_ | refine b_fld ?_ | refine a_join ?_ | refine a_lenS ?_ | refine a_tt ?_)
end Go.Proofs.Ytadjimfkfmojkaa.Am

end
section
namespace Go.Proofs.Ytadjimfkfmojkaa.Am
open Go.ChangeShapes Go.WideShapes Go.ChangeAt Go.RowKit
set_option linter.unusedVariables false
section
variable {H : Type} {enc : TypeId × Value → H} {w : World} {base : Nat} {spare : Nat → Bool} {held : Bool}
theorem u_i8 : Try.prog.underlying 64 = some (.int .i8) := by kernel_rfl
theorem am_event : Opens H enc Try.prog w base spare held 70 (rAM EvD.enc fun _ => True) := fun fuel cs x h => by
  obtain ⟨hl, hall⟩ := am_cells [64, 64, 64, 64] Try.underlying70 h rfl (by kernel_rfl) (by kernel_rfl)
  obtain ⟨c0, m0, y0, e0, k0⟩ := hall 0 _ rfl
  obtain ⟨d0, _, r0⟩ := am_int u_i8 _ _ _ k0
  obtain ⟨c1, m1, y1, e1, k1⟩ := hall 1 _ rfl
  obtain ⟨d1, _, r1⟩ := am_int u_i8 _ _ _ k1
  obtain ⟨c2, m2, y2, e2, k2⟩ := hall 2 _ rfl
  obtain ⟨d2, _, r2⟩ := am_int u_i8 _ _ _ k2
  obtain ⟨c3, m3, y3, e3, k3⟩ := hall 3 _ rfl
  obtain ⟨d3, _, r3⟩ := am_int u_i8 _ _ _ k3
  have hcs : cs = [c0, c1, c2, c3] := by
    match cs, hl with
    | [a0, a1, a2, a3], _ => simp only [List.getElem?_cons_zero, List.getElem?_cons_succ, Option.some.injEq] at e0 e1 e2 e3; rw [e0, e1, e2, e3]
  subst hcs
  exact ⟨⟨d0, d1, d2, d3⟩, trivial, (reps_cons r0 (reps_cons r1 (reps_cons r2 (reps_cons r3 reps_nil))))⟩
theorem am_events : Opens H enc Try.prog w base spare held 55 (rAM (fun l : List EvD => [.lst (l.map EvD.enc)]) fun l => l.length ≤ maxLen ∧ ∀ x ∈ l, True) :=
  am_slice (size := 4) Try.underlying55 (by kernel_rfl) (by decide) am_event
end
end Go.Proofs.Ytadjimfkfmojkaa.Am

end
section
namespace Go.Proofs.Ytadjimfkfmojkaa.objectIndependent
open Go.ChangeShapes Go.WideShapes Go.ChangeAt Go.RowKit Am
set_option linter.unusedVariables false
set_option linter.unusedSimpArgs false
theorem law (l : List EvD) (_ : l.length ≤ maxLen ∧ ∀ x ∈ l, True) (t : Int) (ht : (Lit.int .u8 t).wf = true) (k : Int) (hk : (Lit.int .u8 k).wf = true) : PureA Try.prog 9 [.lst (l.map EvD.enc), .int .u8 t, .int .u8 k] (.bool true) :=
  independent l t k (u8_nn ht) (u8_nn hk)
theorem own : ownKnob Try.prog.godebug = none := by kernel_rfl
theorem laidOut : laidOutB Try.prog = true := by kernel_rfl
theorem agg_of {n : Nat} (hn : n ≠ 1) {v : Value} (h : v.cells.toList.length = n) : ∃ cs : List Value, v = .agg cs.toArray ∧ v.cells.toList = cs := by
  cases v with
  | agg a => exact ⟨a.toList, by simp, rfl⟩
  | _ => simp [Value.cells] at h; omega
set_option maxRecDepth 100000 in
theorem lifted (os : Os) (started : os.Started) (H : Type) (enc : TypeId × Value → H) :
    ReturnsInHanded {} Try.checked os 9 .any (Rows.objectIndependentSpec.pre6 enc Try.prog Try.f9 Rows.objectIndependentRow.domain false) (Rows.objectIndependentSpec.post enc Try.prog Try.f9 false true false false) := by
  refine returnsInHanded_of_change (C := Try.checked) own started (by kernel_rfl) Try.func9
    (ChangeSpec.witness6 (enc := enc) (C := Try.checked) false ⟨#[], #[.slice none 0 0, .int .u8 0, .int .u8 0], []⟩ 8 (by kernel_rfl) (by kernel_rfl) (by kernel_rfl) (by kernel_rfl)) ?_
  intro W base args ds gs before hval0 hW hcnd _
  have hval : ∀ (j : Nat) t v, Try.f9.params[j]? = some t → args[j]? = some v → Value.okWide Try.prog W .any base t v := hval0
  have hW' := hW
  obtain ⟨p, q, hA0, hV, rfl, hfz, hnd⟩ := hW
  have hA : DataW.TrodAll enc Try.prog W 0 (fun _ => true) true Try.f9.params.toList args.toList ds p := hA0
  rw [Try.params9] at hA hval
  obtain ⟨v0, vs0, d0, ds0, p0, q0, hargs, rfl, rfl, h0, r0⟩ := trodAll_cons hA
  obtain ⟨v1, vs1, d1, ds1, p1, q1, rfl, rfl, rfl, h1, r1⟩ := trodAll_cons r0
  obtain ⟨v2, vs2, d2, ds2, p2, q2, rfl, rfl, rfl, h2, r2⟩ := trodAll_cons r1
  obtain ⟨rfl, rfl, rfl⟩ := trodAll_nil r2
  obtain rfl : args = #[v0, v1, v2] := by cases args; simp_all
  obtain ⟨rfl, rfl⟩ := trodVars_none hV
  obtain ⟨fuel0, hf0⟩ := h0
  obtain ⟨a0, n0, c0, rfl⟩ := okWide_slice Try.underlying55 (hval 0 55 v0 rfl rfl)
  obtain ⟨x0, g0, k0⟩ := am_events _ _ _ hf0
  obtain ⟨fuel1, hf1⟩ := h1
  obtain ⟨x1, rfl, _, _, g1⟩ := open_int Try.underlying5 (hval 1 5 v1 rfl rfl) ⟨fuel1, hf1⟩
  have k1 := reps_one (Rep.int (w := W) (σ := sig0) (T := tok0) .u8 x1)
  obtain ⟨fuel2, hf2⟩ := h2
  obtain ⟨x2, rfl, _, _, g2⟩ := open_int Try.underlying5 (hval 2 5 v2 rfl rfl) ⟨fuel2, hf2⟩
  have k2 := reps_one (Rep.int (w := W) (σ := sig0) (T := tok0) .u8 x2)
  refine (law_calls (law x0 g0 x1 g1 x2 g2) W (reps_cons k0 (reps_cons k1 (reps_cons k2 reps_nil)))).mono fun e W' ⟨he, hb⟩ => ⟨.bool true, he, ?_⟩
  exact law_post laidOut (of_decide_eq_true (by kernel_rfl)) rfl rfl Try.underlying4 hW' rfl rfl rfl hb
theorem over : Rows.objectIndependentRow.holds Try.pinned (OpenSpec.ofChange Rows.objectIndependentSpec) :=
  OpenClaim.holds_of_wide 9 Try.f9 rfl rfl rfl rfl rfl rfl rfl ⟨rfl, rfl, rfl, rfl, rfl⟩ rfl rfl rfl rfl rfl (by kernel_rfl) Try.func9 (by kernel_rfl)
    (of_decide_eq_true (by kernel_rfl)) (by unfold Func.isWrapper; first | (rw [if_pos (by decide +kernel)]; kernel_rfl) | (rw [if_neg (by decide +kernel)]; exact ⟨rfl, rfl⟩))
    (fun os started H enc _ => lifted os started H enc)
theorem proved : Rows.ObjectIndependentSaid :=
  over
#print axioms proved
end Go.Proofs.Ytadjimfkfmojkaa.objectIndependent

end
