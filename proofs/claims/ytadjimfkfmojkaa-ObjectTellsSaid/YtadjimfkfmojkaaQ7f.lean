/- A part of the proof; the statement is proved in the last part. -/
import Derived.Test.YtadjimfkfmojkaaQ7e
set_option linter.unusedSimpArgs false
set_option linter.unusedVariables false
section
namespace Go.Proofs.Ytadjimfkfmojkaa.Am
set_option maxRecDepth 100000
set_option linter.unusedSimpArgs false
set_option linter.unusedVariables false
/-- the indices below n where something holds -/
def wh (p : Nat → Bool) (n : Nat) : List Int := ((List.range n).filter p).map fun i : Nat => (i : Int)
theorem wh_succ (p : Nat → Bool) (n : Nat) : wh p (n + 1) = if p n then wh p n ++ [(n : Int)] else wh p n := by
  unfold wh
  rw [List.range_succ, List.filter_append, List.map_append]
  by_cases h : p n <;> simp [h]
theorem wh_len (p : Nat → Bool) (n : Nat) : (wh p n).length ≤ n := by
  unfold wh
  rw [List.length_map]
  exact Nat.le_trans (List.length_filter_le _ _) (by simp)
def ownsS (s : SyncD) (t : Int) (i : Nat) : Bool := decide ((s.locks.getD i default).owner = t)
def readsS (s : SyncD) (t : Int) (i : Nat) : Bool := (s.locks.getD i default).readers.contains t
def holdsS (w : WorldD) (s : SyncD) (t : Int) : List Int × List Int := if fitsS w s && inB t w.threads.length then (wh (ownsS s t) s.locks.length, wh (readsS s t) s.locks.length) else ([], [])
def encH (p : List Int × List Int) : AV := .tup [.lst (p.1.map intE), .lst (p.2.map intE)]
theorem fz_ints {K : SH} {o : Option Nat} {l : List Int} {n : Nat} (h0 : o = none → l = []) (hn : n = l.length) (hm : ∀ p ∈ slotB o 1 (l.map intE), p ∈ K) : Fz K (slotV o n) (.lst (l.map intE)) := by
  subst hn
  cases o with
  | none => rw [h0 rfl]; exact .emp
  | some b => exact Fz.sls (hm _ (List.mem_singleton.2 rfl)) rfl (by decide) rfl
section
variable (w : WorldD) (s : SyncD) (t : Int)
theorem holds_ok (hc : w.conds.length < 2 ^ 62) (hl : s.locks.length < 2 ^ 40) (hr : ∀ l ∈ s.locks, l.readers.length < 2 ^ 40) : PureA Try.prog 32 [.agg w.enc, .agg s.enc, .int .i64 t] (encH (holdsS w s t)) := by
  refine CallA.fz (object_Holds_ok _ _ _ _ _ ?_)
  unfold object_Holds_w
  have no : (fitsS w s && inB t w.threads.length) = false → ∀ L, ∃ v2 L2, FzS [AV.tup [.nils, .nils]] L [v2] L2 ∧ v2 = encH (holdsS w s t) ∧ L2 = [] := fun h L => by
    refine ⟨_, [], FzS.all (Fz.tups (.cons .nils (.cons .nils .nil))), ?_, rfl⟩
    unfold holdsS; rw [h]; rfl
  generalize hQ : (fun (v : AV) (L : SH) => ∃ v2 L2, FzS [v] L [v2] L2 ∧ v2 = encH (holdsS w s t) ∧ L2 = []) = Q at *
  cases h1 : fitsS w s with
  | false =>
    have nh1 : (!fitsS w s) = true := by rw [h1]; rfl
    have no := no (by rw [h1]; rfl)
    repeat' (first | (refine h_cond ?_; refine b_cond_t ?_) | (refine h_row ?_; refine b_row_q ?_) | (refine h_pick ?_; refine b_pick_t ?_) | (refine h_grd ?_; refine b_grd_n ?_) | refine a_mark ?_ | ((with_reducible refine h_fn 37 ?_); refine m_call (fits_ok _ _ hc) ?_) | (refine h_un ?_; refine a_not ?_) | (refine h_box ?_; refine b_box (fun nb_ hnb_ => ?_)) | (refine h_frz1 ?_; refine b_frz_p ?_))
    subst hQ; exact no _
  | true =>
    have nh1 : (!fitsS w s) = false := by rw [h1]; rfl
    cases h2 : inB t w.threads.length with
    | false =>
      have nh2 : (!inB t w.threads.length) = true := by rw [h2]; rfl
      have no := no (by rw [h2, Bool.and_false])
      repeat' (first | (refine h_load1 ?_; refine b_load_q ?_) | (refine h_faddr ?_; refine a_faddr_q ?_) | (refine h_cond ?_; refine b_cond_t ?_) | (refine h_row ?_; refine b_row_q ?_) | (refine h_len ?_; refine a_len_m ?_) | (refine h_pick ?_; refine b_pick_f ?_) | (refine h_grd ?_; refine b_grd_y ?_) | refine a_mark ?_ | ((with_reducible refine h_fn 37 ?_); refine m_call (fits_ok _ _ hc) ?_) | ((with_reducible refine h_fn 52 ?_); refine m_call (within_ok _ _) ?_) | (refine h_un ?_; refine a_not ?_) | (refine h_box ?_; refine b_box (fun nb_ hnb_ => ?_)) | (refine h_frz1 ?_; refine b_frz_p ?_))
      subst hQ; exact no _
    | true =>
      have nh2 : (!inB t w.threads.length) = false := by rw [h2]; rfl
      have hv : holdsS w s t = (wh (ownsS s t) s.locks.length, wh (readsS s t) s.locks.length) := by unfold holdsS; rw [h1, h2]; rfl
      clear no
      repeat' (first | (refine h_load1 ?_; refine b_load_q ?_) | (refine h_faddr ?_; refine a_faddr_q ?_) | (refine h_cond ?_; refine b_cond_f ?_) | (refine h_row ?_; refine b_row_q ?_) | (refine h_len ?_; refine a_len_m ?_) | (refine h_pick ?_; refine b_pick_f ?_) | (refine h_grd ?_; refine b_grd_y ?_) | refine a_mark ?_ | ((with_reducible refine h_fn 37 ?_); refine m_call (fits_ok _ _ hc) ?_) | ((with_reducible refine h_fn 52 ?_); refine m_call (within_ok _ _) ?_) | (refine h_un ?_; refine a_not ?_) | (refine h_box ?_; refine b_box (fun nb_ hnb_ => ?_)) | (refine h_frz1 ?_; refine b_frz_p ?_))
      refine loop_ex s.locks.length (fun i (o : Option Nat × Option Nat) => ([.int .i64 t, slotV o.1 (wh (ownsS s t) i).length, slotV o.2 (wh (readsS s t) i).length, .lst (s.locks.map LockD.enc), .int .i64 s.locks.length, .int .i64 i], slotB o.1 1 ((wh (ownsS s t) i).map intE) ++ slotB o.2 1 ((wh (readsS s t) i).map intE))) (fun i o => (o.1 = none → wh (ownsS s t) i = []) ∧ (o.2 = none → wh (readsS s t) i = [])) (none, none) ⟨fun _ => rfl, fun _ => rfl⟩ ?_ ?_
      · exact FzS.vals (.cons (.refl _) (.cons .nile (.cons .nile (.cons (.refl _) (.cons (.refl _) (.cons (.refl _) .nil))))))
      rintro i ⟨o1, o2⟩ hi ⟨ho1, ho2⟩
      dsimp only at ho1 ho2 ⊢
      unfold object_Holds_l2
      rcases Nat.lt_or_ge i s.locks.length with g1 | g1
      · have hd := dec_lt g1
        have hx := map_at (f := LockD.enc) g1
        have hrd : (s.locks[i]).readers.length < 2 ^ 62 := by have := hr _ (List.getElem_mem g1); omega
        have l1 := wh_len (ownsS s t) i
        have l2 := wh_len (readsS s t) i
        have e1 : ownsS s t i = decide ((s.locks[i]).owner = t) := by simp [ownsS, g1]
        have e2 : readsS s t i = (s.locks[i]).readers.contains t := by simp [readsS, g1]
        have s1 := wh_succ (ownsS s t) i
        have s2 := wh_succ (readsS s t) i
        rw [e1] at s1
        rw [e2] at s2
        generalize hb1 : decide ((s.locks[i]).owner = t) = c1 at *
        generalize hb2 : (s.locks[i]).readers.contains t = c2 at *
        have hco := contains_ok (s.locks[i]).readers t hrd
        rw [hb2] at hco
        have fin : ∀ (o1' o2' : Option Nat) (m1 m2 : Nat) (R1 R2 : List (List AV)) (L : SH), Pick L (slotB o1' 1 R1 ++ slotB o2' 1 R2) → (o1' = none → wh (ownsS s t) (i + 1) = []) → (o2' = none → wh (readsS s t) (i + 1) = []) → m1 = (wh (ownsS s t) (i + 1)).length → m2 = (wh (readsS s t) (i + 1)).length → R1 = (wh (ownsS s t) (i + 1)).map intE → R2 = (wh (readsS s t) (i + 1)).map intE →
            ∃ (j : Nat) (o' : Option Nat × Option Nat), i < j ∧ j ≤ s.locks.length ∧ ((o'.1 = none → wh (ownsS s t) j = []) ∧ (o'.2 = none → wh (readsS s t) j = [])) ∧ FzS [.int .i64 t, slotV o1' m1, slotV o2' m2, .lst (s.locks.map LockD.enc), .int .i64 s.locks.length, .int .i64 (IntKind.i64.wrap ((i : Int) + 1))] L
              [.int .i64 t, slotV o'.1 (wh (ownsS s t) j).length, slotV o'.2 (wh (readsS s t) j).length, .lst (s.locks.map LockD.enc), .int .i64 s.locks.length, .int .i64 j] (slotB o'.1 1 ((wh (ownsS s t) j).map intE) ++ slotB o'.2 1 ((wh (readsS s t) j).map intE)) := by
          rintro o1' o2' m1 m2 R1 R2 L hp a1 a2 rfl rfl rfl rfl
          exact ⟨i + 1, (o1', o2'), by omega, by omega, ⟨a1, a2⟩, FzS.pick hp (by rw [i64_succ g1 (by omega)])⟩
        cases c1 <;> cases c2
        all_goals
          repeat' (first | (refine h_load1 ?_; refine b_load_q ?_) | (refine h_faddr ?_; refine a_faddr_q ?_) | (refine h_bin ?_; first | refine a_eql ?_ | refine a_lss ?_ | refine a_add ?_) | (refine h_cond ?_; first | refine b_cond_t ?_ | refine b_cond_f ?_) | (refine h_idx ?_; refine b_idx_n ?_) | (refine h_row ?_; refine b_row_q ?_) | refine a_mark ?_ | refine a_app_o (by repeat constructor) (by repeat constructor) (by simp) (fun e => by first | simp [ho1 e] | simp [ho2 e]) (by rfl) (by simp) (by simp; omega) (by simp; omega) (by rfl) (fun nb_ hnb_ => ?_) | ((with_reducible refine h_fn 60 ?_); refine m_call (hco) ?_) | (refine h_frz1 ?_; refine b_frz_p ?_) | (refine h_store ?_; refine b_store_box ?_) | (refine h_bslice ?_; refine b_bslice (fun nb_ hnb_ => ?_)) | refine a_alloc (fun nb_ hnb_ => ?_) | refine a_join ?_)
        · exact fin o1 o2 _ _ _ _ _ (by repeat constructor) (by rw [s1]; exact ho1) (by rw [s2]; exact ho2) (by simp [s1, slotOf]) (by simp [s2, slotOf]) (by simp [s1]) (by simp [s2])
        · exact fin o1 (some _) _ _ _ _ _ (by repeat constructor) (by rw [s1]; exact ho1) nofun (by simp [s1, slotOf]) (by simp [s2]) (by simp [s1]) (by simp [s2, intE, slotOf])
        · exact fin (some _) o2 _ _ _ _ _ (by repeat constructor) nofun (by rw [s2]; exact ho2) (by simp [s1]) (by simp [s2, slotOf]) (by simp [s1, intE, slotOf]) (by simp [s2])
        · exact fin (some _) (some _) _ _ _ _ _ (by repeat constructor) nofun nofun (by simp [s1]) (by simp [s2]) (by simp [s1, intE, slotOf]) (by simp [s2, intE, slotOf])
      · have hd := dec_ge g1
        have hi0 : i = s.locks.length := by omega
        subst hi0
        repeat' (first | (refine h_bin ?_; refine a_lss ?_) | (refine h_cond ?_; refine b_cond_f ?_))
        subst hQ
        refine ⟨_, [], FzS.all (Fz.tups (.cons (fz_ints ho1 rfl ?_) (.cons (fz_ints ho2 rfl ?_) .nil))), ?_, rfl⟩
        · intro p hp; simp [hp]
        · intro p hp; simp [hp]
        · rw [hv]; rfl
theorem holdsR_ok (hc : w.conds.length < 2 ^ 62) (hl : s.locks.length < 2 ^ 40) (hr : ∀ l ∈ s.locks, l.readers.length < 2 ^ 40) : PureA Try.prog 33 [.agg w.enc, .agg s.enc, .int .i64 t] (encH (holdsS w s t)) := by
  refine CallA.fz (ref08_Holds_ok _ _ _ _ _ ?_)
  unfold ref08_Holds_w
  have no : (fitsS w s && inB t w.threads.length) = false → ∀ L, ∃ v2 L2, FzS [AV.tup [.nils, .nils]] L [v2] L2 ∧ v2 = encH (holdsS w s t) ∧ L2 = [] := fun h L => by
    refine ⟨_, [], FzS.all (Fz.tups (.cons .nils (.cons .nils .nil))), ?_, rfl⟩
    unfold holdsS; rw [h]; rfl
  generalize hQ : (fun (v : AV) (L : SH) => ∃ v2 L2, FzS [v] L [v2] L2 ∧ v2 = encH (holdsS w s t) ∧ L2 = []) = Q at *
  cases h1 : fitsS w s with
  | false =>
    have nh1 : (!fitsS w s) = true := by rw [h1]; rfl
    have no := no (by rw [h1]; rfl)
    repeat' (first | (refine h_cond ?_; refine b_cond_t ?_) | (refine h_row ?_; refine b_row_q ?_) | (refine h_pick ?_; refine b_pick_t ?_) | (refine h_grd ?_; refine b_grd_n ?_) | refine a_mark ?_ | ((with_reducible refine h_fn 38 ?_); refine m_call (fitsR_ok _ _ hc) ?_) | (refine h_un ?_; refine a_not ?_) | (refine h_box ?_; refine b_box (fun nb_ hnb_ => ?_)) | (refine h_frz1 ?_; refine b_frz_p ?_))
    subst hQ; exact no _
  | true =>
    have nh1 : (!fitsS w s) = false := by rw [h1]; rfl
    cases h2 : inB t w.threads.length with
    | false =>
      have nh2 : (!inB t w.threads.length) = true := by rw [h2]; rfl
      have no := no (by rw [h2, Bool.and_false])
      repeat' (first | (refine h_load1 ?_; refine b_load_q ?_) | (refine h_faddr ?_; refine a_faddr_q ?_) | (refine h_cond ?_; refine b_cond_t ?_) | (refine h_row ?_; refine b_row_q ?_) | (refine h_len ?_; refine a_len_m ?_) | (refine h_pick ?_; refine b_pick_f ?_) | (refine h_grd ?_; refine b_grd_y ?_) | refine a_mark ?_ | ((with_reducible refine h_fn 38 ?_); refine m_call (fitsR_ok _ _ hc) ?_) | ((with_reducible refine h_fn 61 ?_); refine m_call (in_ok _ _) ?_) | (refine h_un ?_; refine a_not ?_) | (refine h_box ?_; refine b_box (fun nb_ hnb_ => ?_)) | (refine h_frz1 ?_; refine b_frz_p ?_))
      subst hQ; exact no _
    | true =>
      have nh2 : (!inB t w.threads.length) = false := by rw [h2]; rfl
      have hv : holdsS w s t = (wh (ownsS s t) s.locks.length, wh (readsS s t) s.locks.length) := by unfold holdsS; rw [h1, h2]; rfl
      clear no
      repeat' (first | (refine h_load1 ?_; refine b_load_q ?_) | (refine h_faddr ?_; refine a_faddr_q ?_) | (refine h_cond ?_; refine b_cond_f ?_) | (refine h_row ?_; refine b_row_q ?_) | (refine h_len ?_; refine a_len_m ?_) | (refine h_pick ?_; refine b_pick_f ?_) | (refine h_grd ?_; refine b_grd_y ?_) | refine a_mark ?_ | ((with_reducible refine h_fn 38 ?_); refine m_call (fitsR_ok _ _ hc) ?_) | ((with_reducible refine h_fn 61 ?_); refine m_call (in_ok _ _) ?_) | (refine h_un ?_; refine a_not ?_) | (refine h_box ?_; refine b_box (fun nb_ hnb_ => ?_)) | (refine h_frz1 ?_; refine b_frz_p ?_))
      refine loop_ex s.locks.length (fun i (o : Option Nat × Option Nat) => ([.int .i64 t, .pptr [s.enc] 0 0, slotV o.1 (wh (ownsS s t) i).length, slotV o.2 (wh (readsS s t) i).length, .int .i64 i], slotB o.1 1 ((wh (ownsS s t) i).map intE) ++ slotB o.2 1 ((wh (readsS s t) i).map intE))) (fun i o => (o.1 = none → wh (ownsS s t) i = []) ∧ (o.2 = none → wh (readsS s t) i = [])) (none, none) ⟨fun _ => rfl, fun _ => rfl⟩ ?_ ?_
      · exact FzS.vals (.cons (.refl _) (.cons (.refl _) (.cons .nile (.cons .nile (.cons (.refl _) .nil)))))
      rintro i ⟨o1, o2⟩ hi ⟨ho1, ho2⟩
      dsimp only at ho1 ho2 ⊢
      unfold ref08_Holds_l2
      rcases Nat.lt_or_ge i s.locks.length with g1 | g1
      · have hd := dec_lt g1
        have hx := map_at (f := LockD.enc) g1
        have hrd : (s.locks[i]).readers.length < 2 ^ 62 := by have := hr _ (List.getElem_mem g1); omega
        have l1 := wh_len (ownsS s t) i
        have l2 := wh_len (readsS s t) i
        have e1 : ownsS s t i = decide ((s.locks[i]).owner = t) := by simp [ownsS, g1]
        have e2 : readsS s t i = (s.locks[i]).readers.contains t := by simp [readsS, g1]
        have s1 := wh_succ (ownsS s t) i
        have s2 := wh_succ (readsS s t) i
        rw [e1] at s1
        rw [e2] at s2
        generalize hb1 : decide ((s.locks[i]).owner = t) = c1 at *
        generalize hb2 : (s.locks[i]).readers.contains t = c2 at *
        have hco := has_ok (s.locks[i]).readers t hrd
        rw [hb2] at hco
        have fin : ∀ (o1' o2' : Option Nat) (m1 m2 : Nat) (R1 R2 : List (List AV)) (L : SH), Pick L (slotB o1' 1 R1 ++ slotB o2' 1 R2) → (o1' = none → wh (ownsS s t) (i + 1) = []) → (o2' = none → wh (readsS s t) (i + 1) = []) → m1 = (wh (ownsS s t) (i + 1)).length → m2 = (wh (readsS s t) (i + 1)).length → R1 = (wh (ownsS s t) (i + 1)).map intE → R2 = (wh (readsS s t) (i + 1)).map intE →
            ∃ (j : Nat) (o' : Option Nat × Option Nat), i < j ∧ j ≤ s.locks.length ∧ ((o'.1 = none → wh (ownsS s t) j = []) ∧ (o'.2 = none → wh (readsS s t) j = [])) ∧ FzS [.int .i64 t, .pptr [s.enc] 0 0, slotV o1' m1, slotV o2' m2, .int .i64 (IntKind.i64.wrap ((i : Int) + 1))] L
              [.int .i64 t, .pptr [s.enc] 0 0, slotV o'.1 (wh (ownsS s t) j).length, slotV o'.2 (wh (readsS s t) j).length, .int .i64 j] (slotB o'.1 1 ((wh (ownsS s t) j).map intE) ++ slotB o'.2 1 ((wh (readsS s t) j).map intE)) := by
          rintro o1' o2' m1 m2 R1 R2 L hp a1 a2 rfl rfl rfl rfl
          exact ⟨i + 1, (o1', o2'), by omega, by omega, ⟨a1, a2⟩, FzS.pick hp (by rw [i64_succ g1 (by omega)])⟩
        cases c1 <;> cases c2
        all_goals
          repeat' (first | (refine h_load1 ?_; refine b_load_q ?_) | (refine h_faddr ?_; refine a_faddr_q ?_) | (refine h_bin ?_; first | refine a_eql ?_ | refine a_lss ?_ | refine a_add ?_) | (refine h_cond ?_; first | refine b_cond_t ?_ | refine b_cond_f ?_) | (refine h_idx ?_; refine b_idx_n ?_) | (refine h_len ?_; refine a_len_m ?_) | refine a_mark ?_ | refine a_app_o (by repeat constructor) (by repeat constructor) (by simp) (fun e => by first | simp [ho1 e] | simp [ho2 e]) (by rfl) (by simp) (by simp; omega) (by simp; omega) (by rfl) (fun nb_ hnb_ => ?_) | ((with_reducible refine h_fn 15 ?_); refine m_call (hco) ?_) | (refine h_bslice ?_; refine b_bslice (fun nb_ hnb_ => ?_)) | refine a_join ?_)
        · exact fin o1 o2 _ _ _ _ _ (by repeat constructor) (by rw [s1]; exact ho1) (by rw [s2]; exact ho2) (by simp [s1, slotOf]) (by simp [s2, slotOf]) (by simp [s1]) (by simp [s2])
        · exact fin o1 (some _) _ _ _ _ _ (by repeat constructor) (by rw [s1]; exact ho1) nofun (by simp [s1, slotOf]) (by simp [s2]) (by simp [s1]) (by simp [s2, intE, slotOf])
        · exact fin (some _) o2 _ _ _ _ _ (by repeat constructor) nofun (by rw [s2]; exact ho2) (by simp [s1]) (by simp [s2, slotOf]) (by simp [s1, intE, slotOf]) (by simp [s2])
        · exact fin (some _) (some _) _ _ _ _ _ (by repeat constructor) nofun nofun (by simp [s1]) (by simp [s2]) (by simp [s1, intE, slotOf]) (by simp [s2, intE, slotOf])
      · have hd := dec_ge g1
        have hi0 : i = s.locks.length := by omega
        subst hi0
        repeat' (first | (refine h_load1 ?_; refine b_load_q ?_) | (refine h_faddr ?_; refine a_faddr_q ?_) | (refine h_bin ?_; refine a_lss ?_) | (refine h_cond ?_; refine b_cond_f ?_) | (refine h_len ?_; refine a_len_m ?_))
        subst hQ
        refine ⟨_, [], FzS.all (Fz.tups (.cons (fz_ints ho1 rfl ?_) (.cons (fz_ints ho2 rfl ?_) .nil))), ?_, rfl⟩
        · intro p hp; simp [hp]
        · intro p hp; simp [hp]
        · rw [hv]; rfl
end
end Go.Proofs.Ytadjimfkfmojkaa.Am

end
section
namespace Go.Proofs.Ytadjimfkfmojkaa.Am
set_option maxRecDepth 100000
set_option linter.unusedSimpArgs false
set_option linter.unusedVariables false
set_option linter.unusedSectionVars false
/-- what is left when some blocks are picked out -/
inductive Rest : SH → SH → SH → Prop where
  | nil (L : SH) : Rest L [] L
  | one {b : Nat} {x : Blk} {L L' R K : SH} : Del b x L L' → Rest L' R K → Rest L ((b, x) :: R) K
  | slot {o : Option Nat} {n : Nat} {rows : List (List AV)} {L L' R K : SH} : DelO o n rows L L' → Rest L' R K → Rest L (slotB o n rows ++ R) K
theorem Rest.perm {L R K : SH} (h : Rest L R K) : L.Perm (K ++ R) := by
  induction h with
  | nil L => simp
  | one hd hp ih => exact (hd.perm.trans ((ih.cons _).trans List.perm_middle.symm))
  | slot hd hp ih =>
    refine hd.perm.trans ((ih.append_left _).trans ?_)
    rw [← List.append_assoc, ← List.append_assoc]
    exact List.perm_append_comm.append_right _
theorem FzS.pickE {vs vs2 : List AV} {L R R2 : SH} (h : Pick L R) (hv : vs = vs2) (hR : R = R2) : FzS vs L vs2 R2 := by
  subst hR
  exact FzS.pick h hv
theorem withoutR_ok (l : List Int) (n : Int) (hl : l.length < 2 ^ 40) : PureA Try.prog 58 [.lst (l.map intE), .int .i64 n] (.lst ((l.filter fun y => !decide (y = n)).map intE)) := by
  refine CallA.fz (ref08_without_ok _ _ _ _ ?_)
  unfold ref08_without_w
  generalize hQ : (fun (v : AV) (L : SH) => ∃ v2 L2, FzS [v] L [v2] L2 ∧ v2 = AV.lst ((l.filter fun y => !decide (y = n)).map intE) ∧ L2 = []) = Q
  refine loop_ex l.length (fun i (o : Option Nat) => ([.lst (l.map intE), .int .i64 n, slotV o ((l.take i).filter fun y => !decide (y = n)).length, .int .i64 i], slotB o 1 (((l.take i).filter fun y => !decide (y = n)).map intE))) (fun i o => o = none → ((l.take i).filter fun y => !decide (y = n)) = []) none (fun _ => rfl) (FzS.vals (.cons (.refl _) (.cons (.refl _) (.cons .nile (.cons (.refl _) .nil))))) ?_
  intro i o hi ho
  dsimp only
  unfold ref08_without_l0
  have hle : ((l.take i).filter fun y => !decide (y = n)).length ≤ i := Nat.le_trans (List.length_filter_le _ _) (by simp; omega)
  rcases Nat.lt_or_ge i l.length with g1 | g1
  · have hd := dec_lt g1
    have hx := map_at (f := intE) g1
    have htk : ((l.take (i + 1)).filter fun y => !decide (y = n)) = if l[i] = n then ((l.take i).filter fun y => !decide (y = n)) else ((l.take i).filter fun y => !decide (y = n)) ++ [l[i]] := by
      rw [List.take_succ_eq_append_getElem g1, List.filter_append]
      by_cases h : l[i] = n <;> simp [h]
    by_cases h : l[i] = n
    · have h1 : decide (l[i] ≠ n) = false := decide_eq_false (fun e => e h)
      rw [if_pos h] at htk
      repeat' (first | (refine h_load1 ?_; refine b_load_q ?_) | (refine h_bin ?_; first | refine a_lss ?_ | refine a_neq ?_ | refine a_add ?_) | (refine h_cond ?_; first | refine b_cond_t ?_ | refine b_cond_f ?_) | (refine h_idx ?_; refine b_idx_n ?_) | (refine h_len ?_; refine a_len_m ?_))
      exact ⟨i + 1, o, by omega, by omega, by rw [htk]; exact ho, fzs_eq (by rw [i64_succ g1 (by omega), htk]; rfl) (by rw [htk])⟩
    · have h1 : decide (l[i] ≠ n) = true := decide_eq_true h
      rw [if_neg h] at htk
      repeat' (first | (refine h_load1 ?_; refine b_load_q ?_) | (refine h_bin ?_; first | refine a_lss ?_ | refine a_neq ?_ | refine a_add ?_) | (refine h_cond ?_; refine b_cond_t ?_) | (refine h_idx ?_; refine b_idx_n ?_) | (refine h_len ?_; refine a_len_m ?_) | refine a_app_o (by repeat constructor) (by repeat constructor) (by simp) (fun e => by first | simp [ho e]) (by rfl) (by simp) (by simp; omega) (by simp; omega) (by rfl) (fun nb_ hnb_ => ?_) | (refine h_bslice ?_; refine b_bslice (fun nb_ hnb_ => ?_)))
      exact ⟨i + 1, some nb_, by omega, by omega, nofun, FzS.pickE (R := [(nb_, _)]) (by repeat constructor) (by rw [i64_succ g1 (by omega), htk]; simp [slotOf, slotV]) (by rw [htk]; simp [slotB, intE])⟩
  · have hd := dec_ge g1
    repeat' (first | (refine h_bin ?_; refine a_lss ?_) | (refine h_cond ?_; refine b_cond_f ?_) | (refine h_len ?_; refine a_len_m ?_))
    subst hQ
    rw [List.take_of_length_le g1] at *
    exact ⟨_, [], FzS.all (fz_ints ho rfl (fun p hp => hp)), rfl, rfl⟩
theorem waitingR_ok (a b d : AV) (bt : Nat) (T : List ThrD) (c : Int) (hT : T.length < 2 ^ 40) (hbox : ([a, b, d, .sl bt 0 T.length] : List AV).all AV.one = true) :
    CallA Try.prog 59 [.agg [a, b, d, .sl bt 0 T.length], .int .i64 c] [(bt, ⟨3, T.map ThrD.enc⟩)] fun v L => v = .lst ((wh (waitsAt T c) T.length).map intE) ∧ L = [(bt, ⟨3, T.map ThrD.enc⟩)] := by
  refine CallA.fz (ref08_Waiting_ok _ _ _ _ ?_)
  unfold ref08_Waiting_w
  generalize hQ : (fun (v : AV) (L : SH) => ∃ v2 L2, FzS [v] L [v2] L2 ∧ v2 = AV.lst ((wh (waitsAt T c) T.length).map intE) ∧ L2 = [(bt, (⟨3, T.map ThrD.enc⟩ : Blk))]) = Q
  repeat' (first | refine a_box rfl hbox (fun nb_ hnb_ => ?_) | (refine h_frz1 ?_; refine b_frz_p ?_))
  refine loop_ex T.length (fun i (o : Option Nat) => ([.int .i64 c, .pptr [[a, b, d, .sl bt 0 T.length]] 0 0, slotV o (wh (waitsAt T c) i).length, .int .i64 i], (bt, ⟨3, T.map ThrD.enc⟩) :: slotB o 1 ((wh (waitsAt T c) i).map intE))) (fun i o => o = none → wh (waitsAt T c) i = []) none (fun _ => rfl) (FzS.vals (.cons (.refl _) (.cons (.refl _) (.cons .nile (.cons (.refl _) .nil))))) ?_
  intro i o hi ho
  dsimp only
  unfold ref08_Waiting_l0
  have hle := wh_len (waitsAt T c) i
  rcases Nat.lt_or_ge i T.length with g1 | g1
  · have hd := dec_lt g1
    have hx := map_at (f := ThrD.enc) g1
    have e1 : waitsAt T c i = (decide (T[i].status = 3) && decide (T[i].cond = c)) := by simp [waitsAt, waitsS, g1]
    have s1 := wh_succ (waitsAt T c) i
    rw [e1] at s1
    have skip : (decide (T[i].status = 3) && decide (T[i].cond = c)) = false → ∃ j o', i < j ∧ j ≤ T.length ∧ (o' = none → wh (waitsAt T c) j = []) ∧ FzS [.int .i64 c, .pptr [[a, b, d, .sl bt 0 T.length]] 0 0, slotV o (wh (waitsAt T c) i).length, .int .i64 (IntKind.i64.wrap ((i : Int) + 1))] ((bt, ⟨3, T.map ThrD.enc⟩) :: slotB o 1 ((wh (waitsAt T c) i).map intE))
        [.int .i64 c, .pptr [[a, b, d, .sl bt 0 T.length]] 0 0, slotV o' (wh (waitsAt T c) j).length, .int .i64 j] ((bt, ⟨3, T.map ThrD.enc⟩) :: slotB o' 1 ((wh (waitsAt T c) j).map intE)) := fun h => by
      rw [h] at s1
      simp only [Bool.false_eq_true, if_false] at s1
      exact ⟨i + 1, o, by omega, by omega, by rw [s1]; exact ho, fzs_eq (by rw [i64_succ g1 (by omega), s1]) (by rw [s1])⟩
    cases h1 : decide (T[i].status = 3) with
    | false =>
      have sk := skip (by rw [h1]; rfl)
      repeat' (first | (refine h_load1 ?_; first | refine b_load_q ?_ | refine b_load_p ?_) | (refine h_faddr ?_; first | refine a_faddr_q ?_ | refine a_faddr_p ?_) | (refine h_bin ?_; first | refine a_eql ?_ | refine a_lss ?_ | refine a_add ?_) | (refine h_cond ?_; first | refine b_cond_t ?_ | refine b_cond_f ?_) | (refine h_idx ?_; refine b_idx_sn ?_) | (refine h_len ?_; refine a_len_s ?_) | (refine h_pick ?_; refine b_pick_f ?_) | (refine h_grd ?_; refine b_grd_n ?_))
      exact sk
    | true =>
      cases h2 : decide (T[i].cond = c) with
      | false =>
        have sk := skip (by rw [h1, h2]; rfl)
        repeat' (first | (refine h_load1 ?_; first | refine b_load_q ?_ | refine b_load_p ?_) | (refine h_faddr ?_; first | refine a_faddr_q ?_ | refine a_faddr_p ?_) | (refine h_bin ?_; first | refine a_eql ?_ | refine a_lss ?_ | refine a_add ?_) | (refine h_cond ?_; first | refine b_cond_t ?_ | refine b_cond_f ?_) | (refine h_idx ?_; refine b_idx_sn ?_) | (refine h_len ?_; refine a_len_s ?_) | (refine h_pick ?_; refine b_pick_t ?_) | (refine h_grd ?_; refine b_grd_y ?_))
        exact sk
      | true =>
        rw [h1, h2] at s1
        simp only [Bool.and_self, if_true] at s1
        repeat' (first | (refine h_load1 ?_; first | refine b_load_q ?_ | refine b_load_p ?_) | (refine h_faddr ?_; first | refine a_faddr_q ?_ | refine a_faddr_p ?_) | (refine h_bin ?_; first | refine a_eql ?_ | refine a_lss ?_ | refine a_add ?_) | (refine h_cond ?_; refine b_cond_t ?_) | (refine h_idx ?_; refine b_idx_sn ?_) | (refine h_len ?_; refine a_len_s ?_) | (refine h_pick ?_; refine b_pick_t ?_) | (refine h_grd ?_; refine b_grd_y ?_) | refine a_app_o (by repeat constructor) (by repeat constructor) (by simp) (fun e => by first | simp [ho e]) (by rfl) (by simp) (by simp; omega) (by simp; omega) (by rfl) (fun nb_ hnb_ => ?_) | (refine h_bslice ?_; refine b_bslice (fun nb_ hnb_ => ?_)))
        exact ⟨i + 1, some nb_, by omega, by omega, nofun, FzS.pickE (R := [(bt, _), (nb_, _)]) (by repeat constructor) (by rw [i64_succ g1 (by omega), s1]; simp [slotOf, slotV]) (by rw [s1]; simp [slotB, intE, slotOf])⟩
  · have hd := dec_ge g1
    have hi0 : i = T.length := by omega
    subst hi0
    repeat' (first | (refine h_load1 ?_; refine b_load_q ?_) | (refine h_faddr ?_; refine a_faddr_q ?_) | (refine h_bin ?_; refine a_lss ?_) | (refine h_cond ?_; refine b_cond_f ?_) | (refine h_len ?_; refine a_len_s ?_))
    subst hQ
    refine ⟨_, [(bt, ⟨3, T.map ThrD.enc⟩)], ?_, rfl, rfl⟩
    refine ⟨slotB o 1 ((wh (waitsAt T c) T.length).map intE), [(bt, ⟨3, T.map ThrD.enc⟩)], List.perm_append_comm (l₁ := [(bt, (⟨3, T.map ThrD.enc⟩ : Blk))]), ⟨rfl, fun i a a2 h1 h2 => ?_⟩, rfl, fun i p q h1 h2 => ?_⟩
    · match i with
      | 0 => cases h1; cases h2; exact fz_ints ho rfl (fun p hp => hp)
      | i + 1 => simp at h1
    · rw [h1] at h2; cases h2
      exact ⟨rfl, rfl, rfl, fun j r r2 h3 h4 => by rw [h3] at h4; cases h4; exact ⟨rfl, fun k a a2 h5 h6 => by rw [h5] at h6; cases h6; exact .refl _⟩⟩
end Go.Proofs.Ytadjimfkfmojkaa.Am

end
section
namespace Go.Proofs.Ytadjimfkfmojkaa.Am
set_option maxRecDepth 100000
set_option linter.unusedSimpArgs false
set_option linter.unusedVariables false
set_option linter.unusedSectionVars false
/-- the rows of one block, wherever it stands, are read anew -/
theorem FzS.rowA {vs vs2 : List AV} {L A R K : SH} {b n : Nat} {rows rows' : List (List AV)} (h : Rest L (A ++ (b, ⟨n, rows⟩) :: R) K) (hlen : rows.length = rows'.length) (hr : ∀ (j : Nat) (r r' : List AV), rows[j]? = some r → rows'[j]? = some r' → FzL K r r') (hv : vs = vs2) : FzS vs L vs2 (A ++ (b, ⟨n, rows'⟩) :: R) := by
  subst hv
  refine ⟨K, _, h.perm, ⟨rfl, fun i a a2 h1 h2 => by rw [h1] at h2; cases h2; exact .refl _⟩, by simp, fun i p q h1 h2 => ?_⟩
  have same : p = q → p.1 = q.1 ∧ p.2.size = q.2.size ∧ p.2.rows.length = q.2.rows.length ∧ ∀ (j : Nat) (r r2 : List AV), p.2.rows[j]? = some r → q.2.rows[j]? = some r2 → r.length = r2.length ∧ ∀ (k : Nat) (a a2 : AV), r[k]? = some a → r2[k]? = some a2 → Fz K a a2 := fun e => by
    subst e
    exact ⟨rfl, rfl, rfl, fun j r r2 h3 h4 => by rw [h3] at h4; cases h4; exact ⟨rfl, fun k a a2 h5 h6 => by rw [h5] at h6; cases h6; exact .refl _⟩⟩
  rcases Nat.lt_or_ge i A.length with hi | hi
  · rw [List.getElem?_append_left hi] at h1 h2
    rw [h1] at h2; cases h2
    exact same rfl
  · rw [List.getElem?_append_right hi] at h1 h2
    generalize i - A.length = k at h1 h2
    match k with
    | 0 =>
      cases h1; cases h2
      exact ⟨rfl, rfl, hlen, fun j r r' g1 g2 => (hr j r r' g1 g2).at_⟩
    | k + 1 =>
      simp only [List.getElem?_cons_succ] at h1 h2
      rw [h1] at h2; cases h2
      exact same rfl
theorem copyR_ok (s : SyncD) (h1 : s.locks.length < 2 ^ 40) (h2 : s.done.length ≤ 140737488351232) (h3 : s.threads.length < 2 ^ 40) (hrd : ∀ l ∈ s.locks, l.readers.length < 2 ^ 40) :
    CallA Try.prog 56 [.agg s.enc] [] fun v L => ∃ (ol : Option Nat) (bd bt : Nat), v = .agg [slotV ol s.locks.length, .int .i64 s.tx, .sl bd 0 s.done.length, .sl bt 0 s.threads.length] ∧ L = slotB ol 2 (s.locks.map LockD.enc) ++ [(bt, ⟨3, s.threads.map ThrD.enc⟩), (bd, ⟨1, s.done.map boolE⟩)] ∧ (ol = none → s.locks = []) := by
  refine CallA.fz (ref08_Copy_ok _ _ _ ?_)
  unfold ref08_Copy_w
  generalize hQ : (fun (v : AV) (L : SH) => ∃ v2 L2, FzS [v] L [v2] L2 ∧ ∃ (ol : Option Nat) (bd bt : Nat), v2 = .agg [slotV ol s.locks.length, .int .i64 s.tx, .sl bd 0 s.done.length, .sl bt 0 s.threads.length] ∧ L2 = slotB ol 2 (s.locks.map LockD.enc) ++ [(bt, (⟨3, s.threads.map ThrD.enc⟩ : Blk)), (bd, ⟨1, s.done.map boolE⟩)] ∧ (ol = none → s.locks = [])) = Q
  repeat' (first | (refine h_load1 ?_; refine b_load_q ?_) | (refine h_faddr ?_; refine a_faddr_q ?_) | (refine h_calm ?_; refine b_calm ?_) | (refine h_note ?_; refine a_note ?_) | refine a_app_sm (by repeat constructor) (fun _ => rfl) (by rfl) (by simp; omega) (by simp; omega) (fun _ => rfl) (fun nb_ hnb_ => ?_) | (refine h_box ?_; refine b_box (fun nb_ hnb_ => ?_)) | (refine h_frz1 ?_; refine b_frz_p ?_) | (refine h_store ?_; refine b_store_box ?_) | (refine h_bslice ?_; refine b_bslice (fun nb_ hnb_ => ?_)) | refine a_alloc (fun nb_ hnb_ => ?_) | refine b_build ?_ | refine a_tt ?_)
  rename_i a5 _ b2 _ a3 _ bd _ a1 _ bt _
  rw [Nat.zero_add, Nat.zero_add]
  revert nb_
  intro b3 _
  refine loop_ex s.locks.length (fun i (o : Option Nat) => ([.pptr [s.enc] 0 0, .ptr b2 0 0, .ptr b3 0 0, .int .i64 i], (b3, ⟨4, [[slotV o i, .int .i64 s.tx, .sl bd 0 s.done.length, .sl bt 0 s.threads.length]]⟩) :: (bt, ⟨3, s.threads.map ThrD.enc⟩) :: (bd, ⟨1, s.done.map boolE⟩) :: (b2, ⟨4, [[.nils, .int .i64 0, .nils, .nils]]⟩) :: slotB o 2 ((s.locks.take i).map LockD.enc))) (fun i o => o = none → i = 0) none (fun _ => rfl) (FzS.box (K := []) (.refl _) (.cons .nile (.cons (.refl _) (.cons (.refl _) (.cons (.refl _) .nil))))) ?_
  intro i o hi ho
  dsimp only
  unfold ref08_Copy_l0
  have hlen : ((s.locks.take i).map LockD.enc).length = i := by simp; omega
  have h0 : o = none → (s.locks.take i).map LockD.enc = [] := fun e => by rw [ho e]; rfl
  rcases Nat.lt_or_ge i s.locks.length with g1 | g1
  · have hd := dec_lt g1
    have hx := map_at (f := LockD.enc) g1
    have hr := hrd _ (List.getElem_mem g1)
    repeat' (first | (refine h_load1 ?_; first | refine b_load_q ?_ | refine b_load_p ?_) | (refine h_faddr ?_; first | refine a_faddr_q ?_ | refine a_faddr_p ?_) | (refine h_bin ?_; first | refine a_lss ?_ | refine a_add ?_) | (refine h_cond ?_; refine b_cond_t ?_) | (refine h_idx ?_; refine b_idx_n ?_) | (refine h_len ?_; refine a_len_m ?_) | (refine h_calm ?_; refine b_calm ?_) | (refine h_note ?_; refine a_note ?_) | refine a_app_sm (by repeat constructor) (fun _ => rfl) (by rfl) (by simp; omega) (by simp; omega) (fun _ => rfl) (fun nb_ hnb_ => ?_) | refine a_app_o (by repeat constructor) (by repeat constructor) hlen h0 (by rfl) (by simp) (by simp; omega) (by simp; omega) (by rfl) (fun nb_ hnb_ => ?_) | (refine h_store ?_; refine b_store_one ?_) | (refine h_bslice ?_; refine b_bslice (fun nb_ hnb_ => ?_)) | refine b_build ?_ | refine a_tt ?_)
    rename_i br _ _ _
    refine ⟨i + 1, some nb_, by omega, by omega, nofun, ?_⟩
    refine FzS.rowA (A := [(b3, _), (bt, _), (bd, _), (b2, _)]) (b := nb_) (R := []) (rows' := (s.locks.take (i + 1)).map LockD.enc) (by repeat constructor) ?_ ?_ (by rw [i64_succ g1 (by omega)]; rfl)
    · simp; omega
    · intro j r r' q1 q2
      rw [List.take_succ_eq_append_getElem g1, List.map_append] at q2
      rcases Nat.lt_or_ge j i with hj | hj
      · rw [List.getElem?_append_left (by rw [hlen]; exact hj)] at q1 q2
        rw [q1] at q2; cases q2
        exact FzL.refl _ _
      · rw [List.getElem?_append_right (by rw [hlen]; exact hj), hlen] at q1 q2
        generalize j - i = k at q1 q2
        match k with
        | 0 =>
          cases q1; cases q2
          exact .cons (.refl _) (.cons (Fz.sls (l := s.locks[i].readers) (by repeat constructor) rfl (by decide) (by simp)) .nil)
        | k + 1 => simp at q1
  · have hd := dec_ge g1
    have hi0 : i = s.locks.length := by omega
    subst hi0
    rw [List.take_of_length_le (Nat.le_refl _)]
    have ho2 : o = none → s.locks = [] := fun e => List.length_eq_zero_iff.1 (ho e)
    cases o with
    | none =>
      dsimp only [slotV, slotB]
      repeat' (first | (refine h_load1 ?_; refine b_load_q ?_) | (refine h_faddr ?_; refine a_faddr_q ?_) | (refine h_bin ?_; refine a_lss ?_) | (refine h_cond ?_; refine b_cond_f ?_) | (refine h_row ?_; refine b_row_p ?_) | (refine h_len ?_; refine a_len_m ?_) | (refine h_store ?_; refine b_store_box ?_))
      subst hQ
      exact ⟨_, _, FzS.pick (R := [(bt, _), (bd, _)]) (by repeat constructor) rfl, none, bd, bt, rfl, rfl, ho2⟩
    | some bl =>
      dsimp only [slotV, slotB]
      repeat' (first | (refine h_load1 ?_; refine b_load_q ?_) | (refine h_faddr ?_; refine a_faddr_q ?_) | (refine h_bin ?_; refine a_lss ?_) | (refine h_cond ?_; refine b_cond_f ?_) | (refine h_row ?_; refine b_row_p ?_) | (refine h_len ?_; refine a_len_m ?_) | (refine h_store ?_; refine b_store_box ?_))
      subst hQ
      exact ⟨_, _, FzS.pick (R := [(bl, _), (bt, _), (bd, _)]) (by repeat constructor) rfl, some bl, bd, bt, rfl, rfl, ho2⟩
end Go.Proofs.Ytadjimfkfmojkaa.Am

end
section
namespace Go.Proofs.Ytadjimfkfmojkaa.Am
set_option linter.unusedVariables false
set_option maxRecDepth 100000
def law08_ObjectTells_t : Hints := ⟨fun k => none, fun k => [], fun k => if k = 0 then [6, 7] else if k = 3 then [13] else if k = 4 then [16] else [], fun k => if k = 7 then [0, 0, 0, 0, 0, 31, 0, 127, 255, 511, 511, 2047, 4095, 8191, 16383, 16383, 65535, 131071, 262143, 524287, 524287, 2097151, 4194303, 8388607, 16777215, 16777215, 67108863, 134217727, 268435455, 536870911, 536870911, 2147483647, 4294967295, 8589934591, 17179869183, 17179869183, 17179869183, 17179869183, 17179869183, 549755813887, 17179869183, 17179869183, 17179869183, 17179869183, 17179869183, 35184372088831, 70368744177663, 140737488355327, 281474976710655, 562949953421311, 562949953421311, 2251799813685247, 562949953421311, 562949953421311, 18014398509481983, 36028797018963967, 72057594037927935, 144115188075855871, 288230376151711743, 576460752303423487, 1152921504606846975] else []⟩
def law08_ObjectTells_d0 (L_46 : SH) (t37_19 : AV) (t48_31 : AV) (t36_18 : AV) (t47_30 : AV) (t13_23 : AV) (t16_35 : AV) (t54_41 : AV) (t61_47 : AV) (t55_42 : AV) (t62_48 : AV) (t6_4 : AV) (t7_6 : AV) (t2 : AV) (t3 : AV) (t4 : AV) (Q : AV → SH → Prop) (t68_53 : AV) (L_55 : SH) (ks_54 : List Nat) : Prop :=
 W.note ⟨[], ks_54, [], L_46.names⟩ fun r_56 =>
 W.bin Try.prog Fl .eql 4 t68_53 t37_19 fun t70_57 =>
 W.dgrd t70_57 true (fun k_59 => k_59 t37_19 L_55 ⟨[], [], [], []⟩) L_55 fun t72_58 L_61 r_60 =>
 W.dgrd t70_57 true (fun k_63 => k_63 t48_31 L_61 ⟨[], [], [], []⟩) L_61 fun t73_62 L_65 r_64 =>
 W.dgrd t70_57 true (fun k_67 => W.bin Try.prog Fl .eql 4 t72_58 t73_62 fun v_70 =>
 k_67 v_70 L_65 ⟨[], [], [], []⟩) L_65 fun t74_66 L_69 r_68 =>
 W.pick t70_57 t74_66 (.bool false) fun t75_71 =>
 W.dgrd t75_71 true (fun k_73 => k_73 t36_18 L_69 ⟨[], [], [], []⟩) L_69 fun t77_72 L_75 r_74 =>
 W.dgrd t75_71 true (fun k_77 => k_77 t47_30 L_75 ⟨[], [], [], []⟩) L_75 fun t78_76 L_79 r_78 =>
 W.dgrd t75_71 true (fun k_81 => W.bin Try.prog Fl .eql 2 t77_72 t78_76 fun v_84 =>
 k_81 v_84 L_79 ⟨[], [], [], []⟩) L_79 fun t79_80 L_83 r_82 =>
 W.pick t75_71 t79_80 (.bool false) fun t80_85 =>
 W.dgrd t80_85 true (fun k_87 => W.calm [] ⟨19, (blocksOf t13_23), [], [], false, []⟩ (
 W.load true 4 t13_23 L_83 fun v_90 =>
 W.note ⟨(blocksOf t13_23), [], [], []⟩ fun r_91 =>
 k_87 v_90 L_83 r_91)) L_83 fun t82_86 L_89 r_88 =>
 W.dgrd t80_85 true (fun k_93 => W.calm [⟨19, r_88.reads, r_88.writes, r_88.made, false, r_88.old⟩] ⟨20, (blocksOf t16_35), [], [], false, []⟩ (
 W.load true 4 t16_35 L_89 fun v_96 =>
 W.note ⟨(blocksOf t16_35), [], [], []⟩ fun r_97 =>
 k_93 v_96 L_89 r_97)) L_89 fun t83_92 L_95 r_94 =>
 W.dgrd t80_85 true (fun k_99 => W.dcall Try.prog [] 21 (.fn 20 []) [t82_86, t83_92] L_95 fun v_102 L_104 ks_103 =>
 W.note ⟨[], ks_103, [], L_95.names⟩ fun r_105 =>
 k_99 v_102 L_104 r_105) L_95 fun t84_98 L_101 r_100 =>
 W.pick t80_85 t84_98 (.bool false) fun t85_106 =>
 W.dgrd t85_106 true (fun k_108 => k_108 t54_41 L_101 ⟨[], [], [], []⟩) L_101 fun t87_107 L_110 r_109 =>
 W.dgrd t85_106 true (fun k_112 => k_112 t61_47 L_110 ⟨[], [], [], []⟩) L_110 fun t88_111 L_114 r_113 =>
 W.dgrd t85_106 true (fun k_116 => W.dcall Try.prog [] 26 (.fn 34 []) [t87_107, t88_111] L_114 fun v_119 L_121 ks_120 =>
 W.note ⟨[], ks_120, [], L_114.names⟩ fun r_122 =>
 k_116 v_119 L_121 r_122) L_114 fun t89_115 L_118 r_117 =>
 W.pick t85_106 t89_115 (.bool false) fun t90_123 =>
 W.dgrd t90_123 true (fun k_125 => k_125 t55_42 L_118 ⟨[], [], [], []⟩) L_118 fun t92_124 L_127 r_126 =>
 W.dgrd t90_123 true (fun k_129 => k_129 t62_48 L_127 ⟨[], [], [], []⟩) L_127 fun t93_128 L_131 r_130 =>
 W.dgrd t90_123 true (fun k_133 => W.dcall Try.prog [] 31 (.fn 34 []) [t92_124, t93_128] L_131 fun v_136 L_138 ks_137 =>
 W.note ⟨[], ks_137, [], L_131.names⟩ fun r_139 =>
 k_133 v_136 L_138 r_139) L_131 fun t94_132 L_135 r_134 =>
 W.pick t90_123 t94_132 (.bool false) fun t95_140 =>
 W.dgrd t95_140 true (fun k_142 => W.calm [] ⟨34, (blocksOf t6_4), [], [], false, []⟩ (
 W.load true 6 t6_4 L_135 fun v_145 =>
 W.note ⟨(blocksOf t6_4), [], [], []⟩ fun r_146 =>
 k_142 v_145 L_135 r_146)) L_135 fun t97_141 L_144 r_143 =>
 W.dgrd t95_140 true (fun k_148 => W.calm [⟨34, r_143.reads, r_143.writes, r_143.made, false, r_143.old⟩] ⟨35, (blocksOf t7_6), [], [], false, []⟩ (
 W.load true 4 t7_6 L_144 fun v_151 =>
 W.note ⟨(blocksOf t7_6), [], [], []⟩ fun r_152 =>
 k_148 v_151 L_144 r_152)) L_144 fun t98_147 L_150 r_149 =>
 W.dgrd t95_140 true (fun k_154 => k_154 t2 L_150 ⟨[], [], [], []⟩) L_150 fun t99_153 L_156 r_155 =>
 W.dgrd t95_140 true (fun k_158 => k_158 t3 L_156 ⟨[], [], [], []⟩) L_156 fun t100_157 L_160 r_159 =>
 W.dgrd t95_140 true (fun k_162 => k_162 t4 L_160 ⟨[], [], [], []⟩) L_160 fun t101_161 L_164 r_163 =>
 W.dgrd t95_140 true (fun k_166 => W.dcall Try.prog [] 39 (.fn 35 []) [t97_141, t98_147, t99_153, t100_157, t101_161] L_164 fun v_169 L_171 ks_170 =>
 W.note ⟨[], ks_170, [], L_164.names⟩ fun r_172 =>
 k_166 v_169 L_171 r_172) L_164 fun t102_165 L_168 r_167 =>
 W.dgrd t95_140 true (fun k_174 => W.calm [⟨39, r_167.reads, r_167.writes, r_167.made, true, r_167.old⟩, ⟨35, r_149.reads, r_149.writes, r_149.made, false, r_149.old⟩, ⟨34, r_143.reads, r_143.writes, r_143.made, false, r_143.old⟩] ⟨40, (blocksOf t6_4), [], [], false, []⟩ (
 W.load true 6 t6_4 L_168 fun v_177 =>
 W.note ⟨(blocksOf t6_4), [], [], []⟩ fun r_178 =>
 k_174 v_177 L_168 r_178)) L_168 fun t103_173 L_176 r_175 =>
 W.dgrd t95_140 true (fun k_180 => W.calm [⟨40, r_175.reads, r_175.writes, r_175.made, false, r_175.old⟩, ⟨39, r_167.reads, r_167.writes, r_167.made, true, r_167.old⟩, ⟨35, r_149.reads, r_149.writes, r_149.made, false, r_149.old⟩, ⟨34, r_143.reads, r_143.writes, r_143.made, false, r_143.old⟩] ⟨41, (blocksOf t7_6), [], [], false, []⟩ (
 W.load true 4 t7_6 L_176 fun v_183 =>
 W.note ⟨(blocksOf t7_6), [], [], []⟩ fun r_184 =>
 k_180 v_183 L_176 r_184)) L_176 fun t104_179 L_182 r_181 =>
 W.dgrd t95_140 true (fun k_186 => k_186 t2 L_182 ⟨[], [], [], []⟩) L_182 fun t105_185 L_188 r_187 =>
 W.dgrd t95_140 true (fun k_190 => k_190 t3 L_188 ⟨[], [], [], []⟩) L_188 fun t106_189 L_192 r_191 =>
 W.dgrd t95_140 true (fun k_194 => k_194 t4 L_192 ⟨[], [], [], []⟩) L_192 fun t107_193 L_196 r_195 =>
 W.dgrd t95_140 true (fun k_198 => W.dcall Try.prog [] 45 (.fn 36 []) [t103_173, t104_179, t105_185, t106_189, t107_193] L_196 fun v_201 L_203 ks_202 =>
 W.note ⟨[], ks_202, [], L_196.names⟩ fun r_204 =>
 k_198 v_201 L_203 r_204) L_196 fun t108_197 L_200 r_199 =>
 W.dgrd t95_140 true (fun k_206 => W.dcall Try.prog [] 46 (.fn 34 []) [t102_165, t108_197] L_200 fun v_209 L_211 ks_210 =>
 W.note ⟨[], ks_210, [], L_200.names⟩ fun r_212 =>
 k_206 v_209 L_211 r_212) L_200 fun t109_205 L_208 r_207 =>
 W.pick t95_140 t109_205 (.bool false) fun t110_213 =>
 W.dgrd t110_213 true (fun k_215 => W.calm [] ⟨49, (blocksOf t6_4), [], [], false, []⟩ (
 W.load true 6 t6_4 L_208 fun v_218 =>
 W.note ⟨(blocksOf t6_4), [], [], []⟩ fun r_219 =>
 k_215 v_218 L_208 r_219)) L_208 fun t112_214 L_217 r_216 =>
 W.dgrd t110_213 true (fun k_221 => W.calm [⟨49, r_216.reads, r_216.writes, r_216.made, false, r_216.old⟩] ⟨50, (blocksOf t7_6), [], [], false, []⟩ (
 W.load true 4 t7_6 L_217 fun v_224 =>
 W.note ⟨(blocksOf t7_6), [], [], []⟩ fun r_225 =>
 k_221 v_224 L_217 r_225)) L_217 fun t113_220 L_223 r_222 =>
 W.dgrd t110_213 true (fun k_227 => W.dcall Try.prog [] 51 (.fn 37 []) [t112_214, t113_220] L_223 fun v_230 L_232 ks_231 =>
 W.note ⟨[], ks_231, [], L_223.names⟩ fun r_233 =>
 k_227 v_230 L_232 r_233) L_223 fun t114_226 L_229 r_228 =>
 W.dgrd t110_213 true (fun k_235 => W.calm [⟨51, r_228.reads, r_228.writes, r_228.made, true, r_228.old⟩, ⟨50, r_222.reads, r_222.writes, r_222.made, false, r_222.old⟩, ⟨49, r_216.reads, r_216.writes, r_216.made, false, r_216.old⟩] ⟨52, (blocksOf t6_4), [], [], false, []⟩ (
 W.load true 6 t6_4 L_229 fun v_238 =>
 W.note ⟨(blocksOf t6_4), [], [], []⟩ fun r_239 =>
 k_235 v_238 L_229 r_239)) L_229 fun t115_234 L_237 r_236 =>
 W.dgrd t110_213 true (fun k_241 => W.calm [⟨52, r_236.reads, r_236.writes, r_236.made, false, r_236.old⟩, ⟨51, r_228.reads, r_228.writes, r_228.made, true, r_228.old⟩, ⟨50, r_222.reads, r_222.writes, r_222.made, false, r_222.old⟩, ⟨49, r_216.reads, r_216.writes, r_216.made, false, r_216.old⟩] ⟨53, (blocksOf t7_6), [], [], false, []⟩ (
 W.load true 4 t7_6 L_237 fun v_244 =>
 W.note ⟨(blocksOf t7_6), [], [], []⟩ fun r_245 =>
 k_241 v_244 L_237 r_245)) L_237 fun t116_240 L_243 r_242 =>
 W.dgrd t110_213 true (fun k_247 => W.dcall Try.prog [] 54 (.fn 38 []) [t115_234, t116_240] L_243 fun v_250 L_252 ks_251 =>
 W.note ⟨[], ks_251, [], L_243.names⟩ fun r_253 =>
 k_247 v_250 L_252 r_253) L_243 fun t117_246 L_249 r_248 =>
 W.dgrd t110_213 true (fun k_255 => W.bin Try.prog Fl .eql 4 t114_226 t117_246 fun v_258 =>
 k_255 v_258 L_249 ⟨[], [], [], []⟩) L_249 fun t118_254 L_257 r_256 =>
 W.pick t110_213 t118_254 (.bool false) fun t119_259 =>
 W.dgrd t119_259 true (fun k_261 => W.dcall Try.prog [] 58 (.fn 23 []) [] L_257 fun v_264 L_266 ks_265 =>
 W.note ⟨[], ks_265, [], L_257.names⟩ fun r_267 =>
 k_261 v_264 L_266 r_267) L_257 fun t121_260 L_263 r_262 =>
 W.pick t119_259 t121_260 (.bool false) fun t122_268 =>
 Q t122_268 L_263
def law08_ObjectTells_c1 (t6_4 : AV) (t7_6 : AV) (t2 : AV) (t3 : AV) (t4 : AV) (t37_19 : AV) (t48_31 : AV) (t36_18 : AV) (t47_30 : AV) (t13_23 : AV) (t16_35 : AV) (t54_41 : AV) (t55_42 : AV) (Q : AV → SH → Prop) (t60_45 : AV) (L_46 : SH) : Prop :=
 W.ext 0 t60_45 fun t61_47 =>
 W.ext 1 t60_45 fun t62_48 =>
 (true = true) ∧ (
 W.calm [] ⟨0, (blocksOf t6_4), [], [], false, []⟩ (
 W.load true 6 t6_4 L_46 fun t63_49 =>
 W.note ⟨(blocksOf t6_4), [], [], []⟩ fun r_50 =>
 W.calm [⟨0, r_50.reads, r_50.writes, r_50.made, false, r_50.old⟩] ⟨1, (blocksOf t7_6), [], [], false, []⟩ (
 W.load true 4 t7_6 L_46 fun t64_51 =>
 W.note ⟨(blocksOf t7_6), [], [], []⟩ fun r_52 =>
 W.dcall Try.prog [] 5 (.fn 27 []) [t63_49, t64_51, t2, t3, t4] L_46 (law08_ObjectTells_d0 L_46 t37_19 t48_31 t36_18 t47_30 t13_23 t16_35 t54_41 t61_47 t55_42 t62_48 t6_4 t7_6 t2 t3 t4 Q))))
def law08_ObjectTells_c2 (t6_4 : AV) (t7_6 : AV) (t2 : AV) (t3 : AV) (t4 : AV) (t37_19 : AV) (t48_31 : AV) (t36_18 : AV) (t47_30 : AV) (t13_23 : AV) (t16_35 : AV) (Q : AV → SH → Prop) (t53_39 : AV) (L_40 : SH) : Prop :=
 W.ext 0 t53_39 fun t54_41 =>
 W.ext 1 t53_39 fun t55_42 =>
 W.load true 6 t6_4 L_40 fun t57_43 =>
 W.load true 4 t7_6 L_40 fun t58_44 =>
 W.call Try.prog (.fn 33 []) [t57_43, t58_44, t2] L_40 (law08_ObjectTells_c1 t6_4 t7_6 t2 t3 t4 t37_19 t48_31 t36_18 t47_30 t13_23 t16_35 t54_41 t55_42 Q)
def law08_ObjectTells_c3 (t6_4 : AV) (t7_6 : AV) (t2 : AV) (t3 : AV) (t4 : AV) (t37_19 : AV) (t36_18 : AV) (t13_23 : AV) (Q : AV → SH → Prop) (t45_27 : AV) (L_28 : SH) : Prop :=
 W.ext 0 t45_27 fun t46_29 =>
 W.ext 1 t45_27 fun t47_30 =>
 W.ext 2 t45_27 fun t48_31 =>
 W.alloc [.nils, (.int .i64 0), .nils, .nils] L_28 fun t16_32 L_33 =>
 W.store 4 t16_32 t46_29 L_33 fun L_34 =>
 W.frz1 t16_32 L_34 fun t16_35 L_36 =>
 W.load true 6 t6_4 L_36 fun t50_37 =>
 W.load true 4 t7_6 L_36 fun t51_38 =>
 W.call Try.prog (.fn 32 []) [t50_37, t51_38, t2] L_36 (law08_ObjectTells_c2 t6_4 t7_6 t2 t3 t4 t37_19 t48_31 t36_18 t47_30 t13_23 t16_35 Q)
def law08_ObjectTells_c4 (t6_4 : AV) (t7_6 : AV) (t2 : AV) (t3 : AV) (t4 : AV) (t5 : AV) (Q : AV → SH → Prop) (t34_15 : AV) (L_16 : SH) : Prop :=
 W.ext 0 t34_15 fun t35_17 =>
 W.ext 1 t34_15 fun t36_18 =>
 W.ext 2 t34_15 fun t37_19 =>
 W.alloc [.nils, (.int .i64 0), .nils, .nils] L_16 fun t13_20 L_21 =>
 W.store 4 t13_20 t35_17 L_21 fun L_22 =>
 W.frz1 t13_20 L_22 fun t13_23 L_24 =>
 W.load true 6 t6_4 L_24 fun t39_25 =>
 W.load true 4 t7_6 L_24 fun t40_26 =>
 W.call Try.prog (.fn 29 []) [t39_25, t40_26, t2, t3, t4, t5] L_24 (law08_ObjectTells_c3 t6_4 t7_6 t2 t3 t4 t37_19 t36_18 t13_23 Q)
def law08_ObjectTells_zt0 (t6_4 : AV) (L_11 : SH) (t7_6 : AV) (t2 : AV) (t3 : AV) (t4 : AV) (t5 : AV) (Q : AV → SH → Prop)  : Prop :=
 W.load true 6 t6_4 L_11 fun t28_13 =>
 W.load true 4 t7_6 L_11 fun t29_14 =>
 W.call Try.prog (.fn 26 []) [t28_13, t29_14, t2, t3, t4, t5] L_11 (law08_ObjectTells_c4 t6_4 t7_6 t2 t3 t4 t5 Q)
def law08_ObjectTells_c5 (Q : AV → SH → Prop) (t6_4 : AV) (t7_6 : AV) (t2 : AV) (t3 : AV) (t4 : AV) (t5 : AV) (t25_10 : AV) (L_11 : SH) : Prop :=
 W.un .not t25_10 fun t26_12 =>
 W.cond t26_12 (
 Q (.bool true) L_11) (
 (law08_ObjectTells_zt0 t6_4 L_11 t7_6 t2 t3 t4 t5 Q))
def law08_ObjectTells_w (t0 t1 t2 t3 t4 t5 : AV) (L : SH) (Q : AV → SH → Prop) : Prop :=
 W.box t0 L fun t6_0 L_1 =>
 W.box t1 L_1 fun t7_2 L_3 =>
 W.frz1 t6_0 L_3 fun t6_4 L_5 =>
 W.frz1 t7_2 L_5 fun t7_6 L_7 =>
 W.load true 6 t6_4 L_7 fun t23_8 =>
 W.load true 4 t7_6 L_7 fun t24_9 =>
 W.call Try.prog (.fn 31 []) [t23_8, t24_9] L_7 (law08_ObjectTells_c5 Q t6_4 t7_6 t2 t3 t4 t5)
theorem law08_ObjectTells_e (t0 t1 t2 t3 t4 t5 : AV) (L : SH) (Q : AV → SH → Prop) : W.func Try.prog Fl law08_ObjectTells_t Try.f11 (Try.f11.body.getD .skip) [t0, t1, t2, t3, t4, t5] L Q = law08_ObjectTells_w t0 t1 t2 t3 t4 t5 L Q := by kernel_rfl
theorem law08_ObjectTells_ok (t0 t1 t2 t3 t4 t5 : AV) (L : SH) (Q : AV → SH → Prop) (h : law08_ObjectTells_w t0 t1 t2 t3 t4 t5 L Q) : CallA Try.prog 11 [t0, t1, t2, t3, t4, t5] L Q :=
  func_sound (ht := law08_ObjectTells_t) fit Try.func11 (show Try.f11.body = some (Try.f11.body.getD .skip) by kernel_rfl) (Eq.mpr (law08_ObjectTells_e t0 t1 t2 t3 t4 t5 L Q) h)

def law08_ObjectAny_t : Hints := ⟨fun k => none, fun k => if k = 9 then [1, 2, 5, 6, 7, 8, 9] else if k = 6 then [1, 2, 5, 6, 7, 8] else if k = 3 then [1, 2, 5, 6, 7] else [], fun k => if k = 0 then [2] else if k = 1 then [5, 6] else if k = 11 then [10] else if k = 12 then [13] else [], fun k => if k = 1 then [0, 0, 3, 0, 0, 31, 63] else if k = 13 then [0, 0, 0, 0, 0, 31, 0, 127, 255, 511, 511, 2047, 4095, 8191, 16383, 16383, 65535, 131071, 262143, 524287, 524287, 2097151, 4194303, 8388607, 16777215, 33554431, 33554431, 33554431, 33554431, 33554431, 1073741823, 33554431, 33554431, 33554431, 33554431, 33554431, 68719476735, 137438953471, 274877906943, 549755813887] else if k = 19 then [0, 0, 2, 7, 15, 31, 63, 127] else []⟩
def law08_ObjectAny_zt0 (vs_36 : List AV) (nx_37 : W.Kn) (L_204 : SH)  : Prop :=
 W.bin Try.prog Fl .add 3 (slotOf [1, 2, 5, 6, 7, 8, 9] vs_36 9) (.int .i64 1) fun t34_207 =>
 nx_37 [(slotOf [1, 2, 5, 6, 7, 8, 9] vs_36 1), (slotOf [1, 2, 5, 6, 7, 8, 9] vs_36 2), (slotOf [1, 2, 5, 6, 7, 8, 9] vs_36 5), (slotOf [1, 2, 5, 6, 7, 8, 9] vs_36 6), (slotOf [1, 2, 5, 6, 7, 8, 9] vs_36 7), (slotOf [1, 2, 5, 6, 7, 8, 9] vs_36 8), t34_207] L_204
def law08_ObjectAny_d0 (L_65 : SH) (t46_47 : AV) (t58_60 : AV) (t45_46 : AV) (t57_59 : AV) (t10_51 : AV) (t13_64 : AV) (vs_36 : List AV) (Q : AV → SH → Prop) (nx_37 : W.Kn) (t64_70 : AV) (L_72 : SH) (ks_71 : List Nat) : Prop :=
 W.note ⟨[], ks_71, [], L_65.names⟩ fun r_73 =>
 W.bin Try.prog Fl .neq 4 t64_70 t46_47 fun t66_74 =>
 W.dgrd t66_74 false (fun k_76 => k_76 t46_47 L_72 ⟨[], [], [], []⟩) L_72 fun t68_75 L_78 r_77 =>
 W.dgrd t66_74 false (fun k_80 => k_80 t58_60 L_78 ⟨[], [], [], []⟩) L_78 fun t69_79 L_82 r_81 =>
 W.dgrd t66_74 false (fun k_84 => W.bin Try.prog Fl .neq 4 t68_75 t69_79 fun v_87 =>
 k_84 v_87 L_82 ⟨[], [], [], []⟩) L_82 fun t70_83 L_86 r_85 =>
 W.pick t66_74 (.bool true) t70_83 fun t71_88 =>
 W.dgrd t71_88 false (fun k_90 => k_90 t45_46 L_86 ⟨[], [], [], []⟩) L_86 fun t73_89 L_92 r_91 =>
 W.dgrd t71_88 false (fun k_94 => k_94 t57_59 L_92 ⟨[], [], [], []⟩) L_92 fun t74_93 L_96 r_95 =>
 W.dgrd t71_88 false (fun k_98 => W.bin Try.prog Fl .neq 2 t73_89 t74_93 fun v_101 =>
 k_98 v_101 L_96 ⟨[], [], [], []⟩) L_96 fun t75_97 L_100 r_99 =>
 W.pick t71_88 (.bool true) t75_97 fun t76_102 =>
 W.dgrd t76_102 false (fun k_104 => W.calm [] ⟨19, (blocksOf t10_51), [], [], false, []⟩ (
 W.load true 4 t10_51 L_100 fun v_107 =>
 W.note ⟨(blocksOf t10_51), [], [], []⟩ fun r_108 =>
 k_104 v_107 L_100 r_108)) L_100 fun t78_103 L_106 r_105 =>
 W.dgrd t76_102 false (fun k_110 => W.calm [⟨19, r_105.reads, r_105.writes, r_105.made, false, r_105.old⟩] ⟨20, (blocksOf t13_64), [], [], false, []⟩ (
 W.load true 4 t13_64 L_106 fun v_113 =>
 W.note ⟨(blocksOf t13_64), [], [], []⟩ fun r_114 =>
 k_110 v_113 L_106 r_114)) L_106 fun t79_109 L_112 r_111 =>
 W.dgrd t76_102 false (fun k_116 => W.dcall Try.prog [] 21 (.fn 20 []) [t78_103, t79_109] L_112 fun v_119 L_121 ks_120 =>
 W.note ⟨[], ks_120, [], L_112.names⟩ fun r_122 =>
 k_116 v_119 L_121 r_122) L_112 fun t80_115 L_118 r_117 =>
 W.dgrd t76_102 false (fun k_124 => W.un .not t80_115 fun v_127 =>
 k_124 v_127 L_118 ⟨[], [], [], []⟩) L_118 fun t81_123 L_126 r_125 =>
 W.pick t76_102 (.bool true) t81_123 fun t82_128 =>
 W.dgrd t82_128 false (fun k_130 => W.calm [] ⟨25, (blocksOf (slotOf [1, 2, 5, 6, 7, 8, 9] vs_36 5)), [], [], false, []⟩ (
 W.load true 6 (slotOf [1, 2, 5, 6, 7, 8, 9] vs_36 5) L_126 fun v_133 =>
 W.note ⟨(blocksOf (slotOf [1, 2, 5, 6, 7, 8, 9] vs_36 5)), [], [], []⟩ fun r_134 =>
 k_130 v_133 L_126 r_134)) L_126 fun t84_129 L_132 r_131 =>
 W.dgrd t82_128 false (fun k_136 => W.calm [⟨25, r_131.reads, r_131.writes, r_131.made, false, r_131.old⟩] ⟨26, (blocksOf (slotOf [1, 2, 5, 6, 7, 8, 9] vs_36 6)), [], [], false, []⟩ (
 W.load true 4 (slotOf [1, 2, 5, 6, 7, 8, 9] vs_36 6) L_132 fun v_139 =>
 W.note ⟨(blocksOf (slotOf [1, 2, 5, 6, 7, 8, 9] vs_36 6)), [], [], []⟩ fun r_140 =>
 k_136 v_139 L_132 r_140)) L_132 fun t85_135 L_138 r_137 =>
 W.dgrd t82_128 false (fun k_142 => k_142 (slotOf [1, 2, 5, 6, 7, 8, 9] vs_36 7) L_138 ⟨[], [], [], []⟩) L_138 fun t86_141 L_144 r_143 =>
 W.dgrd t82_128 false (fun k_146 => k_146 (slotOf [1, 2, 5, 6, 7, 8, 9] vs_36 8) L_144 ⟨[], [], [], []⟩) L_144 fun t87_145 L_148 r_147 =>
 W.dgrd t82_128 false (fun k_150 => k_150 (slotOf [1, 2, 5, 6, 7, 8, 9] vs_36 9) L_148 ⟨[], [], [], []⟩) L_148 fun t88_149 L_152 r_151 =>
 W.dgrd t82_128 false (fun k_154 => W.dcall Try.prog [] 30 (.fn 35 []) [t84_129, t85_135, t86_141, t87_145, t88_149] L_152 fun v_157 L_159 ks_158 =>
 W.note ⟨[], ks_158, [], L_152.names⟩ fun r_160 =>
 k_154 v_157 L_159 r_160) L_152 fun t89_153 L_156 r_155 =>
 W.dgrd t82_128 false (fun k_162 => W.calm [⟨30, r_155.reads, r_155.writes, r_155.made, true, r_155.old⟩, ⟨26, r_137.reads, r_137.writes, r_137.made, false, r_137.old⟩, ⟨25, r_131.reads, r_131.writes, r_131.made, false, r_131.old⟩] ⟨31, (blocksOf (slotOf [1, 2, 5, 6, 7, 8, 9] vs_36 5)), [], [], false, []⟩ (
 W.load true 6 (slotOf [1, 2, 5, 6, 7, 8, 9] vs_36 5) L_156 fun v_165 =>
 W.note ⟨(blocksOf (slotOf [1, 2, 5, 6, 7, 8, 9] vs_36 5)), [], [], []⟩ fun r_166 =>
 k_162 v_165 L_156 r_166)) L_156 fun t90_161 L_164 r_163 =>
 W.dgrd t82_128 false (fun k_168 => W.calm [⟨31, r_163.reads, r_163.writes, r_163.made, false, r_163.old⟩, ⟨30, r_155.reads, r_155.writes, r_155.made, true, r_155.old⟩, ⟨26, r_137.reads, r_137.writes, r_137.made, false, r_137.old⟩, ⟨25, r_131.reads, r_131.writes, r_131.made, false, r_131.old⟩] ⟨32, (blocksOf (slotOf [1, 2, 5, 6, 7, 8, 9] vs_36 6)), [], [], false, []⟩ (
 W.load true 4 (slotOf [1, 2, 5, 6, 7, 8, 9] vs_36 6) L_164 fun v_171 =>
 W.note ⟨(blocksOf (slotOf [1, 2, 5, 6, 7, 8, 9] vs_36 6)), [], [], []⟩ fun r_172 =>
 k_168 v_171 L_164 r_172)) L_164 fun t91_167 L_170 r_169 =>
 W.dgrd t82_128 false (fun k_174 => k_174 (slotOf [1, 2, 5, 6, 7, 8, 9] vs_36 7) L_170 ⟨[], [], [], []⟩) L_170 fun t92_173 L_176 r_175 =>
 W.dgrd t82_128 false (fun k_178 => k_178 (slotOf [1, 2, 5, 6, 7, 8, 9] vs_36 8) L_176 ⟨[], [], [], []⟩) L_176 fun t93_177 L_180 r_179 =>
 W.dgrd t82_128 false (fun k_182 => k_182 (slotOf [1, 2, 5, 6, 7, 8, 9] vs_36 9) L_180 ⟨[], [], [], []⟩) L_180 fun t94_181 L_184 r_183 =>
 W.dgrd t82_128 false (fun k_186 => W.dcall Try.prog [] 36 (.fn 36 []) [t90_161, t91_167, t92_173, t93_177, t94_181] L_184 fun v_189 L_191 ks_190 =>
 W.note ⟨[], ks_190, [], L_184.names⟩ fun r_192 =>
 k_186 v_189 L_191 r_192) L_184 fun t95_185 L_188 r_187 =>
 W.dgrd t82_128 false (fun k_194 => W.dcall Try.prog [] 37 (.fn 34 []) [t89_153, t95_185] L_188 fun v_197 L_199 ks_198 =>
 W.note ⟨[], ks_198, [], L_188.names⟩ fun r_200 =>
 k_194 v_197 L_199 r_200) L_188 fun t96_193 L_196 r_195 =>
 W.dgrd t82_128 false (fun k_202 => W.un .not t96_193 fun v_205 =>
 k_202 v_205 L_196 ⟨[], [], [], []⟩) L_196 fun t97_201 L_204 r_203 =>
 W.pick t82_128 (.bool true) t97_201 fun t98_206 =>
 W.cond t98_206 (
 Q (.bool false) L_204) (
 (law08_ObjectAny_zt0 vs_36 nx_37 L_204))
def law08_ObjectAny_c1 (vs_36 : List AV) (t46_47 : AV) (t45_46 : AV) (t10_51 : AV) (Q : AV → SH → Prop) (nx_37 : W.Kn) (t55_56 : AV) (L_57 : SH) : Prop :=
 W.ext 0 t55_56 fun t56_58 =>
 W.ext 1 t55_56 fun t57_59 =>
 W.ext 2 t55_56 fun t58_60 =>
 W.alloc [.nils, (.int .i64 0), .nils, .nils] L_57 fun t13_61 L_62 =>
 W.store 4 t13_61 t56_58 L_62 fun L_63 =>
 W.frz1 t13_61 L_63 fun t13_64 L_65 =>
 (true = true) ∧ (
 W.calm [] ⟨0, (blocksOf (slotOf [1, 2, 5, 6, 7, 8, 9] vs_36 5)), [], [], false, []⟩ (
 W.load true 6 (slotOf [1, 2, 5, 6, 7, 8, 9] vs_36 5) L_65 fun t59_66 =>
 W.note ⟨(blocksOf (slotOf [1, 2, 5, 6, 7, 8, 9] vs_36 5)), [], [], []⟩ fun r_67 =>
 W.calm [⟨0, r_67.reads, r_67.writes, r_67.made, false, r_67.old⟩] ⟨1, (blocksOf (slotOf [1, 2, 5, 6, 7, 8, 9] vs_36 6)), [], [], false, []⟩ (
 W.load true 4 (slotOf [1, 2, 5, 6, 7, 8, 9] vs_36 6) L_65 fun t60_68 =>
 W.note ⟨(blocksOf (slotOf [1, 2, 5, 6, 7, 8, 9] vs_36 6)), [], [], []⟩ fun r_69 =>
 W.dcall Try.prog [] 5 (.fn 27 []) [t59_66, t60_68, (slotOf [1, 2, 5, 6, 7, 8, 9] vs_36 7), (slotOf [1, 2, 5, 6, 7, 8, 9] vs_36 8), (slotOf [1, 2, 5, 6, 7, 8, 9] vs_36 9)] L_65 (law08_ObjectAny_d0 L_65 t46_47 t58_60 t45_46 t57_59 t10_51 t13_64 vs_36 Q nx_37))))
def law08_ObjectAny_c2 (vs_36 : List AV) (Q : AV → SH → Prop) (nx_37 : W.Kn) (t43_43 : AV) (L_44 : SH) : Prop :=
 W.ext 0 t43_43 fun t44_45 =>
 W.ext 1 t43_43 fun t45_46 =>
 W.ext 2 t43_43 fun t46_47 =>
 W.alloc [.nils, (.int .i64 0), .nils, .nils] L_44 fun t10_48 L_49 =>
 W.store 4 t10_48 t44_45 L_49 fun L_50 =>
 W.frz1 t10_48 L_50 fun t10_51 L_52 =>
 W.load true 6 (slotOf [1, 2, 5, 6, 7, 8, 9] vs_36 5) L_52 fun t48_53 =>
 W.load true 4 (slotOf [1, 2, 5, 6, 7, 8, 9] vs_36 6) L_52 fun t49_54 =>
 W.conv .i64 (slotOf [1, 2, 5, 6, 7, 8, 9] vs_36 1) fun t54_55 =>
 W.call Try.prog (.fn 29 []) [t48_53, t49_54, (slotOf [1, 2, 5, 6, 7, 8, 9] vs_36 7), (slotOf [1, 2, 5, 6, 7, 8, 9] vs_36 8), (slotOf [1, 2, 5, 6, 7, 8, 9] vs_36 9), t54_55] L_52 (law08_ObjectAny_c1 vs_36 t46_47 t45_46 t10_51 Q nx_37)
def law08_ObjectAny_zt1 (vs_36 : List AV) (L_38 : SH) (Q : AV → SH → Prop) (nx_37 : W.Kn)  : Prop :=
 W.load true 6 (slotOf [1, 2, 5, 6, 7, 8, 9] vs_36 5) L_38 fun t36_40 =>
 W.load true 4 (slotOf [1, 2, 5, 6, 7, 8, 9] vs_36 6) L_38 fun t37_41 =>
 W.conv .i64 (slotOf [1, 2, 5, 6, 7, 8, 9] vs_36 1) fun t42_42 =>
 W.call Try.prog (.fn 26 []) [t36_40, t37_41, (slotOf [1, 2, 5, 6, 7, 8, 9] vs_36 7), (slotOf [1, 2, 5, 6, 7, 8, 9] vs_36 8), (slotOf [1, 2, 5, 6, 7, 8, 9] vs_36 9), t42_42] L_38 (law08_ObjectAny_c2 vs_36 Q nx_37)
def law08_ObjectAny_zt2 (vs_36 : List AV) (nx_33 : W.Kn) (L_38 : SH)  : Prop :=
 W.bin Try.prog Fl .add 3 (slotOf [1, 2, 5, 6, 7, 8, 9] vs_36 8) (.int .i64 1) fun t30_208 =>
 nx_33 [(slotOf [1, 2, 5, 6, 7, 8, 9] vs_36 1), (slotOf [1, 2, 5, 6, 7, 8, 9] vs_36 2), (slotOf [1, 2, 5, 6, 7, 8, 9] vs_36 5), (slotOf [1, 2, 5, 6, 7, 8, 9] vs_36 6), (slotOf [1, 2, 5, 6, 7, 8, 9] vs_36 7), t30_208] L_38
def law08_ObjectAny_l3 (Q : AV → SH → Prop) (nx_33 : W.Kn) (vs_36 : List AV) (L_38 : SH) (nx_37 : W.Kn) : Prop :=
 W.bin Try.prog Fl .leq 3 (slotOf [1, 2, 5, 6, 7, 8, 9] vs_36 9) (.int .i64 3) fun t32_39 =>
 W.cond t32_39 (
 (law08_ObjectAny_zt1 vs_36 L_38 Q nx_37)) (
 (law08_ObjectAny_zt2 vs_36 nx_33 L_38))
def law08_ObjectAny_zt3 (Q : AV → SH → Prop) (nx_33 : W.Kn) (vs_32 : List AV) (L_34 : SH)  : Prop :=
 W.loop (law08_ObjectAny_l3 Q nx_33) [(slotOf [1, 2, 5, 6, 7, 8] vs_32 1), (slotOf [1, 2, 5, 6, 7, 8] vs_32 2), (slotOf [1, 2, 5, 6, 7, 8] vs_32 5), (slotOf [1, 2, 5, 6, 7, 8] vs_32 6), (slotOf [1, 2, 5, 6, 7, 8] vs_32 7), (slotOf [1, 2, 5, 6, 7, 8] vs_32 8), (.int .i64 (-1))] L_34
def law08_ObjectAny_zt4 (vs_32 : List AV) (nx_29 : W.Kn) (L_237 : SH)  : Prop :=
 W.bin Try.prog Fl .add 3 (slotOf [1, 2, 5, 6, 7, 8] vs_32 7) (.int .i64 1) fun t26_240 =>
 nx_29 [(slotOf [1, 2, 5, 6, 7, 8] vs_32 1), (slotOf [1, 2, 5, 6, 7, 8] vs_32 2), (slotOf [1, 2, 5, 6, 7, 8] vs_32 5), (slotOf [1, 2, 5, 6, 7, 8] vs_32 6), t26_240] L_237
def law08_ObjectAny_c4 (t105_214 : AV) (t112_220 : AV) (Q : AV → SH → Prop) (vs_32 : List AV) (nx_29 : W.Kn) (t115_221 : AV) (L_222 : SH) : Prop :=
 W.un .not t115_221 fun t116_223 =>
 W.grd t116_223 false (fun k_225 => k_225 t105_214 L_222) L_222 fun t118_224 L_226 =>
 W.grd t116_223 false (fun k_228 => k_228 t112_220 L_226) L_226 fun t119_227 L_229 =>
 W.grd t116_223 false (fun k_231 => W.call Try.prog (.fn 34 []) [t118_224, t119_227] L_229 fun v_233 L_234 =>
 k_231 v_233 L_234) L_229 fun t120_230 L_232 =>
 W.grd t116_223 false (fun k_236 => W.un .not t120_230 fun v_238 =>
 k_236 v_238 L_232) L_232 fun t121_235 L_237 =>
 W.pick t116_223 (.bool true) t121_235 fun t122_239 =>
 W.cond t122_239 (
 Q (.bool false) L_237) (
 (law08_ObjectAny_zt4 vs_32 nx_29 L_237))
def law08_ObjectAny_c5 (t104_213 : AV) (t105_214 : AV) (Q : AV → SH → Prop) (vs_32 : List AV) (nx_29 : W.Kn) (t110_217 : AV) (L_218 : SH) : Prop :=
 W.ext 0 t110_217 fun t111_219 =>
 W.ext 1 t110_217 fun t112_220 =>
 W.call Try.prog (.fn 34 []) [t104_213, t111_219] L_218 (law08_ObjectAny_c4 t105_214 t112_220 Q vs_32 nx_29)
def law08_ObjectAny_c6 (vs_32 : List AV) (Q : AV → SH → Prop) (nx_29 : W.Kn) (t103_211 : AV) (L_212 : SH) : Prop :=
 W.ext 0 t103_211 fun t104_213 =>
 W.ext 1 t103_211 fun t105_214 =>
 W.load true 6 (slotOf [1, 2, 5, 6, 7, 8] vs_32 5) L_212 fun t107_215 =>
 W.load true 4 (slotOf [1, 2, 5, 6, 7, 8] vs_32 6) L_212 fun t108_216 =>
 W.call Try.prog (.fn 33 []) [t107_215, t108_216, (slotOf [1, 2, 5, 6, 7, 8] vs_32 7)] L_212 (law08_ObjectAny_c5 t104_213 t105_214 Q vs_32 nx_29)
def law08_ObjectAny_zt5 (vs_32 : List AV) (L_34 : SH) (Q : AV → SH → Prop) (nx_29 : W.Kn)  : Prop :=
 W.load true 6 (slotOf [1, 2, 5, 6, 7, 8] vs_32 5) L_34 fun t100_209 =>
 W.load true 4 (slotOf [1, 2, 5, 6, 7, 8] vs_32 6) L_34 fun t101_210 =>
 W.call Try.prog (.fn 32 []) [t100_209, t101_210, (slotOf [1, 2, 5, 6, 7, 8] vs_32 7)] L_34 (law08_ObjectAny_c6 vs_32 Q nx_29)
def law08_ObjectAny_l7 (Q : AV → SH → Prop) (nx_29 : W.Kn) (vs_32 : List AV) (L_34 : SH) (nx_33 : W.Kn) : Prop :=
 W.bin Try.prog Fl .leq 3 (slotOf [1, 2, 5, 6, 7, 8] vs_32 8) (.int .i64 24) fun t28_35 =>
 W.cond t28_35 (
 (law08_ObjectAny_zt3 Q nx_33 vs_32 L_34)) (
 (law08_ObjectAny_zt5 vs_32 L_34 Q nx_29))
def law08_ObjectAny_zt6 (Q : AV → SH → Prop) (nx_29 : W.Kn) (vs_28 : List AV) (L_30 : SH)  : Prop :=
 W.loop (law08_ObjectAny_l7 Q nx_29) [(slotOf [1, 2, 5, 6, 7] vs_28 1), (slotOf [1, 2, 5, 6, 7] vs_28 2), (slotOf [1, 2, 5, 6, 7] vs_28 5), (slotOf [1, 2, 5, 6, 7] vs_28 6), (slotOf [1, 2, 5, 6, 7] vs_28 7), (.int .i64 0)] L_30
def law08_ObjectAny_d8 (L_247 : SH) (Q : AV → SH → Prop) (t126_249 : AV) (L_251 : SH) (ks_250 : List Nat) : Prop :=
 W.note ⟨[], ks_250, [], L_247.names⟩ fun r_252 =>
 W.dgrd t126_249 true (fun k_254 => W.dcall Try.prog [] 5 (.fn 23 []) [] L_251 fun v_257 L_259 ks_258 =>
 W.note ⟨[], ks_258, [], L_251.names⟩ fun r_260 =>
 k_254 v_257 L_259 r_260) L_251 fun t128_253 L_256 r_255 =>
 W.pick t126_249 t128_253 (.bool false) fun t129_261 =>
 Q t129_261 L_256
def law08_ObjectAny_d9 (L_30 : SH) (t123_241 : AV) (Q : AV → SH → Prop) (t125_245 : AV) (L_247 : SH) (ks_246 : List Nat) : Prop :=
 W.note ⟨[], ks_246, [], L_30.names⟩ fun r_248 =>
 W.dcall Try.prog [] 3 (.fn 20 []) [t123_241, t125_245] L_247 (law08_ObjectAny_d8 L_247 Q)
def law08_ObjectAny_zt7 (vs_28 : List AV) (L_30 : SH) (Q : AV → SH → Prop)  : Prop :=
 (true = true) ∧ (
 W.calm [] ⟨0, (blocksOf (slotOf [1, 2, 5, 6, 7] vs_28 6)), [], [], false, []⟩ (
 W.load true 4 (slotOf [1, 2, 5, 6, 7] vs_28 6) L_30 fun t123_241 =>
 W.note ⟨(blocksOf (slotOf [1, 2, 5, 6, 7] vs_28 6)), [], [], []⟩ fun r_242 =>
 W.calm [⟨0, r_242.reads, r_242.writes, r_242.made, false, r_242.old⟩] ⟨1, (blocksOf (slotOf [1, 2, 5, 6, 7] vs_28 2)), [], [], false, []⟩ (
 W.load true 17 (slotOf [1, 2, 5, 6, 7] vs_28 2) L_30 fun t124_243 =>
 W.note ⟨(blocksOf (slotOf [1, 2, 5, 6, 7] vs_28 2)), [], [], []⟩ fun r_244 =>
 W.dcall Try.prog [⟨0, r_242.reads, r_242.writes, r_242.made, false, r_242.old⟩] 2 (.fn 39 []) [t124_243] L_30 (law08_ObjectAny_d9 L_30 t123_241 Q))))
def law08_ObjectAny_l10 (Q : AV → SH → Prop) (vs_28 : List AV) (L_30 : SH) (nx_29 : W.Kn) : Prop :=
 W.bin Try.prog Fl .leq 3 (slotOf [1, 2, 5, 6, 7] vs_28 7) (.int .i64 3) fun t24_31 =>
 W.cond t24_31 (
 (law08_ObjectAny_zt6 Q nx_29 vs_28 L_30)) (
 (law08_ObjectAny_zt7 vs_28 L_30 Q))
def law08_ObjectAny_d11 (L_6 : SH) (r_9 : W.Fp) (r_7 : W.Fp) (t20_4 : AV) (Q : AV → SH → Prop) (t1 : AV) (t2_2 : AV) (t22_10 : AV) (L_12 : SH) (ks_11 : List Nat) : Prop :=
 W.note ⟨[], ks_11, [], L_6.names⟩ fun r_13 =>
 W.calm [⟨2, r_13.reads, r_13.writes, r_13.made, true, r_13.old⟩, ⟨1, r_9.reads, r_9.writes, r_9.made, false, r_9.old⟩, ⟨0, r_7.reads, r_7.writes, r_7.made, true, r_7.old⟩] ⟨3, [], [], [], false, []⟩ (
 W.alloc [.nils, .nils, .nils, .nils, .nils, .nils] L_12 fun t5_14 L_15 =>
 W.note ⟨[], [], (blocksOf t5_14), []⟩ fun r_16 =>
 W.calm [⟨3, r_16.reads, r_16.writes, r_16.made, false, r_16.old⟩, ⟨2, r_13.reads, r_13.writes, r_13.made, true, r_13.old⟩, ⟨1, r_9.reads, r_9.writes, r_9.made, false, r_9.old⟩, ⟨0, r_7.reads, r_7.writes, r_7.made, true, r_7.old⟩] ⟨4, [], [], [], false, []⟩ (
 W.alloc [.nils, (.int .i64 0), .nils, .nils] L_15 fun t6_17 L_18 =>
 W.note ⟨[], [], (blocksOf t6_17), []⟩ fun r_19 =>
 W.calm [] ⟨5, (blocksOf t5_14), (blocksOf t5_14), [], false, []⟩ (
 W.store 6 t5_14 t20_4 L_18 fun L_20 =>
 W.note ⟨(blocksOf t5_14), (blocksOf t5_14), [], []⟩ fun r_21 =>
 W.calm [] ⟨6, (blocksOf t6_17), (blocksOf t6_17), [], false, []⟩ (
 W.store 4 t6_17 t22_10 L_20 fun L_22 =>
 W.note ⟨(blocksOf t6_17), (blocksOf t6_17), [], []⟩ fun r_23 =>
 W.frz1 t5_14 L_22 fun t5_24 L_25 =>
 W.frz1 t6_17 L_25 fun t6_26 L_27 =>
 W.loop (law08_ObjectAny_l10 Q) [t1, t2_2, t5_24, t6_26, (.int .i64 (-1))] L_27))))
def law08_ObjectAny_d12 (L_3 : SH) (t2_2 : AV) (Q : AV → SH → Prop) (t1 : AV) (t20_4 : AV) (L_6 : SH) (ks_5 : List Nat) : Prop :=
 W.note ⟨[], ks_5, [], L_3.names⟩ fun r_7 =>
 W.calm [⟨0, r_7.reads, r_7.writes, r_7.made, true, r_7.old⟩] ⟨1, (blocksOf t2_2), [], [], false, []⟩ (
 W.load true 17 t2_2 L_6 fun t21_8 =>
 W.note ⟨(blocksOf t2_2), [], [], []⟩ fun r_9 =>
 W.dcall Try.prog [] 2 (.fn 39 []) [t21_8] L_6 (law08_ObjectAny_d11 L_6 r_9 r_7 t20_4 Q t1 t2_2))
def law08_ObjectAny_w (t0 t1 : AV) (L : SH) (Q : AV → SH → Prop) : Prop :=
 W.box t0 L fun t2_0 L_1 =>
 W.frz1 t2_0 L_1 fun t2_2 L_3 =>
 (true = true) ∧ (
 W.dcall Try.prog [] 0 (.fn 24 []) [] L_3 (law08_ObjectAny_d12 L_3 t2_2 Q t1))
theorem law08_ObjectAny_e (t0 t1 : AV) (L : SH) (Q : AV → SH → Prop) : W.func Try.prog Fl law08_ObjectAny_t Try.f12 (Try.f12.body.getD .skip) [t0, t1] L Q = law08_ObjectAny_w t0 t1 L Q := by kernel_rfl
theorem law08_ObjectAny_ok (t0 t1 : AV) (L : SH) (Q : AV → SH → Prop) (h : law08_ObjectAny_w t0 t1 L Q) : CallA Try.prog 12 [t0, t1] L Q :=
  func_sound (ht := law08_ObjectAny_t) fit Try.func12 (show Try.f12.body = some (Try.f12.body.getD .skip) by kernel_rfl) (Eq.mpr (law08_ObjectAny_e t0 t1 L Q) h)

def law08_world_t : Hints := ⟨fun k => none, fun k => [], fun k => [], fun k => []⟩
def law08_world_w (L : SH) (Q : AV → SH → Prop) : Prop :=
 W.alloc [.nils, .nils, .nils, .nils, .nils, .nils] L fun t0_0 L_1 =>
 W.build [(.str []), (.int .i64 0), (.int .i64 0), (.bool false), (.int .i64 0)] [(0, 1, (.str [120]))] fun t1_2 =>
 W.bslice 5 [(.str []), (.int .i64 0), (.int .i64 0), (.bool false), (.int .i64 0)] 1 [(0, t1_2)] L_1 fun t2_3 L_4 =>
 W.build [(.str []), (.bool false)] [(0, 1, (.str [109]))] fun t3_5 =>
 W.build [(.str []), (.bool false)] [(0, 1, (.str [110]))] fun t4_6 =>
 W.build [(.str []), (.bool false)] [(0, 1, (.str [114])), (1, 1, (.bool true))] fun t5_7 =>
 W.bslice 2 [(.str []), (.bool false)] 3 [(0, t3_5), (1, t4_6), (2, t5_7)] L_4 fun t6_8 L_9 =>
 W.build [(.str []), (.int .i64 0)] [(0, 1, (.str [99]))] fun t7_10 =>
 W.bslice 2 [(.str []), (.int .i64 0)] 1 [(0, t7_10)] L_9 fun t8_11 L_12 =>
 W.bslice 1 [(.str [])] 1 [(0, (.str [102]))] L_12 fun t9_13 L_14 =>
 W.bslice 1 [(.str [])] 3 [(0, (.str [116])), (1, (.str [117])), (2, (.str [119]))] L_14 fun t10_15 L_16 =>
 W.build [.nils, .nils, .nils, .nils, .nils, .nils] [(0, 1, t2_3), (1, 1, t6_8), (2, 1, t8_11), (3, 1, t9_13), (4, 1, t10_15)] fun t11_17 =>
 W.store 6 t0_0 t11_17 L_16 fun L_18 =>
 W.load true 6 t0_0 L_18 fun r_19 =>
 Q r_19 L_18
theorem law08_world_e (L : SH) (Q : AV → SH → Prop) : W.func Try.prog Fl law08_world_t Try.f24 (Try.f24.body.getD .skip) [] L Q = law08_world_w  L Q := by kernel_rfl
theorem law08_world_ok (L : SH) (Q : AV → SH → Prop) (h : law08_world_w  L Q) : CallA Try.prog 24 [] L Q :=
  func_sound (ht := law08_world_t) fit Try.func24 (show Try.f24.body = some (Try.f24.body.getD .skip) by kernel_rfl) (Eq.mpr (law08_world_e  L Q) h)

def law08_small_t : Hints := ⟨fun k => none, fun k => if k = 2 then [2, 3, 5] else [], fun k => if k = 0 then [2, 3] else [], fun k => []⟩
def law08_small_zt0 (vs_8 : List AV) (L_10 : SH) (Q : AV → SH → Prop) (nx_9 : W.Kn)  : Prop :=
 W.faddr 0 (slotOf [2, 3, 5] vs_8 3) fun t13_15 =>
 W.load false 1 t13_15 L_10 fun t14_16 =>
 W.idx 2 t14_16 (slotOf [2, 3, 5] vs_8 5) L_10 fun t16_17 =>
 W.faddr 1 t16_17 fun t17_18 =>
 W.load false 1 t17_18 L_10 fun t18_19 =>
 W.len t18_19 fun t19_20 =>
 W.bin Try.prog Fl .gtr 3 t19_20 (.int .i64 20) fun t20_21 =>
 W.cond t20_21 (
 Q (.bool false) L_10) (
 W.bin Try.prog Fl .add 3 (slotOf [2, 3, 5] vs_8 5) (.int .i64 1) fun t12_22 =>
 nx_9 [(slotOf [2, 3, 5] vs_8 2), (slotOf [2, 3, 5] vs_8 3), t12_22] L_10)
def law08_small_zt1 (vs_8 : List AV) (L_10 : SH) (Q : AV → SH → Prop)  : Prop :=
 W.faddr 2 (slotOf [2, 3, 5] vs_8 2) fun t21_23 =>
 W.load false 1 t21_23 L_10 fun t22_24 =>
 W.len t22_24 fun t23_25 =>
 W.bin Try.prog Fl .leq 3 t23_25 (.int .i64 40) fun t24_26 =>
 W.grd t24_26 true (fun k_28 => W.faddr 0 (slotOf [2, 3, 5] vs_8 3) fun v_30 =>
 k_28 v_30 L_10) L_10 fun t26_27 L_29 =>
 W.grd t24_26 true (fun k_32 => W.load false 1 t26_27 L_29 fun v_34 =>
 k_32 v_34 L_29) L_29 fun t27_31 L_33 =>
 W.grd t24_26 true (fun k_36 => W.len t27_31 fun v_38 =>
 k_36 v_38 L_33) L_33 fun t28_35 L_37 =>
 W.grd t24_26 true (fun k_40 => W.bin Try.prog Fl .leq 3 t28_35 (.int .i64 40) fun v_42 =>
 k_40 v_42 L_37) L_37 fun t29_39 L_41 =>
 W.pick t24_26 t29_39 (.bool false) fun t30_43 =>
 W.grd t30_43 true (fun k_45 => W.faddr 3 (slotOf [2, 3, 5] vs_8 3) fun v_47 =>
 k_45 v_47 L_41) L_41 fun t32_44 L_46 =>
 W.grd t30_43 true (fun k_49 => W.load false 1 t32_44 L_46 fun v_51 =>
 k_49 v_51 L_46) L_46 fun t33_48 L_50 =>
 W.grd t30_43 true (fun k_53 => W.len t33_48 fun v_55 =>
 k_53 v_55 L_50) L_50 fun t34_52 L_54 =>
 W.grd t30_43 true (fun k_57 => W.bin Try.prog Fl .leq 3 t34_52 (.int .i64 40) fun v_59 =>
 k_57 v_59 L_54) L_54 fun t35_56 L_58 =>
 W.pick t30_43 t35_56 (.bool false) fun t36_60 =>
 Q t36_60 L_58
def law08_small_l0 (Q : AV → SH → Prop) (vs_8 : List AV) (L_10 : SH) (nx_9 : W.Kn) : Prop :=
 W.faddr 0 (slotOf [2, 3, 5] vs_8 3) fun t7_11 =>
 W.load false 1 t7_11 L_10 fun t8_12 =>
 W.len t8_12 fun t9_13 =>
 W.bin Try.prog Fl .lss 3 (slotOf [2, 3, 5] vs_8 5) t9_13 fun t10_14 =>
 W.cond t10_14 (
 (law08_small_zt0 vs_8 L_10 Q nx_9)) (
 (law08_small_zt1 vs_8 L_10 Q))
def law08_small_w (t0 t1 : AV) (L : SH) (Q : AV → SH → Prop) : Prop :=
 W.box t0 L fun t2_0 L_1 =>
 W.box t1 L_1 fun t3_2 L_3 =>
 W.frz1 t2_0 L_3 fun t2_4 L_5 =>
 W.frz1 t3_2 L_5 fun t3_6 L_7 =>
 W.loop (law08_small_l0 Q) [t2_4, t3_6, (.int .i64 0)] L_7
theorem law08_small_e (t0 t1 : AV) (L : SH) (Q : AV → SH → Prop) : W.func Try.prog Fl law08_small_t Try.f31 (Try.f31.body.getD .skip) [t0, t1] L Q = law08_small_w t0 t1 L Q := by kernel_rfl
theorem law08_small_ok (t0 t1 : AV) (L : SH) (Q : AV → SH → Prop) (h : law08_small_w t0 t1 L Q) : CallA Try.prog 31 [t0, t1] L Q :=
  func_sound (ht := law08_small_t) fit Try.func31 (show Try.f31.body = some (Try.f31.body.getD .skip) by kernel_rfl) (Eq.mpr (law08_small_e t0 t1 L Q) h)

def law08_State_sync_t : Hints := ⟨fun k => none, fun k => if k = 7 then [1, 2, 3, 4, 5, 6] else if k = 3 then [1, 2, 3, 4] else [], fun k => if k = 0 then [1] else if k = 11 then [7] else [], fun k => if k = 9 then [0, 1, 0, 0, 12, 28, 0, 124, 252, 508, 1020, 2044, 4092, 8191, 16383, 32767] else []⟩
def law08_State_sync_zt0 (vs_33 : List AV) (L_46 : SH) (nx_34 : W.Kn)  : Prop :=
 (true = true) ∧ (
 W.faddr 1 (slotOf [1, 2, 3, 4, 5, 6] vs_33 5) fun t42_49 =>
 W.calm [] ⟨1, (blocksOf t42_49), [], [], false, []⟩ (
 W.load false 1 t42_49 L_46 fun t43_50 =>
 W.note ⟨(blocksOf t42_49), [], [], []⟩ fun r_51 =>
 W.faddr 3 (slotOf [1, 2, 3, 4, 5, 6] vs_33 1) fun t45_52 =>
 W.calm [⟨1, r_51.reads, r_51.writes, r_51.made, false, r_51.old⟩] ⟨4, (slOf t45_52), [], [], false, []⟩ (
 W.idxP 3 1 t45_52 (slotOf [1, 2, 3, 4, 5, 6] vs_33 4) fun t46_53 =>
 W.note ⟨(slOf t45_52), [], [], []⟩ fun r_54 =>
 W.calm [⟨1, r_51.reads, r_51.writes, r_51.made, false, r_51.old⟩] ⟨5, (blocksOf t46_53), [], [], false, []⟩ (
 W.load false 1 t46_53 L_46 fun t47_55 =>
 W.note ⟨(blocksOf t46_53), [], [], []⟩ fun r_56 =>
 W.calm [⟨1, r_51.reads, r_51.writes, r_51.made, false, r_51.old⟩] ⟨7, (slOf t47_55), [], [], false, []⟩ (
 W.idx 1 t47_55 (slotOf [1, 2, 3, 4, 5, 6] vs_33 6) L_46 fun t49_57 =>
 W.note ⟨(slOf t47_55), [], [], []⟩ fun r_58 =>
 W.calm [⟨1, r_51.reads, r_51.writes, r_51.made, false, r_51.old⟩] ⟨8, (blocksOf t49_57), [], [], false, []⟩ (
 W.load false 1 t49_57 L_46 fun t50_59 =>
 W.note ⟨(blocksOf t49_57), [], [], []⟩ fun r_60 =>
 W.conv .i64 t50_59 fun t51_61 =>
 W.bin Try.prog Fl .rem 3 t51_61 (.int .i64 5) fun t52_62 =>
 W.bin Try.prog Fl .sub 3 t52_62 (.int .i64 1) fun t53_63 =>
 W.calm [⟨1, r_51.reads, r_51.writes, r_51.made, false, r_51.old⟩] ⟨12, [], [], [], false, []⟩ (
 W.bslice 1 [(.int .i64 0)] 1 [(0, t53_63)] L_46 fun t54_64 L_65 =>
 W.note ⟨[], [], (blocksOf t54_64), []⟩ fun r_66 =>
 W.calm [] ⟨13, (blocksOf t43_50 ++ blocksOf t54_64), (blocksOf t43_50), [], false, []⟩ (
 W.append 1 8 t43_50 t54_64 L_65 fun t55_67 L_68 =>
 W.note ⟨(blocksOf t43_50 ++ blocksOf t54_64), (blocksOf t43_50), (blocksOf t55_67), []⟩ fun r_69 =>
 W.faddr 1 (slotOf [1, 2, 3, 4, 5, 6] vs_33 5) fun t56_70 =>
 W.calm [] ⟨15, (blocksOf t56_70), (blocksOf t56_70), [], false, []⟩ (
 W.store 1 t56_70 t55_67 L_68 fun L_71 =>
 W.note ⟨(blocksOf t56_70), (blocksOf t56_70), [], []⟩ fun r_72 =>
 W.bin Try.prog Fl .add 3 (slotOf [1, 2, 3, 4, 5, 6] vs_33 6) (.int .i64 1) fun t41_73 =>
 nx_34 [(slotOf [1, 2, 3, 4, 5, 6] vs_33 1), (slotOf [1, 2, 3, 4, 5, 6] vs_33 2), (slotOf [1, 2, 3, 4, 5, 6] vs_33 3), (slotOf [1, 2, 3, 4, 5, 6] vs_33 4), (slotOf [1, 2, 3, 4, 5, 6] vs_33 5), t41_73] L_71)))))))))
def law08_State_sync_zt1 (vs_33 : List AV) (L_46 : SH) (nx_20 : W.Kn)  : Prop :=
 W.faddr 0 (slotOf [1, 2, 3, 4, 5, 6] vs_33 3) fun t57_74 =>
 W.load false 1 t57_74 L_46 fun t58_75 =>
 W.load true 2 (slotOf [1, 2, 3, 4, 5, 6] vs_33 5) L_46 fun t59_76 =>
 W.bslice 2 [(.int .i64 0), .nils] 1 [(0, t59_76)] L_46 fun t60_77 L_78 =>
 W.append 2 32 t58_75 t60_77 L_78 fun t61_79 L_80 =>
 W.faddr 0 (slotOf [1, 2, 3, 4, 5, 6] vs_33 3) fun t62_81 =>
 W.store 1 t62_81 t61_79 L_80 fun L_82 =>
 W.faddr 8 (slotOf [1, 2, 3, 4, 5, 6] vs_33 1) fun t64_83 =>
 W.idxP 3 3 t64_83 (slotOf [1, 2, 3, 4, 5, 6] vs_33 4) fun t65_84 =>
 W.load true 3 t65_84 L_82 fun t66_85 =>
 W.alloc [(.int .u8 0), (.int .u8 0), (.bool false)] L_82 fun t7_86 L_87 =>
 W.store 3 t7_86 t66_85 L_87 fun L_88 =>
 W.frz1 t7_86 L_88 fun t7_89 L_90 =>
 W.faddr 3 (slotOf [1, 2, 3, 4, 5, 6] vs_33 3) fun t67_91 =>
 W.load false 1 t67_91 L_90 fun t68_92 =>
 W.faddr 0 t7_89 fun t69_93 =>
 W.load false 1 t69_93 L_90 fun t70_94 =>
 W.conv .i64 t70_94 fun t71_95 =>
 W.bin Try.prog Fl .rem 3 t71_95 (.int .i64 7) fun t72_96 =>
 W.faddr 1 t7_89 fun t73_97 =>
 W.load false 1 t73_97 L_90 fun t74_98 =>
 W.conv .i64 t74_98 fun t75_99 =>
 W.bin Try.prog Fl .rem 3 t75_99 (.int .i64 8) fun t76_100 =>
 W.bin Try.prog Fl .quo 3 t76_100 (.int .i64 7) fun t77_101 =>
 W.faddr 2 t7_89 fun t78_102 =>
 W.load false 1 t78_102 L_90 fun t79_103 =>
 W.build [(.int .i64 0), (.int .i64 0), (.bool false)] [(0, 1, t72_96), (1, 1, t77_101), (2, 1, t79_103)] fun t80_104 =>
 W.bslice 3 [(.int .i64 0), (.int .i64 0), (.bool false)] 1 [(0, t80_104)] L_90 fun t81_105 L_106 =>
 W.append 3 24 t68_92 t81_105 L_106 fun t82_107 L_108 =>
 W.faddr 3 (slotOf [1, 2, 3, 4, 5, 6] vs_33 3) fun t83_109 =>
 W.store 1 t83_109 t82_107 L_108 fun L_110 =>
 W.bin Try.prog Fl .add 3 (slotOf [1, 2, 3, 4, 5, 6] vs_33 4) (.int .i64 1) fun t20_111 =>
 nx_20 [(slotOf [1, 2, 3, 4, 5, 6] vs_33 1), (slotOf [1, 2, 3, 4, 5, 6] vs_33 2), (slotOf [1, 2, 3, 4, 5, 6] vs_33 3), t20_111] L_110
def law08_State_sync_l0 (nx_20 : W.Kn) (vs_33 : List AV) (L_35 : SH) (nx_34 : W.Kn) : Prop :=
 W.faddr 3 (slotOf [1, 2, 3, 4, 5, 6] vs_33 1) fun t31_36 =>
 W.idxP 3 1 t31_36 (slotOf [1, 2, 3, 4, 5, 6] vs_33 4) fun t32_37 =>
 W.load false 1 t32_37 L_35 fun t33_38 =>
 W.len t33_38 fun t34_39 =>
 W.bin Try.prog Fl .lss 3 (slotOf [1, 2, 3, 4, 5, 6] vs_33 6) t34_39 fun t35_40 =>
 W.grd t35_40 true (fun k_42 => k_42 (slotOf [1, 2, 3, 4, 5, 6] vs_33 6) L_35) L_35 fun t37_41 L_43 =>
 W.grd t35_40 true (fun k_45 => W.bin Try.prog Fl .lss 3 t37_41 (.int .i64 4) fun v_47 =>
 k_45 v_47 L_43) L_43 fun t38_44 L_46 =>
 W.pick t35_40 t38_44 (.bool false) fun t39_48 =>
 W.cond t39_48 (
 (law08_State_sync_zt0 vs_33 L_46 nx_34)) (
 (law08_State_sync_zt1 vs_33 L_46 nx_20))
def law08_State_sync_zt2 (vs_19 : List AV) (L_21 : SH) (nx_20 : W.Kn)  : Prop :=
 W.faddr 0 (slotOf [1, 2, 3, 4] vs_19 1) fun t22_23 =>
 W.idxP 3 1 t22_23 (slotOf [1, 2, 3, 4] vs_19 4) fun t23_24 =>
 W.load false 1 t23_24 L_21 fun t24_25 =>
 W.conv .i64 t24_25 fun t25_26 =>
 W.bin Try.prog Fl .rem 3 t25_26 (.int .i64 6) fun t26_27 =>
 W.bin Try.prog Fl .sub 3 t26_27 (.int .i64 2) fun t27_28 =>
 W.build [(.int .i64 0), .nils] [(0, 1, t27_28)] fun t28_29 =>
 W.alloc [(.int .i64 0), .nils] L_21 fun t5_30 L_31 =>
 W.store 2 t5_30 t28_29 L_31 fun L_32 =>
 W.loop (law08_State_sync_l0 nx_20) [(slotOf [1, 2, 3, 4] vs_19 1), (slotOf [1, 2, 3, 4] vs_19 2), (slotOf [1, 2, 3, 4] vs_19 3), (slotOf [1, 2, 3, 4] vs_19 4), t5_30, (.int .i64 0)] L_32
def law08_State_sync_zt3 (vs_19 : List AV) (L_21 : SH) (Q : AV → SH → Prop)  : Prop :=
 W.load true 4 (slotOf [1, 2, 3, 4] vs_19 3) L_21 fun t84_112 =>
 W.store 4 (slotOf [1, 2, 3, 4] vs_19 2) t84_112 L_21 fun L_113 =>
 W.load true 4 (slotOf [1, 2, 3, 4] vs_19 2) L_113 fun r_114 =>
 Q r_114 L_113
def law08_State_sync_l1 (Q : AV → SH → Prop) (vs_19 : List AV) (L_21 : SH) (nx_20 : W.Kn) : Prop :=
 W.bin Try.prog Fl .lss 3 (slotOf [1, 2, 3, 4] vs_19 4) (.int .i64 3) fun t18_22 =>
 W.cond t18_22 (
 (law08_State_sync_zt2 vs_19 L_21 nx_20)) (
 (law08_State_sync_zt3 vs_19 L_21 Q))
def law08_State_sync_w (t0 : AV) (L : SH) (Q : AV → SH → Prop) : Prop :=
 W.box t0 L fun t1_0 L_1 =>
 W.alloc [.nils, (.int .i64 0), .nils, .nils] L_1 fun t2_2 L_3 =>
 W.frz1 t1_0 L_3 fun t1_4 L_5 =>
 W.faddr 7 t1_4 fun t8_6 =>
 W.load false 1 t8_6 L_5 fun t9_7 =>
 W.conv .i64 t9_7 fun t10_8 =>
 W.bin Try.prog Fl .rem 3 t10_8 (.int .i64 5) fun t11_9 =>
 W.bin Try.prog Fl .sub 3 t11_9 (.int .i64 1) fun t12_10 =>
 W.faddr 6 t1_4 fun t13_11 =>
 W.load false 1 t13_11 L_5 fun t14_12 =>
 W.bslice 1 [(.bool false)] 1 [(0, t14_12)] L_5 fun t15_13 L_14 =>
 W.build [.nils, (.int .i64 0), .nils, .nils] [(1, 1, t12_10), (2, 1, t15_13)] fun t16_15 =>
 W.alloc [.nils, (.int .i64 0), .nils, .nils] L_14 fun t3_16 L_17 =>
 W.store 4 t3_16 t16_15 L_17 fun L_18 =>
 W.loop (law08_State_sync_l1 Q) [t1_4, t2_2, t3_16, (.int .i64 0)] L_18
theorem law08_State_sync_e (t0 : AV) (L : SH) (Q : AV → SH → Prop) : W.func Try.prog Fl law08_State_sync_t Try.f39 (Try.f39.body.getD .skip) [t0] L Q = law08_State_sync_w t0 L Q := by kernel_rfl
theorem law08_State_sync_ok (t0 : AV) (L : SH) (Q : AV → SH → Prop) (h : law08_State_sync_w t0 L Q) : CallA Try.prog 39 [t0] L Q :=
  func_sound (ht := law08_State_sync_t) fit Try.func39 (show Try.f39.body = some (Try.f39.body.getD .skip) by kernel_rfl) (Eq.mpr (law08_State_sync_e t0 L Q) h)

end Go.Proofs.Ytadjimfkfmojkaa.Am

end
section
namespace Go.Proofs.Ytadjimfkfmojkaa.Am
set_option maxRecDepth 100000
set_option linter.unusedSimpArgs false
set_option linter.unusedVariables false
set_option linter.unusedSectionVars false
def zeroS : SyncD := ⟨[], 0, [], []⟩
def resS (w : WorldD) (s : SyncD) (t k o wake : Int) : SyncD × Int × Bool := if enabledS w s t k o then ((applyS w s t k o wake).1, (applyS w s t k o wake).2, true) else (zeroS, 0, false)
def encR (r : SyncD × Int × Bool) : AV := .tup [.agg r.1.enc, .int .i64 r.2.1, .bool r.2.2]
theorem lockRows_all (ro : Option Nat) (ls : List LockD) : lockRows ls.length ro ls = ls.map LockD.enc := by
  apply List.ext_getElem?
  intro i
  rcases Nat.lt_or_ge i ls.length with hi | hi
  · rw [lockRows_at _ _ _ _ hi, lockR, if_neg (by omega)]; simp [hi]
  · rw [List.getElem?_eq_none (by rw [lockRows_len]; exact hi), List.getElem?_eq_none (by simpa using hi)]
section
variable (s : SyncD) (h1 : s.locks.length < 2 ^ 40) (h2 : s.done.length ≤ 140737488351232) (h3 : s.threads.length < 2 ^ 40) (hrd : ∀ l ∈ s.locks, l.readers.length < 2 ^ 40) (hne : s.threads ≠ [])
include h1 h2 h3 hrd hne
theorem clone_plain : CallA Try.prog 47 [.agg s.enc] [] fun v L => ∃ bl bt od, v = .agg [.sl bl 0 s.locks.length, .int .i64 s.tx, slotL od s.done.length, .sl bt 0 s.threads.length] ∧ L = (bl, ⟨2, s.locks.map LockD.enc⟩) :: (slotB od 1 (s.done.map boolE) ++ [(bt, ⟨3, s.threads.map ThrD.enc⟩)]) ∧ (od = none → s.done = []) := by
  refine (clone_ok s s.locks.length h1 h2 h3 hrd).mono ?_
  rintro v L ⟨bl, ro, od, ot, rfl, rfl, hod, hot, hro⟩
  cases ot with
  | none => exact absurd (hot rfl) hne
  | some bt => exact ⟨bl, bt, od, rfl, by rw [lockRows_all, rdB, if_neg (Nat.lt_irrefl _)]; rfl, hod⟩
theorem clone_rd (o : Int) (hl : inB o s.locks.length = true) : CallA Try.prog 47 [.agg s.enc] [] fun v L => ∃ bl bt ro od, v = .agg [.sl bl 0 s.locks.length, .int .i64 s.tx, slotL od s.done.length, .sl bt 0 s.threads.length] ∧ L = (bl, ⟨2, lockRows o.toNat ro s.locks⟩) :: (slotB ro 1 ((lockAt s o).readers.map intE) ++ (slotB od 1 (s.done.map boolE) ++ [(bt, ⟨3, s.threads.map ThrD.enc⟩)])) ∧ (od = none → s.done = []) ∧ (ro = none → (lockAt s o).readers = []) := by
  obtain ⟨o0, o1⟩ := inB_iff.1 hl
  have hlt : o.toNat < s.locks.length := by omega
  refine (clone_ok s o.toNat h1 h2 h3 hrd).mono ?_
  rintro v L ⟨bl, ro, od, ot, rfl, rfl, hod, hot, hro⟩
  cases ot with
  | none => exact absurd (hot rfl) hne
  | some bt => exact ⟨bl, bt, ro, od, rfl, by rw [rdB, if_pos hlt]; rfl, hod, fun e => hro e hlt⟩
end
theorem perm_a {α : Type} (a b c d : α) (X : List α) : ((a :: (X ++ [b])) ++ [c, d]).Perm (a :: b :: c :: d :: X) := by
  refine List.Perm.cons a ?_
  show ((X ++ [b]) ++ [c, d]).Perm _
  rw [List.append_assoc]
  exact List.perm_append_comm (l₁ := X) (l₂ := [b, c, d])
theorem perm_b {α : Type} (a b c d : α) (X Y : List α) : ((a :: (X ++ (Y ++ [b]))) ++ [c, d]).Perm (a :: b :: c :: d :: (X ++ Y)) := by
  rw [← List.append_assoc]
  exact perm_a a b c d (X ++ Y)
theorem slotL_one (od : Option Nat) (n : Nat) : (slotL od n).one = true := by cases od <;> rfl
theorem fz_done {s : SyncD} {od : Option Nat} (hod : od = none → s.done = []) {L : SH} (hR : ∀ p ∈ slotB od 1 (s.done.map boolE), p ∈ L) : Fz L (slotL od s.done.length) (.lst (s.done.map boolE)) := by
  cases od with
  | none => rw [hod rfl]; exact .refl _
  | some bd => exact Fz.sls (hR _ (List.mem_singleton.2 rfl)) rfl (by simp) rfl
structure Small (w : WorldD) (s : SyncD) : Prop where
  conds : w.conds.length < 2 ^ 40
  locks : s.locks.length < 2 ^ 40
  done : s.done.length ≤ 140737488351232
  threads : s.threads.length < 2 ^ 40
  rd : ∀ l ∈ s.locks, l.readers.length < 2 ^ 40
section
variable (w : WorldD) (s : SyncD) (t k o wake : Int)
def EndQ (v : AV) (L : SH) : Prop := ∃ v2 L2, FzS [v] L [v2] L2 ∧ v2 = encR (resS w s t k o wake) ∧ L2 = []
theorem ends1 (hen : enabledS w s t k o = true) (bl bt : Nat) (od : Option Nat) (hod : od = none → s.done = []) : Ends1 w s t o wake bl bt k (slotB od 1 (s.done.map boolE)) (slotL od s.done.length) (EndQ w s t k o wake) := by
  intro tx val ls th L f1 f2 hR e
  refine ⟨_, [], FzS.all (Fz.tups (.cons (Fz.aggs (.cons f1 (.cons (.refl _) (.cons (fz_done hod hR) (.cons f2 .nil))))) (.cons (.refl _) (.cons (.refl _) .nil)))), ?_, rfl⟩
  unfold resS
  rw [if_pos hen, e]
  rfl
theorem ends2 (hen : enabledS w s t 22 o = true) (bl bt bd : Nat) : Ends2 s o bl bt bd (EndQ w s t 22 o wake) := by
  intro L f1 f2 f3
  refine ⟨_, [], FzS.all (Fz.tups (.cons (Fz.aggs (.cons f1 (.cons (.refl _) (.cons f3 (.cons f2 .nil))))) (.cons (.refl _) (.cons (.refl _) .nil)))), ?_, rfl⟩
  unfold resS
  rw [if_pos hen]
  rfl
theorem apply_c8 (hs : Small w s) (hen : enabledS w s t k o = true) (b7 b12 : Nat) :
    W.callM Try.prog 47 [.agg s.enc] [(b12, ⟨4, [[.nils, .int .i64 0, .nils, .nils]]⟩), (b7, ⟨4, [s.enc]⟩)] (object_ApplyF_c8 (.ptr b7 0 0) (EndQ w s t k o wake) (.int .i64 k) (.pptr [[.int .i64 t]] 0 0) (.ptr b12 0 0) (.int .i64 o) (.int .i64 wake) (.pptr [w.enc] 0 0)) := by
  have hen' := hen
  unfold enabledS at hen'
  simp only [Bool.and_eq_true] at hen'
  obtain ⟨⟨⟨hfi, hth⟩, hal⟩, hkd⟩ := hen'
  have hf := fitsS_iff.1 hfi
  have ht : inB t s.threads.length = true := by rw [hf.threads]; exact hth
  obtain ⟨t0, t1⟩ := inB_iff.1 ht
  have hne : s.threads ≠ [] := fun e => by rw [e] at t1; simp at t1; omega
  have plain : (∀ bl bt od, (od = none → s.done = []) → (apL s b7 b12 bl bt (slotB od 1 (s.done.map boolE))).names.Nodup → object_ApplyF_c8 (.ptr b7 0 0) (EndQ w s t k o wake) (.int .i64 k) (.pptr [[.int .i64 t]] 0 0) (.ptr b12 0 0) (.int .i64 o) (.int .i64 wake) (.pptr [w.enc] 0 0) (.agg [.sl bl 0 s.locks.length, .int .i64 s.tx, slotL od s.done.length, .sl bt 0 s.threads.length]) (apL s b7 b12 bl bt (slotB od 1 (s.done.map boolE)))) →
      W.callM Try.prog 47 [.agg s.enc] [(b12, ⟨4, [[.nils, .int .i64 0, .nils, .nils]]⟩), (b7, ⟨4, [s.enc]⟩)] (object_ApplyF_c8 (.ptr b7 0 0) (EndQ w s t k o wake) (.int .i64 k) (.pptr [[.int .i64 t]] 0 0) (.ptr b12 0 0) (.int .i64 o) (.int .i64 wake) (.pptr [w.enc] 0 0)) := fun h => by
    refine m_callN (clone_plain s hs.locks hs.done hs.threads hs.rd hne) ?_
    rintro v K ⟨bl, bt, od, rfl, rfl, hod⟩
    exact ⟨apL s b7 b12 bl bt (slotB od 1 (s.done.map boolE)), perm_a _ _ _ _ _, h bl bt od hod⟩
  have readers : inB o s.locks.length = true → (∀ bl bt ro od, (od = none → s.done = []) → (ro = none → (lockAt s o).readers = []) → (apQ s o b7 b12 bl bt ro (slotB od 1 (s.done.map boolE))).names.Nodup → object_ApplyF_c8 (.ptr b7 0 0) (EndQ w s t k o wake) (.int .i64 k) (.pptr [[.int .i64 t]] 0 0) (.ptr b12 0 0) (.int .i64 o) (.int .i64 wake) (.pptr [w.enc] 0 0) (.agg [.sl bl 0 s.locks.length, .int .i64 s.tx, slotL od s.done.length, .sl bt 0 s.threads.length]) (apQ s o b7 b12 bl bt ro (slotB od 1 (s.done.map boolE)))) →
      W.callM Try.prog 47 [.agg s.enc] [(b12, ⟨4, [[.nils, .int .i64 0, .nils, .nils]]⟩), (b7, ⟨4, [s.enc]⟩)] (object_ApplyF_c8 (.ptr b7 0 0) (EndQ w s t k o wake) (.int .i64 k) (.pptr [[.int .i64 t]] 0 0) (.ptr b12 0 0) (.int .i64 o) (.int .i64 wake) (.pptr [w.enc] 0 0)) := fun hl h => by
    refine m_callN (clone_rd s hs.locks hs.done hs.threads hs.rd hne o hl) ?_
    rintro v K ⟨bl, bt, ro, od, rfl, rfl, hod, hro⟩
    exact ⟨apQ s o b7 b12 bl bt ro (slotB od 1 (s.done.map boolE)), perm_b _ _ _ _ _ _, h bl bt ro od hod hro⟩
  have e1 := fun bl bt od hod => ends1 w s t k o wake hen bl bt od hod
  have hrl : ∀ o, inB o s.locks.length = true → (lockAt s o).readers.length < 2 ^ 40 := fun o h => by
    obtain ⟨o0, o1⟩ := inB_iff.1 h
    have hlt : o.toNat < s.locks.length := by omega
    unfold lockAt
    rw [show s.locks.getD o.toNat default = s.locks[o.toNat] by simp [hlt]]
    exact hs.rd _ (List.getElem_mem hlt)
  rcases kinds k with hk | rfl | rfl | rfl | rfl | rfl | rfl | rfl | rfl | rfl | rfl | rfl | rfl | rfl | rfl | rfl | rfl | rfl | rfl | rfl | rfl | rfl | rfl | rfl 
  · simp only [allowedS] at hal
    repeat (rw [if_neg (by omega)] at hal)
    cases hal
  · exact plain fun bl bt od hod hnd => app_1 w s t o wake b7 b12 bl bt _ _ (slotL_one _ _) _ hf ht hnd hal (e1 bl bt od hod)
  · exact plain fun bl bt od hod hnd => app_2 w s t o wake b7 b12 bl bt _ _ (slotL_one _ _) _ hf ht hnd hal (e1 bl bt od hod)
  · exact plain fun bl bt od hod hnd => app_3 w s t o wake b7 b12 bl bt _ _ (slotL_one _ _) _ hf ht hnd hal (e1 bl bt od hod)
  · exact plain fun bl bt od hod hnd => app_4 w s t o wake b7 b12 bl bt _ _ (slotL_one _ _) _ hf ht hnd hal (e1 bl bt od hod)
  · exact plain fun bl bt od hod hnd => app_5 w s t o wake b7 b12 bl bt _ _ (slotL_one _ _) _ hf ht hnd hal (e1 bl bt od hod)
  · exact plain fun bl bt od hod hnd => app_6 w s t o wake b7 b12 bl bt _ _ (slotL_one _ _) _ hf ht hnd hal (e1 bl bt od hod)
  · exact plain fun bl bt od hod hnd => app_7 w s t o wake b7 b12 bl bt _ _ (slotL_one _ _) _ hf ht hnd hal (e1 bl bt od hod)
  · have hl : inB o s.locks.length = true := by rw [hf.locks]; simp [allowedS] at hal; exact hal.1
    exact readers hl fun bl bt ro od hod hro hnd => app_8 w s t o wake b7 b12 bl bt _ _ (slotL_one _ _) _ hl (hrl o hl) ro hro hnd (e1 bl bt od hod)
  · have hl : inB o s.locks.length = true := by rw [hf.locks]; simp [allowedS] at hal; exact hal.1
    refine readers hl fun bl bt ro od hod hro hnd => ?_
    cases ro with
    | none =>
      have hc : (lockAt s o).readers.contains t = true := by
        have := hkd
        simp [readyS] at this
        simpa using this.2
      rw [hro rfl] at hc
      cases hc
    | some br => exact app_9 w s t o wake b7 b12 bl bt _ _ (slotL_one _ _) _ hl (hrl o hl) br hnd (e1 bl bt od hod)
  · exact plain fun bl bt od hod hnd => app_10 w s t o wake b7 b12 bl bt _ _ (slotL_one _ _) _ hf ht hnd hal (e1 bl bt od hod)
  · exact plain fun bl bt od hod hnd => app_11 w s t o wake b7 b12 bl bt _ _ (slotL_one _ _) _ hf ht hnd hal (e1 bl bt od hod)
  · exact plain fun bl bt od hod hnd => app_12 w s t o wake b7 b12 bl bt _ _ (slotL_one _ _) _ hf ht hnd hal (e1 bl bt od hod)
  · exact plain fun bl bt od hod hnd => app_13 w s t o wake b7 b12 bl bt _ _ (slotL_one _ _) _ hf ht hnd hal (e1 bl bt od hod)
  · exact plain fun bl bt od hod hnd => app_14 w s t o wake b7 b12 bl bt _ _ (slotL_one _ _) _ hf ht hnd hal (e1 bl bt od hod)
  · exact plain fun bl bt od hod hnd => app_15 w s t o wake b7 b12 bl bt _ _ (slotL_one _ _) _ hf ht hnd hal (e1 bl bt od hod)
  · exact plain fun bl bt od hod hnd => app_16 w s t o wake b7 b12 bl bt _ _ (slotL_one _ _) _ hf ht hnd hal (e1 bl bt od hod)
  · exact plain fun bl bt od hod hnd => app_17 w s t o wake b7 b12 bl bt _ _ (slotL_one _ _) _ hf ht hnd hal (e1 bl bt od hod)
  · exact plain fun bl bt od hod hnd => app_18 w s t o wake b7 b12 bl bt _ _ (slotL_one _ _) _ hf ht hnd hs.threads (e1 bl bt od hod)
  · exact plain fun bl bt od hod hnd => app_19 w s t o wake b7 b12 bl bt _ _ (slotL_one _ _) _ hf ht hnd hs.threads (e1 bl bt od hod)
  · exact plain fun bl bt od hod hnd => app_20 w s t o wake b7 b12 bl bt _ _ (slotL_one _ _) _ hf ht hnd hal (e1 bl bt od hod)
  · exact plain fun bl bt od hod hnd => app_21 w s t o wake b7 b12 bl bt _ _ (slotL_one _ _) _ hf ht hnd hal (e1 bl bt od hod)
  · refine plain fun bl bt od hod hnd => ?_
    cases od with
    | none =>
      have hl : inB o s.done.length = true := by rw [hf.done]; simpa [allowedS] using hal
      obtain ⟨o0, o1⟩ := inB_iff.1 hl
      rw [hod rfl] at o1
      simp at o1
      omega
    | some bd => exact app_22 w s t o wake b7 b12 bl bt _ hf ht bd hnd hal (ends2 w s t o wake hen bl bt bd)
  · exact plain fun bl bt od hod hnd => app_23 w s t o wake b7 b12 bl bt _ _ (slotL_one _ _) _ hf ht hnd hal (e1 bl bt od hod)
theorem apply_ok (hs : Small w s) : PureA Try.prog 26 [.agg w.enc, .agg s.enc, .int .i64 t, .int .i64 k, .int .i64 o, .int .i64 wake] (encR (resS w s t k o wake)) := by
  refine CallA.fz (object_ApplyF_ok _ _ _ _ _ _ _ _ ?_)
  show object_ApplyF_w _ _ _ _ _ _ _ (EndQ w s t k o wake)
  unfold object_ApplyF_w
  have hcn : w.conds.length < 2 ^ 62 := by have := hs.conds; omega
  have he := enabled_ok w s t k o hcn hs.rd
  have hc8 := apply_c8 w s t k o wake hs
  have fin : enabledS w s t k o = false → ∀ L, EndQ w s t k o wake (.tup [.agg [.nils, .int .i64 0, .nils, .nils], .int .i64 0, .bool false]) L := fun hn L => by
    refine ⟨_, [], FzS.all (Fz.tups (.cons (Fz.aggs (.cons .nils (.cons (.refl _) (.cons .nils (.cons .nils .nil))))) (.cons (.refl _) (.cons (.refl _) .nil)))), ?_, rfl⟩
    unfold resS
    rw [hn]
    rfl
  generalize EndQ w s t k o wake = Q at *
  cases hen : enabledS w s t k o with
  | false =>
    rw [hen] at he
    have nh : (!false) = true := rfl
    have fin := fin hen
    clear hc8
    repeat' (first | (refine h_load1 ?_; refine b_load_q ?_) | (refine h_cond ?_; refine b_cond_t ?_) | (refine h_row ?_; first | refine b_row_q ?_ | refine b_row_p ?_) | refine a_mark ?_ | ((with_reducible refine h_fn 27 ?_); refine m_call (he) ?_) | (refine h_un ?_; refine a_not ?_) | (refine h_box ?_; refine b_box (fun nb_ hnb_ => ?_)) | (refine h_frz1 ?_; refine b_frz_p ?_) | (refine h_store ?_; refine b_store_box ?_) | refine a_alloc (fun nb_ hnb_ => ?_) | refine b_build ?_)
    exact fin _
  | true =>
    rw [hen] at he
    have hc8 := hc8 hen
    clear fin
    repeat' (first | exact hc8 _ _ | (refine h_load1 ?_; refine b_load_q ?_) | (refine h_cond ?_; refine b_cond_f ?_) | (refine h_row ?_; first | refine b_row_q ?_ | refine b_row_p ?_) | refine a_mark ?_ | ((with_reducible refine h_fn 27 ?_); refine m_call (he) ?_) | (refine h_un ?_; refine a_not ?_) | (refine h_box ?_; refine b_box (fun nb_ hnb_ => ?_)) | (refine h_frz1 ?_; refine b_frz_p ?_) | refine a_alloc (fun nb_ hnb_ => ?_))
end
end Go.Proofs.Ytadjimfkfmojkaa.Am

end
section
namespace Go.Proofs.Ytadjimfkfmojkaa.Am
set_option maxRecDepth 100000
set_option linter.unusedSimpArgs false
set_option linter.unusedVariables false
theorem take_step {α : Type} {a b : List α} {i : Nat} (ha : i < a.length) (hb : i < b.length) (h : a.take i = b.take i) (he : a[i] = b[i]) : a.take (i + 1) = b.take (i + 1) := by
  rw [List.take_succ_eq_append_getElem ha, List.take_succ_eq_append_getElem hb, h, he]
theorem take_all {α : Type} {a b : List α} {i : Nat} (ha : a.length ≤ i) (hl : a.length = b.length) (h : a.take i = b.take i) : a = b := by
  rwa [List.take_of_length_le ha, List.take_of_length_le (by omega)] at h
theorem sameInts_ok (a b : List Int) (hl : a.length < 2 ^ 62) : PureA Try.prog 34 [.lst (a.map intE), .lst (b.map intE)] (.bool (decide (a = b))) := by
  refine ref07_SameInts_ok _ _ _ _ ?_
  unfold ref07_SameInts_w
  repeat' (first | (refine h_bin ?_; refine a_neq ?_) | (refine h_cond ?_; refine a_cond (fun h => ?_) (fun h => ?_)) | (refine h_len ?_; refine a_len_m ?_))
  · refine ⟨?_, rfl⟩
    have := of_decide_eq_true h
    rw [show decide (a = b) = false from decide_eq_false fun e => this (by rw [e])]
  · have he : a.length = b.length := by have := of_decide_eq_false h; omega
    refine for_by a.length (fun i => ([.lst (a.map intE), .lst (b.map intE), .int .i64 i], [])) (fun i => a.take i = b.take i) rfl rfl rfl ?_
    intro i hi hG
    dsimp only
    unfold ref07_SameInts_l0
    rcases Nat.lt_or_ge i a.length with g1 | g1
    · have g2 : i < b.length := by omega
      have hx := map_at (f := intE) g1
      have hy := map_at (f := intE) g2
      have hd := dec_lt g1
      repeat' (first | (refine h_load1 ?_; refine b_load_q ?_) | (refine h_bin ?_; first | refine a_lss ?_ | refine a_neq ?_ | refine a_add ?_) | (refine h_cond ?_; first | refine b_cond_t ?_ | refine a_cond (fun h => ?_) (fun h => ?_)) | (refine h_idx ?_; refine b_idx_n ?_) | (refine h_len ?_; refine a_len_m ?_) | (refine h_calm ?_; refine b_calm ?_) | (refine h_note ?_; refine a_note ?_) | refine a_tt ?_)
      · refine ⟨?_, rfl⟩
        have h3 := of_decide_eq_true h
        rw [show decide (a = b) = false from decide_eq_false fun e => h3 (by subst e; rfl)]
      · refine ⟨i + 1, by omega, by omega, take_step g1 g2 hG (by simpa using h), fzs_eq (by rw [i64_succ g1 hl]; rfl) rfl⟩
    · have hd := dec_ge g1
      repeat' (first | (refine h_bin ?_; refine a_lss ?_) | (refine h_cond ?_; refine b_cond_f ?_) | (refine h_len ?_; refine a_len_m ?_))
      refine ⟨?_, rfl⟩
      rw [show decide (a = b) = true from decide_eq_true (take_all g1 he hG)]
theorem neq_thr {K : AV → Prop} (x y : ThrD) (h : K (.bool (decide (x ≠ y)))) : W.bin Try.prog Fl .neq 66 (.agg x.enc) (.agg y.enc) K := by
  rw [bin_eq]
  refine ⟨.bool (decide (x ≠ y)), ?_, h⟩
  have hF : Fl 66 = some [3, 3, 4] := by kernel_rfl
  have hi : Try.prog.underlying 3 = some (.int .i64) := by kernel_rfl
  have hb : Try.prog.underlying 4 = some .bool := by kernel_rfl
  obtain ⟨a1, a2, a3⟩ := x
  obtain ⟨b1, b2, b3⟩ := y
  simp only [binA, ThrD.enc, hF, Option.bind_some, eqAs, eqA, hi, hb, if_true]
  by_cases h1 : a1 = b1 <;> by_cases h2 : a2 = b2 <;> by_cases h3 : a3 = b3 <;> simp [h1, h2, h3]
/-- two lists, one by one -/
theorem neq_bool {K : AV → Prop} (x y : Bool) (h : K (.bool (decide (x ≠ y)))) : W.bin Try.prog Fl .neq 4 (.bool x) (.bool y) K := by
  rw [neq_b _ (show Try.prog.underlying 4 = some .bool by kernel_rfl)]
  rw [show (!(x == y)) = decide (x ≠ y) by cases x <;> cases y <;> rfl]
  exact h
def SmallS (a : SyncD) : Prop := a.locks.length < 2 ^ 40 ∧ a.done.length ≤ 140737488351232 ∧ a.threads.length < 2 ^ 40 ∧ ∀ l ∈ a.locks, l.readers.length < 2 ^ 40
theorem same_l0 (a b : SyncD) (s3 : a.threads.length < 2 ^ 40) (l3 : a.threads.length = b.threads.length) (hr : a.threads = b.threads → a = b) :
    W.loop (ref08_Same_l0 fun u K => u = AV.bool (decide (a = b)) ∧ K = []) [.pptr [a.enc] 0 0, .pptr [b.enc] 0 0, .int .i64 (0 : Nat)] [] := by
  refine for_by a.threads.length (fun i => ([.pptr [a.enc] 0 0, .pptr [b.enc] 0 0, .int .i64 i], [])) (fun i => a.threads.take i = b.threads.take i) rfl rfl rfl ?_
  intro k hk hG3
  dsimp only
  unfold ref08_Same_l0
  generalize hQ : (fun (u : AV) (K : SH) => u = AV.bool (decide (a = b)) ∧ K = []) = Q
  rcases Nat.lt_or_ge k a.threads.length with g5 | g5
  · have g6 : k < b.threads.length := by omega
    have hx := map_at (f := ThrD.enc) g5
    have hy := map_at (f := ThrD.enc) g6
    have hd := dec_lt g5
    repeat' (first | (refine h_load1 ?_; refine b_load_q ?_) | (refine h_faddr ?_; refine a_faddr_q ?_) | (refine h_bin ?_; first | refine a_lss ?_ | refine a_add ?_) | (refine h_cond ?_; first | refine b_cond_t ?_ | refine a_cond (fun h => ?_) (fun h => ?_)) | (refine h_idx ?_; refine b_idx_n ?_) | (refine h_row ?_; refine b_row_q ?_) | (refine h_len ?_; refine a_len_m ?_) | (refine h_calm ?_; refine b_calm ?_) | (refine h_note ?_; refine a_note ?_) | refine neq_thr _ _ ?_ | refine a_tt ?_)
    · subst hQ
      refine ⟨?_, rfl⟩
      have q1 := of_decide_eq_true h
      rw [show decide (a = b) = false from decide_eq_false fun e => q1 (by subst e; rfl)]
    · exact ⟨k + 1, by omega, by omega, take_step g5 g6 hG3 (by simpa using h), fzs_eq (by rw [i64_succ g5 (by omega)]; rfl) rfl⟩
  · have hd := dec_ge g5
    have hth := take_all g5 l3 hG3
    repeat' (first | (refine h_load1 ?_; refine b_load_q ?_) | (refine h_faddr ?_; refine a_faddr_q ?_) | (refine h_bin ?_; refine a_lss ?_) | (refine h_cond ?_; refine b_cond_f ?_) | (refine h_len ?_; refine a_len_m ?_))
    subst hQ
    refine ⟨?_, rfl⟩
    rw [show decide (a = b) = true from decide_eq_true (hr hth)]
theorem same_l1 (a b : SyncD) (s2 : a.done.length ≤ 140737488351232) (s3 : a.threads.length < 2 ^ 40) (l2 : a.done.length = b.done.length) (l3 : a.threads.length = b.threads.length) (hr : a.done = b.done → a.threads = b.threads → a = b) :
    W.loop (ref08_Same_l1 fun u K => u = AV.bool (decide (a = b)) ∧ K = []) [.pptr [a.enc] 0 0, .pptr [b.enc] 0 0, .int .i64 (0 : Nat)] [] := by
  refine for_by a.done.length (fun i => ([.pptr [a.enc] 0 0, .pptr [b.enc] 0 0, .int .i64 i], [])) (fun i => a.done.take i = b.done.take i) rfl rfl rfl ?_
  intro k hk hG3
  dsimp only
  unfold ref08_Same_l1
  generalize hQ : (fun (u : AV) (K : SH) => u = AV.bool (decide (a = b)) ∧ K = []) = Q
  rcases Nat.lt_or_ge k a.done.length with g5 | g5
  · have g6 : k < b.done.length := by omega
    have hx := map_at (f := boolE) g5
    have hy := map_at (f := boolE) g6
    have hd := dec_lt g5
    repeat' (first | (refine h_load1 ?_; refine b_load_q ?_) | (refine h_faddr ?_; refine a_faddr_q ?_) | (refine h_bin ?_; first | refine a_lss ?_ | refine a_add ?_) | (refine h_cond ?_; first | refine b_cond_t ?_ | refine a_cond (fun h => ?_) (fun h => ?_)) | (refine h_idx ?_; refine b_idx_n ?_) | (refine h_len ?_; refine a_len_m ?_) | (refine h_calm ?_; refine b_calm ?_) | (refine h_note ?_; refine a_note ?_) | refine neq_bool _ _ ?_ | refine a_tt ?_)
    · subst hQ
      refine ⟨?_, rfl⟩
      have q1 := of_decide_eq_true h
      rw [show decide (a = b) = false from decide_eq_false fun e => q1 (by subst e; rfl)]
    · exact ⟨k + 1, by omega, by omega, take_step g5 g6 hG3 (by simpa using h), fzs_eq (by rw [i64_succ g5 (by omega)]; rfl) rfl⟩
  · have hd := dec_ge g5
    have hth := take_all g5 l2 hG3
    repeat' (first | (refine h_load1 ?_; refine b_load_q ?_) | (refine h_faddr ?_; refine a_faddr_q ?_) | (refine h_bin ?_; refine a_lss ?_) | (refine h_cond ?_; refine b_cond_f ?_) | (refine h_len ?_; refine a_len_m ?_))
    subst hQ
    exact same_l0 a b s3 l3 (hr hth)
theorem same_l2 (a b : SyncD) (ha : SmallS a) (l1 : a.locks.length = b.locks.length) (l2 : a.done.length = b.done.length) (l3 : a.threads.length = b.threads.length) (l4 : a.tx = b.tx) :
    W.loop (ref08_Same_l2 fun u K => u = AV.bool (decide (a = b)) ∧ K = []) [.pptr [a.enc] 0 0, .pptr [b.enc] 0 0, .int .i64 (0 : Nat)] [] := by
  obtain ⟨s1, s2, s3, s4⟩ := ha
  refine for_by a.locks.length (fun i => ([.pptr [a.enc] 0 0, .pptr [b.enc] 0 0, .int .i64 i], [])) (fun i => a.locks.take i = b.locks.take i) rfl rfl rfl ?_
  intro i hi hG
  dsimp only
  unfold ref08_Same_l2
  generalize hQ : (fun (u : AV) (K : SH) => u = AV.bool (decide (a = b)) ∧ K = []) = Q
  rcases Nat.lt_or_ge i a.locks.length with g1 | g1
  · have g2 : i < b.locks.length := by omega
    have hx := map_at (f := LockD.enc) g1
    have hy := map_at (f := LockD.enc) g2
    have hd := dec_lt g1
    have hrd : (a.locks[i]).readers.length < 2 ^ 62 := by have := s4 _ (List.getElem_mem g1); omega
    repeat' (first | (refine h_load1 ?_; refine b_load_q ?_) | (refine h_faddr ?_; refine a_faddr_q ?_) | (refine h_bin ?_; first | refine a_lss ?_ | refine a_neq ?_ | refine a_add ?_) | (refine h_cond ?_; first | refine b_cond_t ?_ | refine a_cond (fun h => ?_) (fun h => ?_)) | (refine h_idx ?_; refine b_idx_n ?_) | (refine h_len ?_; refine a_len_m ?_) | (refine h_calm ?_; refine b_calm ?_) | (refine h_note ?_; refine a_note ?_) | (refine h_pick ?_; first | refine b_pick_t ?_ | refine b_pick_f ?_) | (refine h_dgrd ?_; first | refine b_dgrd_y ?_ | refine b_dgrd_n ?_ | refine a_dgrd_f (fun h => ?_) (fun h => ?_)) | refine a_dmark ?_ | ((with_reducible refine h_dfn 34 ?_); refine b_dcall (sameInts_ok _ _ hrd) ?_) | (refine h_un ?_; refine a_not ?_) | refine a_tt ?_)
    · subst hQ
      refine ⟨?_, rfl⟩
      rw [show decide (a = b) = false from decide_eq_false fun e => by subst e; simp at h]
    · refine ⟨i + 1, by omega, by omega, take_step g1 g2 hG ?_, fzs_eq (by rw [i64_succ g1 (by omega)]; rfl) rfl⟩
      rename_i hr
      have q1 := of_decide_eq_false hr
      have q2 : a.locks[i].readers = b.locks[i].readers := by simpa using h
      have q3 : a.locks[i].owner = b.locks[i].owner := by omega
      rw [show a.locks[i] = ⟨a.locks[i].owner, a.locks[i].readers⟩ from rfl, q2, q3]
    · subst hQ
      refine ⟨?_, rfl⟩
      have q1 := of_decide_eq_true h
      rw [show decide (a = b) = false from decide_eq_false fun e => q1 (by subst e; rfl)]
  · have hd := dec_ge g1
    have hlk := take_all g1 l1 hG
    repeat' (first | (refine h_load1 ?_; refine b_load_q ?_) | (refine h_faddr ?_; refine a_faddr_q ?_) | (refine h_bin ?_; refine a_lss ?_) | (refine h_cond ?_; refine b_cond_f ?_) | (refine h_len ?_; refine a_len_m ?_))
    subst hQ
    exact same_l1 a b s2 s3 l2 l3 (fun h1 h2 => by cases a; cases b; simp_all)
theorem same_ok (a b : SyncD) (ha : SmallS a) : PureA Try.prog 20 [.agg a.enc, .agg b.enc] (.bool (decide (a = b))) := by
  refine ref08_Same_ok _ _ _ _ ?_
  unfold ref08_Same_w
  generalize hQ : (fun (u : AV) (K : SH) => u = AV.bool (decide (a = b)) ∧ K = []) = Q
  repeat' (first | (refine h_load1 ?_; refine b_load_q ?_) | (refine h_faddr ?_; refine a_faddr_q ?_) | (refine h_bin ?_; refine a_neq ?_) | (refine h_cond ?_; first | refine b_cond_t ?_ | refine a_cond (fun h => ?_) (fun h => ?_)) | (refine h_len ?_; refine a_len_m ?_) | (refine h_pick ?_; first | refine b_pick_t ?_ | refine b_pick_f ?_) | (refine h_grd ?_; first | refine b_grd_y ?_ | refine b_grd_n ?_ | refine a_grd_f (fun h => ?_) (fun h => ?_)) | (refine h_box ?_; refine b_box (fun nb_ hnb_ => ?_)) | (refine h_frz1 ?_; refine b_frz_p ?_))
  · subst hQ
    refine ⟨?_, rfl⟩
    have := of_decide_eq_true h
    rw [show decide (a = b) = false from decide_eq_false fun e => this (by rw [e])]
  · rename_i h1 h2 h3
    have e1 := of_decide_eq_false h
    have e2 := of_decide_eq_false h1
    have e3 := of_decide_eq_false h2
    have e4 := of_decide_eq_false h3
    subst hQ
    exact same_l2 a b ha (by omega) (by omega) (by omega) (by omega)
  all_goals
    subst hQ
    refine ⟨?_, rfl⟩
    have := of_decide_eq_true h
    rw [show decide (a = b) = false from decide_eq_false fun e => this (by rw [e])]
end Go.Proofs.Ytadjimfkfmojkaa.Am

end
section
namespace Go.Proofs.Ytadjimfkfmojkaa.Am
set_option maxRecDepth 100000
set_option linter.unusedSimpArgs false
set_option linter.unusedVariables false
def W0 : WorldD := ⟨[⟨[120], 0, 0, false, 0⟩], [⟨[109], false⟩, ⟨[110], false⟩, ⟨[114], true⟩], [⟨[99], 0⟩], [[102]], [[116], [117], [119]], []⟩
def RdOk (l : LockD) : Prop := l.readers.Pairwise (· < ·) ∧ ∀ y ∈ l.readers, 0 ≤ y ∧ y < 3
structure OInv (s : SyncD) : Prop where
  nl : s.locks.length = 3
  nd : s.done.length = 1
  nt : s.threads.length = 3
  cond : ∀ x ∈ s.threads, x.cond = 0
  rd : ∀ l ∈ s.locks, RdOk l
theorem rdOk_default : RdOk default := ⟨List.Pairwise.nil, fun y hy => by cases hy⟩
theorem OInv.fit {s : SyncD} (h : OInv s) : FitD W0 s := ⟨h.nl, h.nd, h.nt, fun c hc => by
  have : c = ⟨[99], 0⟩ := by simpa [W0] using hc
  subst this; rfl⟩
theorem lock_rd {s : SyncD} (h : OInv s) (i : Int) : RdOk (lockAt s i) := by
  unfold lockAt
  rcases Nat.lt_or_ge i.toNat s.locks.length with hi | hi
  · rw [show s.locks.getD i.toNat default = s.locks[i.toNat] by simp [hi]]; exact h.rd _ (List.getElem_mem hi)
  · simp [List.getD, List.getElem?_eq_none hi]; exact rdOk_default
theorem addRd_mem (l : List Int) (t x : Int) : x ∈ addRd l t ↔ x ∈ l ∨ x = t := by
  show x ∈ asc (l ++ [t]) ↔ _
  rw [asc_mem]; simp
theorem addRd_asc (l : List Int) (t : Int) : (addRd l t).Pairwise (· < ·) := asc_asc (l ++ [t])
end Go.Proofs.Ytadjimfkfmojkaa.Am

end
section
namespace Go.Proofs.Ytadjimfkfmojkaa.Am
set_option maxRecDepth 100000
set_option linter.unusedSimpArgs false
set_option linter.unusedVariables false
set_option linter.unusedSectionVars false
structure SlotD where
  st : Int
  cd : Int
  at_ : Bool
structure StD where
  o0 : Int
  o1 : Int
  o2 : Int
  r0 : List Int
  r1 : List Int
  r2 : List Int
  dn : Bool
  tx : Int
  s0 : SlotD
  s1 : SlotD
  s2 : SlotD
def u8E (n : Int) : List AV := [.int .u8 n]
def StD.enc (x : StD) : List AV := [.int .u8 x.o0, .int .u8 x.o1, .int .u8 x.o2, .lst (x.r0.map u8E), .lst (x.r1.map u8E), .lst (x.r2.map u8E), .bool x.dn, .int .u8 x.tx,
  .int .u8 x.s0.st, .int .u8 x.s0.cd, .bool x.s0.at_, .int .u8 x.s1.st, .int .u8 x.s1.cd, .bool x.s1.at_, .int .u8 x.s2.st, .int .u8 x.s2.cd, .bool x.s2.at_]
def StD.ow (x : StD) (i : Nat) : Int := if i = 0 then x.o0 else if i = 1 then x.o1 else x.o2
def StD.rd (x : StD) (i : Nat) : List Int := if i = 0 then x.r0 else if i = 1 then x.r1 else x.r2
def StD.sl (x : StD) (i : Nat) : SlotD := if i = 0 then x.s0 else if i = 1 then x.s1 else x.s2
def rdX (v : Int) : Int := IntKind.i64.wrap ((IntKind.i64.wrap v).tmod 5 - 1)
def lockX (x : StD) (i : Nat) : LockD := ⟨IntKind.i64.wrap ((IntKind.i64.wrap (x.ow i)).tmod 6 - 2), ((x.rd i).take 4).map rdX⟩
def thrX (x : StD) (i : Nat) : ThrD := ⟨(IntKind.i64.wrap (x.sl i).st).tmod 7, IntKind.i64.wrap (((IntKind.i64.wrap (x.sl i).cd).tmod 8).tdiv 7), (x.sl i).at_⟩
def syncS (x : StD) : SyncD := ⟨(List.range 3).map (lockX x), rdX x.tx, [x.dn], (List.range 3).map (thrX x)⟩
theorem cell_ow (x : StD) {i : Nat} (hi : i < 3) : x.enc[0 + 0 + ((i : Nat) : Int).toNat * 1]? = some (.int .u8 (x.ow i)) := by
  have : i = 0 ∨ i = 1 ∨ i = 2 := by omega
  rcases this with rfl | rfl | rfl <;> rfl
theorem cell_rd (x : StD) {i : Nat} (hi : i < 3) : x.enc[0 + 3 + ((i : Nat) : Int).toNat * 1]? = some (.lst ((x.rd i).map u8E)) := by
  have : i = 0 ∨ i = 1 ∨ i = 2 := by omega
  rcases this with rfl | rfl | rfl <;> rfl
theorem cell_row (x : StD) {i : Nat} (hi : i < 3) : (x.enc.drop (0 + 8 + ((i : Nat) : Int).toNat * 3)).take 3 = [.int .u8 (x.sl i).st, .int .u8 (x.sl i).cd, .bool (x.sl i).at_] := by
  have : i = 0 ∨ i = 1 ∨ i = 2 := by omega
  rcases this with rfl | rfl | rfl <;> rfl
section
variable (x : StD) (b2 b3 bd : Nat) (i : Nat) (hi : i < 3) (ol ot : Option Nat)
def bxX (ol ot : Option Nat) (i : Nat) : List AV := [slotV ol i, .int .i64 (rdX x.tx), .sl bd 0 1, slotV ot i]
def tailX (ol ot : Option Nat) (i : Nat) : SH := slotB ol 2 (((List.range i).map (lockX x)).map LockD.enc) ++ slotB ot 3 (((List.range i).map (thrX x)).map ThrD.enc)
def headX (ol ot : Option Nat) (i : Nat) : SH := (b3, ⟨4, [bxX x bd ol ot i]⟩) :: (bd, ⟨1, [[.bool x.dn]]⟩) :: (b2, ⟨4, [[.nils, .int .i64 0, .nils, .nils]]⟩) :: tailX x ol ot i
include hi
theorem sync_l0 (b5 : Nat) (hol : ol = none → i = 0) (hot : ot = none → i = 0) (nx : W.Kn)
    (hnx : ∀ (bl bt : Nat) (vs : List AV) (L : SH), FzS vs L [.pptr [x.enc] 0 0, .ptr b2 0 0, .ptr b3 0 0, .int .i64 ((i + 1 : Nat) : Int)] (headX x b2 b3 bd (some bl) (some bt) (i + 1)) → nx vs L) :
    W.loop (law08_State_sync_l0 nx) [.pptr [x.enc] 0 0, .ptr b2 0 0, .ptr b3 0 0, .int .i64 i, .ptr b5 0 0, .int .i64 (0 : Nat)] ((b5, ⟨2, [[.int .i64 (lockX x i).owner, .nils]]⟩) :: headX x b2 b3 bd ol ot i) := by
  refine loop_ex (min (x.rd i).length 4) (fun k (orr : Option Nat) => ([.pptr [x.enc] 0 0, .ptr b2 0 0, .ptr b3 0 0, .int .i64 i, .ptr b5 0 0, .int .i64 k], (b5, ⟨2, [[.int .i64 (lockX x i).owner, slotV orr k]]⟩) :: (b3, ⟨4, [bxX x bd ol ot i]⟩) :: (bd, ⟨1, [[.bool x.dn]]⟩) :: (b2, ⟨4, [[.nils, .int .i64 0, .nils, .nils]]⟩) :: (slotB orr 1 ((((x.rd i).take k).map rdX).map intE) ++ tailX x ol ot i))) (fun k orr => orr = none → k = 0) none (fun _ => rfl) (FzS.box (K := []) (.refl _) (.cons (.refl _) (.cons .nile .nil))) ?_
  intro k orr hk ho
  dsimp only
  unfold law08_State_sync_l0
  have c1 := cell_ow x hi
  have c2 := cell_rd x hi
  have c3 := cell_row x hi
  have hi1 : IntKind.i64.wrap ((i : Int) + 1) = ((i + 1 : Nat) : Int) := i64_succ hi (by decide)
  unfold tailX
  rcases Nat.lt_or_ge k (min (x.rd i).length 4) with g1 | g1
  · have g2 : k < (x.rd i).length := by omega
    have d1 := dec_lt g2
    have d2 : decide ((k : Int) < 4) = true := decide_eq_true (by omega)
    have hx := map_at (f := u8E) g2
    have hlen : ((((x.rd i).take k).map rdX).map intE).length = k := by simp; omega
    have h0 : orr = none → (((x.rd i).take k).map rdX).map intE = [] := fun e => by rw [ho e]; rfl
    repeat' (first | refine b_load_q (r := x.enc) ?_ (by rfl) c2 | (refine h_load1 ?_; first | refine b_load_q ?_ | refine b_load_p ?_) | (refine h_faddr ?_; first | refine a_faddr_q ?_ | refine a_faddr_p ?_) | (refine h_bin ?_; first | refine a_lss ?_ | refine a_add ?_ | refine a_sub ?_ | refine b_rem ?_) | (refine h_cond ?_; refine b_cond_t ?_) | (refine h_idx ?_; refine b_idx_n ?_) | (refine h_len ?_; refine a_len_m ?_) | (refine h_calm ?_; refine b_calm ?_) | (refine h_note ?_; refine a_note ?_) | (refine h_pick ?_; refine b_pick_t ?_) | (refine h_grd ?_; refine b_grd_y ?_) | refine a_app_o (by repeat constructor) (by repeat constructor) hlen h0 (by rfl) (by simp) (by simp; omega) (by simp; omega) (by rfl) (fun nb_ hnb_ => ?_) | (refine h_store ?_; refine b_store_one ?_) | (refine h_idxP ?_; refine b_idxP_q ?_) | (refine h_bslice ?_; refine b_bslice (fun nb_ hnb_ => ?_)) | refine a_conv ?_ | refine a_tt ?_)
    refine ⟨k + 1, some nb_, by omega, by omega, nofun, ?_⟩
    refine FzS.pickE (R := (b5, _) :: (b3, _) :: (bd, _) :: (b2, _) :: (nb_, _) :: (slotB ol 2 _ ++ slotB ot 3 _)) (by repeat constructor) (by rw [i64_succ g1 (by omega)]; rfl) ?_
    rw [List.take_succ_eq_append_getElem g2, List.map_append, List.map_append]
    rfl
  · have hk4 : (x.rd i).take k = (x.rd i).take 4 := by
      rcases Nat.lt_or_ge k (x.rd i).length with h | h
      · rw [show k = 4 by omega]
      · rw [List.take_of_length_le h, List.take_of_length_le (by omega)]
    rw [hk4]
    have hkl : ((x.rd i).take 4).length = k := by rw [← hk4]; simp; omega
    have hll : (((List.range i).map (lockX x)).map LockD.enc).length = i := by simp
    have htl : (((List.range i).map (thrX x)).map ThrD.enc).length = i := by simp
    have hl0 : ol = none → ((List.range i).map (lockX x)).map LockD.enc = [] := fun e => by rw [hol e]; rfl
    have ht0 : ot = none → ((List.range i).map (thrX x)).map ThrD.enc = [] := fun e => by rw [hot e]; rfl
    have c4 : 0 + 8 + ((i : Nat) : Int).toNat * 3 + 3 ≤ x.enc.length := by show 0 + 8 + i * 3 + 3 ≤ 17; omega
    have hsl : ((List.range (i + 1)).map (lockX x)).map LockD.enc = ((List.range i).map (lockX x)).map LockD.enc ++ [(lockX x i).enc] := by simp [List.range_succ]
    have hst : ((List.range (i + 1)).map (thrX x)).map ThrD.enc = ((List.range i).map (thrX x)).map ThrD.enc ++ [(thrX x i).enc] := by simp [List.range_succ]
    have hfin : ∀ (br : AV) (bl bt : Nat) (K : SH) (vs : List AV) (L : SH), vs = [.pptr [x.enc] 0 0, .ptr b2 0 0, .ptr b3 0 0, .int .i64 (IntKind.i64.wrap ((i : Int) + 1))] → Rest L ([(b3, ⟨4, [bxX x bd (some bl) (some bt) (i + 1)]⟩), (bd, ⟨1, [[.bool x.dn]]⟩), (b2, ⟨4, [[.nils, .int .i64 0, .nils, .nils]]⟩)] ++ (bl, ⟨2, ((List.range i).map (lockX x)).map LockD.enc ++ [[.int .i64 (lockX x i).owner, br]]⟩) :: [(bt, ⟨3, ((List.range i).map (thrX x)).map ThrD.enc ++ [(thrX x i).enc]⟩)]) K → Fz K br (.lst ((lockX x i).readers.map intE)) → nx vs L := fun br bl bt K vs L hvs hr hz => by
      refine hnx bl bt vs L ?_
      unfold headX tailX
      rw [hsl, hst]
      refine FzS.rowA (A := [(b3, _), (bd, _), (b2, _)]) (R := [(bt, _)]) hr (by simp) (fun j r r' q1 q2 => ?_) (by rw [hvs, hi1])
      rcases Nat.lt_or_ge j i with hj | hj
      · rw [List.getElem?_append_left (by rw [hll]; exact hj)] at q1 q2
        rw [q1] at q2; cases q2
        exact FzL.refl _ _
      · rw [List.getElem?_append_right (by rw [hll]; exact hj), hll] at q1 q2
        generalize j - i = m at q1 q2
        match m with
        | 0 => cases q1; cases q2; exact .cons (.refl _) (.cons hz .nil)
        | m + 1 => simp at q1
    have dr : decide ((k : Int) < ((x.rd i).length : Int)) = true ∧ decide ((k : Int) < 4) = false ∨ decide ((k : Int) < ((x.rd i).length : Int)) = false := by
      rcases Nat.lt_or_ge k (x.rd i).length with h | h
      · exact .inl ⟨dec_lt h, decide_eq_false (by omega)⟩
      · exact .inr (dec_ge h)
    have key : law08_State_sync_zt1 [.pptr [x.enc] 0 0, .ptr b2 0 0, .ptr b3 0 0, .int .i64 i, .ptr b5 0 0, .int .i64 k] ((b5, ⟨2, [[.int .i64 (lockX x i).owner, slotV orr k]]⟩) :: (b3, ⟨4, [bxX x bd ol ot i]⟩) :: (bd, ⟨1, [[.bool x.dn]]⟩) :: (b2, ⟨4, [[.nils, .int .i64 0, .nils, .nils]]⟩) :: (slotB orr 1 ((((x.rd i).take 4).map rdX).map intE) ++ (slotB ol 2 (((List.range i).map (lockX x)).map LockD.enc) ++ slotB ot 3 (((List.range i).map (thrX x)).map ThrD.enc)))) nx := by
      unfold law08_State_sync_zt1 bxX
      cases orr with
      | none =>
        have hr0 : ((x.rd i).take 4) = [] := List.length_eq_zero_iff.1 (by rw [hkl]; exact ho rfl)
        rw [show slotV none k = AV.emp from rfl, show slotB none 1 ((((x.rd i).take 4).map rdX).map intE) = [] from rfl, List.nil_append]
        repeat' (first | refine a_part_q (by rfl) c4 c3 ?_ | (refine h_load1 ?_; first | refine b_load_q ?_ | refine b_load_p ?_) | (refine h_faddr ?_; first | refine a_faddr_q ?_ | refine a_faddr_p ?_) | (refine h_bin ?_; first | refine a_add ?_ | refine b_rem ?_ | refine b_quo ?_) | (refine h_row ?_; refine b_row_p ?_) | refine a_app_o (by repeat constructor) (by repeat constructor) (by first | exact hll | exact htl) (by first | exact hl0 | exact ht0) (by rfl) (by simp) (by simp; omega) (by simp; omega) (by rfl) (fun nb_ hnb_ => ?_) | (refine h_frz1 ?_; refine b_frz_p ?_) | (refine h_store ?_; first | refine b_store_box ?_ | refine b_store_one ?_) | (refine h_idxP ?_; refine b_idxP_q ?_) | (refine h_bslice ?_; refine b_bslice (fun nb_ hnb_ => ?_)) | refine a_conv ?_ | refine a_alloc (fun nb_ hnb_ => ?_) | refine b_build ?_)
        exact hfin .emp _ _ _ _ _ rfl (by repeat constructor) (by show Fz _ _ (.lst ((((x.rd i).take 4).map rdX).map intE)); rw [hr0]; exact .emp)
      | some br =>
        rw [show slotV (some br) k = AV.sl br 0 k from rfl, show slotB (some br) 1 ((((x.rd i).take 4).map rdX).map intE) = [(br, ⟨1, (((x.rd i).take 4).map rdX).map intE⟩)] from rfl, List.cons_append, List.nil_append]
        repeat' (first | refine a_part_q (by rfl) c4 c3 ?_ | (refine h_load1 ?_; first | refine b_load_q ?_ | refine b_load_p ?_) | (refine h_faddr ?_; first | refine a_faddr_q ?_ | refine a_faddr_p ?_) | (refine h_bin ?_; first | refine a_add ?_ | refine b_rem ?_ | refine b_quo ?_) | (refine h_row ?_; refine b_row_p ?_) | refine a_app_o (by repeat constructor) (by repeat constructor) (by first | exact hll | exact htl) (by first | exact hl0 | exact ht0) (by rfl) (by simp) (by simp; omega) (by simp; omega) (by rfl) (fun nb_ hnb_ => ?_) | (refine h_frz1 ?_; refine b_frz_p ?_) | (refine h_store ?_; first | refine b_store_box ?_ | refine b_store_one ?_) | (refine h_idxP ?_; refine b_idxP_q ?_) | (refine h_bslice ?_; refine b_bslice (fun nb_ hnb_ => ?_)) | refine a_conv ?_ | refine a_alloc (fun nb_ hnb_ => ?_) | refine b_build ?_)
        exact hfin (.sl br 0 k) _ _ _ _ _ rfl (by repeat constructor) (Fz.sls (size := 1) (l := (lockX x i).readers) (f := intE) (by repeat constructor) rfl (by decide) (by rw [← hkl]; simp [lockX]))
    rcases dr with ⟨d1, d2⟩ | d1
    · repeat' (first | refine b_load_q (r := x.enc) ?_ (by rfl) c2 | exact key | (refine h_faddr ?_; refine a_faddr_q ?_) | (refine h_bin ?_; refine a_lss ?_) | (refine h_cond ?_; refine b_cond_f ?_) | (refine h_len ?_; refine a_len_m ?_) | (refine h_pick ?_; refine b_pick_t ?_) | (refine h_grd ?_; refine b_grd_y ?_) | (refine h_idxP ?_; refine b_idxP_q ?_))
    · repeat' (first | refine b_load_q (r := x.enc) ?_ (by rfl) c2 | exact key | (refine h_faddr ?_; refine a_faddr_q ?_) | (refine h_bin ?_; refine a_lss ?_) | (refine h_cond ?_; refine b_cond_f ?_) | (refine h_len ?_; refine a_len_m ?_) | (refine h_pick ?_; refine b_pick_f ?_) | (refine h_grd ?_; refine b_grd_n ?_) | (refine h_idxP ?_; refine b_idxP_q ?_))
end
theorem sync_ok (x : StD) : PureA Try.prog 39 [.agg x.enc] (.agg (syncS x).enc) := by
  refine CallA.fz (law08_State_sync_ok _ _ _ ?_)
  unfold law08_State_sync_w
  generalize hQ : (fun (v : AV) (L : SH) => ∃ v2 L2, FzS [v] L [v2] L2 ∧ v2 = AV.agg (syncS x).enc ∧ L2 = []) = Q
  repeat' (first | (refine h_load1 ?_; refine b_load_q ?_) | (refine h_faddr ?_; refine a_faddr_q ?_) | (refine h_bin ?_; first | refine a_sub ?_ | refine b_rem ?_) | (refine h_box ?_; refine b_box (fun nb_ hnb_ => ?_)) | (refine h_frz1 ?_; refine b_frz_p ?_) | (refine h_store ?_; refine b_store_box ?_) | (refine h_bslice ?_; refine b_bslice (fun nb_ hnb_ => ?_)) | refine a_conv ?_ | refine a_alloc (fun nb_ hnb_ => ?_) | refine b_build ?_)
  rename_i a1 _ b2 _ bd _
  revert nb_
  intro b3 _
  refine loop_ex 3 (fun i (o : Option Nat × Option Nat) => ([.pptr [x.enc] 0 0, .ptr b2 0 0, .ptr b3 0 0, .int .i64 i], headX x b2 b3 bd o.1 o.2 i)) (fun i o => (o.1 = none → i = 0) ∧ (o.2 = none → i = 0)) (none, none) ⟨fun _ => rfl, fun _ => rfl⟩ (FzS.box (K := []) (.refl _) (.cons .nile (.cons (.refl _) (.cons (.refl _) (.cons .nile .nil))))) ?_
  rintro i ⟨ol, ot⟩ hi ⟨ho1, ho2⟩
  dsimp only at ho1 ho2 ⊢
  unfold law08_State_sync_l1
  rcases Nat.lt_or_ge i 3 with g1 | g1
  · have hd : decide ((i : Int) < 3) = true := decide_eq_true (by omega)
    have c1 := cell_ow x g1
    have hl0 := fun b5 => sync_l0 x b2 b3 bd i g1 ol ot b5 ho1 ho2 (fun vs' L' => ∃ (j : Nat) (o' : Option Nat × Option Nat), i < j ∧ j ≤ 3 ∧ ((o'.1 = none → j = 0) ∧ (o'.2 = none → j = 0)) ∧ FzS vs' L' [.pptr [x.enc] 0 0, .ptr b2 0 0, .ptr b3 0 0, .int .i64 j] (headX x b2 b3 bd o'.1 o'.2 j)) (fun bl bt vs L h => ⟨i + 1, (some bl, some bt), by omega, by omega, ⟨nofun, nofun⟩, h⟩)
    repeat' (first | refine b_load_q (r := x.enc) ?_ (by rfl) c1 | exact hl0 _ | (refine h_faddr ?_; refine a_faddr_q ?_) | (refine h_bin ?_; first | refine a_lss ?_ | refine a_sub ?_ | refine b_rem ?_) | (refine h_cond ?_; refine b_cond_t ?_) | (refine h_store ?_; refine b_store_box ?_) | (refine h_idxP ?_; refine b_idxP_q ?_) | refine a_conv ?_ | refine a_alloc (fun nb_ hnb_ => ?_) | refine b_build ?_)
  · have hd : decide ((i : Int) < 3) = false := decide_eq_false (by omega)
    obtain rfl : i = 3 := by omega
    cases ol with
    | none => exact absurd (ho1 rfl) (by decide)
    | some bl =>
      cases ot with
      | none => exact absurd (ho2 rfl) (by decide)
      | some bt =>
        have hb : (bxX x bd (some bl) (some bt) 3).all AV.one = true := rfl
        unfold headX tailX
        rw [show slotB (some bl) 2 (((List.range 3).map (lockX x)).map LockD.enc) = [(bl, ⟨2, ((List.range 3).map (lockX x)).map LockD.enc⟩)] from rfl, show slotB (some bt) 3 (((List.range 3).map (thrX x)).map ThrD.enc) = [(bt, ⟨3, ((List.range 3).map (thrX x)).map ThrD.enc⟩)] from rfl, List.cons_append, List.nil_append]
        repeat' (first | (refine h_bin ?_; refine a_lss ?_) | (refine h_cond ?_; refine b_cond_f ?_) | (refine h_row ?_; refine b_row_p ?_) | (refine h_store ?_; refine b_store_box ?_))
        subst hQ
        exact ⟨_, [], FzS.all (Fz.aggs (.cons (Fz.sls (l := (syncS x).locks) (f := LockD.enc) (by repeat constructor) rfl (by decide) rfl) (.cons (.refl _) (.cons (Fz.sls (l := (syncS x).done) (f := boolE) (by repeat constructor) rfl (by decide) rfl) (.cons (Fz.sls (l := (syncS x).threads) (f := ThrD.enc) (by repeat constructor) rfl (by decide) rfl) .nil))))), rfl, rfl⟩
end Go.Proofs.Ytadjimfkfmojkaa.Am

end
section
namespace Go.Proofs.Ytadjimfkfmojkaa.Am
set_option maxRecDepth 100000
set_option linter.unusedSimpArgs false
set_option linter.unusedVariables false
theorem enabledR_no (w : WorldD) (s : SyncD) (t k o : Int) (hcn : w.conds.length < 2 ^ 62) (hr : ∀ l ∈ s.locks, l.readers.length < 2 ^ 40) (Q : AV → SH → Prop) (hq : Q (.bool (enabledS w s t k o)) []) (hn : (fitsS w s && inB t w.threads.length && allowedS w k o) = false) : ref08_Enabled_w (.agg w.enc) (.agg s.enc) (.int .i64 t) (.int .i64 k) (.int .i64 o) [] Q := by
  unfold ref08_Enabled_w
  have e : enabledS w s t k o = false := by unfold enabledS; rw [hn, Bool.false_and]
  rw [e] at hq
  cases h1 : fitsS w s with
  | false =>
    have nh1 : (!fitsS w s) = true := by rw [h1]; rfl
    repeat' (first | (refine h_cond ?_; refine b_cond_t ?_) | (refine h_row ?_; refine b_row_q ?_) | (refine h_pick ?_; refine b_pick_t ?_) | (refine h_grd ?_; refine b_grd_n ?_) | refine a_mark ?_ | ((with_reducible refine h_fn 38 ?_); refine m_call (fitsR_ok _ _ hcn) ?_) | (refine h_un ?_; refine a_not ?_) | (refine h_box ?_; refine b_box (fun nb_ hnb_ => ?_)) | (refine h_frz1 ?_; refine b_frz_p ?_))
    all_goals exact hq
  | true =>
    have nh1 : (!fitsS w s) = false := by rw [h1]; rfl
    cases h2 : inB t w.threads.length with
    | false =>
      have nh2 : (!inB t w.threads.length) = true := by rw [h2]; rfl
      repeat' (first | (refine h_load1 ?_; refine b_load_q ?_) | (refine h_faddr ?_; refine a_faddr_q ?_) | (refine h_cond ?_; refine b_cond_t ?_) | (refine h_row ?_; refine b_row_q ?_) | (refine h_len ?_; refine a_len_m ?_) | (refine h_pick ?_; first | refine b_pick_t ?_ | refine b_pick_f ?_) | (refine h_grd ?_; first | refine b_grd_y ?_ | refine b_grd_n ?_) | refine a_mark ?_ | ((with_reducible refine h_fn 38 ?_); refine m_call (fitsR_ok _ _ hcn) ?_) | ((with_reducible refine h_fn 61 ?_); refine m_call (in_ok _ _) ?_) | (refine h_un ?_; refine a_not ?_) | (refine h_box ?_; refine b_box (fun nb_ hnb_ => ?_)) | (refine h_frz1 ?_; refine b_frz_p ?_))
      all_goals exact hq
    | true =>
      have nh2 : (!inB t w.threads.length) = false := by rw [h2]; rfl
      have h3 : allowedS w k o = false := by rw [h1, h2] at hn; simpa using hn
      have nh3 : (!allowedS w k o) = true := by rw [h3]; rfl
      repeat' (first | (refine h_load1 ?_; refine b_load_q ?_) | (refine h_faddr ?_; refine a_faddr_q ?_) | (refine h_cond ?_; refine b_cond_t ?_) | (refine h_row ?_; refine b_row_q ?_) | (refine h_len ?_; refine a_len_m ?_) | (refine h_pick ?_; refine b_pick_f ?_) | (refine h_grd ?_; refine b_grd_y ?_) | refine a_mark ?_ | ((with_reducible refine h_fn 38 ?_); refine m_call (fitsR_ok _ _ hcn) ?_) | ((with_reducible refine h_fn 61 ?_); refine m_call (in_ok _ _) ?_) | ((with_reducible refine h_fn 63 ?_); refine m_call (named_ok _ _ _) ?_) | (refine h_un ?_; refine a_not ?_) | (refine h_box ?_; refine b_box (fun nb_ hnb_ => ?_)) | (refine h_frz1 ?_; refine b_frz_p ?_))
      all_goals exact hq
theorem enabledR_1 (w : WorldD) (s : SyncD) (t o : Int) (hcn : w.conds.length < 2 ^ 62) (hr : ∀ l ∈ s.locks, l.readers.length < 2 ^ 40) (Q : AV → SH → Prop) (hq : Q (.bool (enabledS w s t 1 o)) []) (h1 : fitsS w s = true) (h2 : inB t w.threads.length = true) (ha : allowedS w 1 o = true) : ref08_Enabled_w (.agg w.enc) (.agg s.enc) (.int .i64 t) (.int .i64 1) (.int .i64 o) [] Q := by
  unfold ref08_Enabled_w
  have nh1 : (!fitsS w s) = false := by rw [h1]; rfl
  have nh2 : (!inB t w.threads.length) = false := by rw [h2]; rfl
  have hf := fitsS_iff.1 h1
  have ht' : inB t s.threads.length = true := by rw [hf.threads]; exact h2
  have hrd := rd_small hr
  have nha : (!allowedS w 1 o) = false := by rw [ha]; rfl
  simp only [enabledS, h1, h2, ha, readyS, lockAt, thrAt, doneAt, mxAt, Bool.true_and, Int.reduceEq, Int.reduceNeg, if_true, if_false, or_self, or_true, true_or, or_false, false_or, reduceIte, reduceCtorEq] at hq
  repeat' (first | (refine h_load1 ?_; refine b_load_q ?_) | (refine h_faddr ?_; refine a_faddr_q ?_) | (refine h_bin ?_; refine a_eql ?_) | (refine h_cond ?_; first | refine b_cond_t ?_ | refine b_cond_f ?_) | (refine h_idx ?_; refine b_idx_i ?_) | (refine h_row ?_; first | refine b_row_q ?_ | refine b_row_i ?_) | (refine h_len ?_; refine a_len_m ?_) | (refine h_pick ?_; refine b_pick_f ?_) | (refine h_grd ?_; refine b_grd_y ?_) | refine a_mark ?_ | ((with_reducible refine h_fn 38 ?_); refine m_call (fitsR_ok _ _ hcn) ?_) | ((with_reducible refine h_fn 61 ?_); refine m_call (in_ok _ _) ?_) | ((with_reducible refine h_fn 63 ?_); refine m_call (named_ok _ _ _) ?_) | (refine h_un ?_; refine a_not ?_) | (refine h_box ?_; refine b_box (fun nb_ hnb_ => ?_)) | (refine h_frz1 ?_; refine b_frz_p ?_) | (refine h_store ?_; refine b_store_box ?_) | refine a_alloc (fun nb_ hnb_ => ?_))
  all_goals first | exact hq | (refine Eq.mp (congrArg (fun b => Q (AV.bool b) []) ?_) hq; clear hq; first | (have h' := of_decide_eq_true h; simp [h']; done) | (have h' := of_decide_eq_false h; simp [h']; done) | (simp [h]; done) | (simp_all; done))
theorem enabledR_2 (w : WorldD) (s : SyncD) (t o : Int) (hcn : w.conds.length < 2 ^ 62) (hr : ∀ l ∈ s.locks, l.readers.length < 2 ^ 40) (Q : AV → SH → Prop) (hq : Q (.bool (enabledS w s t 2 o)) []) (h1 : fitsS w s = true) (h2 : inB t w.threads.length = true) (ha : allowedS w 2 o = true) : ref08_Enabled_w (.agg w.enc) (.agg s.enc) (.int .i64 t) (.int .i64 2) (.int .i64 o) [] Q := by
  unfold ref08_Enabled_w
  have nh1 : (!fitsS w s) = false := by rw [h1]; rfl
  have nh2 : (!inB t w.threads.length) = false := by rw [h2]; rfl
  have hf := fitsS_iff.1 h1
  have ht' : inB t s.threads.length = true := by rw [hf.threads]; exact h2
  have hrd := rd_small hr
  have nha : (!allowedS w 2 o) = false := by rw [ha]; rfl
  simp only [enabledS, h1, h2, ha, readyS, lockAt, thrAt, doneAt, mxAt, Bool.true_and, Int.reduceEq, Int.reduceNeg, if_true, if_false, or_self, or_true, true_or, or_false, false_or, reduceIte, reduceCtorEq] at hq
  repeat' (first | (refine h_load1 ?_; refine b_load_q ?_) | (refine h_faddr ?_; refine a_faddr_q ?_) | (refine h_bin ?_; first | refine a_eql ?_ | refine a_neq ?_) | (refine h_cond ?_; first | refine b_cond_f ?_ | refine a_cond (fun h => ?_) (fun h => ?_)) | (refine h_idx ?_; refine b_idx_i ?_) | (refine h_row ?_; first | refine b_row_q ?_ | refine b_row_i ?_) | (refine h_len ?_; refine a_len_m ?_) | (refine h_pick ?_; refine b_pick_f ?_) | (refine h_grd ?_; refine b_grd_y ?_) | refine a_mark ?_ | ((with_reducible refine h_fn 38 ?_); refine m_call (fitsR_ok _ _ hcn) ?_) | ((with_reducible refine h_fn 61 ?_); refine m_call (in_ok _ _) ?_) | ((with_reducible refine h_fn 63 ?_); refine m_call (named_ok _ _ _) ?_) | (refine h_un ?_; refine a_not ?_) | (refine h_box ?_; refine b_box (fun nb_ hnb_ => ?_)) | (refine h_frz1 ?_; refine b_frz_p ?_) | (refine h_store ?_; refine b_store_box ?_) | refine a_alloc (fun nb_ hnb_ => ?_) | refine a_join ?_)
  all_goals first | exact hq | (refine Eq.mp (congrArg (fun b => Q (AV.bool b) []) ?_) hq; clear hq; first | (have h' := of_decide_eq_true h; simp [h']; done) | (have h' := of_decide_eq_false h; simp [h']; done) | (simp [h]; done) | (simp_all; done))
theorem enabledR_3 (w : WorldD) (s : SyncD) (t o : Int) (hcn : w.conds.length < 2 ^ 62) (hr : ∀ l ∈ s.locks, l.readers.length < 2 ^ 40) (Q : AV → SH → Prop) (hq : Q (.bool (enabledS w s t 3 o)) []) (h1 : fitsS w s = true) (h2 : inB t w.threads.length = true) (ha : allowedS w 3 o = true) : ref08_Enabled_w (.agg w.enc) (.agg s.enc) (.int .i64 t) (.int .i64 3) (.int .i64 o) [] Q := by
  unfold ref08_Enabled_w
  have nh1 : (!fitsS w s) = false := by rw [h1]; rfl
  have nh2 : (!inB t w.threads.length) = false := by rw [h2]; rfl
  have hf := fitsS_iff.1 h1
  have ht' : inB t s.threads.length = true := by rw [hf.threads]; exact h2
  have hrd := rd_small hr
  have nha : (!allowedS w 3 o) = false := by rw [ha]; rfl
  simp only [enabledS, h1, h2, ha, readyS, lockAt, thrAt, doneAt, mxAt, Bool.true_and, Int.reduceEq, Int.reduceNeg, if_true, if_false, or_self, or_true, true_or, or_false, false_or, reduceIte, reduceCtorEq] at hq
  repeat' (first | (refine h_load1 ?_; refine b_load_q ?_) | (refine h_faddr ?_; refine a_faddr_q ?_) | (refine h_bin ?_; first | refine a_eql ?_ | refine a_neq ?_) | (refine h_cond ?_; first | refine b_cond_f ?_ | refine a_cond (fun h => ?_) (fun h => ?_)) | (refine h_idx ?_; refine b_idx_i ?_) | (refine h_row ?_; first | refine b_row_q ?_ | refine b_row_i ?_) | (refine h_len ?_; refine a_len_m ?_) | (refine h_pick ?_; refine b_pick_f ?_) | (refine h_grd ?_; refine b_grd_y ?_) | refine a_mark ?_ | ((with_reducible refine h_fn 38 ?_); refine m_call (fitsR_ok _ _ hcn) ?_) | ((with_reducible refine h_fn 61 ?_); refine m_call (in_ok _ _) ?_) | ((with_reducible refine h_fn 63 ?_); refine m_call (named_ok _ _ _) ?_) | (refine h_un ?_; refine a_not ?_) | (refine h_box ?_; refine b_box (fun nb_ hnb_ => ?_)) | (refine h_frz1 ?_; refine b_frz_p ?_) | (refine h_store ?_; refine b_store_box ?_) | refine a_alloc (fun nb_ hnb_ => ?_) | refine a_join ?_)
  all_goals first | exact hq | (refine Eq.mp (congrArg (fun b => Q (AV.bool b) []) ?_) hq; clear hq; first | (have h' := of_decide_eq_true h; simp [h']; done) | (have h' := of_decide_eq_false h; simp [h']; done) | (simp [h]; done) | (simp_all; done))
theorem enabledR_4 (w : WorldD) (s : SyncD) (t o : Int) (hcn : w.conds.length < 2 ^ 62) (hr : ∀ l ∈ s.locks, l.readers.length < 2 ^ 40) (Q : AV → SH → Prop) (hq : Q (.bool (enabledS w s t 4 o)) []) (h1 : fitsS w s = true) (h2 : inB t w.threads.length = true) (ha : allowedS w 4 o = true) : ref08_Enabled_w (.agg w.enc) (.agg s.enc) (.int .i64 t) (.int .i64 4) (.int .i64 o) [] Q := by
  unfold ref08_Enabled_w
  have nh1 : (!fitsS w s) = false := by rw [h1]; rfl
  have nh2 : (!inB t w.threads.length) = false := by rw [h2]; rfl
  have hf := fitsS_iff.1 h1
  have ht' : inB t s.threads.length = true := by rw [hf.threads]; exact h2
  have hrd := rd_small hr
  have nha : (!allowedS w 4 o) = false := by rw [ha]; rfl
  simp only [enabledS, h1, h2, ha, readyS, lockAt, thrAt, doneAt, mxAt, Bool.true_and, Int.reduceEq, Int.reduceNeg, if_true, if_false, or_self, or_true, true_or, or_false, false_or, reduceIte, reduceCtorEq] at hq
  repeat' (first | (refine h_load1 ?_; refine b_load_q ?_) | (refine h_faddr ?_; refine a_faddr_q ?_) | (refine h_bin ?_; first | refine a_eql ?_ | refine a_neq ?_) | (refine h_cond ?_; first | refine b_cond_f ?_ | refine a_cond (fun h => ?_) (fun h => ?_)) | (refine h_idx ?_; refine b_idx_i ?_) | (refine h_row ?_; first | refine b_row_q ?_ | refine b_row_i ?_) | (refine h_len ?_; refine a_len_m ?_) | (refine h_pick ?_; refine b_pick_f ?_) | (refine h_grd ?_; refine b_grd_y ?_) | refine a_mark ?_ | ((with_reducible refine h_fn 38 ?_); refine m_call (fitsR_ok _ _ hcn) ?_) | ((with_reducible refine h_fn 61 ?_); refine m_call (in_ok _ _) ?_) | ((with_reducible refine h_fn 63 ?_); refine m_call (named_ok _ _ _) ?_) | (refine h_un ?_; refine a_not ?_) | (refine h_box ?_; refine b_box (fun nb_ hnb_ => ?_)) | (refine h_frz1 ?_; refine b_frz_p ?_) | (refine h_store ?_; refine b_store_box ?_) | refine a_alloc (fun nb_ hnb_ => ?_) | refine a_join ?_)
  all_goals first | exact hq | (refine Eq.mp (congrArg (fun b => Q (AV.bool b) []) ?_) hq; clear hq; first | (have h' := of_decide_eq_true h; simp [h']; done) | (have h' := of_decide_eq_false h; simp [h']; done) | (simp [h]; done) | (simp_all; done))
theorem enabledR_5 (w : WorldD) (s : SyncD) (t o : Int) (hcn : w.conds.length < 2 ^ 62) (hr : ∀ l ∈ s.locks, l.readers.length < 2 ^ 40) (Q : AV → SH → Prop) (hq : Q (.bool (enabledS w s t 5 o)) []) (h1 : fitsS w s = true) (h2 : inB t w.threads.length = true) (ha : allowedS w 5 o = true) : ref08_Enabled_w (.agg w.enc) (.agg s.enc) (.int .i64 t) (.int .i64 5) (.int .i64 o) [] Q := by
  unfold ref08_Enabled_w
  have nh1 : (!fitsS w s) = false := by rw [h1]; rfl
  have nh2 : (!inB t w.threads.length) = false := by rw [h2]; rfl
  have hf := fitsS_iff.1 h1
  have ht' : inB t s.threads.length = true := by rw [hf.threads]; exact h2
  have hrd := rd_small hr
  have nha : (!allowedS w 5 o) = false := by rw [ha]; rfl
  simp only [enabledS, h1, h2, ha, readyS, lockAt, thrAt, doneAt, mxAt, Bool.true_and, Int.reduceEq, Int.reduceNeg, if_true, if_false, or_self, or_true, true_or, or_false, false_or, reduceIte, reduceCtorEq] at hq
  repeat' (first | (refine h_load1 ?_; refine b_load_q ?_) | (refine h_faddr ?_; refine a_faddr_q ?_) | (refine h_bin ?_; first | refine a_eql ?_ | refine a_neq ?_) | (refine h_cond ?_; first | refine b_cond_f ?_ | refine a_cond (fun h => ?_) (fun h => ?_)) | (refine h_idx ?_; refine b_idx_i ?_) | (refine h_row ?_; first | refine b_row_q ?_ | refine b_row_i ?_) | (refine h_len ?_; refine a_len_m ?_) | (refine h_pick ?_; refine b_pick_f ?_) | (refine h_grd ?_; refine b_grd_y ?_) | refine a_mark ?_ | ((with_reducible refine h_fn 38 ?_); refine m_call (fitsR_ok _ _ hcn) ?_) | ((with_reducible refine h_fn 61 ?_); refine m_call (in_ok _ _) ?_) | ((with_reducible refine h_fn 63 ?_); refine m_call (named_ok _ _ _) ?_) | (refine h_un ?_; refine a_not ?_) | (refine h_box ?_; refine b_box (fun nb_ hnb_ => ?_)) | (refine h_frz1 ?_; refine b_frz_p ?_) | (refine h_store ?_; refine b_store_box ?_) | refine a_alloc (fun nb_ hnb_ => ?_) | refine a_join ?_)
  all_goals first | exact hq | (refine Eq.mp (congrArg (fun b => Q (AV.bool b) []) ?_) hq; clear hq; first | (have h' := of_decide_eq_true h; simp [h']; done) | (have h' := of_decide_eq_false h; simp [h']; done) | (simp [h]; done) | (simp_all; done))
theorem enabledR_6 (w : WorldD) (s : SyncD) (t o : Int) (hcn : w.conds.length < 2 ^ 62) (hr : ∀ l ∈ s.locks, l.readers.length < 2 ^ 40) (Q : AV → SH → Prop) (hq : Q (.bool (enabledS w s t 6 o)) []) (h1 : fitsS w s = true) (h2 : inB t w.threads.length = true) (ha : allowedS w 6 o = true) : ref08_Enabled_w (.agg w.enc) (.agg s.enc) (.int .i64 t) (.int .i64 6) (.int .i64 o) [] Q := by
  unfold ref08_Enabled_w
  have nh1 : (!fitsS w s) = false := by rw [h1]; rfl
  have nh2 : (!inB t w.threads.length) = false := by rw [h2]; rfl
  have hf := fitsS_iff.1 h1
  have ht' : inB t s.threads.length = true := by rw [hf.threads]; exact h2
  have hrd := rd_small hr
  have nha : (!allowedS w 6 o) = false := by rw [ha]; rfl
  have hl : inB o s.locks.length = true := by rw [hf.locks]; simp [allowedS] at ha; exact ha.1
  simp only [enabledS, h1, h2, ha, readyS, lockAt, thrAt, doneAt, mxAt, Bool.true_and, Int.reduceEq, Int.reduceNeg, if_true, if_false, or_self, or_true, true_or, or_false, false_or, reduceIte, reduceCtorEq] at hq
  repeat' (first | (refine h_load1 ?_; first | refine b_load_q ?_ | refine b_load_i ?_) | (refine h_faddr ?_; refine a_faddr_q ?_) | (refine h_bin ?_; first | refine a_eql ?_ | refine a_neq ?_) | (refine h_cond ?_; first | refine b_cond_t ?_ | refine b_cond_f ?_ | refine a_cond (fun h => ?_) (fun h => ?_)) | (refine h_idx ?_; refine b_idx_i ?_) | (refine h_row ?_; first | refine b_row_q ?_ | refine b_row_i ?_) | (refine h_len ?_; refine a_len_m ?_) | (refine h_pick ?_; refine b_pick_f ?_) | (refine h_grd ?_; refine b_grd_y ?_) | refine a_mark ?_ | ((with_reducible refine h_fn 38 ?_); refine m_call (fitsR_ok _ _ hcn) ?_) | ((with_reducible refine h_fn 61 ?_); refine m_call (in_ok _ _) ?_) | ((with_reducible refine h_fn 63 ?_); refine m_call (named_ok _ _ _) ?_) | (refine h_un ?_; refine a_not ?_) | (refine h_box ?_; refine b_box (fun nb_ hnb_ => ?_)) | (refine h_frz1 ?_; refine b_frz_p ?_) | (refine h_store ?_; refine b_store_box ?_) | refine a_alloc (fun nb_ hnb_ => ?_))
  all_goals first | exact hq | (refine Eq.mp (congrArg (fun b => Q (AV.bool b) []) ?_) hq; clear hq; first | (have h' := of_decide_eq_true h; simp [h']; done) | (have h' := of_decide_eq_false h; simp [h']; done) | (simp [h]; done) | (simp_all; done))
theorem enabledR_7 (w : WorldD) (s : SyncD) (t o : Int) (hcn : w.conds.length < 2 ^ 62) (hr : ∀ l ∈ s.locks, l.readers.length < 2 ^ 40) (Q : AV → SH → Prop) (hq : Q (.bool (enabledS w s t 7 o)) []) (h1 : fitsS w s = true) (h2 : inB t w.threads.length = true) (ha : allowedS w 7 o = true) : ref08_Enabled_w (.agg w.enc) (.agg s.enc) (.int .i64 t) (.int .i64 7) (.int .i64 o) [] Q := by
  unfold ref08_Enabled_w
  have nh1 : (!fitsS w s) = false := by rw [h1]; rfl
  have nh2 : (!inB t w.threads.length) = false := by rw [h2]; rfl
  have hf := fitsS_iff.1 h1
  have ht' : inB t s.threads.length = true := by rw [hf.threads]; exact h2
  have hrd := rd_small hr
  have nha : (!allowedS w 7 o) = false := by rw [ha]; rfl
  have hl : inB o s.locks.length = true := by rw [hf.locks]; simp [allowedS] at ha; exact ha.1
  simp only [enabledS, h1, h2, ha, readyS, lockAt, thrAt, doneAt, mxAt, Bool.true_and, Int.reduceEq, Int.reduceNeg, if_true, if_false, or_self, or_true, true_or, or_false, false_or, reduceIte, reduceCtorEq] at hq
  repeat' (first | (refine h_load1 ?_; first | refine b_load_q ?_ | refine b_load_i ?_) | (refine h_faddr ?_; refine a_faddr_q ?_) | (refine h_bin ?_; first | refine a_eql ?_ | refine a_neq ?_) | (refine h_cond ?_; first | refine b_cond_t ?_ | refine b_cond_f ?_ | refine a_cond (fun h => ?_) (fun h => ?_)) | (refine h_idx ?_; refine b_idx_i ?_) | (refine h_row ?_; first | refine b_row_q ?_ | refine b_row_i ?_) | (refine h_len ?_; refine a_len_m ?_) | (refine h_pick ?_; refine b_pick_f ?_) | (refine h_grd ?_; refine b_grd_y ?_) | refine a_mark ?_ | ((with_reducible refine h_fn 38 ?_); refine m_call (fitsR_ok _ _ hcn) ?_) | ((with_reducible refine h_fn 61 ?_); refine m_call (in_ok _ _) ?_) | ((with_reducible refine h_fn 63 ?_); refine m_call (named_ok _ _ _) ?_) | (refine h_un ?_; refine a_not ?_) | (refine h_box ?_; refine b_box (fun nb_ hnb_ => ?_)) | (refine h_frz1 ?_; refine b_frz_p ?_) | (refine h_store ?_; refine b_store_box ?_) | refine a_alloc (fun nb_ hnb_ => ?_) | refine a_join ?_)
  all_goals first | exact hq | (refine Eq.mp (congrArg (fun b => Q (AV.bool b) []) ?_) hq; clear hq; first | (have h' := of_decide_eq_true h; simp [h']; done) | (have h' := of_decide_eq_false h; simp [h']; done) | (simp [h]; done) | (simp_all; done))
theorem enabledR_8 (w : WorldD) (s : SyncD) (t o : Int) (hcn : w.conds.length < 2 ^ 62) (hr : ∀ l ∈ s.locks, l.readers.length < 2 ^ 40) (Q : AV → SH → Prop) (hq : Q (.bool (enabledS w s t 8 o)) []) (h1 : fitsS w s = true) (h2 : inB t w.threads.length = true) (ha : allowedS w 8 o = true) : ref08_Enabled_w (.agg w.enc) (.agg s.enc) (.int .i64 t) (.int .i64 8) (.int .i64 o) [] Q := by
  unfold ref08_Enabled_w
  have nh1 : (!fitsS w s) = false := by rw [h1]; rfl
  have nh2 : (!inB t w.threads.length) = false := by rw [h2]; rfl
  have hf := fitsS_iff.1 h1
  have ht' : inB t s.threads.length = true := by rw [hf.threads]; exact h2
  have hrd := rd_small hr
  have nha : (!allowedS w 8 o) = false := by rw [ha]; rfl
  have hl : inB o s.locks.length = true := by rw [hf.locks]; simp [allowedS] at ha; exact ha.1
  simp only [enabledS, h1, h2, ha, readyS, lockAt, thrAt, doneAt, mxAt, Bool.true_and, Int.reduceEq, Int.reduceNeg, if_true, if_false, or_self, or_true, true_or, or_false, false_or, reduceIte, reduceCtorEq] at hq
  repeat' (first | (refine h_load1 ?_; first | refine b_load_q ?_ | refine b_load_i ?_) | (refine h_faddr ?_; refine a_faddr_q ?_) | (refine h_bin ?_; first | refine a_eql ?_ | refine a_neq ?_) | (refine h_cond ?_; first | refine b_cond_t ?_ | refine b_cond_f ?_ | refine a_cond (fun h => ?_) (fun h => ?_)) | (refine h_idx ?_; refine b_idx_i ?_) | (refine h_row ?_; first | refine b_row_q ?_ | refine b_row_i ?_) | (refine h_len ?_; refine a_len_m ?_) | (refine h_pick ?_; first | refine b_pick_t ?_ | refine b_pick_f ?_) | (refine h_grd ?_; first | refine b_grd_y ?_ | refine b_grd_n ?_ | refine a_grd_t (fun h => ?_) (fun h => ?_)) | refine a_mark ?_ | ((with_reducible refine h_fn 38 ?_); refine m_call (fitsR_ok _ _ hcn) ?_) | ((with_reducible refine h_fn 61 ?_); refine m_call (in_ok _ _) ?_) | ((with_reducible refine h_fn 63 ?_); refine m_call (named_ok _ _ _) ?_) | ((with_reducible refine h_fn 15 ?_); refine m_call (has_ok _ _ (hrd _)) ?_) | (refine h_un ?_; refine a_not ?_) | (refine h_box ?_; refine b_box (fun nb_ hnb_ => ?_)) | (refine h_frz1 ?_; refine b_frz_p ?_) | (refine h_store ?_; refine b_store_box ?_) | refine a_alloc (fun nb_ hnb_ => ?_))
  all_goals first | exact hq | (refine Eq.mp (congrArg (fun b => Q (AV.bool b) []) ?_) hq; clear hq; first | (have h' := of_decide_eq_true h; simp [h']; done) | (have h' := of_decide_eq_false h; simp [h']; done) | (simp [h]; done) | (simp_all; done))
theorem enabledR_9 (w : WorldD) (s : SyncD) (t o : Int) (hcn : w.conds.length < 2 ^ 62) (hr : ∀ l ∈ s.locks, l.readers.length < 2 ^ 40) (Q : AV → SH → Prop) (hq : Q (.bool (enabledS w s t 9 o)) []) (h1 : fitsS w s = true) (h2 : inB t w.threads.length = true) (ha : allowedS w 9 o = true) : ref08_Enabled_w (.agg w.enc) (.agg s.enc) (.int .i64 t) (.int .i64 9) (.int .i64 o) [] Q := by
  unfold ref08_Enabled_w
  have nh1 : (!fitsS w s) = false := by rw [h1]; rfl
  have nh2 : (!inB t w.threads.length) = false := by rw [h2]; rfl
  have hf := fitsS_iff.1 h1
  have ht' : inB t s.threads.length = true := by rw [hf.threads]; exact h2
  have hrd := rd_small hr
  have nha : (!allowedS w 9 o) = false := by rw [ha]; rfl
  have hl : inB o s.locks.length = true := by rw [hf.locks]; simp [allowedS] at ha; exact ha.1
  simp only [enabledS, h1, h2, ha, readyS, lockAt, thrAt, doneAt, mxAt, Bool.true_and, Int.reduceEq, Int.reduceNeg, if_true, if_false, or_self, or_true, true_or, or_false, false_or, reduceIte, reduceCtorEq] at hq
  repeat' (first | (refine h_load1 ?_; first | refine b_load_q ?_ | refine b_load_i ?_) | (refine h_faddr ?_; refine a_faddr_q ?_) | (refine h_bin ?_; first | refine a_eql ?_ | refine a_neq ?_) | (refine h_cond ?_; first | refine b_cond_t ?_ | refine b_cond_f ?_ | refine a_cond (fun h => ?_) (fun h => ?_)) | (refine h_idx ?_; refine b_idx_i ?_) | (refine h_row ?_; first | refine b_row_q ?_ | refine b_row_i ?_) | (refine h_len ?_; refine a_len_m ?_) | (refine h_pick ?_; refine b_pick_f ?_) | (refine h_grd ?_; refine b_grd_y ?_) | refine a_mark ?_ | ((with_reducible refine h_fn 38 ?_); refine m_call (fitsR_ok _ _ hcn) ?_) | ((with_reducible refine h_fn 61 ?_); refine m_call (in_ok _ _) ?_) | ((with_reducible refine h_fn 63 ?_); refine m_call (named_ok _ _ _) ?_) | ((with_reducible refine h_fn 15 ?_); refine m_call (has_ok _ _ (hrd _)) ?_) | (refine h_un ?_; refine a_not ?_) | (refine h_box ?_; refine b_box (fun nb_ hnb_ => ?_)) | (refine h_frz1 ?_; refine b_frz_p ?_) | (refine h_store ?_; refine b_store_box ?_) | refine a_alloc (fun nb_ hnb_ => ?_) | refine a_join ?_)
  all_goals first | exact hq | (refine Eq.mp (congrArg (fun b => Q (AV.bool b) []) ?_) hq; clear hq; first | (have h' := of_decide_eq_true h; simp [h']; done) | (have h' := of_decide_eq_false h; simp [h']; done) | (simp [h]; done) | (simp_all; done))
theorem enabledR_10 (w : WorldD) (s : SyncD) (t o : Int) (hcn : w.conds.length < 2 ^ 62) (hr : ∀ l ∈ s.locks, l.readers.length < 2 ^ 40) (Q : AV → SH → Prop) (hq : Q (.bool (enabledS w s t 10 o)) []) (h1 : fitsS w s = true) (h2 : inB t w.threads.length = true) (ha : allowedS w 10 o = true) : ref08_Enabled_w (.agg w.enc) (.agg s.enc) (.int .i64 t) (.int .i64 10) (.int .i64 o) [] Q := by
  unfold ref08_Enabled_w
  have nh1 : (!fitsS w s) = false := by rw [h1]; rfl
  have nh2 : (!inB t w.threads.length) = false := by rw [h2]; rfl
  have hf := fitsS_iff.1 h1
  have ht' : inB t s.threads.length = true := by rw [hf.threads]; exact h2
  have hrd := rd_small hr
  have nha : (!allowedS w 10 o) = false := by rw [ha]; rfl
  have hl : inB o s.locks.length = true := by rw [hf.locks]; simp [allowedS] at ha; exact ha.1
  simp only [enabledS, h1, h2, ha, readyS, lockAt, thrAt, doneAt, mxAt, Bool.true_and, Int.reduceEq, Int.reduceNeg, if_true, if_false, or_self, or_true, true_or, or_false, false_or, reduceIte, reduceCtorEq] at hq
  repeat' (first | (refine h_load1 ?_; first | refine b_load_q ?_ | refine b_load_i ?_) | (refine h_faddr ?_; refine a_faddr_q ?_) | (refine h_bin ?_; first | refine a_eql ?_ | refine a_neq ?_) | (refine h_cond ?_; first | refine b_cond_t ?_ | refine b_cond_f ?_ | refine a_cond (fun h => ?_) (fun h => ?_)) | (refine h_idx ?_; refine b_idx_i ?_) | (refine h_row ?_; first | refine b_row_q ?_ | refine b_row_i ?_) | (refine h_len ?_; refine a_len_m ?_) | (refine h_pick ?_; first | refine b_pick_t ?_ | refine b_pick_f ?_) | (refine h_grd ?_; first | refine b_grd_y ?_ | refine b_grd_n ?_ | refine a_grd_t (fun h => ?_) (fun h => ?_)) | refine a_mark ?_ | ((with_reducible refine h_fn 38 ?_); refine m_call (fitsR_ok _ _ hcn) ?_) | ((with_reducible refine h_fn 61 ?_); refine m_call (in_ok _ _) ?_) | ((with_reducible refine h_fn 63 ?_); refine m_call (named_ok _ _ _) ?_) | (refine h_un ?_; refine a_not ?_) | (refine h_box ?_; refine b_box (fun nb_ hnb_ => ?_)) | (refine h_frz1 ?_; refine b_frz_p ?_) | (refine h_store ?_; refine b_store_box ?_) | refine a_alloc (fun nb_ hnb_ => ?_))
  all_goals first | exact hq | (refine Eq.mp (congrArg (fun b => Q (AV.bool b) []) ?_) hq; clear hq; first | (have h' := of_decide_eq_true h; simp [h']; done) | (have h' := of_decide_eq_false h; simp [h']; done) | (simp [h]; done) | (simp_all; done))
theorem enabledR_11 (w : WorldD) (s : SyncD) (t o : Int) (hcn : w.conds.length < 2 ^ 62) (hr : ∀ l ∈ s.locks, l.readers.length < 2 ^ 40) (Q : AV → SH → Prop) (hq : Q (.bool (enabledS w s t 11 o)) []) (h1 : fitsS w s = true) (h2 : inB t w.threads.length = true) (ha : allowedS w 11 o = true) : ref08_Enabled_w (.agg w.enc) (.agg s.enc) (.int .i64 t) (.int .i64 11) (.int .i64 o) [] Q := by
  unfold ref08_Enabled_w
  have nh1 : (!fitsS w s) = false := by rw [h1]; rfl
  have nh2 : (!inB t w.threads.length) = false := by rw [h2]; rfl
  have hf := fitsS_iff.1 h1
  have ht' : inB t s.threads.length = true := by rw [hf.threads]; exact h2
  have hrd := rd_small hr
  have nha : (!allowedS w 11 o) = false := by rw [ha]; rfl
  have hl : inB o s.locks.length = true := by rw [hf.locks]; simp [allowedS] at ha; exact ha.1
  simp only [enabledS, h1, h2, ha, readyS, lockAt, thrAt, doneAt, mxAt, Bool.true_and, Int.reduceEq, Int.reduceNeg, if_true, if_false, or_self, or_true, true_or, or_false, false_or, reduceIte, reduceCtorEq] at hq
  repeat' (first | (refine h_load1 ?_; first | refine b_load_q ?_ | refine b_load_i ?_) | (refine h_faddr ?_; refine a_faddr_q ?_) | (refine h_bin ?_; first | refine a_eql ?_ | refine a_neq ?_) | (refine h_cond ?_; first | refine b_cond_t ?_ | refine b_cond_f ?_ | refine a_cond (fun h => ?_) (fun h => ?_)) | (refine h_idx ?_; refine b_idx_i ?_) | (refine h_row ?_; first | refine b_row_q ?_ | refine b_row_i ?_) | (refine h_len ?_; refine a_len_m ?_) | (refine h_pick ?_; refine b_pick_f ?_) | (refine h_grd ?_; refine b_grd_y ?_) | refine a_mark ?_ | ((with_reducible refine h_fn 38 ?_); refine m_call (fitsR_ok _ _ hcn) ?_) | ((with_reducible refine h_fn 61 ?_); refine m_call (in_ok _ _) ?_) | ((with_reducible refine h_fn 63 ?_); refine m_call (named_ok _ _ _) ?_) | (refine h_un ?_; refine a_not ?_) | (refine h_box ?_; refine b_box (fun nb_ hnb_ => ?_)) | (refine h_frz1 ?_; refine b_frz_p ?_) | (refine h_store ?_; refine b_store_box ?_) | refine a_alloc (fun nb_ hnb_ => ?_) | refine a_join ?_)
  all_goals first | exact hq | (refine Eq.mp (congrArg (fun b => Q (AV.bool b) []) ?_) hq; clear hq; first | (have h' := of_decide_eq_true h; simp [h']; done) | (have h' := of_decide_eq_false h; simp [h']; done) | (simp [h]; done) | (simp_all; done))
theorem enabledR_12 (w : WorldD) (s : SyncD) (t o : Int) (hcn : w.conds.length < 2 ^ 62) (hr : ∀ l ∈ s.locks, l.readers.length < 2 ^ 40) (Q : AV → SH → Prop) (hq : Q (.bool (enabledS w s t 12 o)) []) (h1 : fitsS w s = true) (h2 : inB t w.threads.length = true) (ha : allowedS w 12 o = true) : ref08_Enabled_w (.agg w.enc) (.agg s.enc) (.int .i64 t) (.int .i64 12) (.int .i64 o) [] Q := by
  unfold ref08_Enabled_w
  have nh1 : (!fitsS w s) = false := by rw [h1]; rfl
  have nh2 : (!inB t w.threads.length) = false := by rw [h2]; rfl
  have hf := fitsS_iff.1 h1
  have ht' : inB t s.threads.length = true := by rw [hf.threads]; exact h2
  have hrd := rd_small hr
  have nha : (!allowedS w 12 o) = false := by rw [ha]; rfl
  simp only [enabledS, h1, h2, ha, readyS, lockAt, thrAt, doneAt, mxAt, Bool.true_and, Int.reduceEq, Int.reduceNeg, if_true, if_false, or_self, or_true, true_or, or_false, false_or, reduceIte, reduceCtorEq] at hq
  repeat' (first | (refine h_load1 ?_; refine b_load_q ?_) | (refine h_faddr ?_; refine a_faddr_q ?_) | (refine h_bin ?_; first | refine a_eql ?_ | refine a_neq ?_) | (refine h_cond ?_; first | refine b_cond_t ?_ | refine b_cond_f ?_ | refine a_cond (fun h => ?_) (fun h => ?_)) | (refine h_idx ?_; refine b_idx_i ?_) | (refine h_row ?_; first | refine b_row_q ?_ | refine b_row_i ?_) | (refine h_len ?_; refine a_len_m ?_) | (refine h_pick ?_; refine b_pick_f ?_) | (refine h_grd ?_; refine b_grd_y ?_) | refine a_mark ?_ | ((with_reducible refine h_fn 38 ?_); refine m_call (fitsR_ok _ _ hcn) ?_) | ((with_reducible refine h_fn 61 ?_); refine m_call (in_ok _ _) ?_) | ((with_reducible refine h_fn 63 ?_); refine m_call (named_ok _ _ _) ?_) | (refine h_un ?_; refine a_not ?_) | (refine h_box ?_; refine b_box (fun nb_ hnb_ => ?_)) | (refine h_frz1 ?_; refine b_frz_p ?_) | (refine h_store ?_; refine b_store_box ?_) | refine a_alloc (fun nb_ hnb_ => ?_) | refine a_join ?_)
  all_goals first | exact hq | (refine Eq.mp (congrArg (fun b => Q (AV.bool b) []) ?_) hq; clear hq; first | (have h' := of_decide_eq_true h; simp [h']; done) | (have h' := of_decide_eq_false h; simp [h']; done) | (simp [h]; done) | (simp_all; done))
theorem enabledR_13 (w : WorldD) (s : SyncD) (t o : Int) (hcn : w.conds.length < 2 ^ 62) (hr : ∀ l ∈ s.locks, l.readers.length < 2 ^ 40) (Q : AV → SH → Prop) (hq : Q (.bool (enabledS w s t 13 o)) []) (h1 : fitsS w s = true) (h2 : inB t w.threads.length = true) (ha : allowedS w 13 o = true) : ref08_Enabled_w (.agg w.enc) (.agg s.enc) (.int .i64 t) (.int .i64 13) (.int .i64 o) [] Q := by
  unfold ref08_Enabled_w
  have nh1 : (!fitsS w s) = false := by rw [h1]; rfl
  have nh2 : (!inB t w.threads.length) = false := by rw [h2]; rfl
  have hf := fitsS_iff.1 h1
  have ht' : inB t s.threads.length = true := by rw [hf.threads]; exact h2
  have hrd := rd_small hr
  have nha : (!allowedS w 13 o) = false := by rw [ha]; rfl
  simp only [enabledS, h1, h2, ha, readyS, lockAt, thrAt, doneAt, mxAt, Bool.true_and, Int.reduceEq, Int.reduceNeg, if_true, if_false, or_self, or_true, true_or, or_false, false_or, reduceIte, reduceCtorEq] at hq
  repeat' (first | (refine h_load1 ?_; refine b_load_q ?_) | (refine h_faddr ?_; refine a_faddr_q ?_) | (refine h_bin ?_; first | refine a_eql ?_ | refine a_neq ?_) | (refine h_cond ?_; first | refine b_cond_t ?_ | refine b_cond_f ?_ | refine a_cond (fun h => ?_) (fun h => ?_)) | (refine h_idx ?_; refine b_idx_i ?_) | (refine h_row ?_; first | refine b_row_q ?_ | refine b_row_i ?_) | (refine h_len ?_; refine a_len_m ?_) | (refine h_pick ?_; refine b_pick_f ?_) | (refine h_grd ?_; refine b_grd_y ?_) | refine a_mark ?_ | ((with_reducible refine h_fn 38 ?_); refine m_call (fitsR_ok _ _ hcn) ?_) | ((with_reducible refine h_fn 61 ?_); refine m_call (in_ok _ _) ?_) | ((with_reducible refine h_fn 63 ?_); refine m_call (named_ok _ _ _) ?_) | (refine h_un ?_; refine a_not ?_) | (refine h_box ?_; refine b_box (fun nb_ hnb_ => ?_)) | (refine h_frz1 ?_; refine b_frz_p ?_) | (refine h_store ?_; refine b_store_box ?_) | refine a_alloc (fun nb_ hnb_ => ?_) | refine a_join ?_)
  all_goals first | exact hq | (refine Eq.mp (congrArg (fun b => Q (AV.bool b) []) ?_) hq; clear hq; first | (have h' := of_decide_eq_true h; simp [h']; done) | (have h' := of_decide_eq_false h; simp [h']; done) | (simp [h]; done) | (simp_all; done))
theorem enabledR_14 (w : WorldD) (s : SyncD) (t o : Int) (hcn : w.conds.length < 2 ^ 62) (hr : ∀ l ∈ s.locks, l.readers.length < 2 ^ 40) (Q : AV → SH → Prop) (hq : Q (.bool (enabledS w s t 14 o)) []) (h1 : fitsS w s = true) (h2 : inB t w.threads.length = true) (ha : allowedS w 14 o = true) : ref08_Enabled_w (.agg w.enc) (.agg s.enc) (.int .i64 t) (.int .i64 14) (.int .i64 o) [] Q := by
  unfold ref08_Enabled_w
  have nh1 : (!fitsS w s) = false := by rw [h1]; rfl
  have nh2 : (!inB t w.threads.length) = false := by rw [h2]; rfl
  have hf := fitsS_iff.1 h1
  have ht' : inB t s.threads.length = true := by rw [hf.threads]; exact h2
  have hrd := rd_small hr
  have nha : (!allowedS w 14 o) = false := by rw [ha]; rfl
  simp only [enabledS, h1, h2, ha, readyS, lockAt, thrAt, doneAt, mxAt, Bool.true_and, Int.reduceEq, Int.reduceNeg, if_true, if_false, or_self, or_true, true_or, or_false, false_or, reduceIte, reduceCtorEq] at hq
  repeat' (first | (refine h_load1 ?_; refine b_load_q ?_) | (refine h_faddr ?_; refine a_faddr_q ?_) | (refine h_bin ?_; first | refine a_eql ?_ | refine a_neq ?_) | (refine h_cond ?_; first | refine b_cond_t ?_ | refine b_cond_f ?_ | refine a_cond (fun h => ?_) (fun h => ?_)) | (refine h_idx ?_; refine b_idx_i ?_) | (refine h_row ?_; first | refine b_row_q ?_ | refine b_row_i ?_) | (refine h_len ?_; refine a_len_m ?_) | (refine h_pick ?_; refine b_pick_f ?_) | (refine h_grd ?_; refine b_grd_y ?_) | refine a_mark ?_ | ((with_reducible refine h_fn 38 ?_); refine m_call (fitsR_ok _ _ hcn) ?_) | ((with_reducible refine h_fn 61 ?_); refine m_call (in_ok _ _) ?_) | ((with_reducible refine h_fn 63 ?_); refine m_call (named_ok _ _ _) ?_) | (refine h_un ?_; refine a_not ?_) | (refine h_box ?_; refine b_box (fun nb_ hnb_ => ?_)) | (refine h_frz1 ?_; refine b_frz_p ?_) | (refine h_store ?_; refine b_store_box ?_) | refine a_alloc (fun nb_ hnb_ => ?_) | refine a_join ?_)
  all_goals first | exact hq | (refine Eq.mp (congrArg (fun b => Q (AV.bool b) []) ?_) hq; clear hq; first | (have h' := of_decide_eq_true h; simp [h']; done) | (have h' := of_decide_eq_false h; simp [h']; done) | (simp [h]; done) | (simp_all; done))
theorem enabledR_15 (w : WorldD) (s : SyncD) (t o : Int) (hcn : w.conds.length < 2 ^ 62) (hr : ∀ l ∈ s.locks, l.readers.length < 2 ^ 40) (Q : AV → SH → Prop) (hq : Q (.bool (enabledS w s t 15 o)) []) (h1 : fitsS w s = true) (h2 : inB t w.threads.length = true) (ha : allowedS w 15 o = true) : ref08_Enabled_w (.agg w.enc) (.agg s.enc) (.int .i64 t) (.int .i64 15) (.int .i64 o) [] Q := by
  unfold ref08_Enabled_w
  have nh1 : (!fitsS w s) = false := by rw [h1]; rfl
  have nh2 : (!inB t w.threads.length) = false := by rw [h2]; rfl
  have hf := fitsS_iff.1 h1
  have ht' : inB t s.threads.length = true := by rw [hf.threads]; exact h2
  have hrd := rd_small hr
  have nha : (!allowedS w 15 o) = false := by rw [ha]; rfl
  simp only [enabledS, h1, h2, ha, readyS, lockAt, thrAt, doneAt, mxAt, Bool.true_and, Int.reduceEq, Int.reduceNeg, if_true, if_false, or_self, or_true, true_or, or_false, false_or, reduceIte, reduceCtorEq] at hq
  repeat' (first | (refine h_load1 ?_; refine b_load_q ?_) | (refine h_faddr ?_; refine a_faddr_q ?_) | (refine h_bin ?_; first | refine a_eql ?_ | refine a_neq ?_) | (refine h_cond ?_; first | refine b_cond_t ?_ | refine b_cond_f ?_ | refine a_cond (fun h => ?_) (fun h => ?_)) | (refine h_idx ?_; refine b_idx_i ?_) | (refine h_row ?_; first | refine b_row_q ?_ | refine b_row_i ?_) | (refine h_len ?_; refine a_len_m ?_) | (refine h_pick ?_; refine b_pick_f ?_) | (refine h_grd ?_; refine b_grd_y ?_) | refine a_mark ?_ | ((with_reducible refine h_fn 38 ?_); refine m_call (fitsR_ok _ _ hcn) ?_) | ((with_reducible refine h_fn 61 ?_); refine m_call (in_ok _ _) ?_) | ((with_reducible refine h_fn 63 ?_); refine m_call (named_ok _ _ _) ?_) | (refine h_un ?_; refine a_not ?_) | (refine h_box ?_; refine b_box (fun nb_ hnb_ => ?_)) | (refine h_frz1 ?_; refine b_frz_p ?_) | (refine h_store ?_; refine b_store_box ?_) | refine a_alloc (fun nb_ hnb_ => ?_) | refine a_join ?_)
  all_goals first | exact hq | (refine Eq.mp (congrArg (fun b => Q (AV.bool b) []) ?_) hq; clear hq; first | (have h' := of_decide_eq_true h; simp [h']; done) | (have h' := of_decide_eq_false h; simp [h']; done) | (simp [h]; done) | (simp_all; done))
theorem enabledR_16 (w : WorldD) (s : SyncD) (t o : Int) (hcn : w.conds.length < 2 ^ 62) (hr : ∀ l ∈ s.locks, l.readers.length < 2 ^ 40) (Q : AV → SH → Prop) (hq : Q (.bool (enabledS w s t 16 o)) []) (h1 : fitsS w s = true) (h2 : inB t w.threads.length = true) (ha : allowedS w 16 o = true) : ref08_Enabled_w (.agg w.enc) (.agg s.enc) (.int .i64 t) (.int .i64 16) (.int .i64 o) [] Q := by
  unfold ref08_Enabled_w
  have nh1 : (!fitsS w s) = false := by rw [h1]; rfl
  have nh2 : (!inB t w.threads.length) = false := by rw [h2]; rfl
  have hf := fitsS_iff.1 h1
  have ht' : inB t s.threads.length = true := by rw [hf.threads]; exact h2
  have hrd := rd_small hr
  have nha : (!allowedS w 16 o) = false := by rw [ha]; rfl
  have hc : inB o w.conds.length = true := by simpa [allowedS] using ha
  have hl := mx_in hf hc
  simp only [enabledS, h1, h2, ha, readyS, lockAt, thrAt, doneAt, mxAt, Bool.true_and, Int.reduceEq, Int.reduceNeg, if_true, if_false, or_self, or_true, true_or, or_false, false_or, reduceIte, reduceCtorEq] at hq
  repeat' (first | (refine h_load1 ?_; first | refine b_load_q ?_ | refine b_load_i ?_) | (refine h_faddr ?_; refine a_faddr_q ?_) | (refine h_bin ?_; first | refine a_eql ?_ | refine a_neq ?_) | (refine h_cond ?_; first | refine b_cond_t ?_ | refine b_cond_f ?_ | refine a_cond (fun h => ?_) (fun h => ?_)) | (refine h_idx ?_; refine b_idx_i ?_) | (refine h_row ?_; first | refine b_row_q ?_ | refine b_row_i ?_) | (refine h_len ?_; refine a_len_m ?_) | (refine h_calm ?_; refine b_calm ?_) | (refine h_note ?_; refine a_note ?_) | (refine h_pick ?_; refine b_pick_f ?_) | (refine h_grd ?_; refine b_grd_y ?_) | refine a_mark ?_ | ((with_reducible refine h_fn 38 ?_); refine m_call (fitsR_ok _ _ hcn) ?_) | ((with_reducible refine h_fn 61 ?_); refine m_call (in_ok _ _) ?_) | ((with_reducible refine h_fn 63 ?_); refine m_call (named_ok _ _ _) ?_) | (refine h_un ?_; refine a_not ?_) | (refine h_box ?_; refine b_box (fun nb_ hnb_ => ?_)) | (refine h_frz1 ?_; refine b_frz_p ?_) | (refine h_store ?_; refine b_store_box ?_) | refine a_alloc (fun nb_ hnb_ => ?_) | refine a_join ?_ | refine a_tt ?_)
  all_goals first | exact hq | (refine Eq.mp (congrArg (fun b => Q (AV.bool b) []) ?_) hq; clear hq; first | (have h' := of_decide_eq_true h; simp [h']; done) | (have h' := of_decide_eq_false h; simp [h']; done) | (simp [h]; done) | (simp_all; done))
theorem enabledR_17 (w : WorldD) (s : SyncD) (t o : Int) (hcn : w.conds.length < 2 ^ 62) (hr : ∀ l ∈ s.locks, l.readers.length < 2 ^ 40) (Q : AV → SH → Prop) (hq : Q (.bool (enabledS w s t 17 o)) []) (h1 : fitsS w s = true) (h2 : inB t w.threads.length = true) (ha : allowedS w 17 o = true) : ref08_Enabled_w (.agg w.enc) (.agg s.enc) (.int .i64 t) (.int .i64 17) (.int .i64 o) [] Q := by
  unfold ref08_Enabled_w
  have nh1 : (!fitsS w s) = false := by rw [h1]; rfl
  have nh2 : (!inB t w.threads.length) = false := by rw [h2]; rfl
  have hf := fitsS_iff.1 h1
  have ht' : inB t s.threads.length = true := by rw [hf.threads]; exact h2
  have hrd := rd_small hr
  have nha : (!allowedS w 17 o) = false := by rw [ha]; rfl
  have hc : inB o w.conds.length = true := by simpa [allowedS] using ha
  have hl := mx_in hf hc
  simp only [enabledS, h1, h2, ha, readyS, lockAt, thrAt, doneAt, mxAt, Bool.true_and, Int.reduceEq, Int.reduceNeg, if_true, if_false, or_self, or_true, true_or, or_false, false_or, reduceIte, reduceCtorEq] at hq
  repeat' (first | (refine h_load1 ?_; first | refine b_load_q ?_ | refine b_load_i ?_) | (refine h_faddr ?_; refine a_faddr_q ?_) | (refine h_bin ?_; refine a_eql ?_) | (refine h_cond ?_; first | refine b_cond_t ?_ | refine b_cond_f ?_) | (refine h_idx ?_; refine b_idx_i ?_) | (refine h_row ?_; first | refine b_row_q ?_ | refine b_row_i ?_) | (refine h_len ?_; refine a_len_m ?_) | (refine h_calm ?_; refine b_calm ?_) | (refine h_note ?_; refine a_note ?_) | (refine h_pick ?_; first | refine b_pick_t ?_ | refine b_pick_f ?_) | (refine h_grd ?_; refine b_grd_y ?_) | (refine h_dgrd ?_; first | refine b_dgrd_y ?_ | refine b_dgrd_n ?_ | refine a_dgrd_t (fun h => ?_) (fun h => ?_)) | refine a_mark ?_ | ((with_reducible refine h_fn 38 ?_); refine m_call (fitsR_ok _ _ hcn) ?_) | ((with_reducible refine h_fn 61 ?_); refine m_call (in_ok _ _) ?_) | ((with_reducible refine h_fn 63 ?_); refine m_call (named_ok _ _ _) ?_) | (refine h_un ?_; refine a_not ?_) | (refine h_box ?_; refine b_box (fun nb_ hnb_ => ?_)) | (refine h_frz1 ?_; refine b_frz_p ?_) | (refine h_store ?_; refine b_store_box ?_) | refine a_alloc (fun nb_ hnb_ => ?_) | refine a_tt ?_)
  all_goals first | exact hq | (refine Eq.mp (congrArg (fun b => Q (AV.bool b) []) ?_) hq; clear hq; first | (have h' := of_decide_eq_true h; simp [h']; done) | (have h' := of_decide_eq_false h; simp [h']; done) | (simp [h]; done) | (simp_all; done))
theorem enabledR_18 (w : WorldD) (s : SyncD) (t o : Int) (hcn : w.conds.length < 2 ^ 62) (hr : ∀ l ∈ s.locks, l.readers.length < 2 ^ 40) (Q : AV → SH → Prop) (hq : Q (.bool (enabledS w s t 18 o)) []) (h1 : fitsS w s = true) (h2 : inB t w.threads.length = true) (ha : allowedS w 18 o = true) : ref08_Enabled_w (.agg w.enc) (.agg s.enc) (.int .i64 t) (.int .i64 18) (.int .i64 o) [] Q := by
  unfold ref08_Enabled_w
  have nh1 : (!fitsS w s) = false := by rw [h1]; rfl
  have nh2 : (!inB t w.threads.length) = false := by rw [h2]; rfl
  have hf := fitsS_iff.1 h1
  have ht' : inB t s.threads.length = true := by rw [hf.threads]; exact h2
  have hrd := rd_small hr
  have nha : (!allowedS w 18 o) = false := by rw [ha]; rfl
  have hc : inB o w.conds.length = true := by simpa [allowedS] using ha
  have hl := mx_in hf hc
  simp only [enabledS, h1, h2, ha, readyS, lockAt, thrAt, doneAt, mxAt, Bool.true_and, Int.reduceEq, Int.reduceNeg, if_true, if_false, or_self, or_true, true_or, or_false, false_or, reduceIte, reduceCtorEq] at hq
  repeat' (first | (refine h_load1 ?_; first | refine b_load_q ?_ | refine b_load_i ?_) | (refine h_faddr ?_; refine a_faddr_q ?_) | (refine h_bin ?_; first | refine a_eql ?_ | refine a_neq ?_) | (refine h_cond ?_; first | refine b_cond_t ?_ | refine b_cond_f ?_ | refine a_cond (fun h => ?_) (fun h => ?_)) | (refine h_idx ?_; refine b_idx_i ?_) | (refine h_row ?_; first | refine b_row_q ?_ | refine b_row_i ?_) | (refine h_len ?_; refine a_len_m ?_) | (refine h_calm ?_; refine b_calm ?_) | (refine h_note ?_; refine a_note ?_) | (refine h_pick ?_; refine b_pick_f ?_) | (refine h_grd ?_; refine b_grd_y ?_) | refine a_mark ?_ | ((with_reducible refine h_fn 38 ?_); refine m_call (fitsR_ok _ _ hcn) ?_) | ((with_reducible refine h_fn 61 ?_); refine m_call (in_ok _ _) ?_) | ((with_reducible refine h_fn 63 ?_); refine m_call (named_ok _ _ _) ?_) | (refine h_un ?_; refine a_not ?_) | (refine h_box ?_; refine b_box (fun nb_ hnb_ => ?_)) | (refine h_frz1 ?_; refine b_frz_p ?_) | (refine h_store ?_; refine b_store_box ?_) | refine a_alloc (fun nb_ hnb_ => ?_) | refine a_join ?_ | refine a_tt ?_)
  all_goals first | exact hq | (refine Eq.mp (congrArg (fun b => Q (AV.bool b) []) ?_) hq; clear hq; first | (have h' := of_decide_eq_true h; simp [h']; done) | (have h' := of_decide_eq_false h; simp [h']; done) | (simp [h]; done) | (simp_all; done))
theorem enabledR_19 (w : WorldD) (s : SyncD) (t o : Int) (hcn : w.conds.length < 2 ^ 62) (hr : ∀ l ∈ s.locks, l.readers.length < 2 ^ 40) (Q : AV → SH → Prop) (hq : Q (.bool (enabledS w s t 19 o)) []) (h1 : fitsS w s = true) (h2 : inB t w.threads.length = true) (ha : allowedS w 19 o = true) : ref08_Enabled_w (.agg w.enc) (.agg s.enc) (.int .i64 t) (.int .i64 19) (.int .i64 o) [] Q := by
  unfold ref08_Enabled_w
  have nh1 : (!fitsS w s) = false := by rw [h1]; rfl
  have nh2 : (!inB t w.threads.length) = false := by rw [h2]; rfl
  have hf := fitsS_iff.1 h1
  have ht' : inB t s.threads.length = true := by rw [hf.threads]; exact h2
  have hrd := rd_small hr
  have nha : (!allowedS w 19 o) = false := by rw [ha]; rfl
  have hc : inB o w.conds.length = true := by simpa [allowedS] using ha
  have hl := mx_in hf hc
  simp only [enabledS, h1, h2, ha, readyS, lockAt, thrAt, doneAt, mxAt, Bool.true_and, Int.reduceEq, Int.reduceNeg, if_true, if_false, or_self, or_true, true_or, or_false, false_or, reduceIte, reduceCtorEq] at hq
  repeat' (first | (refine h_load1 ?_; first | refine b_load_q ?_ | refine b_load_i ?_) | (refine h_faddr ?_; refine a_faddr_q ?_) | (refine h_bin ?_; first | refine a_eql ?_ | refine a_neq ?_) | (refine h_cond ?_; first | refine b_cond_t ?_ | refine b_cond_f ?_ | refine a_cond (fun h => ?_) (fun h => ?_)) | (refine h_idx ?_; refine b_idx_i ?_) | (refine h_row ?_; first | refine b_row_q ?_ | refine b_row_i ?_) | (refine h_len ?_; refine a_len_m ?_) | (refine h_calm ?_; refine b_calm ?_) | (refine h_note ?_; refine a_note ?_) | (refine h_pick ?_; refine b_pick_f ?_) | (refine h_grd ?_; refine b_grd_y ?_) | refine a_mark ?_ | ((with_reducible refine h_fn 38 ?_); refine m_call (fitsR_ok _ _ hcn) ?_) | ((with_reducible refine h_fn 61 ?_); refine m_call (in_ok _ _) ?_) | ((with_reducible refine h_fn 63 ?_); refine m_call (named_ok _ _ _) ?_) | (refine h_un ?_; refine a_not ?_) | (refine h_box ?_; refine b_box (fun nb_ hnb_ => ?_)) | (refine h_frz1 ?_; refine b_frz_p ?_) | (refine h_store ?_; refine b_store_box ?_) | refine a_alloc (fun nb_ hnb_ => ?_) | refine a_join ?_ | refine a_tt ?_)
  all_goals first | exact hq | (refine Eq.mp (congrArg (fun b => Q (AV.bool b) []) ?_) hq; clear hq; first | (have h' := of_decide_eq_true h; simp [h']; done) | (have h' := of_decide_eq_false h; simp [h']; done) | (simp [h]; done) | (simp_all; done))
theorem enabledR_20 (w : WorldD) (s : SyncD) (t o : Int) (hcn : w.conds.length < 2 ^ 62) (hr : ∀ l ∈ s.locks, l.readers.length < 2 ^ 40) (Q : AV → SH → Prop) (hq : Q (.bool (enabledS w s t 20 o)) []) (h1 : fitsS w s = true) (h2 : inB t w.threads.length = true) (ha : allowedS w 20 o = true) : ref08_Enabled_w (.agg w.enc) (.agg s.enc) (.int .i64 t) (.int .i64 20) (.int .i64 o) [] Q := by
  unfold ref08_Enabled_w
  have nh1 : (!fitsS w s) = false := by rw [h1]; rfl
  have nh2 : (!inB t w.threads.length) = false := by rw [h2]; rfl
  have hf := fitsS_iff.1 h1
  have ht' : inB t s.threads.length = true := by rw [hf.threads]; exact h2
  have hrd := rd_small hr
  have nha : (!allowedS w 20 o) = false := by rw [ha]; rfl
  have hl : inB o s.threads.length = true := by rw [hf.threads]; simpa [allowedS] using ha
  simp only [enabledS, h1, h2, ha, readyS, lockAt, thrAt, doneAt, mxAt, Bool.true_and, Int.reduceEq, Int.reduceNeg, if_true, if_false, or_self, or_true, true_or, or_false, false_or, reduceIte, reduceCtorEq] at hq
  repeat' (first | (refine h_load1 ?_; first | refine b_load_q ?_ | refine b_load_i ?_) | (refine h_faddr ?_; refine a_faddr_q ?_) | (refine h_bin ?_; first | refine a_eql ?_ | refine a_neq ?_) | (refine h_cond ?_; first | refine b_cond_t ?_ | refine b_cond_f ?_ | refine a_cond (fun h => ?_) (fun h => ?_)) | (refine h_idx ?_; refine b_idx_i ?_) | (refine h_row ?_; first | refine b_row_q ?_ | refine b_row_i ?_) | (refine h_len ?_; refine a_len_m ?_) | (refine h_pick ?_; first | refine b_pick_t ?_ | refine b_pick_f ?_) | (refine h_grd ?_; first | refine b_grd_y ?_ | refine b_grd_n ?_ | refine a_grd_t (fun h => ?_) (fun h => ?_)) | refine a_mark ?_ | ((with_reducible refine h_fn 38 ?_); refine m_call (fitsR_ok _ _ hcn) ?_) | ((with_reducible refine h_fn 61 ?_); refine m_call (in_ok _ _) ?_) | ((with_reducible refine h_fn 63 ?_); refine m_call (named_ok _ _ _) ?_) | (refine h_un ?_; refine a_not ?_) | (refine h_box ?_; refine b_box (fun nb_ hnb_ => ?_)) | (refine h_frz1 ?_; refine b_frz_p ?_) | (refine h_store ?_; refine b_store_box ?_) | refine a_alloc (fun nb_ hnb_ => ?_) | refine a_join ?_)
  all_goals first | exact hq | (refine Eq.mp (congrArg (fun b => Q (AV.bool b) []) ?_) hq; clear hq; first | (have h' := of_decide_eq_true h; simp [h']; done) | (have h' := of_decide_eq_false h; simp [h']; done) | (simp [h]; done) | (simp_all; done))
theorem enabledR_21 (w : WorldD) (s : SyncD) (t o : Int) (hcn : w.conds.length < 2 ^ 62) (hr : ∀ l ∈ s.locks, l.readers.length < 2 ^ 40) (Q : AV → SH → Prop) (hq : Q (.bool (enabledS w s t 21 o)) []) (h1 : fitsS w s = true) (h2 : inB t w.threads.length = true) (ha : allowedS w 21 o = true) : ref08_Enabled_w (.agg w.enc) (.agg s.enc) (.int .i64 t) (.int .i64 21) (.int .i64 o) [] Q := by
  unfold ref08_Enabled_w
  have nh1 : (!fitsS w s) = false := by rw [h1]; rfl
  have nh2 : (!inB t w.threads.length) = false := by rw [h2]; rfl
  have hf := fitsS_iff.1 h1
  have ht' : inB t s.threads.length = true := by rw [hf.threads]; exact h2
  have hrd := rd_small hr
  have nha : (!allowedS w 21 o) = false := by rw [ha]; rfl
  have hl : inB o s.threads.length = true := by rw [hf.threads]; simpa [allowedS] using ha
  simp only [enabledS, h1, h2, ha, readyS, lockAt, thrAt, doneAt, mxAt, Bool.true_and, Int.reduceEq, Int.reduceNeg, if_true, if_false, or_self, or_true, true_or, or_false, false_or, reduceIte, reduceCtorEq] at hq
  repeat' (first | (refine h_load1 ?_; first | refine b_load_q ?_ | refine b_load_i ?_) | (refine h_faddr ?_; refine a_faddr_q ?_) | (refine h_bin ?_; first | refine a_eql ?_ | refine a_neq ?_) | (refine h_cond ?_; first | refine b_cond_t ?_ | refine b_cond_f ?_ | refine a_cond (fun h => ?_) (fun h => ?_)) | (refine h_idx ?_; refine b_idx_i ?_) | (refine h_row ?_; first | refine b_row_q ?_ | refine b_row_i ?_) | (refine h_len ?_; refine a_len_m ?_) | (refine h_pick ?_; first | refine b_pick_t ?_ | refine b_pick_f ?_) | (refine h_grd ?_; first | refine b_grd_y ?_ | refine b_grd_n ?_ | refine a_grd_t (fun h => ?_) (fun h => ?_)) | refine a_mark ?_ | ((with_reducible refine h_fn 38 ?_); refine m_call (fitsR_ok _ _ hcn) ?_) | ((with_reducible refine h_fn 61 ?_); refine m_call (in_ok _ _) ?_) | ((with_reducible refine h_fn 63 ?_); refine m_call (named_ok _ _ _) ?_) | (refine h_un ?_; refine a_not ?_) | (refine h_box ?_; refine b_box (fun nb_ hnb_ => ?_)) | (refine h_frz1 ?_; refine b_frz_p ?_) | (refine h_store ?_; refine b_store_box ?_) | refine a_alloc (fun nb_ hnb_ => ?_) | refine a_join ?_)
  all_goals first | exact hq | (refine Eq.mp (congrArg (fun b => Q (AV.bool b) []) ?_) hq; clear hq; first | (have h' := of_decide_eq_true h; simp [h']; done) | (have h' := of_decide_eq_false h; simp [h']; done) | (simp [h]; done) | (simp_all; done))
theorem enabledR_22 (w : WorldD) (s : SyncD) (t o : Int) (hcn : w.conds.length < 2 ^ 62) (hr : ∀ l ∈ s.locks, l.readers.length < 2 ^ 40) (Q : AV → SH → Prop) (hq : Q (.bool (enabledS w s t 22 o)) []) (h1 : fitsS w s = true) (h2 : inB t w.threads.length = true) (ha : allowedS w 22 o = true) : ref08_Enabled_w (.agg w.enc) (.agg s.enc) (.int .i64 t) (.int .i64 22) (.int .i64 o) [] Q := by
  unfold ref08_Enabled_w
  have nh1 : (!fitsS w s) = false := by rw [h1]; rfl
  have nh2 : (!inB t w.threads.length) = false := by rw [h2]; rfl
  have hf := fitsS_iff.1 h1
  have ht' : inB t s.threads.length = true := by rw [hf.threads]; exact h2
  have hrd := rd_small hr
  have nha : (!allowedS w 22 o) = false := by rw [ha]; rfl
  have hl : inB o s.done.length = true := by rw [hf.done]; simpa [allowedS] using ha
  simp only [enabledS, h1, h2, ha, readyS, lockAt, thrAt, doneAt, mxAt, Bool.true_and, Int.reduceEq, Int.reduceNeg, if_true, if_false, or_self, or_true, true_or, or_false, false_or, reduceIte, reduceCtorEq] at hq
  repeat' (first | (refine h_load1 ?_; first | refine b_load_q ?_ | refine b_load_i ?_) | (refine h_faddr ?_; refine a_faddr_q ?_) | (refine h_bin ?_; first | refine a_eql ?_ | refine a_neq ?_) | (refine h_cond ?_; first | refine b_cond_t ?_ | refine b_cond_f ?_ | refine a_cond (fun h => ?_) (fun h => ?_)) | (refine h_idx ?_; refine b_idx_i ?_) | (refine h_row ?_; first | refine b_row_q ?_ | refine b_row_i ?_) | (refine h_len ?_; refine a_len_m ?_) | (refine h_pick ?_; refine b_pick_f ?_) | (refine h_grd ?_; refine b_grd_y ?_) | refine a_mark ?_ | ((with_reducible refine h_fn 38 ?_); refine m_call (fitsR_ok _ _ hcn) ?_) | ((with_reducible refine h_fn 61 ?_); refine m_call (in_ok _ _) ?_) | ((with_reducible refine h_fn 63 ?_); refine m_call (named_ok _ _ _) ?_) | (refine h_un ?_; refine a_not ?_) | (refine h_box ?_; refine b_box (fun nb_ hnb_ => ?_)) | (refine h_frz1 ?_; refine b_frz_p ?_) | (refine h_store ?_; refine b_store_box ?_) | refine a_alloc (fun nb_ hnb_ => ?_) | refine a_join ?_)
  all_goals first | exact hq | (refine Eq.mp (congrArg (fun b => Q (AV.bool b) []) ?_) hq; clear hq; first | (have h' := of_decide_eq_true h; simp [h']; done) | (have h' := of_decide_eq_false h; simp [h']; done) | (simp [h]; done) | (simp_all; done))
theorem enabledR_23 (w : WorldD) (s : SyncD) (t o : Int) (hcn : w.conds.length < 2 ^ 62) (hr : ∀ l ∈ s.locks, l.readers.length < 2 ^ 40) (Q : AV → SH → Prop) (hq : Q (.bool (enabledS w s t 23 o)) []) (h1 : fitsS w s = true) (h2 : inB t w.threads.length = true) (ha : allowedS w 23 o = true) : ref08_Enabled_w (.agg w.enc) (.agg s.enc) (.int .i64 t) (.int .i64 23) (.int .i64 o) [] Q := by
  unfold ref08_Enabled_w
  have nh1 : (!fitsS w s) = false := by rw [h1]; rfl
  have nh2 : (!inB t w.threads.length) = false := by rw [h2]; rfl
  have hf := fitsS_iff.1 h1
  have ht' : inB t s.threads.length = true := by rw [hf.threads]; exact h2
  have hrd := rd_small hr
  have nha : (!allowedS w 23 o) = false := by rw [ha]; rfl
  have hl : inB o s.done.length = true := by rw [hf.done]; simpa [allowedS] using ha
  simp only [enabledS, h1, h2, ha, readyS, lockAt, thrAt, doneAt, mxAt, Bool.true_and, Int.reduceEq, Int.reduceNeg, if_true, if_false, or_self, or_true, true_or, or_false, false_or, reduceIte, reduceCtorEq] at hq
  repeat' (first | (refine h_load1 ?_; first | refine b_load_q ?_ | refine b_load_i ?_) | (refine h_faddr ?_; refine a_faddr_q ?_) | (refine h_bin ?_; first | refine a_eql ?_ | refine a_neq ?_) | (refine h_cond ?_; first | refine b_cond_t ?_ | refine b_cond_f ?_ | refine a_cond (fun h => ?_) (fun h => ?_)) | (refine h_idx ?_; refine b_idx_i ?_) | (refine h_row ?_; first | refine b_row_q ?_ | refine b_row_i ?_) | (refine h_len ?_; refine a_len_m ?_) | (refine h_pick ?_; refine b_pick_f ?_) | (refine h_grd ?_; refine b_grd_y ?_) | refine a_mark ?_ | ((with_reducible refine h_fn 38 ?_); refine m_call (fitsR_ok _ _ hcn) ?_) | ((with_reducible refine h_fn 61 ?_); refine m_call (in_ok _ _) ?_) | ((with_reducible refine h_fn 63 ?_); refine m_call (named_ok _ _ _) ?_) | (refine h_un ?_; refine a_not ?_) | (refine h_box ?_; refine b_box (fun nb_ hnb_ => ?_)) | (refine h_frz1 ?_; refine b_frz_p ?_) | (refine h_store ?_; refine b_store_box ?_) | refine a_alloc (fun nb_ hnb_ => ?_) | refine a_join ?_)
  all_goals first | exact hq | (refine Eq.mp (congrArg (fun b => Q (AV.bool b) []) ?_) hq; clear hq; first | (have h' := of_decide_eq_true h; simp [h']; done) | (have h' := of_decide_eq_false h; simp [h']; done) | (simp [h]; done) | (simp_all; done))
theorem enabledR_w (w : WorldD) (s : SyncD) (t k o : Int) (hcn : w.conds.length < 2 ^ 62) (hr : ∀ l ∈ s.locks, l.readers.length < 2 ^ 40) (Q : AV → SH → Prop) (hq : Q (.bool (enabledS w s t k o)) []) : ref08_Enabled_w (.agg w.enc) (.agg s.enc) (.int .i64 t) (.int .i64 k) (.int .i64 o) [] Q := by
  cases hn : (fitsS w s && inB t w.threads.length && allowedS w k o) with
  | false => exact enabledR_no w s t k o hcn hr Q hq hn
  | true =>
    simp only [Bool.and_eq_true] at hn
    obtain ⟨⟨h1, h2⟩, ha⟩ := hn
    rcases kinds k with hk | rfl | rfl | rfl | rfl | rfl | rfl | rfl | rfl | rfl | rfl | rfl | rfl | rfl | rfl | rfl | rfl | rfl | rfl | rfl | rfl | rfl | rfl | rfl 
    · simp only [allowedS] at ha
      repeat (rw [if_neg (by omega)] at ha)
      cases ha
    · exact enabledR_1 w s t o hcn hr Q hq h1 h2 ha
    · exact enabledR_2 w s t o hcn hr Q hq h1 h2 ha
    · exact enabledR_3 w s t o hcn hr Q hq h1 h2 ha
    · exact enabledR_4 w s t o hcn hr Q hq h1 h2 ha
    · exact enabledR_5 w s t o hcn hr Q hq h1 h2 ha
    · exact enabledR_6 w s t o hcn hr Q hq h1 h2 ha
    · exact enabledR_7 w s t o hcn hr Q hq h1 h2 ha
    · exact enabledR_8 w s t o hcn hr Q hq h1 h2 ha
    · exact enabledR_9 w s t o hcn hr Q hq h1 h2 ha
    · exact enabledR_10 w s t o hcn hr Q hq h1 h2 ha
    · exact enabledR_11 w s t o hcn hr Q hq h1 h2 ha
    · exact enabledR_12 w s t o hcn hr Q hq h1 h2 ha
    · exact enabledR_13 w s t o hcn hr Q hq h1 h2 ha
    · exact enabledR_14 w s t o hcn hr Q hq h1 h2 ha
    · exact enabledR_15 w s t o hcn hr Q hq h1 h2 ha
    · exact enabledR_16 w s t o hcn hr Q hq h1 h2 ha
    · exact enabledR_17 w s t o hcn hr Q hq h1 h2 ha
    · exact enabledR_18 w s t o hcn hr Q hq h1 h2 ha
    · exact enabledR_19 w s t o hcn hr Q hq h1 h2 ha
    · exact enabledR_20 w s t o hcn hr Q hq h1 h2 ha
    · exact enabledR_21 w s t o hcn hr Q hq h1 h2 ha
    · exact enabledR_22 w s t o hcn hr Q hq h1 h2 ha
    · exact enabledR_23 w s t o hcn hr Q hq h1 h2 ha
theorem enabledR_ok (w : WorldD) (s : SyncD) (t k o : Int) (hcn : w.conds.length < 2 ^ 62) (hr : ∀ l ∈ s.locks, l.readers.length < 2 ^ 40) : PureA Try.prog 55 [.agg w.enc, .agg s.enc, .int .i64 t, .int .i64 k, .int .i64 o] (.bool (enabledS w s t k o)) := ref08_Enabled_ok _ _ _ _ _ _ _ (enabledR_w w s t k o hcn hr _ ⟨rfl, rfl⟩)
end Go.Proofs.Ytadjimfkfmojkaa.Am

end
section
namespace Go.Proofs.Ytadjimfkfmojkaa.Am
set_option maxRecDepth 100000
set_option linter.unusedSimpArgs false
set_option linter.unusedVariables false
set_option linter.unusedSectionVars false
theorem slotV_one (o : Option Nat) (n : Nat) : (slotV o n).one = true := by cases o <;> rfl
theorem boxR_one {ol : Option Nat} {n m k bd bt : Nat} {tx : Int} : ([slotV ol n, .int .i64 tx, .sl bd 0 m, .sl bt 0 k] : List AV).all AV.one = true := by
  show ((slotV ol n).one && (true && (true && (true && true)))) = true
  rw [slotV_one]; rfl
theorem fz_lk {ol : Option Nat} {ls : List LockD} {L : SH} (h0 : ol = none → ls = []) (hm : ∀ p ∈ slotB ol 2 (ls.map LockD.enc), p ∈ L) : Fz L (slotV ol ls.length) (.lst (ls.map LockD.enc)) := by
  cases ol with
  | none => rw [h0 rfl]; exact .emp
  | some b => exact Fz.sls (hm _ (List.mem_singleton.2 rfl)) rfl (by decide) rfl
section
variable (w : WorldD) (s : SyncD) (t o wake : Int) (b7 b12 bd bt : Nat) (ol : Option Nat)
/-- the heap behind Copy -/
def apR : SH := (bt, ⟨3, s.threads.map ThrD.enc⟩) :: (bd, ⟨1, s.done.map boolE⟩) :: (b12, ⟨4, [[.nils, .int .i64 0, .nils, .nils]]⟩) :: (b7, ⟨4, [s.enc]⟩) :: slotB ol 2 (s.locks.map LockD.enc)
def agR (s : SyncD) (bd bt : Nat) (ol : Option Nat) : AV := .agg [slotV ol s.locks.length, .int .i64 s.tx, .sl bd 0 s.done.length, .sl bt 0 s.threads.length]
/-- what an end must show -/
def EndsR (k : Int) (Q : AV → SH → Prop) : Prop := ∀ (tx val : Int) (ls : List LockD) (dn : List Bool) (th : List ThrD) (L : SH), Fz L (slotV ol s.locks.length) (.lst (ls.map LockD.enc)) → Fz L (.sl bt 0 s.threads.length) (.lst (th.map ThrD.enc)) → Fz L (.sl bd 0 s.done.length) (.lst (dn.map boolE)) →
  applyS w s t k o wake = (⟨ls, tx, dn, th⟩, val) → Q (.tup [.agg [slotV ol s.locks.length, .int .i64 tx, .sl bd 0 s.done.length, .sl bt 0 s.threads.length], .int .i64 val, .bool true]) L
variable (Q : AV → SH → Prop) (hf : FitD w s) (ht : inB t w.threads.length = true) (hol : ol = none → s.locks = [])
include hf ht hol
theorem apr_1 (ha : allowedS w 1 o = true) (hq : EndsR w s t o wake bd bt ol 1 Q) : ref08_Apply_c10 (.ptr b7 0 0) Q (.int .i64 1) (.int .i64 t) (.ptr b12 0 0) (.int .i64 o) (.int .i64 wake) (.pptr [w.enc] 0 0) (agR s bd bt ol) (apR s b7 b12 bd bt ol) := by
  unfold ref08_Apply_c10
  unfold agR apR
  have ht' : inB t s.threads.length = true := by rw [hf.threads]; exact ht
  have hy := thr_get ht'
  obtain ⟨t0, t1⟩ := inB_iff.1 ht'
  have hb2 : ∀ tx : Int, ([slotV ol s.locks.length, .int .i64 tx, .sl bd 0 s.done.length, .sl bt 0 s.threads.length] : List AV).all AV.one = true := fun tx => boxR_one
  repeat' (first | (refine h_load1 ?_; refine b_load_p ?_) | (refine h_faddr ?_; refine a_faddr_p ?_) | (refine h_bin ?_; refine a_eql ?_) | (refine h_cond ?_; refine b_cond_t ?_) | (refine h_idx ?_; refine b_idx_s ?_) | (refine h_row ?_; refine b_row_p ?_) | refine a_store_box (by repeat constructor) rfl rfl (hb2 _) rfl ?_ | (refine h_store ?_; refine b_store_one ?_) | refine a_join ?_)
  exact hq _ _ (s.locks) s.done (setThr s t fun x => { x with status := 2 }) _ (fz_lk hol (fun p hp => by simp only [List.mem_cons, List.mem_append]; simp [hp])) (Fz.sls (by repeat constructor) (thr_rows rfl) (by simp) (by simp [setThr])) (Fz.sls (by repeat constructor) rfl (by simp) rfl) (by simp only [applyS, Int.reduceEq, Int.reduceNeg, if_true, if_false, or_self, or_true, true_or, or_false, false_or, reduceIte, reduceCtorEq])
theorem apr_2 (ha : allowedS w 2 o = true) (hq : EndsR w s t o wake bd bt ol 2 Q) : ref08_Apply_c10 (.ptr b7 0 0) Q (.int .i64 2) (.int .i64 t) (.ptr b12 0 0) (.int .i64 o) (.int .i64 wake) (.pptr [w.enc] 0 0) (agR s bd bt ol) (apR s b7 b12 bd bt ol) := by
  unfold ref08_Apply_c10
  unfold agR apR
  have ht' : inB t s.threads.length = true := by rw [hf.threads]; exact ht
  have hy := thr_get ht'
  obtain ⟨t0, t1⟩ := inB_iff.1 ht'
  have hb2 : ∀ tx : Int, ([slotV ol s.locks.length, .int .i64 tx, .sl bd 0 s.done.length, .sl bt 0 s.threads.length] : List AV).all AV.one = true := fun tx => boxR_one
  repeat' (first | (refine h_load1 ?_; refine b_load_p ?_) | (refine h_faddr ?_; refine a_faddr_p ?_) | (refine h_bin ?_; refine a_eql ?_) | (refine h_cond ?_; first | refine b_cond_t ?_ | refine b_cond_f ?_) | (refine h_idx ?_; refine b_idx_s ?_) | (refine h_row ?_; refine b_row_p ?_) | refine a_store_box (by repeat constructor) rfl rfl (hb2 _) rfl ?_ | (refine h_store ?_; refine b_store_one ?_) | refine a_join ?_)
  exact hq _ _ (s.locks) s.done (setThr s t fun x => { x with status := 5 }) _ (fz_lk hol (fun p hp => by simp only [List.mem_cons, List.mem_append]; simp [hp])) (Fz.sls (by repeat constructor) (thr_rows rfl) (by simp) (by simp [setThr])) (Fz.sls (by repeat constructor) rfl (by simp) rfl) (by simp only [applyS, Int.reduceEq, Int.reduceNeg, if_true, if_false, or_self, or_true, true_or, or_false, false_or, reduceIte, reduceCtorEq])
theorem apr_3 (ha : allowedS w 3 o = true) (hq : EndsR w s t o wake bd bt ol 3 Q) : ref08_Apply_c10 (.ptr b7 0 0) Q (.int .i64 3) (.int .i64 t) (.ptr b12 0 0) (.int .i64 o) (.int .i64 wake) (.pptr [w.enc] 0 0) (agR s bd bt ol) (apR s b7 b12 bd bt ol) := by
  unfold ref08_Apply_c10
  unfold agR apR
  have ht' : inB t s.threads.length = true := by rw [hf.threads]; exact ht
  have hy := thr_get ht'
  obtain ⟨t0, t1⟩ := inB_iff.1 ht'
  have hb2 : ∀ tx : Int, ([slotV ol s.locks.length, .int .i64 tx, .sl bd 0 s.done.length, .sl bt 0 s.threads.length] : List AV).all AV.one = true := fun tx => boxR_one
  repeat' (first | (refine h_bin ?_; refine a_eql ?_) | (refine h_cond ?_; refine b_cond_f ?_) | (refine h_row ?_; refine b_row_p ?_) | refine a_store_box (by repeat constructor) rfl rfl (hb2 _) rfl ?_ | refine a_join ?_)
  exact hq _ _ (s.locks) s.done (s.threads) _ (fz_lk hol (fun p hp => by simp only [List.mem_cons, List.mem_append]; simp [hp])) (Fz.sls (by repeat constructor) rfl (by simp) (by simp [setThr])) (Fz.sls (by repeat constructor) rfl (by simp) rfl) (by simp only [applyS, Int.reduceEq, Int.reduceNeg, if_true, if_false, or_self, or_true, true_or, or_false, false_or, reduceIte, reduceCtorEq])
theorem apr_4 (ha : allowedS w 4 o = true) (hq : EndsR w s t o wake bd bt ol 4 Q) : ref08_Apply_c10 (.ptr b7 0 0) Q (.int .i64 4) (.int .i64 t) (.ptr b12 0 0) (.int .i64 o) (.int .i64 wake) (.pptr [w.enc] 0 0) (agR s bd bt ol) (apR s b7 b12 bd bt ol) := by
  unfold ref08_Apply_c10
  unfold agR apR
  have ht' : inB t s.threads.length = true := by rw [hf.threads]; exact ht
  have hy := thr_get ht'
  obtain ⟨t0, t1⟩ := inB_iff.1 ht'
  have hb2 : ∀ tx : Int, ([slotV ol s.locks.length, .int .i64 tx, .sl bd 0 s.done.length, .sl bt 0 s.threads.length] : List AV).all AV.one = true := fun tx => boxR_one
  repeat' (first | (refine h_bin ?_; refine a_eql ?_) | (refine h_cond ?_; refine b_cond_f ?_) | (refine h_row ?_; refine b_row_p ?_) | refine a_store_box (by repeat constructor) rfl rfl (hb2 _) rfl ?_ | refine a_join ?_)
  exact hq _ _ (s.locks) s.done (s.threads) _ (fz_lk hol (fun p hp => by simp only [List.mem_cons, List.mem_append]; simp [hp])) (Fz.sls (by repeat constructor) rfl (by simp) (by simp [setThr])) (Fz.sls (by repeat constructor) rfl (by simp) rfl) (by simp only [applyS, Int.reduceEq, Int.reduceNeg, if_true, if_false, or_self, or_true, true_or, or_false, false_or, reduceIte, reduceCtorEq])
theorem apr_5 (ha : allowedS w 5 o = true) (hq : EndsR w s t o wake bd bt ol 5 Q) : ref08_Apply_c10 (.ptr b7 0 0) Q (.int .i64 5) (.int .i64 t) (.ptr b12 0 0) (.int .i64 o) (.int .i64 wake) (.pptr [w.enc] 0 0) (agR s bd bt ol) (apR s b7 b12 bd bt ol) := by
  unfold ref08_Apply_c10
  unfold agR apR
  have ht' : inB t s.threads.length = true := by rw [hf.threads]; exact ht
  have hy := thr_get ht'
  obtain ⟨t0, t1⟩ := inB_iff.1 ht'
  have hb2 : ∀ tx : Int, ([slotV ol s.locks.length, .int .i64 tx, .sl bd 0 s.done.length, .sl bt 0 s.threads.length] : List AV).all AV.one = true := fun tx => boxR_one
  repeat' (first | (refine h_bin ?_; refine a_eql ?_) | (refine h_cond ?_; refine b_cond_f ?_) | (refine h_row ?_; refine b_row_p ?_) | refine a_store_box (by repeat constructor) rfl rfl (hb2 _) rfl ?_ | refine a_join ?_)
  exact hq _ _ (s.locks) s.done (s.threads) _ (fz_lk hol (fun p hp => by simp only [List.mem_cons, List.mem_append]; simp [hp])) (Fz.sls (by repeat constructor) rfl (by simp) (by simp [setThr])) (Fz.sls (by repeat constructor) rfl (by simp) rfl) (by simp only [applyS, Int.reduceEq, Int.reduceNeg, if_true, if_false, or_self, or_true, true_or, or_false, false_or, reduceIte, reduceCtorEq])
theorem apr_6 (bl : Nat) (hnd : (apR s b7 b12 bd bt (some bl)).names.Nodup) (hrd : (lockAt s o).readers.length < 2 ^ 40) (ha : allowedS w 6 o = true) (hq : EndsR w s t o wake bd bt (some bl) 6 Q) : ref08_Apply_c10 (.ptr b7 0 0) Q (.int .i64 6) (.int .i64 t) (.ptr b12 0 0) (.int .i64 o) (.int .i64 wake) (.pptr [w.enc] 0 0) (agR s bd bt (some bl)) (apR s b7 b12 bd bt (some bl)) := by
  unfold ref08_Apply_c10
  simp only [SH.names, apR, slotB, List.map_cons, List.map_nil, List.nodup_cons, List.mem_cons, not_or, List.not_mem_nil, not_false_eq_true, and_true] at hnd
  obtain ⟨⟨n1, n2, n3, n4⟩, ⟨n5, n6, n7⟩, ⟨n8, n9⟩, n10, _⟩ := hnd
  unfold agR apR
  have ht' : inB t s.threads.length = true := by rw [hf.threads]; exact ht
  have hy := thr_get ht'
  obtain ⟨t0, t1⟩ := inB_iff.1 ht'
  dsimp only [slotB, slotV]
  have hl : inB o s.locks.length = true := by rw [hf.locks]; simp [allowedS] at ha; exact ha.1
  have hx := lock_get hl
  obtain ⟨o0, o1⟩ := inB_iff.1 hl
  have hb2 : ∀ tx : Int, ([slotV (some bl) s.locks.length, .int .i64 tx, .sl bd 0 s.done.length, .sl bt 0 s.threads.length] : List AV).all AV.one = true := fun tx => boxR_one
  dsimp only [slotV] at hb2
  repeat' (first | (refine h_load1 ?_; refine b_load_p ?_) | (refine h_faddr ?_; refine a_faddr_p ?_) | (refine h_bin ?_; refine a_eql ?_) | (refine h_cond ?_; first | refine b_cond_t ?_ | refine b_cond_f ?_) | (refine h_idx ?_; refine b_idx_s ?_) | (refine h_row ?_; refine b_row_p ?_) | refine a_store_box (by repeat constructor) rfl rfl (hb2 _) rfl ?_ | (refine h_store ?_; refine b_store_one ?_) | refine a_join ?_)
  exact hq _ _ (setLock s o fun x => { x with owner := t }) s.done (s.threads) _ (Fz.sls (by repeat constructor) (lock_rows rfl) (by simp) (by simp [setLock])) (Fz.sls (by repeat constructor) rfl (by simp) (by simp [setThr])) (Fz.sls (by repeat constructor) rfl (by simp) rfl) (by simp only [applyS, Int.reduceEq, Int.reduceNeg, if_true, if_false, or_self, or_true, true_or, or_false, false_or, reduceIte, reduceCtorEq])
theorem apr_7 (bl : Nat) (hnd : (apR s b7 b12 bd bt (some bl)).names.Nodup) (hrd : (lockAt s o).readers.length < 2 ^ 40) (ha : allowedS w 7 o = true) (hq : EndsR w s t o wake bd bt (some bl) 7 Q) : ref08_Apply_c10 (.ptr b7 0 0) Q (.int .i64 7) (.int .i64 t) (.ptr b12 0 0) (.int .i64 o) (.int .i64 wake) (.pptr [w.enc] 0 0) (agR s bd bt (some bl)) (apR s b7 b12 bd bt (some bl)) := by
  unfold ref08_Apply_c10
  simp only [SH.names, apR, slotB, List.map_cons, List.map_nil, List.nodup_cons, List.mem_cons, not_or, List.not_mem_nil, not_false_eq_true, and_true] at hnd
  obtain ⟨⟨n1, n2, n3, n4⟩, ⟨n5, n6, n7⟩, ⟨n8, n9⟩, n10, _⟩ := hnd
  unfold agR apR
  have ht' : inB t s.threads.length = true := by rw [hf.threads]; exact ht
  have hy := thr_get ht'
  obtain ⟨t0, t1⟩ := inB_iff.1 ht'
  dsimp only [slotB, slotV]
  have hl : inB o s.locks.length = true := by rw [hf.locks]; simp [allowedS] at ha; exact ha.1
  have hx := lock_get hl
  obtain ⟨o0, o1⟩ := inB_iff.1 hl
  have hb2 : ∀ tx : Int, ([slotV (some bl) s.locks.length, .int .i64 tx, .sl bd 0 s.done.length, .sl bt 0 s.threads.length] : List AV).all AV.one = true := fun tx => boxR_one
  dsimp only [slotV] at hb2
  repeat' (first | (refine h_load1 ?_; refine b_load_p ?_) | (refine h_faddr ?_; refine a_faddr_p ?_) | (refine h_bin ?_; refine a_eql ?_) | (refine h_cond ?_; first | refine b_cond_t ?_ | refine b_cond_f ?_) | (refine h_idx ?_; refine b_idx_s ?_) | (refine h_row ?_; refine b_row_p ?_) | refine a_store_box (by repeat constructor) rfl rfl (hb2 _) rfl ?_ | (refine h_store ?_; refine b_store_one ?_) | refine a_join ?_)
  exact hq _ _ (setLock s o fun x => { x with owner := -1 }) s.done (s.threads) _ (Fz.sls (by repeat constructor) (lock_rows rfl) (by simp) (by simp [setLock])) (Fz.sls (by repeat constructor) rfl (by simp) (by simp [setThr])) (Fz.sls (by repeat constructor) rfl (by simp) rfl) (by simp only [applyS, Int.reduceEq, Int.reduceNeg, if_true, if_false, or_self, or_true, true_or, or_false, false_or, reduceIte, reduceCtorEq])
theorem apr_8 (bl : Nat) (hnd : (apR s b7 b12 bd bt (some bl)).names.Nodup) (hrd : (lockAt s o).readers.length < 2 ^ 40) (ha : allowedS w 8 o = true) (hq : EndsR w s t o wake bd bt (some bl) 8 Q) : ref08_Apply_c10 (.ptr b7 0 0) Q (.int .i64 8) (.int .i64 t) (.ptr b12 0 0) (.int .i64 o) (.int .i64 wake) (.pptr [w.enc] 0 0) (agR s bd bt (some bl)) (apR s b7 b12 bd bt (some bl)) := by
  unfold ref08_Apply_c10
  simp only [SH.names, apR, slotB, List.map_cons, List.map_nil, List.nodup_cons, List.mem_cons, not_or, List.not_mem_nil, not_false_eq_true, and_true] at hnd
  obtain ⟨⟨n1, n2, n3, n4⟩, ⟨n5, n6, n7⟩, ⟨n8, n9⟩, n10, _⟩ := hnd
  unfold agR apR
  have ht' : inB t s.threads.length = true := by rw [hf.threads]; exact ht
  have hy := thr_get ht'
  obtain ⟨t0, t1⟩ := inB_iff.1 ht'
  dsimp only [slotB, slotV]
  have hl : inB o s.locks.length = true := by rw [hf.locks]; simp [allowedS] at ha; exact ha.1
  have hx := lock_get hl
  obtain ⟨o0, o1⟩ := inB_iff.1 hl
  have hb2 : ∀ tx : Int, ([slotV (some bl) s.locks.length, .int .i64 tx, .sl bd 0 s.done.length, .sl bt 0 s.threads.length] : List AV).all AV.one = true := fun tx => boxR_one
  dsimp only [slotV] at hb2
  have hun : ∀ b, CallA Try.prog 57 [.lst ((lockAt s o).readers.map intE), .sl b 0 1] [(b, ⟨1, [[.int .i64 t]]⟩)] fun v L => v = .lst ((addRd (lockAt s o).readers t).map intE) ∧ L = [] := fun b => CallA.pre (args2 := [.lst ((lockAt s o).readers.map intE), .lst ([t].map intE)]) (L2 := []) (FzS.drop (K := [(b, ⟨1, [[.int .i64 t]]⟩)]) (by simp) rfl (fun i a a2 h1 h2 => by
      match i with
      | 0 => cases h1; cases h2; exact .refl _
      | 1 => cases h1; cases h2; exact Fz.sls (l := [t]) (f := intE) (List.mem_singleton.2 rfl) rfl (by decide) rfl
      | i + 2 => simp at h1)) (unionR_ok _ [t] hrd (by simp))
  repeat' (first | (refine h_load1 ?_; refine b_load_p ?_) | (refine h_faddr ?_; refine a_faddr_p ?_) | (refine h_bin ?_; refine a_eql ?_) | (refine h_cond ?_; first | refine b_cond_t ?_ | refine b_cond_f ?_) | (refine h_idx ?_; refine b_idx_s ?_) | (refine h_row ?_; refine b_row_p ?_) | (refine h_calm ?_; refine b_calm ?_) | (refine h_note ?_; refine a_note ?_) | refine a_dmark ?_ | refine a_store_box (by repeat constructor) rfl rfl (hb2 _) rfl ?_ | ((with_reducible refine h_dfn 57 ?_); (refine m_dcallD (hun _) (by repeat constructor) (by (simp only [W.free, slotOf, ↓reduceIte, Nat.reduceEqDiff, blocksOf, slOf, List.forall_mem_nil, List.forall_mem_cons, List.not_mem_nil, not_false_eq_true, implies_true, and_true, true_and, and_self, Bool.false_eq_true, reduceCtorEq, forall_const, false_implies, List.mem_singleton, forall_eq, List.append_nil, List.nil_append, List.mem_cons, or_false, false_or, forall_eq_or_imp, not_or]) <;> (repeat' constructor) <;> first | assumption | (exact Ne.symm (by assumption)) | (intro e_; subst e_; simp [SH.names] at *; done)) ?_; rintro _ _ ⟨rfl, rfl⟩)) | (refine h_store ?_; refine b_store_one ?_) | (refine h_bslice ?_; refine b_bslice (fun nb_ hnb_ => ?_)) | refine a_join ?_ | refine a_tt ?_)
  exact hq _ _ (setLock s o fun x => { x with readers := addRd x.readers t }) s.done (s.threads) _ (Fz.sls (by repeat constructor) (lock_rows rfl) (by simp) (by simp [setLock])) (Fz.sls (by repeat constructor) rfl (by simp) (by simp [setThr])) (Fz.sls (by repeat constructor) rfl (by simp) rfl) (by simp only [applyS, Int.reduceEq, Int.reduceNeg, if_true, if_false, or_self, or_true, true_or, or_false, false_or, reduceIte, reduceCtorEq])
theorem apr_9 (bl : Nat) (hnd : (apR s b7 b12 bd bt (some bl)).names.Nodup) (hrd : (lockAt s o).readers.length < 2 ^ 40) (ha : allowedS w 9 o = true) (hq : EndsR w s t o wake bd bt (some bl) 9 Q) : ref08_Apply_c10 (.ptr b7 0 0) Q (.int .i64 9) (.int .i64 t) (.ptr b12 0 0) (.int .i64 o) (.int .i64 wake) (.pptr [w.enc] 0 0) (agR s bd bt (some bl)) (apR s b7 b12 bd bt (some bl)) := by
  unfold ref08_Apply_c10
  simp only [SH.names, apR, slotB, List.map_cons, List.map_nil, List.nodup_cons, List.mem_cons, not_or, List.not_mem_nil, not_false_eq_true, and_true] at hnd
  obtain ⟨⟨n1, n2, n3, n4⟩, ⟨n5, n6, n7⟩, ⟨n8, n9⟩, n10, _⟩ := hnd
  unfold agR apR
  have ht' : inB t s.threads.length = true := by rw [hf.threads]; exact ht
  have hy := thr_get ht'
  obtain ⟨t0, t1⟩ := inB_iff.1 ht'
  dsimp only [slotB, slotV]
  have hl : inB o s.locks.length = true := by rw [hf.locks]; simp [allowedS] at ha; exact ha.1
  have hx := lock_get hl
  obtain ⟨o0, o1⟩ := inB_iff.1 hl
  have hb2 : ∀ tx : Int, ([slotV (some bl) s.locks.length, .int .i64 tx, .sl bd 0 s.done.length, .sl bt 0 s.threads.length] : List AV).all AV.one = true := fun tx => boxR_one
  dsimp only [slotV] at hb2
  repeat' (first | (refine h_load1 ?_; refine b_load_p ?_) | (refine h_faddr ?_; refine a_faddr_p ?_) | (refine h_bin ?_; refine a_eql ?_) | (refine h_cond ?_; first | refine b_cond_t ?_ | refine b_cond_f ?_) | (refine h_idx ?_; refine b_idx_s ?_) | (refine h_row ?_; refine b_row_p ?_) | (refine h_calm ?_; refine b_calm ?_) | (refine h_note ?_; refine a_note ?_) | refine a_dmark ?_ | refine a_store_box (by repeat constructor) rfl rfl (hb2 _) rfl ?_ | ((with_reducible refine h_dfn 58 ?_); refine b_dcall (withoutR_ok (lockAt s o).readers t hrd) ?_) | (refine h_store ?_; refine b_store_one ?_) | refine a_join ?_ | refine a_tt ?_)
  exact hq _ _ (setLock s o fun x => { x with readers := x.readers.filter fun y => !decide (y = t) }) s.done (s.threads) _ (Fz.sls (by repeat constructor) (lock_rows rfl) (by simp) (by simp [setLock])) (Fz.sls (by repeat constructor) rfl (by simp) (by simp [setThr])) (Fz.sls (by repeat constructor) rfl (by simp) rfl) (by simp only [applyS, Int.reduceEq, Int.reduceNeg, if_true, if_false, or_self, or_true, true_or, or_false, false_or, reduceIte, reduceCtorEq])
theorem apr_10 (bl : Nat) (hnd : (apR s b7 b12 bd bt (some bl)).names.Nodup) (hrd : (lockAt s o).readers.length < 2 ^ 40) (ha : allowedS w 10 o = true) (hq : EndsR w s t o wake bd bt (some bl) 10 Q) : ref08_Apply_c10 (.ptr b7 0 0) Q (.int .i64 10) (.int .i64 t) (.ptr b12 0 0) (.int .i64 o) (.int .i64 wake) (.pptr [w.enc] 0 0) (agR s bd bt (some bl)) (apR s b7 b12 bd bt (some bl)) := by
  unfold ref08_Apply_c10
  simp only [SH.names, apR, slotB, List.map_cons, List.map_nil, List.nodup_cons, List.mem_cons, not_or, List.not_mem_nil, not_false_eq_true, and_true] at hnd
  obtain ⟨⟨n1, n2, n3, n4⟩, ⟨n5, n6, n7⟩, ⟨n8, n9⟩, n10, _⟩ := hnd
  unfold agR apR
  have ht' : inB t s.threads.length = true := by rw [hf.threads]; exact ht
  have hy := thr_get ht'
  obtain ⟨t0, t1⟩ := inB_iff.1 ht'
  dsimp only [slotB, slotV]
  have hl : inB o s.locks.length = true := by rw [hf.locks]; simp [allowedS] at ha; exact ha.1
  have hx := lock_get hl
  obtain ⟨o0, o1⟩ := inB_iff.1 hl
  have hb2 : ∀ tx : Int, ([slotV (some bl) s.locks.length, .int .i64 tx, .sl bd 0 s.done.length, .sl bt 0 s.threads.length] : List AV).all AV.one = true := fun tx => boxR_one
  dsimp only [slotV] at hb2
  repeat' (first | (refine h_load1 ?_; refine b_load_p ?_) | (refine h_faddr ?_; refine a_faddr_p ?_) | (refine h_bin ?_; refine a_eql ?_) | (refine h_cond ?_; first | refine b_cond_t ?_ | refine b_cond_f ?_) | (refine h_idx ?_; refine b_idx_s ?_) | (refine h_row ?_; refine b_row_p ?_) | refine a_store_box (by repeat constructor) rfl rfl (hb2 _) rfl ?_ | (refine h_store ?_; refine b_store_one ?_) | refine a_join ?_)
  exact hq _ _ (setLock s o fun x => { x with owner := t }) s.done (s.threads) _ (Fz.sls (by repeat constructor) (lock_rows rfl) (by simp) (by simp [setLock])) (Fz.sls (by repeat constructor) rfl (by simp) (by simp [setThr])) (Fz.sls (by repeat constructor) rfl (by simp) rfl) (by simp only [applyS, Int.reduceEq, Int.reduceNeg, if_true, if_false, or_self, or_true, true_or, or_false, false_or, reduceIte, reduceCtorEq])
theorem apr_11 (bl : Nat) (hnd : (apR s b7 b12 bd bt (some bl)).names.Nodup) (hrd : (lockAt s o).readers.length < 2 ^ 40) (ha : allowedS w 11 o = true) (hq : EndsR w s t o wake bd bt (some bl) 11 Q) : ref08_Apply_c10 (.ptr b7 0 0) Q (.int .i64 11) (.int .i64 t) (.ptr b12 0 0) (.int .i64 o) (.int .i64 wake) (.pptr [w.enc] 0 0) (agR s bd bt (some bl)) (apR s b7 b12 bd bt (some bl)) := by
  unfold ref08_Apply_c10
  simp only [SH.names, apR, slotB, List.map_cons, List.map_nil, List.nodup_cons, List.mem_cons, not_or, List.not_mem_nil, not_false_eq_true, and_true] at hnd
  obtain ⟨⟨n1, n2, n3, n4⟩, ⟨n5, n6, n7⟩, ⟨n8, n9⟩, n10, _⟩ := hnd
  unfold agR apR
  have ht' : inB t s.threads.length = true := by rw [hf.threads]; exact ht
  have hy := thr_get ht'
  obtain ⟨t0, t1⟩ := inB_iff.1 ht'
  dsimp only [slotB, slotV]
  have hl : inB o s.locks.length = true := by rw [hf.locks]; simp [allowedS] at ha; exact ha.1
  have hx := lock_get hl
  obtain ⟨o0, o1⟩ := inB_iff.1 hl
  have hb2 : ∀ tx : Int, ([slotV (some bl) s.locks.length, .int .i64 tx, .sl bd 0 s.done.length, .sl bt 0 s.threads.length] : List AV).all AV.one = true := fun tx => boxR_one
  dsimp only [slotV] at hb2
  repeat' (first | (refine h_load1 ?_; refine b_load_p ?_) | (refine h_faddr ?_; refine a_faddr_p ?_) | (refine h_bin ?_; refine a_eql ?_) | (refine h_cond ?_; first | refine b_cond_t ?_ | refine b_cond_f ?_) | (refine h_idx ?_; refine b_idx_s ?_) | (refine h_row ?_; refine b_row_p ?_) | refine a_store_box (by repeat constructor) rfl rfl (hb2 _) rfl ?_ | (refine h_store ?_; refine b_store_one ?_) | refine a_join ?_)
  exact hq _ _ (setLock s o fun x => { x with owner := -1 }) s.done (s.threads) _ (Fz.sls (by repeat constructor) (lock_rows rfl) (by simp) (by simp [setLock])) (Fz.sls (by repeat constructor) rfl (by simp) (by simp [setThr])) (Fz.sls (by repeat constructor) rfl (by simp) rfl) (by simp only [applyS, Int.reduceEq, Int.reduceNeg, if_true, if_false, or_self, or_true, true_or, or_false, false_or, reduceIte, reduceCtorEq])
theorem apr_12 (ha : allowedS w 12 o = true) (hq : EndsR w s t o wake bd bt ol 12 Q) : ref08_Apply_c10 (.ptr b7 0 0) Q (.int .i64 12) (.int .i64 t) (.ptr b12 0 0) (.int .i64 o) (.int .i64 wake) (.pptr [w.enc] 0 0) (agR s bd bt ol) (apR s b7 b12 bd bt ol) := by
  unfold ref08_Apply_c10
  unfold agR apR
  have ht' : inB t s.threads.length = true := by rw [hf.threads]; exact ht
  have hy := thr_get ht'
  obtain ⟨t0, t1⟩ := inB_iff.1 ht'
  have hb2 : ∀ tx : Int, ([slotV ol s.locks.length, .int .i64 tx, .sl bd 0 s.done.length, .sl bt 0 s.threads.length] : List AV).all AV.one = true := fun tx => boxR_one
  repeat' (first | (refine h_faddr ?_; refine a_faddr_p ?_) | (refine h_bin ?_; refine a_eql ?_) | (refine h_cond ?_; first | refine b_cond_t ?_ | refine b_cond_f ?_) | (refine h_row ?_; refine b_row_p ?_) | refine a_store_box (by repeat constructor) rfl rfl (hb2 _) rfl ?_ | (refine h_store ?_; refine b_store_one ?_) | refine a_join ?_)
  exact hq _ _ (s.locks) s.done (s.threads) _ (fz_lk hol (fun p hp => by simp only [List.mem_cons, List.mem_append]; simp [hp])) (Fz.sls (by repeat constructor) rfl (by simp) (by simp [setThr])) (Fz.sls (by repeat constructor) rfl (by simp) rfl) (by simp only [applyS, Int.reduceEq, Int.reduceNeg, if_true, if_false, or_self, or_true, true_or, or_false, false_or, reduceIte, reduceCtorEq])
theorem apr_13 (ha : allowedS w 13 o = true) (hq : EndsR w s t o wake bd bt ol 13 Q) : ref08_Apply_c10 (.ptr b7 0 0) Q (.int .i64 13) (.int .i64 t) (.ptr b12 0 0) (.int .i64 o) (.int .i64 wake) (.pptr [w.enc] 0 0) (agR s bd bt ol) (apR s b7 b12 bd bt ol) := by
  unfold ref08_Apply_c10
  unfold agR apR
  have ht' : inB t s.threads.length = true := by rw [hf.threads]; exact ht
  have hy := thr_get ht'
  obtain ⟨t0, t1⟩ := inB_iff.1 ht'
  have hb2 : ∀ tx : Int, ([slotV ol s.locks.length, .int .i64 tx, .sl bd 0 s.done.length, .sl bt 0 s.threads.length] : List AV).all AV.one = true := fun tx => boxR_one
  repeat' (first | (refine h_faddr ?_; refine a_faddr_p ?_) | (refine h_bin ?_; refine a_eql ?_) | (refine h_cond ?_; first | refine b_cond_t ?_ | refine b_cond_f ?_) | (refine h_row ?_; refine b_row_p ?_) | refine a_store_box (by repeat constructor) rfl rfl (hb2 _) rfl ?_ | (refine h_store ?_; refine b_store_one ?_) | refine a_join ?_)
  exact hq _ _ (s.locks) s.done (s.threads) _ (fz_lk hol (fun p hp => by simp only [List.mem_cons, List.mem_append]; simp [hp])) (Fz.sls (by repeat constructor) rfl (by simp) (by simp [setThr])) (Fz.sls (by repeat constructor) rfl (by simp) rfl) (by simp only [applyS, Int.reduceEq, Int.reduceNeg, if_true, if_false, or_self, or_true, true_or, or_false, false_or, reduceIte, reduceCtorEq])
theorem apr_14 (ha : allowedS w 14 o = true) (hq : EndsR w s t o wake bd bt ol 14 Q) : ref08_Apply_c10 (.ptr b7 0 0) Q (.int .i64 14) (.int .i64 t) (.ptr b12 0 0) (.int .i64 o) (.int .i64 wake) (.pptr [w.enc] 0 0) (agR s bd bt ol) (apR s b7 b12 bd bt ol) := by
  unfold ref08_Apply_c10
  unfold agR apR
  have ht' : inB t s.threads.length = true := by rw [hf.threads]; exact ht
  have hy := thr_get ht'
  obtain ⟨t0, t1⟩ := inB_iff.1 ht'
  have hb2 : ∀ tx : Int, ([slotV ol s.locks.length, .int .i64 tx, .sl bd 0 s.done.length, .sl bt 0 s.threads.length] : List AV).all AV.one = true := fun tx => boxR_one
  repeat' (first | (refine h_load1 ?_; refine b_load_p ?_) | (refine h_faddr ?_; refine a_faddr_p ?_) | (refine h_bin ?_; refine a_eql ?_) | (refine h_cond ?_; first | refine b_cond_t ?_ | refine b_cond_f ?_) | (refine h_idx ?_; refine b_idx_s ?_) | (refine h_row ?_; refine b_row_p ?_) | refine a_store_box (by repeat constructor) rfl rfl (hb2 _) rfl ?_ | (refine h_store ?_; refine b_store_one ?_) | refine a_join ?_)
  exact hq _ _ (s.locks) s.done (setThr s t fun x => { x with atomic := true }) _ (fz_lk hol (fun p hp => by simp only [List.mem_cons, List.mem_append]; simp [hp])) (Fz.sls (by repeat constructor) (thr_rows rfl) (by simp) (by simp [setThr])) (Fz.sls (by repeat constructor) rfl (by simp) rfl) (by simp only [applyS, Int.reduceEq, Int.reduceNeg, if_true, if_false, or_self, or_true, true_or, or_false, false_or, reduceIte, reduceCtorEq])
theorem apr_15 (ha : allowedS w 15 o = true) (hq : EndsR w s t o wake bd bt ol 15 Q) : ref08_Apply_c10 (.ptr b7 0 0) Q (.int .i64 15) (.int .i64 t) (.ptr b12 0 0) (.int .i64 o) (.int .i64 wake) (.pptr [w.enc] 0 0) (agR s bd bt ol) (apR s b7 b12 bd bt ol) := by
  unfold ref08_Apply_c10
  unfold agR apR
  have ht' : inB t s.threads.length = true := by rw [hf.threads]; exact ht
  have hy := thr_get ht'
  obtain ⟨t0, t1⟩ := inB_iff.1 ht'
  have hb2 : ∀ tx : Int, ([slotV ol s.locks.length, .int .i64 tx, .sl bd 0 s.done.length, .sl bt 0 s.threads.length] : List AV).all AV.one = true := fun tx => boxR_one
  repeat' (first | (refine h_load1 ?_; refine b_load_p ?_) | (refine h_faddr ?_; refine a_faddr_p ?_) | (refine h_bin ?_; refine a_eql ?_) | (refine h_cond ?_; first | refine b_cond_t ?_ | refine b_cond_f ?_) | (refine h_idx ?_; refine b_idx_s ?_) | (refine h_row ?_; refine b_row_p ?_) | refine a_store_box (by repeat constructor) rfl rfl (hb2 _) rfl ?_ | (refine h_store ?_; refine b_store_one ?_) | refine a_join ?_)
  exact hq _ _ (s.locks) s.done (setThr s t fun x => { x with atomic := false }) _ (fz_lk hol (fun p hp => by simp only [List.mem_cons, List.mem_append]; simp [hp])) (Fz.sls (by repeat constructor) (thr_rows rfl) (by simp) (by simp [setThr])) (Fz.sls (by repeat constructor) rfl (by simp) rfl) (by simp only [applyS, Int.reduceEq, Int.reduceNeg, if_true, if_false, or_self, or_true, true_or, or_false, false_or, reduceIte, reduceCtorEq])
theorem apr_16 (bl : Nat) (hnd : (apR s b7 b12 bd bt (some bl)).names.Nodup) (hrd : (lockAt s o).readers.length < 2 ^ 40) (ha : allowedS w 16 o = true) (hq : EndsR w s t o wake bd bt (some bl) 16 Q) : ref08_Apply_c10 (.ptr b7 0 0) Q (.int .i64 16) (.int .i64 t) (.ptr b12 0 0) (.int .i64 o) (.int .i64 wake) (.pptr [w.enc] 0 0) (agR s bd bt (some bl)) (apR s b7 b12 bd bt (some bl)) := by
  unfold ref08_Apply_c10
  simp only [SH.names, apR, slotB, List.map_cons, List.map_nil, List.nodup_cons, List.mem_cons, not_or, List.not_mem_nil, not_false_eq_true, and_true] at hnd
  obtain ⟨⟨n1, n2, n3, n4⟩, ⟨n5, n6, n7⟩, ⟨n8, n9⟩, n10, _⟩ := hnd
  unfold agR apR
  have ht' : inB t s.threads.length = true := by rw [hf.threads]; exact ht
  have hy := thr_get ht'
  obtain ⟨t0, t1⟩ := inB_iff.1 ht'
  dsimp only [slotB, slotV]
  have hc : inB o w.conds.length = true := by simpa [allowedS] using ha
  have hl := mx_in hf hc
  have hx := lock_get hl
  obtain ⟨o0, o1⟩ := inB_iff.1 hl
  unfold mxAt at hl hx o0 o1
  have hy2 : ((s.threads.map ThrD.enc).set (0 + t.toNat) ((thrAt s t).enc.set 0 (.int .i64 3)))[0 + t.toNat]? = some ((thrAt s t).enc.set 0 (.int .i64 3)) := set_at hy
  have hb2 : ∀ tx : Int, ([slotV (some bl) s.locks.length, .int .i64 tx, .sl bd 0 s.done.length, .sl bt 0 s.threads.length] : List AV).all AV.one = true := fun tx => boxR_one
  dsimp only [slotV] at hb2
  repeat' (first | (refine h_load1 ?_; first | refine b_load_q ?_ | refine b_load_i ?_ | refine b_load_p ?_) | (refine h_faddr ?_; first | refine a_faddr_q ?_ | refine a_faddr_p ?_) | (refine h_bin ?_; refine a_eql ?_) | (refine h_cond ?_; first | refine b_cond_t ?_ | refine b_cond_f ?_) | (refine h_idx ?_; first | refine b_idx_i ?_ | refine b_idx_s ?_) | (refine h_row ?_; refine b_row_p ?_) | (refine h_calm ?_; refine b_calm ?_) | (refine h_note ?_; refine a_note ?_) | refine a_store_box (by repeat constructor) rfl rfl (hb2 _) rfl ?_ | (refine h_store ?_; refine b_store_one ?_) | refine a_join ?_ | refine a_tt ?_)
  exact hq _ _ (setLock s (mxAt w o) fun x => { x with owner := -1 }) s.done (setThr s t fun x => { x with status := 3, cond := o }) _ (Fz.sls (by repeat constructor) (lock_rows rfl) (by simp) (by simp [setLock])) (Fz.sls (by repeat constructor) (by rw [List.set_set]; exact thr_rows rfl) (by simp) (by simp [setThr])) (Fz.sls (by repeat constructor) rfl (by simp) rfl) (by simp only [applyS, Int.reduceEq, Int.reduceNeg, if_true, if_false, or_self, or_true, true_or, or_false, false_or, reduceIte, reduceCtorEq])
theorem apr_17 (bl : Nat) (hnd : (apR s b7 b12 bd bt (some bl)).names.Nodup) (hrd : (lockAt s o).readers.length < 2 ^ 40) (ha : allowedS w 17 o = true) (hq : EndsR w s t o wake bd bt (some bl) 17 Q) : ref08_Apply_c10 (.ptr b7 0 0) Q (.int .i64 17) (.int .i64 t) (.ptr b12 0 0) (.int .i64 o) (.int .i64 wake) (.pptr [w.enc] 0 0) (agR s bd bt (some bl)) (apR s b7 b12 bd bt (some bl)) := by
  unfold ref08_Apply_c10
  simp only [SH.names, apR, slotB, List.map_cons, List.map_nil, List.nodup_cons, List.mem_cons, not_or, List.not_mem_nil, not_false_eq_true, and_true] at hnd
  obtain ⟨⟨n1, n2, n3, n4⟩, ⟨n5, n6, n7⟩, ⟨n8, n9⟩, n10, _⟩ := hnd
  unfold agR apR
  have ht' : inB t s.threads.length = true := by rw [hf.threads]; exact ht
  have hy := thr_get ht'
  obtain ⟨t0, t1⟩ := inB_iff.1 ht'
  dsimp only [slotB, slotV]
  have hc : inB o w.conds.length = true := by simpa [allowedS] using ha
  have hl := mx_in hf hc
  have hx := lock_get hl
  obtain ⟨o0, o1⟩ := inB_iff.1 hl
  unfold mxAt at hl hx o0 o1
  have hy2 : ((s.threads.map ThrD.enc).set (0 + t.toNat) ((thrAt s t).enc.set 0 (.int .i64 2)))[0 + t.toNat]? = some ((thrAt s t).enc.set 0 (.int .i64 2)) := set_at hy
  have hb2 : ∀ tx : Int, ([slotV (some bl) s.locks.length, .int .i64 tx, .sl bd 0 s.done.length, .sl bt 0 s.threads.length] : List AV).all AV.one = true := fun tx => boxR_one
  dsimp only [slotV] at hb2
  repeat' (first | (refine h_load1 ?_; first | refine b_load_q ?_ | refine b_load_i ?_ | refine b_load_p ?_) | (refine h_faddr ?_; first | refine a_faddr_q ?_ | refine a_faddr_p ?_) | (refine h_bin ?_; refine a_eql ?_) | (refine h_cond ?_; first | refine b_cond_t ?_ | refine b_cond_f ?_) | (refine h_idx ?_; first | refine b_idx_i ?_ | refine b_idx_s ?_) | (refine h_row ?_; refine b_row_p ?_) | (refine h_calm ?_; refine b_calm ?_) | (refine h_note ?_; refine a_note ?_) | refine a_store_box (by repeat constructor) rfl rfl (hb2 _) rfl ?_ | (refine h_store ?_; refine b_store_one ?_) | refine a_join ?_ | refine a_tt ?_)
  exact hq _ _ (setLock s (mxAt w o) fun x => { x with owner := t }) s.done (setThr s t fun x => { x with status := 2, cond := 0 }) _ (Fz.sls (by repeat constructor) (lock_rows rfl) (by simp) (by simp [setLock])) (Fz.sls (by repeat constructor) (by rw [List.set_set]; exact thr_rows rfl) (by simp) (by simp [setThr])) (Fz.sls (by repeat constructor) rfl (by simp) rfl) (by simp only [applyS, Int.reduceEq, Int.reduceNeg, if_true, if_false, or_self, or_true, true_or, or_false, false_or, reduceIte, reduceCtorEq])
theorem apr_20 (ha : allowedS w 20 o = true) (hq : EndsR w s t o wake bd bt ol 20 Q) : ref08_Apply_c10 (.ptr b7 0 0) Q (.int .i64 20) (.int .i64 t) (.ptr b12 0 0) (.int .i64 o) (.int .i64 wake) (.pptr [w.enc] 0 0) (agR s bd bt ol) (apR s b7 b12 bd bt ol) := by
  unfold ref08_Apply_c10
  unfold agR apR
  have ht' : inB t s.threads.length = true := by rw [hf.threads]; exact ht
  have hy := thr_get ht'
  obtain ⟨t0, t1⟩ := inB_iff.1 ht'
  have hl : inB o s.threads.length = true := by rw [hf.threads]; simpa [allowedS] using ha
  have hx := thr_get hl
  obtain ⟨o0, o1⟩ := inB_iff.1 hl
  have hb2 : ∀ tx : Int, ([slotV ol s.locks.length, .int .i64 tx, .sl bd 0 s.done.length, .sl bt 0 s.threads.length] : List AV).all AV.one = true := fun tx => boxR_one
  repeat' (first | (refine h_load1 ?_; refine b_load_p ?_) | (refine h_faddr ?_; refine a_faddr_p ?_) | (refine h_bin ?_; refine a_eql ?_) | (refine h_cond ?_; first | refine b_cond_t ?_ | refine b_cond_f ?_) | (refine h_idx ?_; refine b_idx_s ?_) | (refine h_row ?_; refine b_row_p ?_) | refine a_store_box (by repeat constructor) rfl rfl (hb2 _) rfl ?_ | (refine h_store ?_; refine b_store_one ?_) | refine a_join ?_)
  exact hq _ _ (s.locks) s.done (setThr s o fun x => { x with status := 1 }) _ (fz_lk hol (fun p hp => by simp only [List.mem_cons, List.mem_append]; simp [hp])) (Fz.sls (by repeat constructor) (thr_rows rfl) (by simp) (by simp [setThr])) (Fz.sls (by repeat constructor) rfl (by simp) rfl) (by simp only [applyS, Int.reduceEq, Int.reduceNeg, if_true, if_false, or_self, or_true, true_or, or_false, false_or, reduceIte, reduceCtorEq])
theorem apr_21 (ha : allowedS w 21 o = true) (hq : EndsR w s t o wake bd bt ol 21 Q) : ref08_Apply_c10 (.ptr b7 0 0) Q (.int .i64 21) (.int .i64 t) (.ptr b12 0 0) (.int .i64 o) (.int .i64 wake) (.pptr [w.enc] 0 0) (agR s bd bt ol) (apR s b7 b12 bd bt ol) := by
  unfold ref08_Apply_c10
  unfold agR apR
  have ht' : inB t s.threads.length = true := by rw [hf.threads]; exact ht
  have hy := thr_get ht'
  obtain ⟨t0, t1⟩ := inB_iff.1 ht'
  have hb2 : ∀ tx : Int, ([slotV ol s.locks.length, .int .i64 tx, .sl bd 0 s.done.length, .sl bt 0 s.threads.length] : List AV).all AV.one = true := fun tx => boxR_one
  repeat' (first | (refine h_bin ?_; refine a_eql ?_) | (refine h_cond ?_; refine b_cond_f ?_) | (refine h_row ?_; refine b_row_p ?_) | refine a_store_box (by repeat constructor) rfl rfl (hb2 _) rfl ?_ | refine a_join ?_)
  exact hq _ _ (s.locks) s.done (s.threads) _ (fz_lk hol (fun p hp => by simp only [List.mem_cons, List.mem_append]; simp [hp])) (Fz.sls (by repeat constructor) rfl (by simp) (by simp [setThr])) (Fz.sls (by repeat constructor) rfl (by simp) rfl) (by simp only [applyS, Int.reduceEq, Int.reduceNeg, if_true, if_false, or_self, or_true, true_or, or_false, false_or, reduceIte, reduceCtorEq])
theorem apr_23 (ha : allowedS w 23 o = true) (hq : EndsR w s t o wake bd bt ol 23 Q) : ref08_Apply_c10 (.ptr b7 0 0) Q (.int .i64 23) (.int .i64 t) (.ptr b12 0 0) (.int .i64 o) (.int .i64 wake) (.pptr [w.enc] 0 0) (agR s bd bt ol) (apR s b7 b12 bd bt ol) := by
  unfold ref08_Apply_c10
  unfold agR apR
  have ht' : inB t s.threads.length = true := by rw [hf.threads]; exact ht
  have hy := thr_get ht'
  obtain ⟨t0, t1⟩ := inB_iff.1 ht'
  have hb2 : ∀ tx : Int, ([slotV ol s.locks.length, .int .i64 tx, .sl bd 0 s.done.length, .sl bt 0 s.threads.length] : List AV).all AV.one = true := fun tx => boxR_one
  repeat' (first | (refine h_bin ?_; refine a_eql ?_) | (refine h_cond ?_; refine b_cond_f ?_) | (refine h_row ?_; refine b_row_p ?_) | refine a_store_box (by repeat constructor) rfl rfl (hb2 _) rfl ?_ | refine a_join ?_)
  exact hq _ _ (s.locks) s.done (s.threads) _ (fz_lk hol (fun p hp => by simp only [List.mem_cons, List.mem_append]; simp [hp])) (Fz.sls (by repeat constructor) rfl (by simp) (by simp [setThr])) (Fz.sls (by repeat constructor) rfl (by simp) rfl) (by simp only [applyS, Int.reduceEq, Int.reduceNeg, if_true, if_false, or_self, or_true, true_or, or_false, false_or, reduceIte, reduceCtorEq])
theorem apr_22 (ha : allowedS w 22 o = true) (hq : EndsR w s t o wake bd bt ol 22 Q) : ref08_Apply_c10 (.ptr b7 0 0) Q (.int .i64 22) (.int .i64 t) (.ptr b12 0 0) (.int .i64 o) (.int .i64 wake) (.pptr [w.enc] 0 0) (agR s bd bt ol) (apR s b7 b12 bd bt ol) := by
  unfold ref08_Apply_c10 agR apR
  have hl : inB o s.done.length = true := by rw [hf.done]; simpa [allowedS] using ha
  obtain ⟨o0, o1⟩ := inB_iff.1 hl
  have hx : (s.done.map boolE)[0 + o.toNat]? = some (boolE (s.done.getD o.toNat default)) := by rw [Nat.zero_add]; exact at_inB hl
  have hb2 : ∀ tx : Int, ([slotV ol s.locks.length, .int .i64 tx, .sl bd 0 s.done.length, .sl bt 0 s.threads.length] : List AV).all AV.one = true := fun tx => boxR_one
  repeat' (first | (refine h_load1 ?_; refine b_load_p ?_) | (refine h_faddr ?_; refine a_faddr_p ?_) | (refine h_bin ?_; refine a_eql ?_) | (refine h_cond ?_; first | refine b_cond_t ?_ | refine b_cond_f ?_) | (refine h_idx ?_; refine b_idx_s ?_) | (refine h_row ?_; refine b_row_p ?_) | refine a_store_box (by repeat constructor) rfl rfl (hb2 _) rfl ?_ | (refine h_store ?_; refine b_store_one ?_) | refine a_join ?_)
  refine hq _ _ s.locks (s.done.set o.toNat true) s.threads _ (fz_lk hol (fun p hp => by simp only [List.mem_cons, List.mem_append]; simp [hp])) (Fz.sls (by repeat constructor) rfl (by simp) rfl) (Fz.sls (by repeat constructor) ?_ (by simp) (by simp)) (by simp only [applyS, Int.reduceEq, Int.reduceNeg, if_true, if_false, or_self, or_true, true_or, or_false, false_or, reduceIte, reduceCtorEq])
  rw [List.map_set, Nat.zero_add]; rfl
end
end Go.Proofs.Ytadjimfkfmojkaa.Am

end
section
namespace Go.Proofs.Ytadjimfkfmojkaa.Am
set_option maxRecDepth 100000
set_option linter.unusedSimpArgs false
set_option linter.unusedVariables false
section
variable {w : WorldD} {s : SyncD} {t o : Int}
theorem lockAt_set {f : LockD → LockD} (h : inB o s.locks.length = true) {tx : Int} {d : List Bool} {th : List ThrD} : lockAt ⟨setLock s o f, tx, d, th⟩ o = f (lockAt s o) := by
  obtain ⟨o0, o1⟩ := inB_iff.1 h
  have hlt : o.toNat < s.locks.length := by omega
  unfold lockAt setLock
  simp [List.getD, hlt, lockAt]
theorem setLock_twice {f g : LockD → LockD} (h : inB o s.locks.length = true) {tx : Int} {d : List Bool} {th : List ThrD} : setLock ⟨setLock s o f, tx, d, th⟩ o g = setLock s o (fun x => g (f x)) := by
  have e := lockAt_set (s := s) (f := f) h (tx := tx) (d := d) (th := th)
  unfold setLock at e ⊢
  rw [e]
  simp
theorem setLock_same {f : LockD → LockD} (h : inB o s.locks.length = true) (hf : f (lockAt s o) = lockAt s o) : setLock s o f = s.locks := by
  obtain ⟨o0, o1⟩ := inB_iff.1 h
  have hlt : o.toNat < s.locks.length := by omega
  unfold setLock
  rw [hf]
  unfold lockAt
  rw [show s.locks.getD o.toNat default = s.locks[o.toNat] by simp [hlt]]
  simp
theorem fits_eq {a : SyncD} (h1 : a.locks.length = s.locks.length) (h2 : a.done.length = s.done.length) (h3 : a.threads.length = s.threads.length) : fitsS w a = fitsS w s := by
  unfold fitsS; rw [h1, h2, h3]
theorem setLock_len {f : LockD → LockD} : (setLock s o f).length = s.locks.length := by simp [setLock]
theorem setThr_len {f : ThrD → ThrD} : (setThr s o f).length = s.threads.length := by simp [setThr]
end
/-- what a lock event of a running thread wants -/
theorem en_lock {w : WorldD} {s : SyncD} {t k o : Int} (hk : k = 6 ∨ k = 7 ∨ k = 8 ∨ k = 9 ∨ k = 10 ∨ k = 11) : enabledS w s t k o = true ↔ fitsS w s = true ∧ inB t w.threads.length = true ∧ allowedS w k o = true ∧ (thrAt s t).status = 2 ∧ readyS w s t k o = true := by
  unfold enabledS
  rw [if_neg (by omega), if_neg (by omega)]
  simp only [Bool.and_eq_true, decide_eq_true_eq]
  constructor
  · rintro ⟨⟨⟨a, b⟩, c⟩, d, e⟩; exact ⟨a, b, c, d, e⟩
  · rintro ⟨a, b, c, d, e⟩; exact ⟨⟨⟨a, b⟩, c⟩, d, e⟩
theorem al_lock {w : WorldD} {k o : Int} (hk : k = 6 ∨ k = 7 ∨ k = 8 ∨ k = 9 ∨ k = 10 ∨ k = 11) (h : allowedS w k o = true) : inB o w.locks.length = true := by
  rcases hk with rfl | rfl | rfl | rfl | rfl | rfl <;> (simp [allowedS] at h; exact h.1)
theorem readers_back {l : List Int} {t : Int} (h : l.Pairwise (· < ·)) (hn : l.contains t = false) : (addRd l t).filter (fun y => !decide (y = t)) = l := by
  refine asc_ext ((addRd_asc l t).filter _) h fun x => ?_
  rw [List.mem_filter, addRd_mem]
  have : x = t → x ∉ l := fun e hm => by subst e; simp at hn; exact hn hm
  constructor
  · rintro ⟨h1 | h1, h2⟩
    · exact h1
    · simp [h1] at h2
  · intro hx
    refine ⟨.inl hx, ?_⟩
    simp
    exact fun e => this e hx
/-- taking and giving back -/
theorem back {s : SyncD} (hs : OInv s) {t k j o wk : Int} (hk : (k = 6 ∧ j = 7) ∨ (k = 8 ∧ j = 9) ∨ (k = 10 ∧ j = 11)) (hen : enabledS W0 s t k o = true) :
    enabledS W0 (applyS W0 s t k o wk).1 t k o = false ∧ enabledS W0 (applyS W0 s t k o wk).1 t j o = true ∧ applyS W0 (applyS W0 s t k o wk).1 t j o wk = (s, 0) := by
  obtain ⟨h1, h2, h3, h4, h5⟩ := (en_lock (by omega)).1 hen
  have hl : inB o s.locks.length = true := by rw [(fitsS_iff.1 h1).locks]; exact al_lock (by omega) h3
  obtain ⟨t0, t1⟩ := inB_iff.1 h2
  have hrd := lock_rd hs o
  have hal : allowedS W0 j o = true := by
    rcases hk with ⟨rfl, rfl⟩ | ⟨rfl, rfl⟩ | ⟨rfl, rfl⟩ <;> exact h3
  have fin : ∀ f : LockD → LockD, (applyS W0 s t k o wk).1 = { s with locks := setLock s o f } → readyS W0 { s with locks := setLock s o f } t k o = false → readyS W0 { s with locks := setLock s o f } t j o = true → applyS W0 { s with locks := setLock s o f } t j o wk = (s, 0) →
      enabledS W0 (applyS W0 s t k o wk).1 t k o = false ∧ enabledS W0 (applyS W0 s t k o wk).1 t j o = true ∧ applyS W0 (applyS W0 s t k o wk).1 t j o wk = (s, 0) := fun f e r1 r2 r3 => by
    rw [e]
    have hft : fitsS W0 { s with locks := setLock s o f } = true := (fits_eq (w := W0) (s := s) (a := { s with locks := setLock s o f }) setLock_len rfl rfl).trans h1
    refine ⟨?_, (en_lock (by omega)).2 ⟨hft, h2, hal, h4, r2⟩, r3⟩
    cases hx : enabledS W0 { s with locks := setLock s o f } t k o with
    | false => rfl
    | true =>
      have := ((en_lock (by omega)).1 hx).2.2.2.2
      rw [r1] at this; cases this
  rcases hk with ⟨rfl, rfl⟩ | ⟨rfl, rfl⟩ | ⟨rfl, rfl⟩
  · have ho : (lockAt s o).owner = -1 := by simpa [readyS] using h5
    refine fin (fun x => { x with owner := t }) (by simp [applyS]) ?_ ?_ ?_
    · simp [readyS, lockAt_set hl]; omega
    · simp [readyS, lockAt_set hl]
    · simp only [applyS, Int.reduceEq, if_true, if_false, or_self, or_true, true_or, reduceIte]
      rw [setLock_twice hl, setLock_same hl (by rw [show ({ owner := -1, readers := (lockAt s o).readers } : LockD) = lockAt s o by rw [← ho]])]
  · have hn : (lockAt s o).readers.contains t = false := by simp [readyS] at h5; simpa using h5.2
    refine fin (fun x => { x with readers := addRd x.readers t }) (by simp [applyS]) ?_ ?_ ?_
    · have : t ∈ addRd (lockAt s o).readers t := (addRd_mem _ _ _).2 (.inr rfl)
      simp [readyS, lockAt_set hl, this]
    · have : t ∈ addRd (lockAt s o).readers t := (addRd_mem _ _ _).2 (.inr rfl)
      simp [readyS, lockAt_set hl, this]
    · simp only [applyS, Int.reduceEq, if_true, if_false, or_self, or_true, true_or, reduceIte]
      rw [setLock_twice hl, setLock_same hl (by dsimp only; rw [readers_back hrd.1 hn])]
  · have ho : (lockAt s o).owner = -1 := by simp [readyS] at h5; exact h5.1
    refine fin (fun x => { x with owner := t }) (by simp [applyS]) ?_ ?_ ?_
    · simp [readyS, lockAt_set hl]; omega
    · simp [readyS, lockAt_set hl]
    · simp only [applyS, Int.reduceEq, if_true, if_false, or_self, or_true, true_or, reduceIte]
      rw [setLock_twice hl, setLock_same hl (by rw [show ({ owner := -1, readers := (lockAt s o).readers } : LockD) = lockAt s o by rw [← ho]])]
end Go.Proofs.Ytadjimfkfmojkaa.Am

end
section
namespace Go.Proofs.Ytadjimfkfmojkaa.Am
set_option maxRecDepth 100000
set_option linter.unusedSimpArgs false
set_option linter.unusedVariables false
theorem mem_waiting {T : List ThrD} {c : Int} {n i : Nat} : i ∈ waiting T c n ↔ i < n ∧ waitsAt T c i = true := by simp [waiting]
end Go.Proofs.Ytadjimfkfmojkaa.Am

end
section
namespace Go.Proofs.Ytadjimfkfmojkaa.Am
set_option maxRecDepth 100000
set_option linter.unusedSimpArgs false
set_option linter.unusedVariables false
set_option linter.unusedSectionVars false
/-- the first n of a list of threads are woken -/
def wakeL (T : List ThrD) (l : List Nat) : List ThrD := l.foldl (fun T i => setSt T i 4) T
theorem wakeL_len : ∀ (l : List Nat) (T : List ThrD), (wakeL T l).length = T.length
  | [], _ => rfl
  | i :: l, T => by
    have := wakeL_len l (setSt T i 4)
    unfold wakeL at this ⊢
    rw [List.foldl_cons, this]; simp [setSt]
theorem wakeL_at : ∀ (l : List Nat) (T : List ThrD) (j : Nat) (hj : j < T.length), (wakeL T l)[j]? = some (if j ∈ l then { T[j] with status := 4 } else T[j])
  | [], T, j, hj => by simp [wakeL, hj]
  | i :: l, T, j, hj => by
    have hj2 : j < (setSt T i 4).length := by simp [setSt, hj]
    have := wakeL_at l (setSt T i 4) j hj2
    unfold wakeL at this ⊢
    rw [List.foldl_cons, this]
    by_cases hij : i = j
    · subst hij
      have : (setSt T i 4)[i] = { T[i] with status := 4 } := by simp [setSt, hj]
      rw [this]
      simp
    · have : (setSt T i 4)[j] = T[j] := by simp [setSt, List.getElem_set_ne hij]
      rw [this]
      have hji : j ≠ i := fun e => hij e.symm
      simp [hji]
theorem wakeL_all (T : List ThrD) (c : Int) : wakeL T (waiting T c T.length) = wakeAll T c T.length := by
  apply List.ext_getElem?
  intro j
  rcases Nat.lt_or_ge j T.length with hj | hj
  · rw [wakeL_at _ _ _ hj, wakeAll_at _ _ _ _ hj]
    have hm : j ∈ waiting T c T.length ↔ waitsS T[j] c = true := by
      rw [mem_waiting]
      have : waitsAt T c j = waitsS T[j] c := by simp [waitsAt, hj]
      rw [this]
      exact ⟨fun h => h.2, fun h => ⟨hj, h⟩⟩
    by_cases hw : waitsS T[j] c = true
    · rw [if_pos (hm.2 hw)]; simp [hj, hw]
    · rw [if_neg (fun h => hw (hm.1 h))]; simp [hw]
  · rw [List.getElem?_eq_none (by rw [wakeL_len]; exact hj), List.getElem?_eq_none (by rw [wakeAll_len]; exact hj)]
theorem wakeL_snoc (T : List ThrD) (l : List Nat) (i : Nat) : wakeL T (l ++ [i]) = setSt (wakeL T l) i 4 := by unfold wakeL; rw [List.foldl_append]; rfl
def natE (i : Nat) : List AV := [.int .i64 (i : Int)]
theorem wh_rows (T : List ThrD) (c : Int) : (wh (waitsAt T c) T.length).map intE = (waiting T c T.length).map natE := by
  unfold wh waiting
  rw [List.map_map]; rfl
section
variable (w : WorldD) (s : SyncD) (t o wake : Int) (b7 b12 bd bt : Nat) (ol : Option Nat)
variable (Q : AV → SH → Prop) (hol : ol = none → s.locks = []) (hT : s.threads.length < 2 ^ 40)
include hol hT
theorem apr_18 (hq : EndsR w s t o wake bd bt ol 18 Q) : ref08_Apply_c10 (.ptr b7 0 0) Q (.int .i64 18) (.int .i64 t) (.ptr b12 0 0) (.int .i64 o) (.int .i64 wake) (.pptr [w.enc] 0 0) (agR s bd bt ol) (apR s b7 b12 bd bt ol) := by
  unfold ref08_Apply_c10 agR apR
  have hb2 : ∀ tx : Int, ([slotV ol s.locks.length, .int .i64 tx, .sl bd 0 s.done.length, .sl bt 0 s.threads.length] : List AV).all AV.one = true := fun tx => boxR_one
  have hw := waitingR_ok (slotV ol s.locks.length) (.int .i64 s.tx) (.sl bd 0 s.done.length) bt s.threads o hT (hb2 _)
  rw [wh_rows] at hw
  have ea : applyS w s t 18 o wake = ({ s with threads := wokenS s.threads o wake }, notifyS s.threads o wake) := by simp only [applyS, Int.reduceEq, Int.reduceNeg, if_true, if_false, or_self, or_true, true_or, or_false, false_or, reduceIte, reduceCtorEq]
  have hcn : notifyS s.threads o wake = chosenOf (waiting s.threads o s.threads.length) wake := rfl
  have hlt : ∀ x ∈ waiting s.threads o s.threads.length, x < s.threads.length := fun x hx => waiting_lt hx
  have hwl : (waiting s.threads o s.threads.length).length ≤ s.threads.length := Nat.le_trans (List.length_filter_le _ _) (by simp)
  cases hl : waiting s.threads o s.threads.length with
  | nil =>
    rw [hl] at hw hcn
    have hz : decide ((0 : Int) < (([] : List Nat).length : Nat)) = false := rfl
    have hn : notifyS s.threads o wake = -1 := hcn
    repeat' (first | (refine h_bin ?_; first | refine a_eql ?_ | refine a_gtr ?_) | (refine h_cond ?_; first | refine b_cond_t ?_ | refine b_cond_f ?_) | (refine h_row ?_; refine b_row_p ?_) | (refine h_len ?_; refine a_len_m ?_) | refine a_mark ?_ | refine a_store_box (by repeat constructor) rfl rfl (hb2 _) rfl ?_ | ((with_reducible refine h_fn 59 ?_); (refine m_callD hw (by repeat constructor) ?_; rintro _ _ ⟨rfl, rfl⟩)) | refine a_join ?_)
    exact hq _ _ s.locks s.done s.threads _ (fz_lk hol (fun p hp => by simp only [List.mem_cons, List.mem_append]; simp [hp])) (Fz.sls (by repeat constructor) rfl (by simp) rfl) (Fz.sls (by repeat constructor) rfl (by simp) rfl) (by rw [ea, hn]; unfold wokenS; rw [hn, if_neg (by decide)] )
  | cons u l =>
    rw [hl] at hw hcn hlt hwl
    have hz : decide ((0 : Int) < ((u :: l).length : Nat)) = true := decide_eq_true (by simp only [List.length_cons]; omega)
    have hrow : (((u :: l) : List Nat).map natE)[(0 : Nat)]? = some (natE u) := rfl
    have hmap : ((u :: l).map natE) = (((u :: l).map fun i : Nat => (i : Int)).map intE) := by rw [List.map_map]; rfl
    have hhas := has_ok ((u :: l).map fun i : Nat => (i : Int)) wake (by simp at hwl ⊢; omega)
    rw [← hmap] at hhas
    have hany : ((u :: l).map fun i : Nat => (i : Int)).contains wake = (u :: l).any fun x => decide ((x : Int) = wake) := by
      rw [Bool.eq_iff_iff]
      simp only [List.contains_iff_mem, List.mem_map, List.any_eq_true, decide_eq_true_eq]
    rw [hany] at hhas
    simp only [chosenOf] at hcn
    have fin : ∀ (i : Nat), notifyS s.threads o wake = (i : Int) → ∀ L, (bd, (⟨1, s.done.map boolE⟩ : Blk)) ∈ L → (bt, (⟨3, (setSt s.threads i 4).map ThrD.enc⟩ : Blk)) ∈ L → (∀ p ∈ slotB ol 2 (s.locks.map LockD.enc), p ∈ L) → Q (.tup [.agg [slotV ol s.locks.length, .int .i64 s.tx, .sl bd 0 s.done.length, .sl bt 0 s.threads.length], .int .i64 (i : Int), .bool true]) L := fun i hi L m1 m2 m3 =>
      hq _ _ s.locks s.done (setSt s.threads i 4) _ (fz_lk hol m3) (Fz.sls m2 rfl (by simp) (by simp [setSt])) (Fz.sls m1 rfl (by simp) rfl) (by rw [ea, hi]; unfold wokenS; rw [hi, if_pos (by omega)]; rfl)
    cases ha : (u :: l).any fun x => decide ((x : Int) = wake) with
    | false =>
      rw [ha] at hhas hcn
      have hn : notifyS s.threads o wake = (u : Int) := hcn
      have hu : u < s.threads.length := hlt u (by simp)
      have hx := map_at (f := ThrD.enc) hu
      have hst := set_enc s.threads u 4 hu
      repeat' (first | (refine h_load1 ?_; first | refine b_load_q ?_ | refine b_load_p ?_) | (refine h_faddr ?_; refine a_faddr_p ?_) | (refine h_bin ?_; first | refine a_eql ?_ | refine a_gtr ?_) | (refine h_cond ?_; first | refine b_cond_t ?_ | refine b_cond_f ?_) | (refine h_idx ?_; first | refine b_idx_n ?_ | refine b_idx_sn ?_) | (refine h_row ?_; refine b_row_p ?_) | (refine h_len ?_; refine a_len_m ?_) | refine a_mark ?_ | refine a_store_box (by repeat constructor) rfl rfl (hb2 _) rfl ?_ | ((with_reducible refine h_fn 59 ?_); (refine m_callD hw (by repeat constructor) ?_; rintro _ _ ⟨rfl, rfl⟩)) | ((with_reducible refine h_fn 15 ?_); refine m_call (hhas) ?_) | (refine h_store ?_; refine b_store_one ?_) | refine a_join ?_)
      refine fin u hn _ (by repeat constructor) ?_ (fun p hp => by simp only [List.mem_cons, List.mem_append]; simp [hp])
      rw [← hst]
      repeat constructor
    | true =>
      rw [ha] at hhas hcn
      have hn : notifyS s.threads o wake = wake := hcn
      obtain ⟨u', hu1, hu2⟩ := List.any_eq_true.1 ha
      have hu3 := of_decide_eq_true hu2
      have hu : u' < s.threads.length := hlt u' hu1
      have hx := map_at (f := ThrD.enc) hu
      have hst := set_enc s.threads u' 4 hu
      subst hu3
      repeat' (first | (refine h_load1 ?_; first | refine b_load_q ?_ | refine b_load_p ?_) | (refine h_faddr ?_; refine a_faddr_p ?_) | (refine h_bin ?_; first | refine a_eql ?_ | refine a_gtr ?_) | (refine h_cond ?_; first | refine b_cond_t ?_ | refine b_cond_f ?_) | (refine h_idx ?_; first | refine b_idx_n ?_ | refine b_idx_sn ?_) | (refine h_row ?_; refine b_row_p ?_) | (refine h_len ?_; refine a_len_m ?_) | refine a_mark ?_ | refine a_store_box (by repeat constructor) rfl rfl (hb2 _) rfl ?_ | ((with_reducible refine h_fn 59 ?_); (refine m_callD hw (by repeat constructor) ?_; rintro _ _ ⟨rfl, rfl⟩)) | ((with_reducible refine h_fn 15 ?_); refine m_call (hhas) ?_) | (refine h_store ?_; refine b_store_one ?_) | refine a_join ?_)
      refine fin u' hn _ (by repeat constructor) ?_ (fun p hp => by simp only [List.mem_cons, List.mem_append]; simp [hp])
      rw [← hst]
      repeat constructor
theorem apr_19 (hq : EndsR w s t o wake bd bt ol 19 Q) : ref08_Apply_c10 (.ptr b7 0 0) Q (.int .i64 19) (.int .i64 t) (.ptr b12 0 0) (.int .i64 o) (.int .i64 wake) (.pptr [w.enc] 0 0) (agR s bd bt ol) (apR s b7 b12 bd bt ol) := by
  unfold ref08_Apply_c10 agR apR
  have hb2 : ∀ tx : Int, ([slotV ol s.locks.length, .int .i64 tx, .sl bd 0 s.done.length, .sl bt 0 s.threads.length] : List AV).all AV.one = true := fun tx => boxR_one
  have hw := waitingR_ok (slotV ol s.locks.length) (.int .i64 s.tx) (.sl bd 0 s.done.length) bt s.threads o hT (hb2 _)
  rw [wh_rows] at hw
  have ea : applyS w s t 19 o wake = ({ s with threads := wakeS s o }, (((waiting s.threads o s.threads.length).length : Nat) : Int)) := by simp only [applyS, Int.reduceEq, Int.reduceNeg, if_true, if_false, or_self, or_true, true_or, or_false, false_or, reduceIte, reduceCtorEq]
  have hlt : ∀ x ∈ waiting s.threads o s.threads.length, x < s.threads.length := fun x hx => waiting_lt hx
  have hwl : (waiting s.threads o s.threads.length).length ≤ s.threads.length := Nat.le_trans (List.length_filter_le _ _) (by simp)
  have hall := wakeL_all s.threads o
  have fin : ∀ L, (bd, (⟨1, s.done.map boolE⟩ : Blk)) ∈ L → (bt, (⟨3, (wakeL s.threads (waiting s.threads o s.threads.length)).map ThrD.enc⟩ : Blk)) ∈ L → (∀ p ∈ slotB ol 2 (s.locks.map LockD.enc), p ∈ L) → Q (.tup [.agg [slotV ol s.locks.length, .int .i64 s.tx, .sl bd 0 s.done.length, .sl bt 0 s.threads.length], .int .i64 ((waiting s.threads o s.threads.length).length : Nat), .bool true]) L := fun L m1 m2 m3 =>
    hq _ _ s.locks s.done (wakeS s o) _ (fz_lk hol m3) (Fz.sls m2 (by rw [hall]; rfl) (by simp) (by simp [wakeS, wakeAll_len])) (Fz.sls m1 rfl (by simp) rfl) ea
  clear ea hall hq
  generalize waiting s.threads o s.threads.length = wl at *
  repeat' (first | (refine h_bin ?_; refine a_eql ?_) | (refine h_cond ?_; first | refine b_cond_t ?_ | refine b_cond_f ?_) | (refine h_row ?_; refine b_row_p ?_) | refine a_mark ?_ | refine a_store_box (by repeat constructor) rfl rfl (hb2 _) rfl ?_ | ((with_reducible refine h_fn 59 ?_); (refine m_callD hw (by repeat constructor) ?_; rintro _ _ ⟨rfl, rfl⟩)) | refine a_join ?_)
  refine for_by wl.length (fun i => ([.ptr b7 0 0, .ptr b12 0 0, .lst (wl.map natE), .int .i64 i], (bt, ⟨3, (wakeL s.threads (wl.take i)).map ThrD.enc⟩) :: (bd, ⟨1, s.done.map boolE⟩) :: (b12, ⟨4, [[.nils, .int .i64 0, .nils, .nils]]⟩) :: (b7, ⟨4, [[slotV ol s.locks.length, .int .i64 s.tx, .sl bd 0 s.done.length, .sl bt 0 s.threads.length]]⟩) :: slotB ol 2 (s.locks.map LockD.enc))) (fun _ => True) trivial rfl rfl ?_
  intro i hi _
  dsimp only
  unfold ref08_Apply_l6
  rcases Nat.lt_or_ge i wl.length with g1 | g1
  · have hd := dec_lt g1
    have hx := map_at (f := natE) g1
    have hu : wl[i] < (wakeL s.threads (wl.take i)).length := by rw [wakeL_len]; exact hlt _ (List.getElem_mem g1)
    have hu' : wl[i] < s.threads.length := hlt _ (List.getElem_mem g1)
    have hy := map_at (f := ThrD.enc) hu
    have hst := set_enc _ wl[i] 4 hu
    have htk : wakeL s.threads (wl.take (i + 1)) = setSt (wakeL s.threads (wl.take i)) wl[i] 4 := by rw [List.take_succ_eq_append_getElem g1, wakeL_snoc]
    repeat' (first | (refine h_load1 ?_; first | refine b_load_q ?_ | refine b_load_p ?_) | (refine h_faddr ?_; refine a_faddr_p ?_) | (refine h_bin ?_; first | refine a_lss ?_ | refine a_add ?_) | (refine h_cond ?_; refine b_cond_t ?_) | (refine h_idx ?_; first | refine b_idx_n ?_ | refine b_idx_sn ?_) | (refine h_len ?_; refine a_len_m ?_) | (refine h_calm ?_; refine b_calm ?_) | (refine h_note ?_; refine a_note ?_) | (refine h_store ?_; refine b_store_one ?_) | refine a_tt ?_)
    refine ⟨i + 1, by omega, by omega, trivial, fzs_eq (by rw [i64_succ g1 (by omega)]; rfl) ?_⟩
    rw [htk, ← hst]
  · have hd := dec_ge g1
    rw [List.take_of_length_le g1]
    repeat' (first | (refine h_bin ?_; refine a_lss ?_) | (refine h_cond ?_; refine b_cond_f ?_) | (refine h_row ?_; refine b_row_p ?_) | (refine h_len ?_; refine a_len_m ?_) | refine a_store_box (by repeat constructor) rfl rfl (hb2 _) rfl ?_)
    exact fin _ (by repeat constructor) (by repeat constructor) (fun p hp => by simp only [List.mem_cons, List.mem_append]; simp [hp])
end
theorem perm_r {α : Type} (bt bd b12 b7 : α) (X : List α) : ((X ++ [bt, bd]) ++ [b12, b7]).Perm (bt :: bd :: b12 :: b7 :: X) := by
  rw [List.append_assoc]
  exact List.perm_append_comm (l₁ := X) (l₂ := [bt, bd, b12, b7])
section
variable (w : WorldD) (s : SyncD) (t k o wake : Int)
theorem endsR (hen : enabledS w s t k o = true) (bd bt : Nat) (ol : Option Nat) : EndsR w s t o wake bd bt ol k (EndQ w s t k o wake) := by
  intro tx val ls dn th L f1 f2 f3 e
  refine ⟨_, [], FzS.all (Fz.tups (.cons (Fz.aggs (.cons f1 (.cons (.refl _) (.cons f3 (.cons f2 .nil))))) (.cons (.refl _) (.cons (.refl _) .nil)))), ?_, rfl⟩
  unfold resS
  rw [if_pos hen, e]
  rfl
theorem apply_c10 (hs : Small w s) (hen : enabledS w s t k o = true) (b7 b12 : Nat) (Q : AV → SH → Prop) (hq : ∀ bd bt ol, EndsR w s t o wake bd bt ol k Q) :
    W.callM Try.prog 56 [.agg s.enc] [(b12, ⟨4, [[.nils, .int .i64 0, .nils, .nils]]⟩), (b7, ⟨4, [s.enc]⟩)] (ref08_Apply_c10 (.ptr b7 0 0) Q (.int .i64 k) (.int .i64 t) (.ptr b12 0 0) (.int .i64 o) (.int .i64 wake) (.pptr [w.enc] 0 0)) := by
  have hen' := hen
  unfold enabledS at hen'
  simp only [Bool.and_eq_true] at hen'
  obtain ⟨⟨⟨hfi, ht⟩, hal⟩, hkd⟩ := hen'
  have hf := fitsS_iff.1 hfi
  have hrl : ∀ o, (lockAt s o).readers.length < 2 ^ 40 := fun o => by
    unfold lockAt
    rcases Nat.lt_or_ge o.toNat s.locks.length with h | h
    · rw [show s.locks.getD o.toNat default = s.locks[o.toNat] by simp [h]]; exact hs.rd _ (List.getElem_mem h)
    · rw [show s.locks.getD o.toNat default = default by simp [List.getD, List.getElem?_eq_none h]]; decide
  refine m_callN (copyR_ok s hs.locks hs.done hs.threads hs.rd) ?_
  rintro v K ⟨ol, bd, bt, rfl, rfl, hol⟩
  refine ⟨apR s b7 b12 bd bt ol, perm_r _ _ _ _ _, fun hnd => ?_⟩
  show ref08_Apply_c10 (.ptr b7 0 0) Q (.int .i64 k) (.int .i64 t) (.ptr b12 0 0) (.int .i64 o) (.int .i64 wake) (.pptr [w.enc] 0 0) (agR s bd bt ol) (apR s b7 b12 bd bt ol)
  have plain : ref08_Apply_c10 (.ptr b7 0 0) Q (.int .i64 k) (.int .i64 t) (.ptr b12 0 0) (.int .i64 o) (.int .i64 wake) (.pptr [w.enc] 0 0) (agR s bd bt ol) (apR s b7 b12 bd bt ol) → ref08_Apply_c10 (.ptr b7 0 0) Q (.int .i64 k) (.int .i64 t) (.ptr b12 0 0) (.int .i64 o) (.int .i64 wake) (.pptr [w.enc] 0 0) (agR s bd bt ol) (apR s b7 b12 bd bt ol) := fun h => h
  have lockk : ∀ {p : Int}, inB p w.locks.length = true → (∀ bl, (apR s b7 b12 bd bt (some bl)).names.Nodup → EndsR w s t o wake bd bt (some bl) k Q → ref08_Apply_c10 (.ptr b7 0 0) Q (.int .i64 k) (.int .i64 t) (.ptr b12 0 0) (.int .i64 o) (.int .i64 wake) (.pptr [w.enc] 0 0) (agR s bd bt (some bl)) (apR s b7 b12 bd bt (some bl))) → ref08_Apply_c10 (.ptr b7 0 0) Q (.int .i64 k) (.int .i64 t) (.ptr b12 0 0) (.int .i64 o) (.int .i64 wake) (.pptr [w.enc] 0 0) (agR s bd bt ol) (apR s b7 b12 bd bt ol) := fun {p} hp h => by
    cases ol with
    | none =>
      rw [← hf.locks, hol rfl] at hp
      obtain ⟨p0, p1⟩ := inB_iff.1 hp
      simp at p1
      omega
    | some bl => exact h bl hnd (hq _ _ _)
  rcases kinds k with hk | rfl | rfl | rfl | rfl | rfl | rfl | rfl | rfl | rfl | rfl | rfl | rfl | rfl | rfl | rfl | rfl | rfl | rfl | rfl | rfl | rfl | rfl | rfl
  · simp only [allowedS] at hal
    repeat (rw [if_neg (by omega)] at hal)
    cases hal
  · exact plain (apr_1 w s t o wake b7 b12 bd bt ol Q hf ht hol hal (hq _ _ _))
  · exact plain (apr_2 w s t o wake b7 b12 bd bt ol Q hf ht hol hal (hq _ _ _))
  · exact plain (apr_3 w s t o wake b7 b12 bd bt ol Q hf ht hol hal (hq _ _ _))
  · exact plain (apr_4 w s t o wake b7 b12 bd bt ol Q hf ht hol hal (hq _ _ _))
  · exact plain (apr_5 w s t o wake b7 b12 bd bt ol Q hf ht hol hal (hq _ _ _))
  · exact lockk (by simp [allowedS] at hal; exact hal.1) fun bl hnd => apr_6 w s t o wake b7 b12 bd bt (some bl) Q hf ht nofun bl hnd (hrl o) hal
  · exact lockk (by simp [allowedS] at hal; exact hal.1) fun bl hnd => apr_7 w s t o wake b7 b12 bd bt (some bl) Q hf ht nofun bl hnd (hrl o) hal
  · exact lockk (by simp [allowedS] at hal; exact hal.1) fun bl hnd => apr_8 w s t o wake b7 b12 bd bt (some bl) Q hf ht nofun bl hnd (hrl o) hal
  · exact lockk (by simp [allowedS] at hal; exact hal.1) fun bl hnd => apr_9 w s t o wake b7 b12 bd bt (some bl) Q hf ht nofun bl hnd (hrl o) hal
  · exact lockk (by simp [allowedS] at hal; exact hal.1) fun bl hnd => apr_10 w s t o wake b7 b12 bd bt (some bl) Q hf ht nofun bl hnd (hrl o) hal
  · exact lockk (by simp [allowedS] at hal; exact hal.1) fun bl hnd => apr_11 w s t o wake b7 b12 bd bt (some bl) Q hf ht nofun bl hnd (hrl o) hal
  · exact plain (apr_12 w s t o wake b7 b12 bd bt ol Q hf ht hol hal (hq _ _ _))
  · exact plain (apr_13 w s t o wake b7 b12 bd bt ol Q hf ht hol hal (hq _ _ _))
  · exact plain (apr_14 w s t o wake b7 b12 bd bt ol Q hf ht hol hal (hq _ _ _))
  · exact plain (apr_15 w s t o wake b7 b12 bd bt ol Q hf ht hol hal (hq _ _ _))
  · have hc : inB o w.conds.length = true := by simpa [allowedS] using hal
    exact lockk (by rw [← hf.locks]; exact mx_in hf hc) fun bl hnd => apr_16 w s t o wake b7 b12 bd bt (some bl) Q hf ht nofun bl hnd (hrl o) hal
  · have hc : inB o w.conds.length = true := by simpa [allowedS] using hal
    exact lockk (by rw [← hf.locks]; exact mx_in hf hc) fun bl hnd => apr_17 w s t o wake b7 b12 bd bt (some bl) Q hf ht nofun bl hnd (hrl o) hal
  · exact plain (apr_18 w s t o wake b7 b12 bd bt ol Q hol hs.threads (hq _ _ _))
  · exact plain (apr_19 w s t o wake b7 b12 bd bt ol Q hol hs.threads (hq _ _ _))
  · exact plain (apr_20 w s t o wake b7 b12 bd bt ol Q hf ht hol hal (hq _ _ _))
  · exact plain (apr_21 w s t o wake b7 b12 bd bt ol Q hf ht hol hal (hq _ _ _))
  · exact plain (apr_22 w s t o wake b7 b12 bd bt ol Q hf ht hol hal (hq _ _ _))
  · exact plain (apr_23 w s t o wake b7 b12 bd bt ol Q hf ht hol hal (hq _ _ _))
theorem applyR_ok (hs : Small w s) : PureA Try.prog 29 [.agg w.enc, .agg s.enc, .int .i64 t, .int .i64 k, .int .i64 o, .int .i64 wake] (encR (resS w s t k o wake)) := by
  refine CallA.fz (ref08_Apply_ok _ _ _ _ _ _ _ _ ?_)
  show ref08_Apply_w _ _ _ _ _ _ _ (EndQ w s t k o wake)
  unfold ref08_Apply_w
  have hcn : w.conds.length < 2 ^ 62 := by have := hs.conds; omega
  have he := enabledR_ok w s t k o hcn hs.rd
  have fin : enabledS w s t k o = false → ∀ L, EndQ w s t k o wake (.tup [.agg [.nils, .int .i64 0, .nils, .nils], .int .i64 0, .bool false]) L := fun hn L => by
    refine ⟨_, [], FzS.all (Fz.tups (.cons (Fz.aggs (.cons .nils (.cons (.refl _) (.cons .nils (.cons .nils .nil))))) (.cons (.refl _) (.cons (.refl _) .nil)))), ?_, rfl⟩
    unfold resS
    rw [hn]
    rfl
  have hend := fun hen => endsR w s t k o wake hen
  generalize EndQ w s t k o wake = Q at *
  cases hen : enabledS w s t k o with
  | false =>
    rw [hen] at he
    have nh : (!false) = true := rfl
    have fin := fin hen
    repeat' (first | (refine h_cond ?_; refine b_cond_t ?_) | (refine h_row ?_; first | refine b_row_q ?_ | refine b_row_p ?_) | refine a_mark ?_ | ((with_reducible refine h_fn 55 ?_); refine m_call (he) ?_) | (refine h_un ?_; refine a_not ?_) | (refine h_box ?_; refine b_box (fun nb_ hnb_ => ?_)) | (refine h_frz1 ?_; refine b_frz_p ?_) | (refine h_store ?_; refine b_store_box ?_) | refine a_alloc (fun nb_ hnb_ => ?_) | refine b_build ?_)
    exact fin _
  | true =>
    rw [hen] at he
    have hc := fun b7 b12 => apply_c10 w s t k o wake hs hen b7 b12 Q (hend hen)
    clear fin
    repeat' (first | exact hc _ _ | (refine h_cond ?_; refine b_cond_f ?_) | (refine h_row ?_; first | refine b_row_q ?_ | refine b_row_p ?_) | refine a_mark ?_ | ((with_reducible refine h_fn 55 ?_); refine m_call (he) ?_) | (refine h_un ?_; refine a_not ?_) | (refine h_box ?_; refine b_box (fun nb_ hnb_ => ?_)) | (refine h_frz1 ?_; refine b_frz_p ?_) | refine a_alloc (fun nb_ hnb_ => ?_))
end
end Go.Proofs.Ytadjimfkfmojkaa.Am

end
