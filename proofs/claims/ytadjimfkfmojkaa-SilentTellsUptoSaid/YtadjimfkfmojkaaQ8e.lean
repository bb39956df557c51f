/- SilentTells: Settle returns the specified state for every code and state of a thread: the law returns true for every code and state whose bulk is at most the bound. -/
import Derived.Test.YtadjimfkfmojkaaQ8d
import Derived.Test.YtadjimfkfmojkaaRows
import Derived.Test.YtadjimfkfmojkaaChecked
import Derived.JoinedCond
set_option linter.unusedSimpArgs false
set_option linter.unusedVariables false
section
namespace Go.Proofs.Ytadjimfkfmojkaa.Am
set_option maxRecDepth 100000
set_option linter.unusedSimpArgs false
set_option linter.unusedVariables false
def tupV (p : Int × Bool) : AV := .tup [.int .i64 p.1, .bool p.2]
theorem truth_ok (b : Bool) : PureA Try.prog 92 [.bool b] (.int .i64 (truthS b)) := by
  refine eval_truth_ok _ _ _ ?_
  unfold eval_truth_w
  cases b
  all_goals
    repeat' (first | (refine h_load1 ?_; first | refine b_load_q ?_ | refine b_load_i ?_ | refine b_load_p ?_) | (refine h_faddr ?_; first | refine a_faddr_q ?_ | refine a_faddr_p ?_) | (refine h_bin ?_; first | refine a_eql ?_ | refine a_lss ?_ | refine a_neq ?_ | refine a_geq ?_ | refine a_gtr ?_ | refine a_leq ?_ | refine a_add ?_ | refine a_sub ?_ | refine a_mul ?_ | refine a_eqs ?_ | refine a_nes ?_ | refine b_rem ?_ | refine b_quo ?_) | (refine h_cond ?_; first | refine b_cond_t ?_ | refine b_cond_f ?_ | refine a_cond (fun h => ?_) (fun h => ?_)) | (refine h_idx ?_; first | refine b_idx_n ?_ | refine b_idx_l ?_ | refine b_idx_i ?_ | refine b_idx_sn ?_ | refine b_idx_s ?_) | (refine h_row ?_; first | refine b_row_q ?_ | refine b_row_i ?_ | refine b_row_p ?_) | (refine h_len ?_; first | refine a_len_m ?_ | refine a_len_l ?_ | refine a_len_s ?_ | refine a_len_n ?_ | refine a_len_e ?_) | (refine h_ext ?_; refine b_ext ?_) | (refine h_calm ?_; refine b_calm ?_) | (refine h_note ?_; refine a_note ?_) | (refine h_pick ?_; first | refine b_pick_t ?_ | refine b_pick_f ?_) | (refine h_grd ?_; first | refine b_grd_y ?_ | refine b_grd_n ?_ | refine a_grd_u ?_ | refine a_grd_t (fun h => ?_) (fun h => ?_) | refine a_grd_f (fun h => ?_) (fun h => ?_)) | (refine h_dgrd ?_; first | refine b_dgrd_y ?_ | refine b_dgrd_n ?_ | refine a_dgrd_u ?_ | refine a_dgrd_t (fun h => ?_) (fun h => ?_) | refine a_dgrd_f (fun h => ?_) (fun h => ?_)) | (refine h_nilchk ?_; first | refine a_nil_p ?_ | refine a_nil_q ?_ | refine a_nil_f ?_) | refine a_mark ?_ | refine a_dmark ?_ | (refine h_un ?_; first | refine a_not ?_ | refine a_neg ?_) | (refine h_box ?_; refine b_box (fun nb_ hnb_ => ?_)) | (refine h_frz1 ?_; first | refine b_frz_p ?_ | refine b_frz_s ?_) | (refine h_store ?_; first | refine b_store_box ?_ | refine b_store_one ?_ | refine b_store_row ?_) | (refine h_idxP ?_; first | refine b_idxP_p ?_ | refine b_idxP_q ?_) | (refine h_mslice ?_; refine b_mslice (fun nb_ hnb_ => ?_)) | (refine h_bslice ?_; refine b_bslice (fun nb_ hnb_ => ?_)) | refine a_conv ?_ | refine a_convS ?_ | refine a_alloc (fun nb_ hnb_ => ?_) | refine b_build ?_ | refine b_fld ?_ | refine a_join ?_ | refine a_lenS ?_ | refine a_tt ?_)
    exact ⟨rfl, rfl⟩
theorem truthR_ok (b : Bool) : PureA Try.prog 93 [.bool b] (.int .i64 (truthS b)) := by
  refine ref05_truth_ok _ _ _ ?_
  unfold ref05_truth_w
  cases b
  all_goals
    repeat' (first | (refine h_load1 ?_; first | refine b_load_q ?_ | refine b_load_i ?_ | refine b_load_p ?_) | (refine h_faddr ?_; first | refine a_faddr_q ?_ | refine a_faddr_p ?_) | (refine h_bin ?_; first | refine a_eql ?_ | refine a_lss ?_ | refine a_neq ?_ | refine a_geq ?_ | refine a_gtr ?_ | refine a_leq ?_ | refine a_add ?_ | refine a_sub ?_ | refine a_mul ?_ | refine a_eqs ?_ | refine a_nes ?_ | refine b_rem ?_ | refine b_quo ?_) | (refine h_cond ?_; first | refine b_cond_t ?_ | refine b_cond_f ?_ | refine a_cond (fun h => ?_) (fun h => ?_)) | (refine h_idx ?_; first | refine b_idx_n ?_ | refine b_idx_l ?_ | refine b_idx_i ?_ | refine b_idx_sn ?_ | refine b_idx_s ?_) | (refine h_row ?_; first | refine b_row_q ?_ | refine b_row_i ?_ | refine b_row_p ?_) | (refine h_len ?_; first | refine a_len_m ?_ | refine a_len_l ?_ | refine a_len_s ?_ | refine a_len_n ?_ | refine a_len_e ?_) | (refine h_ext ?_; refine b_ext ?_) | (refine h_calm ?_; refine b_calm ?_) | (refine h_note ?_; refine a_note ?_) | (refine h_pick ?_; first | refine b_pick_t ?_ | refine b_pick_f ?_) | (refine h_grd ?_; first | refine b_grd_y ?_ | refine b_grd_n ?_ | refine a_grd_u ?_ | refine a_grd_t (fun h => ?_) (fun h => ?_) | refine a_grd_f (fun h => ?_) (fun h => ?_)) | (refine h_dgrd ?_; first | refine b_dgrd_y ?_ | refine b_dgrd_n ?_ | refine a_dgrd_u ?_ | refine a_dgrd_t (fun h => ?_) (fun h => ?_) | refine a_dgrd_f (fun h => ?_) (fun h => ?_)) | (refine h_nilchk ?_; first | refine a_nil_p ?_ | refine a_nil_q ?_ | refine a_nil_f ?_) | refine a_mark ?_ | refine a_dmark ?_ | (refine h_un ?_; first | refine a_not ?_ | refine a_neg ?_) | (refine h_box ?_; refine b_box (fun nb_ hnb_ => ?_)) | (refine h_frz1 ?_; first | refine b_frz_p ?_ | refine b_frz_s ?_) | (refine h_store ?_; first | refine b_store_box ?_ | refine b_store_one ?_ | refine b_store_row ?_) | (refine h_idxP ?_; first | refine b_idxP_p ?_ | refine b_idxP_q ?_) | (refine h_mslice ?_; refine b_mslice (fun nb_ hnb_ => ?_)) | (refine h_bslice ?_; refine b_bslice (fun nb_ hnb_ => ?_)) | refine a_conv ?_ | refine a_convS ?_ | refine a_alloc (fun nb_ hnb_ => ?_) | refine b_build ?_ | refine b_fld ?_ | refine a_join ?_ | refine a_lenS ?_ | refine a_tt ?_)
    exact ⟨rfl, rfl⟩
theorem unary_ok (op a : Int) : PureA Try.prog 70 [.int .i64 op, .int .i64 a] (tupV (unS op a)) := by
  refine eval_Unary_ok _ _ _ _ ?_
  unfold eval_Unary_w
  generalize hQ : (fun (u : AV) (K : SH) => u = tupV (unS op a) ∧ K = []) = Q
  repeat' (first | (refine h_load1 ?_; first | refine b_load_q ?_ | refine b_load_i ?_ | refine b_load_p ?_) | (refine h_faddr ?_; first | refine a_faddr_q ?_ | refine a_faddr_p ?_) | (refine h_bin ?_; first | refine a_eql ?_ | refine a_lss ?_ | refine a_neq ?_ | refine a_geq ?_ | refine a_gtr ?_ | refine a_leq ?_ | refine a_add ?_ | refine a_sub ?_ | refine a_mul ?_ | refine a_eqs ?_ | refine a_nes ?_ | refine b_rem ?_ | refine b_quo ?_) | (refine h_cond ?_; first | refine b_cond_t ?_ | refine b_cond_f ?_ | refine a_cond (fun h => ?_) (fun h => ?_)) | (refine h_idx ?_; first | refine b_idx_n ?_ | refine b_idx_l ?_ | refine b_idx_i ?_ | refine b_idx_sn ?_ | refine b_idx_s ?_) | (refine h_row ?_; first | refine b_row_q ?_ | refine b_row_i ?_ | refine b_row_p ?_) | (refine h_len ?_; first | refine a_len_m ?_ | refine a_len_l ?_ | refine a_len_s ?_ | refine a_len_n ?_ | refine a_len_e ?_) | (refine h_ext ?_; refine b_ext ?_) | (refine h_calm ?_; refine b_calm ?_) | (refine h_note ?_; refine a_note ?_) | (refine h_pick ?_; first | refine b_pick_t ?_ | refine b_pick_f ?_) | (refine h_grd ?_; first | refine b_grd_y ?_ | refine b_grd_n ?_ | refine a_grd_u ?_ | refine a_grd_t (fun h => ?_) (fun h => ?_) | refine a_grd_f (fun h => ?_) (fun h => ?_)) | (refine h_dgrd ?_; first | refine b_dgrd_y ?_ | refine b_dgrd_n ?_ | refine a_dgrd_u ?_ | refine a_dgrd_t (fun h => ?_) (fun h => ?_) | refine a_dgrd_f (fun h => ?_) (fun h => ?_)) | (refine h_nilchk ?_; first | refine a_nil_p ?_ | refine a_nil_q ?_ | refine a_nil_f ?_) | refine a_mark ?_ | refine a_dmark ?_ | ((with_reducible refine h_fn 92 ?_); refine m_call (truth_ok _) ?_) | ((with_reducible refine h_dfn 92 ?_); refine b_dcall (truth_ok _) ?_) | (refine h_un ?_; first | refine a_not ?_ | refine a_neg ?_) | (refine h_box ?_; refine b_box (fun nb_ hnb_ => ?_)) | (refine h_frz1 ?_; first | refine b_frz_p ?_ | refine b_frz_s ?_) | (refine h_store ?_; first | refine b_store_box ?_ | refine b_store_one ?_ | refine b_store_row ?_) | (refine h_idxP ?_; first | refine b_idxP_p ?_ | refine b_idxP_q ?_) | (refine h_mslice ?_; refine b_mslice (fun nb_ hnb_ => ?_)) | (refine h_bslice ?_; refine b_bslice (fun nb_ hnb_ => ?_)) | refine a_conv ?_ | refine a_convS ?_ | refine a_alloc (fun nb_ hnb_ => ?_) | refine b_build ?_ | refine b_fld ?_ | refine a_join ?_ | refine a_lenS ?_ | refine a_tt ?_)
  all_goals
    subst hQ
    refine ⟨?_, rfl⟩
    simp_all [unS, tupV]
theorem unaryR_ok (op a : Int) : PureA Try.prog 73 [.int .i64 op, .int .i64 a] (tupV (unS op a)) := by
  refine ref05_Unary_ok _ _ _ _ ?_
  unfold ref05_Unary_w
  generalize hQ : (fun (u : AV) (K : SH) => u = tupV (unS op a) ∧ K = []) = Q
  repeat' (first | (refine h_load1 ?_; first | refine b_load_q ?_ | refine b_load_i ?_ | refine b_load_p ?_) | (refine h_faddr ?_; first | refine a_faddr_q ?_ | refine a_faddr_p ?_) | (refine h_bin ?_; first | refine a_eql ?_ | refine a_lss ?_ | refine a_neq ?_ | refine a_geq ?_ | refine a_gtr ?_ | refine a_leq ?_ | refine a_add ?_ | refine a_sub ?_ | refine a_mul ?_ | refine a_eqs ?_ | refine a_nes ?_ | refine b_rem ?_ | refine b_quo ?_) | (refine h_cond ?_; first | refine b_cond_t ?_ | refine b_cond_f ?_ | refine a_cond (fun h => ?_) (fun h => ?_)) | (refine h_idx ?_; first | refine b_idx_n ?_ | refine b_idx_l ?_ | refine b_idx_i ?_ | refine b_idx_sn ?_ | refine b_idx_s ?_) | (refine h_row ?_; first | refine b_row_q ?_ | refine b_row_i ?_ | refine b_row_p ?_) | (refine h_len ?_; first | refine a_len_m ?_ | refine a_len_l ?_ | refine a_len_s ?_ | refine a_len_n ?_ | refine a_len_e ?_) | (refine h_ext ?_; refine b_ext ?_) | (refine h_calm ?_; refine b_calm ?_) | (refine h_note ?_; refine a_note ?_) | (refine h_pick ?_; first | refine b_pick_t ?_ | refine b_pick_f ?_) | (refine h_grd ?_; first | refine b_grd_y ?_ | refine b_grd_n ?_ | refine a_grd_u ?_ | refine a_grd_t (fun h => ?_) (fun h => ?_) | refine a_grd_f (fun h => ?_) (fun h => ?_)) | (refine h_dgrd ?_; first | refine b_dgrd_y ?_ | refine b_dgrd_n ?_ | refine a_dgrd_u ?_ | refine a_dgrd_t (fun h => ?_) (fun h => ?_) | refine a_dgrd_f (fun h => ?_) (fun h => ?_)) | (refine h_nilchk ?_; first | refine a_nil_p ?_ | refine a_nil_q ?_ | refine a_nil_f ?_) | refine a_mark ?_ | refine a_dmark ?_ | ((with_reducible refine h_fn 93 ?_); refine m_call (truthR_ok _) ?_) | ((with_reducible refine h_dfn 93 ?_); refine b_dcall (truthR_ok _) ?_) | (refine h_un ?_; first | refine a_not ?_ | refine a_neg ?_) | (refine h_box ?_; refine b_box (fun nb_ hnb_ => ?_)) | (refine h_frz1 ?_; first | refine b_frz_p ?_ | refine b_frz_s ?_) | (refine h_store ?_; first | refine b_store_box ?_ | refine b_store_one ?_ | refine b_store_row ?_) | (refine h_idxP ?_; first | refine b_idxP_p ?_ | refine b_idxP_q ?_) | (refine h_mslice ?_; refine b_mslice (fun nb_ hnb_ => ?_)) | (refine h_bslice ?_; refine b_bslice (fun nb_ hnb_ => ?_)) | refine a_conv ?_ | refine a_convS ?_ | refine a_alloc (fun nb_ hnb_ => ?_) | refine b_build ?_ | refine b_fld ?_ | refine a_join ?_ | refine a_lenS ?_ | refine a_tt ?_)
  all_goals
    subst hQ
    refine ⟨?_, rfl⟩
    simp_all [unS, tupV]
theorem binary_ok (op a b : Int) : PureA Try.prog 71 [.int .i64 op, .int .i64 a, .int .i64 b] (tupV (binS op a b)) := by
  refine eval_Binary_ok _ _ _ _ _ ?_
  unfold eval_Binary_w
  generalize hQ : (fun (u : AV) (K : SH) => u = tupV (binS op a b) ∧ K = []) = Q
  repeat' (first | (refine h_load1 ?_; first | refine b_load_q ?_ | refine b_load_i ?_ | refine b_load_p ?_) | (refine h_faddr ?_; first | refine a_faddr_q ?_ | refine a_faddr_p ?_) | (refine h_bin ?_; first | refine a_eql ?_ | refine a_lss ?_ | refine a_neq ?_ | refine a_geq ?_ | refine a_gtr ?_ | refine a_leq ?_ | refine a_add ?_ | refine a_sub ?_ | refine a_mul ?_ | refine a_eqs ?_ | refine a_nes ?_ | refine b_rem ?_ | refine b_quo ?_) | (refine h_cond ?_; first | refine b_cond_t ?_ | refine b_cond_f ?_ | refine a_cond (fun h => ?_) (fun h => ?_)) | (refine h_idx ?_; first | refine b_idx_n ?_ | refine b_idx_l ?_ | refine b_idx_i ?_ | refine b_idx_sn ?_ | refine b_idx_s ?_) | (refine h_row ?_; first | refine b_row_q ?_ | refine b_row_i ?_ | refine b_row_p ?_) | (refine h_len ?_; first | refine a_len_m ?_ | refine a_len_l ?_ | refine a_len_s ?_ | refine a_len_n ?_ | refine a_len_e ?_) | (refine h_ext ?_; refine b_ext ?_) | (refine h_calm ?_; refine b_calm ?_) | (refine h_note ?_; refine a_note ?_) | (refine h_pick ?_; first | refine b_pick_t ?_ | refine b_pick_f ?_) | (refine h_grd ?_; first | refine b_grd_y ?_ | refine b_grd_n ?_ | refine a_grd_u ?_ | refine a_grd_t (fun h => ?_) (fun h => ?_) | refine a_grd_f (fun h => ?_) (fun h => ?_)) | (refine h_dgrd ?_; first | refine b_dgrd_y ?_ | refine b_dgrd_n ?_ | refine a_dgrd_u ?_ | refine a_dgrd_t (fun h => ?_) (fun h => ?_) | refine a_dgrd_f (fun h => ?_) (fun h => ?_)) | (refine h_nilchk ?_; first | refine a_nil_p ?_ | refine a_nil_q ?_ | refine a_nil_f ?_) | refine a_mark ?_ | refine a_dmark ?_ | ((with_reducible refine h_fn 92 ?_); refine m_call (truth_ok _) ?_) | ((with_reducible refine h_dfn 92 ?_); refine b_dcall (truth_ok _) ?_) | (refine h_un ?_; first | refine a_not ?_ | refine a_neg ?_) | (refine h_box ?_; refine b_box (fun nb_ hnb_ => ?_)) | (refine h_frz1 ?_; first | refine b_frz_p ?_ | refine b_frz_s ?_) | (refine h_store ?_; first | refine b_store_box ?_ | refine b_store_one ?_ | refine b_store_row ?_) | (refine h_idxP ?_; first | refine b_idxP_p ?_ | refine b_idxP_q ?_) | (refine h_mslice ?_; refine b_mslice (fun nb_ hnb_ => ?_)) | (refine h_bslice ?_; refine b_bslice (fun nb_ hnb_ => ?_)) | refine a_conv ?_ | refine a_convS ?_ | refine a_alloc (fun nb_ hnb_ => ?_) | refine b_build ?_ | refine b_fld ?_ | refine a_join ?_ | refine a_lenS ?_ | refine a_tt ?_)
  all_goals
    subst hQ
    refine ⟨?_, rfl⟩
    simp_all [binS, tupV]
theorem binaryR_ok (op a b : Int) : PureA Try.prog 75 [.int .i64 op, .int .i64 a, .int .i64 b] (tupV (binS op a b)) := by
  refine ref05_Binary_ok _ _ _ _ _ ?_
  unfold ref05_Binary_w
  generalize hQ : (fun (u : AV) (K : SH) => u = tupV (binS op a b) ∧ K = []) = Q
  repeat' (first | (refine h_load1 ?_; first | refine b_load_q ?_ | refine b_load_i ?_ | refine b_load_p ?_) | (refine h_faddr ?_; first | refine a_faddr_q ?_ | refine a_faddr_p ?_) | (refine h_bin ?_; first | refine a_eql ?_ | refine a_lss ?_ | refine a_neq ?_ | refine a_geq ?_ | refine a_gtr ?_ | refine a_leq ?_ | refine a_add ?_ | refine a_sub ?_ | refine a_mul ?_ | refine a_eqs ?_ | refine a_nes ?_ | refine b_rem ?_ | refine b_quo ?_) | (refine h_cond ?_; first | refine b_cond_t ?_ | refine b_cond_f ?_ | refine a_cond (fun h => ?_) (fun h => ?_)) | (refine h_idx ?_; first | refine b_idx_n ?_ | refine b_idx_l ?_ | refine b_idx_i ?_ | refine b_idx_sn ?_ | refine b_idx_s ?_) | (refine h_row ?_; first | refine b_row_q ?_ | refine b_row_i ?_ | refine b_row_p ?_) | (refine h_len ?_; first | refine a_len_m ?_ | refine a_len_l ?_ | refine a_len_s ?_ | refine a_len_n ?_ | refine a_len_e ?_) | (refine h_ext ?_; refine b_ext ?_) | (refine h_calm ?_; refine b_calm ?_) | (refine h_note ?_; refine a_note ?_) | (refine h_pick ?_; first | refine b_pick_t ?_ | refine b_pick_f ?_) | (refine h_grd ?_; first | refine b_grd_y ?_ | refine b_grd_n ?_ | refine a_grd_u ?_ | refine a_grd_t (fun h => ?_) (fun h => ?_) | refine a_grd_f (fun h => ?_) (fun h => ?_)) | (refine h_dgrd ?_; first | refine b_dgrd_y ?_ | refine b_dgrd_n ?_ | refine a_dgrd_u ?_ | refine a_dgrd_t (fun h => ?_) (fun h => ?_) | refine a_dgrd_f (fun h => ?_) (fun h => ?_)) | (refine h_nilchk ?_; first | refine a_nil_p ?_ | refine a_nil_q ?_ | refine a_nil_f ?_) | refine a_mark ?_ | refine a_dmark ?_ | ((with_reducible refine h_fn 93 ?_); refine m_call (truthR_ok _) ?_) | ((with_reducible refine h_dfn 93 ?_); refine b_dcall (truthR_ok _) ?_) | (refine h_un ?_; first | refine a_not ?_ | refine a_neg ?_) | (refine h_box ?_; refine b_box (fun nb_ hnb_ => ?_)) | (refine h_frz1 ?_; first | refine b_frz_p ?_ | refine b_frz_s ?_) | (refine h_store ?_; first | refine b_store_box ?_ | refine b_store_one ?_ | refine b_store_row ?_) | (refine h_idxP ?_; first | refine b_idxP_p ?_ | refine b_idxP_q ?_) | (refine h_mslice ?_; refine b_mslice (fun nb_ hnb_ => ?_)) | (refine h_bslice ?_; refine b_bslice (fun nb_ hnb_ => ?_)) | refine a_conv ?_ | refine a_convS ?_ | refine a_alloc (fun nb_ hnb_ => ?_) | refine b_build ?_ | refine b_fld ?_ | refine a_join ?_ | refine a_lenS ?_ | refine a_tt ?_)
  all_goals
    subst hQ
    refine ⟨?_, rfl⟩
    simp_all [binS, tupV]
end Go.Proofs.Ytadjimfkfmojkaa.Am

end
section
namespace Go.Proofs.Ytadjimfkfmojkaa.Am
set_option maxRecDepth 100000
set_option linter.unusedSimpArgs false
set_option linter.unusedVariables false
set_option linter.unusedSectionVars false
/-- a closure is handed one block -/
theorem call_cs {P : Program} {KL : AV → SH → Prop} {g : FuncId} {cs args : List AV} {L L' : SH} {b : Nat} {x : Blk} {R : AV → SH → Prop} (h : CallA P g (args ++ cs) [(b, x)] R) (hd : Del b x L L') (hk : ∀ v K, R v K → KL v (K ++ L')) : W.call P (.fn g cs) args L KL :=
  ⟨h.frame (K := [(b, x)]) (R := L') hd.perm fun u K hu => hk u K hu⟩
def rowT (s : TsD) (o t : Option Nat) : List AV := [.int .i64 s.pc, slotL o s.regs.length, slotL t s.taint.length, .int .i64 s.ev]
def StT (s : TsD) (bs : Nat) (o t : Option Nat) : SH := (bs, ⟨4, [rowT s o t]⟩) :: (slotB o 1 (s.regs.map intE) ++ slotB t 1 (s.taint.map lstE))
def ResE (r : Option TsD) (bs : Nat) (o t : Option Nat) (v : AV) (L : SH) : Prop :=
  match r with
  | none => v = .bool false
  | some s2 => v = .bool true ∧ L = StT s2 bs o t
theorem ex_ok (s : TsD) (bs : Nat) (o t : Option Nat) (ho : o = none → s.regs = []) (r : Int) : CallA Try.prog 69 [.int .i64 r, .pptr [[.ptr bs 0 0]] 0 0] [(bs, ⟨4, [rowT s o t]⟩)] fun v L => v = .bool (s.has r) ∧ L = [(bs, ⟨4, [rowT s o t]⟩)] := by
  refine silent_execute_1_ok _ _ _ _ ?_
  unfold silent_execute_1_w
  generalize hQ : (fun (v : AV) (L : SH) => v = .bool (s.has r) ∧ L = [(bs, (⟨4, [rowT s o t]⟩ : Blk))]) = Q
  cases o with
  | none =>
    have h0 := ho rfl
    unfold rowT at hQ ⊢
    dsimp only [slotL] at hQ ⊢
    repeat' (first | (refine h_load1 ?_; first | refine b_load_q ?_ | refine b_load_i ?_ | refine b_load_p ?_) | (refine h_faddr ?_; first | refine a_faddr_q ?_ | refine a_faddr_p ?_) | (refine h_bin ?_; first | refine a_eql ?_ | refine a_lss ?_ | refine a_neq ?_ | refine a_geq ?_ | refine a_gtr ?_ | refine a_leq ?_ | refine a_add ?_ | refine a_sub ?_ | refine a_mul ?_ | refine a_eqs ?_ | refine a_nes ?_ | refine b_rem ?_ | refine b_quo ?_) | (refine h_cond ?_; first | refine b_cond_t ?_ | refine b_cond_f ?_ | refine a_cond (fun h => ?_) (fun h => ?_)) | (refine h_idx ?_; first | refine b_idx_n ?_ | refine b_idx_l ?_ | refine b_idx_i ?_ | refine b_idx_sn ?_ | refine b_idx_s ?_) | (refine h_row ?_; first | refine b_row_q ?_ | refine b_row_i ?_ | refine b_row_p ?_) | (refine h_len ?_; first | refine a_len_m ?_ | refine a_len_l ?_ | refine a_len_s ?_ | refine a_len_n ?_ | refine a_len_e ?_) | (refine h_ext ?_; refine b_ext ?_) | (refine h_calm ?_; refine b_calm ?_) | (refine h_note ?_; refine a_note ?_) | (refine h_pick ?_; first | refine b_pick_t ?_ | refine b_pick_f ?_) | (refine h_grd ?_; first | refine b_grd_y ?_ | refine b_grd_n ?_ | refine a_grd_u ?_ | refine a_grd_t (fun h => ?_) (fun h => ?_) | refine a_grd_f (fun h => ?_) (fun h => ?_)) | (refine h_dgrd ?_; first | refine b_dgrd_y ?_ | refine b_dgrd_n ?_ | refine a_dgrd_u ?_ | refine a_dgrd_t (fun h => ?_) (fun h => ?_) | refine a_dgrd_f (fun h => ?_) (fun h => ?_)) | (refine h_nilchk ?_; first | refine a_nil_p ?_ | refine a_nil_q ?_ | refine a_nil_f ?_) | refine a_mark ?_ | refine a_dmark ?_ | (refine h_un ?_; first | refine a_not ?_ | refine a_neg ?_) | (refine h_box ?_; refine b_box (fun nb_ hnb_ => ?_)) | (refine h_frz1 ?_; first | refine b_frz_p ?_ | refine b_frz_s ?_) | (refine h_store ?_; first | refine b_store_box ?_ | refine b_store_one ?_ | refine b_store_row ?_) | (refine h_idxP ?_; first | refine b_idxP_p ?_ | refine b_idxP_q ?_) | (refine h_mslice ?_; refine b_mslice (fun nb_ hnb_ => ?_)) | (refine h_bslice ?_; refine b_bslice (fun nb_ hnb_ => ?_)) | refine a_conv ?_ | refine a_convS ?_ | refine a_alloc (fun nb_ hnb_ => ?_) | refine b_build ?_ | refine b_fld ?_ | refine a_join ?_ | refine a_lenS ?_ | refine a_tt ?_)
    all_goals
      subst hQ
      refine ⟨?_, rfl⟩
      simp_all [TsD.has, inB] <;> omega
  | some b =>
    unfold rowT at hQ ⊢
    dsimp only [slotL] at hQ ⊢
    repeat' (first | (refine h_load1 ?_; first | refine b_load_q ?_ | refine b_load_i ?_ | refine b_load_p ?_) | (refine h_faddr ?_; first | refine a_faddr_q ?_ | refine a_faddr_p ?_) | (refine h_bin ?_; first | refine a_eql ?_ | refine a_lss ?_ | refine a_neq ?_ | refine a_geq ?_ | refine a_gtr ?_ | refine a_leq ?_ | refine a_add ?_ | refine a_sub ?_ | refine a_mul ?_ | refine a_eqs ?_ | refine a_nes ?_ | refine b_rem ?_ | refine b_quo ?_) | (refine h_cond ?_; first | refine b_cond_t ?_ | refine b_cond_f ?_ | refine a_cond (fun h => ?_) (fun h => ?_)) | (refine h_idx ?_; first | refine b_idx_n ?_ | refine b_idx_l ?_ | refine b_idx_i ?_ | refine b_idx_sn ?_ | refine b_idx_s ?_) | (refine h_row ?_; first | refine b_row_q ?_ | refine b_row_i ?_ | refine b_row_p ?_) | (refine h_len ?_; first | refine a_len_m ?_ | refine a_len_l ?_ | refine a_len_s ?_ | refine a_len_n ?_ | refine a_len_e ?_) | (refine h_ext ?_; refine b_ext ?_) | (refine h_calm ?_; refine b_calm ?_) | (refine h_note ?_; refine a_note ?_) | (refine h_pick ?_; first | refine b_pick_t ?_ | refine b_pick_f ?_) | (refine h_grd ?_; first | refine b_grd_y ?_ | refine b_grd_n ?_ | refine a_grd_u ?_ | refine a_grd_t (fun h => ?_) (fun h => ?_) | refine a_grd_f (fun h => ?_) (fun h => ?_)) | (refine h_dgrd ?_; first | refine b_dgrd_y ?_ | refine b_dgrd_n ?_ | refine a_dgrd_u ?_ | refine a_dgrd_t (fun h => ?_) (fun h => ?_) | refine a_dgrd_f (fun h => ?_) (fun h => ?_)) | (refine h_nilchk ?_; first | refine a_nil_p ?_ | refine a_nil_q ?_ | refine a_nil_f ?_) | refine a_mark ?_ | refine a_dmark ?_ | (refine h_un ?_; first | refine a_not ?_ | refine a_neg ?_) | (refine h_box ?_; refine b_box (fun nb_ hnb_ => ?_)) | (refine h_frz1 ?_; first | refine b_frz_p ?_ | refine b_frz_s ?_) | (refine h_store ?_; first | refine b_store_box ?_ | refine b_store_one ?_ | refine b_store_row ?_) | (refine h_idxP ?_; first | refine b_idxP_p ?_ | refine b_idxP_q ?_) | (refine h_mslice ?_; refine b_mslice (fun nb_ hnb_ => ?_)) | (refine h_bslice ?_; refine b_bslice (fun nb_ hnb_ => ?_)) | refine a_conv ?_ | refine a_convS ?_ | refine a_alloc (fun nb_ hnb_ => ?_) | refine b_build ?_ | refine b_fld ?_ | refine a_join ?_ | refine a_lenS ?_ | refine a_tt ?_)
    all_goals
      subst hQ
      refine ⟨?_, rfl⟩
      simp_all [TsD.has, inB] <;> omega
theorem has_iff {s : TsD} {r : Int} : s.has r = true ↔ ∃ k : Nat, r = k ∧ k < s.regs.length := by
  unfold TsD.has
  rw [inB_iff]
  exact ⟨fun ⟨h1, h2⟩ => ⟨r.toNat, by omega, by omega⟩, fun ⟨k, h1, h2⟩ => by omega⟩
theorem some_of {o : Option Nat} {α : Type} {l : List α} {k : Nat} (h : o = none → l = []) (hk : k < l.length) : ∃ b, o = some b := by
  cases o with
  | none => rw [h rfl] at hk; simp at hk
  | some b => exact ⟨b, rfl⟩
section
variable (s : TsD) (bs : Nat) (o t : Option Nat) (ho : o = none → s.regs = []) (ht : t = none → s.taint = []) (hlen : s.taint.length = s.regs.length) (hsm : s.regs.length < 2 ^ 40) (hsh : ∀ l ∈ s.taint, l.length ≤ 2 ^ 30) (ia ib ic n site : Int)
include ho ht hlen hsm hsh
theorem exec_5 : CallA Try.prog 43 [.ptr bs 0 0, .agg (InD.mk 5 ia ib ic n site).enc] (StT s bs o t) (ResE (stepS ⟨5, ia, ib, ic, n, site⟩ s) bs o t) := by
  refine silent_execute_ok _ _ _ _ ?_
  unfold silent_execute_w
  generalize hQ : ResE (stepS ⟨5, ia, ib, ic, n, site⟩ s) bs o t = Q
  unfold StT
  repeat' (first | (refine h_load1 ?_; first | refine b_load_q ?_ | refine b_load_i ?_ | refine b_load_p ?_) | (refine h_faddr ?_; first | refine a_faddr_q ?_ | refine a_faddr_p ?_) | (refine h_bin ?_; first | refine a_eql ?_ | refine a_lss ?_ | refine a_neq ?_ | refine a_geq ?_ | refine a_gtr ?_ | refine a_leq ?_ | refine a_add ?_ | refine a_sub ?_ | refine a_mul ?_ | refine a_eqs ?_ | refine a_nes ?_ | refine b_rem ?_ | refine b_quo ?_) | (refine h_cond ?_; first | refine b_cond_t ?_ | refine b_cond_f ?_ | refine a_cond (fun h => ?_) (fun h => ?_)) | (refine h_idx ?_; first | refine b_idx_n ?_ | refine b_idx_l ?_ | refine b_idx_i ?_ | refine b_idx_sn ?_ | refine b_idx_s ?_) | (refine h_row ?_; first | refine b_row_q ?_ | refine b_row_i ?_ | refine b_row_p ?_) | (refine h_len ?_; first | refine a_len_m ?_ | refine a_len_l ?_ | refine a_len_s ?_ | refine a_len_n ?_ | refine a_len_e ?_) | (refine h_ext ?_; refine b_ext ?_) | (refine h_calm ?_; refine b_calm ?_) | (refine h_note ?_; refine a_note ?_) | (refine h_pick ?_; first | refine b_pick_t ?_ | refine b_pick_f ?_) | (refine h_grd ?_; first | refine b_grd_y ?_ | refine b_grd_n ?_ | refine a_grd_u ?_ | refine a_grd_t (fun h => ?_) (fun h => ?_) | refine a_grd_f (fun h => ?_) (fun h => ?_)) | (refine h_dgrd ?_; first | refine b_dgrd_y ?_ | refine b_dgrd_n ?_ | refine a_dgrd_u ?_ | refine a_dgrd_t (fun h => ?_) (fun h => ?_) | refine a_dgrd_f (fun h => ?_) (fun h => ?_)) | (refine h_nilchk ?_; first | refine a_nil_p ?_ | refine a_nil_q ?_ | refine a_nil_f ?_) | refine a_mark ?_ | refine a_dmark ?_ | (refine h_un ?_; first | refine a_not ?_ | refine a_neg ?_) | (refine h_box ?_; refine b_box (fun nb_ hnb_ => ?_)) | (refine h_frz1 ?_; first | refine b_frz_p ?_ | refine b_frz_s ?_) | (refine h_store ?_; first | refine b_store_box ?_ | refine b_store_one ?_ | refine b_store_row ?_) | (refine h_idxP ?_; first | refine b_idxP_p ?_ | refine b_idxP_q ?_) | (refine h_mslice ?_; refine b_mslice (fun nb_ hnb_ => ?_)) | (refine h_bslice ?_; refine b_bslice (fun nb_ hnb_ => ?_)) | refine a_conv ?_ | refine a_convS ?_ | refine a_alloc (fun nb_ hnb_ => ?_) | refine b_build ?_ | refine b_fld ?_ | refine a_join ?_ | refine a_lenS ?_ | refine a_tt ?_)
  subst hQ
  exact ⟨rfl, rfl⟩
theorem exec_1 : CallA Try.prog 43 [.ptr bs 0 0, .agg (InD.mk 1 ia ib ic n site).enc] (StT s bs o t) (ResE (stepS ⟨1, ia, ib, ic, n, site⟩ s) bs o t) := by
  have hex := fun r => ex_ok s bs o t ho r
  refine CallA.fz (silent_execute_ok _ _ _ _ ?_)
  unfold silent_execute_w
  generalize hQ : (fun (v : AV) (L : SH) => ∃ v2 L2, FzS [v] L [v2] L2 ∧ ResE (stepS ⟨1, ia, ib, ic, n, site⟩ s) bs o t v2 L2) = Q
  cases ha : s.has ia with
  | false =>
    have e : stepS ⟨1, ia, ib, ic, n, site⟩ s = none := by simp [stepS, ha]
    unfold StT
    repeat' (first | (refine h_load1 ?_; first | refine b_load_q ?_ | refine b_load_i ?_ | refine b_load_p ?_) | (refine h_faddr ?_; first | refine a_faddr_q ?_ | refine a_faddr_p ?_) | (refine h_bin ?_; first | refine a_eql ?_ | refine a_lss ?_ | refine a_neq ?_ | refine a_geq ?_ | refine a_gtr ?_ | refine a_leq ?_ | refine a_add ?_ | refine a_sub ?_ | refine a_mul ?_ | refine a_eqs ?_ | refine a_nes ?_ | refine b_rem ?_ | refine b_quo ?_) | (refine h_cond ?_; first | refine b_cond_t ?_ | refine b_cond_f ?_ | refine a_cond (fun h => ?_) (fun h => ?_)) | (refine h_idx ?_; first | refine b_idx_n ?_ | refine b_idx_l ?_ | refine b_idx_i ?_ | refine b_idx_sn ?_ | refine b_idx_s ?_) | (refine h_row ?_; first | refine b_row_q ?_ | refine b_row_i ?_ | refine b_row_p ?_) | (refine h_len ?_; first | refine a_len_m ?_ | refine a_len_l ?_ | refine a_len_s ?_ | refine a_len_n ?_ | refine a_len_e ?_) | (refine h_ext ?_; refine b_ext ?_) | (refine h_calm ?_; refine b_calm ?_) | (refine h_note ?_; refine a_note ?_) | (refine h_pick ?_; first | refine b_pick_t ?_ | refine b_pick_f ?_) | (refine h_grd ?_; first | refine b_grd_y ?_ | refine b_grd_n ?_ | refine a_grd_u ?_ | refine a_grd_t (fun h => ?_) (fun h => ?_) | refine a_grd_f (fun h => ?_) (fun h => ?_)) | (refine h_dgrd ?_; first | refine b_dgrd_y ?_ | refine b_dgrd_n ?_ | refine a_dgrd_u ?_ | refine a_dgrd_t (fun h => ?_) (fun h => ?_) | refine a_dgrd_f (fun h => ?_) (fun h => ?_)) | (refine h_nilchk ?_; first | refine a_nil_p ?_ | refine a_nil_q ?_ | refine a_nil_f ?_) | refine a_mark ?_ | refine a_dmark ?_ | (refine call_cs (hex _) (.here _) ?_; rintro _ _ ⟨rfl, rfl⟩; (try rw [ha])) | (refine h_un ?_; first | refine a_not ?_ | refine a_neg ?_) | (refine h_box ?_; refine b_box (fun nb_ hnb_ => ?_)) | (refine h_frz1 ?_; first | refine b_frz_p ?_ | refine b_frz_s ?_) | (refine h_store ?_; first | refine b_store_box ?_ | refine b_store_one ?_ | refine b_store_row ?_) | (refine h_idxP ?_; first | refine b_idxP_p ?_ | refine b_idxP_q ?_) | (refine h_mslice ?_; refine b_mslice (fun nb_ hnb_ => ?_)) | (refine h_bslice ?_; refine b_bslice (fun nb_ hnb_ => ?_)) | refine a_conv ?_ | refine a_convS ?_ | refine a_alloc (fun nb_ hnb_ => ?_) | refine b_build ?_ | refine b_fld ?_ | refine a_join ?_ | refine a_lenS ?_ | refine a_tt ?_)
    subst hQ
    rw [e]
    exact ⟨_, [], FzS.all (.refl _), rfl⟩
  | true =>
    have e : stepS ⟨1, ia, ib, ic, n, site⟩ s = some (s.put ia n []) := by simp [stepS, ha]
    rw [e] at hQ
    obtain ⟨a, rfl, hal⟩ := has_iff.1 ha
    obtain ⟨b1, rfl⟩ := some_of ho hal
    obtain ⟨b2, rfl⟩ := some_of ht (k := a) (by omega)
    have hal2 : a < s.taint.length := by omega
    have hxa := map_at (f := intE) hal
    have hya := map_at (f := lstE) hal2
    unfold StT
    dsimp only [slotB, List.cons_append, List.nil_append]
    repeat' (first | (refine h_load1 ?_; first | refine b_load_q ?_ | refine b_load_i ?_ | refine b_load_p ?_) | (refine h_faddr ?_; first | refine a_faddr_q ?_ | refine a_faddr_p ?_) | (refine h_bin ?_; first | refine a_eql ?_ | refine a_lss ?_ | refine a_neq ?_ | refine a_geq ?_ | refine a_gtr ?_ | refine a_leq ?_ | refine a_add ?_ | refine a_sub ?_ | refine a_mul ?_ | refine a_eqs ?_ | refine a_nes ?_ | refine b_rem ?_ | refine b_quo ?_) | (refine h_cond ?_; first | refine b_cond_t ?_ | refine b_cond_f ?_ | refine a_cond (fun h => ?_) (fun h => ?_)) | (refine h_idx ?_; first | refine b_idx_n ?_ | refine b_idx_l ?_ | refine b_idx_i ?_ | refine b_idx_sn ?_ | refine b_idx_s ?_) | (refine h_row ?_; first | refine b_row_q ?_ | refine b_row_i ?_ | refine b_row_p ?_) | (refine h_len ?_; first | refine a_len_m ?_ | refine a_len_l ?_ | refine a_len_s ?_ | refine a_len_n ?_ | refine a_len_e ?_) | (refine h_ext ?_; refine b_ext ?_) | (refine h_calm ?_; refine b_calm ?_) | (refine h_note ?_; refine a_note ?_) | (refine h_pick ?_; first | refine b_pick_t ?_ | refine b_pick_f ?_) | (refine h_grd ?_; first | refine b_grd_y ?_ | refine b_grd_n ?_ | refine a_grd_u ?_ | refine a_grd_t (fun h => ?_) (fun h => ?_) | refine a_grd_f (fun h => ?_) (fun h => ?_)) | (refine h_dgrd ?_; first | refine b_dgrd_y ?_ | refine b_dgrd_n ?_ | refine a_dgrd_u ?_ | refine a_dgrd_t (fun h => ?_) (fun h => ?_) | refine a_dgrd_f (fun h => ?_) (fun h => ?_)) | (refine h_nilchk ?_; first | refine a_nil_p ?_ | refine a_nil_q ?_ | refine a_nil_f ?_) | refine a_mark ?_ | refine a_dmark ?_ | (refine call_cs (hex _) (.here _) ?_; rintro _ _ ⟨rfl, rfl⟩; first | rw [ha]) | (refine h_un ?_; first | refine a_not ?_ | refine a_neg ?_) | (refine h_box ?_; refine b_box (fun nb_ hnb_ => ?_)) | (refine h_frz1 ?_; first | refine b_frz_p ?_ | refine b_frz_s ?_) | (refine h_store ?_; first | refine b_store_box ?_ | refine b_store_one ?_ | refine b_store_row ?_) | (refine h_idxP ?_; first | refine b_idxP_p ?_ | refine b_idxP_q ?_) | (refine h_mslice ?_; refine b_mslice (fun nb_ hnb_ => ?_)) | (refine h_bslice ?_; refine b_bslice (fun nb_ hnb_ => ?_)) | refine a_conv ?_ | refine a_convS ?_ | refine a_alloc (fun nb_ hnb_ => ?_) | refine b_build ?_ | refine b_fld ?_ | refine a_join ?_ | refine a_lenS ?_ | refine a_tt ?_)
    subst hQ
    refine ⟨_, _, ?_, rfl, rfl⟩
    have e1 : (s.put a n []).regs.map intE = (s.regs.map intE).set a [.int .i64 n] := by simp [TsD.put, List.map_set, intE]
    have e2 : (s.put a n []).taint.map lstE = (s.taint.map lstE).set a [.lst []] := by simp [TsD.put, List.map_set, lstE]
    have e3 : rowT (s.put a n []) (some b1) (some b2) = [.int .i64 (IntKind.i64.wrap (s.pc + 1)), .sl b1 0 s.regs.length, .sl b2 0 s.taint.length, .int .i64 s.ev] := by simp [rowT, TsD.put, slotL]
    unfold StT
    rw [e1, e2, e3]
    dsimp only [slotB, List.cons_append, List.nil_append]
    refine FzS.rowA (K := []) (A := [(bs, _), (b1, _)]) (b := b2) (R := []) (rows := (s.taint.map lstE).set a [.nils]) (rows' := (s.taint.map lstE).set a [.lst []]) (by repeat constructor) (by simp) (fun j r r' q1 q2 => ?_) rfl
    rw [List.getElem?_set] at q1 q2
    by_cases hj : a = j
    · rw [if_pos hj] at q1 q2
      rw [if_pos (by simp; omega)] at q1 q2
      cases q1; cases q2
      exact .cons .nils .nil
    · rw [if_neg hj] at q1 q2
      rw [q1] at q2; cases q2
      exact FzL.refl _ _
theorem exec_2 : CallA Try.prog 43 [.ptr bs 0 0, .agg (InD.mk 2 ia ib ic n site).enc] (StT s bs o t) (ResE (stepS ⟨2, ia, ib, ic, n, site⟩ s) bs o t) := by
  have hex := fun r => ex_ok s bs o t ho r
  refine silent_execute_ok _ _ _ _ ?_
  unfold silent_execute_w
  generalize hQ : ResE (stepS ⟨2, ia, ib, ic, n, site⟩ s) bs o t = Q
  cases ha : s.has ia with
  | false =>
    have e : stepS ⟨2, ia, ib, ic, n, site⟩ s = none := by simp [stepS, ha]
    unfold StT
    repeat' (first | (refine h_load1 ?_; first | refine b_load_q ?_ | refine b_load_i ?_ | refine b_load_p ?_) | (refine h_faddr ?_; first | refine a_faddr_q ?_ | refine a_faddr_p ?_) | (refine h_bin ?_; first | refine a_eql ?_ | refine a_lss ?_ | refine a_neq ?_ | refine a_geq ?_ | refine a_gtr ?_ | refine a_leq ?_ | refine a_add ?_ | refine a_sub ?_ | refine a_mul ?_ | refine a_eqs ?_ | refine a_nes ?_ | refine b_rem ?_ | refine b_quo ?_) | (refine h_cond ?_; first | refine b_cond_t ?_ | refine b_cond_f ?_ | refine a_cond (fun h => ?_) (fun h => ?_)) | (refine h_idx ?_; first | refine b_idx_n ?_ | refine b_idx_l ?_ | refine b_idx_i ?_ | refine b_idx_sn ?_ | refine b_idx_s ?_) | (refine h_row ?_; first | refine b_row_q ?_ | refine b_row_i ?_ | refine b_row_p ?_) | (refine h_len ?_; first | refine a_len_m ?_ | refine a_len_l ?_ | refine a_len_s ?_ | refine a_len_n ?_ | refine a_len_e ?_) | (refine h_ext ?_; refine b_ext ?_) | (refine h_calm ?_; refine b_calm ?_) | (refine h_note ?_; refine a_note ?_) | (refine h_pick ?_; first | refine b_pick_t ?_ | refine b_pick_f ?_) | (refine h_grd ?_; first | refine b_grd_y ?_ | refine b_grd_n ?_ | refine a_grd_u ?_ | refine a_grd_t (fun h => ?_) (fun h => ?_) | refine a_grd_f (fun h => ?_) (fun h => ?_)) | (refine h_dgrd ?_; first | refine b_dgrd_y ?_ | refine b_dgrd_n ?_ | refine a_dgrd_u ?_ | refine a_dgrd_t (fun h => ?_) (fun h => ?_) | refine a_dgrd_f (fun h => ?_) (fun h => ?_)) | (refine h_nilchk ?_; first | refine a_nil_p ?_ | refine a_nil_q ?_ | refine a_nil_f ?_) | refine a_mark ?_ | refine a_dmark ?_ | (refine call_cs (hex _) (.here _) ?_; rintro _ _ ⟨rfl, rfl⟩; first | rw [ha]) | (refine h_un ?_; first | refine a_not ?_ | refine a_neg ?_) | (refine h_box ?_; refine b_box (fun nb_ hnb_ => ?_)) | (refine h_frz1 ?_; first | refine b_frz_p ?_ | refine b_frz_s ?_) | (refine h_store ?_; first | refine b_store_box ?_ | refine b_store_one ?_ | refine b_store_row ?_) | (refine h_idxP ?_; first | refine b_idxP_p ?_ | refine b_idxP_q ?_) | (refine h_mslice ?_; refine b_mslice (fun nb_ hnb_ => ?_)) | (refine h_bslice ?_; refine b_bslice (fun nb_ hnb_ => ?_)) | refine a_conv ?_ | refine a_convS ?_ | refine a_alloc (fun nb_ hnb_ => ?_) | refine b_build ?_ | refine b_fld ?_ | refine a_join ?_ | refine a_lenS ?_ | refine a_tt ?_)
    subst hQ
    rw [e]; rfl
  | true =>
    cases hb : s.has ib with
    | false =>
      have e : stepS ⟨2, ia, ib, ic, n, site⟩ s = none := by simp [stepS, hb]
      unfold StT
      repeat' (first | (refine h_load1 ?_; first | refine b_load_q ?_ | refine b_load_i ?_ | refine b_load_p ?_) | (refine h_faddr ?_; first | refine a_faddr_q ?_ | refine a_faddr_p ?_) | (refine h_bin ?_; first | refine a_eql ?_ | refine a_lss ?_ | refine a_neq ?_ | refine a_geq ?_ | refine a_gtr ?_ | refine a_leq ?_ | refine a_add ?_ | refine a_sub ?_ | refine a_mul ?_ | refine a_eqs ?_ | refine a_nes ?_ | refine b_rem ?_ | refine b_quo ?_) | (refine h_cond ?_; first | refine b_cond_t ?_ | refine b_cond_f ?_ | refine a_cond (fun h => ?_) (fun h => ?_)) | (refine h_idx ?_; first | refine b_idx_n ?_ | refine b_idx_l ?_ | refine b_idx_i ?_ | refine b_idx_sn ?_ | refine b_idx_s ?_) | (refine h_row ?_; first | refine b_row_q ?_ | refine b_row_i ?_ | refine b_row_p ?_) | (refine h_len ?_; first | refine a_len_m ?_ | refine a_len_l ?_ | refine a_len_s ?_ | refine a_len_n ?_ | refine a_len_e ?_) | (refine h_ext ?_; refine b_ext ?_) | (refine h_calm ?_; refine b_calm ?_) | (refine h_note ?_; refine a_note ?_) | (refine h_pick ?_; first | refine b_pick_t ?_ | refine b_pick_f ?_) | (refine h_grd ?_; first | refine b_grd_y ?_ | refine b_grd_n ?_ | refine a_grd_u ?_ | refine a_grd_t (fun h => ?_) (fun h => ?_) | refine a_grd_f (fun h => ?_) (fun h => ?_)) | (refine h_dgrd ?_; first | refine b_dgrd_y ?_ | refine b_dgrd_n ?_ | refine a_dgrd_u ?_ | refine a_dgrd_t (fun h => ?_) (fun h => ?_) | refine a_dgrd_f (fun h => ?_) (fun h => ?_)) | (refine h_nilchk ?_; first | refine a_nil_p ?_ | refine a_nil_q ?_ | refine a_nil_f ?_) | refine a_mark ?_ | refine a_dmark ?_ | (refine call_cs (hex _) (.here _) ?_; rintro _ _ ⟨rfl, rfl⟩; first | rw [ha] | rw [hb]) | (refine h_un ?_; first | refine a_not ?_ | refine a_neg ?_) | (refine h_box ?_; refine b_box (fun nb_ hnb_ => ?_)) | (refine h_frz1 ?_; first | refine b_frz_p ?_ | refine b_frz_s ?_) | (refine h_store ?_; first | refine b_store_box ?_ | refine b_store_one ?_ | refine b_store_row ?_) | (refine h_idxP ?_; first | refine b_idxP_p ?_ | refine b_idxP_q ?_) | (refine h_mslice ?_; refine b_mslice (fun nb_ hnb_ => ?_)) | (refine h_bslice ?_; refine b_bslice (fun nb_ hnb_ => ?_)) | refine a_conv ?_ | refine a_convS ?_ | refine a_alloc (fun nb_ hnb_ => ?_) | refine b_build ?_ | refine b_fld ?_ | refine a_join ?_ | refine a_lenS ?_ | refine a_tt ?_)
      subst hQ
      rw [e]; rfl
    | true =>
      have e : stepS ⟨2, ia, ib, ic, n, site⟩ s = some (s.put ia (s.reg ib) (s.tnt ib)) := by simp [stepS, ha, hb]
      rw [e] at hQ
      obtain ⟨a, rfl, hal⟩ := has_iff.1 ha
      obtain ⟨b, rfl, hbl⟩ := has_iff.1 hb
      obtain ⟨b1, rfl⟩ := some_of ho hal
      obtain ⟨b2, rfl⟩ := some_of ht (k := a) (by omega)
      have hal2 : a < s.taint.length := by omega
      have hxa := map_at (f := intE) hal
      have hya := map_at (f := lstE) hal2
      have hbl2 : b < s.taint.length := by omega
      have hxb := map_at (f := intE) hbl
      have hyb := map_at (f := lstE) hbl2
      have hcl := cloneI_pure s.taint[b] (by have := hsh _ (List.getElem_mem hbl2); omega)
      unfold StT
      dsimp only [slotB, List.cons_append, List.nil_append]
      repeat' (first | (refine h_load1 ?_; first | refine b_load_q ?_ | refine b_load_i ?_ | refine b_load_p ?_) | (refine h_faddr ?_; first | refine a_faddr_q ?_ | refine a_faddr_p ?_) | (refine h_bin ?_; first | refine a_eql ?_ | refine a_lss ?_ | refine a_neq ?_ | refine a_geq ?_ | refine a_gtr ?_ | refine a_leq ?_ | refine a_add ?_ | refine a_sub ?_ | refine a_mul ?_ | refine a_eqs ?_ | refine a_nes ?_ | refine b_rem ?_ | refine b_quo ?_) | (refine h_cond ?_; first | refine b_cond_t ?_ | refine b_cond_f ?_ | refine a_cond (fun h => ?_) (fun h => ?_)) | (refine h_idx ?_; first | refine b_idx_n ?_ | refine b_idx_l ?_ | refine b_idx_i ?_ | refine b_idx_sn ?_ | refine b_idx_s ?_) | (refine h_row ?_; first | refine b_row_q ?_ | refine b_row_i ?_ | refine b_row_p ?_) | (refine h_len ?_; first | refine a_len_m ?_ | refine a_len_l ?_ | refine a_len_s ?_ | refine a_len_n ?_ | refine a_len_e ?_) | (refine h_ext ?_; refine b_ext ?_) | (refine h_calm ?_; refine b_calm ?_) | (refine h_note ?_; refine a_note ?_) | (refine h_pick ?_; first | refine b_pick_t ?_ | refine b_pick_f ?_) | (refine h_grd ?_; first | refine b_grd_y ?_ | refine b_grd_n ?_ | refine a_grd_u ?_ | refine a_grd_t (fun h => ?_) (fun h => ?_) | refine a_grd_f (fun h => ?_) (fun h => ?_)) | (refine h_dgrd ?_; first | refine b_dgrd_y ?_ | refine b_dgrd_n ?_ | refine a_dgrd_u ?_ | refine a_dgrd_t (fun h => ?_) (fun h => ?_) | refine a_dgrd_f (fun h => ?_) (fun h => ?_)) | (refine h_nilchk ?_; first | refine a_nil_p ?_ | refine a_nil_q ?_ | refine a_nil_f ?_) | refine a_mark ?_ | refine a_dmark ?_ | (refine call_cs (hex _) (.here _) ?_; rintro _ _ ⟨rfl, rfl⟩; first | rw [ha] | rw [hb]) | ((with_reducible refine h_fn 68 ?_); refine m_call (hcl) ?_) | ((with_reducible refine h_dfn 68 ?_); refine b_dcall (hcl) ?_) | (refine h_un ?_; first | refine a_not ?_ | refine a_neg ?_) | (refine h_box ?_; refine b_box (fun nb_ hnb_ => ?_)) | (refine h_frz1 ?_; first | refine b_frz_p ?_ | refine b_frz_s ?_) | (refine h_store ?_; first | refine b_store_box ?_ | refine b_store_one ?_ | refine b_store_row ?_) | (refine h_idxP ?_; first | refine b_idxP_p ?_ | refine b_idxP_q ?_) | (refine h_mslice ?_; refine b_mslice (fun nb_ hnb_ => ?_)) | (refine h_bslice ?_; refine b_bslice (fun nb_ hnb_ => ?_)) | refine a_conv ?_ | refine a_convS ?_ | refine a_alloc (fun nb_ hnb_ => ?_) | refine b_build ?_ | refine b_fld ?_ | refine a_join ?_ | refine a_lenS ?_ | refine a_tt ?_)
      subst hQ
      refine ⟨rfl, ?_⟩
      simp [StT, TsD.put, rowT, TsD.reg, TsD.tnt, slotB, List.getD, hbl, hbl2, List.map_set, intE, lstE]
theorem exec_3 : CallA Try.prog 43 [.ptr bs 0 0, .agg (InD.mk 3 ia ib ic n site).enc] (StT s bs o t) (ResE (stepS ⟨3, ia, ib, ic, n, site⟩ s) bs o t) := by
  have hex := fun r => ex_ok s bs o t ho r
  refine silent_execute_ok _ _ _ _ ?_
  unfold silent_execute_w
  generalize hQ : ResE (stepS ⟨3, ia, ib, ic, n, site⟩ s) bs o t = Q
  cases ha : s.has ia with
  | false =>
    have e : stepS ⟨3, ia, ib, ic, n, site⟩ s = none := by simp [stepS, ha]
    unfold StT
    repeat' (first | (refine h_load1 ?_; first | refine b_load_q ?_ | refine b_load_i ?_ | refine b_load_p ?_) | (refine h_faddr ?_; first | refine a_faddr_q ?_ | refine a_faddr_p ?_) | (refine h_bin ?_; first | refine a_eql ?_ | refine a_lss ?_ | refine a_neq ?_ | refine a_geq ?_ | refine a_gtr ?_ | refine a_leq ?_ | refine a_add ?_ | refine a_sub ?_ | refine a_mul ?_ | refine a_eqs ?_ | refine a_nes ?_ | refine b_rem ?_ | refine b_quo ?_) | (refine h_cond ?_; first | refine b_cond_t ?_ | refine b_cond_f ?_ | refine a_cond (fun h => ?_) (fun h => ?_)) | (refine h_idx ?_; first | refine b_idx_n ?_ | refine b_idx_l ?_ | refine b_idx_i ?_ | refine b_idx_sn ?_ | refine b_idx_s ?_) | (refine h_row ?_; first | refine b_row_q ?_ | refine b_row_i ?_ | refine b_row_p ?_) | (refine h_len ?_; first | refine a_len_m ?_ | refine a_len_l ?_ | refine a_len_s ?_ | refine a_len_n ?_ | refine a_len_e ?_) | (refine h_ext ?_; refine b_ext ?_) | (refine h_calm ?_; refine b_calm ?_) | (refine h_note ?_; refine a_note ?_) | (refine h_pick ?_; first | refine b_pick_t ?_ | refine b_pick_f ?_) | (refine h_grd ?_; first | refine b_grd_y ?_ | refine b_grd_n ?_ | refine a_grd_u ?_ | refine a_grd_t (fun h => ?_) (fun h => ?_) | refine a_grd_f (fun h => ?_) (fun h => ?_)) | (refine h_dgrd ?_; first | refine b_dgrd_y ?_ | refine b_dgrd_n ?_ | refine a_dgrd_u ?_ | refine a_dgrd_t (fun h => ?_) (fun h => ?_) | refine a_dgrd_f (fun h => ?_) (fun h => ?_)) | (refine h_nilchk ?_; first | refine a_nil_p ?_ | refine a_nil_q ?_ | refine a_nil_f ?_) | refine a_mark ?_ | refine a_dmark ?_ | (refine call_cs (hex _) (.here _) ?_; rintro _ _ ⟨rfl, rfl⟩; first | rw [ha]) | (refine h_un ?_; first | refine a_not ?_ | refine a_neg ?_) | (refine h_box ?_; refine b_box (fun nb_ hnb_ => ?_)) | (refine h_frz1 ?_; first | refine b_frz_p ?_ | refine b_frz_s ?_) | (refine h_store ?_; first | refine b_store_box ?_ | refine b_store_one ?_ | refine b_store_row ?_) | (refine h_idxP ?_; first | refine b_idxP_p ?_ | refine b_idxP_q ?_) | (refine h_mslice ?_; refine b_mslice (fun nb_ hnb_ => ?_)) | (refine h_bslice ?_; refine b_bslice (fun nb_ hnb_ => ?_)) | refine a_conv ?_ | refine a_convS ?_ | refine a_alloc (fun nb_ hnb_ => ?_) | refine b_build ?_ | refine b_fld ?_ | refine a_join ?_ | refine a_lenS ?_ | refine a_tt ?_)
    subst hQ
    rw [e]; rfl
  | true =>
    cases hb : s.has ib with
    | false =>
      have e : stepS ⟨3, ia, ib, ic, n, site⟩ s = none := by simp [stepS, hb]
      unfold StT
      repeat' (first | (refine h_load1 ?_; first | refine b_load_q ?_ | refine b_load_i ?_ | refine b_load_p ?_) | (refine h_faddr ?_; first | refine a_faddr_q ?_ | refine a_faddr_p ?_) | (refine h_bin ?_; first | refine a_eql ?_ | refine a_lss ?_ | refine a_neq ?_ | refine a_geq ?_ | refine a_gtr ?_ | refine a_leq ?_ | refine a_add ?_ | refine a_sub ?_ | refine a_mul ?_ | refine a_eqs ?_ | refine a_nes ?_ | refine b_rem ?_ | refine b_quo ?_) | (refine h_cond ?_; first | refine b_cond_t ?_ | refine b_cond_f ?_ | refine a_cond (fun h => ?_) (fun h => ?_)) | (refine h_idx ?_; first | refine b_idx_n ?_ | refine b_idx_l ?_ | refine b_idx_i ?_ | refine b_idx_sn ?_ | refine b_idx_s ?_) | (refine h_row ?_; first | refine b_row_q ?_ | refine b_row_i ?_ | refine b_row_p ?_) | (refine h_len ?_; first | refine a_len_m ?_ | refine a_len_l ?_ | refine a_len_s ?_ | refine a_len_n ?_ | refine a_len_e ?_) | (refine h_ext ?_; refine b_ext ?_) | (refine h_calm ?_; refine b_calm ?_) | (refine h_note ?_; refine a_note ?_) | (refine h_pick ?_; first | refine b_pick_t ?_ | refine b_pick_f ?_) | (refine h_grd ?_; first | refine b_grd_y ?_ | refine b_grd_n ?_ | refine a_grd_u ?_ | refine a_grd_t (fun h => ?_) (fun h => ?_) | refine a_grd_f (fun h => ?_) (fun h => ?_)) | (refine h_dgrd ?_; first | refine b_dgrd_y ?_ | refine b_dgrd_n ?_ | refine a_dgrd_u ?_ | refine a_dgrd_t (fun h => ?_) (fun h => ?_) | refine a_dgrd_f (fun h => ?_) (fun h => ?_)) | (refine h_nilchk ?_; first | refine a_nil_p ?_ | refine a_nil_q ?_ | refine a_nil_f ?_) | refine a_mark ?_ | refine a_dmark ?_ | (refine call_cs (hex _) (.here _) ?_; rintro _ _ ⟨rfl, rfl⟩; first | rw [ha] | rw [hb]) | (refine h_un ?_; first | refine a_not ?_ | refine a_neg ?_) | (refine h_box ?_; refine b_box (fun nb_ hnb_ => ?_)) | (refine h_frz1 ?_; first | refine b_frz_p ?_ | refine b_frz_s ?_) | (refine h_store ?_; first | refine b_store_box ?_ | refine b_store_one ?_ | refine b_store_row ?_) | (refine h_idxP ?_; first | refine b_idxP_p ?_ | refine b_idxP_q ?_) | (refine h_mslice ?_; refine b_mslice (fun nb_ hnb_ => ?_)) | (refine h_bslice ?_; refine b_bslice (fun nb_ hnb_ => ?_)) | refine a_conv ?_ | refine a_convS ?_ | refine a_alloc (fun nb_ hnb_ => ?_) | refine b_build ?_ | refine b_fld ?_ | refine a_join ?_ | refine a_lenS ?_ | refine a_tt ?_)
      subst hQ
      rw [e]; rfl
    | true =>
      have e : stepS ⟨3, ia, ib, ic, n, site⟩ s = if (unS n (s.reg ib)).2 then some (s.put ia (unS n (s.reg ib)).1 (s.tnt ib)) else none := by simp [stepS, ha, hb]
      rw [e] at hQ
      obtain ⟨a, rfl, hal⟩ := has_iff.1 ha
      obtain ⟨b, rfl, hbl⟩ := has_iff.1 hb
      obtain ⟨b1, rfl⟩ := some_of ho hal
      obtain ⟨b2, rfl⟩ := some_of ht (k := a) (by omega)
      have hal2 : a < s.taint.length := by omega
      have hxa := map_at (f := intE) hal
      have hya := map_at (f := lstE) hal2
      have hbl2 : b < s.taint.length := by omega
      have hxb := map_at (f := intE) hbl
      have hyb := map_at (f := lstE) hbl2
      have hcl := cloneI_pure s.taint[b] (by have := hsh _ (List.getElem_mem hbl2); omega)
      have hun := unary_ok n s.regs[b]
      have hrb : s.reg b = s.regs[b] := by simp [TsD.reg, List.getD, hbl]
      have htb : s.tnt b = s.taint[b] := by simp [TsD.tnt, List.getD, hbl2]
      rw [hrb, htb] at hQ
      generalize unS n s.regs[b] = p at hun hQ
      unfold tupV at hun
      unfold StT
      dsimp only [slotB, List.cons_append, List.nil_append]
      repeat' (first | (refine h_load1 ?_; first | refine b_load_q ?_ | refine b_load_i ?_ | refine b_load_p ?_) | (refine h_faddr ?_; first | refine a_faddr_q ?_ | refine a_faddr_p ?_) | (refine h_bin ?_; first | refine a_eql ?_ | refine a_lss ?_ | refine a_neq ?_ | refine a_geq ?_ | refine a_gtr ?_ | refine a_leq ?_ | refine a_add ?_ | refine a_sub ?_ | refine a_mul ?_ | refine a_eqs ?_ | refine a_nes ?_ | refine b_rem ?_ | refine b_quo ?_) | (refine h_cond ?_; first | refine b_cond_t ?_ | refine b_cond_f ?_ | refine a_cond (fun h => ?_) (fun h => ?_)) | (refine h_idx ?_; first | refine b_idx_n ?_ | refine b_idx_l ?_ | refine b_idx_i ?_ | refine b_idx_sn ?_ | refine b_idx_s ?_) | (refine h_row ?_; first | refine b_row_q ?_ | refine b_row_i ?_ | refine b_row_p ?_) | (refine h_len ?_; first | refine a_len_m ?_ | refine a_len_l ?_ | refine a_len_s ?_ | refine a_len_n ?_ | refine a_len_e ?_) | (refine h_ext ?_; refine b_ext ?_) | (refine h_calm ?_; refine b_calm ?_) | (refine h_note ?_; refine a_note ?_) | (refine h_pick ?_; first | refine b_pick_t ?_ | refine b_pick_f ?_) | (refine h_grd ?_; first | refine b_grd_y ?_ | refine b_grd_n ?_ | refine a_grd_u ?_ | refine a_grd_t (fun h => ?_) (fun h => ?_) | refine a_grd_f (fun h => ?_) (fun h => ?_)) | (refine h_dgrd ?_; first | refine b_dgrd_y ?_ | refine b_dgrd_n ?_ | refine a_dgrd_u ?_ | refine a_dgrd_t (fun h => ?_) (fun h => ?_) | refine a_dgrd_f (fun h => ?_) (fun h => ?_)) | (refine h_nilchk ?_; first | refine a_nil_p ?_ | refine a_nil_q ?_ | refine a_nil_f ?_) | refine a_mark ?_ | refine a_dmark ?_ | (refine call_cs (hex _) (.here _) ?_; rintro _ _ ⟨rfl, rfl⟩; first | rw [ha] | rw [hb]) | ((with_reducible refine h_fn 68 ?_); refine m_call (hcl) ?_) | ((with_reducible refine h_dfn 68 ?_); refine b_dcall (hcl) ?_) | ((with_reducible refine h_fn 70 ?_); refine m_call (hun) ?_) | ((with_reducible refine h_dfn 70 ?_); refine b_dcall (hun) ?_) | (refine h_un ?_; first | refine a_not ?_ | refine a_neg ?_) | (refine h_box ?_; refine b_box (fun nb_ hnb_ => ?_)) | (refine h_frz1 ?_; first | refine b_frz_p ?_ | refine b_frz_s ?_) | (refine h_store ?_; first | refine b_store_box ?_ | refine b_store_one ?_ | refine b_store_row ?_) | (refine h_idxP ?_; first | refine b_idxP_p ?_ | refine b_idxP_q ?_) | (refine h_mslice ?_; refine b_mslice (fun nb_ hnb_ => ?_)) | (refine h_bslice ?_; refine b_bslice (fun nb_ hnb_ => ?_)) | refine a_conv ?_ | refine a_convS ?_ | refine a_alloc (fun nb_ hnb_ => ?_) | refine b_build ?_ | refine b_fld ?_ | refine a_join ?_ | refine a_lenS ?_ | refine a_tt ?_)
      subst hQ
      unfold ResE
      cases hp : p.2 with
      | false => rfl
      | true =>
        refine ⟨rfl, ?_⟩
        simp [StT, TsD.put, rowT, slotB, List.map_set, intE, lstE]
theorem exec_4 : CallA Try.prog 43 [.ptr bs 0 0, .agg (InD.mk 4 ia ib ic n site).enc] (StT s bs o t) (ResE (stepS ⟨4, ia, ib, ic, n, site⟩ s) bs o t) := by
  have hex := fun r => ex_ok s bs o t ho r
  refine silent_execute_ok _ _ _ _ ?_
  unfold silent_execute_w
  generalize hQ : ResE (stepS ⟨4, ia, ib, ic, n, site⟩ s) bs o t = Q
  cases ha : s.has ia with
  | false =>
    have e : stepS ⟨4, ia, ib, ic, n, site⟩ s = none := by simp [stepS, ha]
    unfold StT
    repeat' (first | (refine h_load1 ?_; first | refine b_load_q ?_ | refine b_load_i ?_ | refine b_load_p ?_) | (refine h_faddr ?_; first | refine a_faddr_q ?_ | refine a_faddr_p ?_) | (refine h_bin ?_; first | refine a_eql ?_ | refine a_lss ?_ | refine a_neq ?_ | refine a_geq ?_ | refine a_gtr ?_ | refine a_leq ?_ | refine a_add ?_ | refine a_sub ?_ | refine a_mul ?_ | refine a_eqs ?_ | refine a_nes ?_ | refine b_rem ?_ | refine b_quo ?_) | (refine h_cond ?_; first | refine b_cond_t ?_ | refine b_cond_f ?_ | refine a_cond (fun h => ?_) (fun h => ?_)) | (refine h_idx ?_; first | refine b_idx_n ?_ | refine b_idx_l ?_ | refine b_idx_i ?_ | refine b_idx_sn ?_ | refine b_idx_s ?_) | (refine h_row ?_; first | refine b_row_q ?_ | refine b_row_i ?_ | refine b_row_p ?_) | (refine h_len ?_; first | refine a_len_m ?_ | refine a_len_l ?_ | refine a_len_s ?_ | refine a_len_n ?_ | refine a_len_e ?_) | (refine h_ext ?_; refine b_ext ?_) | (refine h_calm ?_; refine b_calm ?_) | (refine h_note ?_; refine a_note ?_) | (refine h_pick ?_; first | refine b_pick_t ?_ | refine b_pick_f ?_) | (refine h_grd ?_; first | refine b_grd_y ?_ | refine b_grd_n ?_ | refine a_grd_u ?_ | refine a_grd_t (fun h => ?_) (fun h => ?_) | refine a_grd_f (fun h => ?_) (fun h => ?_)) | (refine h_dgrd ?_; first | refine b_dgrd_y ?_ | refine b_dgrd_n ?_ | refine a_dgrd_u ?_ | refine a_dgrd_t (fun h => ?_) (fun h => ?_) | refine a_dgrd_f (fun h => ?_) (fun h => ?_)) | (refine h_nilchk ?_; first | refine a_nil_p ?_ | refine a_nil_q ?_ | refine a_nil_f ?_) | refine a_mark ?_ | refine a_dmark ?_ | (refine call_cs (hex _) (.here _) ?_; rintro _ _ ⟨rfl, rfl⟩; first | rw [ha]) | (refine h_un ?_; first | refine a_not ?_ | refine a_neg ?_) | (refine h_box ?_; refine b_box (fun nb_ hnb_ => ?_)) | (refine h_frz1 ?_; first | refine b_frz_p ?_ | refine b_frz_s ?_) | (refine h_store ?_; first | refine b_store_box ?_ | refine b_store_one ?_ | refine b_store_row ?_) | (refine h_idxP ?_; first | refine b_idxP_p ?_ | refine b_idxP_q ?_) | (refine h_mslice ?_; refine b_mslice (fun nb_ hnb_ => ?_)) | (refine h_bslice ?_; refine b_bslice (fun nb_ hnb_ => ?_)) | refine a_conv ?_ | refine a_convS ?_ | refine a_alloc (fun nb_ hnb_ => ?_) | refine b_build ?_ | refine b_fld ?_ | refine a_join ?_ | refine a_lenS ?_ | refine a_tt ?_)
    subst hQ
    rw [e]; rfl
  | true =>
    cases hb : s.has ib with
    | false =>
      have e : stepS ⟨4, ia, ib, ic, n, site⟩ s = none := by simp [stepS, hb]
      unfold StT
      repeat' (first | (refine h_load1 ?_; first | refine b_load_q ?_ | refine b_load_i ?_ | refine b_load_p ?_) | (refine h_faddr ?_; first | refine a_faddr_q ?_ | refine a_faddr_p ?_) | (refine h_bin ?_; first | refine a_eql ?_ | refine a_lss ?_ | refine a_neq ?_ | refine a_geq ?_ | refine a_gtr ?_ | refine a_leq ?_ | refine a_add ?_ | refine a_sub ?_ | refine a_mul ?_ | refine a_eqs ?_ | refine a_nes ?_ | refine b_rem ?_ | refine b_quo ?_) | (refine h_cond ?_; first | refine b_cond_t ?_ | refine b_cond_f ?_ | refine a_cond (fun h => ?_) (fun h => ?_)) | (refine h_idx ?_; first | refine b_idx_n ?_ | refine b_idx_l ?_ | refine b_idx_i ?_ | refine b_idx_sn ?_ | refine b_idx_s ?_) | (refine h_row ?_; first | refine b_row_q ?_ | refine b_row_i ?_ | refine b_row_p ?_) | (refine h_len ?_; first | refine a_len_m ?_ | refine a_len_l ?_ | refine a_len_s ?_ | refine a_len_n ?_ | refine a_len_e ?_) | (refine h_ext ?_; refine b_ext ?_) | (refine h_calm ?_; refine b_calm ?_) | (refine h_note ?_; refine a_note ?_) | (refine h_pick ?_; first | refine b_pick_t ?_ | refine b_pick_f ?_) | (refine h_grd ?_; first | refine b_grd_y ?_ | refine b_grd_n ?_ | refine a_grd_u ?_ | refine a_grd_t (fun h => ?_) (fun h => ?_) | refine a_grd_f (fun h => ?_) (fun h => ?_)) | (refine h_dgrd ?_; first | refine b_dgrd_y ?_ | refine b_dgrd_n ?_ | refine a_dgrd_u ?_ | refine a_dgrd_t (fun h => ?_) (fun h => ?_) | refine a_dgrd_f (fun h => ?_) (fun h => ?_)) | (refine h_nilchk ?_; first | refine a_nil_p ?_ | refine a_nil_q ?_ | refine a_nil_f ?_) | refine a_mark ?_ | refine a_dmark ?_ | (refine call_cs (hex _) (.here _) ?_; rintro _ _ ⟨rfl, rfl⟩; first | rw [ha] | rw [hb]) | (refine h_un ?_; first | refine a_not ?_ | refine a_neg ?_) | (refine h_box ?_; refine b_box (fun nb_ hnb_ => ?_)) | (refine h_frz1 ?_; first | refine b_frz_p ?_ | refine b_frz_s ?_) | (refine h_store ?_; first | refine b_store_box ?_ | refine b_store_one ?_ | refine b_store_row ?_) | (refine h_idxP ?_; first | refine b_idxP_p ?_ | refine b_idxP_q ?_) | (refine h_mslice ?_; refine b_mslice (fun nb_ hnb_ => ?_)) | (refine h_bslice ?_; refine b_bslice (fun nb_ hnb_ => ?_)) | refine a_conv ?_ | refine a_convS ?_ | refine a_alloc (fun nb_ hnb_ => ?_) | refine b_build ?_ | refine b_fld ?_ | refine a_join ?_ | refine a_lenS ?_ | refine a_tt ?_)
      subst hQ
      rw [e]; rfl
    | true =>
      cases hc : s.has ic with
      | false =>
        have e : stepS ⟨4, ia, ib, ic, n, site⟩ s = none := by simp [stepS, hc]
        unfold StT
        repeat' (first | (refine h_load1 ?_; first | refine b_load_q ?_ | refine b_load_i ?_ | refine b_load_p ?_) | (refine h_faddr ?_; first | refine a_faddr_q ?_ | refine a_faddr_p ?_) | (refine h_bin ?_; first | refine a_eql ?_ | refine a_lss ?_ | refine a_neq ?_ | refine a_geq ?_ | refine a_gtr ?_ | refine a_leq ?_ | refine a_add ?_ | refine a_sub ?_ | refine a_mul ?_ | refine a_eqs ?_ | refine a_nes ?_ | refine b_rem ?_ | refine b_quo ?_) | (refine h_cond ?_; first | refine b_cond_t ?_ | refine b_cond_f ?_ | refine a_cond (fun h => ?_) (fun h => ?_)) | (refine h_idx ?_; first | refine b_idx_n ?_ | refine b_idx_l ?_ | refine b_idx_i ?_ | refine b_idx_sn ?_ | refine b_idx_s ?_) | (refine h_row ?_; first | refine b_row_q ?_ | refine b_row_i ?_ | refine b_row_p ?_) | (refine h_len ?_; first | refine a_len_m ?_ | refine a_len_l ?_ | refine a_len_s ?_ | refine a_len_n ?_ | refine a_len_e ?_) | (refine h_ext ?_; refine b_ext ?_) | (refine h_calm ?_; refine b_calm ?_) | (refine h_note ?_; refine a_note ?_) | (refine h_pick ?_; first | refine b_pick_t ?_ | refine b_pick_f ?_) | (refine h_grd ?_; first | refine b_grd_y ?_ | refine b_grd_n ?_ | refine a_grd_u ?_ | refine a_grd_t (fun h => ?_) (fun h => ?_) | refine a_grd_f (fun h => ?_) (fun h => ?_)) | (refine h_dgrd ?_; first | refine b_dgrd_y ?_ | refine b_dgrd_n ?_ | refine a_dgrd_u ?_ | refine a_dgrd_t (fun h => ?_) (fun h => ?_) | refine a_dgrd_f (fun h => ?_) (fun h => ?_)) | (refine h_nilchk ?_; first | refine a_nil_p ?_ | refine a_nil_q ?_ | refine a_nil_f ?_) | refine a_mark ?_ | refine a_dmark ?_ | (refine call_cs (hex _) (.here _) ?_; rintro _ _ ⟨rfl, rfl⟩; first | rw [ha] | rw [hb] | rw [hc]) | (refine h_un ?_; first | refine a_not ?_ | refine a_neg ?_) | (refine h_box ?_; refine b_box (fun nb_ hnb_ => ?_)) | (refine h_frz1 ?_; first | refine b_frz_p ?_ | refine b_frz_s ?_) | (refine h_store ?_; first | refine b_store_box ?_ | refine b_store_one ?_ | refine b_store_row ?_) | (refine h_idxP ?_; first | refine b_idxP_p ?_ | refine b_idxP_q ?_) | (refine h_mslice ?_; refine b_mslice (fun nb_ hnb_ => ?_)) | (refine h_bslice ?_; refine b_bslice (fun nb_ hnb_ => ?_)) | refine a_conv ?_ | refine a_convS ?_ | refine a_alloc (fun nb_ hnb_ => ?_) | refine b_build ?_ | refine b_fld ?_ | refine a_join ?_ | refine a_lenS ?_ | refine a_tt ?_)
        subst hQ
        rw [e]; rfl
      | true =>
        have e : stepS ⟨4, ia, ib, ic, n, site⟩ s = if (binS n (s.reg ib) (s.reg ic)).2 then some (s.put ia (binS n (s.reg ib) (s.reg ic)).1 (asc (s.tnt ib ++ s.tnt ic))) else none := by simp [stepS, ha, hb, hc]
        rw [e] at hQ
        obtain ⟨a, rfl, hal⟩ := has_iff.1 ha
        obtain ⟨b, rfl, hbl⟩ := has_iff.1 hb
        obtain ⟨c, rfl, hcl⟩ := has_iff.1 hc
        obtain ⟨b1, rfl⟩ := some_of ho hal
        obtain ⟨b2, rfl⟩ := some_of ht (k := a) (by omega)
        have hal2 : a < s.taint.length := by omega
        have hxa := map_at (f := intE) hal
        have hya := map_at (f := lstE) hal2
        have hbl2 : b < s.taint.length := by omega
        have hxb := map_at (f := intE) hbl
        have hyb := map_at (f := lstE) hbl2
        have hcl2 : c < s.taint.length := by omega
        have hxc := map_at (f := intE) hcl
        have hyc := map_at (f := lstE) hcl2
        have hun2 := union_ok s.taint[b] s.taint[c] (hsh _ (List.getElem_mem hbl2)) (hsh _ (List.getElem_mem hcl2))
        have hun := binary_ok n s.regs[b] s.regs[c]
        have hrb : s.reg b = s.regs[b] := by simp [TsD.reg, List.getD, hbl]
        have htb : s.tnt b = s.taint[b] := by simp [TsD.tnt, List.getD, hbl2]
        have hrc : s.reg c = s.regs[c] := by simp [TsD.reg, List.getD, hcl]
        have htc : s.tnt c = s.taint[c] := by simp [TsD.tnt, List.getD, hcl2]
        rw [hrb, htb, hrc, htc] at hQ
        generalize binS n s.regs[b] s.regs[c] = p at hun hQ
        generalize asc (s.taint[b] ++ s.taint[c]) = u at hun2 hQ
        unfold tupV at hun
        unfold StT
        dsimp only [slotB, List.cons_append, List.nil_append]
        repeat' (first | (refine h_load1 ?_; first | refine b_load_q ?_ | refine b_load_i ?_ | refine b_load_p ?_) | (refine h_faddr ?_; first | refine a_faddr_q ?_ | refine a_faddr_p ?_) | (refine h_bin ?_; first | refine a_eql ?_ | refine a_lss ?_ | refine a_neq ?_ | refine a_geq ?_ | refine a_gtr ?_ | refine a_leq ?_ | refine a_add ?_ | refine a_sub ?_ | refine a_mul ?_ | refine a_eqs ?_ | refine a_nes ?_ | refine b_rem ?_ | refine b_quo ?_) | (refine h_cond ?_; first | refine b_cond_t ?_ | refine b_cond_f ?_ | refine a_cond (fun h => ?_) (fun h => ?_)) | (refine h_idx ?_; first | refine b_idx_n ?_ | refine b_idx_l ?_ | refine b_idx_i ?_ | refine b_idx_sn ?_ | refine b_idx_s ?_) | (refine h_row ?_; first | refine b_row_q ?_ | refine b_row_i ?_ | refine b_row_p ?_) | (refine h_len ?_; first | refine a_len_m ?_ | refine a_len_l ?_ | refine a_len_s ?_ | refine a_len_n ?_ | refine a_len_e ?_) | (refine h_ext ?_; refine b_ext ?_) | (refine h_calm ?_; refine b_calm ?_) | (refine h_note ?_; refine a_note ?_) | (refine h_pick ?_; first | refine b_pick_t ?_ | refine b_pick_f ?_) | (refine h_grd ?_; first | refine b_grd_y ?_ | refine b_grd_n ?_ | refine a_grd_u ?_ | refine a_grd_t (fun h => ?_) (fun h => ?_) | refine a_grd_f (fun h => ?_) (fun h => ?_)) | (refine h_dgrd ?_; first | refine b_dgrd_y ?_ | refine b_dgrd_n ?_ | refine a_dgrd_u ?_ | refine a_dgrd_t (fun h => ?_) (fun h => ?_) | refine a_dgrd_f (fun h => ?_) (fun h => ?_)) | (refine h_nilchk ?_; first | refine a_nil_p ?_ | refine a_nil_q ?_ | refine a_nil_f ?_) | refine a_mark ?_ | refine a_dmark ?_ | (refine call_cs (hex _) (.here _) ?_; rintro _ _ ⟨rfl, rfl⟩; first | rw [ha] | rw [hb] | rw [hc]) | ((with_reducible refine h_fn 14 ?_); refine m_call (hun2) ?_) | ((with_reducible refine h_dfn 14 ?_); refine b_dcall (hun2) ?_) | ((with_reducible refine h_fn 71 ?_); refine m_call (hun) ?_) | ((with_reducible refine h_dfn 71 ?_); refine b_dcall (hun) ?_) | (refine h_un ?_; first | refine a_not ?_ | refine a_neg ?_) | (refine h_box ?_; refine b_box (fun nb_ hnb_ => ?_)) | (refine h_frz1 ?_; first | refine b_frz_p ?_ | refine b_frz_s ?_) | (refine h_store ?_; first | refine b_store_box ?_ | refine b_store_one ?_ | refine b_store_row ?_) | (refine h_idxP ?_; first | refine b_idxP_p ?_ | refine b_idxP_q ?_) | (refine h_mslice ?_; refine b_mslice (fun nb_ hnb_ => ?_)) | (refine h_bslice ?_; refine b_bslice (fun nb_ hnb_ => ?_)) | refine a_conv ?_ | refine a_convS ?_ | refine a_alloc (fun nb_ hnb_ => ?_) | refine b_build ?_ | refine b_fld ?_ | refine a_join ?_ | refine a_lenS ?_ | refine a_tt ?_)
        subst hQ
        unfold ResE
        cases hp : p.2 with
        | false => rfl
        | true =>
          refine ⟨rfl, ?_⟩
          simp [StT, TsD.put, rowT, slotB, List.map_set, intE, lstE]
end
end Go.Proofs.Ytadjimfkfmojkaa.Am

end
section
namespace Go.Proofs.Ytadjimfkfmojkaa.Am
set_option maxRecDepth 100000
set_option linter.unusedSimpArgs false
set_option linter.unusedVariables false
set_option linter.unusedSectionVars false
theorem operator_ok (n : Int) : PureA Try.prog 74 [.int .i64 n] (.int .i64 (opS n)) := by
  refine ref07_operator_ok _ _ _ ?_
  unfold ref07_operator_w
  generalize hQ : (fun (u : AV) (K : SH) => u = AV.int .i64 (opS n) ∧ K = []) = Q
  repeat' (first | (refine h_load1 ?_; first | refine b_load_q ?_ | refine b_load_i ?_ | refine b_load_p ?_) | (refine h_faddr ?_; first | refine a_faddr_q ?_ | refine a_faddr_p ?_) | (refine h_bin ?_; first | refine a_eql ?_ | refine a_lss ?_ | refine a_neq ?_ | refine a_geq ?_ | refine a_gtr ?_ | refine a_leq ?_ | refine a_add ?_ | refine a_sub ?_ | refine a_mul ?_ | refine a_eqs ?_ | refine a_nes ?_ | refine b_rem ?_ | refine b_quo ?_) | (refine h_cond ?_; first | refine b_cond_t ?_ | refine b_cond_f ?_ | refine a_cond (fun h => ?_) (fun h => ?_)) | (refine h_idx ?_; first | refine b_idx_n ?_ | refine b_idx_l ?_ | refine b_idx_i ?_ | refine b_idx_sn ?_ | refine b_idx_s ?_) | (refine h_row ?_; first | refine b_row_q ?_ | refine b_row_i ?_ | refine b_row_p ?_) | (refine h_len ?_; first | refine a_len_m ?_ | refine a_len_l ?_ | refine a_len_s ?_ | refine a_len_n ?_ | refine a_len_e ?_) | (refine h_ext ?_; refine b_ext ?_) | (refine h_calm ?_; refine b_calm ?_) | (refine h_note ?_; refine a_note ?_) | (refine h_pick ?_; first | refine b_pick_t ?_ | refine b_pick_f ?_) | (refine h_grd ?_; first | refine b_grd_y ?_ | refine b_grd_n ?_ | refine a_grd_u ?_ | refine a_grd_t (fun h => ?_) (fun h => ?_) | refine a_grd_f (fun h => ?_) (fun h => ?_)) | (refine h_dgrd ?_; first | refine b_dgrd_y ?_ | refine b_dgrd_n ?_ | refine a_dgrd_u ?_ | refine a_dgrd_t (fun h => ?_) (fun h => ?_) | refine a_dgrd_f (fun h => ?_) (fun h => ?_)) | (refine h_nilchk ?_; first | refine a_nil_p ?_ | refine a_nil_q ?_ | refine a_nil_f ?_) | refine a_mark ?_ | refine a_dmark ?_ | (refine h_un ?_; first | refine a_not ?_ | refine a_neg ?_) | (refine h_box ?_; refine b_box (fun nb_ hnb_ => ?_)) | (refine h_frz1 ?_; first | refine b_frz_p ?_ | refine b_frz_s ?_) | (refine h_store ?_; first | refine b_store_box ?_ | refine b_store_one ?_ | refine b_store_row ?_) | (refine h_idxP ?_; first | refine b_idxP_p ?_ | refine b_idxP_q ?_) | (refine h_mslice ?_; refine b_mslice (fun nb_ hnb_ => ?_)) | (refine h_bslice ?_; refine b_bslice (fun nb_ hnb_ => ?_)) | refine a_conv ?_ | refine a_convS ?_ | refine a_alloc (fun nb_ hnb_ => ?_) | refine b_build ?_ | refine b_fld ?_ | refine a_join ?_ | refine a_lenS ?_ | refine a_tt ?_)
  all_goals
    subst hQ
    refine ⟨?_, rfl⟩
    simp_all [opS] <;> omega
def silS (op : Int) : Bool := decide (1 ≤ op) && decide (op ≤ 5)
theorem silent_ok (op : Int) : PureA Try.prog 45 [.int .i64 op] (.bool (silS op)) := by
  refine ref06_Silent_ok _ _ _ ?_
  unfold ref06_Silent_w
  generalize hQ : (fun (u : AV) (K : SH) => u = AV.bool (silS op) ∧ K = []) = Q
  repeat' (first | (refine h_load1 ?_; first | refine b_load_q ?_ | refine b_load_i ?_ | refine b_load_p ?_) | (refine h_faddr ?_; first | refine a_faddr_q ?_ | refine a_faddr_p ?_) | (refine h_bin ?_; first | refine a_eql ?_ | refine a_lss ?_ | refine a_neq ?_ | refine a_geq ?_ | refine a_gtr ?_ | refine a_leq ?_ | refine a_add ?_ | refine a_sub ?_ | refine a_mul ?_ | refine a_eqs ?_ | refine a_nes ?_ | refine b_rem ?_ | refine b_quo ?_) | (refine h_cond ?_; first | refine b_cond_t ?_ | refine b_cond_f ?_ | refine a_cond (fun h => ?_) (fun h => ?_)) | (refine h_idx ?_; first | refine b_idx_n ?_ | refine b_idx_l ?_ | refine b_idx_i ?_ | refine b_idx_sn ?_ | refine b_idx_s ?_) | (refine h_row ?_; first | refine b_row_q ?_ | refine b_row_i ?_ | refine b_row_p ?_) | (refine h_len ?_; first | refine a_len_m ?_ | refine a_len_l ?_ | refine a_len_s ?_ | refine a_len_n ?_ | refine a_len_e ?_) | (refine h_ext ?_; refine b_ext ?_) | (refine h_calm ?_; refine b_calm ?_) | (refine h_note ?_; refine a_note ?_) | (refine h_pick ?_; first | refine b_pick_t ?_ | refine b_pick_f ?_) | (refine h_grd ?_; first | refine b_grd_y ?_ | refine b_grd_n ?_ | refine a_grd_u ?_ | refine a_grd_t (fun h => ?_) (fun h => ?_) | refine a_grd_f (fun h => ?_) (fun h => ?_)) | (refine h_dgrd ?_; first | refine b_dgrd_y ?_ | refine b_dgrd_n ?_ | refine a_dgrd_u ?_ | refine a_dgrd_t (fun h => ?_) (fun h => ?_) | refine a_dgrd_f (fun h => ?_) (fun h => ?_)) | (refine h_nilchk ?_; first | refine a_nil_p ?_ | refine a_nil_q ?_ | refine a_nil_f ?_) | refine a_mark ?_ | refine a_dmark ?_ | (refine h_un ?_; first | refine a_not ?_ | refine a_neg ?_) | (refine h_box ?_; refine b_box (fun nb_ hnb_ => ?_)) | (refine h_frz1 ?_; first | refine b_frz_p ?_ | refine b_frz_s ?_) | (refine h_store ?_; first | refine b_store_box ?_ | refine b_store_one ?_ | refine b_store_row ?_) | (refine h_idxP ?_; first | refine b_idxP_p ?_ | refine b_idxP_q ?_) | (refine h_mslice ?_; refine b_mslice (fun nb_ hnb_ => ?_)) | (refine h_bslice ?_; refine b_bslice (fun nb_ hnb_ => ?_)) | refine a_conv ?_ | refine a_convS ?_ | refine a_alloc (fun nb_ hnb_ => ?_) | refine b_build ?_ | refine b_fld ?_ | refine a_join ?_ | refine a_lenS ?_ | refine a_tt ?_)
  all_goals
    subst hQ
    refine ⟨?_, rfl⟩
    simp_all [silS] <;> omega
section
variable (ia ib ic n site : Int)
theorem regs_1 : PureA Try.prog 72 [.agg (InD.mk 1 ia ib ic n site).enc] (.lst ([ia].map intE)) := by
  refine CallA.fz (ref06_Registers_ok _ _ _ ?_)
  unfold ref06_Registers_w
  generalize hQ : (fun (v : AV) (L : SH) => ∃ v2 L2, FzS [v] L [v2] L2 ∧ v2 = AV.lst ([ia].map intE) ∧ L2 = []) = Q
  repeat' (first | (refine h_load1 ?_; first | refine b_load_q ?_ | refine b_load_i ?_ | refine b_load_p ?_) | (refine h_faddr ?_; first | refine a_faddr_q ?_ | refine a_faddr_p ?_) | (refine h_bin ?_; first | refine a_eql ?_ | refine a_lss ?_ | refine a_neq ?_ | refine a_geq ?_ | refine a_gtr ?_ | refine a_leq ?_ | refine a_add ?_ | refine a_sub ?_ | refine a_mul ?_ | refine a_eqs ?_ | refine a_nes ?_ | refine b_rem ?_ | refine b_quo ?_) | (refine h_cond ?_; first | refine b_cond_t ?_ | refine b_cond_f ?_ | refine a_cond (fun h => ?_) (fun h => ?_)) | (refine h_idx ?_; first | refine b_idx_n ?_ | refine b_idx_l ?_ | refine b_idx_i ?_ | refine b_idx_sn ?_ | refine b_idx_s ?_) | (refine h_row ?_; first | refine b_row_q ?_ | refine b_row_i ?_ | refine b_row_p ?_) | (refine h_len ?_; first | refine a_len_m ?_ | refine a_len_l ?_ | refine a_len_s ?_ | refine a_len_n ?_ | refine a_len_e ?_) | (refine h_ext ?_; refine b_ext ?_) | (refine h_calm ?_; refine b_calm ?_) | (refine h_note ?_; refine a_note ?_) | (refine h_pick ?_; first | refine b_pick_t ?_ | refine b_pick_f ?_) | (refine h_grd ?_; first | refine b_grd_y ?_ | refine b_grd_n ?_ | refine a_grd_u ?_ | refine a_grd_t (fun h => ?_) (fun h => ?_) | refine a_grd_f (fun h => ?_) (fun h => ?_)) | (refine h_dgrd ?_; first | refine b_dgrd_y ?_ | refine b_dgrd_n ?_ | refine a_dgrd_u ?_ | refine a_dgrd_t (fun h => ?_) (fun h => ?_) | refine a_dgrd_f (fun h => ?_) (fun h => ?_)) | (refine h_nilchk ?_; first | refine a_nil_p ?_ | refine a_nil_q ?_ | refine a_nil_f ?_) | refine a_mark ?_ | refine a_dmark ?_ | (refine h_un ?_; first | refine a_not ?_ | refine a_neg ?_) | (refine h_box ?_; refine b_box (fun nb_ hnb_ => ?_)) | (refine h_frz1 ?_; first | refine b_frz_p ?_ | refine b_frz_s ?_) | (refine h_store ?_; first | refine b_store_box ?_ | refine b_store_one ?_ | refine b_store_row ?_) | (refine h_idxP ?_; first | refine b_idxP_p ?_ | refine b_idxP_q ?_) | (refine h_mslice ?_; refine b_mslice (fun nb_ hnb_ => ?_)) | (refine h_bslice ?_; refine b_bslice (fun nb_ hnb_ => ?_)) | refine a_conv ?_ | refine a_convS ?_ | refine a_alloc (fun nb_ hnb_ => ?_) | refine b_build ?_ | refine b_fld ?_ | refine a_join ?_ | refine a_lenS ?_ | refine a_tt ?_)
  subst hQ
  exact ⟨_, [], FzS.all (Fz.sls (l := [ia]) (f := intE) (by repeat constructor) rfl (by decide) rfl), rfl, rfl⟩
theorem regs_2 : PureA Try.prog 72 [.agg (InD.mk 2 ia ib ic n site).enc] (.lst ([ia, ib].map intE)) := by
  refine CallA.fz (ref06_Registers_ok _ _ _ ?_)
  unfold ref06_Registers_w
  generalize hQ : (fun (v : AV) (L : SH) => ∃ v2 L2, FzS [v] L [v2] L2 ∧ v2 = AV.lst ([ia, ib].map intE) ∧ L2 = []) = Q
  repeat' (first | (refine h_load1 ?_; first | refine b_load_q ?_ | refine b_load_i ?_ | refine b_load_p ?_) | (refine h_faddr ?_; first | refine a_faddr_q ?_ | refine a_faddr_p ?_) | (refine h_bin ?_; first | refine a_eql ?_ | refine a_lss ?_ | refine a_neq ?_ | refine a_geq ?_ | refine a_gtr ?_ | refine a_leq ?_ | refine a_add ?_ | refine a_sub ?_ | refine a_mul ?_ | refine a_eqs ?_ | refine a_nes ?_ | refine b_rem ?_ | refine b_quo ?_) | (refine h_cond ?_; first | refine b_cond_t ?_ | refine b_cond_f ?_ | refine a_cond (fun h => ?_) (fun h => ?_)) | (refine h_idx ?_; first | refine b_idx_n ?_ | refine b_idx_l ?_ | refine b_idx_i ?_ | refine b_idx_sn ?_ | refine b_idx_s ?_) | (refine h_row ?_; first | refine b_row_q ?_ | refine b_row_i ?_ | refine b_row_p ?_) | (refine h_len ?_; first | refine a_len_m ?_ | refine a_len_l ?_ | refine a_len_s ?_ | refine a_len_n ?_ | refine a_len_e ?_) | (refine h_ext ?_; refine b_ext ?_) | (refine h_calm ?_; refine b_calm ?_) | (refine h_note ?_; refine a_note ?_) | (refine h_pick ?_; first | refine b_pick_t ?_ | refine b_pick_f ?_) | (refine h_grd ?_; first | refine b_grd_y ?_ | refine b_grd_n ?_ | refine a_grd_u ?_ | refine a_grd_t (fun h => ?_) (fun h => ?_) | refine a_grd_f (fun h => ?_) (fun h => ?_)) | (refine h_dgrd ?_; first | refine b_dgrd_y ?_ | refine b_dgrd_n ?_ | refine a_dgrd_u ?_ | refine a_dgrd_t (fun h => ?_) (fun h => ?_) | refine a_dgrd_f (fun h => ?_) (fun h => ?_)) | (refine h_nilchk ?_; first | refine a_nil_p ?_ | refine a_nil_q ?_ | refine a_nil_f ?_) | refine a_mark ?_ | refine a_dmark ?_ | (refine h_un ?_; first | refine a_not ?_ | refine a_neg ?_) | (refine h_box ?_; refine b_box (fun nb_ hnb_ => ?_)) | (refine h_frz1 ?_; first | refine b_frz_p ?_ | refine b_frz_s ?_) | (refine h_store ?_; first | refine b_store_box ?_ | refine b_store_one ?_ | refine b_store_row ?_) | (refine h_idxP ?_; first | refine b_idxP_p ?_ | refine b_idxP_q ?_) | (refine h_mslice ?_; refine b_mslice (fun nb_ hnb_ => ?_)) | (refine h_bslice ?_; refine b_bslice (fun nb_ hnb_ => ?_)) | refine a_conv ?_ | refine a_convS ?_ | refine a_alloc (fun nb_ hnb_ => ?_) | refine b_build ?_ | refine b_fld ?_ | refine a_join ?_ | refine a_lenS ?_ | refine a_tt ?_)
  subst hQ
  exact ⟨_, [], FzS.all (Fz.sls (l := [ia, ib]) (f := intE) (by repeat constructor) rfl (by decide) rfl), rfl, rfl⟩
theorem regs_3 : PureA Try.prog 72 [.agg (InD.mk 3 ia ib ic n site).enc] (.lst ([ia, ib].map intE)) := by
  refine CallA.fz (ref06_Registers_ok _ _ _ ?_)
  unfold ref06_Registers_w
  generalize hQ : (fun (v : AV) (L : SH) => ∃ v2 L2, FzS [v] L [v2] L2 ∧ v2 = AV.lst ([ia, ib].map intE) ∧ L2 = []) = Q
  repeat' (first | (refine h_load1 ?_; first | refine b_load_q ?_ | refine b_load_i ?_ | refine b_load_p ?_) | (refine h_faddr ?_; first | refine a_faddr_q ?_ | refine a_faddr_p ?_) | (refine h_bin ?_; first | refine a_eql ?_ | refine a_lss ?_ | refine a_neq ?_ | refine a_geq ?_ | refine a_gtr ?_ | refine a_leq ?_ | refine a_add ?_ | refine a_sub ?_ | refine a_mul ?_ | refine a_eqs ?_ | refine a_nes ?_ | refine b_rem ?_ | refine b_quo ?_) | (refine h_cond ?_; first | refine b_cond_t ?_ | refine b_cond_f ?_ | refine a_cond (fun h => ?_) (fun h => ?_)) | (refine h_idx ?_; first | refine b_idx_n ?_ | refine b_idx_l ?_ | refine b_idx_i ?_ | refine b_idx_sn ?_ | refine b_idx_s ?_) | (refine h_row ?_; first | refine b_row_q ?_ | refine b_row_i ?_ | refine b_row_p ?_) | (refine h_len ?_; first | refine a_len_m ?_ | refine a_len_l ?_ | refine a_len_s ?_ | refine a_len_n ?_ | refine a_len_e ?_) | (refine h_ext ?_; refine b_ext ?_) | (refine h_calm ?_; refine b_calm ?_) | (refine h_note ?_; refine a_note ?_) | (refine h_pick ?_; first | refine b_pick_t ?_ | refine b_pick_f ?_) | (refine h_grd ?_; first | refine b_grd_y ?_ | refine b_grd_n ?_ | refine a_grd_u ?_ | refine a_grd_t (fun h => ?_) (fun h => ?_) | refine a_grd_f (fun h => ?_) (fun h => ?_)) | (refine h_dgrd ?_; first | refine b_dgrd_y ?_ | refine b_dgrd_n ?_ | refine a_dgrd_u ?_ | refine a_dgrd_t (fun h => ?_) (fun h => ?_) | refine a_dgrd_f (fun h => ?_) (fun h => ?_)) | (refine h_nilchk ?_; first | refine a_nil_p ?_ | refine a_nil_q ?_ | refine a_nil_f ?_) | refine a_mark ?_ | refine a_dmark ?_ | (refine h_un ?_; first | refine a_not ?_ | refine a_neg ?_) | (refine h_box ?_; refine b_box (fun nb_ hnb_ => ?_)) | (refine h_frz1 ?_; first | refine b_frz_p ?_ | refine b_frz_s ?_) | (refine h_store ?_; first | refine b_store_box ?_ | refine b_store_one ?_ | refine b_store_row ?_) | (refine h_idxP ?_; first | refine b_idxP_p ?_ | refine b_idxP_q ?_) | (refine h_mslice ?_; refine b_mslice (fun nb_ hnb_ => ?_)) | (refine h_bslice ?_; refine b_bslice (fun nb_ hnb_ => ?_)) | refine a_conv ?_ | refine a_convS ?_ | refine a_alloc (fun nb_ hnb_ => ?_) | refine b_build ?_ | refine b_fld ?_ | refine a_join ?_ | refine a_lenS ?_ | refine a_tt ?_)
  subst hQ
  exact ⟨_, [], FzS.all (Fz.sls (l := [ia, ib]) (f := intE) (by repeat constructor) rfl (by decide) rfl), rfl, rfl⟩
theorem regs_4 : PureA Try.prog 72 [.agg (InD.mk 4 ia ib ic n site).enc] (.lst ([ia, ib, ic].map intE)) := by
  refine CallA.fz (ref06_Registers_ok _ _ _ ?_)
  unfold ref06_Registers_w
  generalize hQ : (fun (v : AV) (L : SH) => ∃ v2 L2, FzS [v] L [v2] L2 ∧ v2 = AV.lst ([ia, ib, ic].map intE) ∧ L2 = []) = Q
  repeat' (first | (refine h_load1 ?_; first | refine b_load_q ?_ | refine b_load_i ?_ | refine b_load_p ?_) | (refine h_faddr ?_; first | refine a_faddr_q ?_ | refine a_faddr_p ?_) | (refine h_bin ?_; first | refine a_eql ?_ | refine a_lss ?_ | refine a_neq ?_ | refine a_geq ?_ | refine a_gtr ?_ | refine a_leq ?_ | refine a_add ?_ | refine a_sub ?_ | refine a_mul ?_ | refine a_eqs ?_ | refine a_nes ?_ | refine b_rem ?_ | refine b_quo ?_) | (refine h_cond ?_; first | refine b_cond_t ?_ | refine b_cond_f ?_ | refine a_cond (fun h => ?_) (fun h => ?_)) | (refine h_idx ?_; first | refine b_idx_n ?_ | refine b_idx_l ?_ | refine b_idx_i ?_ | refine b_idx_sn ?_ | refine b_idx_s ?_) | (refine h_row ?_; first | refine b_row_q ?_ | refine b_row_i ?_ | refine b_row_p ?_) | (refine h_len ?_; first | refine a_len_m ?_ | refine a_len_l ?_ | refine a_len_s ?_ | refine a_len_n ?_ | refine a_len_e ?_) | (refine h_ext ?_; refine b_ext ?_) | (refine h_calm ?_; refine b_calm ?_) | (refine h_note ?_; refine a_note ?_) | (refine h_pick ?_; first | refine b_pick_t ?_ | refine b_pick_f ?_) | (refine h_grd ?_; first | refine b_grd_y ?_ | refine b_grd_n ?_ | refine a_grd_u ?_ | refine a_grd_t (fun h => ?_) (fun h => ?_) | refine a_grd_f (fun h => ?_) (fun h => ?_)) | (refine h_dgrd ?_; first | refine b_dgrd_y ?_ | refine b_dgrd_n ?_ | refine a_dgrd_u ?_ | refine a_dgrd_t (fun h => ?_) (fun h => ?_) | refine a_dgrd_f (fun h => ?_) (fun h => ?_)) | (refine h_nilchk ?_; first | refine a_nil_p ?_ | refine a_nil_q ?_ | refine a_nil_f ?_) | refine a_mark ?_ | refine a_dmark ?_ | (refine h_un ?_; first | refine a_not ?_ | refine a_neg ?_) | (refine h_box ?_; refine b_box (fun nb_ hnb_ => ?_)) | (refine h_frz1 ?_; first | refine b_frz_p ?_ | refine b_frz_s ?_) | (refine h_store ?_; first | refine b_store_box ?_ | refine b_store_one ?_ | refine b_store_row ?_) | (refine h_idxP ?_; first | refine b_idxP_p ?_ | refine b_idxP_q ?_) | (refine h_mslice ?_; refine b_mslice (fun nb_ hnb_ => ?_)) | (refine h_bslice ?_; refine b_bslice (fun nb_ hnb_ => ?_)) | refine a_conv ?_ | refine a_convS ?_ | refine a_alloc (fun nb_ hnb_ => ?_) | refine b_build ?_ | refine b_fld ?_ | refine a_join ?_ | refine a_lenS ?_ | refine a_tt ?_)
  subst hQ
  exact ⟨_, [], FzS.all (Fz.sls (l := [ia, ib, ic]) (f := intE) (by repeat constructor) rfl (by decide) rfl), rfl, rfl⟩
theorem regs_5 : PureA Try.prog 72 [.agg (InD.mk 5 ia ib ic n site).enc] (.lst (([] : List Int).map intE)) := by
  refine CallA.fz (ref06_Registers_ok _ _ _ ?_)
  unfold ref06_Registers_w
  generalize hQ : (fun (v : AV) (L : SH) => ∃ v2 L2, FzS [v] L [v2] L2 ∧ v2 = AV.lst (([] : List Int).map intE) ∧ L2 = []) = Q
  repeat' (first | (refine h_load1 ?_; first | refine b_load_q ?_ | refine b_load_i ?_ | refine b_load_p ?_) | (refine h_faddr ?_; first | refine a_faddr_q ?_ | refine a_faddr_p ?_) | (refine h_bin ?_; first | refine a_eql ?_ | refine a_lss ?_ | refine a_neq ?_ | refine a_geq ?_ | refine a_gtr ?_ | refine a_leq ?_ | refine a_add ?_ | refine a_sub ?_ | refine a_mul ?_ | refine a_eqs ?_ | refine a_nes ?_ | refine b_rem ?_ | refine b_quo ?_) | (refine h_cond ?_; first | refine b_cond_t ?_ | refine b_cond_f ?_ | refine a_cond (fun h => ?_) (fun h => ?_)) | (refine h_idx ?_; first | refine b_idx_n ?_ | refine b_idx_l ?_ | refine b_idx_i ?_ | refine b_idx_sn ?_ | refine b_idx_s ?_) | (refine h_row ?_; first | refine b_row_q ?_ | refine b_row_i ?_ | refine b_row_p ?_) | (refine h_len ?_; first | refine a_len_m ?_ | refine a_len_l ?_ | refine a_len_s ?_ | refine a_len_n ?_ | refine a_len_e ?_) | (refine h_ext ?_; refine b_ext ?_) | (refine h_calm ?_; refine b_calm ?_) | (refine h_note ?_; refine a_note ?_) | (refine h_pick ?_; first | refine b_pick_t ?_ | refine b_pick_f ?_) | (refine h_grd ?_; first | refine b_grd_y ?_ | refine b_grd_n ?_ | refine a_grd_u ?_ | refine a_grd_t (fun h => ?_) (fun h => ?_) | refine a_grd_f (fun h => ?_) (fun h => ?_)) | (refine h_dgrd ?_; first | refine b_dgrd_y ?_ | refine b_dgrd_n ?_ | refine a_dgrd_u ?_ | refine a_dgrd_t (fun h => ?_) (fun h => ?_) | refine a_dgrd_f (fun h => ?_) (fun h => ?_)) | (refine h_nilchk ?_; first | refine a_nil_p ?_ | refine a_nil_q ?_ | refine a_nil_f ?_) | refine a_mark ?_ | refine a_dmark ?_ | (refine h_un ?_; first | refine a_not ?_ | refine a_neg ?_) | (refine h_box ?_; refine b_box (fun nb_ hnb_ => ?_)) | (refine h_frz1 ?_; first | refine b_frz_p ?_ | refine b_frz_s ?_) | (refine h_store ?_; first | refine b_store_box ?_ | refine b_store_one ?_ | refine b_store_row ?_) | (refine h_idxP ?_; first | refine b_idxP_p ?_ | refine b_idxP_q ?_) | (refine h_mslice ?_; refine b_mslice (fun nb_ hnb_ => ?_)) | (refine h_bslice ?_; refine b_bslice (fun nb_ hnb_ => ?_)) | refine a_conv ?_ | refine a_convS ?_ | refine a_alloc (fun nb_ hnb_ => ?_) | refine b_build ?_ | refine b_fld ?_ | refine a_join ?_ | refine a_lenS ?_ | refine a_tt ?_)
  subst hQ
  exact ⟨_, [], FzS.all .nils, rfl, rfl⟩
end
def zeroT : List AV := [.int .i64 0, .nils, .nils, .int .i64 0]
def ResR (r : Option TsD) (o t : Option Nat) (v : AV) (L : SH) : Prop :=
  match r with
  | none => v = .tup [.agg zeroT, .bool false] ∨ ∃ s3 : TsD, v = .tup [.agg (rowT s3 o t), .bool false]
  | some s2 => v = .tup [.agg (rowT s2 o t), .bool true] ∧ L = slotB o 1 (s2.regs.map intE) ++ slotB t 1 (s2.taint.map lstE)
/-- the registers are looked at one by one -/
theorem step_loop (s : TsD) (o t : Option Nat) (ho : o = none → s.regs = []) (hsm : s.regs.length < 2 ^ 40) (i : InD) (b3 b4 : Nat) (R : SH) (Q : AV → SH → Prop) (l : List Int) (hl : l.length < 2 ^ 40)
    (hbad : l.all s.has = false → ∀ L, Q (.tup [.agg zeroT, .bool false]) L)
    (hgood : l.all s.has = true → ref07_step_zt9 Q [.pptr [i.enc] 0 0, .ptr b3 0 0, .ptr b4 0 0, .lst (l.map intE), .int .i64 l.length] ((b4, ⟨4, [zeroT]⟩) :: (b3, ⟨4, [rowT s o t]⟩) :: R)) :
    W.loop (ref07_step_l6 Q) [.pptr [i.enc] 0 0, .ptr b3 0 0, .ptr b4 0 0, .lst (l.map intE), .int .i64 (0 : Nat)] ((b4, ⟨4, [zeroT]⟩) :: (b3, ⟨4, [rowT s o t]⟩) :: R) := by
  refine for_by l.length (fun k => ([.pptr [i.enc] 0 0, .ptr b3 0 0, .ptr b4 0 0, .lst (l.map intE), .int .i64 k], (b4, ⟨4, [zeroT]⟩) :: (b3, ⟨4, [rowT s o t]⟩) :: R)) (fun k => ∀ x ∈ l.take k, s.has x = true) (by simp) rfl rfl ?_
  intro k hk hG
  dsimp only
  unfold ref07_step_l6
  rcases Nat.lt_or_ge k l.length with g1 | g1
  · have hd := dec_lt g1
    have hx := map_at (f := intE) g1
    have htk : l.take (k + 1) = l.take k ++ [l[k]] := List.take_succ_eq_append_getElem g1
    have no : s.has l[k] = false → l.all s.has = false := fun h => by
      rw [List.all_eq_false]
      exact ⟨_, List.getElem_mem g1, by simp [h]⟩
    have next : s.has l[k] = true → ∀ x ∈ l.take (k + 1), s.has x = true := fun h x hx => by
      rw [htk] at hx
      rcases List.mem_append.1 hx with h1 | h1
      · exact hG x h1
      · simp at h1; rw [h1]; exact h
    cases o with
    | none =>
      have h0 := ho rfl
      have h00 : s.has l[k] = false := by simp [TsD.has, inB, h0]
      unfold rowT
      dsimp only [slotL]
      repeat' (first | (refine h_load1 ?_; first | refine b_load_q ?_ | refine b_load_i ?_ | refine b_load_p ?_) | (refine h_faddr ?_; first | refine a_faddr_q ?_ | refine a_faddr_p ?_) | (refine h_bin ?_; first | refine a_eql ?_ | refine a_lss ?_ | refine a_neq ?_ | refine a_geq ?_ | refine a_gtr ?_ | refine a_leq ?_ | refine a_add ?_ | refine a_sub ?_ | refine a_mul ?_ | refine a_eqs ?_ | refine a_nes ?_ | refine b_rem ?_ | refine b_quo ?_) | (refine h_cond ?_; first | refine b_cond_t ?_ | refine b_cond_f ?_ | refine a_cond (fun h => ?_) (fun h => ?_)) | (refine h_idx ?_; first | refine b_idx_n ?_ | refine b_idx_l ?_ | refine b_idx_i ?_ | refine b_idx_sn ?_ | refine b_idx_s ?_) | (refine h_row ?_; first | refine b_row_q ?_ | refine b_row_i ?_ | refine b_row_p ?_) | (refine h_len ?_; first | refine a_len_m ?_ | refine a_len_l ?_ | refine a_len_s ?_ | refine a_len_n ?_ | refine a_len_e ?_) | (refine h_ext ?_; refine b_ext ?_) | (refine h_calm ?_; refine b_calm ?_) | (refine h_note ?_; refine a_note ?_) | (refine h_pick ?_; first | refine b_pick_t ?_ | refine b_pick_f ?_) | (refine h_grd ?_; first | refine b_grd_y ?_ | refine b_grd_n ?_ | refine a_grd_u ?_ | refine a_grd_t (fun h => ?_) (fun h => ?_) | refine a_grd_f (fun h => ?_) (fun h => ?_)) | (refine h_dgrd ?_; first | refine b_dgrd_y ?_ | refine b_dgrd_n ?_ | refine a_dgrd_u ?_ | refine a_dgrd_t (fun h => ?_) (fun h => ?_) | refine a_dgrd_f (fun h => ?_) (fun h => ?_)) | (refine h_nilchk ?_; first | refine a_nil_p ?_ | refine a_nil_q ?_ | refine a_nil_f ?_) | refine a_mark ?_ | refine a_dmark ?_ | (refine h_un ?_; first | refine a_not ?_ | refine a_neg ?_) | (refine h_box ?_; refine b_box (fun nb_ hnb_ => ?_)) | (refine h_frz1 ?_; first | refine b_frz_p ?_ | refine b_frz_s ?_) | (refine h_store ?_; first | refine b_store_box ?_ | refine b_store_one ?_ | refine b_store_row ?_) | (refine h_idxP ?_; first | refine b_idxP_p ?_ | refine b_idxP_q ?_) | (refine h_mslice ?_; refine b_mslice (fun nb_ hnb_ => ?_)) | (refine h_bslice ?_; refine b_bslice (fun nb_ hnb_ => ?_)) | refine a_conv ?_ | refine a_convS ?_ | refine a_alloc (fun nb_ hnb_ => ?_) | refine b_build ?_ | refine b_fld ?_ | refine a_join ?_ | refine a_lenS ?_ | refine a_tt ?_)
      all_goals first | exact hbad (no h00) _ | skip
      all_goals
        exfalso
        simp_all
        try omega
    | some b1 =>
      have key : s.has l[k] = (decide (0 ≤ l[k]) && decide (l[k] < (s.regs.length : Int))) := rfl
      unfold rowT
      dsimp only [slotL]
      repeat' (first | (refine h_load1 ?_; first | refine b_load_q ?_ | refine b_load_i ?_ | refine b_load_p ?_) | (refine h_faddr ?_; first | refine a_faddr_q ?_ | refine a_faddr_p ?_) | (refine h_bin ?_; first | refine a_eql ?_ | refine a_lss ?_ | refine a_neq ?_ | refine a_geq ?_ | refine a_gtr ?_ | refine a_leq ?_ | refine a_add ?_ | refine a_sub ?_ | refine a_mul ?_ | refine a_eqs ?_ | refine a_nes ?_ | refine b_rem ?_ | refine b_quo ?_) | (refine h_cond ?_; first | refine b_cond_t ?_ | refine b_cond_f ?_ | refine a_cond (fun h => ?_) (fun h => ?_)) | (refine h_idx ?_; first | refine b_idx_n ?_ | refine b_idx_l ?_ | refine b_idx_i ?_ | refine b_idx_sn ?_ | refine b_idx_s ?_) | (refine h_row ?_; first | refine b_row_q ?_ | refine b_row_i ?_ | refine b_row_p ?_) | (refine h_len ?_; first | refine a_len_m ?_ | refine a_len_l ?_ | refine a_len_s ?_ | refine a_len_n ?_ | refine a_len_e ?_) | (refine h_ext ?_; refine b_ext ?_) | (refine h_calm ?_; refine b_calm ?_) | (refine h_note ?_; refine a_note ?_) | (refine h_pick ?_; first | refine b_pick_t ?_ | refine b_pick_f ?_) | (refine h_grd ?_; first | refine b_grd_y ?_ | refine b_grd_n ?_ | refine a_grd_u ?_ | refine a_grd_t (fun h => ?_) (fun h => ?_) | refine a_grd_f (fun h => ?_) (fun h => ?_)) | (refine h_dgrd ?_; first | refine b_dgrd_y ?_ | refine b_dgrd_n ?_ | refine a_dgrd_u ?_ | refine a_dgrd_t (fun h => ?_) (fun h => ?_) | refine a_dgrd_f (fun h => ?_) (fun h => ?_)) | (refine h_nilchk ?_; first | refine a_nil_p ?_ | refine a_nil_q ?_ | refine a_nil_f ?_) | refine a_mark ?_ | refine a_dmark ?_ | (refine h_un ?_; first | refine a_not ?_ | refine a_neg ?_) | (refine h_box ?_; refine b_box (fun nb_ hnb_ => ?_)) | (refine h_frz1 ?_; first | refine b_frz_p ?_ | refine b_frz_s ?_) | (refine h_store ?_; first | refine b_store_box ?_ | refine b_store_one ?_ | refine b_store_row ?_) | (refine h_idxP ?_; first | refine b_idxP_p ?_ | refine b_idxP_q ?_) | (refine h_mslice ?_; refine b_mslice (fun nb_ hnb_ => ?_)) | (refine h_bslice ?_; refine b_bslice (fun nb_ hnb_ => ?_)) | refine a_conv ?_ | refine a_convS ?_ | refine a_alloc (fun nb_ hnb_ => ?_) | refine b_build ?_ | refine b_fld ?_ | refine a_join ?_ | refine a_lenS ?_ | refine a_tt ?_)
      all_goals first | exact hbad (no (by rw [key]; simp_all <;> omega)) _ | exact ⟨k + 1, by omega, by omega, next (by rw [key]; simp_all <;> omega), fzs_eq (by rw [i64_succ g1 (by omega)]; rfl) rfl⟩
  · have hd := dec_ge g1
    have hk0 : k = l.length := by omega
    subst hk0
    refine a_len_m ?_
    refine a_lss ?_
    refine a_cond_f hd ?_
    exact hgood (List.all_eq_true.2 fun x hx => hG x (by simpa using hx))
theorem a_app_z {b i n by_ : Nat} {rows : List (List AV)} {L L' : SH} {KL : AV → SH → Prop} (hd : Del b ⟨n, rows⟩ L L') (hr : rows.length = i) (h2 : 2 * i * by_ ≤ 2 ^ 48) (h3 : 2 * i ≤ 2 ^ 62) (h : ∀ b', b' ∉ L.names → KL (.sl b' 0 i) ((b', ⟨n, rows⟩) :: L')) : W.append n by_ (.sl b 0 i) .nils L KL := by
  subst hr
  exact a_app_s (y := ⟨n, rows⟩) (l := rows) (m := []) hd.mem' rfl (by simp) (by simp) rfl (by simpa using h2) (by simpa using h3) rfl hd (fun b' hb => by simpa using h b' hb)
/-- behind the switch: the register and its taint are written -/
theorem step_j0 (s : TsD) (op a ib ic n site v : Int) (k : Nat) (u : List Int) (hu : u.length ≤ 2 ^ 31) (b1 b2 b3 b4 : Nat) (ok : Bool) (ha : a = k) (hal : k < s.regs.length) (hal2 : k < s.taint.length) (h13 : b3 ≠ b1) (h23 : b3 ≠ b2) (x : AV) (hx : x = .nils ∧ u = [] ∨ x = .lst (u.map intE)) (Q : AV → SH → Prop)
    (hq : ∀ vv L, (∃ v2 L2, FzS [vv] L [v2] L2 ∧ ResR (if ok then some (s.put a v u) else none) (some b1) (some b2) v2 L2) → Q vv L) :
    ref07_step_j0 Q [.pptr [(InD.mk op a ib ic n site).enc] 0 0, .ptr b3 0 0, .ptr b4 0 0, .int .i64 v, .bool ok, x] [(b4, ⟨4, [zeroT]⟩), (b3, ⟨4, [rowT s (some b1) (some b2)]⟩), (b1, ⟨1, s.regs.map intE⟩), (b2, ⟨1, s.taint.map lstE⟩)] := by
  subst ha
  have hxa := map_at (f := intE) hal
  have hya := map_at (f := lstE) hal2
  have e1 : (s.put k v u).regs.map intE = (s.regs.map intE).set k [.int .i64 v] := by simp [TsD.put, List.map_set, intE]
  have e2 : (s.put k v u).taint.map lstE = (s.taint.map lstE).set k [.lst (u.map intE)] := by simp [TsD.put, List.map_set, lstE]
  have e3 : rowT (s.put k v u) (some b1) (some b2) = [.int .i64 (IntKind.i64.wrap (s.pc + 1)), .sl b1 0 s.regs.length, .sl b2 0 s.taint.length, .int .i64 s.ev] := by simp [rowT, TsD.put, slotL]
  have fin : ∀ (nb m : Nat) (L : SH) (c3 c4 : Blk) (r : List AV), r = [.sl nb 0 m] → m = u.length → Rest L ([(b1, ⟨1, (s.regs.map intE).set k [.int .i64 v]⟩)] ++ (b2, ⟨1, (s.taint.map lstE).set k r⟩) :: []) [(nb, ⟨1, u.map intE⟩), (b4, c4), (b3, c3)] → Q (.tup [.agg [.int .i64 (IntKind.i64.wrap (s.pc + 1)), .sl b1 0 s.regs.length, .sl b2 0 s.taint.length, .int .i64 s.ev], .bool ok]) L := by
    intro nb m L c3 c4 r hr hm hrest
    subst hr
    refine hq _ _ ?_
    cases ok with
    | false => exact ⟨_, [], FzS.all (.refl _), .inr ⟨s.put k v u, by rw [e3]⟩⟩
    | true =>
      refine ⟨.tup [.agg (rowT (s.put k v u) (some b1) (some b2)), .bool true], [(b1, ⟨1, (s.regs.map intE).set k [.int .i64 v]⟩), (b2, ⟨1, (s.taint.map lstE).set k [.lst (u.map intE)]⟩)], ?_, rfl, ?_⟩
      · refine FzS.rowA (A := [(b1, _)]) (b := b2) (R := []) (rows' := (s.taint.map lstE).set k [.lst (u.map intE)]) hrest (by simp) (fun j r r' q1 q2 => ?_) (by rw [e3])
        rw [List.getElem?_set] at q1 q2
        by_cases hj : k = j
        · rw [if_pos hj] at q1 q2
          rw [if_pos (by simp; omega)] at q1 q2
          cases q1; cases q2
          exact .cons (Fz.sls (l := u) (.head _) rfl (by decide) hm) .nil
        · rw [if_neg hj] at q1 q2
          rw [q1] at q2; cases q2
          exact FzL.refl _ _
      · rw [e1, e2]; rfl
  unfold ref07_step_j0
  rcases hx with ⟨rfl, rfl⟩ | rfl
  · repeat' (first | (refine h_load1 ?_; first | refine b_load_q ?_ | refine b_load_i ?_ | refine b_load_p ?_) | (refine h_faddr ?_; first | refine a_faddr_q ?_ | refine a_faddr_p ?_) | (refine h_bin ?_; first | refine a_eql ?_ | refine a_lss ?_ | refine a_neq ?_ | refine a_geq ?_ | refine a_gtr ?_ | refine a_leq ?_ | refine a_add ?_ | refine a_sub ?_ | refine a_mul ?_ | refine a_eqs ?_ | refine a_nes ?_ | refine b_rem ?_ | refine b_quo ?_) | (refine h_cond ?_; first | refine b_cond_t ?_ | refine b_cond_f ?_ | refine a_cond (fun h => ?_) (fun h => ?_)) | (refine h_idx ?_; first | refine b_idx_n ?_ | refine b_idx_l ?_ | refine b_idx_i ?_ | refine b_idx_sn ?_ | refine b_idx_s ?_) | (refine h_row ?_; first | refine b_row_q ?_ | refine b_row_i ?_ | refine b_row_p ?_) | (refine h_len ?_; first | refine a_len_m ?_ | refine a_len_l ?_ | refine a_len_s ?_ | refine a_len_n ?_ | refine a_len_e ?_) | (refine h_ext ?_; refine b_ext ?_) | (refine h_calm ?_; refine b_calm ?_) | (refine h_note ?_; refine a_note ?_) | (refine h_pick ?_; first | refine b_pick_t ?_ | refine b_pick_f ?_) | (refine h_grd ?_; first | refine b_grd_y ?_ | refine b_grd_n ?_ | refine a_grd_u ?_ | refine a_grd_t (fun h => ?_) (fun h => ?_) | refine a_grd_f (fun h => ?_) (fun h => ?_)) | (refine h_dgrd ?_; first | refine b_dgrd_y ?_ | refine b_dgrd_n ?_ | refine a_dgrd_u ?_ | refine a_dgrd_t (fun h => ?_) (fun h => ?_) | refine a_dgrd_f (fun h => ?_) (fun h => ?_)) | (refine h_nilchk ?_; first | refine a_nil_p ?_ | refine a_nil_q ?_ | refine a_nil_f ?_) | refine a_mark ?_ | refine a_dmark ?_ | refine a_app_z (by repeat constructor) rfl (by decide) (by decide) (fun nb_ hnb_ => ?_) | (refine h_un ?_; first | refine a_not ?_ | refine a_neg ?_) | (refine h_box ?_; refine b_box (fun nb_ hnb_ => ?_)) | (refine h_frz1 ?_; first | refine b_frz_p ?_ | refine b_frz_s ?_) | (refine h_store ?_; first | refine b_store_box ?_ | refine b_store_one ?_ | refine b_store_row ?_) | (refine h_idxP ?_; first | refine b_idxP_p ?_ | refine b_idxP_q ?_) | (refine h_mslice ?_; refine b_mslice (fun nb_ hnb_ => ?_)) | (refine h_bslice ?_; refine b_bslice (fun nb_ hnb_ => ?_)) | refine a_conv ?_ | refine a_convS ?_ | refine a_alloc (fun nb_ hnb_ => ?_) | refine b_build ?_ | refine b_fld ?_ | refine a_join ?_ | refine a_lenS ?_ | refine a_tt ?_)
    exact fin nb_ 0 _ _ _ _ rfl rfl (by repeat constructor)
  · repeat' (first | (refine h_load1 ?_; first | refine b_load_q ?_ | refine b_load_i ?_ | refine b_load_p ?_) | (refine h_faddr ?_; first | refine a_faddr_q ?_ | refine a_faddr_p ?_) | (refine h_bin ?_; first | refine a_eql ?_ | refine a_lss ?_ | refine a_neq ?_ | refine a_geq ?_ | refine a_gtr ?_ | refine a_leq ?_ | refine a_add ?_ | refine a_sub ?_ | refine a_mul ?_ | refine a_eqs ?_ | refine a_nes ?_ | refine b_rem ?_ | refine b_quo ?_) | (refine h_cond ?_; first | refine b_cond_t ?_ | refine b_cond_f ?_ | refine a_cond (fun h => ?_) (fun h => ?_)) | (refine h_idx ?_; first | refine b_idx_n ?_ | refine b_idx_l ?_ | refine b_idx_i ?_ | refine b_idx_sn ?_ | refine b_idx_s ?_) | (refine h_row ?_; first | refine b_row_q ?_ | refine b_row_i ?_ | refine b_row_p ?_) | (refine h_len ?_; first | refine a_len_m ?_ | refine a_len_l ?_ | refine a_len_s ?_ | refine a_len_n ?_ | refine a_len_e ?_) | (refine h_ext ?_; refine b_ext ?_) | (refine h_calm ?_; refine b_calm ?_) | (refine h_note ?_; refine a_note ?_) | (refine h_pick ?_; first | refine b_pick_t ?_ | refine b_pick_f ?_) | (refine h_grd ?_; first | refine b_grd_y ?_ | refine b_grd_n ?_ | refine a_grd_u ?_ | refine a_grd_t (fun h => ?_) (fun h => ?_) | refine a_grd_f (fun h => ?_) (fun h => ?_)) | (refine h_dgrd ?_; first | refine b_dgrd_y ?_ | refine b_dgrd_n ?_ | refine a_dgrd_u ?_ | refine a_dgrd_t (fun h => ?_) (fun h => ?_) | refine a_dgrd_f (fun h => ?_) (fun h => ?_)) | (refine h_nilchk ?_; first | refine a_nil_p ?_ | refine a_nil_q ?_ | refine a_nil_f ?_) | refine a_mark ?_ | refine a_dmark ?_ | refine a_app_sm (by repeat constructor) (fun _ => rfl) (by rfl) (by simp; omega) (by simp; omega) (fun _ => rfl) (fun nb_ hnb_ => ?_) | (refine h_un ?_; first | refine a_not ?_ | refine a_neg ?_) | (refine h_box ?_; refine b_box (fun nb_ hnb_ => ?_)) | (refine h_frz1 ?_; first | refine b_frz_p ?_ | refine b_frz_s ?_) | (refine h_store ?_; first | refine b_store_box ?_ | refine b_store_one ?_ | refine b_store_row ?_) | (refine h_idxP ?_; first | refine b_idxP_p ?_ | refine b_idxP_q ?_) | (refine h_mslice ?_; refine b_mslice (fun nb_ hnb_ => ?_)) | (refine h_bslice ?_; refine b_bslice (fun nb_ hnb_ => ?_)) | refine a_conv ?_ | refine a_convS ?_ | refine a_alloc (fun nb_ hnb_ => ?_) | refine b_build ?_ | refine b_fld ?_ | refine a_join ?_ | refine a_lenS ?_ | refine a_tt ?_)
    exact fin nb_ (0 + u.length) _ _ _ _ rfl (by simp) (by repeat constructor)
end Go.Proofs.Ytadjimfkfmojkaa.Am

end
section
namespace Go.Proofs.Ytadjimfkfmojkaa.Am
set_option maxRecDepth 100000
set_option linter.unusedSimpArgs false
set_option linter.unusedVariables false
set_option linter.unusedSectionVars false
structure Halt (P : Prop) : Prop where
  h : P
theorem h_sj0 {Q : AV → SH → Prop} {vs : List AV} {L : SH} (h : Halt (ref07_step_j0 Q vs L)) : ref07_step_j0 Q vs L := h.h
theorem slotL_one (o : Option Nat) (n : Nat) : (slotL o n).one = true := by cases o <;> rfl
theorem rowT_one (s : TsD) (o t : Option Nat) : (rowT s o t).all AV.one = true := by
  unfold rowT
  simp [slotL_one]
  exact ⟨rfl, rfl⟩
theorem unR (n a : Int) : PureA Try.prog 73 [.int .i64 (opS n), .int .i64 a] (.tup [.int .i64 (unS n a).1, .bool (unS n a).2]) := by
  have := unaryR_ok (opS n) a
  rwa [un_op] at this
theorem binR (n a b : Int) : PureA Try.prog 75 [.int .i64 (opS n), .int .i64 a, .int .i64 b] (.tup [.int .i64 (binS n a b).1, .bool (binS n a b).2]) := by
  have := binaryR_ok (opS n) a b
  rwa [bin_op] at this
section
variable (s : TsD) (o t : Option Nat) (ho : o = none → s.regs = []) (ht : t = none → s.taint = []) (hlen : s.taint.length = s.regs.length) (hsm : s.regs.length < 2 ^ 40) (hsh : ∀ l ∈ s.taint, l.length ≤ 2 ^ 30) (ia ib ic n site : Int)
include ho ht hlen hsm hsh
theorem step_5 : CallA Try.prog 46 [.agg (InD.mk 5 ia ib ic n site).enc, .agg (rowT s o t)] (slotB o 1 (s.regs.map intE) ++ slotB t 1 (s.taint.map lstE)) (ResR (stepS ⟨5, ia, ib, ic, n, site⟩ s) o t) := by
  have hr := regs_5 ia ib ic n site
  refine CallA.fz (ref07_step_ok _ _ _ _ ?_)
  unfold ref07_step_w
  generalize hQ : (fun (v : AV) (L : SH) => ∃ v2 L2, FzS [v] L [v2] L2 ∧ ResR (stepS ⟨5, ia, ib, ic, n, site⟩ s) o t v2 L2) = Q
  have hqq : ∀ vv L, (∃ v2 L2, FzS [vv] L [v2] L2 ∧ ResR (stepS ⟨5, ia, ib, ic, n, site⟩ s) o t v2 L2) → Q vv L := by
    subst hQ; exact fun _ _ h => h
  clear hQ
  repeat' (first | (refine h_load1 ?_; first | refine b_load_q ?_ | refine b_load_i ?_ | refine b_load_p ?_) | (refine h_faddr ?_; first | refine a_faddr_q ?_ | refine a_faddr_p ?_) | (refine h_bin ?_; first | refine a_eql ?_ | refine a_lss ?_ | refine a_neq ?_ | refine a_geq ?_ | refine a_gtr ?_ | refine a_leq ?_ | refine a_add ?_ | refine a_sub ?_ | refine a_mul ?_ | refine a_eqs ?_ | refine a_nes ?_ | refine b_rem ?_ | refine b_quo ?_) | (refine h_cond ?_; first | refine b_cond_t ?_ | refine b_cond_f ?_ | refine a_cond (fun h => ?_) (fun h => ?_)) | (refine h_idx ?_; first | refine b_idx_n ?_ | refine b_idx_l ?_ | refine b_idx_i ?_ | refine b_idx_sn ?_ | refine b_idx_s ?_) | (refine h_row ?_; first | refine b_row_q ?_ | refine b_row_i ?_ | refine b_row_p ?_) | (refine h_len ?_; first | refine a_len_m ?_ | refine a_len_l ?_ | refine a_len_s ?_ | refine a_len_n ?_ | refine a_len_e ?_) | (refine h_ext ?_; refine b_ext ?_) | (refine h_calm ?_; refine b_calm ?_) | (refine h_note ?_; refine a_note ?_) | (refine h_pick ?_; first | refine b_pick_t ?_ | refine b_pick_f ?_) | (refine h_grd ?_; first | refine b_grd_y ?_ | refine b_grd_n ?_ | refine a_grd_u ?_ | refine a_grd_t (fun h => ?_) (fun h => ?_) | refine a_grd_f (fun h => ?_) (fun h => ?_)) | (refine h_dgrd ?_; first | refine b_dgrd_y ?_ | refine b_dgrd_n ?_ | refine a_dgrd_u ?_ | refine a_dgrd_t (fun h => ?_) (fun h => ?_) | refine a_dgrd_f (fun h => ?_) (fun h => ?_)) | (refine h_nilchk ?_; first | refine a_nil_p ?_ | refine a_nil_q ?_ | refine a_nil_f ?_) | refine a_mark ?_ | refine a_dmark ?_ | refine a_box (cs := rowT s o t) rfl (rowT_one s o t) (fun nb_ hnb_ => ?_) | ((with_reducible refine h_fn 72 ?_); refine m_call (hr) ?_) | ((with_reducible refine h_dfn 72 ?_); refine b_dcall (hr) ?_) | (refine h_un ?_; first | refine a_not ?_ | refine a_neg ?_) | (refine h_box ?_; refine b_box (fun nb_ hnb_ => ?_)) | (refine h_frz1 ?_; first | refine b_frz_p ?_ | refine b_frz_s ?_) | (refine h_store ?_; first | refine b_store_box ?_ | refine b_store_one ?_ | refine b_store_row ?_) | (refine h_idxP ?_; first | refine b_idxP_p ?_ | refine b_idxP_q ?_) | (refine h_mslice ?_; refine b_mslice (fun nb_ hnb_ => ?_)) | (refine h_bslice ?_; refine b_bslice (fun nb_ hnb_ => ?_)) | refine a_conv ?_ | refine a_convS ?_ | refine a_alloc (fun nb_ hnb_ => ?_) | refine b_build ?_ | refine b_fld ?_ | refine a_join ?_ | refine a_lenS ?_ | refine a_tt ?_)
  rename_i b3 hb3
  refine step_loop s o t ho hsm (InD.mk 5 ia ib ic n site) b3 nb_ _ Q [] (by simp) (fun h L => ?_) (fun h => ?_)
  · simp at h
  · have e : stepS ⟨5, ia, ib, ic, n, site⟩ s = some { s with pc := ia } := by simp [stepS]
    rw [e] at hqq
    unfold ref07_step_zt9
    rcases o with _ | b1 <;> rcases t with _ | b2
    all_goals
      dsimp only [slotB, List.cons_append, List.nil_append]
      repeat' (first | (refine h_load1 ?_; first | refine b_load_q ?_ | refine b_load_i ?_ | refine b_load_p ?_) | (refine h_faddr ?_; first | refine a_faddr_q ?_ | refine a_faddr_p ?_) | (refine h_bin ?_; first | refine a_eql ?_ | refine a_lss ?_ | refine a_neq ?_ | refine a_geq ?_ | refine a_gtr ?_ | refine a_leq ?_ | refine a_add ?_ | refine a_sub ?_ | refine a_mul ?_ | refine a_eqs ?_ | refine a_nes ?_ | refine b_rem ?_ | refine b_quo ?_) | (refine h_cond ?_; first | refine b_cond_t ?_ | refine b_cond_f ?_ | refine a_cond (fun h => ?_) (fun h => ?_)) | (refine h_idx ?_; first | refine b_idx_n ?_ | refine b_idx_l ?_ | refine b_idx_i ?_ | refine b_idx_sn ?_ | refine b_idx_s ?_) | (refine h_row ?_; first | refine b_row_q ?_ | refine b_row_i ?_ | refine b_row_p ?_) | (refine h_len ?_; first | refine a_len_m ?_ | refine a_len_l ?_ | refine a_len_s ?_ | refine a_len_n ?_ | refine a_len_e ?_) | (refine h_ext ?_; refine b_ext ?_) | (refine h_calm ?_; refine b_calm ?_) | (refine h_note ?_; refine a_note ?_) | (refine h_pick ?_; first | refine b_pick_t ?_ | refine b_pick_f ?_) | (refine h_grd ?_; first | refine b_grd_y ?_ | refine b_grd_n ?_ | refine a_grd_u ?_ | refine a_grd_t (fun h => ?_) (fun h => ?_) | refine a_grd_f (fun h => ?_) (fun h => ?_)) | (refine h_dgrd ?_; first | refine b_dgrd_y ?_ | refine b_dgrd_n ?_ | refine a_dgrd_u ?_ | refine a_dgrd_t (fun h => ?_) (fun h => ?_) | refine a_dgrd_f (fun h => ?_) (fun h => ?_)) | (refine h_nilchk ?_; first | refine a_nil_p ?_ | refine a_nil_q ?_ | refine a_nil_f ?_) | refine a_mark ?_ | refine a_dmark ?_ | (refine h_un ?_; first | refine a_not ?_ | refine a_neg ?_) | (refine h_box ?_; refine b_box (fun nb_ hnb_ => ?_)) | (refine h_frz1 ?_; first | refine b_frz_p ?_ | refine b_frz_s ?_) | (refine h_store ?_; first | refine b_store_box ?_ | refine b_store_one ?_ | refine b_store_row ?_) | (refine h_idxP ?_; first | refine b_idxP_p ?_ | refine b_idxP_q ?_) | (refine h_mslice ?_; refine b_mslice (fun nb_ hnb_ => ?_)) | (refine h_bslice ?_; refine b_bslice (fun nb_ hnb_ => ?_)) | refine a_conv ?_ | refine a_convS ?_ | refine a_alloc (fun nb_ hnb_ => ?_) | refine b_build ?_ | refine b_fld ?_ | refine a_join ?_ | refine a_lenS ?_ | refine a_tt ?_)
      exact hqq _ _ ⟨_, _, FzS.forget (K := [(nb_, _), (b3, _)]) (List.Perm.refl _), rfl, rfl⟩
theorem step_1 : CallA Try.prog 46 [.agg (InD.mk 1 ia ib ic n site).enc, .agg (rowT s o t)] (slotB o 1 (s.regs.map intE) ++ slotB t 1 (s.taint.map lstE)) (ResR (stepS ⟨1, ia, ib, ic, n, site⟩ s) o t) := by
  have hr := regs_1 ia ib ic n site
  refine CallA.fz (ref07_step_ok _ _ _ _ ?_)
  unfold ref07_step_w
  generalize hQ : (fun (v : AV) (L : SH) => ∃ v2 L2, FzS [v] L [v2] L2 ∧ ResR (stepS ⟨1, ia, ib, ic, n, site⟩ s) o t v2 L2) = Q
  have hqq : ∀ vv L, (∃ v2 L2, FzS [vv] L [v2] L2 ∧ ResR (stepS ⟨1, ia, ib, ic, n, site⟩ s) o t v2 L2) → Q vv L := by
    subst hQ; exact fun _ _ h => h
  clear hQ
  repeat' (first | (refine h_load1 ?_; first | refine b_load_q ?_ | refine b_load_i ?_ | refine b_load_p ?_) | (refine h_faddr ?_; first | refine a_faddr_q ?_ | refine a_faddr_p ?_) | (refine h_bin ?_; first | refine a_eql ?_ | refine a_lss ?_ | refine a_neq ?_ | refine a_geq ?_ | refine a_gtr ?_ | refine a_leq ?_ | refine a_add ?_ | refine a_sub ?_ | refine a_mul ?_ | refine a_eqs ?_ | refine a_nes ?_ | refine b_rem ?_ | refine b_quo ?_) | (refine h_cond ?_; first | refine b_cond_t ?_ | refine b_cond_f ?_ | refine a_cond (fun h => ?_) (fun h => ?_)) | (refine h_idx ?_; first | refine b_idx_n ?_ | refine b_idx_l ?_ | refine b_idx_i ?_ | refine b_idx_sn ?_ | refine b_idx_s ?_) | (refine h_row ?_; first | refine b_row_q ?_ | refine b_row_i ?_ | refine b_row_p ?_) | (refine h_len ?_; first | refine a_len_m ?_ | refine a_len_l ?_ | refine a_len_s ?_ | refine a_len_n ?_ | refine a_len_e ?_) | (refine h_ext ?_; refine b_ext ?_) | (refine h_calm ?_; refine b_calm ?_) | (refine h_note ?_; refine a_note ?_) | (refine h_pick ?_; first | refine b_pick_t ?_ | refine b_pick_f ?_) | (refine h_grd ?_; first | refine b_grd_y ?_ | refine b_grd_n ?_ | refine a_grd_u ?_ | refine a_grd_t (fun h => ?_) (fun h => ?_) | refine a_grd_f (fun h => ?_) (fun h => ?_)) | (refine h_dgrd ?_; first | refine b_dgrd_y ?_ | refine b_dgrd_n ?_ | refine a_dgrd_u ?_ | refine a_dgrd_t (fun h => ?_) (fun h => ?_) | refine a_dgrd_f (fun h => ?_) (fun h => ?_)) | (refine h_nilchk ?_; first | refine a_nil_p ?_ | refine a_nil_q ?_ | refine a_nil_f ?_) | refine a_mark ?_ | refine a_dmark ?_ | refine a_box (cs := rowT s o t) rfl (rowT_one s o t) (fun nb_ hnb_ => ?_) | ((with_reducible refine h_fn 72 ?_); refine m_call (hr) ?_) | ((with_reducible refine h_dfn 72 ?_); refine b_dcall (hr) ?_) | (refine h_un ?_; first | refine a_not ?_ | refine a_neg ?_) | (refine h_box ?_; refine b_box (fun nb_ hnb_ => ?_)) | (refine h_frz1 ?_; first | refine b_frz_p ?_ | refine b_frz_s ?_) | (refine h_store ?_; first | refine b_store_box ?_ | refine b_store_one ?_ | refine b_store_row ?_) | (refine h_idxP ?_; first | refine b_idxP_p ?_ | refine b_idxP_q ?_) | (refine h_mslice ?_; refine b_mslice (fun nb_ hnb_ => ?_)) | (refine h_bslice ?_; refine b_bslice (fun nb_ hnb_ => ?_)) | refine a_conv ?_ | refine a_convS ?_ | refine a_alloc (fun nb_ hnb_ => ?_) | refine b_build ?_ | refine b_fld ?_ | refine a_join ?_ | refine a_lenS ?_ | refine a_tt ?_)
  rename_i b3 hb3
  refine step_loop s o t ho hsm (InD.mk 1 ia ib ic n site) b3 nb_ _ Q [ia] (by simp) (fun h L => ?_) (fun h => ?_)
  · have e : stepS ⟨1, ia, ib, ic, n, site⟩ s = none := by
      simp at h
      simp_all [stepS]
    rw [e] at hqq
    exact hqq _ _ ⟨_, [], FzS.all (.refl _), .inl rfl⟩
  · have ha : s.has ia = true := by simpa using h
    have e : stepS ⟨1, ia, ib, ic, n, site⟩ s = if true then some (s.put ia n []) else none := by simp [stepS, ha]
    rw [e] at hqq
    obtain ⟨a, rfl, hal⟩ := has_iff.1 ha
    obtain ⟨b1, rfl⟩ := some_of ho hal
    obtain ⟨b2, rfl⟩ := some_of ht (k := a) (by omega)
    have h13 : b3 ≠ b1 := fun e => hb3 (by simp [SH.names, slotB, e])
    have h23 : b3 ≠ b2 := fun e => hb3 (by simp [SH.names, slotB, e])
    have hal2 : a < s.taint.length := by omega
    have hxa := map_at (f := intE) hal
    have hya := map_at (f := lstE) hal2
    unfold ref07_step_zt9
    dsimp only [slotB, List.cons_append, List.nil_append]
    repeat' (first | (with_reducible refine h_sj0 ?_) | (refine h_load1 ?_; first | refine b_load_q ?_ | refine b_load_i ?_ | refine b_load_p ?_) | (refine h_faddr ?_; first | refine a_faddr_q ?_ | refine a_faddr_p ?_) | (refine h_bin ?_; first | refine a_eql ?_ | refine a_lss ?_ | refine a_neq ?_ | refine a_geq ?_ | refine a_gtr ?_ | refine a_leq ?_ | refine a_add ?_ | refine a_sub ?_ | refine a_mul ?_ | refine a_eqs ?_ | refine a_nes ?_ | refine b_rem ?_ | refine b_quo ?_) | (refine h_cond ?_; first | refine b_cond_t ?_ | refine b_cond_f ?_ | refine a_cond (fun h => ?_) (fun h => ?_)) | (refine h_idx ?_; first | refine b_idx_n ?_ | refine b_idx_l ?_ | refine b_idx_i ?_ | refine b_idx_sn ?_ | refine b_idx_s ?_) | (refine h_row ?_; first | refine b_row_q ?_ | refine b_row_i ?_ | refine b_row_p ?_) | (refine h_len ?_; first | refine a_len_m ?_ | refine a_len_l ?_ | refine a_len_s ?_ | refine a_len_n ?_ | refine a_len_e ?_) | (refine h_ext ?_; refine b_ext ?_) | (refine h_calm ?_; refine b_calm ?_) | (refine h_note ?_; refine a_note ?_) | (refine h_pick ?_; first | refine b_pick_t ?_ | refine b_pick_f ?_) | (refine h_grd ?_; first | refine b_grd_y ?_ | refine b_grd_n ?_ | refine a_grd_u ?_ | refine a_grd_t (fun h => ?_) (fun h => ?_) | refine a_grd_f (fun h => ?_) (fun h => ?_)) | (refine h_dgrd ?_; first | refine b_dgrd_y ?_ | refine b_dgrd_n ?_ | refine a_dgrd_u ?_ | refine a_dgrd_t (fun h => ?_) (fun h => ?_) | refine a_dgrd_f (fun h => ?_) (fun h => ?_)) | (refine h_nilchk ?_; first | refine a_nil_p ?_ | refine a_nil_q ?_ | refine a_nil_f ?_) | refine a_mark ?_ | refine a_dmark ?_ | (refine h_un ?_; first | refine a_not ?_ | refine a_neg ?_) | (refine h_box ?_; refine b_box (fun nb_ hnb_ => ?_)) | (refine h_frz1 ?_; first | refine b_frz_p ?_ | refine b_frz_s ?_) | (refine h_store ?_; first | refine b_store_box ?_ | refine b_store_one ?_ | refine b_store_row ?_) | (refine h_idxP ?_; first | refine b_idxP_p ?_ | refine b_idxP_q ?_) | (refine h_mslice ?_; refine b_mslice (fun nb_ hnb_ => ?_)) | (refine h_bslice ?_; refine b_bslice (fun nb_ hnb_ => ?_)) | refine a_conv ?_ | refine a_convS ?_ | refine a_alloc (fun nb_ hnb_ => ?_) | refine b_build ?_ | refine b_fld ?_ | refine a_join ?_ | refine a_lenS ?_ | refine a_tt ?_)
    exact ⟨step_j0 s 1 a _ _ n site n a [] (by decide) b1 b2 b3 nb_ true rfl hal hal2 h13 h23 _ (.inl ⟨rfl, rfl⟩) Q hqq⟩
theorem step_2 : CallA Try.prog 46 [.agg (InD.mk 2 ia ib ic n site).enc, .agg (rowT s o t)] (slotB o 1 (s.regs.map intE) ++ slotB t 1 (s.taint.map lstE)) (ResR (stepS ⟨2, ia, ib, ic, n, site⟩ s) o t) := by
  have hr := regs_2 ia ib ic n site
  refine CallA.fz (ref07_step_ok _ _ _ _ ?_)
  unfold ref07_step_w
  generalize hQ : (fun (v : AV) (L : SH) => ∃ v2 L2, FzS [v] L [v2] L2 ∧ ResR (stepS ⟨2, ia, ib, ic, n, site⟩ s) o t v2 L2) = Q
  have hqq : ∀ vv L, (∃ v2 L2, FzS [vv] L [v2] L2 ∧ ResR (stepS ⟨2, ia, ib, ic, n, site⟩ s) o t v2 L2) → Q vv L := by
    subst hQ; exact fun _ _ h => h
  clear hQ
  repeat' (first | (refine h_load1 ?_; first | refine b_load_q ?_ | refine b_load_i ?_ | refine b_load_p ?_) | (refine h_faddr ?_; first | refine a_faddr_q ?_ | refine a_faddr_p ?_) | (refine h_bin ?_; first | refine a_eql ?_ | refine a_lss ?_ | refine a_neq ?_ | refine a_geq ?_ | refine a_gtr ?_ | refine a_leq ?_ | refine a_add ?_ | refine a_sub ?_ | refine a_mul ?_ | refine a_eqs ?_ | refine a_nes ?_ | refine b_rem ?_ | refine b_quo ?_) | (refine h_cond ?_; first | refine b_cond_t ?_ | refine b_cond_f ?_ | refine a_cond (fun h => ?_) (fun h => ?_)) | (refine h_idx ?_; first | refine b_idx_n ?_ | refine b_idx_l ?_ | refine b_idx_i ?_ | refine b_idx_sn ?_ | refine b_idx_s ?_) | (refine h_row ?_; first | refine b_row_q ?_ | refine b_row_i ?_ | refine b_row_p ?_) | (refine h_len ?_; first | refine a_len_m ?_ | refine a_len_l ?_ | refine a_len_s ?_ | refine a_len_n ?_ | refine a_len_e ?_) | (refine h_ext ?_; refine b_ext ?_) | (refine h_calm ?_; refine b_calm ?_) | (refine h_note ?_; refine a_note ?_) | (refine h_pick ?_; first | refine b_pick_t ?_ | refine b_pick_f ?_) | (refine h_grd ?_; first | refine b_grd_y ?_ | refine b_grd_n ?_ | refine a_grd_u ?_ | refine a_grd_t (fun h => ?_) (fun h => ?_) | refine a_grd_f (fun h => ?_) (fun h => ?_)) | (refine h_dgrd ?_; first | refine b_dgrd_y ?_ | refine b_dgrd_n ?_ | refine a_dgrd_u ?_ | refine a_dgrd_t (fun h => ?_) (fun h => ?_) | refine a_dgrd_f (fun h => ?_) (fun h => ?_)) | (refine h_nilchk ?_; first | refine a_nil_p ?_ | refine a_nil_q ?_ | refine a_nil_f ?_) | refine a_mark ?_ | refine a_dmark ?_ | refine a_box (cs := rowT s o t) rfl (rowT_one s o t) (fun nb_ hnb_ => ?_) | ((with_reducible refine h_fn 72 ?_); refine m_call (hr) ?_) | ((with_reducible refine h_dfn 72 ?_); refine b_dcall (hr) ?_) | (refine h_un ?_; first | refine a_not ?_ | refine a_neg ?_) | (refine h_box ?_; refine b_box (fun nb_ hnb_ => ?_)) | (refine h_frz1 ?_; first | refine b_frz_p ?_ | refine b_frz_s ?_) | (refine h_store ?_; first | refine b_store_box ?_ | refine b_store_one ?_ | refine b_store_row ?_) | (refine h_idxP ?_; first | refine b_idxP_p ?_ | refine b_idxP_q ?_) | (refine h_mslice ?_; refine b_mslice (fun nb_ hnb_ => ?_)) | (refine h_bslice ?_; refine b_bslice (fun nb_ hnb_ => ?_)) | refine a_conv ?_ | refine a_convS ?_ | refine a_alloc (fun nb_ hnb_ => ?_) | refine b_build ?_ | refine b_fld ?_ | refine a_join ?_ | refine a_lenS ?_ | refine a_tt ?_)
  rename_i b3 hb3
  refine step_loop s o t ho hsm (InD.mk 2 ia ib ic n site) b3 nb_ _ Q [ia, ib] (by simp) (fun h L => ?_) (fun h => ?_)
  · have e : stepS ⟨2, ia, ib, ic, n, site⟩ s = none := by
      simp at h
      simp_all [stepS]
    rw [e] at hqq
    exact hqq _ _ ⟨_, [], FzS.all (.refl _), .inl rfl⟩
  · obtain ⟨ha, hb⟩ : s.has ia = true ∧ s.has ib = true := by simpa using h
    have e : stepS ⟨2, ia, ib, ic, n, site⟩ s = if true then some (s.put ia (s.reg ib) (s.tnt ib)) else none := by simp [stepS, ha, hb]
    rw [e] at hqq
    obtain ⟨a, rfl, hal⟩ := has_iff.1 ha
    obtain ⟨b, rfl, hbl⟩ := has_iff.1 hb
    obtain ⟨b1, rfl⟩ := some_of ho hal
    obtain ⟨b2, rfl⟩ := some_of ht (k := a) (by omega)
    have h13 : b3 ≠ b1 := fun e => hb3 (by simp [SH.names, slotB, e])
    have h23 : b3 ≠ b2 := fun e => hb3 (by simp [SH.names, slotB, e])
    have hal2 : a < s.taint.length := by omega
    have hxa := map_at (f := intE) hal
    have hya := map_at (f := lstE) hal2
    have hbl2 : b < s.taint.length := by omega
    have hxb := map_at (f := intE) hbl
    have hyb := map_at (f := lstE) hbl2
    have hub : s.taint[b].length ≤ 2 ^ 31 := by have := hsh _ (List.getElem_mem hbl2); omega
    have hrb : s.reg b = s.regs[b] := by simp [TsD.reg, List.getD, hbl]
    have htb : s.tnt b = s.taint[b] := by simp [TsD.tnt, List.getD, hbl2]
    rw [hrb, htb] at hqq
    unfold ref07_step_zt9
    dsimp only [slotB, List.cons_append, List.nil_append]
    repeat' (first | (with_reducible refine h_sj0 ?_) | (refine h_load1 ?_; first | refine b_load_q ?_ | refine b_load_i ?_ | refine b_load_p ?_) | (refine h_faddr ?_; first | refine a_faddr_q ?_ | refine a_faddr_p ?_) | (refine h_bin ?_; first | refine a_eql ?_ | refine a_lss ?_ | refine a_neq ?_ | refine a_geq ?_ | refine a_gtr ?_ | refine a_leq ?_ | refine a_add ?_ | refine a_sub ?_ | refine a_mul ?_ | refine a_eqs ?_ | refine a_nes ?_ | refine b_rem ?_ | refine b_quo ?_) | (refine h_cond ?_; first | refine b_cond_t ?_ | refine b_cond_f ?_ | refine a_cond (fun h => ?_) (fun h => ?_)) | (refine h_idx ?_; first | refine b_idx_n ?_ | refine b_idx_l ?_ | refine b_idx_i ?_ | refine b_idx_sn ?_ | refine b_idx_s ?_) | (refine h_row ?_; first | refine b_row_q ?_ | refine b_row_i ?_ | refine b_row_p ?_) | (refine h_len ?_; first | refine a_len_m ?_ | refine a_len_l ?_ | refine a_len_s ?_ | refine a_len_n ?_ | refine a_len_e ?_) | (refine h_ext ?_; refine b_ext ?_) | (refine h_calm ?_; refine b_calm ?_) | (refine h_note ?_; refine a_note ?_) | (refine h_pick ?_; first | refine b_pick_t ?_ | refine b_pick_f ?_) | (refine h_grd ?_; first | refine b_grd_y ?_ | refine b_grd_n ?_ | refine a_grd_u ?_ | refine a_grd_t (fun h => ?_) (fun h => ?_) | refine a_grd_f (fun h => ?_) (fun h => ?_)) | (refine h_dgrd ?_; first | refine b_dgrd_y ?_ | refine b_dgrd_n ?_ | refine a_dgrd_u ?_ | refine a_dgrd_t (fun h => ?_) (fun h => ?_) | refine a_dgrd_f (fun h => ?_) (fun h => ?_)) | (refine h_nilchk ?_; first | refine a_nil_p ?_ | refine a_nil_q ?_ | refine a_nil_f ?_) | refine a_mark ?_ | refine a_dmark ?_ | (refine h_un ?_; first | refine a_not ?_ | refine a_neg ?_) | (refine h_box ?_; refine b_box (fun nb_ hnb_ => ?_)) | (refine h_frz1 ?_; first | refine b_frz_p ?_ | refine b_frz_s ?_) | (refine h_store ?_; first | refine b_store_box ?_ | refine b_store_one ?_ | refine b_store_row ?_) | (refine h_idxP ?_; first | refine b_idxP_p ?_ | refine b_idxP_q ?_) | (refine h_mslice ?_; refine b_mslice (fun nb_ hnb_ => ?_)) | (refine h_bslice ?_; refine b_bslice (fun nb_ hnb_ => ?_)) | refine a_conv ?_ | refine a_convS ?_ | refine a_alloc (fun nb_ hnb_ => ?_) | refine b_build ?_ | refine b_fld ?_ | refine a_join ?_ | refine a_lenS ?_ | refine a_tt ?_)
    exact ⟨step_j0 s 2 a _ _ n site _ a _ hub b1 b2 b3 nb_ true rfl hal hal2 h13 h23 _ (.inr rfl) Q hqq⟩
theorem step_3 : CallA Try.prog 46 [.agg (InD.mk 3 ia ib ic n site).enc, .agg (rowT s o t)] (slotB o 1 (s.regs.map intE) ++ slotB t 1 (s.taint.map lstE)) (ResR (stepS ⟨3, ia, ib, ic, n, site⟩ s) o t) := by
  have hr := regs_3 ia ib ic n site
  refine CallA.fz (ref07_step_ok _ _ _ _ ?_)
  unfold ref07_step_w
  generalize hQ : (fun (v : AV) (L : SH) => ∃ v2 L2, FzS [v] L [v2] L2 ∧ ResR (stepS ⟨3, ia, ib, ic, n, site⟩ s) o t v2 L2) = Q
  have hqq : ∀ vv L, (∃ v2 L2, FzS [vv] L [v2] L2 ∧ ResR (stepS ⟨3, ia, ib, ic, n, site⟩ s) o t v2 L2) → Q vv L := by
    subst hQ; exact fun _ _ h => h
  clear hQ
  repeat' (first | (refine h_load1 ?_; first | refine b_load_q ?_ | refine b_load_i ?_ | refine b_load_p ?_) | (refine h_faddr ?_; first | refine a_faddr_q ?_ | refine a_faddr_p ?_) | (refine h_bin ?_; first | refine a_eql ?_ | refine a_lss ?_ | refine a_neq ?_ | refine a_geq ?_ | refine a_gtr ?_ | refine a_leq ?_ | refine a_add ?_ | refine a_sub ?_ | refine a_mul ?_ | refine a_eqs ?_ | refine a_nes ?_ | refine b_rem ?_ | refine b_quo ?_) | (refine h_cond ?_; first | refine b_cond_t ?_ | refine b_cond_f ?_ | refine a_cond (fun h => ?_) (fun h => ?_)) | (refine h_idx ?_; first | refine b_idx_n ?_ | refine b_idx_l ?_ | refine b_idx_i ?_ | refine b_idx_sn ?_ | refine b_idx_s ?_) | (refine h_row ?_; first | refine b_row_q ?_ | refine b_row_i ?_ | refine b_row_p ?_) | (refine h_len ?_; first | refine a_len_m ?_ | refine a_len_l ?_ | refine a_len_s ?_ | refine a_len_n ?_ | refine a_len_e ?_) | (refine h_ext ?_; refine b_ext ?_) | (refine h_calm ?_; refine b_calm ?_) | (refine h_note ?_; refine a_note ?_) | (refine h_pick ?_; first | refine b_pick_t ?_ | refine b_pick_f ?_) | (refine h_grd ?_; first | refine b_grd_y ?_ | refine b_grd_n ?_ | refine a_grd_u ?_ | refine a_grd_t (fun h => ?_) (fun h => ?_) | refine a_grd_f (fun h => ?_) (fun h => ?_)) | (refine h_dgrd ?_; first | refine b_dgrd_y ?_ | refine b_dgrd_n ?_ | refine a_dgrd_u ?_ | refine a_dgrd_t (fun h => ?_) (fun h => ?_) | refine a_dgrd_f (fun h => ?_) (fun h => ?_)) | (refine h_nilchk ?_; first | refine a_nil_p ?_ | refine a_nil_q ?_ | refine a_nil_f ?_) | refine a_mark ?_ | refine a_dmark ?_ | refine a_box (cs := rowT s o t) rfl (rowT_one s o t) (fun nb_ hnb_ => ?_) | ((with_reducible refine h_fn 72 ?_); refine m_call (hr) ?_) | ((with_reducible refine h_dfn 72 ?_); refine b_dcall (hr) ?_) | (refine h_un ?_; first | refine a_not ?_ | refine a_neg ?_) | (refine h_box ?_; refine b_box (fun nb_ hnb_ => ?_)) | (refine h_frz1 ?_; first | refine b_frz_p ?_ | refine b_frz_s ?_) | (refine h_store ?_; first | refine b_store_box ?_ | refine b_store_one ?_ | refine b_store_row ?_) | (refine h_idxP ?_; first | refine b_idxP_p ?_ | refine b_idxP_q ?_) | (refine h_mslice ?_; refine b_mslice (fun nb_ hnb_ => ?_)) | (refine h_bslice ?_; refine b_bslice (fun nb_ hnb_ => ?_)) | refine a_conv ?_ | refine a_convS ?_ | refine a_alloc (fun nb_ hnb_ => ?_) | refine b_build ?_ | refine b_fld ?_ | refine a_join ?_ | refine a_lenS ?_ | refine a_tt ?_)
  rename_i b3 hb3
  refine step_loop s o t ho hsm (InD.mk 3 ia ib ic n site) b3 nb_ _ Q [ia, ib] (by simp) (fun h L => ?_) (fun h => ?_)
  · have e : stepS ⟨3, ia, ib, ic, n, site⟩ s = none := by
      simp at h
      simp_all [stepS]
    rw [e] at hqq
    exact hqq _ _ ⟨_, [], FzS.all (.refl _), .inl rfl⟩
  · obtain ⟨ha, hb⟩ : s.has ia = true ∧ s.has ib = true := by simpa using h
    have e : stepS ⟨3, ia, ib, ic, n, site⟩ s = if (unS n (s.reg ib)).2 then some (s.put ia (unS n (s.reg ib)).1 (s.tnt ib)) else none := by simp [stepS, ha, hb]
    rw [e] at hqq
    obtain ⟨a, rfl, hal⟩ := has_iff.1 ha
    obtain ⟨b, rfl, hbl⟩ := has_iff.1 hb
    obtain ⟨b1, rfl⟩ := some_of ho hal
    obtain ⟨b2, rfl⟩ := some_of ht (k := a) (by omega)
    have h13 : b3 ≠ b1 := fun e => hb3 (by simp [SH.names, slotB, e])
    have h23 : b3 ≠ b2 := fun e => hb3 (by simp [SH.names, slotB, e])
    have hal2 : a < s.taint.length := by omega
    have hxa := map_at (f := intE) hal
    have hya := map_at (f := lstE) hal2
    have hbl2 : b < s.taint.length := by omega
    have hxb := map_at (f := intE) hbl
    have hyb := map_at (f := lstE) hbl2
    have hub : s.taint[b].length ≤ 2 ^ 31 := by have := hsh _ (List.getElem_mem hbl2); omega
    have hrb : s.reg b = s.regs[b] := by simp [TsD.reg, List.getD, hbl]
    have htb : s.tnt b = s.taint[b] := by simp [TsD.tnt, List.getD, hbl2]
    have hop := operator_ok n
    have hun := unR n s.regs[b]
    rw [hrb, htb] at hqq
    generalize unS n s.regs[b] = p at hun hqq
    unfold ref07_step_zt9
    dsimp only [slotB, List.cons_append, List.nil_append]
    repeat' (first | (with_reducible refine h_sj0 ?_) | (refine h_load1 ?_; first | refine b_load_q ?_ | refine b_load_i ?_ | refine b_load_p ?_) | (refine h_faddr ?_; first | refine a_faddr_q ?_ | refine a_faddr_p ?_) | (refine h_bin ?_; first | refine a_eql ?_ | refine a_lss ?_ | refine a_neq ?_ | refine a_geq ?_ | refine a_gtr ?_ | refine a_leq ?_ | refine a_add ?_ | refine a_sub ?_ | refine a_mul ?_ | refine a_eqs ?_ | refine a_nes ?_ | refine b_rem ?_ | refine b_quo ?_) | (refine h_cond ?_; first | refine b_cond_t ?_ | refine b_cond_f ?_ | refine a_cond (fun h => ?_) (fun h => ?_)) | (refine h_idx ?_; first | refine b_idx_n ?_ | refine b_idx_l ?_ | refine b_idx_i ?_ | refine b_idx_sn ?_ | refine b_idx_s ?_) | (refine h_row ?_; first | refine b_row_q ?_ | refine b_row_i ?_ | refine b_row_p ?_) | (refine h_len ?_; first | refine a_len_m ?_ | refine a_len_l ?_ | refine a_len_s ?_ | refine a_len_n ?_ | refine a_len_e ?_) | (refine h_ext ?_; refine b_ext ?_) | (refine h_calm ?_; refine b_calm ?_) | (refine h_note ?_; refine a_note ?_) | (refine h_pick ?_; first | refine b_pick_t ?_ | refine b_pick_f ?_) | (refine h_grd ?_; first | refine b_grd_y ?_ | refine b_grd_n ?_ | refine a_grd_u ?_ | refine a_grd_t (fun h => ?_) (fun h => ?_) | refine a_grd_f (fun h => ?_) (fun h => ?_)) | (refine h_dgrd ?_; first | refine b_dgrd_y ?_ | refine b_dgrd_n ?_ | refine a_dgrd_u ?_ | refine a_dgrd_t (fun h => ?_) (fun h => ?_) | refine a_dgrd_f (fun h => ?_) (fun h => ?_)) | (refine h_nilchk ?_; first | refine a_nil_p ?_ | refine a_nil_q ?_ | refine a_nil_f ?_) | refine a_mark ?_ | refine a_dmark ?_ | ((with_reducible refine h_fn 74 ?_); refine m_call (hop) ?_) | ((with_reducible refine h_dfn 74 ?_); refine b_dcall (hop) ?_) | ((with_reducible refine h_fn 73 ?_); refine m_call (hun) ?_) | ((with_reducible refine h_dfn 73 ?_); refine b_dcall (hun) ?_) | (refine a_calm ?_ ?_; focus (simp [W.free, blocksOf, slOf, slotOf, SH.names, slotL]; done)) | (refine h_un ?_; first | refine a_not ?_ | refine a_neg ?_) | (refine h_box ?_; refine b_box (fun nb_ hnb_ => ?_)) | (refine h_frz1 ?_; first | refine b_frz_p ?_ | refine b_frz_s ?_) | (refine h_store ?_; first | refine b_store_box ?_ | refine b_store_one ?_ | refine b_store_row ?_) | (refine h_idxP ?_; first | refine b_idxP_p ?_ | refine b_idxP_q ?_) | (refine h_mslice ?_; refine b_mslice (fun nb_ hnb_ => ?_)) | (refine h_bslice ?_; refine b_bslice (fun nb_ hnb_ => ?_)) | refine a_conv ?_ | refine a_convS ?_ | refine a_alloc (fun nb_ hnb_ => ?_) | refine b_build ?_ | refine b_fld ?_ | refine a_join ?_ | refine a_lenS ?_ | refine a_tt ?_)
    exact ⟨step_j0 s 3 a _ _ n site p.1 a _ hub b1 b2 b3 nb_ p.2 rfl hal hal2 h13 h23 _ (.inr rfl) Q hqq⟩
theorem step_4 : CallA Try.prog 46 [.agg (InD.mk 4 ia ib ic n site).enc, .agg (rowT s o t)] (slotB o 1 (s.regs.map intE) ++ slotB t 1 (s.taint.map lstE)) (ResR (stepS ⟨4, ia, ib, ic, n, site⟩ s) o t) := by
  have hr := regs_4 ia ib ic n site
  refine CallA.fz (ref07_step_ok _ _ _ _ ?_)
  unfold ref07_step_w
  generalize hQ : (fun (v : AV) (L : SH) => ∃ v2 L2, FzS [v] L [v2] L2 ∧ ResR (stepS ⟨4, ia, ib, ic, n, site⟩ s) o t v2 L2) = Q
  have hqq : ∀ vv L, (∃ v2 L2, FzS [vv] L [v2] L2 ∧ ResR (stepS ⟨4, ia, ib, ic, n, site⟩ s) o t v2 L2) → Q vv L := by
    subst hQ; exact fun _ _ h => h
  clear hQ
  repeat' (first | (refine h_load1 ?_; first | refine b_load_q ?_ | refine b_load_i ?_ | refine b_load_p ?_) | (refine h_faddr ?_; first | refine a_faddr_q ?_ | refine a_faddr_p ?_) | (refine h_bin ?_; first | refine a_eql ?_ | refine a_lss ?_ | refine a_neq ?_ | refine a_geq ?_ | refine a_gtr ?_ | refine a_leq ?_ | refine a_add ?_ | refine a_sub ?_ | refine a_mul ?_ | refine a_eqs ?_ | refine a_nes ?_ | refine b_rem ?_ | refine b_quo ?_) | (refine h_cond ?_; first | refine b_cond_t ?_ | refine b_cond_f ?_ | refine a_cond (fun h => ?_) (fun h => ?_)) | (refine h_idx ?_; first | refine b_idx_n ?_ | refine b_idx_l ?_ | refine b_idx_i ?_ | refine b_idx_sn ?_ | refine b_idx_s ?_) | (refine h_row ?_; first | refine b_row_q ?_ | refine b_row_i ?_ | refine b_row_p ?_) | (refine h_len ?_; first | refine a_len_m ?_ | refine a_len_l ?_ | refine a_len_s ?_ | refine a_len_n ?_ | refine a_len_e ?_) | (refine h_ext ?_; refine b_ext ?_) | (refine h_calm ?_; refine b_calm ?_) | (refine h_note ?_; refine a_note ?_) | (refine h_pick ?_; first | refine b_pick_t ?_ | refine b_pick_f ?_) | (refine h_grd ?_; first | refine b_grd_y ?_ | refine b_grd_n ?_ | refine a_grd_u ?_ | refine a_grd_t (fun h => ?_) (fun h => ?_) | refine a_grd_f (fun h => ?_) (fun h => ?_)) | (refine h_dgrd ?_; first | refine b_dgrd_y ?_ | refine b_dgrd_n ?_ | refine a_dgrd_u ?_ | refine a_dgrd_t (fun h => ?_) (fun h => ?_) | refine a_dgrd_f (fun h => ?_) (fun h => ?_)) | (refine h_nilchk ?_; first | refine a_nil_p ?_ | refine a_nil_q ?_ | refine a_nil_f ?_) | refine a_mark ?_ | refine a_dmark ?_ | refine a_box (cs := rowT s o t) rfl (rowT_one s o t) (fun nb_ hnb_ => ?_) | ((with_reducible refine h_fn 72 ?_); refine m_call (hr) ?_) | ((with_reducible refine h_dfn 72 ?_); refine b_dcall (hr) ?_) | (refine h_un ?_; first | refine a_not ?_ | refine a_neg ?_) | (refine h_box ?_; refine b_box (fun nb_ hnb_ => ?_)) | (refine h_frz1 ?_; first | refine b_frz_p ?_ | refine b_frz_s ?_) | (refine h_store ?_; first | refine b_store_box ?_ | refine b_store_one ?_ | refine b_store_row ?_) | (refine h_idxP ?_; first | refine b_idxP_p ?_ | refine b_idxP_q ?_) | (refine h_mslice ?_; refine b_mslice (fun nb_ hnb_ => ?_)) | (refine h_bslice ?_; refine b_bslice (fun nb_ hnb_ => ?_)) | refine a_conv ?_ | refine a_convS ?_ | refine a_alloc (fun nb_ hnb_ => ?_) | refine b_build ?_ | refine b_fld ?_ | refine a_join ?_ | refine a_lenS ?_ | refine a_tt ?_)
  rename_i b3 hb3
  refine step_loop s o t ho hsm (InD.mk 4 ia ib ic n site) b3 nb_ _ Q [ia, ib, ic] (by simp) (fun h L => ?_) (fun h => ?_)
  · have e : stepS ⟨4, ia, ib, ic, n, site⟩ s = none := by
      simp at h
      simp_all [stepS]
    rw [e] at hqq
    exact hqq _ _ ⟨_, [], FzS.all (.refl _), .inl rfl⟩
  · obtain ⟨ha, hb, hc⟩ : s.has ia = true ∧ s.has ib = true ∧ s.has ic = true := by simpa using h
    have e : stepS ⟨4, ia, ib, ic, n, site⟩ s = if (binS n (s.reg ib) (s.reg ic)).2 then some (s.put ia (binS n (s.reg ib) (s.reg ic)).1 (asc (s.tnt ib ++ s.tnt ic))) else none := by simp [stepS, ha, hb, hc]
    rw [e] at hqq
    obtain ⟨a, rfl, hal⟩ := has_iff.1 ha
    obtain ⟨b, rfl, hbl⟩ := has_iff.1 hb
    obtain ⟨c, rfl, hcl⟩ := has_iff.1 hc
    obtain ⟨b1, rfl⟩ := some_of ho hal
    obtain ⟨b2, rfl⟩ := some_of ht (k := a) (by omega)
    have h13 : b3 ≠ b1 := fun e => hb3 (by simp [SH.names, slotB, e])
    have h23 : b3 ≠ b2 := fun e => hb3 (by simp [SH.names, slotB, e])
    have hal2 : a < s.taint.length := by omega
    have hxa := map_at (f := intE) hal
    have hya := map_at (f := lstE) hal2
    have hbl2 : b < s.taint.length := by omega
    have hxb := map_at (f := intE) hbl
    have hyb := map_at (f := lstE) hbl2
    have hcl2 : c < s.taint.length := by omega
    have hxc := map_at (f := intE) hcl
    have hyc := map_at (f := lstE) hcl2
    have hub : s.taint[b].length ≤ 2 ^ 31 := by have := hsh _ (List.getElem_mem hbl2); omega
    have huc : s.taint[c].length ≤ 2 ^ 31 := by have := hsh _ (List.getElem_mem hcl2); omega
    have hrb : s.reg b = s.regs[b] := by simp [TsD.reg, List.getD, hbl]
    have htb : s.tnt b = s.taint[b] := by simp [TsD.tnt, List.getD, hbl2]
    have hrc : s.reg c = s.regs[c] := by simp [TsD.reg, List.getD, hcl]
    have htc : s.tnt c = s.taint[c] := by simp [TsD.tnt, List.getD, hcl2]
    have hop := operator_ok n
    have hun := binR n s.regs[b] s.regs[c]
    have hui := unionR_ok s.taint[b] s.taint[c] (by omega) (by omega)
    have hua : (asc (s.taint[b] ++ s.taint[c])).length ≤ 2 ^ 31 := Nat.le_trans (asc_short (U := s.taint[b] ++ s.taint[c]) fun x hx => hx) (by have h1 := hsh _ (List.getElem_mem hbl2); have h2 := hsh _ (List.getElem_mem hcl2); simp; omega)
    rw [hrb, htb, hrc, htc] at hqq
    generalize binS n s.regs[b] s.regs[c] = p at hun hqq
    generalize asc (s.taint[b] ++ s.taint[c]) = u at hui hqq hua
    unfold ref07_step_zt9
    dsimp only [slotB, List.cons_append, List.nil_append]
    repeat' (first | (with_reducible refine h_sj0 ?_) | (refine h_load1 ?_; first | refine b_load_q ?_ | refine b_load_i ?_ | refine b_load_p ?_) | (refine h_faddr ?_; first | refine a_faddr_q ?_ | refine a_faddr_p ?_) | (refine h_bin ?_; first | refine a_eql ?_ | refine a_lss ?_ | refine a_neq ?_ | refine a_geq ?_ | refine a_gtr ?_ | refine a_leq ?_ | refine a_add ?_ | refine a_sub ?_ | refine a_mul ?_ | refine a_eqs ?_ | refine a_nes ?_ | refine b_rem ?_ | refine b_quo ?_) | (refine h_cond ?_; first | refine b_cond_t ?_ | refine b_cond_f ?_ | refine a_cond (fun h => ?_) (fun h => ?_)) | (refine h_idx ?_; first | refine b_idx_n ?_ | refine b_idx_l ?_ | refine b_idx_i ?_ | refine b_idx_sn ?_ | refine b_idx_s ?_) | (refine h_row ?_; first | refine b_row_q ?_ | refine b_row_i ?_ | refine b_row_p ?_) | (refine h_len ?_; first | refine a_len_m ?_ | refine a_len_l ?_ | refine a_len_s ?_ | refine a_len_n ?_ | refine a_len_e ?_) | (refine h_ext ?_; refine b_ext ?_) | (refine h_calm ?_; refine b_calm ?_) | (refine h_note ?_; refine a_note ?_) | (refine h_pick ?_; first | refine b_pick_t ?_ | refine b_pick_f ?_) | (refine h_grd ?_; first | refine b_grd_y ?_ | refine b_grd_n ?_ | refine a_grd_u ?_ | refine a_grd_t (fun h => ?_) (fun h => ?_) | refine a_grd_f (fun h => ?_) (fun h => ?_)) | (refine h_dgrd ?_; first | refine b_dgrd_y ?_ | refine b_dgrd_n ?_ | refine a_dgrd_u ?_ | refine a_dgrd_t (fun h => ?_) (fun h => ?_) | refine a_dgrd_f (fun h => ?_) (fun h => ?_)) | (refine h_nilchk ?_; first | refine a_nil_p ?_ | refine a_nil_q ?_ | refine a_nil_f ?_) | refine a_mark ?_ | refine a_dmark ?_ | ((with_reducible refine h_fn 74 ?_); refine m_call (hop) ?_) | ((with_reducible refine h_dfn 74 ?_); refine b_dcall (hop) ?_) | ((with_reducible refine h_fn 75 ?_); refine m_call (hun) ?_) | ((with_reducible refine h_dfn 75 ?_); refine b_dcall (hun) ?_) | ((with_reducible refine h_fn 57 ?_); refine m_call (hui) ?_) | ((with_reducible refine h_dfn 57 ?_); refine b_dcall (hui) ?_) | (refine a_calm ?_ ?_; focus (simp [W.free, blocksOf, slOf, slotOf, SH.names, slotL]; done)) | (refine h_un ?_; first | refine a_not ?_ | refine a_neg ?_) | (refine h_box ?_; refine b_box (fun nb_ hnb_ => ?_)) | (refine h_frz1 ?_; first | refine b_frz_p ?_ | refine b_frz_s ?_) | (refine h_store ?_; first | refine b_store_box ?_ | refine b_store_one ?_ | refine b_store_row ?_) | (refine h_idxP ?_; first | refine b_idxP_p ?_ | refine b_idxP_q ?_) | (refine h_mslice ?_; refine b_mslice (fun nb_ hnb_ => ?_)) | (refine h_bslice ?_; refine b_bslice (fun nb_ hnb_ => ?_)) | refine a_conv ?_ | refine a_convS ?_ | refine a_alloc (fun nb_ hnb_ => ?_) | refine b_build ?_ | refine b_fld ?_ | refine a_join ?_ | refine a_lenS ?_ | refine a_tt ?_)
    exact ⟨step_j0 s 4 a _ _ n site p.1 a u hua b1 b2 b3 nb_ p.2 rfl hal hal2 h13 h23 _ (.inr rfl) Q hqq⟩
end
end Go.Proofs.Ytadjimfkfmojkaa.Am

end
section
namespace Go.Proofs.Ytadjimfkfmojkaa.Am
set_option maxRecDepth 100000
set_option linter.unusedSimpArgs false
set_option linter.unusedVariables false
set_option linter.unusedSectionVars false
theorem m_callB {P : Program} {KL R1 : AV → SH → Prop} {g : FuncId} {args : List AV} {L K R : SH} (h : CallA P g args K R1) (hL : L.Perm (K ++ R)) (hq : ∀ v K', R1 v K' → KL v (R ++ K')) : W.callM P g args L KL :=
  ⟨.perm (h.frame hL fun u K' hu => ⟨R ++ K', List.perm_append_comm, hq u K' hu⟩)⟩
theorem exec_all (s : TsD) (bs : Nat) (o t : Option Nat) (ho : o = none → s.regs = []) (ht : t = none → s.taint = []) (hlen : s.taint.length = s.regs.length) (hsm : s.regs.length < 2 ^ 40) (hsh : ∀ l ∈ s.taint, l.length ≤ 2 ^ 30) (i : InD) (h1 : 1 ≤ i.op) (h5 : i.op ≤ 5) :
    CallA Try.prog 43 [.ptr bs 0 0, .agg i.enc] (StT s bs o t) (ResE (stepS i s) bs o t) := by
  obtain ⟨op, ia, ib, ic, n, site⟩ := i
  dsimp only at h1 h5
  obtain rfl | rfl | rfl | rfl | rfl : op = 1 ∨ op = 2 ∨ op = 3 ∨ op = 4 ∨ op = 5 := by omega
  · exact exec_1 s bs o t ho ht hlen hsm hsh ia ib ic n site
  · exact exec_2 s bs o t ho ht hlen hsm hsh ia ib ic n site
  · exact exec_3 s bs o t ho ht hlen hsm hsh ia ib ic n site
  · exact exec_4 s bs o t ho ht hlen hsm hsh ia ib ic n site
  · exact exec_5 s bs o t ho ht hlen hsm hsh ia ib ic n site
theorem step_all (s : TsD) (o t : Option Nat) (ho : o = none → s.regs = []) (ht : t = none → s.taint = []) (hlen : s.taint.length = s.regs.length) (hsm : s.regs.length < 2 ^ 40) (hsh : ∀ l ∈ s.taint, l.length ≤ 2 ^ 30) (i : InD) (h1 : 1 ≤ i.op) (h5 : i.op ≤ 5) :
    CallA Try.prog 46 [.agg i.enc, .agg (rowT s o t)] (slotB o 1 (s.regs.map intE) ++ slotB t 1 (s.taint.map lstE)) (ResR (stepS i s) o t) := by
  obtain ⟨op, ia, ib, ic, n, site⟩ := i
  dsimp only at h1 h5
  obtain rfl | rfl | rfl | rfl | rfl : op = 1 ∨ op = 2 ∨ op = 3 ∨ op = 4 ∨ op = 5 := by omega
  · exact step_1 s o t ho ht hlen hsm hsh ia ib ic n site
  · exact step_2 s o t ho ht hlen hsm hsh ia ib ic n site
  · exact step_3 s o t ho ht hlen hsm hsh ia ib ic n site
  · exact step_4 s o t ho ht hlen hsm hsh ia ib ic n site
  · exact step_5 s o t ho ht hlen hsm hsh ia ib ic n site
theorem put_lens (s : TsD) (a v : Int) (t : List Int) : (s.put a v t).regs.length = s.regs.length ∧ (s.put a v t).taint.length = s.taint.length := by simp [TsD.put]
theorem step_lens {s s2 : TsD} {i : InD} (he : stepS i s = some s2) : s2.regs.length = s.regs.length ∧ s2.taint.length = s.taint.length := by
  unfold stepS at he
  split at he
  · split at he
    · cases he; exact put_lens _ _ _ _
    · cases he
  · split at he
    · split at he
      · cases he; exact put_lens _ _ _ _
      · cases he
    · split at he
      · split at he
        · cases he; exact put_lens _ _ _ _
        · cases he
      · split at he
        · split at he
          · cases he; exact put_lens _ _ _ _
          · cases he
        · cases he; exact ⟨rfl, rfl⟩
theorem fz_slotL {α : Type} {K : SH} {f : α → List AV} {l : List α} {o : Option Nat} {n : Nat} (hn : n = l.length) (h0 : o = none → l = []) (hm : ∀ b, o = some b → (b, (⟨1, l.map f⟩ : Blk)) ∈ K) : Fz K (slotL o n) (.lst (l.map f)) := by
  cases o with
  | none => rw [h0 rfl]; exact .refl _
  | some b => exact Fz.sls (hm b rfl) rfl (by decide) hn
theorem fz_row {K : SH} {s : TsD} {o t : Option Nat} (ho : o = none → s.regs = []) (ht : t = none → s.taint = []) (h : ∀ p ∈ slotB o 1 (s.regs.map intE) ++ slotB t 1 (s.taint.map lstE), p ∈ K) : Fz K (.agg (rowT s o t)) (.agg s.enc) :=
  Fz.aggs (.cons (.refl _) (.cons (fz_slotL rfl ho fun b e => h _ (by subst e; simp [slotB])) (.cons (fz_slotL rfl ht fun b e => h _ (by subst e; simp [slotB])) (.cons (.refl _) .nil))))
theorem fz_zero (K : SH) : Fz K (.agg zeroT) (.agg TsD.zero.enc) := Fz.aggs (.cons (.refl _) (.cons .nils (.cons .nils (.cons (.refl _) .nil))))
theorem fz_res {K : SH} {a b : AV} {ok : Bool} (h : Fz K a b) : Fz K (.tup [a, .bool ok]) (.tup [b, .bool ok]) := .tup _ _ rfl fun i x y h1 h2 => by
  match i with
  | 0 => cases h1; cases h2; exact h
  | 1 => cases h1; cases h2; exact .refl _
  | i + 2 => simp at h1
theorem run_out {ins : List InD} {k : Nat} {s : TsD} (h : inB s.pc ins.length = false) : runS ins k s = (TsD.zero, false) := by cases k <;> simp [runS, h]
theorem run_stop {ins : List InD} {k : Nat} {s : TsD} (h : inB s.pc ins.length = true) (h2 : (ins.getD s.pc.toNat default).op < 1 ∨ 5 < (ins.getD s.pc.toNat default).op) : runS ins k s = (s, true) := by cases k <;> simp only [runS, h, if_true, if_pos h2]
theorem run_none {ins : List InD} {k : Nat} {s : TsD} (h : inB s.pc ins.length = true) (h2 : ¬ ((ins.getD s.pc.toNat default).op < 1 ∨ 5 < (ins.getD s.pc.toNat default).op)) (h3 : stepS (ins.getD s.pc.toNat default) s = none) : runS ins k s = (TsD.zero, false) := by cases k <;> simp only [runS, h, if_true, if_neg h2, h3]
theorem run_zero {ins : List InD} {s : TsD} (h : inB s.pc ins.length = true) (h2 : ¬ ((ins.getD s.pc.toNat default).op < 1 ∨ 5 < (ins.getD s.pc.toNat default).op)) : runS ins 0 s = (TsD.zero, false) := by simp only [runS, h, if_true, if_neg h2]
theorem run_step {ins : List InD} {k : Nat} {s s2 : TsD} (h : inB s.pc ins.length = true) (h2 : ¬ ((ins.getD s.pc.toNat default).op < 1 ∨ 5 < (ins.getD s.pc.toNat default).op)) (h3 : stepS (ins.getD s.pc.toNat default) s = some s2) : runS ins (k + 1) s = runS ins k s2 := by simp only [runS, h, if_true, if_neg h2, h3]
section
variable (c : TcD) (s : TsD) (U : List Int) (hU : U.length ≤ 2 ^ 30) (hT : Tame U s) (hc : c.ins.length < 2 ^ 40) (o t : Option Nat) (ho : o = none → s.regs = []) (ht : t = none → s.taint = [])
include hU hT hc ho ht
theorem settle_loop (b3 b4 : Nat) (Q : AV → SH → Prop) (hq : ∀ v L, Fz L v (resT (runS c.ins c.ins.length s)) → Q v L) :
    W.loop (silent_Settle_l0 Q) [.pptr [c.enc] 0 0, .ptr b3 0 0, .ptr b4 0 0, .int .i64 (0 : Nat)] ((b4, ⟨4, [zeroT]⟩) :: StT s b3 o t) := by
  refine loop_ex c.ins.length (fun k (e : TsD) => ([.pptr [c.enc] 0 0, .ptr b3 0 0, .ptr b4 0 0, .int .i64 k], (b4, ⟨4, [zeroT]⟩) :: StT e b3 o t)) (fun k e => Tame U e ∧ (e.regs.length = s.regs.length ∧ e.taint.length = s.taint.length) ∧ runS c.ins (c.ins.length - k) e = runS c.ins c.ins.length s) s ⟨hT, ⟨rfl, rfl⟩, rfl⟩ (.refl _ _) ?_
  intro k e hk ⟨he, ⟨hl1, hl2⟩, hrun⟩
  rw [← hrun] at hq
  have ho' : o = none → e.regs = [] := fun x => List.length_eq_zero_iff.1 (by rw [hl1, ho x]; rfl)
  have ht' : t = none → e.taint = [] := fun x => List.length_eq_zero_iff.1 (by rw [hl2, ht x]; rfl)
  dsimp only
  unfold silent_Settle_l0
  have zero : runS c.ins (c.ins.length - k) e = (TsD.zero, false) → ∀ L, Q (.tup [.agg zeroT, .bool false]) L := fun h L => hq _ _ (by rw [h]; exact fz_res (fz_zero _))
  by_cases p1 : e.pc < 0
  · have hd1 : decide (e.pc < 0) = true := by simpa using p1
    have hz := zero (run_out (by simp [inB]; omega))
    unfold StT rowT
    repeat' (first | (refine h_load1 ?_; first | refine b_load_q ?_ | refine b_load_i ?_ | refine b_load_p ?_) | (refine h_faddr ?_; first | refine a_faddr_q ?_ | refine a_faddr_p ?_) | (refine h_bin ?_; first | refine a_eql ?_ | refine a_lss ?_ | refine a_neq ?_ | refine a_geq ?_ | refine a_gtr ?_ | refine a_leq ?_ | refine a_add ?_ | refine a_sub ?_ | refine a_mul ?_ | refine a_eqs ?_ | refine a_nes ?_ | refine b_rem ?_ | refine b_quo ?_) | (refine h_cond ?_; first | refine b_cond_t ?_ | refine b_cond_f ?_ | refine a_cond (fun h => ?_) (fun h => ?_)) | (refine h_idx ?_; first | refine b_idx_n ?_ | refine b_idx_l ?_ | refine b_idx_i ?_ | refine b_idx_sn ?_ | refine b_idx_s ?_) | (refine h_row ?_; first | refine b_row_q ?_ | refine b_row_i ?_ | refine b_row_p ?_) | (refine h_len ?_; first | refine a_len_m ?_ | refine a_len_l ?_ | refine a_len_s ?_ | refine a_len_n ?_ | refine a_len_e ?_) | (refine h_ext ?_; refine b_ext ?_) | (refine h_calm ?_; refine b_calm ?_) | (refine h_note ?_; refine a_note ?_) | (refine h_pick ?_; first | refine b_pick_t ?_ | refine b_pick_f ?_) | (refine h_grd ?_; first | refine b_grd_y ?_ | refine b_grd_n ?_ | refine a_grd_u ?_ | refine a_grd_t (fun h => ?_) (fun h => ?_) | refine a_grd_f (fun h => ?_) (fun h => ?_)) | (refine h_dgrd ?_; first | refine b_dgrd_y ?_ | refine b_dgrd_n ?_ | refine a_dgrd_u ?_ | refine a_dgrd_t (fun h => ?_) (fun h => ?_) | refine a_dgrd_f (fun h => ?_) (fun h => ?_)) | (refine h_nilchk ?_; first | refine a_nil_p ?_ | refine a_nil_q ?_ | refine a_nil_f ?_) | refine a_mark ?_ | refine a_dmark ?_ | (refine h_un ?_; first | refine a_not ?_ | refine a_neg ?_) | (refine h_box ?_; refine b_box (fun nb_ hnb_ => ?_)) | (refine h_frz1 ?_; first | refine b_frz_p ?_ | refine b_frz_s ?_) | (refine h_store ?_; first | refine b_store_box ?_ | refine b_store_one ?_ | refine b_store_row ?_) | (refine h_idxP ?_; first | refine b_idxP_p ?_ | refine b_idxP_q ?_) | (refine h_mslice ?_; refine b_mslice (fun nb_ hnb_ => ?_)) | (refine h_bslice ?_; refine b_bslice (fun nb_ hnb_ => ?_)) | refine a_conv ?_ | refine a_convS ?_ | refine a_alloc (fun nb_ hnb_ => ?_) | refine b_build ?_ | refine b_fld ?_ | refine a_join ?_ | refine a_lenS ?_ | refine a_tt ?_)
    exact hz _
  · have hd1 : decide (e.pc < 0) = false := by simpa using p1
    by_cases p2 : (c.ins.length : Int) ≤ e.pc
    · have hd2 : decide ((c.ins.length : Int) ≤ e.pc) = true := by simpa using p2
      have hz := zero (run_out (by simp [inB]; omega))
      unfold StT rowT
      repeat' (first | (refine h_load1 ?_; first | refine b_load_q ?_ | refine b_load_i ?_ | refine b_load_p ?_) | (refine h_faddr ?_; first | refine a_faddr_q ?_ | refine a_faddr_p ?_) | (refine h_bin ?_; first | refine a_eql ?_ | refine a_lss ?_ | refine a_neq ?_ | refine a_geq ?_ | refine a_gtr ?_ | refine a_leq ?_ | refine a_add ?_ | refine a_sub ?_ | refine a_mul ?_ | refine a_eqs ?_ | refine a_nes ?_ | refine b_rem ?_ | refine b_quo ?_) | (refine h_cond ?_; first | refine b_cond_t ?_ | refine b_cond_f ?_ | refine a_cond (fun h => ?_) (fun h => ?_)) | (refine h_idx ?_; first | refine b_idx_n ?_ | refine b_idx_l ?_ | refine b_idx_i ?_ | refine b_idx_sn ?_ | refine b_idx_s ?_) | (refine h_row ?_; first | refine b_row_q ?_ | refine b_row_i ?_ | refine b_row_p ?_) | (refine h_len ?_; first | refine a_len_m ?_ | refine a_len_l ?_ | refine a_len_s ?_ | refine a_len_n ?_ | refine a_len_e ?_) | (refine h_ext ?_; refine b_ext ?_) | (refine h_calm ?_; refine b_calm ?_) | (refine h_note ?_; refine a_note ?_) | (refine h_pick ?_; first | refine b_pick_t ?_ | refine b_pick_f ?_) | (refine h_grd ?_; first | refine b_grd_y ?_ | refine b_grd_n ?_ | refine a_grd_u ?_ | refine a_grd_t (fun h => ?_) (fun h => ?_) | refine a_grd_f (fun h => ?_) (fun h => ?_)) | (refine h_dgrd ?_; first | refine b_dgrd_y ?_ | refine b_dgrd_n ?_ | refine a_dgrd_u ?_ | refine a_dgrd_t (fun h => ?_) (fun h => ?_) | refine a_dgrd_f (fun h => ?_) (fun h => ?_)) | (refine h_nilchk ?_; first | refine a_nil_p ?_ | refine a_nil_q ?_ | refine a_nil_f ?_) | refine a_mark ?_ | refine a_dmark ?_ | (refine h_un ?_; first | refine a_not ?_ | refine a_neg ?_) | (refine h_box ?_; refine b_box (fun nb_ hnb_ => ?_)) | (refine h_frz1 ?_; first | refine b_frz_p ?_ | refine b_frz_s ?_) | (refine h_store ?_; first | refine b_store_box ?_ | refine b_store_one ?_ | refine b_store_row ?_) | (refine h_idxP ?_; first | refine b_idxP_p ?_ | refine b_idxP_q ?_) | (refine h_mslice ?_; refine b_mslice (fun nb_ hnb_ => ?_)) | (refine h_bslice ?_; refine b_bslice (fun nb_ hnb_ => ?_)) | refine a_conv ?_ | refine a_convS ?_ | refine a_alloc (fun nb_ hnb_ => ?_) | refine b_build ?_ | refine b_fld ?_ | refine a_join ?_ | refine a_lenS ?_ | refine a_tt ?_)
      exact hz _
    · have hd2 : decide ((c.ins.length : Int) ≤ e.pc) = false := by simpa using p2
      have hin : inB e.pc c.ins.length = true := by simp [inB]; omega
      have hx := at_inB (f := InD.enc) hin
      generalize hi : c.ins.getD e.pc.toNat default = i at hx
      by_cases p3 : i.op < 1 ∨ 5 < i.op
      · have hr := run_stop (k := c.ins.length - k) hin (by rw [hi]; exact p3)
        rw [hr] at hq
        have fin : ∀ x, Q (.tup [.agg (rowT e o t), .bool true]) ((b4, x) :: StT e b3 o t) := fun x => hq _ _ (fz_res (fz_row ho' ht' fun p hp => by unfold StT; exact .tail _ (.tail _ hp)))
        unfold StT rowT at fin ⊢
        by_cases p4 : i.op < 1
        · have q1 : decide (i.op < 1) = true := by simpa using p4
          rcases o with _ | b1 <;> rcases t with _ | b2
          all_goals
            dsimp only [slotL, slotB, List.cons_append, List.nil_append] at fin ⊢
            repeat' (first | (refine h_load1 ?_; first | refine b_load_q ?_ | refine b_load_i ?_ | refine b_load_p ?_) | (refine h_faddr ?_; first | refine a_faddr_q ?_ | refine a_faddr_p ?_) | (refine h_bin ?_; first | refine a_eql ?_ | refine a_lss ?_ | refine a_neq ?_ | refine a_geq ?_ | refine a_gtr ?_ | refine a_leq ?_ | refine a_add ?_ | refine a_sub ?_ | refine a_mul ?_ | refine a_eqs ?_ | refine a_nes ?_ | refine b_rem ?_ | refine b_quo ?_) | (refine h_cond ?_; first | refine b_cond_t ?_ | refine b_cond_f ?_ | refine a_cond (fun h => ?_) (fun h => ?_)) | (refine h_idx ?_; first | refine b_idx_n ?_ | refine b_idx_l ?_ | refine b_idx_i ?_ | refine b_idx_sn ?_ | refine b_idx_s ?_) | (refine h_row ?_; first | refine b_row_q ?_ | refine b_row_i ?_ | refine b_row_p ?_) | (refine h_len ?_; first | refine a_len_m ?_ | refine a_len_l ?_ | refine a_len_s ?_ | refine a_len_n ?_ | refine a_len_e ?_) | (refine h_ext ?_; refine b_ext ?_) | (refine h_calm ?_; refine b_calm ?_) | (refine h_note ?_; refine a_note ?_) | (refine h_pick ?_; first | refine b_pick_t ?_ | refine b_pick_f ?_) | (refine h_grd ?_; first | refine b_grd_y ?_ | refine b_grd_n ?_ | refine a_grd_u ?_ | refine a_grd_t (fun h => ?_) (fun h => ?_) | refine a_grd_f (fun h => ?_) (fun h => ?_)) | (refine h_dgrd ?_; first | refine b_dgrd_y ?_ | refine b_dgrd_n ?_ | refine a_dgrd_u ?_ | refine a_dgrd_t (fun h => ?_) (fun h => ?_) | refine a_dgrd_f (fun h => ?_) (fun h => ?_)) | (refine h_nilchk ?_; first | refine a_nil_p ?_ | refine a_nil_q ?_ | refine a_nil_f ?_) | refine a_mark ?_ | refine a_dmark ?_ | (refine h_un ?_; first | refine a_not ?_ | refine a_neg ?_) | (refine h_box ?_; refine b_box (fun nb_ hnb_ => ?_)) | (refine h_frz1 ?_; first | refine b_frz_p ?_ | refine b_frz_s ?_) | (refine h_store ?_; first | refine b_store_box ?_ | refine b_store_one ?_ | refine b_store_row ?_) | (refine h_idxP ?_; first | refine b_idxP_p ?_ | refine b_idxP_q ?_) | (refine h_mslice ?_; refine b_mslice (fun nb_ hnb_ => ?_)) | (refine h_bslice ?_; refine b_bslice (fun nb_ hnb_ => ?_)) | refine a_conv ?_ | refine a_convS ?_ | refine a_alloc (fun nb_ hnb_ => ?_) | refine b_build ?_ | refine b_fld ?_ | refine a_join ?_ | refine a_lenS ?_ | refine a_tt ?_)
            exact fin _
        · have q1 : decide (i.op < 1) = false := by simpa using p4
          have q2 : decide (5 < i.op) = true := by simp; omega
          rcases o with _ | b1 <;> rcases t with _ | b2
          all_goals
            dsimp only [slotL, slotB, List.cons_append, List.nil_append] at fin ⊢
            repeat' (first | (refine h_load1 ?_; first | refine b_load_q ?_ | refine b_load_i ?_ | refine b_load_p ?_) | (refine h_faddr ?_; first | refine a_faddr_q ?_ | refine a_faddr_p ?_) | (refine h_bin ?_; first | refine a_eql ?_ | refine a_lss ?_ | refine a_neq ?_ | refine a_geq ?_ | refine a_gtr ?_ | refine a_leq ?_ | refine a_add ?_ | refine a_sub ?_ | refine a_mul ?_ | refine a_eqs ?_ | refine a_nes ?_ | refine b_rem ?_ | refine b_quo ?_) | (refine h_cond ?_; first | refine b_cond_t ?_ | refine b_cond_f ?_ | refine a_cond (fun h => ?_) (fun h => ?_)) | (refine h_idx ?_; first | refine b_idx_n ?_ | refine b_idx_l ?_ | refine b_idx_i ?_ | refine b_idx_sn ?_ | refine b_idx_s ?_) | (refine h_row ?_; first | refine b_row_q ?_ | refine b_row_i ?_ | refine b_row_p ?_) | (refine h_len ?_; first | refine a_len_m ?_ | refine a_len_l ?_ | refine a_len_s ?_ | refine a_len_n ?_ | refine a_len_e ?_) | (refine h_ext ?_; refine b_ext ?_) | (refine h_calm ?_; refine b_calm ?_) | (refine h_note ?_; refine a_note ?_) | (refine h_pick ?_; first | refine b_pick_t ?_ | refine b_pick_f ?_) | (refine h_grd ?_; first | refine b_grd_y ?_ | refine b_grd_n ?_ | refine a_grd_u ?_ | refine a_grd_t (fun h => ?_) (fun h => ?_) | refine a_grd_f (fun h => ?_) (fun h => ?_)) | (refine h_dgrd ?_; first | refine b_dgrd_y ?_ | refine b_dgrd_n ?_ | refine a_dgrd_u ?_ | refine a_dgrd_t (fun h => ?_) (fun h => ?_) | refine a_dgrd_f (fun h => ?_) (fun h => ?_)) | (refine h_nilchk ?_; first | refine a_nil_p ?_ | refine a_nil_q ?_ | refine a_nil_f ?_) | refine a_mark ?_ | refine a_dmark ?_ | (refine h_un ?_; first | refine a_not ?_ | refine a_neg ?_) | (refine h_box ?_; refine b_box (fun nb_ hnb_ => ?_)) | (refine h_frz1 ?_; first | refine b_frz_p ?_ | refine b_frz_s ?_) | (refine h_store ?_; first | refine b_store_box ?_ | refine b_store_one ?_ | refine b_store_row ?_) | (refine h_idxP ?_; first | refine b_idxP_p ?_ | refine b_idxP_q ?_) | (refine h_mslice ?_; refine b_mslice (fun nb_ hnb_ => ?_)) | (refine h_bslice ?_; refine b_bslice (fun nb_ hnb_ => ?_)) | refine a_conv ?_ | refine a_convS ?_ | refine a_alloc (fun nb_ hnb_ => ?_) | refine b_build ?_ | refine b_fld ?_ | refine a_join ?_ | refine a_lenS ?_ | refine a_tt ?_)
            exact fin _
      · have q1 : decide (i.op < 1) = false := by simp; omega
        have q2 : decide (5 < i.op) = false := by simp; omega
        by_cases p5 : k = c.ins.length
        · have q3 : decide ((k : Int) = (c.ins.length : Int)) = true := by simp [p5]
          have hz := zero (by rw [p5, Nat.sub_self]; exact run_zero hin (by rw [hi]; exact p3))
          unfold StT rowT
          repeat' (first | (refine h_load1 ?_; first | refine b_load_q ?_ | refine b_load_i ?_ | refine b_load_p ?_) | (refine h_faddr ?_; first | refine a_faddr_q ?_ | refine a_faddr_p ?_) | (refine h_bin ?_; first | refine a_eql ?_ | refine a_lss ?_ | refine a_neq ?_ | refine a_geq ?_ | refine a_gtr ?_ | refine a_leq ?_ | refine a_add ?_ | refine a_sub ?_ | refine a_mul ?_ | refine a_eqs ?_ | refine a_nes ?_ | refine b_rem ?_ | refine b_quo ?_) | (refine h_cond ?_; first | refine b_cond_t ?_ | refine b_cond_f ?_ | refine a_cond (fun h => ?_) (fun h => ?_)) | (refine h_idx ?_; first | refine b_idx_n ?_ | refine b_idx_l ?_ | refine b_idx_i ?_ | refine b_idx_sn ?_ | refine b_idx_s ?_) | (refine h_row ?_; first | refine b_row_q ?_ | refine b_row_i ?_ | refine b_row_p ?_) | (refine h_len ?_; first | refine a_len_m ?_ | refine a_len_l ?_ | refine a_len_s ?_ | refine a_len_n ?_ | refine a_len_e ?_) | (refine h_ext ?_; refine b_ext ?_) | (refine h_calm ?_; refine b_calm ?_) | (refine h_note ?_; refine a_note ?_) | (refine h_pick ?_; first | refine b_pick_t ?_ | refine b_pick_f ?_) | (refine h_grd ?_; first | refine b_grd_y ?_ | refine b_grd_n ?_ | refine a_grd_u ?_ | refine a_grd_t (fun h => ?_) (fun h => ?_) | refine a_grd_f (fun h => ?_) (fun h => ?_)) | (refine h_dgrd ?_; first | refine b_dgrd_y ?_ | refine b_dgrd_n ?_ | refine a_dgrd_u ?_ | refine a_dgrd_t (fun h => ?_) (fun h => ?_) | refine a_dgrd_f (fun h => ?_) (fun h => ?_)) | (refine h_nilchk ?_; first | refine a_nil_p ?_ | refine a_nil_q ?_ | refine a_nil_f ?_) | refine a_mark ?_ | refine a_dmark ?_ | (refine h_un ?_; first | refine a_not ?_ | refine a_neg ?_) | (refine h_box ?_; refine b_box (fun nb_ hnb_ => ?_)) | (refine h_frz1 ?_; first | refine b_frz_p ?_ | refine b_frz_s ?_) | (refine h_store ?_; first | refine b_store_box ?_ | refine b_store_one ?_ | refine b_store_row ?_) | (refine h_idxP ?_; first | refine b_idxP_p ?_ | refine b_idxP_q ?_) | (refine h_mslice ?_; refine b_mslice (fun nb_ hnb_ => ?_)) | (refine h_bslice ?_; refine b_bslice (fun nb_ hnb_ => ?_)) | refine a_conv ?_ | refine a_convS ?_ | refine a_alloc (fun nb_ hnb_ => ?_) | refine b_build ?_ | refine b_fld ?_ | refine a_join ?_ | refine a_lenS ?_ | refine a_tt ?_)
          exact hz _
        · have q3 : decide ((k : Int) = (c.ins.length : Int)) = false := by simp; omega
          have hex := exec_all e b3 o t ho' ht' he.len he.small he.short i (by omega) (by omega)
          obtain ⟨m, hm⟩ : ∃ m, c.ins.length - k = m + 1 := ⟨c.ins.length - k - 1, by omega⟩
          cases hst : stepS i e with
          | none =>
            have hz := zero (run_none hin (by rw [hi]; exact p3) (by rw [hi]; exact hst))
            rw [hst] at hex
            change CallA _ _ _ _ (fun v L => v = AV.bool false) at hex
            unfold StT rowT
            repeat' (first | (refine h_load1 ?_; first | refine b_load_q ?_ | refine b_load_i ?_ | refine b_load_p ?_) | (refine h_faddr ?_; first | refine a_faddr_q ?_ | refine a_faddr_p ?_) | (refine h_bin ?_; first | refine a_eql ?_ | refine a_lss ?_ | refine a_neq ?_ | refine a_geq ?_ | refine a_gtr ?_ | refine a_leq ?_ | refine a_add ?_ | refine a_sub ?_ | refine a_mul ?_ | refine a_eqs ?_ | refine a_nes ?_ | refine b_rem ?_ | refine b_quo ?_) | (refine h_cond ?_; first | refine b_cond_t ?_ | refine b_cond_f ?_ | refine a_cond (fun h => ?_) (fun h => ?_)) | (refine h_idx ?_; first | refine b_idx_n ?_ | refine b_idx_l ?_ | refine b_idx_i ?_ | refine b_idx_sn ?_ | refine b_idx_s ?_) | (refine h_row ?_; first | refine b_row_q ?_ | refine b_row_i ?_ | refine b_row_p ?_) | (refine h_len ?_; first | refine a_len_m ?_ | refine a_len_l ?_ | refine a_len_s ?_ | refine a_len_n ?_ | refine a_len_e ?_) | (refine h_ext ?_; refine b_ext ?_) | (refine h_calm ?_; refine b_calm ?_) | (refine h_note ?_; refine a_note ?_) | (refine h_pick ?_; first | refine b_pick_t ?_ | refine b_pick_f ?_) | (refine h_grd ?_; first | refine b_grd_y ?_ | refine b_grd_n ?_ | refine a_grd_u ?_ | refine a_grd_t (fun h => ?_) (fun h => ?_) | refine a_grd_f (fun h => ?_) (fun h => ?_)) | (refine h_dgrd ?_; first | refine b_dgrd_y ?_ | refine b_dgrd_n ?_ | refine a_dgrd_u ?_ | refine a_dgrd_t (fun h => ?_) (fun h => ?_) | refine a_dgrd_f (fun h => ?_) (fun h => ?_)) | (refine h_nilchk ?_; first | refine a_nil_p ?_ | refine a_nil_q ?_ | refine a_nil_f ?_) | refine a_mark ?_ | refine a_dmark ?_ | ((with_reducible refine h_fn 43 ?_); (refine m_callB hex (List.perm_append_comm (l₁ := [(b4, _)]) (l₂ := StT e b3 o t)) ?_; rintro _ K' rfl)) | (refine h_un ?_; first | refine a_not ?_ | refine a_neg ?_) | (refine h_box ?_; refine b_box (fun nb_ hnb_ => ?_)) | (refine h_frz1 ?_; first | refine b_frz_p ?_ | refine b_frz_s ?_) | (refine h_store ?_; first | refine b_store_box ?_ | refine b_store_one ?_ | refine b_store_row ?_) | (refine h_idxP ?_; first | refine b_idxP_p ?_ | refine b_idxP_q ?_) | (refine h_mslice ?_; refine b_mslice (fun nb_ hnb_ => ?_)) | (refine h_bslice ?_; refine b_bslice (fun nb_ hnb_ => ?_)) | refine a_conv ?_ | refine a_convS ?_ | refine a_alloc (fun nb_ hnb_ => ?_) | refine b_build ?_ | refine b_fld ?_ | refine a_join ?_ | refine a_lenS ?_ | refine a_tt ?_)
            exact hz _
          | some s2 =>
            rw [hst] at hex
            change CallA _ _ _ _ (fun v L => v = AV.bool true ∧ L = StT s2 b3 o t) at hex
            have hrun2 : runS c.ins (c.ins.length - (k + 1)) s2 = runS c.ins c.ins.length s := by
              rw [← hrun, hm, run_step hin (by rw [hi]; exact p3) (by rw [hi]; exact hst), show c.ins.length - (k + 1) = m by omega]
            have hls := step_lens hst
            unfold StT rowT
            repeat' (first | (refine h_load1 ?_; first | refine b_load_q ?_ | refine b_load_i ?_ | refine b_load_p ?_) | (refine h_faddr ?_; first | refine a_faddr_q ?_ | refine a_faddr_p ?_) | (refine h_bin ?_; first | refine a_eql ?_ | refine a_lss ?_ | refine a_neq ?_ | refine a_geq ?_ | refine a_gtr ?_ | refine a_leq ?_ | refine a_add ?_ | refine a_sub ?_ | refine a_mul ?_ | refine a_eqs ?_ | refine a_nes ?_ | refine b_rem ?_ | refine b_quo ?_) | (refine h_cond ?_; first | refine b_cond_t ?_ | refine b_cond_f ?_ | refine a_cond (fun h => ?_) (fun h => ?_)) | (refine h_idx ?_; first | refine b_idx_n ?_ | refine b_idx_l ?_ | refine b_idx_i ?_ | refine b_idx_sn ?_ | refine b_idx_s ?_) | (refine h_row ?_; first | refine b_row_q ?_ | refine b_row_i ?_ | refine b_row_p ?_) | (refine h_len ?_; first | refine a_len_m ?_ | refine a_len_l ?_ | refine a_len_s ?_ | refine a_len_n ?_ | refine a_len_e ?_) | (refine h_ext ?_; refine b_ext ?_) | (refine h_calm ?_; refine b_calm ?_) | (refine h_note ?_; refine a_note ?_) | (refine h_pick ?_; first | refine b_pick_t ?_ | refine b_pick_f ?_) | (refine h_grd ?_; first | refine b_grd_y ?_ | refine b_grd_n ?_ | refine a_grd_u ?_ | refine a_grd_t (fun h => ?_) (fun h => ?_) | refine a_grd_f (fun h => ?_) (fun h => ?_)) | (refine h_dgrd ?_; first | refine b_dgrd_y ?_ | refine b_dgrd_n ?_ | refine a_dgrd_u ?_ | refine a_dgrd_t (fun h => ?_) (fun h => ?_) | refine a_dgrd_f (fun h => ?_) (fun h => ?_)) | (refine h_nilchk ?_; first | refine a_nil_p ?_ | refine a_nil_q ?_ | refine a_nil_f ?_) | refine a_mark ?_ | refine a_dmark ?_ | ((with_reducible refine h_fn 43 ?_); (refine m_callB hex (List.perm_append_comm (l₁ := [(b4, _)]) (l₂ := StT e b3 o t)) ?_; rintro _ _ ⟨rfl, rfl⟩)) | (refine h_un ?_; first | refine a_not ?_ | refine a_neg ?_) | (refine h_box ?_; refine b_box (fun nb_ hnb_ => ?_)) | (refine h_frz1 ?_; first | refine b_frz_p ?_ | refine b_frz_s ?_) | (refine h_store ?_; first | refine b_store_box ?_ | refine b_store_one ?_ | refine b_store_row ?_) | (refine h_idxP ?_; first | refine b_idxP_p ?_ | refine b_idxP_q ?_) | (refine h_mslice ?_; refine b_mslice (fun nb_ hnb_ => ?_)) | (refine h_bslice ?_; refine b_bslice (fun nb_ hnb_ => ?_)) | refine a_conv ?_ | refine a_convS ?_ | refine a_alloc (fun nb_ hnb_ => ?_) | refine b_build ?_ | refine b_fld ?_ | refine a_join ?_ | refine a_lenS ?_ | refine a_tt ?_)
            exact ⟨k + 1, s2, by omega, by omega, ⟨he.step hU hst, ⟨by omega, by omega⟩, hrun2⟩, fzs_eq (by rw [i64_succ (by omega : k < c.ins.length) (by omega)]; rfl) rfl⟩
theorem settleR_loop (b3 b4 : Nat) (Q : AV → SH → Prop) (hq : ∀ v L, Fz L v (resT (runS c.ins c.ins.length s)) → Q v L) :
    W.loop (ref07_Settle_l2 Q) [.pptr [c.enc] 0 0, .ptr b3 0 0, .ptr b4 0 0, .int .i64 (0 : Nat)] ((b4, ⟨4, [zeroT]⟩) :: StT s b3 o t) := by
  refine loop_ex c.ins.length (fun k (e : TsD) => ([.pptr [c.enc] 0 0, .ptr b3 0 0, .ptr b4 0 0, .int .i64 k], (b4, ⟨4, [zeroT]⟩) :: StT e b3 o t)) (fun k e => Tame U e ∧ (e.regs.length = s.regs.length ∧ e.taint.length = s.taint.length) ∧ runS c.ins (c.ins.length - k) e = runS c.ins c.ins.length s) s ⟨hT, ⟨rfl, rfl⟩, rfl⟩ (.refl _ _) ?_
  intro k e hk ⟨he, ⟨hl1, hl2⟩, hrun⟩
  rw [← hrun] at hq
  have ho' : o = none → e.regs = [] := fun x => List.length_eq_zero_iff.1 (by rw [hl1, ho x]; rfl)
  have ht' : t = none → e.taint = [] := fun x => List.length_eq_zero_iff.1 (by rw [hl2, ht x]; rfl)
  dsimp only
  unfold ref07_Settle_l2
  have hd0 : decide ((k : Int) ≤ (c.ins.length : Int)) = true := by simp; omega
  have zero : runS c.ins (c.ins.length - k) e = (TsD.zero, false) → ∀ L, Q (.tup [.agg zeroT, .bool false]) L := fun h L => hq _ _ (by rw [h]; exact fz_res (fz_zero _))
  by_cases p1 : e.pc < 0
  · have hd1 : decide (e.pc < 0) = true := by simpa using p1
    have hz := zero (run_out (by simp [inB]; omega))
    unfold StT rowT
    repeat' (first | (refine h_load1 ?_; first | refine b_load_q ?_ | refine b_load_i ?_ | refine b_load_p ?_) | (refine h_faddr ?_; first | refine a_faddr_q ?_ | refine a_faddr_p ?_) | (refine h_bin ?_; first | refine a_eql ?_ | refine a_lss ?_ | refine a_neq ?_ | refine a_geq ?_ | refine a_gtr ?_ | refine a_leq ?_ | refine a_add ?_ | refine a_sub ?_ | refine a_mul ?_ | refine a_eqs ?_ | refine a_nes ?_ | refine b_rem ?_ | refine b_quo ?_) | (refine h_cond ?_; first | refine b_cond_t ?_ | refine b_cond_f ?_ | refine a_cond (fun h => ?_) (fun h => ?_)) | (refine h_idx ?_; first | refine b_idx_n ?_ | refine b_idx_l ?_ | refine b_idx_i ?_ | refine b_idx_sn ?_ | refine b_idx_s ?_) | (refine h_row ?_; first | refine b_row_q ?_ | refine b_row_i ?_ | refine b_row_p ?_) | (refine h_len ?_; first | refine a_len_m ?_ | refine a_len_l ?_ | refine a_len_s ?_ | refine a_len_n ?_ | refine a_len_e ?_) | (refine h_ext ?_; refine b_ext ?_) | (refine h_calm ?_; refine b_calm ?_) | (refine h_note ?_; refine a_note ?_) | (refine h_pick ?_; first | refine b_pick_t ?_ | refine b_pick_f ?_) | (refine h_grd ?_; first | refine b_grd_y ?_ | refine b_grd_n ?_ | refine a_grd_u ?_ | refine a_grd_t (fun h => ?_) (fun h => ?_) | refine a_grd_f (fun h => ?_) (fun h => ?_)) | (refine h_dgrd ?_; first | refine b_dgrd_y ?_ | refine b_dgrd_n ?_ | refine a_dgrd_u ?_ | refine a_dgrd_t (fun h => ?_) (fun h => ?_) | refine a_dgrd_f (fun h => ?_) (fun h => ?_)) | (refine h_nilchk ?_; first | refine a_nil_p ?_ | refine a_nil_q ?_ | refine a_nil_f ?_) | refine a_mark ?_ | refine a_dmark ?_ | (refine h_un ?_; first | refine a_not ?_ | refine a_neg ?_) | (refine h_box ?_; refine b_box (fun nb_ hnb_ => ?_)) | (refine h_frz1 ?_; first | refine b_frz_p ?_ | refine b_frz_s ?_) | (refine h_store ?_; first | refine b_store_box ?_ | refine b_store_one ?_ | refine b_store_row ?_) | (refine h_idxP ?_; first | refine b_idxP_p ?_ | refine b_idxP_q ?_) | (refine h_mslice ?_; refine b_mslice (fun nb_ hnb_ => ?_)) | (refine h_bslice ?_; refine b_bslice (fun nb_ hnb_ => ?_)) | refine a_conv ?_ | refine a_convS ?_ | refine a_alloc (fun nb_ hnb_ => ?_) | refine b_build ?_ | refine b_fld ?_ | refine a_join ?_ | refine a_lenS ?_ | refine a_tt ?_)
    exact hz _
  · have hd1 : decide (e.pc < 0) = false := by simpa using p1
    by_cases p2 : (c.ins.length : Int) ≤ e.pc
    · have hd2 : decide ((c.ins.length : Int) ≤ e.pc) = true := by simpa using p2
      have hz := zero (run_out (by simp [inB]; omega))
      unfold StT rowT
      repeat' (first | (refine h_load1 ?_; first | refine b_load_q ?_ | refine b_load_i ?_ | refine b_load_p ?_) | (refine h_faddr ?_; first | refine a_faddr_q ?_ | refine a_faddr_p ?_) | (refine h_bin ?_; first | refine a_eql ?_ | refine a_lss ?_ | refine a_neq ?_ | refine a_geq ?_ | refine a_gtr ?_ | refine a_leq ?_ | refine a_add ?_ | refine a_sub ?_ | refine a_mul ?_ | refine a_eqs ?_ | refine a_nes ?_ | refine b_rem ?_ | refine b_quo ?_) | (refine h_cond ?_; first | refine b_cond_t ?_ | refine b_cond_f ?_ | refine a_cond (fun h => ?_) (fun h => ?_)) | (refine h_idx ?_; first | refine b_idx_n ?_ | refine b_idx_l ?_ | refine b_idx_i ?_ | refine b_idx_sn ?_ | refine b_idx_s ?_) | (refine h_row ?_; first | refine b_row_q ?_ | refine b_row_i ?_ | refine b_row_p ?_) | (refine h_len ?_; first | refine a_len_m ?_ | refine a_len_l ?_ | refine a_len_s ?_ | refine a_len_n ?_ | refine a_len_e ?_) | (refine h_ext ?_; refine b_ext ?_) | (refine h_calm ?_; refine b_calm ?_) | (refine h_note ?_; refine a_note ?_) | (refine h_pick ?_; first | refine b_pick_t ?_ | refine b_pick_f ?_) | (refine h_grd ?_; first | refine b_grd_y ?_ | refine b_grd_n ?_ | refine a_grd_u ?_ | refine a_grd_t (fun h => ?_) (fun h => ?_) | refine a_grd_f (fun h => ?_) (fun h => ?_)) | (refine h_dgrd ?_; first | refine b_dgrd_y ?_ | refine b_dgrd_n ?_ | refine a_dgrd_u ?_ | refine a_dgrd_t (fun h => ?_) (fun h => ?_) | refine a_dgrd_f (fun h => ?_) (fun h => ?_)) | (refine h_nilchk ?_; first | refine a_nil_p ?_ | refine a_nil_q ?_ | refine a_nil_f ?_) | refine a_mark ?_ | refine a_dmark ?_ | (refine h_un ?_; first | refine a_not ?_ | refine a_neg ?_) | (refine h_box ?_; refine b_box (fun nb_ hnb_ => ?_)) | (refine h_frz1 ?_; first | refine b_frz_p ?_ | refine b_frz_s ?_) | (refine h_store ?_; first | refine b_store_box ?_ | refine b_store_one ?_ | refine b_store_row ?_) | (refine h_idxP ?_; first | refine b_idxP_p ?_ | refine b_idxP_q ?_) | (refine h_mslice ?_; refine b_mslice (fun nb_ hnb_ => ?_)) | (refine h_bslice ?_; refine b_bslice (fun nb_ hnb_ => ?_)) | refine a_conv ?_ | refine a_convS ?_ | refine a_alloc (fun nb_ hnb_ => ?_) | refine b_build ?_ | refine b_fld ?_ | refine a_join ?_ | refine a_lenS ?_ | refine a_tt ?_)
      exact hz _
    · have hd2 : decide ((c.ins.length : Int) ≤ e.pc) = false := by simpa using p2
      have hin : inB e.pc c.ins.length = true := by simp [inB]; omega
      have hx := at_inB (f := InD.enc) hin
      generalize hi : c.ins.getD e.pc.toNat default = i at hx
      have hsi := silent_ok i.op
      by_cases p3 : i.op < 1 ∨ 5 < i.op
      · have hr := run_stop (k := c.ins.length - k) hin (by rw [hi]; exact p3)
        rw [hr] at hq
        have fin : ∀ x, Q (.tup [.agg (rowT e o t), .bool true]) ((b4, x) :: StT e b3 o t) := fun x => hq _ _ (fz_res (fz_row ho' ht' fun p hp => by unfold StT; exact .tail _ (.tail _ hp)))
        unfold StT rowT at fin ⊢
        rw [show silS i.op = false by simp [silS]; omega] at hsi
        rcases o with _ | b1 <;> rcases t with _ | b2
        all_goals
          dsimp only [slotL, slotB, List.cons_append, List.nil_append] at fin ⊢
          repeat' (first | (refine h_load1 ?_; first | refine b_load_q ?_ | refine b_load_i ?_ | refine b_load_p ?_) | (refine h_faddr ?_; first | refine a_faddr_q ?_ | refine a_faddr_p ?_) | (refine h_bin ?_; first | refine a_eql ?_ | refine a_lss ?_ | refine a_neq ?_ | refine a_geq ?_ | refine a_gtr ?_ | refine a_leq ?_ | refine a_add ?_ | refine a_sub ?_ | refine a_mul ?_ | refine a_eqs ?_ | refine a_nes ?_ | refine b_rem ?_ | refine b_quo ?_) | (refine h_cond ?_; first | refine b_cond_t ?_ | refine b_cond_f ?_ | refine a_cond (fun h => ?_) (fun h => ?_)) | (refine h_idx ?_; first | refine b_idx_n ?_ | refine b_idx_l ?_ | refine b_idx_i ?_ | refine b_idx_sn ?_ | refine b_idx_s ?_) | (refine h_row ?_; first | refine b_row_q ?_ | refine b_row_i ?_ | refine b_row_p ?_) | (refine h_len ?_; first | refine a_len_m ?_ | refine a_len_l ?_ | refine a_len_s ?_ | refine a_len_n ?_ | refine a_len_e ?_) | (refine h_ext ?_; refine b_ext ?_) | (refine h_calm ?_; refine b_calm ?_) | (refine h_note ?_; refine a_note ?_) | (refine h_pick ?_; first | refine b_pick_t ?_ | refine b_pick_f ?_) | (refine h_grd ?_; first | refine b_grd_y ?_ | refine b_grd_n ?_ | refine a_grd_u ?_ | refine a_grd_t (fun h => ?_) (fun h => ?_) | refine a_grd_f (fun h => ?_) (fun h => ?_)) | (refine h_dgrd ?_; first | refine b_dgrd_y ?_ | refine b_dgrd_n ?_ | refine a_dgrd_u ?_ | refine a_dgrd_t (fun h => ?_) (fun h => ?_) | refine a_dgrd_f (fun h => ?_) (fun h => ?_)) | (refine h_nilchk ?_; first | refine a_nil_p ?_ | refine a_nil_q ?_ | refine a_nil_f ?_) | refine a_mark ?_ | refine a_dmark ?_ | ((with_reducible refine h_fn 45 ?_); refine m_call (hsi) ?_) | ((with_reducible refine h_dfn 45 ?_); refine b_dcall (hsi) ?_) | (refine h_un ?_; first | refine a_not ?_ | refine a_neg ?_) | (refine h_box ?_; refine b_box (fun nb_ hnb_ => ?_)) | (refine h_frz1 ?_; first | refine b_frz_p ?_ | refine b_frz_s ?_) | (refine h_store ?_; first | refine b_store_box ?_ | refine b_store_one ?_ | refine b_store_row ?_) | (refine h_idxP ?_; first | refine b_idxP_p ?_ | refine b_idxP_q ?_) | (refine h_mslice ?_; refine b_mslice (fun nb_ hnb_ => ?_)) | (refine h_bslice ?_; refine b_bslice (fun nb_ hnb_ => ?_)) | refine a_conv ?_ | refine a_convS ?_ | refine a_alloc (fun nb_ hnb_ => ?_) | refine b_build ?_ | refine b_fld ?_ | refine a_join ?_ | refine a_lenS ?_ | refine a_tt ?_)
          exact fin _
      · rw [show silS i.op = true by simp [silS]; omega] at hsi
        by_cases p5 : k = c.ins.length
        · have q3 : decide ((k : Int) = (c.ins.length : Int)) = true := by simp [p5]
          have hz := zero (by rw [p5, Nat.sub_self]; exact run_zero hin (by rw [hi]; exact p3))
          unfold StT rowT
          repeat' (first | (refine h_load1 ?_; first | refine b_load_q ?_ | refine b_load_i ?_ | refine b_load_p ?_) | (refine h_faddr ?_; first | refine a_faddr_q ?_ | refine a_faddr_p ?_) | (refine h_bin ?_; first | refine a_eql ?_ | refine a_lss ?_ | refine a_neq ?_ | refine a_geq ?_ | refine a_gtr ?_ | refine a_leq ?_ | refine a_add ?_ | refine a_sub ?_ | refine a_mul ?_ | refine a_eqs ?_ | refine a_nes ?_ | refine b_rem ?_ | refine b_quo ?_) | (refine h_cond ?_; first | refine b_cond_t ?_ | refine b_cond_f ?_ | refine a_cond (fun h => ?_) (fun h => ?_)) | (refine h_idx ?_; first | refine b_idx_n ?_ | refine b_idx_l ?_ | refine b_idx_i ?_ | refine b_idx_sn ?_ | refine b_idx_s ?_) | (refine h_row ?_; first | refine b_row_q ?_ | refine b_row_i ?_ | refine b_row_p ?_) | (refine h_len ?_; first | refine a_len_m ?_ | refine a_len_l ?_ | refine a_len_s ?_ | refine a_len_n ?_ | refine a_len_e ?_) | (refine h_ext ?_; refine b_ext ?_) | (refine h_calm ?_; refine b_calm ?_) | (refine h_note ?_; refine a_note ?_) | (refine h_pick ?_; first | refine b_pick_t ?_ | refine b_pick_f ?_) | (refine h_grd ?_; first | refine b_grd_y ?_ | refine b_grd_n ?_ | refine a_grd_u ?_ | refine a_grd_t (fun h => ?_) (fun h => ?_) | refine a_grd_f (fun h => ?_) (fun h => ?_)) | (refine h_dgrd ?_; first | refine b_dgrd_y ?_ | refine b_dgrd_n ?_ | refine a_dgrd_u ?_ | refine a_dgrd_t (fun h => ?_) (fun h => ?_) | refine a_dgrd_f (fun h => ?_) (fun h => ?_)) | (refine h_nilchk ?_; first | refine a_nil_p ?_ | refine a_nil_q ?_ | refine a_nil_f ?_) | refine a_mark ?_ | refine a_dmark ?_ | ((with_reducible refine h_fn 45 ?_); refine m_call (hsi) ?_) | ((with_reducible refine h_dfn 45 ?_); refine b_dcall (hsi) ?_) | (refine h_un ?_; first | refine a_not ?_ | refine a_neg ?_) | (refine h_box ?_; refine b_box (fun nb_ hnb_ => ?_)) | (refine h_frz1 ?_; first | refine b_frz_p ?_ | refine b_frz_s ?_) | (refine h_store ?_; first | refine b_store_box ?_ | refine b_store_one ?_ | refine b_store_row ?_) | (refine h_idxP ?_; first | refine b_idxP_p ?_ | refine b_idxP_q ?_) | (refine h_mslice ?_; refine b_mslice (fun nb_ hnb_ => ?_)) | (refine h_bslice ?_; refine b_bslice (fun nb_ hnb_ => ?_)) | refine a_conv ?_ | refine a_convS ?_ | refine a_alloc (fun nb_ hnb_ => ?_) | refine b_build ?_ | refine b_fld ?_ | refine a_join ?_ | refine a_lenS ?_ | refine a_tt ?_)
          exact hz _
        · have q3 : decide ((k : Int) = (c.ins.length : Int)) = false := by simp; omega
          have hex := step_all e o t ho' ht' he.len he.small he.short i (by omega) (by omega)
          obtain ⟨m, hm⟩ : ∃ m, c.ins.length - k = m + 1 := ⟨c.ins.length - k - 1, by omega⟩
          cases hst : stepS i e with
          | none =>
            have hz := zero (run_none hin (by rw [hi]; exact p3) (by rw [hi]; exact hst))
            rw [hst] at hex
            change CallA _ _ _ _ (fun v L => v = .tup [.agg zeroT, .bool false] ∨ ∃ s3 : TsD, v = .tup [.agg (rowT s3 o t), .bool false]) at hex
            unfold StT
            rcases o with _ | b1 <;> rcases t with _ | b2
            all_goals
              repeat' (first | (refine h_load1 ?_; first | refine b_load_q ?_ | refine b_load_i ?_ | refine b_load_p ?_) | (refine h_faddr ?_; first | refine a_faddr_q ?_ | refine a_faddr_p ?_) | (refine h_bin ?_; first | refine a_eql ?_ | refine a_lss ?_ | refine a_neq ?_ | refine a_geq ?_ | refine a_gtr ?_ | refine a_leq ?_ | refine a_add ?_ | refine a_sub ?_ | refine a_mul ?_ | refine a_eqs ?_ | refine a_nes ?_ | refine b_rem ?_ | refine b_quo ?_) | (refine h_cond ?_; first | refine b_cond_t ?_ | refine b_cond_f ?_ | refine a_cond (fun h => ?_) (fun h => ?_)) | (refine h_idx ?_; first | refine b_idx_n ?_ | refine b_idx_l ?_ | refine b_idx_i ?_ | refine b_idx_sn ?_ | refine b_idx_s ?_) | (refine h_row ?_; first | refine b_row_q ?_ | refine b_row_i ?_ | refine b_row_p ?_) | (refine h_len ?_; first | refine a_len_m ?_ | refine a_len_l ?_ | refine a_len_s ?_ | refine a_len_n ?_ | refine a_len_e ?_) | (refine h_ext ?_; refine b_ext ?_) | (refine h_calm ?_; refine b_calm ?_) | (refine h_note ?_; refine a_note ?_) | (refine h_pick ?_; first | refine b_pick_t ?_ | refine b_pick_f ?_) | (refine h_grd ?_; first | refine b_grd_y ?_ | refine b_grd_n ?_ | refine a_grd_u ?_ | refine a_grd_t (fun h => ?_) (fun h => ?_) | refine a_grd_f (fun h => ?_) (fun h => ?_)) | (refine h_dgrd ?_; first | refine b_dgrd_y ?_ | refine b_dgrd_n ?_ | refine a_dgrd_u ?_ | refine a_dgrd_t (fun h => ?_) (fun h => ?_) | refine a_dgrd_f (fun h => ?_) (fun h => ?_)) | (refine h_nilchk ?_; first | refine a_nil_p ?_ | refine a_nil_q ?_ | refine a_nil_f ?_) | refine a_mark ?_ | refine a_dmark ?_ | ((with_reducible refine h_fn 45 ?_); refine m_call (hsi) ?_) | ((with_reducible refine h_dfn 45 ?_); refine b_dcall (hsi) ?_) | ((with_reducible refine h_fn 46 ?_); (refine m_callB (R := [(b4, _), (b3, _)]) hex (List.perm_append_comm (l₁ := [(b4, _), (b3, _)])) ?_; rintro _ K' (rfl | ⟨s3, rfl⟩))) | (refine h_un ?_; first | refine a_not ?_ | refine a_neg ?_) | (refine h_box ?_; refine b_box (fun nb_ hnb_ => ?_)) | (refine h_frz1 ?_; first | refine b_frz_p ?_ | refine b_frz_s ?_) | (refine h_store ?_; first | refine b_store_box ?_ | refine b_store_one ?_ | refine b_store_row ?_) | (refine h_idxP ?_; first | refine b_idxP_p ?_ | refine b_idxP_q ?_) | (refine h_mslice ?_; refine b_mslice (fun nb_ hnb_ => ?_)) | (refine h_bslice ?_; refine b_bslice (fun nb_ hnb_ => ?_)) | refine a_conv ?_ | refine a_convS ?_ | refine a_alloc (fun nb_ hnb_ => ?_) | refine b_build ?_ | refine b_fld ?_ | refine a_join ?_ | refine a_lenS ?_ | refine a_tt ?_)
              all_goals exact hz _
          | some s2 =>
            rw [hst] at hex
            change CallA _ _ _ _ (fun v L => v = .tup [.agg (rowT s2 o t), .bool true] ∧ L = slotB o 1 (s2.regs.map intE) ++ slotB t 1 (s2.taint.map lstE)) at hex
            have hrun2 : runS c.ins (c.ins.length - (k + 1)) s2 = runS c.ins c.ins.length s := by
              rw [← hrun, hm, run_step hin (by rw [hi]; exact p3) (by rw [hi]; exact hst), show c.ins.length - (k + 1) = m by omega]
            have hls := step_lens hst
            unfold StT
            rcases o with _ | b1 <;> rcases t with _ | b2
            all_goals
              repeat' (first | (refine h_load1 ?_; first | refine b_load_q ?_ | refine b_load_i ?_ | refine b_load_p ?_) | (refine h_faddr ?_; first | refine a_faddr_q ?_ | refine a_faddr_p ?_) | (refine h_bin ?_; first | refine a_eql ?_ | refine a_lss ?_ | refine a_neq ?_ | refine a_geq ?_ | refine a_gtr ?_ | refine a_leq ?_ | refine a_add ?_ | refine a_sub ?_ | refine a_mul ?_ | refine a_eqs ?_ | refine a_nes ?_ | refine b_rem ?_ | refine b_quo ?_) | (refine h_cond ?_; first | refine b_cond_t ?_ | refine b_cond_f ?_ | refine a_cond (fun h => ?_) (fun h => ?_)) | (refine h_idx ?_; first | refine b_idx_n ?_ | refine b_idx_l ?_ | refine b_idx_i ?_ | refine b_idx_sn ?_ | refine b_idx_s ?_) | (refine h_row ?_; first | refine b_row_q ?_ | refine b_row_i ?_ | refine b_row_p ?_) | (refine h_len ?_; first | refine a_len_m ?_ | refine a_len_l ?_ | refine a_len_s ?_ | refine a_len_n ?_ | refine a_len_e ?_) | (refine h_ext ?_; refine b_ext ?_) | (refine h_calm ?_; refine b_calm ?_) | (refine h_note ?_; refine a_note ?_) | (refine h_pick ?_; first | refine b_pick_t ?_ | refine b_pick_f ?_) | (refine h_grd ?_; first | refine b_grd_y ?_ | refine b_grd_n ?_ | refine a_grd_u ?_ | refine a_grd_t (fun h => ?_) (fun h => ?_) | refine a_grd_f (fun h => ?_) (fun h => ?_)) | (refine h_dgrd ?_; first | refine b_dgrd_y ?_ | refine b_dgrd_n ?_ | refine a_dgrd_u ?_ | refine a_dgrd_t (fun h => ?_) (fun h => ?_) | refine a_dgrd_f (fun h => ?_) (fun h => ?_)) | (refine h_nilchk ?_; first | refine a_nil_p ?_ | refine a_nil_q ?_ | refine a_nil_f ?_) | refine a_mark ?_ | refine a_dmark ?_ | ((with_reducible refine h_fn 45 ?_); refine m_call (hsi) ?_) | ((with_reducible refine h_dfn 45 ?_); refine b_dcall (hsi) ?_) | ((with_reducible refine h_fn 46 ?_); (refine m_callB (R := [(b4, _), (b3, _)]) hex (List.perm_append_comm (l₁ := [(b4, _), (b3, _)])) ?_; rintro _ _ ⟨rfl, rfl⟩)) | (refine h_un ?_; first | refine a_not ?_ | refine a_neg ?_) | (refine h_box ?_; refine b_box (fun nb_ hnb_ => ?_)) | (refine h_frz1 ?_; first | refine b_frz_p ?_ | refine b_frz_s ?_) | (refine h_store ?_; first | refine b_store_box ?_ | refine b_store_one ?_ | refine b_store_row ?_) | (refine h_idxP ?_; first | refine b_idxP_p ?_ | refine b_idxP_q ?_) | (refine h_mslice ?_; refine b_mslice (fun nb_ hnb_ => ?_)) | (refine h_bslice ?_; refine b_bslice (fun nb_ hnb_ => ?_)) | refine a_conv ?_ | refine a_convS ?_ | refine a_alloc (fun nb_ hnb_ => ?_) | refine b_build ?_ | refine b_fld ?_ | refine a_join ?_ | refine a_lenS ?_ | refine a_tt ?_)
              exact ⟨k + 1, s2, by omega, by omega, ⟨he.step hU hst, ⟨by omega, by omega⟩, hrun2⟩, fzs_eq (by rw [i64_succ (by omega : k < c.ins.length) (by omega)]; rfl) rfl⟩
end
end Go.Proofs.Ytadjimfkfmojkaa.Am

end
section
namespace Go.Proofs.Ytadjimfkfmojkaa.Am
set_option maxRecDepth 100000
set_option linter.unusedSimpArgs false
set_option linter.unusedVariables false
theorem take_step {α : Type} {a b : List α} {i : Nat} (ha : i < a.length) (hb : i < b.length) (h : a.take i = b.take i) (he : a[i] = b[i]) : a.take (i + 1) = b.take (i + 1) := by
  rw [List.take_succ_eq_append_getElem ha, List.take_succ_eq_append_getElem hb, h, he]
theorem take_all {α : Type} {a b : List α} {i : Nat} (ha : a.length ≤ i) (hl : a.length = b.length) (h : a.take i = b.take i) : a = b := by
  rwa [List.take_of_length_le ha, List.take_of_length_le (by omega)] at h
theorem sameInts_ok (a b : List Int) (hl : a.length < 2 ^ 62) : PureA Try.prog 34 [.lst (a.map intE), .lst (b.map intE)] (.bool (decide (a = b))) := by
  refine ref07_SameInts_ok _ _ _ _ ?_
  unfold ref07_SameInts_w
  repeat' (first | (refine h_bin ?_; refine a_neq ?_) | (refine h_cond ?_; refine a_cond (fun h => ?_) (fun h => ?_)) | (refine h_len ?_; refine a_len_m ?_))
  · refine ⟨?_, rfl⟩
    have := of_decide_eq_true h
    rw [show decide (a = b) = false from decide_eq_false fun e => this (by rw [e])]
  · have he : a.length = b.length := by have := of_decide_eq_false h; omega
    refine for_by a.length (fun i => ([.lst (a.map intE), .lst (b.map intE), .int .i64 i], [])) (fun i => a.take i = b.take i) rfl rfl rfl ?_
    intro i hi hG
    dsimp only
    unfold ref07_SameInts_l0
    rcases Nat.lt_or_ge i a.length with g1 | g1
    · have g2 : i < b.length := by omega
      have hx := map_at (f := intE) g1
      have hy := map_at (f := intE) g2
      have hd := dec_lt g1
      repeat' (first | (refine h_load1 ?_; refine b_load_q ?_) | (refine h_bin ?_; first | refine a_lss ?_ | refine a_neq ?_ | refine a_add ?_) | (refine h_cond ?_; first | refine b_cond_t ?_ | refine a_cond (fun h => ?_) (fun h => ?_)) | (refine h_idx ?_; refine b_idx_n ?_) | (refine h_len ?_; refine a_len_m ?_) | (refine h_calm ?_; refine b_calm ?_) | (refine h_note ?_; refine a_note ?_) | refine a_tt ?_)
      · refine ⟨?_, rfl⟩
        have h3 := of_decide_eq_true h
        rw [show decide (a = b) = false from decide_eq_false fun e => h3 (by subst e; rfl)]
      · refine ⟨i + 1, by omega, by omega, take_step g1 g2 hG (by simpa using h), fzs_eq (by rw [i64_succ g1 hl]; rfl) rfl⟩
    · have hd := dec_ge g1
      repeat' (first | (refine h_bin ?_; refine a_lss ?_) | (refine h_cond ?_; refine b_cond_f ?_) | (refine h_len ?_; refine a_len_m ?_))
      refine ⟨?_, rfl⟩
      rw [show decide (a = b) = true from decide_eq_true (take_all g1 he hG)]
end Go.Proofs.Ytadjimfkfmojkaa.Am

end
section
namespace Go.Proofs.Ytadjimfkfmojkaa.Am
set_option maxRecDepth 100000
set_option linter.unusedSimpArgs false
set_option linter.unusedVariables false
set_option linter.unusedSectionVars false
theorem run_tame {U : List Int} (hU : U.length ≤ 2 ^ 30) {ins : List InD} : ∀ (k : Nat) {s : TsD}, Tame U s → Tame U (runS ins k s).1 := by
  have hz : Tame U TsD.zero := ⟨rfl, by decide, nofun, nofun⟩
  intro k
  induction k with
  | zero =>
    intro s h
    unfold runS
    split
    · split
      · exact h
      · exact hz
    · exact hz
  | succ k ih =>
    intro s h
    unfold runS
    split
    · split
      · exact h
      · split
        · exact hz
        · rename_i s2 he
          exact ih (h.step hU he)
    · exact hz
theorem settle_tame {U : List Int} (hU : U.length ≤ 2 ^ 30) {c : TcD} {s : TsD} (h : Tame U s) : Tame U (settleS c s).1 := by
  unfold settleS
  split
  · exact run_tame hU _ h
  · exact ⟨rfl, by decide, nofun, nofun⟩
section
variable (c : TcD) (s : TsD) (U : List Int) (hU : U.length ≤ 2 ^ 30) (hr : s.regs.length < 2 ^ 40) (ht : s.taint.length < 2 ^ 40) (hsh : ∀ l ∈ s.taint, l.length ≤ 2 ^ 30) (hsub : ∀ l ∈ s.taint, ∀ x ∈ l, x ∈ U) (hc : c.ins.length < 2 ^ 40)
include hU hr ht hsh hsub hc
theorem settle_ok : PureA Try.prog 16 [.agg c.enc, .agg s.enc] (resT (settleS c s)) := by
  refine CallA.fz (silent_Settle_ok _ _ _ _ ?_)
  unfold silent_Settle_w
  generalize hQ : (fun (v : AV) (L : SH) => ∃ v2 L2, FzS [v] L [v2] L2 ∧ v2 = resT (settleS c s) ∧ L2 = []) = Q
  have hq : ∀ v L, Fz L v (resT (settleS c s)) → Q v L := fun v L h => by
    subst hQ; exact ⟨_, [], FzS.all h, rfl, rfl⟩
  clear hQ
  by_cases p1 : (s.regs.length : Int) = c.regs
  · have d1 : decide ((s.regs.length : Int) ≠ c.regs) = false := by simpa using p1
    by_cases p2 : (s.taint.length : Int) = c.regs
    · have d2 : decide ((s.taint.length : Int) ≠ c.regs) = false := by simpa using p2
      have hT : Tame U s := ⟨by omega, hr, hsh, hsub⟩
      have e : settleS c s = runS c.ins c.ins.length s := by unfold settleS; rw [if_pos ⟨p1, p2⟩]
      rw [e] at hq
      have hcl := cloneT2_ok s hr ht hsh
      repeat' (first | (refine h_load1 ?_; first | refine b_load_q ?_ | refine b_load_i ?_ | refine b_load_p ?_) | (refine h_faddr ?_; first | refine a_faddr_q ?_ | refine a_faddr_p ?_) | (refine h_bin ?_; first | refine a_eql ?_ | refine a_lss ?_ | refine a_neq ?_ | refine a_geq ?_ | refine a_gtr ?_ | refine a_leq ?_ | refine a_add ?_ | refine a_sub ?_ | refine a_mul ?_ | refine a_eqs ?_ | refine a_nes ?_ | refine b_rem ?_ | refine b_quo ?_) | (refine h_cond ?_; first | refine b_cond_t ?_ | refine b_cond_f ?_ | refine a_cond (fun h => ?_) (fun h => ?_)) | (refine h_idx ?_; first | refine b_idx_n ?_ | refine b_idx_l ?_ | refine b_idx_i ?_ | refine b_idx_sn ?_ | refine b_idx_s ?_) | (refine h_row ?_; first | refine b_row_q ?_ | refine b_row_i ?_ | refine b_row_p ?_) | (refine h_len ?_; first | refine a_len_m ?_ | refine a_len_l ?_ | refine a_len_s ?_ | refine a_len_n ?_ | refine a_len_e ?_) | (refine h_ext ?_; refine b_ext ?_) | (refine h_calm ?_; refine b_calm ?_) | (refine h_note ?_; refine a_note ?_) | (refine h_pick ?_; first | refine b_pick_t ?_ | refine b_pick_f ?_) | (refine h_grd ?_; first | refine b_grd_y ?_ | refine b_grd_n ?_ | refine a_grd_u ?_ | refine a_grd_t (fun h => ?_) (fun h => ?_) | refine a_grd_f (fun h => ?_) (fun h => ?_)) | (refine h_dgrd ?_; first | refine b_dgrd_y ?_ | refine b_dgrd_n ?_ | refine a_dgrd_u ?_ | refine a_dgrd_t (fun h => ?_) (fun h => ?_) | refine a_dgrd_f (fun h => ?_) (fun h => ?_)) | (refine h_nilchk ?_; first | refine a_nil_p ?_ | refine a_nil_q ?_ | refine a_nil_f ?_) | refine a_mark ?_ | refine a_dmark ?_ | ((with_reducible refine h_fn 42 ?_); (refine m_callB (K := []) hcl (List.Perm.refl _) ?_; rintro _ _ ⟨o, t, rfl, rfl, ho, ht2⟩)) | (refine h_un ?_; first | refine a_not ?_ | refine a_neg ?_) | (refine h_box ?_; refine b_box (fun nb_ hnb_ => ?_)) | (refine h_frz1 ?_; first | refine b_frz_p ?_ | refine b_frz_s ?_) | (refine h_store ?_; first | refine b_store_box ?_ | refine b_store_one ?_ | refine b_store_row ?_) | (refine h_idxP ?_; first | refine b_idxP_p ?_ | refine b_idxP_q ?_) | (refine h_mslice ?_; refine b_mslice (fun nb_ hnb_ => ?_)) | (refine h_bslice ?_; refine b_bslice (fun nb_ hnb_ => ?_)) | refine a_conv ?_ | refine a_convS ?_ | refine a_alloc (fun nb_ hnb_ => ?_) | refine b_build ?_ | refine b_fld ?_ | refine a_join ?_ | refine a_lenS ?_ | refine a_tt ?_)
      rename_i b3 _
      rcases o with _ | b1 <;> rcases t with _ | b2
      all_goals
        repeat' (first | (refine h_load1 ?_; first | refine b_load_q ?_ | refine b_load_i ?_ | refine b_load_p ?_) | (refine h_faddr ?_; first | refine a_faddr_q ?_ | refine a_faddr_p ?_) | (refine h_bin ?_; first | refine a_eql ?_ | refine a_lss ?_ | refine a_neq ?_ | refine a_geq ?_ | refine a_gtr ?_ | refine a_leq ?_ | refine a_add ?_ | refine a_sub ?_ | refine a_mul ?_ | refine a_eqs ?_ | refine a_nes ?_ | refine b_rem ?_ | refine b_quo ?_) | (refine h_cond ?_; first | refine b_cond_t ?_ | refine b_cond_f ?_ | refine a_cond (fun h => ?_) (fun h => ?_)) | (refine h_idx ?_; first | refine b_idx_n ?_ | refine b_idx_l ?_ | refine b_idx_i ?_ | refine b_idx_sn ?_ | refine b_idx_s ?_) | (refine h_row ?_; first | refine b_row_q ?_ | refine b_row_i ?_ | refine b_row_p ?_) | (refine h_len ?_; first | refine a_len_m ?_ | refine a_len_l ?_ | refine a_len_s ?_ | refine a_len_n ?_ | refine a_len_e ?_) | (refine h_ext ?_; refine b_ext ?_) | (refine h_calm ?_; refine b_calm ?_) | (refine h_note ?_; refine a_note ?_) | (refine h_pick ?_; first | refine b_pick_t ?_ | refine b_pick_f ?_) | (refine h_grd ?_; first | refine b_grd_y ?_ | refine b_grd_n ?_ | refine a_grd_u ?_ | refine a_grd_t (fun h => ?_) (fun h => ?_) | refine a_grd_f (fun h => ?_) (fun h => ?_)) | (refine h_dgrd ?_; first | refine b_dgrd_y ?_ | refine b_dgrd_n ?_ | refine a_dgrd_u ?_ | refine a_dgrd_t (fun h => ?_) (fun h => ?_) | refine a_dgrd_f (fun h => ?_) (fun h => ?_)) | (refine h_nilchk ?_; first | refine a_nil_p ?_ | refine a_nil_q ?_ | refine a_nil_f ?_) | refine a_mark ?_ | refine a_dmark ?_ | (refine h_un ?_; first | refine a_not ?_ | refine a_neg ?_) | (refine h_box ?_; refine b_box (fun nb_ hnb_ => ?_)) | (refine h_frz1 ?_; first | refine b_frz_p ?_ | refine b_frz_s ?_) | (refine h_store ?_; first | refine b_store_box ?_ | refine b_store_one ?_ | refine b_store_row ?_) | (refine h_idxP ?_; first | refine b_idxP_p ?_ | refine b_idxP_q ?_) | (refine h_mslice ?_; refine b_mslice (fun nb_ hnb_ => ?_)) | (refine h_bslice ?_; refine b_bslice (fun nb_ hnb_ => ?_)) | refine a_conv ?_ | refine a_convS ?_ | refine a_alloc (fun nb_ hnb_ => ?_) | refine b_build ?_ | refine b_fld ?_ | refine a_join ?_ | refine a_lenS ?_ | refine a_tt ?_)
        exact settle_loop c s U hU hT hc _ _ ho ht2 b3 nb_ Q hq
    · have d2 : decide ((s.taint.length : Int) ≠ c.regs) = true := by simpa using p2
      have e : settleS c s = (TsD.zero, false) := by unfold settleS; rw [if_neg (fun h => p2 h.2)]
      rw [e] at hq
      repeat' (first | (refine h_load1 ?_; first | refine b_load_q ?_ | refine b_load_i ?_ | refine b_load_p ?_) | (refine h_faddr ?_; first | refine a_faddr_q ?_ | refine a_faddr_p ?_) | (refine h_bin ?_; first | refine a_eql ?_ | refine a_lss ?_ | refine a_neq ?_ | refine a_geq ?_ | refine a_gtr ?_ | refine a_leq ?_ | refine a_add ?_ | refine a_sub ?_ | refine a_mul ?_ | refine a_eqs ?_ | refine a_nes ?_ | refine b_rem ?_ | refine b_quo ?_) | (refine h_cond ?_; first | refine b_cond_t ?_ | refine b_cond_f ?_ | refine a_cond (fun h => ?_) (fun h => ?_)) | (refine h_idx ?_; first | refine b_idx_n ?_ | refine b_idx_l ?_ | refine b_idx_i ?_ | refine b_idx_sn ?_ | refine b_idx_s ?_) | (refine h_row ?_; first | refine b_row_q ?_ | refine b_row_i ?_ | refine b_row_p ?_) | (refine h_len ?_; first | refine a_len_m ?_ | refine a_len_l ?_ | refine a_len_s ?_ | refine a_len_n ?_ | refine a_len_e ?_) | (refine h_ext ?_; refine b_ext ?_) | (refine h_calm ?_; refine b_calm ?_) | (refine h_note ?_; refine a_note ?_) | (refine h_pick ?_; first | refine b_pick_t ?_ | refine b_pick_f ?_) | (refine h_grd ?_; first | refine b_grd_y ?_ | refine b_grd_n ?_ | refine a_grd_u ?_ | refine a_grd_t (fun h => ?_) (fun h => ?_) | refine a_grd_f (fun h => ?_) (fun h => ?_)) | (refine h_dgrd ?_; first | refine b_dgrd_y ?_ | refine b_dgrd_n ?_ | refine a_dgrd_u ?_ | refine a_dgrd_t (fun h => ?_) (fun h => ?_) | refine a_dgrd_f (fun h => ?_) (fun h => ?_)) | (refine h_nilchk ?_; first | refine a_nil_p ?_ | refine a_nil_q ?_ | refine a_nil_f ?_) | refine a_mark ?_ | refine a_dmark ?_ | (refine h_un ?_; first | refine a_not ?_ | refine a_neg ?_) | (refine h_box ?_; refine b_box (fun nb_ hnb_ => ?_)) | (refine h_frz1 ?_; first | refine b_frz_p ?_ | refine b_frz_s ?_) | (refine h_store ?_; first | refine b_store_box ?_ | refine b_store_one ?_ | refine b_store_row ?_) | (refine h_idxP ?_; first | refine b_idxP_p ?_ | refine b_idxP_q ?_) | (refine h_mslice ?_; refine b_mslice (fun nb_ hnb_ => ?_)) | (refine h_bslice ?_; refine b_bslice (fun nb_ hnb_ => ?_)) | refine a_conv ?_ | refine a_convS ?_ | refine a_alloc (fun nb_ hnb_ => ?_) | refine b_build ?_ | refine b_fld ?_ | refine a_join ?_ | refine a_lenS ?_ | refine a_tt ?_)
      exact hq _ _ (fz_res (fz_zero _))
  · have d1 : decide ((s.regs.length : Int) ≠ c.regs) = true := by simpa using p1
    have e : settleS c s = (TsD.zero, false) := by unfold settleS; rw [if_neg (fun h => p1 h.1)]
    rw [e] at hq
    repeat' (first | (refine h_load1 ?_; first | refine b_load_q ?_ | refine b_load_i ?_ | refine b_load_p ?_) | (refine h_faddr ?_; first | refine a_faddr_q ?_ | refine a_faddr_p ?_) | (refine h_bin ?_; first | refine a_eql ?_ | refine a_lss ?_ | refine a_neq ?_ | refine a_geq ?_ | refine a_gtr ?_ | refine a_leq ?_ | refine a_add ?_ | refine a_sub ?_ | refine a_mul ?_ | refine a_eqs ?_ | refine a_nes ?_ | refine b_rem ?_ | refine b_quo ?_) | (refine h_cond ?_; first | refine b_cond_t ?_ | refine b_cond_f ?_ | refine a_cond (fun h => ?_) (fun h => ?_)) | (refine h_idx ?_; first | refine b_idx_n ?_ | refine b_idx_l ?_ | refine b_idx_i ?_ | refine b_idx_sn ?_ | refine b_idx_s ?_) | (refine h_row ?_; first | refine b_row_q ?_ | refine b_row_i ?_ | refine b_row_p ?_) | (refine h_len ?_; first | refine a_len_m ?_ | refine a_len_l ?_ | refine a_len_s ?_ | refine a_len_n ?_ | refine a_len_e ?_) | (refine h_ext ?_; refine b_ext ?_) | (refine h_calm ?_; refine b_calm ?_) | (refine h_note ?_; refine a_note ?_) | (refine h_pick ?_; first | refine b_pick_t ?_ | refine b_pick_f ?_) | (refine h_grd ?_; first | refine b_grd_y ?_ | refine b_grd_n ?_ | refine a_grd_u ?_ | refine a_grd_t (fun h => ?_) (fun h => ?_) | refine a_grd_f (fun h => ?_) (fun h => ?_)) | (refine h_dgrd ?_; first | refine b_dgrd_y ?_ | refine b_dgrd_n ?_ | refine a_dgrd_u ?_ | refine a_dgrd_t (fun h => ?_) (fun h => ?_) | refine a_dgrd_f (fun h => ?_) (fun h => ?_)) | (refine h_nilchk ?_; first | refine a_nil_p ?_ | refine a_nil_q ?_ | refine a_nil_f ?_) | refine a_mark ?_ | refine a_dmark ?_ | (refine h_un ?_; first | refine a_not ?_ | refine a_neg ?_) | (refine h_box ?_; refine b_box (fun nb_ hnb_ => ?_)) | (refine h_frz1 ?_; first | refine b_frz_p ?_ | refine b_frz_s ?_) | (refine h_store ?_; first | refine b_store_box ?_ | refine b_store_one ?_ | refine b_store_row ?_) | (refine h_idxP ?_; first | refine b_idxP_p ?_ | refine b_idxP_q ?_) | (refine h_mslice ?_; refine b_mslice (fun nb_ hnb_ => ?_)) | (refine h_bslice ?_; refine b_bslice (fun nb_ hnb_ => ?_)) | refine a_conv ?_ | refine a_convS ?_ | refine a_alloc (fun nb_ hnb_ => ?_) | refine b_build ?_ | refine b_fld ?_ | refine a_join ?_ | refine a_lenS ?_ | refine a_tt ?_)
    exact hq _ _ (fz_res (fz_zero _))
theorem settleR_ok : PureA Try.prog 17 [.agg c.enc, .agg s.enc] (resT (settleS c s)) := by
  refine CallA.fz (ref07_Settle_ok _ _ _ _ ?_)
  unfold ref07_Settle_w
  generalize hQ : (fun (v : AV) (L : SH) => ∃ v2 L2, FzS [v] L [v2] L2 ∧ v2 = resT (settleS c s) ∧ L2 = []) = Q
  have hq : ∀ v L, Fz L v (resT (settleS c s)) → Q v L := fun v L h => by
    subst hQ; exact ⟨_, [], FzS.all h, rfl, rfl⟩
  clear hQ
  by_cases p1 : (s.regs.length : Int) = c.regs
  · have d1 : decide ((s.regs.length : Int) ≠ c.regs) = false := by simpa using p1
    by_cases p2 : (s.taint.length : Int) = c.regs
    · have d2 : decide ((s.taint.length : Int) ≠ c.regs) = false := by simpa using p2
      have hT : Tame U s := ⟨by omega, hr, hsh, hsub⟩
      have e : settleS c s = runS c.ins c.ins.length s := by unfold settleS; rw [if_pos ⟨p1, p2⟩]
      rw [e] at hq
      have hcl := copyT_ok s hr ht hsh
      repeat' (first | (refine h_load1 ?_; first | refine b_load_q ?_ | refine b_load_i ?_ | refine b_load_p ?_) | (refine h_faddr ?_; first | refine a_faddr_q ?_ | refine a_faddr_p ?_) | (refine h_bin ?_; first | refine a_eql ?_ | refine a_lss ?_ | refine a_neq ?_ | refine a_geq ?_ | refine a_gtr ?_ | refine a_leq ?_ | refine a_add ?_ | refine a_sub ?_ | refine a_mul ?_ | refine a_eqs ?_ | refine a_nes ?_ | refine b_rem ?_ | refine b_quo ?_) | (refine h_cond ?_; first | refine b_cond_t ?_ | refine b_cond_f ?_ | refine a_cond (fun h => ?_) (fun h => ?_)) | (refine h_idx ?_; first | refine b_idx_n ?_ | refine b_idx_l ?_ | refine b_idx_i ?_ | refine b_idx_sn ?_ | refine b_idx_s ?_) | (refine h_row ?_; first | refine b_row_q ?_ | refine b_row_i ?_ | refine b_row_p ?_) | (refine h_len ?_; first | refine a_len_m ?_ | refine a_len_l ?_ | refine a_len_s ?_ | refine a_len_n ?_ | refine a_len_e ?_) | (refine h_ext ?_; refine b_ext ?_) | (refine h_calm ?_; refine b_calm ?_) | (refine h_note ?_; refine a_note ?_) | (refine h_pick ?_; first | refine b_pick_t ?_ | refine b_pick_f ?_) | (refine h_grd ?_; first | refine b_grd_y ?_ | refine b_grd_n ?_ | refine a_grd_u ?_ | refine a_grd_t (fun h => ?_) (fun h => ?_) | refine a_grd_f (fun h => ?_) (fun h => ?_)) | (refine h_dgrd ?_; first | refine b_dgrd_y ?_ | refine b_dgrd_n ?_ | refine a_dgrd_u ?_ | refine a_dgrd_t (fun h => ?_) (fun h => ?_) | refine a_dgrd_f (fun h => ?_) (fun h => ?_)) | (refine h_nilchk ?_; first | refine a_nil_p ?_ | refine a_nil_q ?_ | refine a_nil_f ?_) | refine a_mark ?_ | refine a_dmark ?_ | ((with_reducible refine h_fn 44 ?_); (refine m_callB (K := []) hcl (List.Perm.refl _) ?_; rintro _ _ ⟨o, t, rfl, rfl, ho, ht2⟩)) | (refine h_un ?_; first | refine a_not ?_ | refine a_neg ?_) | (refine h_box ?_; refine b_box (fun nb_ hnb_ => ?_)) | (refine h_frz1 ?_; first | refine b_frz_p ?_ | refine b_frz_s ?_) | (refine h_store ?_; first | refine b_store_box ?_ | refine b_store_one ?_ | refine b_store_row ?_) | (refine h_idxP ?_; first | refine b_idxP_p ?_ | refine b_idxP_q ?_) | (refine h_mslice ?_; refine b_mslice (fun nb_ hnb_ => ?_)) | (refine h_bslice ?_; refine b_bslice (fun nb_ hnb_ => ?_)) | refine a_conv ?_ | refine a_convS ?_ | refine a_alloc (fun nb_ hnb_ => ?_) | refine b_build ?_ | refine b_fld ?_ | refine a_join ?_ | refine a_lenS ?_ | refine a_tt ?_)
      rename_i b3 _
      rcases o with _ | b1 <;> rcases t with _ | b2
      all_goals
        repeat' (first | (refine h_load1 ?_; first | refine b_load_q ?_ | refine b_load_i ?_ | refine b_load_p ?_) | (refine h_faddr ?_; first | refine a_faddr_q ?_ | refine a_faddr_p ?_) | (refine h_bin ?_; first | refine a_eql ?_ | refine a_lss ?_ | refine a_neq ?_ | refine a_geq ?_ | refine a_gtr ?_ | refine a_leq ?_ | refine a_add ?_ | refine a_sub ?_ | refine a_mul ?_ | refine a_eqs ?_ | refine a_nes ?_ | refine b_rem ?_ | refine b_quo ?_) | (refine h_cond ?_; first | refine b_cond_t ?_ | refine b_cond_f ?_ | refine a_cond (fun h => ?_) (fun h => ?_)) | (refine h_idx ?_; first | refine b_idx_n ?_ | refine b_idx_l ?_ | refine b_idx_i ?_ | refine b_idx_sn ?_ | refine b_idx_s ?_) | (refine h_row ?_; first | refine b_row_q ?_ | refine b_row_i ?_ | refine b_row_p ?_) | (refine h_len ?_; first | refine a_len_m ?_ | refine a_len_l ?_ | refine a_len_s ?_ | refine a_len_n ?_ | refine a_len_e ?_) | (refine h_ext ?_; refine b_ext ?_) | (refine h_calm ?_; refine b_calm ?_) | (refine h_note ?_; refine a_note ?_) | (refine h_pick ?_; first | refine b_pick_t ?_ | refine b_pick_f ?_) | (refine h_grd ?_; first | refine b_grd_y ?_ | refine b_grd_n ?_ | refine a_grd_u ?_ | refine a_grd_t (fun h => ?_) (fun h => ?_) | refine a_grd_f (fun h => ?_) (fun h => ?_)) | (refine h_dgrd ?_; first | refine b_dgrd_y ?_ | refine b_dgrd_n ?_ | refine a_dgrd_u ?_ | refine a_dgrd_t (fun h => ?_) (fun h => ?_) | refine a_dgrd_f (fun h => ?_) (fun h => ?_)) | (refine h_nilchk ?_; first | refine a_nil_p ?_ | refine a_nil_q ?_ | refine a_nil_f ?_) | refine a_mark ?_ | refine a_dmark ?_ | (refine h_un ?_; first | refine a_not ?_ | refine a_neg ?_) | (refine h_box ?_; refine b_box (fun nb_ hnb_ => ?_)) | (refine h_frz1 ?_; first | refine b_frz_p ?_ | refine b_frz_s ?_) | (refine h_store ?_; first | refine b_store_box ?_ | refine b_store_one ?_ | refine b_store_row ?_) | (refine h_idxP ?_; first | refine b_idxP_p ?_ | refine b_idxP_q ?_) | (refine h_mslice ?_; refine b_mslice (fun nb_ hnb_ => ?_)) | (refine h_bslice ?_; refine b_bslice (fun nb_ hnb_ => ?_)) | refine a_conv ?_ | refine a_convS ?_ | refine a_alloc (fun nb_ hnb_ => ?_) | refine b_build ?_ | refine b_fld ?_ | refine a_join ?_ | refine a_lenS ?_ | refine a_tt ?_)
        exact settleR_loop c s U hU hT hc _ _ ho ht2 b3 nb_ Q hq
    · have d2 : decide ((s.taint.length : Int) ≠ c.regs) = true := by simpa using p2
      have e : settleS c s = (TsD.zero, false) := by unfold settleS; rw [if_neg (fun h => p2 h.2)]
      rw [e] at hq
      repeat' (first | (refine h_load1 ?_; first | refine b_load_q ?_ | refine b_load_i ?_ | refine b_load_p ?_) | (refine h_faddr ?_; first | refine a_faddr_q ?_ | refine a_faddr_p ?_) | (refine h_bin ?_; first | refine a_eql ?_ | refine a_lss ?_ | refine a_neq ?_ | refine a_geq ?_ | refine a_gtr ?_ | refine a_leq ?_ | refine a_add ?_ | refine a_sub ?_ | refine a_mul ?_ | refine a_eqs ?_ | refine a_nes ?_ | refine b_rem ?_ | refine b_quo ?_) | (refine h_cond ?_; first | refine b_cond_t ?_ | refine b_cond_f ?_ | refine a_cond (fun h => ?_) (fun h => ?_)) | (refine h_idx ?_; first | refine b_idx_n ?_ | refine b_idx_l ?_ | refine b_idx_i ?_ | refine b_idx_sn ?_ | refine b_idx_s ?_) | (refine h_row ?_; first | refine b_row_q ?_ | refine b_row_i ?_ | refine b_row_p ?_) | (refine h_len ?_; first | refine a_len_m ?_ | refine a_len_l ?_ | refine a_len_s ?_ | refine a_len_n ?_ | refine a_len_e ?_) | (refine h_ext ?_; refine b_ext ?_) | (refine h_calm ?_; refine b_calm ?_) | (refine h_note ?_; refine a_note ?_) | (refine h_pick ?_; first | refine b_pick_t ?_ | refine b_pick_f ?_) | (refine h_grd ?_; first | refine b_grd_y ?_ | refine b_grd_n ?_ | refine a_grd_u ?_ | refine a_grd_t (fun h => ?_) (fun h => ?_) | refine a_grd_f (fun h => ?_) (fun h => ?_)) | (refine h_dgrd ?_; first | refine b_dgrd_y ?_ | refine b_dgrd_n ?_ | refine a_dgrd_u ?_ | refine a_dgrd_t (fun h => ?_) (fun h => ?_) | refine a_dgrd_f (fun h => ?_) (fun h => ?_)) | (refine h_nilchk ?_; first | refine a_nil_p ?_ | refine a_nil_q ?_ | refine a_nil_f ?_) | refine a_mark ?_ | refine a_dmark ?_ | (refine h_un ?_; first | refine a_not ?_ | refine a_neg ?_) | (refine h_box ?_; refine b_box (fun nb_ hnb_ => ?_)) | (refine h_frz1 ?_; first | refine b_frz_p ?_ | refine b_frz_s ?_) | (refine h_store ?_; first | refine b_store_box ?_ | refine b_store_one ?_ | refine b_store_row ?_) | (refine h_idxP ?_; first | refine b_idxP_p ?_ | refine b_idxP_q ?_) | (refine h_mslice ?_; refine b_mslice (fun nb_ hnb_ => ?_)) | (refine h_bslice ?_; refine b_bslice (fun nb_ hnb_ => ?_)) | refine a_conv ?_ | refine a_convS ?_ | refine a_alloc (fun nb_ hnb_ => ?_) | refine b_build ?_ | refine b_fld ?_ | refine a_join ?_ | refine a_lenS ?_ | refine a_tt ?_)
      exact hq _ _ (fz_res (fz_zero _))
  · have d1 : decide ((s.regs.length : Int) ≠ c.regs) = true := by simpa using p1
    have e : settleS c s = (TsD.zero, false) := by unfold settleS; rw [if_neg (fun h => p1 h.1)]
    rw [e] at hq
    repeat' (first | (refine h_load1 ?_; first | refine b_load_q ?_ | refine b_load_i ?_ | refine b_load_p ?_) | (refine h_faddr ?_; first | refine a_faddr_q ?_ | refine a_faddr_p ?_) | (refine h_bin ?_; first | refine a_eql ?_ | refine a_lss ?_ | refine a_neq ?_ | refine a_geq ?_ | refine a_gtr ?_ | refine a_leq ?_ | refine a_add ?_ | refine a_sub ?_ | refine a_mul ?_ | refine a_eqs ?_ | refine a_nes ?_ | refine b_rem ?_ | refine b_quo ?_) | (refine h_cond ?_; first | refine b_cond_t ?_ | refine b_cond_f ?_ | refine a_cond (fun h => ?_) (fun h => ?_)) | (refine h_idx ?_; first | refine b_idx_n ?_ | refine b_idx_l ?_ | refine b_idx_i ?_ | refine b_idx_sn ?_ | refine b_idx_s ?_) | (refine h_row ?_; first | refine b_row_q ?_ | refine b_row_i ?_ | refine b_row_p ?_) | (refine h_len ?_; first | refine a_len_m ?_ | refine a_len_l ?_ | refine a_len_s ?_ | refine a_len_n ?_ | refine a_len_e ?_) | (refine h_ext ?_; refine b_ext ?_) | (refine h_calm ?_; refine b_calm ?_) | (refine h_note ?_; refine a_note ?_) | (refine h_pick ?_; first | refine b_pick_t ?_ | refine b_pick_f ?_) | (refine h_grd ?_; first | refine b_grd_y ?_ | refine b_grd_n ?_ | refine a_grd_u ?_ | refine a_grd_t (fun h => ?_) (fun h => ?_) | refine a_grd_f (fun h => ?_) (fun h => ?_)) | (refine h_dgrd ?_; first | refine b_dgrd_y ?_ | refine b_dgrd_n ?_ | refine a_dgrd_u ?_ | refine a_dgrd_t (fun h => ?_) (fun h => ?_) | refine a_dgrd_f (fun h => ?_) (fun h => ?_)) | (refine h_nilchk ?_; first | refine a_nil_p ?_ | refine a_nil_q ?_ | refine a_nil_f ?_) | refine a_mark ?_ | refine a_dmark ?_ | (refine h_un ?_; first | refine a_not ?_ | refine a_neg ?_) | (refine h_box ?_; refine b_box (fun nb_ hnb_ => ?_)) | (refine h_frz1 ?_; first | refine b_frz_p ?_ | refine b_frz_s ?_) | (refine h_store ?_; first | refine b_store_box ?_ | refine b_store_one ?_ | refine b_store_row ?_) | (refine h_idxP ?_; first | refine b_idxP_p ?_ | refine b_idxP_q ?_) | (refine h_mslice ?_; refine b_mslice (fun nb_ hnb_ => ?_)) | (refine h_bslice ?_; refine b_bslice (fun nb_ hnb_ => ?_)) | refine a_conv ?_ | refine a_convS ?_ | refine a_alloc (fun nb_ hnb_ => ?_) | refine b_build ?_ | refine b_fld ?_ | refine a_join ?_ | refine a_lenS ?_ | refine a_tt ?_)
    exact hq _ _ (fz_res (fz_zero _))
end
theorem sameT_ok (s : TsD) (h1 : s.regs.length < 2 ^ 40) (h2 : s.taint.length < 2 ^ 40) (h3 : ∀ l ∈ s.taint, l.length ≤ 2 ^ 30) : PureA Try.prog 18 [.agg s.enc, .agg s.enc] (.bool true) := by
  refine ref07_SameThread_ok _ _ _ _ ?_
  unfold ref07_SameThread_w
  generalize hQ : (fun (v : AV) (L : SH) => v = AV.bool true ∧ L = []) = Q
  have hq : Q (.bool true) [] := by subst hQ; exact ⟨rfl, rfl⟩
  clear hQ
  have d1 : decide (s.pc ≠ s.pc) = false := by simp
  have d2 : decide (s.ev ≠ s.ev) = false := by simp
  have d3 : decide ((s.regs.length : Int) ≠ (s.regs.length : Int)) = false := by simp
  have d4 : decide ((s.taint.length : Int) ≠ (s.taint.length : Int)) = false := by simp
  repeat' (first | (refine h_load1 ?_; first | refine b_load_q ?_ | refine b_load_i ?_ | refine b_load_p ?_) | (refine h_faddr ?_; first | refine a_faddr_q ?_ | refine a_faddr_p ?_) | (refine h_bin ?_; first | refine a_eql ?_ | refine a_lss ?_ | refine a_neq ?_ | refine a_geq ?_ | refine a_gtr ?_ | refine a_leq ?_ | refine a_add ?_ | refine a_sub ?_ | refine a_mul ?_ | refine a_eqs ?_ | refine a_nes ?_ | refine b_rem ?_ | refine b_quo ?_) | (refine h_cond ?_; first | refine b_cond_t ?_ | refine b_cond_f ?_ | refine a_cond (fun h => ?_) (fun h => ?_)) | (refine h_idx ?_; first | refine b_idx_n ?_ | refine b_idx_l ?_ | refine b_idx_i ?_ | refine b_idx_sn ?_ | refine b_idx_s ?_) | (refine h_row ?_; first | refine b_row_q ?_ | refine b_row_i ?_ | refine b_row_p ?_) | (refine h_len ?_; first | refine a_len_m ?_ | refine a_len_l ?_ | refine a_len_s ?_ | refine a_len_n ?_ | refine a_len_e ?_) | (refine h_ext ?_; refine b_ext ?_) | (refine h_calm ?_; refine b_calm ?_) | (refine h_note ?_; refine a_note ?_) | (refine h_pick ?_; first | refine b_pick_t ?_ | refine b_pick_f ?_) | (refine h_grd ?_; first | refine b_grd_y ?_ | refine b_grd_n ?_ | refine a_grd_u ?_ | refine a_grd_t (fun h => ?_) (fun h => ?_) | refine a_grd_f (fun h => ?_) (fun h => ?_)) | (refine h_dgrd ?_; first | refine b_dgrd_y ?_ | refine b_dgrd_n ?_ | refine a_dgrd_u ?_ | refine a_dgrd_t (fun h => ?_) (fun h => ?_) | refine a_dgrd_f (fun h => ?_) (fun h => ?_)) | (refine h_nilchk ?_; first | refine a_nil_p ?_ | refine a_nil_q ?_ | refine a_nil_f ?_) | refine a_mark ?_ | refine a_dmark ?_ | (refine h_un ?_; first | refine a_not ?_ | refine a_neg ?_) | (refine h_box ?_; refine b_box (fun nb_ hnb_ => ?_)) | (refine h_frz1 ?_; first | refine b_frz_p ?_ | refine b_frz_s ?_) | (refine h_store ?_; first | refine b_store_box ?_ | refine b_store_one ?_ | refine b_store_row ?_) | (refine h_idxP ?_; first | refine b_idxP_p ?_ | refine b_idxP_q ?_) | (refine h_mslice ?_; refine b_mslice (fun nb_ hnb_ => ?_)) | (refine h_bslice ?_; refine b_bslice (fun nb_ hnb_ => ?_)) | refine a_conv ?_ | refine a_convS ?_ | refine a_alloc (fun nb_ hnb_ => ?_) | refine b_build ?_ | refine b_fld ?_ | refine a_join ?_ | refine a_lenS ?_ | refine a_tt ?_)
  refine for_by s.regs.length (fun i => ([.pptr [s.enc] 0 0, .pptr [s.enc] 0 0, .int .i64 i], [])) (fun i => True) trivial rfl rfl ?_
  intro i hi _
  dsimp only
  unfold ref07_SameThread_l2
  rcases Nat.lt_or_ge i s.regs.length with g1 | g1
  · have hd := dec_lt g1
    have hx := map_at (f := intE) g1
    have d5 : decide (s.regs[i] ≠ s.regs[i]) = false := by simp
    repeat' (first | (refine h_load1 ?_; first | refine b_load_q ?_ | refine b_load_i ?_ | refine b_load_p ?_) | (refine h_faddr ?_; first | refine a_faddr_q ?_ | refine a_faddr_p ?_) | (refine h_bin ?_; first | refine a_eql ?_ | refine a_lss ?_ | refine a_neq ?_ | refine a_geq ?_ | refine a_gtr ?_ | refine a_leq ?_ | refine a_add ?_ | refine a_sub ?_ | refine a_mul ?_ | refine a_eqs ?_ | refine a_nes ?_ | refine b_rem ?_ | refine b_quo ?_) | (refine h_cond ?_; first | refine b_cond_t ?_ | refine b_cond_f ?_ | refine a_cond (fun h => ?_) (fun h => ?_)) | (refine h_idx ?_; first | refine b_idx_n ?_ | refine b_idx_l ?_ | refine b_idx_i ?_ | refine b_idx_sn ?_ | refine b_idx_s ?_) | (refine h_row ?_; first | refine b_row_q ?_ | refine b_row_i ?_ | refine b_row_p ?_) | (refine h_len ?_; first | refine a_len_m ?_ | refine a_len_l ?_ | refine a_len_s ?_ | refine a_len_n ?_ | refine a_len_e ?_) | (refine h_ext ?_; refine b_ext ?_) | (refine h_calm ?_; refine b_calm ?_) | (refine h_note ?_; refine a_note ?_) | (refine h_pick ?_; first | refine b_pick_t ?_ | refine b_pick_f ?_) | (refine h_grd ?_; first | refine b_grd_y ?_ | refine b_grd_n ?_ | refine a_grd_u ?_ | refine a_grd_t (fun h => ?_) (fun h => ?_) | refine a_grd_f (fun h => ?_) (fun h => ?_)) | (refine h_dgrd ?_; first | refine b_dgrd_y ?_ | refine b_dgrd_n ?_ | refine a_dgrd_u ?_ | refine a_dgrd_t (fun h => ?_) (fun h => ?_) | refine a_dgrd_f (fun h => ?_) (fun h => ?_)) | (refine h_nilchk ?_; first | refine a_nil_p ?_ | refine a_nil_q ?_ | refine a_nil_f ?_) | refine a_mark ?_ | refine a_dmark ?_ | (refine h_un ?_; first | refine a_not ?_ | refine a_neg ?_) | (refine h_box ?_; refine b_box (fun nb_ hnb_ => ?_)) | (refine h_frz1 ?_; first | refine b_frz_p ?_ | refine b_frz_s ?_) | (refine h_store ?_; first | refine b_store_box ?_ | refine b_store_one ?_ | refine b_store_row ?_) | (refine h_idxP ?_; first | refine b_idxP_p ?_ | refine b_idxP_q ?_) | (refine h_mslice ?_; refine b_mslice (fun nb_ hnb_ => ?_)) | (refine h_bslice ?_; refine b_bslice (fun nb_ hnb_ => ?_)) | refine a_conv ?_ | refine a_convS ?_ | refine a_alloc (fun nb_ hnb_ => ?_) | refine b_build ?_ | refine b_fld ?_ | refine a_join ?_ | refine a_lenS ?_ | refine a_tt ?_)
    exact ⟨i + 1, by omega, by omega, trivial, fzs_eq (by rw [i64_succ g1 (by omega)]; rfl) rfl⟩
  · have hd := dec_ge g1
    repeat' (first | (refine h_load1 ?_; first | refine b_load_q ?_ | refine b_load_i ?_ | refine b_load_p ?_) | (refine h_faddr ?_; first | refine a_faddr_q ?_ | refine a_faddr_p ?_) | (refine h_bin ?_; first | refine a_eql ?_ | refine a_lss ?_ | refine a_neq ?_ | refine a_geq ?_ | refine a_gtr ?_ | refine a_leq ?_ | refine a_add ?_ | refine a_sub ?_ | refine a_mul ?_ | refine a_eqs ?_ | refine a_nes ?_ | refine b_rem ?_ | refine b_quo ?_) | (refine h_cond ?_; first | refine b_cond_t ?_ | refine b_cond_f ?_ | refine a_cond (fun h => ?_) (fun h => ?_)) | (refine h_idx ?_; first | refine b_idx_n ?_ | refine b_idx_l ?_ | refine b_idx_i ?_ | refine b_idx_sn ?_ | refine b_idx_s ?_) | (refine h_row ?_; first | refine b_row_q ?_ | refine b_row_i ?_ | refine b_row_p ?_) | (refine h_len ?_; first | refine a_len_m ?_ | refine a_len_l ?_ | refine a_len_s ?_ | refine a_len_n ?_ | refine a_len_e ?_) | (refine h_ext ?_; refine b_ext ?_) | (refine h_calm ?_; refine b_calm ?_) | (refine h_note ?_; refine a_note ?_) | (refine h_pick ?_; first | refine b_pick_t ?_ | refine b_pick_f ?_) | (refine h_grd ?_; first | refine b_grd_y ?_ | refine b_grd_n ?_ | refine a_grd_u ?_ | refine a_grd_t (fun h => ?_) (fun h => ?_) | refine a_grd_f (fun h => ?_) (fun h => ?_)) | (refine h_dgrd ?_; first | refine b_dgrd_y ?_ | refine b_dgrd_n ?_ | refine a_dgrd_u ?_ | refine a_dgrd_t (fun h => ?_) (fun h => ?_) | refine a_dgrd_f (fun h => ?_) (fun h => ?_)) | (refine h_nilchk ?_; first | refine a_nil_p ?_ | refine a_nil_q ?_ | refine a_nil_f ?_) | refine a_mark ?_ | refine a_dmark ?_ | (refine h_un ?_; first | refine a_not ?_ | refine a_neg ?_) | (refine h_box ?_; refine b_box (fun nb_ hnb_ => ?_)) | (refine h_frz1 ?_; first | refine b_frz_p ?_ | refine b_frz_s ?_) | (refine h_store ?_; first | refine b_store_box ?_ | refine b_store_one ?_ | refine b_store_row ?_) | (refine h_idxP ?_; first | refine b_idxP_p ?_ | refine b_idxP_q ?_) | (refine h_mslice ?_; refine b_mslice (fun nb_ hnb_ => ?_)) | (refine h_bslice ?_; refine b_bslice (fun nb_ hnb_ => ?_)) | refine a_conv ?_ | refine a_convS ?_ | refine a_alloc (fun nb_ hnb_ => ?_) | refine b_build ?_ | refine b_fld ?_ | refine a_join ?_ | refine a_lenS ?_ | refine a_tt ?_)
    refine for_by s.taint.length (fun i => ([.pptr [s.enc] 0 0, .pptr [s.enc] 0 0, .int .i64 i], [])) (fun i => True) trivial rfl rfl ?_
    intro j hj _
    dsimp only
    unfold ref07_SameThread_l1
    rcases Nat.lt_or_ge j s.taint.length with g2 | g2
    · have hd2 := dec_lt g2
      have hy := map_at (f := lstE) g2
      have hsame : PureA Try.prog 34 [.lst (s.taint[j].map intE), .lst (s.taint[j].map intE)] (.bool true) := by
        have := sameInts_ok s.taint[j] s.taint[j] (by have := h3 _ (List.getElem_mem g2); omega)
        simpa using this
      repeat' (first | (refine h_load1 ?_; first | refine b_load_q ?_ | refine b_load_i ?_ | refine b_load_p ?_) | (refine h_faddr ?_; first | refine a_faddr_q ?_ | refine a_faddr_p ?_) | (refine h_bin ?_; first | refine a_eql ?_ | refine a_lss ?_ | refine a_neq ?_ | refine a_geq ?_ | refine a_gtr ?_ | refine a_leq ?_ | refine a_add ?_ | refine a_sub ?_ | refine a_mul ?_ | refine a_eqs ?_ | refine a_nes ?_ | refine b_rem ?_ | refine b_quo ?_) | (refine h_cond ?_; first | refine b_cond_t ?_ | refine b_cond_f ?_ | refine a_cond (fun h => ?_) (fun h => ?_)) | (refine h_idx ?_; first | refine b_idx_n ?_ | refine b_idx_l ?_ | refine b_idx_i ?_ | refine b_idx_sn ?_ | refine b_idx_s ?_) | (refine h_row ?_; first | refine b_row_q ?_ | refine b_row_i ?_ | refine b_row_p ?_) | (refine h_len ?_; first | refine a_len_m ?_ | refine a_len_l ?_ | refine a_len_s ?_ | refine a_len_n ?_ | refine a_len_e ?_) | (refine h_ext ?_; refine b_ext ?_) | (refine h_calm ?_; refine b_calm ?_) | (refine h_note ?_; refine a_note ?_) | (refine h_pick ?_; first | refine b_pick_t ?_ | refine b_pick_f ?_) | (refine h_grd ?_; first | refine b_grd_y ?_ | refine b_grd_n ?_ | refine a_grd_u ?_ | refine a_grd_t (fun h => ?_) (fun h => ?_) | refine a_grd_f (fun h => ?_) (fun h => ?_)) | (refine h_dgrd ?_; first | refine b_dgrd_y ?_ | refine b_dgrd_n ?_ | refine a_dgrd_u ?_ | refine a_dgrd_t (fun h => ?_) (fun h => ?_) | refine a_dgrd_f (fun h => ?_) (fun h => ?_)) | (refine h_nilchk ?_; first | refine a_nil_p ?_ | refine a_nil_q ?_ | refine a_nil_f ?_) | refine a_mark ?_ | refine a_dmark ?_ | ((with_reducible refine h_fn 34 ?_); refine m_call (hsame) ?_) | ((with_reducible refine h_dfn 34 ?_); refine b_dcall (hsame) ?_) | (refine h_un ?_; first | refine a_not ?_ | refine a_neg ?_) | (refine h_box ?_; refine b_box (fun nb_ hnb_ => ?_)) | (refine h_frz1 ?_; first | refine b_frz_p ?_ | refine b_frz_s ?_) | (refine h_store ?_; first | refine b_store_box ?_ | refine b_store_one ?_ | refine b_store_row ?_) | (refine h_idxP ?_; first | refine b_idxP_p ?_ | refine b_idxP_q ?_) | (refine h_mslice ?_; refine b_mslice (fun nb_ hnb_ => ?_)) | (refine h_bslice ?_; refine b_bslice (fun nb_ hnb_ => ?_)) | refine a_conv ?_ | refine a_convS ?_ | refine a_alloc (fun nb_ hnb_ => ?_) | refine b_build ?_ | refine b_fld ?_ | refine a_join ?_ | refine a_lenS ?_ | refine a_tt ?_)
      exact ⟨j + 1, by omega, by omega, trivial, fzs_eq (by rw [i64_succ g2 (by omega)]; rfl) rfl⟩
    · have hd2 := dec_ge g2
      repeat' (first | (refine h_load1 ?_; first | refine b_load_q ?_ | refine b_load_i ?_ | refine b_load_p ?_) | (refine h_faddr ?_; first | refine a_faddr_q ?_ | refine a_faddr_p ?_) | (refine h_bin ?_; first | refine a_eql ?_ | refine a_lss ?_ | refine a_neq ?_ | refine a_geq ?_ | refine a_gtr ?_ | refine a_leq ?_ | refine a_add ?_ | refine a_sub ?_ | refine a_mul ?_ | refine a_eqs ?_ | refine a_nes ?_ | refine b_rem ?_ | refine b_quo ?_) | (refine h_cond ?_; first | refine b_cond_t ?_ | refine b_cond_f ?_ | refine a_cond (fun h => ?_) (fun h => ?_)) | (refine h_idx ?_; first | refine b_idx_n ?_ | refine b_idx_l ?_ | refine b_idx_i ?_ | refine b_idx_sn ?_ | refine b_idx_s ?_) | (refine h_row ?_; first | refine b_row_q ?_ | refine b_row_i ?_ | refine b_row_p ?_) | (refine h_len ?_; first | refine a_len_m ?_ | refine a_len_l ?_ | refine a_len_s ?_ | refine a_len_n ?_ | refine a_len_e ?_) | (refine h_ext ?_; refine b_ext ?_) | (refine h_calm ?_; refine b_calm ?_) | (refine h_note ?_; refine a_note ?_) | (refine h_pick ?_; first | refine b_pick_t ?_ | refine b_pick_f ?_) | (refine h_grd ?_; first | refine b_grd_y ?_ | refine b_grd_n ?_ | refine a_grd_u ?_ | refine a_grd_t (fun h => ?_) (fun h => ?_) | refine a_grd_f (fun h => ?_) (fun h => ?_)) | (refine h_dgrd ?_; first | refine b_dgrd_y ?_ | refine b_dgrd_n ?_ | refine a_dgrd_u ?_ | refine a_dgrd_t (fun h => ?_) (fun h => ?_) | refine a_dgrd_f (fun h => ?_) (fun h => ?_)) | (refine h_nilchk ?_; first | refine a_nil_p ?_ | refine a_nil_q ?_ | refine a_nil_f ?_) | refine a_mark ?_ | refine a_dmark ?_ | (refine h_un ?_; first | refine a_not ?_ | refine a_neg ?_) | (refine h_box ?_; refine b_box (fun nb_ hnb_ => ?_)) | (refine h_frz1 ?_; first | refine b_frz_p ?_ | refine b_frz_s ?_) | (refine h_store ?_; first | refine b_store_box ?_ | refine b_store_one ?_ | refine b_store_row ?_) | (refine h_idxP ?_; first | refine b_idxP_p ?_ | refine b_idxP_q ?_) | (refine h_mslice ?_; refine b_mslice (fun nb_ hnb_ => ?_)) | (refine h_bslice ?_; refine b_bslice (fun nb_ hnb_ => ?_)) | refine a_conv ?_ | refine a_convS ?_ | refine a_alloc (fun nb_ hnb_ => ?_) | refine b_build ?_ | refine b_fld ?_ | refine a_join ?_ | refine a_lenS ?_ | refine a_tt ?_)
      exact hq
theorem eqbT {x : Bool} {K : AV → Prop} (h : K (.bool true)) : W.bin Try.prog Fl .eql 4 (.bool x) (.bool x) K := by
  rw [eql_b _ (show Try.prog.underlying 4 = some .bool by kernel_rfl)]
  cases x <;> exact h
set_option maxRecDepth 1000000 in
theorem awake07 : PureA Try.prog 19 [] (.bool true) := closed_pure (n := 1000) (by kernel_rfl)
theorem tells_ok (c : TcD) (s : TsD) (U : List Int) (hU : U.length ≤ 2 ^ 30) (hr : s.regs.length < 2 ^ 40) (ht : s.taint.length < 2 ^ 40) (hsh : ∀ l ∈ s.taint, l.length ≤ 2 ^ 30) (hsub : ∀ l ∈ s.taint, ∀ x ∈ l, x ∈ U) (hc : c.ins.length < 2 ^ 40) : PureA Try.prog 4 [.agg c.enc, .agg s.enc] (.bool true) := by
  refine law07_SilentTells_ok _ _ _ _ ?_
  unfold law07_SilentTells_w
  generalize hQ : (fun (v : AV) (L : SH) => v = AV.bool true ∧ L = []) = Q
  have hq : Q (.bool true) [] := by subst hQ; exact ⟨rfl, rfl⟩
  clear hQ
  have hs1 := settle_ok c s U hU hr ht hsh hsub hc
  have hs2 := settleR_ok c s U hU hr ht hsh hsub hc
  have hsm : PureA Try.prog 18 [.agg (settleS c s).1.enc, .agg (settleS c s).1.enc] (.bool true) := by
    by_cases hT : s.taint.length = s.regs.length
    · have := settle_tame (c := c) hU ⟨hT, hr, hsh, hsub⟩
      exact sameT_ok _ this.small (by rw [this.len]; exact this.small) this.short
    · have : settleS c s = (TsD.zero, false) := by unfold settleS; rw [if_neg]; intro h; omega
      rw [this]
      exact sameT_ok _ (by decide) (by decide) nofun
  unfold resT at hs1 hs2
  generalize settleS c s = p at hs1 hs2 hsm
  obtain ⟨e, ok⟩ := p
  dsimp only at hs1 hs2 hsm
  have d1 : decide (ok = ok) = true := by simp
  have d2 : (ok == ok) = true := by simp
  repeat' (first | refine eqbT ?_ | (refine h_load1 ?_; first | refine b_load_q ?_ | refine b_load_i ?_ | refine b_load_p ?_) | (refine h_faddr ?_; first | refine a_faddr_q ?_ | refine a_faddr_p ?_) | (refine h_bin ?_; first | refine a_eql ?_ | refine a_lss ?_ | refine a_neq ?_ | refine a_geq ?_ | refine a_gtr ?_ | refine a_leq ?_ | refine a_add ?_ | refine a_sub ?_ | refine a_mul ?_ | refine a_eqs ?_ | refine a_nes ?_ | refine b_rem ?_ | refine b_quo ?_) | (refine h_cond ?_; first | refine b_cond_t ?_ | refine b_cond_f ?_ | refine a_cond (fun h => ?_) (fun h => ?_)) | (refine h_idx ?_; first | refine b_idx_n ?_ | refine b_idx_l ?_ | refine b_idx_i ?_ | refine b_idx_sn ?_ | refine b_idx_s ?_) | (refine h_row ?_; first | refine b_row_q ?_ | refine b_row_i ?_ | refine b_row_p ?_) | (refine h_len ?_; first | refine a_len_m ?_ | refine a_len_l ?_ | refine a_len_s ?_ | refine a_len_n ?_ | refine a_len_e ?_) | (refine h_ext ?_; refine b_ext ?_) | (refine h_calm ?_; refine b_calm ?_) | (refine h_note ?_; refine a_note ?_) | (refine h_pick ?_; first | refine b_pick_t ?_ | refine b_pick_f ?_) | (refine h_grd ?_; first | refine b_grd_y ?_ | refine b_grd_n ?_ | refine a_grd_u ?_ | refine a_grd_t (fun h => ?_) (fun h => ?_) | refine a_grd_f (fun h => ?_) (fun h => ?_)) | (refine h_dgrd ?_; first | refine b_dgrd_y ?_ | refine b_dgrd_n ?_ | refine a_dgrd_u ?_ | refine a_dgrd_t (fun h => ?_) (fun h => ?_) | refine a_dgrd_f (fun h => ?_) (fun h => ?_)) | (refine h_nilchk ?_; first | refine a_nil_p ?_ | refine a_nil_q ?_ | refine a_nil_f ?_) | refine a_mark ?_ | refine a_dmark ?_ | ((with_reducible refine h_fn 16 ?_); refine m_call (hs1) ?_) | ((with_reducible refine h_dfn 16 ?_); refine b_dcall (hs1) ?_) | ((with_reducible refine h_fn 17 ?_); refine m_call (hs2) ?_) | ((with_reducible refine h_dfn 17 ?_); refine b_dcall (hs2) ?_) | ((with_reducible refine h_fn 18 ?_); refine m_call (hsm) ?_) | ((with_reducible refine h_dfn 18 ?_); refine b_dcall (hsm) ?_) | ((with_reducible refine h_fn 19 ?_); refine m_call (awake07) ?_) | ((with_reducible refine h_dfn 19 ?_); refine b_dcall (awake07) ?_) | (refine h_un ?_; first | refine a_not ?_ | refine a_neg ?_) | (refine h_box ?_; refine b_box (fun nb_ hnb_ => ?_)) | (refine h_frz1 ?_; first | refine b_frz_p ?_ | refine b_frz_s ?_) | (refine h_store ?_; first | refine b_store_box ?_ | refine b_store_one ?_ | refine b_store_row ?_) | (refine h_idxP ?_; first | refine b_idxP_p ?_ | refine b_idxP_q ?_) | (refine h_mslice ?_; refine b_mslice (fun nb_ hnb_ => ?_)) | (refine h_bslice ?_; refine b_bslice (fun nb_ hnb_ => ?_)) | refine a_conv ?_ | refine a_convS ?_ | refine a_alloc (fun nb_ hnb_ => ?_) | refine b_build ?_ | refine b_fld ?_ | refine a_join ?_ | refine a_lenS ?_ | refine a_tt ?_)
  exact hq
end Go.Proofs.Ytadjimfkfmojkaa.Am

end
section
namespace Go.Proofs.Ytadjimfkfmojkaa.Am
open Go.ChangeShapes Go.WideShapes Go.ChangeAt Go.RowKit
set_option linter.unusedVariables false
def sig0 : Sig := ⟨fun _ => none, fun _ => False⟩
def tok0 : Nat → Prop := fun _ => False
/-- cells that read as the cells of a datum -/
def rAM {α : Type} (e : α → List AV) (G : α → Prop) : Rel α := fun w _ x cs => G x ∧ Reps w sig0 tok0 (e x) cs
theorem reps_one {w : World} {σ : Sig} {T : Nat → Prop} {a : AV} {v : Value} (h : Rep w σ T a v) : Reps w σ T [a] [v] := ⟨rfl, fun i x u h1 h2 => by
  match i with
  | 0 => cases h1; cases h2; exact h
  | i + 1 => simp at h1⟩
theorem reps_cons {w : World} {σ : Sig} {T : Nat → Prop} {a : AV} {v : Value} {l : List AV} {m : List Value} (h : Reps w σ T [a] [v]) (hl : Reps w σ T l m) : Reps w σ T (a :: l) (v :: m) := ⟨by simp [hl.1], fun i x u h1 h2 => by
  match i with
  | 0 => exact h.2 0 x u h1 h2
  | i + 1 => exact hl.2 i x u (by simpa using h1) (by simpa using h2)⟩
theorem reps_nil {w : World} {σ : Sig} {T : Nat → Prop} : Reps w σ T [] [] := ⟨rfl, fun i x u h1 h2 => by simp at h1⟩
section
variable {H : Type} {enc : TypeId × Value → H} {P : Program} {w : World} {base : Nat} {spare : Nat → Bool} {held : Bool}
theorem am_int {t : TypeId} {k : IntKind} (ht : P.underlying t = some (.int k)) : Opens H enc P w base spare held t (rAM (fun n : Int => [.int k n]) fun n => (Lit.int k n).wf = true) := fun fuel cs x h => by
  obtain ⟨n, rfl, hn⟩ := opens_int ht fuel cs x h
  exact ⟨n, hn, reps_one (.int k n)⟩
theorem am_slice {α : Type} {t e : TypeId} {size : Nat} {f : α → List AV} {G : α → Prop} (ht : P.underlying t = some (.slice e)) (hc : P.cellsOf e = size) (hs : 0 < size) (he : Opens H enc P w base spare held e (rAM f G)) :
    Opens H enc P w base spare held t (rAM (fun l : List α => [.lst (l.map f)]) fun l => l.length ≤ maxLen ∧ ∀ x ∈ l, G x) := fun fuel cs x h => by
  obtain ⟨l, A, c, rfl, h1, h2, h3⟩ := opens_slice ht hc hs he fuel cs x h
  refine ⟨l, ⟨by omega, fun x hx => ?_⟩, reps_one ?_⟩
  · obtain ⟨i, hi, rfl⟩ := List.getElem_of_mem hx
    obtain ⟨b, o, _, _, hall⟩ := h3 (by omega)
    obtain ⟨cs', _, hR, _⟩ := hall i l[i] (List.getElem?_eq_getElem hi)
    exact hR.1
  · rcases Nat.eq_zero_or_pos l.length with h0 | h0
    · have : l = [] := List.length_eq_zero_iff.1 h0
      subst this
      exact .lst0 A c h2
    · obtain ⟨b, o, rfl, hb, hall⟩ := h3 h0
      have := Rep.lst (w := w) (σ := sig0) (T := tok0) (l.map f) b o size c ⟨fun h => h, fun i r hr => ?_, fun i j hi hj => ?_, hs, by simpa using h0⟩ (by simpa using h1) h2 (fun i r j a u hr ha hu => ?_)
      · simpa using this
      · rw [List.getElem?_map] at hr
        cases hx : l[i]? with
        | none => rw [hx] at hr; cases hr
        | some y =>
          rw [hx] at hr; cases hr
          obtain ⟨cs', k1, k2, _⟩ := hall i y hx
          rw [k2.2.1, k1]
      · have hi' : i < l.length := by simpa using hi
        obtain ⟨cs', k1, k2, k3⟩ := hall i l[i] (List.getElem?_eq_getElem hi')
        exact ⟨cs'[j], k3 j _ (List.getElem?_eq_getElem (by omega))⟩
      · rw [List.getElem?_map] at hr
        cases hx : l[i]? with
        | none => rw [hx] at hr; cases hr
        | some y =>
          rw [hx] at hr; cases hr
          obtain ⟨cs', k1, k2, k3⟩ := hall i y hx
          have hj : j < cs'.length := by rw [← k2.2.1]; exact lt_of_some ha
          have hu' := k3 j _ (List.getElem?_eq_getElem hj)
          rw [hu] at hu'
          cases hu'
          exact k2.2.2 j a _ ha (List.getElem?_eq_getElem hj)
/-- a struct of single cells -/
theorem am_cells {t : TypeId} {fs : Array Field} (tys : List TypeId) {fuel : Nat} {cs : List Value} {x : DataW H × List MemPlace} (ht : P.underlying t = some (.struct fs)) (h : DataW.trod enc P w base spare held fuel t cs = some x)
    (hf : fs.toList.map (fun f => (f.type, f.offset)) = tys.zipIdx) (hc : tys.all (fun ty => P.cellsOf ty == 1) = true) (hn : P.cellsOf t = tys.length) :
    cs.length = tys.length ∧ ∀ (i : Nat) (ty : TypeId), tys[i]? = some ty → ∃ c m y, cs[i]? = some c ∧ DataW.trod enc P w base spare held m ty [c] = some y := by
  obtain ⟨hl, hall⟩ := opens_fields ht h
  rw [hn] at hl
  refine ⟨hl, fun i ty hi => ?_⟩
  have hlt := lt_of_some hi
  have hci : i < cs.length := by omega
  obtain ⟨m, y, hy⟩ := hall i ty i 1 [cs[i]] (by
    have := congrArg (fun l => l[i]?) hf
    simp only [List.getElem?_map, List.getElem?_zipIdx, hi, Array.getElem?_toList] at this
    simpa using this) (by rw [List.all_eq_true] at hc; simpa using hc ty (List.mem_of_getElem? hi)) (by rw [List.drop_eq_getElem_cons hci]; rfl)
  exact ⟨cs[i], m, y, List.getElem?_eq_getElem hci, hy⟩
end
/-- A law that is true over the empty heap, in the model. -/
theorem law_calls {P : Program} {f : FuncId} {args : List AV} {vs : List Value} (h : PureA P f args (.bool true)) (w : World) (hv : Reps w sig0 tok0 args vs) : Calls P f vs.toArray w fun e w' => e = .returned (.bool true) ∧ Below w.heap.size w w' := by
  obtain ⟨v, H', L', h1, h2, rfl, rfl⟩ := h.2 Heap.empty (fun b _ => empty_get b) ⟨List.nodup_nil, fun p hp => by simp at hp⟩
  have hown : Own sig0 Heap.empty = tok0 := by
    funext c
    apply propext
    constructor
    · rintro (h | ⟨b, x, pl, h4, _, _⟩)
      · exact h
      · rw [empty_get] at h4; cases h4
    · exact fun h => h.elim
  have hW : WRel w sig0 Heap.empty := ⟨fun b pl hb => (by cases hb), fun b pl hb => (by cases hb), fun b x hb => (by rw [empty_get] at hb; cases hb), fun c hc => hc.elim, fun b b' x x' pl pl' hb => (by rw [empty_get] at hb; cases hb)⟩
  refine (h1 w sig0 vs hW (by rw [hown]; exact hv)).mono ?_
  rintro e w' ⟨v', σ', rfl, k1, k2, k3, _⟩
  cases k1
  rw [hown] at k3
  exact ⟨rfl, k3.os, k3.tape, k3.output, k3.size, fun k hk => k3.keep k hk fun h => h⟩
end Go.Proofs.Ytadjimfkfmojkaa.Am

end
section
namespace Go.Proofs.Ytadjimfkfmojkaa.Am
open Go.ChangeShapes Go.WideShapes Go.ChangeAt Go.RowKit
set_option linter.unusedVariables false
set_option maxRecDepth 100000
section
variable {H : Type} {enc : TypeId × Value → H} {w : World} {base : Nat} {spare : Nat → Bool} {held : Bool}
theorem ut_int : Try.prog.underlying 3 = some (.int .i64) := by kernel_rfl
theorem ut_int64 : Try.prog.underlying 2 = some (.int .i64) := by kernel_rfl
theorem bulk_one (d : DataW H) : 1 ≤ Rows.uptoBulk d := by
  cases d with
  | lit l => cases l <;> simp [Rows.uptoBulk]
  | nil => simp [Rows.uptoBulk]
  | ptr d => simp [Rows.uptoBulk]
  | slice elems spare => simp [Rows.uptoBulk]
  | agg parts => simp [Rows.uptoBulk]
  | iface t d => simp [Rows.uptoBulk]
  | map entries => simp [Rows.uptoBulk]
  | held h => simp [Rows.uptoBulk]
theorem bulk_len (l : List (DataW H)) : l.length ≤ Rows.uptoBulkAll l := by
  induction l with
  | nil => simp [Rows.uptoBulkAll]
  | cons x r ih => have := bulk_one x; simp only [Rows.uptoBulkAll, List.length_cons]; omega
theorem slice_bulk {α : Type} {t e : TypeId} {f : α → List AV} {l : List α} {fuel : Nat} {c : Value} {x : DataW H × List MemPlace} (ht : Try.prog.underlying t = some (.slice e)) (h : DataW.trod enc Try.prog w base spare held fuel t [c] = some x)
    (hr : Reps w sig0 tok0 [.lst (l.map f)] [c]) : l.length ≤ Rows.uptoBulk x.1 := by
  have h0 := hr.2 0 (.lst (l.map f)) c rfl rfl
  rcases Deep.open_slice ht h with ⟨hc, _⟩ | ⟨a, len, cap, m, n, D, Pl, hc, _, _, _, _, hx, _⟩
  · simp only [List.cons.injEq, and_true] at hc
    subst hc
    generalize hm : l.map f = rows at h0
    cases h0 with
    | lst0 => have : l = [] := List.map_eq_nil_iff.1 hm
              subst this; exact Nat.zero_le _
  · simp only [List.cons.injEq, and_true] at hc
    subst hc
    have hlen : l.length = len := by
      generalize hm : l.map f = rows at h0
      cases h0 with
      | lst0 => have : l = [] := List.map_eq_nil_iff.1 hm
                subst this; rfl
      | lst rows b o sz cap _ _ _ _ => rw [← hm]; simp
    have := bulk_len ((List.range len).map D)
    rw [hx]
    simp only [Rows.uptoBulk, List.length_map, List.length_range] at this ⊢
    omega
theorem sum_bulk : ∀ (l : List (List Int)) (D : Nat → DataW H), (∀ (i : Nat) (hi : i < l.length), l[i].length ≤ Rows.uptoBulk (D i)) → l.flatten.length ≤ Rows.uptoBulkAll ((List.range l.length).map D)
  | [], D, _ => by simp
  | x :: l, D, h => by
    have h1 := h 0 (by simp)
    have h2 := sum_bulk l (fun i => D (i + 1)) fun i hi => h (i + 1) (by simpa using hi)
    rw [List.length_cons, List.range_succ_eq_map, List.map_cons, List.map_map]
    simp only [Rows.uptoBulkAll, List.flatten_cons, List.length_append]
    have e : (D ∘ Nat.succ) = fun i => D (i + 1) := rfl
    rw [e]
    simp only [List.getElem_cons_zero] at h1
    omega
theorem flat_bulk {l : List (List Int)} {fuel : Nat} {c : Value} {x : DataW H × List MemPlace} (h : DataW.trod enc Try.prog w base spare held fuel 30 [c] = some x)
    (hr : Reps w sig0 tok0 [.lst (l.map lstE)] [c]) : l.flatten.length ≤ Rows.uptoBulk x.1 := by
  have h0 := hr.2 0 (.lst (l.map lstE)) c rfl rfl
  rcases Deep.open_slice Try.underlying30 h with ⟨hc, _⟩ | ⟨a, len, cap, m, n, D, Pl, hc, _, hlc, _, hmm, hx, hall⟩
  · simp only [List.cons.injEq, and_true] at hc
    subst hc
    generalize hm : l.map lstE = rows at h0
    cases h0 with
    | lst0 => have : l = [] := List.map_eq_nil_iff.1 hm
              subst this; exact Nat.zero_le _
  · simp only [List.cons.injEq, and_true] at hc
    subst hc
    have hlm : len ≤ m := by rw [hmm]; split <;> omega
    rw [show Try.prog.cellsOf 22 = 1 by kernel_rfl] at hall
    have key : l.length = len ∧ ∀ (i : Nat) (hi : i < l.length), l[i].length ≤ Rows.uptoBulk (D i) := by
      generalize hm : l.map lstE = rows at h0
      cases h0 with
      | lst0 => have : l = [] := List.map_eq_nil_iff.1 hm
                subst this
                exact ⟨rfl, fun i hi => by simp at hi⟩
      | lst rows b o sz cap hl hn hmx hh =>
        subst hm
        refine ⟨by simp, fun i hi => ?_⟩
        obtain ⟨cs', hcs, htr⟩ := hall i (by simp at hlm; omega)
        have hsz : 1 = sz := hl.even i (lstE l[i]) (map_at hi)
        subst hsz
        obtain ⟨_, hlen, hcell⟩ := World.cells?_some hcs
        match cs', hlen with
        | [v], _ =>
          have hc0 := hcell 0 (by decide)
          have hv : w.cell? ⟨b, o + i * 1 + 0, none⟩ = some v := by
            by_cases hi0 : i = 0
            · subst hi0; simpa [Addr.add] using hc0
            · simpa [Addr.add, hi0] using hc0
          have hrep := hh i (lstE l[i]) 0 (.lst (l[i].map intE)) v (map_at hi) rfl hv
          exact slice_bulk (f := intE) Try.underlying22 htr (reps_one hrep)
    have := sum_bulk l D key.2
    rw [key.1] at this
    rw [hx]
    simp only [Rows.uptoBulk]
    omega
theorem am_instr : Opens H enc Try.prog w base spare held 39 (rAM InD.enc fun _ => True) := fun fuel cs x h => by
  obtain ⟨hl, hall⟩ := am_cells [3, 3, 3, 3, 2, 3] Try.underlying39 h rfl (by kernel_rfl) (by kernel_rfl)
  obtain ⟨c0, m0, y0, e0, k0⟩ := hall 0 _ rfl
  obtain ⟨d0, _, r0⟩ := am_int ut_int _ _ _ k0
  obtain ⟨c1, m1, y1, e1, k1⟩ := hall 1 _ rfl
  obtain ⟨d1, _, r1⟩ := am_int ut_int _ _ _ k1
  obtain ⟨c2, m2, y2, e2, k2⟩ := hall 2 _ rfl
  obtain ⟨d2, _, r2⟩ := am_int ut_int _ _ _ k2
  obtain ⟨c3, m3, y3, e3, k3⟩ := hall 3 _ rfl
  obtain ⟨d3, _, r3⟩ := am_int ut_int _ _ _ k3
  obtain ⟨c4, m4, y4, e4, k4⟩ := hall 4 _ rfl
  obtain ⟨d4, _, r4⟩ := am_int ut_int64 _ _ _ k4
  obtain ⟨c5, m5, y5, e5, k5⟩ := hall 5 _ rfl
  obtain ⟨d5, _, r5⟩ := am_int ut_int _ _ _ k5
  have hcs : cs = [c0, c1, c2, c3, c4, c5] := by
    match cs, hl with
    | [a0, a1, a2, a3, a4, a5], _ => simp only [List.getElem?_cons_zero, List.getElem?_cons_succ, Option.some.injEq] at e0 e1 e2 e3 e4 e5; rw [e0, e1, e2, e3, e4, e5]
  subst hcs
  exact ⟨⟨d0, d1, d2, d3, d4, d5⟩, trivial, (reps_cons r0 (reps_cons r1 (reps_cons r2 (reps_cons r3 (reps_cons r4 (reps_cons r5 reps_nil))))))⟩
theorem am_thread {fuel : Nat} {cs : List Value} {x : DataW H × List MemPlace} (h : DataW.trod enc Try.prog w base spare held fuel 32 cs = some x) :
    ∃ s : TsD, rAM TsD.enc (fun _ => True) w (· < w.heap.size) s cs ∧ s.regs.length ≤ Rows.uptoBulk x.1 ∧ s.taint.length ≤ Rows.uptoBulk x.1 ∧ s.taint.flatten.length ≤ Rows.uptoBulk x.1 := by
  obtain ⟨xs, n, _, hx, hl, hxl, hfs⟩ := DataW.trod_struct Try.underlying32 h
  rw [show Try.prog.cellsOf 32 = 4 by kernel_rfl] at hl
  match cs, hl with
  | [c0, c1, c2, c3], _ =>
    match xs, hxl with
    | [z0, z1, z2, z3], _ =>
      have k0 : DataW.trod enc Try.prog w base spare held n 3 [c0] = some z0 := by
        have this : DataW.trod enc Try.prog w base spare held n 3 (([c0, c1, c2, c3].drop 0).take (Try.prog.cellsOf 3)) = some z0 := hfs 0 _ rfl
        rw [show Try.prog.cellsOf 3 = 1 by kernel_rfl] at this
        exact this
      have k1 : DataW.trod enc Try.prog w base spare held n 29 [c1] = some z1 := by
        have this : DataW.trod enc Try.prog w base spare held n 29 (([c0, c1, c2, c3].drop 1).take (Try.prog.cellsOf 29)) = some z1 := hfs 1 _ rfl
        rw [show Try.prog.cellsOf 29 = 1 by kernel_rfl] at this
        exact this
      have k2 : DataW.trod enc Try.prog w base spare held n 30 [c2] = some z2 := by
        have this : DataW.trod enc Try.prog w base spare held n 30 (([c0, c1, c2, c3].drop 2).take (Try.prog.cellsOf 30)) = some z2 := hfs 2 _ rfl
        rw [show Try.prog.cellsOf 30 = 1 by kernel_rfl] at this
        exact this
      have k3 : DataW.trod enc Try.prog w base spare held n 3 [c3] = some z3 := by
        have this : DataW.trod enc Try.prog w base spare held n 3 (([c0, c1, c2, c3].drop 3).take (Try.prog.cellsOf 3)) = some z3 := hfs 3 _ rfl
        rw [show Try.prog.cellsOf 3 = 1 by kernel_rfl] at this
        exact this
      have hb : Rows.uptoBulk x.1 = Rows.uptoBulk z0.1 + (Rows.uptoBulk z1.1 + (Rows.uptoBulk z2.1 + (Rows.uptoBulk z3.1 + 0))) + 1 := by
        rw [hx]
        simp [Rows.uptoBulk, Rows.uptoBulkAll]
      obtain ⟨d0, _, r0⟩ := am_int ut_int _ _ _ k0
      obtain ⟨d1, _, r1⟩ := am_slice (size := 1) Try.underlying29 (by kernel_rfl) (by decide) (am_int ut_int64) _ _ _ k1
      obtain ⟨d2, _, r2⟩ := am_slice (size := 1) (f := lstE) Try.underlying30 (by kernel_rfl) (by decide) (am_slice (size := 1) (f := intE) Try.underlying22 (by kernel_rfl) (by decide) (am_int ut_int)) _ _ _ k2
      obtain ⟨d3, _, r3⟩ := am_int ut_int _ _ _ k3
      have q1 := slice_bulk Try.underlying29 k1 r1
      have q2 := slice_bulk Try.underlying30 k2 r2
      have q3 := flat_bulk k2 r2
      exact ⟨⟨d0, d1, d2, d3⟩, ⟨trivial, (reps_cons r0 (reps_cons r1 (reps_cons r2 (reps_cons r3 reps_nil))))⟩, by dsimp only; omega⟩
theorem am_tcode {fuel : Nat} {cs : List Value} {x : DataW H × List MemPlace} (h : DataW.trod enc Try.prog w base spare held fuel 28 cs = some x) :
    ∃ s : TcD, rAM TcD.enc (fun _ => True) w (· < w.heap.size) s cs ∧ s.ins.length ≤ Rows.uptoBulk x.1 := by
  obtain ⟨xs, n, _, hx, hl, hxl, hfs⟩ := DataW.trod_struct Try.underlying28 h
  rw [show Try.prog.cellsOf 28 = 2 by kernel_rfl] at hl
  match cs, hl with
  | [c0, c1], _ =>
    match xs, hxl with
    | [z0, z1], _ =>
      have k0 : DataW.trod enc Try.prog w base spare held n 3 [c0] = some z0 := by
        have this : DataW.trod enc Try.prog w base spare held n 3 (([c0, c1].drop 0).take (Try.prog.cellsOf 3)) = some z0 := hfs 0 _ rfl
        rw [show Try.prog.cellsOf 3 = 1 by kernel_rfl] at this
        exact this
      have k1 : DataW.trod enc Try.prog w base spare held n 26 [c1] = some z1 := by
        have this : DataW.trod enc Try.prog w base spare held n 26 (([c0, c1].drop 1).take (Try.prog.cellsOf 26)) = some z1 := hfs 1 _ rfl
        rw [show Try.prog.cellsOf 26 = 1 by kernel_rfl] at this
        exact this
      have hb : Rows.uptoBulk x.1 = Rows.uptoBulk z0.1 + (Rows.uptoBulk z1.1 + 0) + 1 := by
        rw [hx]
        simp [Rows.uptoBulk, Rows.uptoBulkAll]
      obtain ⟨d0, _, r0⟩ := am_int ut_int _ _ _ k0
      obtain ⟨d1, _, r1⟩ := am_slice (size := 6) Try.underlying26 (by kernel_rfl) (by decide) am_instr _ _ _ k1
      have q1 := slice_bulk Try.underlying26 k1 r1
      exact ⟨⟨d0, d1⟩, ⟨trivial, (reps_cons r0 (reps_cons r1 reps_nil))⟩, by dsimp only; omega⟩
end
end Go.Proofs.Ytadjimfkfmojkaa.Am

end
section
namespace Go.Proofs.Ytadjimfkfmojkaa.silentTells
open Go.ChangeShapes Go.WideShapes Go.ChangeAt Go.RowKit Am
set_option linter.unusedVariables false
set_option linter.unusedSimpArgs false
theorem flat_le {l : List Int} : ∀ {L : List (List Int)}, l ∈ L → l.length ≤ L.flatten.length
  | x :: L, h => by
    rw [List.flatten_cons, List.length_append]
    rcases List.mem_cons.1 h with rfl | h
    · omega
    · have := flat_le h; omega
theorem law (c : TcD) (s : TsD) (hc : c.ins.length ≤ 1048576) (hr : s.regs.length ≤ 1048576) (ht : s.taint.length ≤ 1048576) (hf : s.taint.flatten.length ≤ 1048576) : PureA Try.prog 4 [.agg c.enc, .agg s.enc] (.bool true) := by
  have hm : ∀ l ∈ s.taint, l.length ≤ s.taint.flatten.length := fun l hl => flat_le hl
  exact tells_ok c s s.taint.flatten (by omega) (by omega) (by omega) (fun l hl => by have := hm l hl; omega) (fun l hl x hx => List.mem_flatten.2 ⟨l, hl, hx⟩) (by omega)
theorem own : ownKnob Try.prog.godebug = none := by kernel_rfl
theorem laidOut : laidOutB Try.prog = true := by kernel_rfl
theorem agg_of {n : Nat} (hn : n ≠ 1) {v : Value} (h : v.cells.toList.length = n) : ∃ cs : List Value, v = .agg cs.toArray ∧ v.cells.toList = cs := by
  cases v with
  | agg a => exact ⟨a.toList, by simp, rfl⟩
  | _ => simp [Value.cells] at h; omega
set_option maxRecDepth 100000 in
theorem contract (H : Type) (enc : TypeId × Value → H) (W : World) (base : Nat) (args : Array Value) (ds gs : List (DataW H)) (before : List MemPlace)
    (hval0 : ∀ (j : Nat) t v, Try.f4.params[j]? = some t → args[j]? = some v → Value.okWide Try.prog W .any base t v)
    (hW : DataW.Whole enc Try.prog Try.f4.params.toList Rows.silentTellsSpec.vars false W args.toList ds gs before) (hk : Rows.uptoSmall H (ds ++ gs) = true) :
    Calls Try.prog 4 args W fun e W' => ∃ v, e = .returned v ∧ Rows.silentTellsSpec.post enc Try.prog Try.f4 false true false false W args v W' := by
  have hval : ∀ (j : Nat) t v, Try.f4.params[j]? = some t → args[j]? = some v → Value.okWide Try.prog W .any base t v := hval0
  have hW' := hW
  obtain ⟨p, q, hA0, hV, rfl, hfz, hnd⟩ := hW
  have hA : DataW.TrodAll enc Try.prog W 0 (fun _ => true) true Try.f4.params.toList args.toList ds p := hA0
  rw [Try.params4] at hA hval
  obtain ⟨v0, vs0, d0, ds0, p0, q0, hargs, rfl, rfl, h0, r0⟩ := trodAll_cons hA
  obtain ⟨v1, vs1, d1, ds1, p1, q1, rfl, rfl, rfl, h1, r1⟩ := trodAll_cons r0
  obtain ⟨rfl, rfl, rfl⟩ := trodAll_nil r1
  obtain rfl : args = #[v0, v1] := by cases args; simp_all
  obtain ⟨rfl, rfl⟩ := trodVars_none hV
  obtain ⟨fuel0, hf0⟩ := h0
  obtain ⟨x0, k0, g0⟩ := am_tcode hf0
  replace k0 := k0.2
  obtain ⟨cs0, rfl, hcs0⟩ := agg_of (n := 2) (by decide) (v := v0) (by rw [← k0.1]; first | rfl | exact enc_len _ | simp)
  rw [hcs0] at k0
  have k0 := reps_one (Rep.agg _ _ k0.1 k0.2)
  obtain ⟨fuel1, hf1⟩ := h1
  obtain ⟨x1, k1, g1, g2, g3⟩ := am_thread hf1
  replace k1 := k1.2
  obtain ⟨cs1, rfl, hcs1⟩ := agg_of (n := 4) (by decide) (v := v1) (by rw [← k1.1]; first | rfl | exact enc_len _ | simp)
  rw [hcs1] at k1
  have k1 := reps_one (Rep.agg _ _ k1.1 k1.2)
  have hb0 : Rows.uptoBulkAll [d0, d1] ≤ 1048576 := of_decide_eq_true hk
  simp only [Rows.uptoBulkAll] at hb0
  dsimp only at g0 g1 g2 g3
  refine (law_calls (law x0 x1 (by omega) (by omega) (by omega) (by omega)) W (reps_cons k0 (reps_cons k1 reps_nil))).mono fun e W' ⟨he, hb⟩ => ⟨.bool true, he, ?_⟩
  exact law_post laidOut (of_decide_eq_true (by kernel_rfl)) rfl rfl Try.underlying4 hW' rfl rfl rfl hb
set_option maxRecDepth 100000 in
theorem lifted (os : Os) (started : os.Started) (H : Type) (enc : TypeId × Value → H) (F : Stop.Interp) :
    ReturnsInHanded {} Try.checked os 4 .any ((Rows.OpenSpec.upto Rows.silentTellsSpec).pre6 enc Try.prog Try.f4 Rows.silentTellsUptoRow.domain false) (((Rows.OpenSpec.upto Rows.silentTellsSpec).at F).post enc Try.prog Try.f4 false true false false) := by
  refine returnsInHanded_of_cond (C := Try.checked) (s := Rows.OpenSpec.upto Rows.silentTellsSpec) (k := Rows.uptoSmall) rfl own started (by kernel_rfl) Try.func4
    (OpenSpec.witness (enc := enc) (C := Try.checked) (s := Rows.OpenSpec.upto Rows.silentTellsSpec) (k := Rows.uptoSmall) rfl false ⟨#[], #[.agg #[.int .i64 0, .slice none 0 0], .agg #[.int .i64 0, .slice none 0 0, .slice none 0 0, .int .i64 0]], []⟩ 8 (by kernel_rfl) (by kernel_rfl) (by kernel_rfl)
      (x := ([.agg [.lit (.int .i64 0), .nil], .agg [.lit (.int .i64 0), .nil, .nil, .lit (.int .i64 0)]], [], [])) (by kernel_rfl) rfl (by kernel_rfl)) ?_
  intro W base args ds gs before hval hW _ hk _
  exact contract H enc W base args ds gs before hval hW hk
theorem over : Rows.silentTellsUptoRow.holds Try.pinned (Rows.OpenSpec.upto Rows.silentTellsSpec) :=
  OpenClaim.holds_of_cond 4 Try.f4 rfl rfl rfl rfl rfl rfl rfl ⟨rfl, rfl, rfl, rfl, rfl⟩ rfl rfl rfl rfl rfl (by kernel_rfl) Try.func4 (by kernel_rfl)
    (of_decide_eq_true (by kernel_rfl)) (by unfold Func.isWrapper; first | (rw [if_pos (by decide +kernel)]; kernel_rfl) | (rw [if_neg (by decide +kernel)]; exact ⟨rfl, rfl⟩))
    (fun os started H enc _ F => lifted os started H enc F)
theorem proved : Rows.SilentTellsUptoSaid :=
  over
#print axioms proved
end Go.Proofs.Ytadjimfkfmojkaa.silentTells

end
