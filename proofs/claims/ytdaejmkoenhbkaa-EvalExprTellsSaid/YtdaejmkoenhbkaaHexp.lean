/- What the bodies of these functions demand, printed by a program of mine (Gen) from the seat's program; each is checked by the kernel against the body. -/
import Derived.Test.YtdaejmkoenhbkaaSlh
namespace Go.Proofs.Ytdaejmkoenhbkaa.Am
set_option linter.unusedVariables false
set_option maxRecDepth 100000
/- interleave/eval.Binary -/
def eval_Binary_t : Hints := ⟨fun k => none, fun k => [], fun k => [], fun k => []⟩
def eval_Binary_zt0 (t2 : AV) (Q : AV → SH → Prop) (L : SH) (t1 : AV)  : Prop :=
 W.bin Try.prog Fl .eql 2 t2 (.int .i64 0) fun t27_7 =>
 W.cond t27_7 (
 Q (.tup [(.int .i64 0), (.bool true)]) L) (
 W.bin Try.prog Fl .quo 2 t1 t2 fun t30_8 =>
 Q (.tup [t30_8, (.bool true)]) L)
def eval_Binary_zt1 (t2 : AV) (Q : AV → SH → Prop) (L : SH) (t1 : AV)  : Prop :=
 W.bin Try.prog Fl .eql 2 t2 (.int .i64 0) fun t34_10 =>
 W.cond t34_10 (
 Q (.tup [(.int .i64 0), (.bool true)]) L) (
 W.bin Try.prog Fl .rem 2 t1 t2 fun t37_11 =>
 Q (.tup [t37_11, (.bool true)]) L)
def eval_Binary_zt2 (t1 : AV) (t2 : AV) (L : SH) (Q : AV → SH → Prop)  : Prop :=
 W.bin Try.prog Fl .neq 2 t1 (.int .i64 0) fun t77_37 =>
 W.grd t77_37 true (fun k_39 => k_39 t2 L) L fun t79_38 L_40 =>
 W.grd t77_37 true (fun k_42 => W.bin Try.prog Fl .neq 2 t79_38 (.int .i64 0) fun v_44 =>
 k_42 v_44 L_40) L_40 fun t80_41 L_43 =>
 W.pick t77_37 t80_41 (.bool false) fun t81_45 =>
 W.call Try.prog (.fn 25 []) [t81_45] L_43 fun t82_46 L_47 =>
 Q (.tup [t82_46, (.bool true)]) L_47
def eval_Binary_zt3 (t1 : AV) (t2 : AV) (L : SH) (Q : AV → SH → Prop)  : Prop :=
 W.bin Try.prog Fl .neq 2 t1 (.int .i64 0) fun t86_49 =>
 W.grd t86_49 false (fun k_51 => k_51 t2 L) L fun t88_50 L_52 =>
 W.grd t86_49 false (fun k_54 => W.bin Try.prog Fl .neq 2 t88_50 (.int .i64 0) fun v_56 =>
 k_54 v_56 L_52) L_52 fun t89_53 L_55 =>
 W.pick t86_49 (.bool true) t89_53 fun t90_57 =>
 W.call Try.prog (.fn 25 []) [t90_57] L_55 fun t91_58 L_59 =>
 Q (.tup [t91_58, (.bool true)]) L_59
def eval_Binary_zt4 (t0 : AV) (t1 : AV) (t2 : AV) (L : SH) (Q : AV → SH → Prop)  : Prop :=
 W.bin Try.prog Fl .eql 3 t0 (.int .i64 17) fun t75_36 =>
 W.cond t75_36 (
 (eval_Binary_zt2 t1 t2 L Q)) (
 W.bin Try.prog Fl .eql 3 t0 (.int .i64 18) fun t84_48 =>
 W.cond t84_48 (
 (eval_Binary_zt3 t1 t2 L Q)) (
 Q (.tup [(.int .i64 0), (.bool false)]) L))
def eval_Binary_zt5 (t0 : AV) (t1 : AV) (t2 : AV) (L : SH) (Q : AV → SH → Prop)  : Prop :=
 W.bin Try.prog Fl .eql 3 t0 (.int .i64 16) fun t69_32 =>
 W.cond t69_32 (
 W.bin Try.prog Fl .geq 2 t1 t2 fun t72_33 =>
 W.call Try.prog (.fn 25 []) [t72_33] L fun t73_34 L_35 =>
 Q (.tup [t73_34, (.bool true)]) L_35) (
 (eval_Binary_zt4 t0 t1 t2 L Q))
def eval_Binary_zt6 (t0 : AV) (t1 : AV) (t2 : AV) (L : SH) (Q : AV → SH → Prop)  : Prop :=
 W.bin Try.prog Fl .eql 3 t0 (.int .i64 15) fun t63_28 =>
 W.cond t63_28 (
 W.bin Try.prog Fl .gtr 2 t1 t2 fun t66_29 =>
 W.call Try.prog (.fn 25 []) [t66_29] L fun t67_30 L_31 =>
 Q (.tup [t67_30, (.bool true)]) L_31) (
 (eval_Binary_zt5 t0 t1 t2 L Q))
def eval_Binary_zt7 (t0 : AV) (t1 : AV) (t2 : AV) (L : SH) (Q : AV → SH → Prop)  : Prop :=
 W.bin Try.prog Fl .eql 3 t0 (.int .i64 14) fun t57_24 =>
 W.cond t57_24 (
 W.bin Try.prog Fl .leq 2 t1 t2 fun t60_25 =>
 W.call Try.prog (.fn 25 []) [t60_25] L fun t61_26 L_27 =>
 Q (.tup [t61_26, (.bool true)]) L_27) (
 (eval_Binary_zt6 t0 t1 t2 L Q))
def eval_Binary_zt8 (t0 : AV) (t1 : AV) (t2 : AV) (L : SH) (Q : AV → SH → Prop)  : Prop :=
 W.bin Try.prog Fl .eql 3 t0 (.int .i64 13) fun t51_20 =>
 W.cond t51_20 (
 W.bin Try.prog Fl .lss 2 t1 t2 fun t54_21 =>
 W.call Try.prog (.fn 25 []) [t54_21] L fun t55_22 L_23 =>
 Q (.tup [t55_22, (.bool true)]) L_23) (
 (eval_Binary_zt7 t0 t1 t2 L Q))
def eval_Binary_zt9 (t0 : AV) (t1 : AV) (t2 : AV) (L : SH) (Q : AV → SH → Prop)  : Prop :=
 W.bin Try.prog Fl .eql 3 t0 (.int .i64 12) fun t45_16 =>
 W.cond t45_16 (
 W.bin Try.prog Fl .neq 2 t1 t2 fun t48_17 =>
 W.call Try.prog (.fn 25 []) [t48_17] L fun t49_18 L_19 =>
 Q (.tup [t49_18, (.bool true)]) L_19) (
 (eval_Binary_zt8 t0 t1 t2 L Q))
def eval_Binary_zt10 (t0 : AV) (t1 : AV) (t2 : AV) (L : SH) (Q : AV → SH → Prop)  : Prop :=
 W.bin Try.prog Fl .eql 3 t0 (.int .i64 11) fun t39_12 =>
 W.cond t39_12 (
 W.bin Try.prog Fl .eql 2 t1 t2 fun t42_13 =>
 W.call Try.prog (.fn 25 []) [t42_13] L fun t43_14 L_15 =>
 Q (.tup [t43_14, (.bool true)]) L_15) (
 (eval_Binary_zt9 t0 t1 t2 L Q))
def eval_Binary_zt11 (t0 : AV) (t2 : AV) (Q : AV → SH → Prop) (L : SH) (t1 : AV)  : Prop :=
 W.bin Try.prog Fl .eql 3 t0 (.int .i64 9) fun t25_6 =>
 W.cond t25_6 (
 (eval_Binary_zt0 t2 Q L t1)) (
 W.bin Try.prog Fl .eql 3 t0 (.int .i64 10) fun t32_9 =>
 W.cond t32_9 (
 (eval_Binary_zt1 t2 Q L t1)) (
 (eval_Binary_zt10 t0 t1 t2 L Q)))
def eval_Binary_zt12 (t0 : AV) (t1 : AV) (t2 : AV) (Q : AV → SH → Prop) (L : SH)  : Prop :=
 W.bin Try.prog Fl .eql 3 t0 (.int .i64 8) fun t20_4 =>
 W.cond t20_4 (
 W.bin Try.prog Fl .mul 2 t1 t2 fun t23_5 =>
 Q (.tup [t23_5, (.bool true)]) L) (
 (eval_Binary_zt11 t0 t2 Q L t1))
def eval_Binary_zt13 (t0 : AV) (t1 : AV) (t2 : AV) (Q : AV → SH → Prop) (L : SH)  : Prop :=
 W.bin Try.prog Fl .eql 3 t0 (.int .i64 7) fun t15_2 =>
 W.cond t15_2 (
 W.bin Try.prog Fl .sub 2 t1 t2 fun t18_3 =>
 Q (.tup [t18_3, (.bool true)]) L) (
 (eval_Binary_zt12 t0 t1 t2 Q L))
def eval_Binary_w (t0 t1 t2 : AV) (L : SH) (Q : AV → SH → Prop) : Prop :=
 W.bin Try.prog Fl .eql 3 t0 (.int .i64 6) fun t10_0 =>
 W.cond t10_0 (
 W.bin Try.prog Fl .add 2 t1 t2 fun t13_1 =>
 Q (.tup [t13_1, (.bool true)]) L) (
 (eval_Binary_zt13 t0 t1 t2 Q L))
theorem eval_Binary_e (t0 t1 t2 : AV) (L : SH) (Q : AV → SH → Prop) : W.func Try.prog Fl eval_Binary_t Try.f14 (Try.f14.body.getD .skip) [t0, t1, t2] L Q = eval_Binary_w t0 t1 t2 L Q := by kernel_rfl
theorem eval_Binary_ok (t0 t1 t2 : AV) (L : SH) (Q : AV → SH → Prop) (h : eval_Binary_w t0 t1 t2 L Q) : CallA Try.prog 14 [t0, t1, t2] L Q :=
  func_sound (ht := eval_Binary_t) fit Try.func14 (show Try.f14.body = some (Try.f14.body.getD .skip) by kernel_rfl) (Eq.mpr (eval_Binary_e t0 t1 t2 L Q) h)

/- interleave/eval.Unary -/
def eval_Unary_t : Hints := ⟨fun k => none, fun k => [], fun k => [], fun k => []⟩
def eval_Unary_zt0 (t0 : AV) (t1 : AV) (L : SH) (Q : AV → SH → Prop)  : Prop :=
 W.bin Try.prog Fl .eql 3 t0 (.int .i64 5) fun t12_2 =>
 W.cond t12_2 (
 W.bin Try.prog Fl .eql 2 t1 (.int .i64 0) fun t14_3 =>
 W.call Try.prog (.fn 25 []) [t14_3] L fun t15_4 L_5 =>
 Q (.tup [t15_4, (.bool true)]) L_5) (
 Q (.tup [(.int .i64 0), (.bool false)]) L)
def eval_Unary_w (t0 t1 : AV) (L : SH) (Q : AV → SH → Prop) : Prop :=
 W.bin Try.prog Fl .eql 3 t0 (.int .i64 4) fun t8_0 =>
 W.cond t8_0 (
 W.un .neg t1 fun t10_1 =>
 Q (.tup [t10_1, (.bool true)]) L) (
 (eval_Unary_zt0 t0 t1 L Q))
theorem eval_Unary_e (t0 t1 : AV) (L : SH) (Q : AV → SH → Prop) : W.func Try.prog Fl eval_Unary_t Try.f16 (Try.f16.body.getD .skip) [t0, t1] L Q = eval_Unary_w t0 t1 L Q := by kernel_rfl
theorem eval_Unary_ok (t0 t1 : AV) (L : SH) (Q : AV → SH → Prop) (h : eval_Unary_w t0 t1 L Q) : CallA Try.prog 16 [t0, t1] L Q :=
  func_sound (ht := eval_Unary_t) fit Try.func16 (show Try.f16.body = some (Try.f16.body.getD .skip) by kernel_rfl) (Eq.mpr (eval_Unary_e t0 t1 L Q) h)

/- interleave/interleavemade.Expr -/
def made_Expr_t : Hints := ⟨fun k => none, fun k => [], fun k => [], fun k => []⟩
def made_Expr_c0 (t2_0 : AV) (Q : AV → SH → Prop) (t10_8 : AV) (L_9 : SH) : Prop :=
 W.store 4 t2_0 t10_8 L_9 fun L_10 =>
 W.load true 4 t2_0 L_10 fun r_11 =>
 Q r_11 L_10
def made_Expr_w (t0 : AV) (L : SH) (Q : AV → SH → Prop) : Prop :=
 W.alloc [(.int .i64 0), (.int .i64 0), (.str []), .nils] L fun t2_0 L_1 =>
 W.build [.nils, (.int .i64 0)] [(0, 1, t0)] fun t5_2 =>
 W.box t5_2 L_1 fun t6_3 L_4 =>
 W.build [.nilp, (.int .i64 0), (.int .i64 0)] [(0, 1, t6_3)] fun t7_5 =>
 W.box t7_5 L_4 fun t8_6 L_7 =>
 W.call Try.prog (.fn 28 []) [t8_6, (.int .i64 5)] L_7 (made_Expr_c0 t2_0 Q)
theorem made_Expr_e (t0 : AV) (L : SH) (Q : AV → SH → Prop) : W.func Try.prog Fl made_Expr_t Try.f20 (Try.f20.body.getD .skip) [t0] L Q = made_Expr_w t0 L Q := by kernel_rfl
theorem made_Expr_ok (t0 : AV) (L : SH) (Q : AV → SH → Prop) (h : made_Expr_w t0 L Q) : CallA Try.prog 20 [t0] L Q :=
  func_sound (ht := made_Expr_t) fit Try.func20 (show Try.f20.body = some (Try.f20.body.getD .skip) by kernel_rfl) (Eq.mpr (made_Expr_e t0 L Q) h)

/- interleave/eval.Expr -/
def eval_Expr_t : Hints := ⟨fun k => none, fun k => if k = 5 then [1, 2, 3, 8, 18, 19, 20] else [], fun k => if k = 0 then [3] else if k = 6 then [10] else [], fun k => []⟩
def eval_Expr_zt0 (vs_13 : List AV) (t30_27 : AV) (L_26 : SH) (nx_14 : W.Kn)  : Prop :=
 W.idxP 2 1 (slotOf [1, 2, 3, 8, 18, 19, 20] vs_13 8) (slotOf [1, 2, 3, 8, 18, 19, 20] vs_13 20) fun t36_30 =>
 W.store 1 t36_30 t30_27 L_26 fun L_31 =>
 W.bin Try.prog Fl .add 3 (slotOf [1, 2, 3, 8, 18, 19, 20] vs_13 20) (.int .i64 1) fun t37_32 =>
 nx_14 [(slotOf [1, 2, 3, 8, 18, 19, 20] vs_13 1), (slotOf [1, 2, 3, 8, 18, 19, 20] vs_13 2), (slotOf [1, 2, 3, 8, 18, 19, 20] vs_13 3), (slotOf [1, 2, 3, 8, 18, 19, 20] vs_13 8), (slotOf [1, 2, 3, 8, 18, 19, 20] vs_13 18), (slotOf [1, 2, 3, 8, 18, 19, 20] vs_13 19), t37_32] L_31
def eval_Expr_c0 (Q : AV → SH → Prop) (vs_13 : List AV) (nx_14 : W.Kn) (t29_25 : AV) (L_26 : SH) : Prop :=
 W.ext 0 t29_25 fun t30_27 =>
 W.ext 1 t29_25 fun t31_28 =>
 W.un .not t31_28 fun t33_29 =>
 W.cond t33_29 (
 Q (.tup [(.int .i64 0), (.bool false)]) L_26) (
 (eval_Expr_zt0 vs_13 t30_27 L_26 nx_14))
def eval_Expr_zt1 (vs_13 : List AV) (L_15 : SH) (Q : AV → SH → Prop) (nx_14 : W.Kn)  : Prop :=
 W.idx 4 (slotOf [1, 2, 3, 8, 18, 19, 20] vs_13 18) (slotOf [1, 2, 3, 8, 18, 19, 20] vs_13 20) L_15 fun t23_17 =>
 W.load true 4 t23_17 L_15 fun t24_18 =>
 W.alloc [(.int .i64 0), (.int .i64 0), (.str []), .nils] L_15 fun t10_19 L_20 =>
 W.store 4 t10_19 t24_18 L_20 fun L_21 =>
 W.frz1 t10_19 L_21 fun t10_22 L_23 =>
 W.load true 4 t10_22 L_23 fun t26_24 =>
 W.call Try.prog (.fn 21 []) [t26_24, (slotOf [1, 2, 3, 8, 18, 19, 20] vs_13 1), (slotOf [1, 2, 3, 8, 18, 19, 20] vs_13 2)] L_23 (eval_Expr_c0 Q vs_13 nx_14)
def eval_Expr_c1 (Q : AV → SH → Prop) (t47_41 : AV) (L_42 : SH) : Prop :=
 W.ext 0 t47_41 fun t48_43 =>
 W.ext 1 t47_41 fun t49_44 =>
 Q (.tup [t48_43, t49_44]) L_42
def eval_Expr_zt2 (vs_13 : List AV) (L_15 : SH) (Q : AV → SH → Prop)  : Prop :=
 W.faddr 0 (slotOf [1, 2, 3, 8, 18, 19, 20] vs_13 3) fun t43_37 =>
 W.load false 1 t43_37 L_15 fun t44_38 =>
 W.idxP 2 1 (slotOf [1, 2, 3, 8, 18, 19, 20] vs_13 8) (.int .i64 0) fun t45_39 =>
 W.load false 1 t45_39 L_15 fun t46_40 =>
 W.call Try.prog (.fn 16 []) [t44_38, t46_40] L_15 (eval_Expr_c1 Q)
def eval_Expr_c2 (Q : AV → SH → Prop) (t58_52 : AV) (L_53 : SH) : Prop :=
 W.ext 0 t58_52 fun t59_54 =>
 W.ext 1 t58_52 fun t60_55 =>
 Q (.tup [t59_54, t60_55]) L_53
def eval_Expr_zt3 (vs_13 : List AV) (L_15 : SH) (Q : AV → SH → Prop)  : Prop :=
 W.faddr 0 (slotOf [1, 2, 3, 8, 18, 19, 20] vs_13 3) fun t52_46 =>
 W.load false 1 t52_46 L_15 fun t53_47 =>
 W.idxP 2 1 (slotOf [1, 2, 3, 8, 18, 19, 20] vs_13 8) (.int .i64 0) fun t54_48 =>
 W.load false 1 t54_48 L_15 fun t55_49 =>
 W.idxP 2 1 (slotOf [1, 2, 3, 8, 18, 19, 20] vs_13 8) (.int .i64 1) fun t56_50 =>
 W.load false 1 t56_50 L_15 fun t57_51 =>
 W.call Try.prog (.fn 14 []) [t53_47, t55_49, t57_51] L_15 (eval_Expr_c2 Q)
def eval_Expr_c3 (Q : AV → SH → Prop) (t73_64 : AV) (L_65 : SH) : Prop :=
 W.ext 0 t73_64 fun t74_66 =>
 W.ext 1 t73_64 fun t75_67 =>
 Q (.tup [t74_66, t75_67]) L_65
def eval_Expr_zt4 (vs_13 : List AV) (L_15 : SH) (Q : AV → SH → Prop)  : Prop :=
 W.faddr 2 (slotOf [1, 2, 3, 8, 18, 19, 20] vs_13 3) fun t69_62 =>
 W.load false 1 t69_62 L_15 fun t70_63 =>
 W.call Try.prog (.fn 29 []) [t70_63, (slotOf [1, 2, 3, 8, 18, 19, 20] vs_13 1), (slotOf [1, 2, 3, 8, 18, 19, 20] vs_13 2)] L_15 (eval_Expr_c3 Q)
def eval_Expr_zt5 (vs_13 : List AV) (L_15 : SH) (Q : AV → SH → Prop)  : Prop :=
 W.faddr 0 (slotOf [1, 2, 3, 8, 18, 19, 20] vs_13 3) fun t61_56 =>
 W.load false 1 t61_56 L_15 fun t62_57 =>
 W.bin Try.prog Fl .eql 3 t62_57 (.int .i64 1) fun t64_58 =>
 W.cond t64_58 (
 W.faddr 1 (slotOf [1, 2, 3, 8, 18, 19, 20] vs_13 3) fun t65_59 =>
 W.load false 1 t65_59 L_15 fun t66_60 =>
 Q (.tup [t66_60, (.bool true)]) L_15) (
 W.bin Try.prog Fl .eql 3 t62_57 (.int .i64 2) fun t68_61 =>
 W.cond t68_61 (
 (eval_Expr_zt4 vs_13 L_15 Q)) (
 Q (.tup [(.int .i64 0), (.bool false)]) L_15))
def eval_Expr_zt6 (vs_13 : List AV) (L_15 : SH) (Q : AV → SH → Prop)  : Prop :=
 W.faddr 3 (slotOf [1, 2, 3, 8, 18, 19, 20] vs_13 3) fun t38_33 =>
 W.load false 1 t38_33 L_15 fun t39_34 =>
 W.len t39_34 fun t40_35 =>
 W.bin Try.prog Fl .eql 3 t40_35 (.int .i64 1) fun t42_36 =>
 W.cond t42_36 (
 (eval_Expr_zt2 vs_13 L_15 Q)) (
 W.bin Try.prog Fl .eql 3 t40_35 (.int .i64 2) fun t51_45 =>
 W.cond t51_45 (
 (eval_Expr_zt3 vs_13 L_15 Q)) (
 (eval_Expr_zt5 vs_13 L_15 Q)))
def eval_Expr_l4 (Q : AV → SH → Prop) (vs_13 : List AV) (L_15 : SH) (nx_14 : W.Kn) : Prop :=
 W.bin Try.prog Fl .lss 3 (slotOf [1, 2, 3, 8, 18, 19, 20] vs_13 20) (slotOf [1, 2, 3, 8, 18, 19, 20] vs_13 19) fun t21_16 =>
 W.cond t21_16 (
 (eval_Expr_zt1 vs_13 L_15 Q nx_14)) (
 (eval_Expr_zt6 vs_13 L_15 Q))
def eval_Expr_zt7 (t3_2 : AV) (L_5 : SH) (Q : AV → SH → Prop) (t1 : AV) (t2 : AV) (t8_4 : AV)  : Prop :=
 W.faddr 3 t3_2 fun t17_10 =>
 W.load false 1 t17_10 L_5 fun t18_11 =>
 W.len t18_11 fun t19_12 =>
 W.loop (eval_Expr_l4 Q) [t1, t2, t3_2, t8_4, t18_11, t19_12, (.int .i64 0)] L_5
def eval_Expr_w (t0 t1 t2 : AV) (L : SH) (Q : AV → SH → Prop) : Prop :=
 W.box t0 L fun t3_0 L_1 =>
 W.frz1 t3_0 L_1 fun t3_2 L_3 =>
 W.alloc [(.int .i64 0), (.int .i64 0)] L_3 fun t8_4 L_5 =>
 W.faddr 3 t3_2 fun t13_6 =>
 W.load false 1 t13_6 L_5 fun t14_7 =>
 W.len t14_7 fun t15_8 =>
 W.bin Try.prog Fl .gtr 3 t15_8 (.int .i64 2) fun t16_9 =>
 W.cond t16_9 (
 Q (.tup [(.int .i64 0), (.bool false)]) L_5) (
 (eval_Expr_zt7 t3_2 L_5 Q t1 t2 t8_4))
theorem eval_Expr_e (t0 t1 t2 : AV) (L : SH) (Q : AV → SH → Prop) : W.func Try.prog Fl eval_Expr_t Try.f21 (Try.f21.body.getD .skip) [t0, t1, t2] L Q = eval_Expr_w t0 t1 t2 L Q := by kernel_rfl
theorem eval_Expr_ok (t0 t1 t2 : AV) (L : SH) (Q : AV → SH → Prop) (h : eval_Expr_w t0 t1 t2 L Q) : CallA Try.prog 21 [t0, t1, t2] L Q :=
  func_sound (ht := eval_Expr_t) fit Try.func21 (show Try.f21.body = some (Try.f21.body.getD .skip) by kernel_rfl) (Eq.mpr (eval_Expr_e t0 t1 t2 L Q) h)

/- interleave/interleaveref05.Expr -/
def ref05_Expr_t : Hints := ⟨fun k => none, fun k => if k = 5 then [1, 2, 3, 8] else [], fun k => if k = 0 then [3] else [], fun k => if k = 7 then [0, 0, 3, 7, 0, 16, 63] else []⟩
def ref05_Expr_zt0 (vs_46 : List AV) (L_48 : SH) (Q : AV → SH → Prop)  : Prop :=
 W.idx 1 (slotOf [1, 2, 3, 8] vs_46 2) (slotOf [1, 2, 3, 8] vs_46 8) L_48 fun t56_61 =>
 W.load false 1 t56_61 L_48 fun t57_62 =>
 Q (.tup [t57_62, (.bool true)]) L_48
def ref05_Expr_zt1 (vs_46 : List AV) (Q : AV → SH → Prop) (L_48 : SH)  : Prop :=
 W.len (slotOf [1, 2, 3, 8] vs_46 2) fun t52_59 =>
 W.bin Try.prog Fl .geq 3 (slotOf [1, 2, 3, 8] vs_46 8) t52_59 fun t53_60 =>
 W.cond t53_60 (
 Q (.tup [(.int .i64 0), (.bool false)]) L_48) (
 (ref05_Expr_zt0 vs_46 L_48 Q))
def ref05_Expr_zt2 (vs_46 : List AV) (nx_47 : W.Kn) (L_48 : SH)  : Prop :=
 W.bin Try.prog Fl .add 3 (slotOf [1, 2, 3, 8] vs_46 8) (.int .i64 1) fun t42_63 =>
 nx_47 [(slotOf [1, 2, 3, 8] vs_46 1), (slotOf [1, 2, 3, 8] vs_46 2), (slotOf [1, 2, 3, 8] vs_46 3), t42_63] L_48
def ref05_Expr_zt3 (vs_46 : List AV) (L_48 : SH) (Q : AV → SH → Prop) (nx_47 : W.Kn)  : Prop :=
 (true = true) ∧ (
 W.calm [] ⟨2, (slOf (slotOf [1, 2, 3, 8] vs_46 1)), [], [], false, []⟩ (
 W.idx 1 (slotOf [1, 2, 3, 8] vs_46 1) (slotOf [1, 2, 3, 8] vs_46 8) L_48 fun t45_51 =>
 W.note ⟨(slOf (slotOf [1, 2, 3, 8] vs_46 1)), [], [], []⟩ fun r_52 =>
 W.calm [] ⟨3, (blocksOf t45_51), [], [], false, []⟩ (
 W.load false 1 t45_51 L_48 fun t46_53 =>
 W.note ⟨(blocksOf t45_51), [], [], []⟩ fun r_54 =>
 W.faddr 2 (slotOf [1, 2, 3, 8] vs_46 3) fun t47_55 =>
 W.calm [⟨3, r_54.reads, r_54.writes, r_54.made, false, r_54.old⟩, ⟨2, r_52.reads, r_52.writes, r_52.made, false, r_52.old⟩] ⟨5, (blocksOf t47_55), [], [], false, []⟩ (
 W.load false 1 t47_55 L_48 fun t48_56 =>
 W.note ⟨(blocksOf t47_55), [], [], []⟩ fun r_57 =>
 W.bin Try.prog Fl .eql 9 t46_53 t48_56 fun t49_58 =>
 W.cond t49_58 (
 (ref05_Expr_zt1 vs_46 Q L_48)) (
 (ref05_Expr_zt2 vs_46 nx_47 L_48))))))
def ref05_Expr_l0 (Q : AV → SH → Prop) (vs_46 : List AV) (L_48 : SH) (nx_47 : W.Kn) : Prop :=
 W.len (slotOf [1, 2, 3, 8] vs_46 1) fun t39_49 =>
 W.bin Try.prog Fl .lss 3 (slotOf [1, 2, 3, 8] vs_46 8) t39_49 fun t40_50 =>
 W.cond t40_50 (
 (ref05_Expr_zt3 vs_46 L_48 Q nx_47)) (
 Q (.tup [(.int .i64 0), (.bool false)]) L_48)
def ref05_Expr_c1 (Q : AV → SH → Prop) (t78_79 : AV) (L_80 : SH) : Prop :=
 W.ext 0 t78_79 fun t79_81 =>
 W.ext 1 t78_79 fun t80_82 =>
 Q (.tup [t79_81, t80_82]) L_80
def ref05_Expr_c2 (Q : AV → SH → Prop) (t3_2 : AV) (t70_72 : AV) (L_73 : SH) : Prop :=
 W.ext 0 t70_72 fun t71_74 =>
 W.ext 1 t70_72 fun t72_75 =>
 W.un .not t72_75 fun t74_76 =>
 W.cond t74_76 (
 Q (.tup [(.int .i64 0), (.bool false)]) L_73) (
 W.faddr 0 t3_2 fun t75_77 =>
 W.load false 1 t75_77 L_73 fun t76_78 =>
 W.call Try.prog (.fn 26 []) [t76_78, t71_74] L_73 (ref05_Expr_c1 Q))
def ref05_Expr_zt4 (t3_2 : AV) (L_43 : SH) (t1 : AV) (t2 : AV) (Q : AV → SH → Prop)  : Prop :=
 W.faddr 3 t3_2 fun t64_68 =>
 W.load false 1 t64_68 L_43 fun t65_69 =>
 W.idx 4 t65_69 (.int .i64 0) L_43 fun t66_70 =>
 W.load true 4 t66_70 L_43 fun t67_71 =>
 W.call Try.prog (.fn 22 []) [t67_71, t1, t2] L_43 (ref05_Expr_c2 Q t3_2)
def ref05_Expr_c3 (Q : AV → SH → Prop) (t116_114 : AV) (L_115 : SH) : Prop :=
 W.ext 0 t116_114 fun t117_116 =>
 W.ext 1 t116_114 fun t118_117 =>
 Q (.tup [t117_116, t118_117]) L_115
def ref05_Expr_c4 (t95_94 : AV) (Q : AV → SH → Prop) (t3_2 : AV) (t94_93 : AV) (t103_99 : AV) (L_100 : SH) : Prop :=
 W.ext 0 t103_99 fun t104_101 =>
 W.ext 1 t103_99 fun t105_102 =>
 W.un .not t95_94 fun t107_103 =>
 W.grd t107_103 false (fun k_105 => k_105 t105_102 L_100) L_100 fun t109_104 L_106 =>
 W.grd t107_103 false (fun k_108 => W.un .not t109_104 fun v_110 =>
 k_108 v_110 L_106) L_106 fun t110_107 L_109 =>
 W.pick t107_103 (.bool true) t110_107 fun t111_111 =>
 W.cond t111_111 (
 Q (.tup [(.int .i64 0), (.bool false)]) L_109) (
 W.faddr 0 t3_2 fun t112_112 =>
 W.load false 1 t112_112 L_109 fun t113_113 =>
 W.call Try.prog (.fn 27 []) [t113_113, t94_93, t104_101] L_109 (ref05_Expr_c3 Q))
def ref05_Expr_c5 (t3_2 : AV) (t1 : AV) (t2 : AV) (Q : AV → SH → Prop) (t93_91 : AV) (L_92 : SH) : Prop :=
 W.ext 0 t93_91 fun t94_93 =>
 W.ext 1 t93_91 fun t95_94 =>
 W.faddr 3 t3_2 fun t97_95 =>
 W.load false 1 t97_95 L_92 fun t98_96 =>
 W.idx 4 t98_96 (.int .i64 1) L_92 fun t99_97 =>
 W.load true 4 t99_97 L_92 fun t100_98 =>
 W.call Try.prog (.fn 22 []) [t100_98, t1, t2] L_92 (ref05_Expr_c4 t95_94 Q t3_2 t94_93)
def ref05_Expr_zt5 (t3_2 : AV) (L_43 : SH) (t1 : AV) (t2 : AV) (Q : AV → SH → Prop)  : Prop :=
 W.faddr 3 t3_2 fun t87_87 =>
 W.load false 1 t87_87 L_43 fun t88_88 =>
 W.idx 4 t88_88 (.int .i64 0) L_43 fun t89_89 =>
 W.load true 4 t89_89 L_43 fun t90_90 =>
 W.call Try.prog (.fn 22 []) [t90_90, t1, t2] L_43 (ref05_Expr_c5 t3_2 t1 t2 Q)
def ref05_Expr_zt6 (t3_2 : AV) (L_43 : SH) (t1 : AV) (t2 : AV) (Q : AV → SH → Prop)  : Prop :=
 W.faddr 3 t3_2 fun t82_83 =>
 W.load false 1 t82_83 L_43 fun t83_84 =>
 W.len t83_84 fun t84_85 =>
 W.bin Try.prog Fl .eql 3 t84_85 (.int .i64 2) fun t85_86 =>
 W.cond t85_86 (
 (ref05_Expr_zt5 t3_2 L_43 t1 t2 Q)) (
 Q (.tup [(.int .i64 0), (.bool false)]) L_43)
def ref05_Expr_zt7 (t3_2 : AV) (L_43 : SH) (t1 : AV) (t2 : AV) (Q : AV → SH → Prop)  : Prop :=
 W.faddr 3 t3_2 fun t59_64 =>
 W.load false 1 t59_64 L_43 fun t60_65 =>
 W.len t60_65 fun t61_66 =>
 W.bin Try.prog Fl .eql 3 t61_66 (.int .i64 1) fun t62_67 =>
 W.cond t62_67 (
 (ref05_Expr_zt4 t3_2 L_43 t1 t2 Q)) (
 (ref05_Expr_zt6 t3_2 L_43 t1 t2 Q))
def ref05_Expr_zt8 (t3_2 : AV) (L_21 : SH) (Q : AV → SH → Prop) (t1 : AV) (t2 : AV)  : Prop :=
 W.faddr 0 t3_2 fun t28_26 =>
 W.load false 1 t28_26 L_21 fun t29_27 =>
 W.bin Try.prog Fl .eql 3 t29_27 (.int .i64 2) fun t30_28 =>
 W.grd t30_28 true (fun k_30 => W.faddr 3 t3_2 fun v_32 =>
 k_30 v_32 L_21) L_21 fun t32_29 L_31 =>
 W.grd t30_28 true (fun k_34 => W.load false 1 t32_29 L_31 fun v_36 =>
 k_34 v_36 L_31) L_31 fun t33_33 L_35 =>
 W.grd t30_28 true (fun k_38 => W.len t33_33 fun v_40 =>
 k_38 v_40 L_35) L_35 fun t34_37 L_39 =>
 W.grd t30_28 true (fun k_42 => W.bin Try.prog Fl .eql 3 t34_37 (.int .i64 0) fun v_44 =>
 k_42 v_44 L_39) L_39 fun t35_41 L_43 =>
 W.pick t30_28 t35_41 (.bool false) fun t36_45 =>
 W.cond t36_45 (
 W.loop (ref05_Expr_l0 Q) [t1, t2, t3_2, (.int .i64 0)] L_43) (
 (ref05_Expr_zt7 t3_2 L_43 t1 t2 Q))
def ref05_Expr_w (t0 t1 t2 : AV) (L : SH) (Q : AV → SH → Prop) : Prop :=
 W.box t0 L fun t3_0 L_1 =>
 W.frz1 t3_0 L_1 fun t3_2 L_3 =>
 W.faddr 0 t3_2 fun t16_4 =>
 W.load false 1 t16_4 L_3 fun t17_5 =>
 W.bin Try.prog Fl .eql 3 t17_5 (.int .i64 1) fun t18_6 =>
 W.grd t18_6 true (fun k_8 => W.faddr 3 t3_2 fun v_10 =>
 k_8 v_10 L_3) L_3 fun t20_7 L_9 =>
 W.grd t18_6 true (fun k_12 => W.load false 1 t20_7 L_9 fun v_14 =>
 k_12 v_14 L_9) L_9 fun t21_11 L_13 =>
 W.grd t18_6 true (fun k_16 => W.len t21_11 fun v_18 =>
 k_16 v_18 L_13) L_13 fun t22_15 L_17 =>
 W.grd t18_6 true (fun k_20 => W.bin Try.prog Fl .eql 3 t22_15 (.int .i64 0) fun v_22 =>
 k_20 v_22 L_17) L_17 fun t23_19 L_21 =>
 W.pick t18_6 t23_19 (.bool false) fun t24_23 =>
 W.cond t24_23 (
 W.faddr 1 t3_2 fun t25_24 =>
 W.load false 1 t25_24 L_21 fun t26_25 =>
 Q (.tup [t26_25, (.bool true)]) L_21) (
 (ref05_Expr_zt8 t3_2 L_21 Q t1 t2))
theorem ref05_Expr_e (t0 t1 t2 : AV) (L : SH) (Q : AV → SH → Prop) : W.func Try.prog Fl ref05_Expr_t Try.f22 (Try.f22.body.getD .skip) [t0, t1, t2] L Q = ref05_Expr_w t0 t1 t2 L Q := by kernel_rfl
theorem ref05_Expr_ok (t0 t1 t2 : AV) (L : SH) (Q : AV → SH → Prop) (h : ref05_Expr_w t0 t1 t2 L Q) : CallA Try.prog 22 [t0, t1, t2] L Q :=
  func_sound (ht := ref05_Expr_t) fit Try.func22 (show Try.f22.body = some (Try.f22.body.getD .skip) by kernel_rfl) (Eq.mpr (ref05_Expr_e t0 t1 t2 L Q) h)

/- interleave/interleavelaw05.variables -/
def law05_variables_t : Hints := ⟨fun k => none, fun k => [], fun k => [], fun k => []⟩
def law05_variables_w (L : SH) (Q : AV → SH → Prop) : Prop :=
 W.bslice 1 [(.str [])] 10 [(0, (.str [120])), (1, (.str [121])), (2, (.str [97])), (3, (.str [98])), (4, (.str [118])), (5, (.str [109])), (6, (.str [116])), (7, (.str [122, 122])), (8, (.str [102])), (9, (.str [120]))] L fun t1_0 L_1 =>
 Q t1_0 L_1
theorem law05_variables_e (L : SH) (Q : AV → SH → Prop) : W.func Try.prog Fl law05_variables_t Try.f23 (Try.f23.body.getD .skip) [] L Q = law05_variables_w  L Q := by kernel_rfl
theorem law05_variables_ok (L : SH) (Q : AV → SH → Prop) (h : law05_variables_w  L Q) : CallA Try.prog 23 [] L Q :=
  func_sound (ht := law05_variables_t) fit Try.func23 (show Try.f23.body = some (Try.f23.body.getD .skip) by kernel_rfl) (Eq.mpr (law05_variables_e  L Q) h)

/- interleave/interleavelaw05.put -/
def law05_put_t : Hints := ⟨fun k => none, fun k => if k = 8 then [1, 2, 3, 6, 9, 10] else [], fun k => if k = 0 then [3] else [], fun k => if k = 10 then [0, 1, 0, 4, 0, 28, 60, 0, 0, 508, 1020, 2047, 4095, 8191] else []⟩
def law05_put_zt0 (t25_29 : AV) (t6_2 : AV) (L_28 : SH) (Q : AV → SH → Prop)  : Prop :=
 W.build [(.int .i64 0), (.int .i64 0), (.str []), .nils] [(0, 1, (.int .i64 1)), (1, 1, t25_29)] fun t29_31 =>
 W.store 4 t6_2 t29_31 L_28 fun L_32 =>
 W.load true 4 t6_2 L_32 fun r_33 =>
 Q r_33 L_32
def law05_put_c0 (t6_2 : AV) (Q : AV → SH → Prop) (t3_4 : AV) (t24_27 : AV) (L_28 : SH) : Prop :=
 W.ext 0 t24_27 fun t25_29 =>
 W.ext 1 t24_27 fun t26_30 =>
 W.cond t26_30 (
 (law05_put_zt0 t25_29 t6_2 L_28 Q)) (
 W.load true 4 t3_4 L_28 fun t30_34 =>
 W.store 4 t6_2 t30_34 L_28 fun L_35 =>
 W.load true 4 t6_2 L_35 fun r_36 =>
 Q r_36 L_35)
def law05_put_d1 (L_49 : SH) (r_56 : W.Fp) (t46_55 : AV) (vs_47 : List AV) (nx_48 : W.Kn) (t54_64 : AV) (L_66 : SH) (ks_65 : List Nat) : Prop :=
 W.note ⟨[], ks_65, [], L_49.names⟩ fun r_67 =>
 W.calm [⟨1, r_56.reads, r_56.writes, r_56.made, false, r_56.old⟩] ⟨10, [], [], [], false, []⟩ (
 W.bslice 4 [(.int .i64 0), (.int .i64 0), (.str []), .nils] 1 [(0, t54_64)] L_66 fun t55_68 L_69 =>
 W.note ⟨[], [], (blocksOf t55_68), []⟩ fun r_70 =>
 W.calm [] ⟨11, (blocksOf t46_55 ++ blocksOf t55_68), (blocksOf t46_55), [], false, []⟩ (
 W.append 4 56 t46_55 t55_68 L_69 fun t56_71 L_72 =>
 W.note ⟨(blocksOf t46_55 ++ blocksOf t55_68), (blocksOf t46_55), (blocksOf t56_71), []⟩ fun r_73 =>
 W.faddr 3 (slotOf [1, 2, 3, 6, 9, 10] vs_47 9) fun t57_74 =>
 W.calm [] ⟨13, (blocksOf t57_74), (blocksOf t57_74), [], false, []⟩ (
 W.store 1 t57_74 t56_71 L_72 fun L_75 =>
 W.note ⟨(blocksOf t57_74), (blocksOf t57_74), [], []⟩ fun r_76 =>
 W.bin Try.prog Fl .add 3 (slotOf [1, 2, 3, 6, 9, 10] vs_47 10) (.int .i64 1) fun t44_77 =>
 nx_48 [(slotOf [1, 2, 3, 6, 9, 10] vs_47 1), (slotOf [1, 2, 3, 6, 9, 10] vs_47 2), (slotOf [1, 2, 3, 6, 9, 10] vs_47 3), (slotOf [1, 2, 3, 6, 9, 10] vs_47 6), (slotOf [1, 2, 3, 6, 9, 10] vs_47 9), t44_77] L_75)))
def law05_put_zt1 (vs_47 : List AV) (L_49 : SH) (nx_48 : W.Kn)  : Prop :=
 (true = true) ∧ (
 W.faddr 3 (slotOf [1, 2, 3, 6, 9, 10] vs_47 9) fun t45_54 =>
 W.calm [] ⟨1, (blocksOf t45_54), [], [], false, []⟩ (
 W.load false 1 t45_54 L_49 fun t46_55 =>
 W.note ⟨(blocksOf t45_54), [], [], []⟩ fun r_56 =>
 W.faddr 3 (slotOf [1, 2, 3, 6, 9, 10] vs_47 3) fun t47_57 =>
 W.calm [⟨1, r_56.reads, r_56.writes, r_56.made, false, r_56.old⟩] ⟨3, (blocksOf t47_57), [], [], false, []⟩ (
 W.load false 1 t47_57 L_49 fun t48_58 =>
 W.note ⟨(blocksOf t47_57), [], [], []⟩ fun r_59 =>
 W.calm [⟨1, r_56.reads, r_56.writes, r_56.made, false, r_56.old⟩] ⟨5, (slOf t48_58), [], [], false, []⟩ (
 W.idx 4 t48_58 (slotOf [1, 2, 3, 6, 9, 10] vs_47 10) L_49 fun t50_60 =>
 W.note ⟨(slOf t48_58), [], [], []⟩ fun r_61 =>
 W.calm [⟨1, r_56.reads, r_56.writes, r_56.made, false, r_56.old⟩] ⟨6, (blocksOf t50_60), [], [], false, []⟩ (
 W.load true 4 t50_60 L_49 fun t51_62 =>
 W.note ⟨(blocksOf t50_60), [], [], []⟩ fun r_63 =>
 W.dcall Try.prog [⟨1, r_56.reads, r_56.writes, r_56.made, false, r_56.old⟩] 9 (.fn 24 []) [t51_62, (slotOf [1, 2, 3, 6, 9, 10] vs_47 1), (slotOf [1, 2, 3, 6, 9, 10] vs_47 2)] L_49 (law05_put_d1 L_49 r_56 t46_55 vs_47 nx_48))))))
def law05_put_zt2 (vs_47 : List AV) (L_49 : SH) (Q : AV → SH → Prop)  : Prop :=
 W.load true 4 (slotOf [1, 2, 3, 6, 9, 10] vs_47 9) L_49 fun t58_78 =>
 W.store 4 (slotOf [1, 2, 3, 6, 9, 10] vs_47 6) t58_78 L_49 fun L_79 =>
 W.load true 4 (slotOf [1, 2, 3, 6, 9, 10] vs_47 6) L_79 fun r_80 =>
 Q r_80 L_79
def law05_put_l2 (Q : AV → SH → Prop) (vs_47 : List AV) (L_49 : SH) (nx_48 : W.Kn) : Prop :=
 W.faddr 3 (slotOf [1, 2, 3, 6, 9, 10] vs_47 3) fun t39_50 =>
 W.load false 1 t39_50 L_49 fun t40_51 =>
 W.len t40_51 fun t41_52 =>
 W.bin Try.prog Fl .lss 3 (slotOf [1, 2, 3, 6, 9, 10] vs_47 10) t41_52 fun t42_53 =>
 W.cond t42_53 (
 (law05_put_zt1 vs_47 L_49 nx_48)) (
 (law05_put_zt2 vs_47 L_49 Q))
def law05_put_zt3 (t3_4 : AV) (L_23 : SH) (Q : AV → SH → Prop) (t1 : AV) (t2 : AV) (t6_2 : AV)  : Prop :=
 W.faddr 0 t3_4 fun t31_37 =>
 W.load false 1 t31_37 L_23 fun t32_38 =>
 W.faddr 1 t3_4 fun t33_39 =>
 W.load false 1 t33_39 L_23 fun t34_40 =>
 W.faddr 2 t3_4 fun t35_41 =>
 W.load false 1 t35_41 L_23 fun t36_42 =>
 W.build [(.int .i64 0), (.int .i64 0), (.str []), .nils] [(0, 1, t32_38), (1, 1, t34_40), (2, 1, t36_42)] fun t37_43 =>
 W.alloc [(.int .i64 0), (.int .i64 0), (.str []), .nils] L_23 fun t9_44 L_45 =>
 W.store 4 t9_44 t37_43 L_45 fun L_46 =>
 W.loop (law05_put_l2 Q) [t1, t2, t3_4, t6_2, t9_44, (.int .i64 0)] L_46
def law05_put_w (t0 t1 t2 : AV) (L : SH) (Q : AV → SH → Prop) : Prop :=
 W.box t0 L fun t3_0 L_1 =>
 W.alloc [(.int .i64 0), (.int .i64 0), (.str []), .nils] L_1 fun t6_2 L_3 =>
 W.frz1 t3_0 L_3 fun t3_4 L_5 =>
 W.faddr 0 t3_4 fun t11_6 =>
 W.load false 1 t11_6 L_5 fun t12_7 =>
 W.bin Try.prog Fl .eql 3 t12_7 (.int .i64 2) fun t13_8 =>
 W.grd t13_8 true (fun k_10 => W.faddr 3 t3_4 fun v_12 =>
 k_10 v_12 L_5) L_5 fun t15_9 L_11 =>
 W.grd t13_8 true (fun k_14 => W.load false 1 t15_9 L_11 fun v_16 =>
 k_14 v_16 L_11) L_11 fun t16_13 L_15 =>
 W.grd t13_8 true (fun k_18 => W.len t16_13 fun v_20 =>
 k_18 v_20 L_15) L_15 fun t17_17 L_19 =>
 W.grd t13_8 true (fun k_22 => W.bin Try.prog Fl .eql 3 t17_17 (.int .i64 0) fun v_24 =>
 k_22 v_24 L_19) L_19 fun t18_21 L_23 =>
 W.pick t13_8 t18_21 (.bool false) fun t19_25 =>
 W.cond t19_25 (
 W.load true 4 t3_4 L_23 fun t21_26 =>
 W.call Try.prog (.fn 22 []) [t21_26, t1, t2] L_23 (law05_put_c0 t6_2 Q t3_4)) (
 (law05_put_zt3 t3_4 L_23 Q t1 t2 t6_2))
theorem law05_put_e (t0 t1 t2 : AV) (L : SH) (Q : AV → SH → Prop) : W.func Try.prog Fl law05_put_t Try.f24 (Try.f24.body.getD .skip) [t0, t1, t2] L Q = law05_put_w t0 t1 t2 L Q := by kernel_rfl
theorem law05_put_ok (t0 t1 t2 : AV) (L : SH) (Q : AV → SH → Prop) (h : law05_put_w t0 t1 t2 L Q) : CallA Try.prog 24 [t0, t1, t2] L Q :=
  func_sound (ht := law05_put_t) fit Try.func24 (show Try.f24.body = some (Try.f24.body.getD .skip) by kernel_rfl) (Eq.mpr (law05_put_e t0 t1 t2 L Q) h)

/- interleave/eval.truth -/
def eval_truth_t : Hints := ⟨fun k => none, fun k => [], fun k => [], fun k => []⟩
def eval_truth_w (t0 : AV) (L : SH) (Q : AV → SH → Prop) : Prop :=
 W.cond t0 (
 Q (.int .i64 1) L) (
 Q (.int .i64 0) L)
theorem eval_truth_e (t0 : AV) (L : SH) (Q : AV → SH → Prop) : W.func Try.prog Fl eval_truth_t Try.f25 (Try.f25.body.getD .skip) [t0] L Q = eval_truth_w t0 L Q := by kernel_rfl
theorem eval_truth_ok (t0 : AV) (L : SH) (Q : AV → SH → Prop) (h : eval_truth_w t0 L Q) : CallA Try.prog 25 [t0] L Q :=
  func_sound (ht := eval_truth_t) fit Try.func25 (show Try.f25.body = some (Try.f25.body.getD .skip) by kernel_rfl) (Eq.mpr (eval_truth_e t0 L Q) h)

/- interleave/interleaveref05.Unary -/
def ref05_Unary_t : Hints := ⟨fun k => none, fun k => [], fun k => [], fun k => []⟩
def ref05_Unary_zt0 (t0 : AV) (t1 : AV) (L : SH) (Q : AV → SH → Prop)  : Prop :=
 W.bin Try.prog Fl .eql 3 t0 (.int .i64 5) fun t12_2 =>
 W.cond t12_2 (
 W.bin Try.prog Fl .eql 2 t1 (.int .i64 0) fun t14_3 =>
 W.call Try.prog (.fn 30 []) [t14_3] L fun t15_4 L_5 =>
 Q (.tup [t15_4, (.bool true)]) L_5) (
 Q (.tup [(.int .i64 0), (.bool false)]) L)
def ref05_Unary_w (t0 t1 : AV) (L : SH) (Q : AV → SH → Prop) : Prop :=
 W.bin Try.prog Fl .eql 3 t0 (.int .i64 4) fun t8_0 =>
 W.cond t8_0 (
 W.un .neg t1 fun t10_1 =>
 Q (.tup [t10_1, (.bool true)]) L) (
 (ref05_Unary_zt0 t0 t1 L Q))
theorem ref05_Unary_e (t0 t1 : AV) (L : SH) (Q : AV → SH → Prop) : W.func Try.prog Fl ref05_Unary_t Try.f26 (Try.f26.body.getD .skip) [t0, t1] L Q = ref05_Unary_w t0 t1 L Q := by kernel_rfl
theorem ref05_Unary_ok (t0 t1 : AV) (L : SH) (Q : AV → SH → Prop) (h : ref05_Unary_w t0 t1 L Q) : CallA Try.prog 26 [t0, t1] L Q :=
  func_sound (ht := ref05_Unary_t) fit Try.func26 (show Try.f26.body = some (Try.f26.body.getD .skip) by kernel_rfl) (Eq.mpr (ref05_Unary_e t0 t1 L Q) h)

/- interleave/interleaveref05.Binary -/
def ref05_Binary_t : Hints := ⟨fun k => none, fun k => [], fun k => [], fun k => []⟩
def ref05_Binary_zt0 (t2 : AV) (Q : AV → SH → Prop) (L : SH) (t1 : AV)  : Prop :=
 W.bin Try.prog Fl .eql 2 t2 (.int .i64 0) fun t27_7 =>
 W.cond t27_7 (
 Q (.tup [(.int .i64 0), (.bool true)]) L) (
 W.bin Try.prog Fl .quo 2 t1 t2 fun t30_8 =>
 Q (.tup [t30_8, (.bool true)]) L)
def ref05_Binary_zt1 (t2 : AV) (Q : AV → SH → Prop) (L : SH) (t1 : AV)  : Prop :=
 W.bin Try.prog Fl .eql 2 t2 (.int .i64 0) fun t34_10 =>
 W.cond t34_10 (
 Q (.tup [(.int .i64 0), (.bool true)]) L) (
 W.bin Try.prog Fl .rem 2 t1 t2 fun t37_11 =>
 Q (.tup [t37_11, (.bool true)]) L)
def ref05_Binary_zt2 (t1 : AV) (t2 : AV) (L : SH) (Q : AV → SH → Prop)  : Prop :=
 W.bin Try.prog Fl .neq 2 t1 (.int .i64 0) fun t77_37 =>
 W.grd t77_37 true (fun k_39 => k_39 t2 L) L fun t79_38 L_40 =>
 W.grd t77_37 true (fun k_42 => W.bin Try.prog Fl .neq 2 t79_38 (.int .i64 0) fun v_44 =>
 k_42 v_44 L_40) L_40 fun t80_41 L_43 =>
 W.pick t77_37 t80_41 (.bool false) fun t81_45 =>
 W.call Try.prog (.fn 30 []) [t81_45] L_43 fun t82_46 L_47 =>
 Q (.tup [t82_46, (.bool true)]) L_47
def ref05_Binary_zt3 (t1 : AV) (t2 : AV) (L : SH) (Q : AV → SH → Prop)  : Prop :=
 W.bin Try.prog Fl .neq 2 t1 (.int .i64 0) fun t86_49 =>
 W.grd t86_49 false (fun k_51 => k_51 t2 L) L fun t88_50 L_52 =>
 W.grd t86_49 false (fun k_54 => W.bin Try.prog Fl .neq 2 t88_50 (.int .i64 0) fun v_56 =>
 k_54 v_56 L_52) L_52 fun t89_53 L_55 =>
 W.pick t86_49 (.bool true) t89_53 fun t90_57 =>
 W.call Try.prog (.fn 30 []) [t90_57] L_55 fun t91_58 L_59 =>
 Q (.tup [t91_58, (.bool true)]) L_59
def ref05_Binary_zt4 (t0 : AV) (t1 : AV) (t2 : AV) (L : SH) (Q : AV → SH → Prop)  : Prop :=
 W.bin Try.prog Fl .eql 3 t0 (.int .i64 17) fun t75_36 =>
 W.cond t75_36 (
 (ref05_Binary_zt2 t1 t2 L Q)) (
 W.bin Try.prog Fl .eql 3 t0 (.int .i64 18) fun t84_48 =>
 W.cond t84_48 (
 (ref05_Binary_zt3 t1 t2 L Q)) (
 Q (.tup [(.int .i64 0), (.bool false)]) L))
def ref05_Binary_zt5 (t0 : AV) (t1 : AV) (t2 : AV) (L : SH) (Q : AV → SH → Prop)  : Prop :=
 W.bin Try.prog Fl .eql 3 t0 (.int .i64 16) fun t69_32 =>
 W.cond t69_32 (
 W.bin Try.prog Fl .geq 2 t1 t2 fun t72_33 =>
 W.call Try.prog (.fn 30 []) [t72_33] L fun t73_34 L_35 =>
 Q (.tup [t73_34, (.bool true)]) L_35) (
 (ref05_Binary_zt4 t0 t1 t2 L Q))
def ref05_Binary_zt6 (t0 : AV) (t1 : AV) (t2 : AV) (L : SH) (Q : AV → SH → Prop)  : Prop :=
 W.bin Try.prog Fl .eql 3 t0 (.int .i64 15) fun t63_28 =>
 W.cond t63_28 (
 W.bin Try.prog Fl .gtr 2 t1 t2 fun t66_29 =>
 W.call Try.prog (.fn 30 []) [t66_29] L fun t67_30 L_31 =>
 Q (.tup [t67_30, (.bool true)]) L_31) (
 (ref05_Binary_zt5 t0 t1 t2 L Q))
def ref05_Binary_zt7 (t0 : AV) (t1 : AV) (t2 : AV) (L : SH) (Q : AV → SH → Prop)  : Prop :=
 W.bin Try.prog Fl .eql 3 t0 (.int .i64 14) fun t57_24 =>
 W.cond t57_24 (
 W.bin Try.prog Fl .leq 2 t1 t2 fun t60_25 =>
 W.call Try.prog (.fn 30 []) [t60_25] L fun t61_26 L_27 =>
 Q (.tup [t61_26, (.bool true)]) L_27) (
 (ref05_Binary_zt6 t0 t1 t2 L Q))
def ref05_Binary_zt8 (t0 : AV) (t1 : AV) (t2 : AV) (L : SH) (Q : AV → SH → Prop)  : Prop :=
 W.bin Try.prog Fl .eql 3 t0 (.int .i64 13) fun t51_20 =>
 W.cond t51_20 (
 W.bin Try.prog Fl .lss 2 t1 t2 fun t54_21 =>
 W.call Try.prog (.fn 30 []) [t54_21] L fun t55_22 L_23 =>
 Q (.tup [t55_22, (.bool true)]) L_23) (
 (ref05_Binary_zt7 t0 t1 t2 L Q))
def ref05_Binary_zt9 (t0 : AV) (t1 : AV) (t2 : AV) (L : SH) (Q : AV → SH → Prop)  : Prop :=
 W.bin Try.prog Fl .eql 3 t0 (.int .i64 12) fun t45_16 =>
 W.cond t45_16 (
 W.bin Try.prog Fl .neq 2 t1 t2 fun t48_17 =>
 W.call Try.prog (.fn 30 []) [t48_17] L fun t49_18 L_19 =>
 Q (.tup [t49_18, (.bool true)]) L_19) (
 (ref05_Binary_zt8 t0 t1 t2 L Q))
def ref05_Binary_zt10 (t0 : AV) (t1 : AV) (t2 : AV) (L : SH) (Q : AV → SH → Prop)  : Prop :=
 W.bin Try.prog Fl .eql 3 t0 (.int .i64 11) fun t39_12 =>
 W.cond t39_12 (
 W.bin Try.prog Fl .eql 2 t1 t2 fun t42_13 =>
 W.call Try.prog (.fn 30 []) [t42_13] L fun t43_14 L_15 =>
 Q (.tup [t43_14, (.bool true)]) L_15) (
 (ref05_Binary_zt9 t0 t1 t2 L Q))
def ref05_Binary_zt11 (t0 : AV) (t2 : AV) (Q : AV → SH → Prop) (L : SH) (t1 : AV)  : Prop :=
 W.bin Try.prog Fl .eql 3 t0 (.int .i64 9) fun t25_6 =>
 W.cond t25_6 (
 (ref05_Binary_zt0 t2 Q L t1)) (
 W.bin Try.prog Fl .eql 3 t0 (.int .i64 10) fun t32_9 =>
 W.cond t32_9 (
 (ref05_Binary_zt1 t2 Q L t1)) (
 (ref05_Binary_zt10 t0 t1 t2 L Q)))
def ref05_Binary_zt12 (t0 : AV) (t1 : AV) (t2 : AV) (Q : AV → SH → Prop) (L : SH)  : Prop :=
 W.bin Try.prog Fl .eql 3 t0 (.int .i64 8) fun t20_4 =>
 W.cond t20_4 (
 W.bin Try.prog Fl .mul 2 t1 t2 fun t23_5 =>
 Q (.tup [t23_5, (.bool true)]) L) (
 (ref05_Binary_zt11 t0 t2 Q L t1))
def ref05_Binary_zt13 (t0 : AV) (t1 : AV) (t2 : AV) (Q : AV → SH → Prop) (L : SH)  : Prop :=
 W.bin Try.prog Fl .eql 3 t0 (.int .i64 7) fun t15_2 =>
 W.cond t15_2 (
 W.bin Try.prog Fl .sub 2 t1 t2 fun t18_3 =>
 Q (.tup [t18_3, (.bool true)]) L) (
 (ref05_Binary_zt12 t0 t1 t2 Q L))
def ref05_Binary_w (t0 t1 t2 : AV) (L : SH) (Q : AV → SH → Prop) : Prop :=
 W.bin Try.prog Fl .eql 3 t0 (.int .i64 6) fun t10_0 =>
 W.cond t10_0 (
 W.bin Try.prog Fl .add 2 t1 t2 fun t13_1 =>
 Q (.tup [t13_1, (.bool true)]) L) (
 (ref05_Binary_zt13 t0 t1 t2 Q L))
theorem ref05_Binary_e (t0 t1 t2 : AV) (L : SH) (Q : AV → SH → Prop) : W.func Try.prog Fl ref05_Binary_t Try.f27 (Try.f27.body.getD .skip) [t0, t1, t2] L Q = ref05_Binary_w t0 t1 t2 L Q := by kernel_rfl
theorem ref05_Binary_ok (t0 t1 t2 : AV) (L : SH) (Q : AV → SH → Prop) (h : ref05_Binary_w t0 t1 t2 L Q) : CallA Try.prog 27 [t0, t1, t2] L Q :=
  func_sound (ht := ref05_Binary_t) fit Try.func27 (show Try.f27.body = some (Try.f27.body.getD .skip) by kernel_rfl) (Eq.mpr (ref05_Binary_e t0 t1 t2 L Q) h)

/- (*interleave/interleavemade.loose).expr -/
def made_loose_expr_t : Hints := ⟨fun k => none, fun k => [], fun k => if k = 13 then [9] else [], fun k => if k = 7 then [0, 0, 2, 6, 14, 0, 32, 126, 0, 256, 768, 1792, 4094, 8190, 16382, 32767, 65535, 131071, 262143] else if k = 9 then [0, 0, 2, 6, 14, 30, 63, 127, 0, 0, 512, 1854, 3902, 8191, 16383] else if k = 14 then [0, 0, 0, 0, 8, 28, 63, 127] else []⟩
def made_loose_expr_c0 (t27_32 : AV) (t4_0 : AV) (Q : AV → SH → Prop) (t35_38 : AV) (L_39 : SH) : Prop :=
 W.idx 1 t27_32 t35_38 L_39 fun t36_40 =>
 W.load false 1 t36_40 L_39 fun t37_41 =>
 W.build [(.int .i64 0), (.int .i64 0), (.str []), .nils] [(0, 1, (.int .i64 1)), (1, 1, t37_41)] fun t38_42 =>
 W.store 4 t4_0 t38_42 L_39 fun L_43 =>
 W.load true 4 t4_0 L_43 fun r_44 =>
 Q r_44 L_43
def made_loose_expr_zt0 (L_29 : SH) (t0 : AV) (t4_0 : AV) (Q : AV → SH → Prop)  : Prop :=
 W.bslice 1 [(.int .i64 0)] 8 [(0, (.int .i64 0)), (1, (.int .i64 1)), (2, (.int .i64 2)), (3, (.int .i64 3)), (4, (.int .i64 7)), (5, (.int .i64 10)), (6, (.int .i64 100)), (7, (.int .i64 9223372036854775807))] L_29 fun t27_32 L_33 =>
 W.nilchk t0 fun t30_34 =>
 W.faddr 0 t30_34 fun t31_35 =>
 W.load false 1 t31_35 L_33 fun t32_36 =>
 W.len t27_32 fun t34_37 =>
 W.call Try.prog (.fn 31 []) [t32_36, t34_37] L_33 (made_loose_expr_c0 t27_32 t4_0 Q)
def made_loose_expr_d1 (L_69 : SH) (t4_0 : AV) (Q : AV → SH → Prop) (t63_77 : AV) (L_79 : SH) (ks_78 : List Nat) : Prop :=
 W.note ⟨[], ks_78, [], L_69.names⟩ fun r_80 =>
 W.calm [] ⟨18, (blocksOf t4_0), (blocksOf t4_0), [], false, []⟩ (
 W.store 4 t4_0 t63_77 L_79 fun L_81 =>
 W.note ⟨(blocksOf t4_0), (blocksOf t4_0), [], []⟩ fun r_82 =>
 W.load true 4 t4_0 L_81 fun r_83 =>
 Q r_83 L_81)
def made_loose_expr_d2 (L_61 : SH) (t53_59 : AV) (t10_2 : AV) (t4_0 : AV) (Q : AV → SH → Prop) (t58_67 : AV) (L_69 : SH) (ks_68 : List Nat) : Prop :=
 W.note ⟨[], ks_68, [], L_61.names⟩ fun r_70 =>
 W.bin Try.prog Fl .add 3 (.int .i64 3) t58_67 fun t59_71 =>
 W.bin Try.prog Fl .rem 3 t53_59 t59_71 fun t60_72 =>
 W.calm [] ⟨15, (slOf t10_2), [], [], false, []⟩ (
 W.idx 1 t10_2 t60_72 L_69 fun t61_73 =>
 W.note ⟨(slOf t10_2), [], [], []⟩ fun r_74 =>
 W.calm [] ⟨16, (blocksOf t61_73), [], [], false, []⟩ (
 W.load false 1 t61_73 L_69 fun t62_75 =>
 W.note ⟨(blocksOf t61_73), [], [], []⟩ fun r_76 =>
 W.dcall Try.prog [] 17 (.fn 32 []) [t62_75] L_69 (made_loose_expr_d1 L_69 t4_0 Q)))
def made_loose_expr_d3 (L_51 : SH) (t0 : AV) (r_57 : W.Fp) (t10_2 : AV) (t4_0 : AV) (Q : AV → SH → Prop) (t53_59 : AV) (L_61 : SH) (ks_60 : List Nat) : Prop :=
 W.note ⟨[], ks_60, [], L_51.names⟩ fun r_62 =>
 W.nilchk t0 fun t55_63 =>
 W.faddr 0 t55_63 fun t56_64 =>
 W.calm [⟨7, r_62.reads, r_62.writes, r_62.made, true, r_62.old⟩, ⟨4, r_57.reads, r_57.writes, r_57.made, false, r_57.old⟩] ⟨11, (blocksOf t56_64), [], [], false, []⟩ (
 W.load false 1 t56_64 L_61 fun t57_65 =>
 W.note ⟨(blocksOf t56_64), [], [], []⟩ fun r_66 =>
 W.dcall Try.prog [] 12 (.fn 31 []) [t57_65, (.int .i64 8)] L_61 (made_loose_expr_d2 L_61 t53_59 t10_2 t4_0 Q))
def made_loose_expr_zt1 (t0 : AV) (L_51 : SH) (t10_2 : AV) (t4_0 : AV) (Q : AV → SH → Prop)  : Prop :=
 (true = true) ∧ (
 W.nilchk t0 fun t48_54 =>
 W.faddr 0 t48_54 fun t49_55 =>
 W.calm [] ⟨4, (blocksOf t49_55), [], [], false, []⟩ (
 W.load false 1 t49_55 L_51 fun t50_56 =>
 W.note ⟨(blocksOf t49_55), [], [], []⟩ fun r_57 =>
 W.len t10_2 fun t52_58 =>
 W.dcall Try.prog [] 7 (.fn 31 []) [t50_56, t52_58] L_51 (made_loose_expr_d3 L_51 t0 r_57 t10_2 t4_0 Q)))
def made_loose_expr_d4 (L_94 : SH) (r_99 : W.Fp) (r_97 : W.Fp) (r_87 : W.Fp) (t74_98 : AV) (t4_0 : AV) (Q : AV → SH → Prop) (t78_101 : AV) (L_103 : SH) (ks_102 : List Nat) : Prop :=
 W.note ⟨[], ks_102, [], L_94.names⟩ fun r_104 =>
 W.calm [⟨7, r_99.reads, r_99.writes, r_99.made, false, r_99.old⟩, ⟨6, r_97.reads, r_97.writes, r_97.made, false, r_97.old⟩, ⟨0, r_87.reads, r_87.writes, r_87.made, false, r_87.old⟩] ⟨12, [], [], [], false, []⟩ (
 W.bslice 4 [(.int .i64 0), (.int .i64 0), (.str []), .nils] 1 [(0, t78_101)] L_103 fun t79_105 L_106 =>
 W.note ⟨[], [], (blocksOf t79_105), []⟩ fun r_107 =>
 W.build [(.int .i64 0), (.int .i64 0), (.str []), .nils] [(0, 1, (.int .i64 3)), (2, 1, t74_98), (3, 1, t79_105)] fun t80_108 =>
 W.calm [] ⟨14, (blocksOf t4_0), (blocksOf t4_0), [], false, []⟩ (
 W.store 4 t4_0 t80_108 L_106 fun L_109 =>
 W.note ⟨(blocksOf t4_0), (blocksOf t4_0), [], []⟩ fun r_110 =>
 W.load true 4 t4_0 L_109 fun r_111 =>
 Q r_111 L_109))
def made_loose_expr_d5 (L_86 : SH) (t67_85 : AV) (t1 : AV) (r_87 : W.Fp) (t0 : AV) (t4_0 : AV) (Q : AV → SH → Prop) (t72_92 : AV) (L_94 : SH) (ks_93 : List Nat) : Prop :=
 W.note ⟨[], ks_93, [], L_86.names⟩ fun r_95 =>
 W.calm [] ⟨6, (slOf t67_85), [], [], false, []⟩ (
 W.idx 1 t67_85 t72_92 L_94 fun t73_96 =>
 W.note ⟨(slOf t67_85), [], [], []⟩ fun r_97 =>
 W.calm [] ⟨7, (blocksOf t73_96), [], [], false, []⟩ (
 W.load false 1 t73_96 L_94 fun t74_98 =>
 W.note ⟨(blocksOf t73_96), [], [], []⟩ fun r_99 =>
 W.bin Try.prog Fl .sub 3 t1 (.int .i64 1) fun t77_100 =>
 W.dcall Try.prog [⟨7, r_99.reads, r_99.writes, r_99.made, false, r_99.old⟩, ⟨6, r_97.reads, r_97.writes, r_97.made, false, r_97.old⟩, ⟨0, r_87.reads, r_87.writes, r_87.made, false, r_87.old⟩] 11 (.fn 28 []) [t0, t77_100] L_94 (made_loose_expr_d4 L_94 r_99 r_97 r_87 t74_98 t4_0 Q)))
def made_loose_expr_zt2 (L_51 : SH) (t0 : AV) (t1 : AV) (t4_0 : AV) (Q : AV → SH → Prop)  : Prop :=
 (true = true) ∧ (
 W.calm [] ⟨0, [], [], [], false, []⟩ (
 W.bslice 1 [(.str [])] 5 [(0, (.str [113])), (1, (.str [113])), (2, (.str [113])), (3, (.str [120])), (4, (.str [109]))] L_51 fun t67_85 L_86 =>
 W.note ⟨[], [], (blocksOf t67_85), []⟩ fun r_87 =>
 W.nilchk t0 fun t69_88 =>
 W.faddr 0 t69_88 fun t70_89 =>
 W.calm [⟨0, r_87.reads, r_87.writes, r_87.made, false, r_87.old⟩] ⟨4, (blocksOf t70_89), [], [], false, []⟩ (
 W.load false 1 t70_89 L_86 fun t71_90 =>
 W.note ⟨(blocksOf t70_89), [], [], []⟩ fun r_91 =>
 W.dcall Try.prog [⟨0, r_87.reads, r_87.writes, r_87.made, false, r_87.old⟩] 5 (.fn 31 []) [t71_90, (.int .i64 5)] L_86 (made_loose_expr_d5 L_86 t67_85 t1 r_87 t0 t4_0 Q))))
def made_loose_expr_c6 (t89_118 : AV) (t4_0 : AV) (Q : AV → SH → Prop) (t93_120 : AV) (L_121 : SH) : Prop :=
 W.bslice 4 [(.int .i64 0), (.int .i64 0), (.str []), .nils] 1 [(0, t93_120)] L_121 fun t94_122 L_123 =>
 W.build [(.int .i64 0), (.int .i64 0), (.str []), .nils] [(0, 1, t89_118), (3, 1, t94_122)] fun t95_124 =>
 W.store 4 t4_0 t95_124 L_123 fun L_125 =>
 W.load true 4 t4_0 L_125 fun r_126 =>
 Q r_126 L_125
def made_loose_expr_c7 (t1 : AV) (t0 : AV) (t4_0 : AV) (Q : AV → SH → Prop) (t88_116 : AV) (L_117 : SH) : Prop :=
 W.bin Try.prog Fl .add 3 (.int .i64 4) t88_116 fun t89_118 =>
 W.bin Try.prog Fl .sub 3 t1 (.int .i64 1) fun t92_119 =>
 W.call Try.prog (.fn 28 []) [t0, t92_119] L_117 (made_loose_expr_c6 t89_118 t4_0 Q)
def made_loose_expr_zt3 (t0 : AV) (L_51 : SH) (t1 : AV) (t4_0 : AV) (Q : AV → SH → Prop)  : Prop :=
 W.nilchk t0 fun t85_113 =>
 W.faddr 0 t85_113 fun t86_114 =>
 W.load false 1 t86_114 L_51 fun t87_115 =>
 W.call Try.prog (.fn 31 []) [t87_115, (.int .i64 2)] L_51 (made_loose_expr_c7 t1 t0 t4_0 Q)
def made_loose_expr_d8 (L_146 : SH) (t4_0 : AV) (Q : AV → SH → Prop) (t112_148 : AV) (L_150 : SH) (ks_149 : List Nat) : Prop :=
 W.note ⟨[], ks_149, [], L_146.names⟩ fun r_151 =>
 W.calm [] ⟨7, (blocksOf t4_0), (blocksOf t4_0), [], false, []⟩ (
 W.store 4 t4_0 t112_148 L_150 fun L_152 =>
 W.note ⟨(blocksOf t4_0), (blocksOf t4_0), [], []⟩ fun r_153 =>
 W.load true 4 t4_0 L_152 fun r_154 =>
 Q r_154 L_152)
def made_loose_expr_d9 (L_140 : SH) (t101_132 : AV) (t107_141 : AV) (t4_0 : AV) (Q : AV → SH → Prop) (t111_144 : AV) (L_146 : SH) (ks_145 : List Nat) : Prop :=
 W.note ⟨[], ks_145, [], L_140.names⟩ fun r_147 =>
 W.dcall Try.prog [] 6 (.fn 33 []) [t101_132, t107_141, t111_144] L_146 (made_loose_expr_d8 L_146 t4_0 Q)
def made_loose_expr_c10 (t1 : AV) (t0 : AV) (t101_132 : AV) (t4_0 : AV) (Q : AV → SH → Prop) (t105_134 : AV) (L_135 : SH) : Prop :=
 W.alloc [(.int .i64 0), (.int .i64 0), (.str []), .nils] L_135 fun t9_136 L_137 =>
 W.store 4 t9_136 t105_134 L_137 fun L_138 =>
 W.frz1 t9_136 L_138 fun t9_139 L_140 =>
 (true = true) ∧ (
 W.calm [] ⟨1, (blocksOf t9_139), [], [], false, []⟩ (
 W.load true 4 t9_139 L_140 fun t107_141 =>
 W.note ⟨(blocksOf t9_139), [], [], []⟩ fun r_142 =>
 W.bin Try.prog Fl .sub 3 t1 (.int .i64 1) fun t110_143 =>
 W.dcall Try.prog [⟨1, r_142.reads, r_142.writes, r_142.made, false, r_142.old⟩] 5 (.fn 28 []) [t0, t110_143] L_140 (made_loose_expr_d9 L_140 t101_132 t107_141 t4_0 Q)))
def made_loose_expr_c11 (t1 : AV) (t0 : AV) (t4_0 : AV) (Q : AV → SH → Prop) (t100_130 : AV) (L_131 : SH) : Prop :=
 W.bin Try.prog Fl .add 3 (.int .i64 6) t100_130 fun t101_132 =>
 W.bin Try.prog Fl .sub 3 t1 (.int .i64 1) fun t104_133 =>
 W.call Try.prog (.fn 28 []) [t0, t104_133] L_131 (made_loose_expr_c10 t1 t0 t101_132 t4_0 Q)
def made_loose_expr_zt4 (t0 : AV) (L_51 : SH) (t1 : AV) (t4_0 : AV) (Q : AV → SH → Prop)  : Prop :=
 W.nilchk t0 fun t97_127 =>
 W.faddr 0 t97_127 fun t98_128 =>
 W.load false 1 t98_128 L_51 fun t99_129 =>
 W.call Try.prog (.fn 31 []) [t99_129, (.int .i64 13)] L_51 (made_loose_expr_c11 t1 t0 t4_0 Q)
def made_loose_expr_zt5 (t15_7 : AV) (t0 : AV) (L_51 : SH) (t1 : AV) (t4_0 : AV) (Q : AV → SH → Prop)  : Prop :=
 W.bin Try.prog Fl .lss 3 t15_7 (.int .i64 11) fun t83_112 =>
 W.cond t83_112 (
 (made_loose_expr_zt3 t0 L_51 t1 t4_0 Q)) (
 (made_loose_expr_zt4 t0 L_51 t1 t4_0 Q))
def made_loose_expr_zt6 (t15_7 : AV) (L_51 : SH) (t0 : AV) (t1 : AV) (t4_0 : AV) (Q : AV → SH → Prop)  : Prop :=
 W.bin Try.prog Fl .eql 3 t15_7 (.int .i64 8) fun t66_84 =>
 W.cond t66_84 (
 (made_loose_expr_zt2 L_51 t0 t1 t4_0 Q)) (
 (made_loose_expr_zt5 t15_7 t0 L_51 t1 t4_0 Q))
def made_loose_expr_zt7 (t15_7 : AV) (t1 : AV) (L_29 : SH) (t0 : AV) (t10_2 : AV) (t4_0 : AV) (Q : AV → SH → Prop)  : Prop :=
 W.bin Try.prog Fl .lss 3 t15_7 (.int .i64 8) fun t41_45 =>
 W.grd t41_45 false (fun k_47 => k_47 t1 L_29) L_29 fun t43_46 L_48 =>
 W.grd t41_45 false (fun k_50 => W.bin Try.prog Fl .eql 3 t43_46 (.int .i64 0) fun v_52 =>
 k_50 v_52 L_48) L_48 fun t44_49 L_51 =>
 W.pick t41_45 (.bool true) t44_49 fun t45_53 =>
 W.cond t45_53 (
 (made_loose_expr_zt1 t0 L_51 t10_2 t4_0 Q)) (
 (made_loose_expr_zt6 t15_7 L_51 t0 t1 t4_0 Q))
def made_loose_expr_c12 (t1 : AV) (t0 : AV) (t4_0 : AV) (Q : AV → SH → Prop) (t10_2 : AV) (t15_7 : AV) (L_8 : SH) : Prop :=
 W.bin Try.prog Fl .lss 3 t15_7 (.int .i64 4) fun t18_9 =>
 W.grd t18_9 false (fun k_11 => k_11 t1 L_8) L_8 fun t20_10 L_12 =>
 W.grd t18_9 false (fun k_14 => W.bin Try.prog Fl .eql 3 t20_10 (.int .i64 0) fun v_16 =>
 k_14 v_16 L_12) L_12 fun t21_13 L_15 =>
 W.grd t18_9 false (fun k_18 => k_18 t21_13 L_15) L_15 fun t22_17 L_19 =>
 W.grd t22_17 true (fun k_21 => k_21 t15_7 L_19) L_19 fun t23_20 L_22 =>
 W.grd t22_17 true (fun k_24 => W.bin Try.prog Fl .lss 3 t23_20 (.int .i64 10) fun v_26 =>
 k_24 v_26 L_22) L_22 fun t24_23 L_25 =>
 W.grd t18_9 false (fun k_28 => W.pick t22_17 t24_23 (.bool false) fun v_30 =>
 k_28 v_30 L_25) L_25 fun t25_27 L_29 =>
 W.pick t18_9 (.bool true) t25_27 fun t26_31 =>
 W.cond t26_31 (
 (made_loose_expr_zt0 L_29 t0 t4_0 Q)) (
 (made_loose_expr_zt7 t15_7 t1 L_29 t0 t10_2 t4_0 Q))
def made_loose_expr_w (t0 t1 : AV) (L : SH) (Q : AV → SH → Prop) : Prop :=
 W.alloc [(.int .i64 0), (.int .i64 0), (.str []), .nils] L fun t4_0 L_1 =>
 W.bslice 1 [(.str [])] 10 [(0, (.str [120])), (1, (.str [121])), (2, (.str [97])), (3, (.str [98])), (4, (.str [118])), (5, (.str [113])), (6, (.str [109])), (7, (.str [116])), (8, (.str [122, 122])), (9, (.str [102]))] L_1 fun t10_2 L_3 =>
 W.nilchk t0 fun t12_4 =>
 W.faddr 0 t12_4 fun t13_5 =>
 W.load false 1 t13_5 L_3 fun t14_6 =>
 W.call Try.prog (.fn 31 []) [t14_6, (.int .i64 20)] L_3 (made_loose_expr_c12 t1 t0 t4_0 Q t10_2)
theorem made_loose_expr_e (t0 t1 : AV) (L : SH) (Q : AV → SH → Prop) : W.func Try.prog Fl made_loose_expr_t Try.f28 (Try.f28.body.getD .skip) [t0, t1] L Q = made_loose_expr_w t0 t1 L Q := by kernel_rfl
theorem made_loose_expr_ok (t0 t1 : AV) (L : SH) (Q : AV → SH → Prop) (h : made_loose_expr_w t0 t1 L Q) : CallA Try.prog 28 [t0, t1] L Q :=
  func_sound (ht := made_loose_expr_t) fit Try.func28 (show Try.f28.body = some (Try.f28.body.getD .skip) by kernel_rfl) (Eq.mpr (made_loose_expr_e t0 t1 L Q) h)

/- interleave/eval.variable -/
def eval_variable_t : Hints := ⟨fun k => none, fun k => if k = 2 then [0, 2, 10, 11, 12] else [], fun k => [], fun k => []⟩
def eval_variable_zt0 (vs_1 : List AV) (nx_2 : W.Kn) (L_3 : SH)  : Prop :=
 W.bin Try.prog Fl .add 3 (slotOf [0, 2, 10, 11, 12] vs_1 12) (.int .i64 1) fun t28_8 =>
 nx_2 [(slotOf [0, 2, 10, 11, 12] vs_1 0), (slotOf [0, 2, 10, 11, 12] vs_1 2), (slotOf [0, 2, 10, 11, 12] vs_1 10), (slotOf [0, 2, 10, 11, 12] vs_1 11), t28_8] L_3
def eval_variable_zt1 (vs_1 : List AV) (L_3 : SH) (Q : AV → SH → Prop)  : Prop :=
 W.idx 1 (slotOf [0, 2, 10, 11, 12] vs_1 2) (slotOf [0, 2, 10, 11, 12] vs_1 12) L_3 fun t26_11 =>
 W.load false 1 t26_11 L_3 fun t27_12 =>
 Q (.tup [t27_12, (.bool true)]) L_3
def eval_variable_zt2 (vs_1 : List AV) (Q : AV → SH → Prop) (L_3 : SH)  : Prop :=
 W.len (slotOf [0, 2, 10, 11, 12] vs_1 2) fun t22_9 =>
 W.bin Try.prog Fl .geq 3 (slotOf [0, 2, 10, 11, 12] vs_1 12) t22_9 fun t23_10 =>
 W.cond t23_10 (
 Q (.tup [(.int .i64 0), (.bool false)]) L_3) (
 (eval_variable_zt1 vs_1 L_3 Q))
def eval_variable_zt3 (vs_1 : List AV) (L_3 : SH) (nx_2 : W.Kn) (Q : AV → SH → Prop)  : Prop :=
 W.idx 1 (slotOf [0, 2, 10, 11, 12] vs_1 10) (slotOf [0, 2, 10, 11, 12] vs_1 12) L_3 fun t15_5 =>
 W.load false 1 t15_5 L_3 fun t16_6 =>
 W.bin Try.prog Fl .neq 9 t16_6 (slotOf [0, 2, 10, 11, 12] vs_1 0) fun t19_7 =>
 W.cond t19_7 (
 (eval_variable_zt0 vs_1 nx_2 L_3)) (
 (eval_variable_zt2 vs_1 Q L_3))
def eval_variable_l0 (Q : AV → SH → Prop) (vs_1 : List AV) (L_3 : SH) (nx_2 : W.Kn) : Prop :=
 W.bin Try.prog Fl .lss 3 (slotOf [0, 2, 10, 11, 12] vs_1 12) (slotOf [0, 2, 10, 11, 12] vs_1 11) fun t13_4 =>
 W.cond t13_4 (
 (eval_variable_zt3 vs_1 L_3 nx_2 Q)) (
 Q (.tup [(.int .i64 0), (.bool false)]) L_3)
def eval_variable_w (t0 t1 t2 : AV) (L : SH) (Q : AV → SH → Prop) : Prop :=
 W.len t1 fun t11_0 =>
 W.loop (eval_variable_l0 Q) [t0, t2, t1, t11_0, (.int .i64 0)] L
theorem eval_variable_e (t0 t1 t2 : AV) (L : SH) (Q : AV → SH → Prop) : W.func Try.prog Fl eval_variable_t Try.f29 (Try.f29.body.getD .skip) [t0, t1, t2] L Q = eval_variable_w t0 t1 t2 L Q := by kernel_rfl
theorem eval_variable_ok (t0 t1 t2 : AV) (L : SH) (Q : AV → SH → Prop) (h : eval_variable_w t0 t1 t2 L Q) : CallA Try.prog 29 [t0, t1, t2] L Q :=
  func_sound (ht := eval_variable_t) fit Try.func29 (show Try.f29.body = some (Try.f29.body.getD .skip) by kernel_rfl) (Eq.mpr (eval_variable_e t0 t1 t2 L Q) h)

/- interleave/interleaveref05.truth -/
def ref05_truth_t : Hints := ⟨fun k => none, fun k => [], fun k => [], fun k => []⟩
def ref05_truth_w (t0 : AV) (L : SH) (Q : AV → SH → Prop) : Prop :=
 W.cond t0 (
 Q (.int .i64 1) L) (
 Q (.int .i64 0) L)
theorem ref05_truth_e (t0 : AV) (L : SH) (Q : AV → SH → Prop) : W.func Try.prog Fl ref05_truth_t Try.f30 (Try.f30.body.getD .skip) [t0] L Q = ref05_truth_w t0 L Q := by kernel_rfl
theorem ref05_truth_ok (t0 : AV) (L : SH) (Q : AV → SH → Prop) (h : ref05_truth_w t0 L Q) : CallA Try.prog 30 [t0] L Q :=
  func_sound (ht := ref05_truth_t) fit Try.func30 (show Try.f30.body = some (Try.f30.body.getD .skip) by kernel_rfl) (Eq.mpr (ref05_truth_e t0 L Q) h)

/- (*interleave/interleavemade.Tape).Next -/
def made_Tape_Next_t : Hints := ⟨fun k => none, fun k => [], fun k => [], fun k => if k = 1 then [0, 1, 3, 7, 0, 16, 48, 112, 240, 511, 1023, 2047, 4095, 8191] else if k = 4 then [0, 1, 3, 7, 0, 16, 48, 112, 240, 511, 1023, 2047, 0, 8191, 16383] else []⟩
def made_Tape_Next_zt0 (t0 : AV) (L_17 : SH) (t1 : AV) (Q : AV → SH → Prop)  : Prop :=
 W.nilchk t0 fun t20_20 =>
 W.faddr 1 t20_20 fun t21_21 =>
 W.load false 1 t21_21 L_17 fun t22_22 =>
 W.bin Try.prog Fl .add 3 t22_22 (.int .i64 1) fun t23_23 =>
 W.nilchk t0 fun t24_24 =>
 W.faddr 1 t24_24 fun t25_25 =>
 W.store 1 t25_25 t23_23 L_17 fun L_26 =>
 (true = true) ∧ (
 W.nilchk t0 fun t27_27 =>
 W.faddr 0 t27_27 fun t28_28 =>
 W.calm [] ⟨3, (blocksOf t28_28), [], [], false, []⟩ (
 W.load false 1 t28_28 L_26 fun t29_29 =>
 W.note ⟨(blocksOf t28_28), [], [], []⟩ fun r_30 =>
 W.nilchk t0 fun t31_31 =>
 W.faddr 1 t31_31 fun t32_32 =>
 W.calm [⟨3, r_30.reads, r_30.writes, r_30.made, false, r_30.old⟩] ⟨7, (blocksOf t32_32), [], [], false, []⟩ (
 W.load false 1 t32_32 L_26 fun t33_33 =>
 W.note ⟨(blocksOf t32_32), [], [], []⟩ fun r_34 =>
 W.bin Try.prog Fl .sub 3 t33_33 (.int .i64 1) fun t34_35 =>
 W.calm [] ⟨9, (slOf t29_29), [], [], false, []⟩ (
 W.idx 1 t29_29 t34_35 L_26 fun t35_36 =>
 W.note ⟨(slOf t29_29), [], [], []⟩ fun r_37 =>
 W.calm [] ⟨10, (blocksOf t35_36), [], [], false, []⟩ (
 W.load false 1 t35_36 L_26 fun t36_38 =>
 W.note ⟨(blocksOf t35_36), [], [], []⟩ fun r_39 =>
 W.conv .i64 t36_38 fun t37_40 =>
 W.bin Try.prog Fl .rem 3 t37_40 t1 fun t39_41 =>
 Q t39_41 L_26)))))
def made_Tape_Next_w (t0 t1 : AV) (L : SH) (Q : AV → SH → Prop) : Prop :=
 (true = true) ∧ (
 W.nilchk t0 fun t6_0 =>
 W.faddr 1 t6_0 fun t7_1 =>
 W.calm [] ⟨3, (blocksOf t7_1), [], [], false, []⟩ (
 W.load false 1 t7_1 L fun t8_2 =>
 W.note ⟨(blocksOf t7_1), [], [], []⟩ fun r_3 =>
 W.nilchk t0 fun t10_4 =>
 W.faddr 0 t10_4 fun t11_5 =>
 W.calm [⟨3, r_3.reads, r_3.writes, r_3.made, false, r_3.old⟩] ⟨7, (blocksOf t11_5), [], [], false, []⟩ (
 W.load false 1 t11_5 L fun t12_6 =>
 W.note ⟨(blocksOf t11_5), [], [], []⟩ fun r_7 =>
 W.len t12_6 fun t13_8 =>
 W.bin Try.prog Fl .geq 3 t8_2 t13_8 fun t14_9 =>
 W.dgrd t14_9 false (fun k_11 => k_11 t1 L ⟨[], [], [], []⟩) L fun t16_10 L_13 r_12 =>
 W.dgrd t14_9 false (fun k_15 => W.bin Try.prog Fl .lss 3 t16_10 (.int .i64 1) fun v_18 =>
 k_15 v_18 L_13 ⟨[], [], [], []⟩) L_13 fun t17_14 L_17 r_16 =>
 W.pick t14_9 (.bool true) t17_14 fun t18_19 =>
 W.cond t18_19 (
 Q (.int .i64 0) L_17) (
 (made_Tape_Next_zt0 t0 L_17 t1 Q)))))
theorem made_Tape_Next_e (t0 t1 : AV) (L : SH) (Q : AV → SH → Prop) : W.func Try.prog Fl made_Tape_Next_t Try.f31 (Try.f31.body.getD .skip) [t0, t1] L Q = made_Tape_Next_w t0 t1 L Q := by kernel_rfl
theorem made_Tape_Next_ok (t0 t1 : AV) (L : SH) (Q : AV → SH → Prop) (h : made_Tape_Next_w t0 t1 L Q) : CallA Try.prog 31 [t0, t1] L Q :=
  func_sound (ht := made_Tape_Next_t) fit Try.func31 (show Try.f31.body = some (Try.f31.body.getD .skip) by kernel_rfl) (Eq.mpr (made_Tape_Next_e t0 t1 L Q) h)

/- interleave/interleavemade.name -/
def made_name_t : Hints := ⟨fun k => none, fun k => [], fun k => [], fun k => []⟩
def made_name_w (t0 : AV) (L : SH) (Q : AV → SH → Prop) : Prop :=
 W.alloc [(.int .i64 0), (.int .i64 0), (.str []), .nils] L fun t2_0 L_1 =>
 W.build [(.int .i64 0), (.int .i64 0), (.str []), .nils] [(0, 1, (.int .i64 2)), (2, 1, t0)] fun t4_2 =>
 W.store 4 t2_0 t4_2 L_1 fun L_3 =>
 W.load true 4 t2_0 L_3 fun r_4 =>
 Q r_4 L_3
theorem made_name_e (t0 : AV) (L : SH) (Q : AV → SH → Prop) : W.func Try.prog Fl made_name_t Try.f32 (Try.f32.body.getD .skip) [t0] L Q = made_name_w t0 L Q := by kernel_rfl
theorem made_name_ok (t0 : AV) (L : SH) (Q : AV → SH → Prop) (h : made_name_w t0 L Q) : CallA Try.prog 32 [t0] L Q :=
  func_sound (ht := made_name_t) fit Try.func32 (show Try.f32.body = some (Try.f32.body.getD .skip) by kernel_rfl) (Eq.mpr (made_name_e t0 L Q) h)

/- interleave/interleavemade.binary -/
def made_binary_t : Hints := ⟨fun k => none, fun k => [], fun k => if k = 0 then [4, 5] else [], fun k => []⟩
def made_binary_w (t0 t1 t2 : AV) (L : SH) (Q : AV → SH → Prop) : Prop :=
 W.box t1 L fun t4_0 L_1 =>
 W.box t2 L_1 fun t5_2 L_3 =>
 W.alloc [(.int .i64 0), (.int .i64 0), (.str []), .nils] L_3 fun t6_4 L_5 =>
 W.frz1 t4_0 L_5 fun t4_6 L_7 =>
 W.frz1 t5_2 L_7 fun t5_8 L_9 =>
 W.load true 4 t4_6 L_9 fun t8_10 =>
 W.load true 4 t5_8 L_9 fun t9_11 =>
 W.bslice 4 [(.int .i64 0), (.int .i64 0), (.str []), .nils] 2 [(0, t8_10), (1, t9_11)] L_9 fun t10_12 L_13 =>
 W.build [(.int .i64 0), (.int .i64 0), (.str []), .nils] [(0, 1, t0), (3, 1, t10_12)] fun t11_14 =>
 W.store 4 t6_4 t11_14 L_13 fun L_15 =>
 W.load true 4 t6_4 L_15 fun r_16 =>
 Q r_16 L_15
theorem made_binary_e (t0 t1 t2 : AV) (L : SH) (Q : AV → SH → Prop) : W.func Try.prog Fl made_binary_t Try.f33 (Try.f33.body.getD .skip) [t0, t1, t2] L Q = made_binary_w t0 t1 t2 L Q := by kernel_rfl
theorem made_binary_ok (t0 t1 t2 : AV) (L : SH) (Q : AV → SH → Prop) (h : made_binary_w t0 t1 t2 L Q) : CallA Try.prog 33 [t0, t1, t2] L Q :=
  func_sound (ht := made_binary_t) fit Try.func33 (show Try.f33.body = some (Try.f33.body.getD .skip) by kernel_rfl) (Eq.mpr (made_binary_e t0 t1 t2 L Q) h)

/- interleave/interleavelaw05.EvalExprTells -/
def law05_EvalExprTells_t : Hints := ⟨fun k => none, fun k => [], fun k => if k = 0 then [5] else if k = 3 then [9] else [], fun k => if k = 6 then [0, 0, 0, 7, 15, 31, 31, 63, 255] else if k = 7 then [0, 0, 0, 7, 15, 31, 31, 63, 255] else []⟩
def law05_EvalExprTells_d0 (L_51 : SH) (t33_28 : AV) (t40_33 : AV) (t34_29 : AV) (t41_34 : AV) (t47_45 : AV) (t48_46 : AV) (Q : AV → SH → Prop) (t53_53 : AV) (L_55 : SH) (ks_54 : List Nat) : Prop :=
 W.note ⟨[], ks_54, [], L_51.names⟩ fun r_56 =>
 W.ext 0 t53_53 fun t54_57 =>
 W.ext 1 t53_53 fun t55_58 =>
 W.bin Try.prog Fl .eql 2 t33_28 t40_33 fun t58_59 =>
 W.grd t58_59 true (fun k_61 => k_61 t34_29 L_55) L_55 fun t60_60 L_62 =>
 W.grd t58_59 true (fun k_64 => k_64 t41_34 L_62) L_62 fun t61_63 L_65 =>
 W.grd t58_59 true (fun k_67 => W.bin Try.prog Fl .eql 4 t60_60 t61_63 fun v_69 =>
 k_67 v_69 L_65) L_65 fun t62_66 L_68 =>
 W.pick t58_59 t62_66 (.bool false) fun t63_70 =>
 W.grd t63_70 true (fun k_72 => k_72 t47_45 L_68) L_68 fun t65_71 L_73 =>
 W.grd t63_70 true (fun k_75 => k_75 t54_57 L_73) L_73 fun t66_74 L_76 =>
 W.grd t63_70 true (fun k_78 => W.bin Try.prog Fl .eql 2 t65_71 t66_74 fun v_80 =>
 k_78 v_80 L_76) L_76 fun t67_77 L_79 =>
 W.pick t63_70 t67_77 (.bool false) fun t68_81 =>
 W.grd t68_81 true (fun k_83 => k_83 t48_46 L_79) L_79 fun t70_82 L_84 =>
 W.grd t68_81 true (fun k_86 => k_86 t55_58 L_84) L_84 fun t71_85 L_87 =>
 W.grd t68_81 true (fun k_89 => W.bin Try.prog Fl .eql 4 t70_82 t71_85 fun v_91 =>
 k_89 v_91 L_87) L_87 fun t72_88 L_90 =>
 W.pick t68_81 t72_88 (.bool false) fun t73_92 =>
 W.grd t73_92 true (fun k_94 => W.call Try.prog (.fn 17 []) [] L_90 fun v_96 L_97 =>
 k_94 v_96 L_97) L_90 fun t75_93 L_95 =>
 W.pick t73_92 t75_93 (.bool false) fun t76_98 =>
 Q t76_98 L_95
def law05_EvalExprTells_d1 (L_43 : SH) (t50_47 : AV) (t3 : AV) (t33_28 : AV) (t40_33 : AV) (t34_29 : AV) (t41_34 : AV) (t47_45 : AV) (t48_46 : AV) (Q : AV → SH → Prop) (t51_49 : AV) (L_51 : SH) (ks_50 : List Nat) : Prop :=
 W.note ⟨[], ks_50, [], L_43.names⟩ fun r_52 =>
 W.dcall Try.prog [] 3 (.fn 22 []) [t50_47, t51_49, t3] L_51 (law05_EvalExprTells_d0 L_51 t33_28 t40_33 t34_29 t41_34 t47_45 t48_46 Q)
def law05_EvalExprTells_d2 (L_39 : SH) (t9_23 : AV) (t3 : AV) (t33_28 : AV) (t40_33 : AV) (t34_29 : AV) (t41_34 : AV) (Q : AV → SH → Prop) (t46_41 : AV) (L_43 : SH) (ks_42 : List Nat) : Prop :=
 W.note ⟨[], ks_42, [], L_39.names⟩ fun r_44 =>
 W.ext 0 t46_41 fun t47_45 =>
 W.ext 1 t46_41 fun t48_46 =>
 (true = true) ∧ (
 W.calm [] ⟨0, (blocksOf t9_23), [], [], false, []⟩ (
 W.load true 4 t9_23 L_43 fun t50_47 =>
 W.note ⟨(blocksOf t9_23), [], [], []⟩ fun r_48 =>
 W.dcall Try.prog [⟨0, r_48.reads, r_48.writes, r_48.made, false, r_48.old⟩] 1 (.fn 23 []) [] L_43 (law05_EvalExprTells_d1 L_43 t50_47 t3 t33_28 t40_33 t34_29 t41_34 t47_45 t48_46 Q)))
def law05_EvalExprTells_d3 (L_32 : SH) (t43_35 : AV) (t3 : AV) (t9_23 : AV) (t33_28 : AV) (t40_33 : AV) (t34_29 : AV) (t41_34 : AV) (Q : AV → SH → Prop) (t44_37 : AV) (L_39 : SH) (ks_38 : List Nat) : Prop :=
 W.note ⟨[], ks_38, [], L_32.names⟩ fun r_40 =>
 W.dcall Try.prog [] 3 (.fn 21 []) [t43_35, t44_37, t3] L_39 (law05_EvalExprTells_d2 L_39 t9_23 t3 t33_28 t40_33 t34_29 t41_34 Q)
def law05_EvalExprTells_c4 (t9_23 : AV) (t3 : AV) (t33_28 : AV) (t34_29 : AV) (Q : AV → SH → Prop) (t39_31 : AV) (L_32 : SH) : Prop :=
 W.ext 0 t39_31 fun t40_33 =>
 W.ext 1 t39_31 fun t41_34 =>
 (true = true) ∧ (
 W.calm [] ⟨0, (blocksOf t9_23), [], [], false, []⟩ (
 W.load true 4 t9_23 L_32 fun t43_35 =>
 W.note ⟨(blocksOf t9_23), [], [], []⟩ fun r_36 =>
 W.dcall Try.prog [⟨0, r_36.reads, r_36.writes, r_36.made, false, r_36.old⟩] 1 (.fn 23 []) [] L_32 (law05_EvalExprTells_d3 L_32 t43_35 t3 t9_23 t33_28 t40_33 t34_29 t41_34 Q)))
def law05_EvalExprTells_c5 (t5_2 : AV) (t2 : AV) (t3 : AV) (t9_23 : AV) (Q : AV → SH → Prop) (t32_26 : AV) (L_27 : SH) : Prop :=
 W.ext 0 t32_26 fun t33_28 =>
 W.ext 1 t32_26 fun t34_29 =>
 W.load true 4 t5_2 L_27 fun t36_30 =>
 W.call Try.prog (.fn 22 []) [t36_30, t2, t3] L_27 (law05_EvalExprTells_c4 t9_23 t3 t33_28 t34_29 Q)
def law05_EvalExprTells_c6 (t5_2 : AV) (t2 : AV) (t3 : AV) (Q : AV → SH → Prop) (t27_18 : AV) (L_19 : SH) : Prop :=
 W.alloc [(.int .i64 0), (.int .i64 0), (.str []), .nils] L_19 fun t9_20 L_21 =>
 W.store 4 t9_20 t27_18 L_21 fun L_22 =>
 W.frz1 t9_20 L_22 fun t9_23 L_24 =>
 W.load true 4 t5_2 L_24 fun t29_25 =>
 W.call Try.prog (.fn 21 []) [t29_25, t2, t3] L_24 (law05_EvalExprTells_c5 t5_2 t2 t3 t9_23 Q)
def law05_EvalExprTells_w (t0 t1 t2 t3 : AV) (L : SH) (Q : AV → SH → Prop) : Prop :=
 W.box t1 L fun t5_0 L_1 =>
 W.frz1 t5_0 L_1 fun t5_2 L_3 =>
 W.len t0 fun t19_4 =>
 W.bin Try.prog Fl .gtr 3 t19_4 (.int .i64 300) fun t20_5 =>
 W.grd t20_5 false (fun k_7 => k_7 t2 L_3) L_3 fun t22_6 L_8 =>
 W.grd t20_5 false (fun k_10 => W.len t22_6 fun v_12 =>
 k_10 v_12 L_8) L_8 fun t23_9 L_11 =>
 W.grd t20_5 false (fun k_14 => W.bin Try.prog Fl .gtr 3 t23_9 (.int .i64 100) fun v_16 =>
 k_14 v_16 L_11) L_11 fun t24_13 L_15 =>
 W.pick t20_5 (.bool true) t24_13 fun t25_17 =>
 W.cond t25_17 (
 Q (.bool true) L_15) (
 W.call Try.prog (.fn 20 []) [t0] L_15 (law05_EvalExprTells_c6 t5_2 t2 t3 Q))
theorem law05_EvalExprTells_e (t0 t1 t2 t3 : AV) (L : SH) (Q : AV → SH → Prop) : W.func Try.prog Fl law05_EvalExprTells_t Try.f9 (Try.f9.body.getD .skip) [t0, t1, t2, t3] L Q = law05_EvalExprTells_w t0 t1 t2 t3 L Q := by kernel_rfl
theorem law05_EvalExprTells_ok (t0 t1 t2 t3 : AV) (L : SH) (Q : AV → SH → Prop) (h : law05_EvalExprTells_w t0 t1 t2 t3 L Q) : CallA Try.prog 9 [t0, t1, t2, t3] L Q :=
  func_sound (ht := law05_EvalExprTells_t) fit Try.func9 (show Try.f9.body = some (Try.f9.body.getD .skip) by kernel_rfl) (Eq.mpr (law05_EvalExprTells_e t0 t1 t2 t3 L Q) h)

/- interleave/interleavelaw05.EvalSubstitutes -/
def law05_EvalSubstitutes_t : Hints := ⟨fun k => none, fun k => [], fun k => if k = 3 then [5] else [], fun k => []⟩
def law05_EvalSubstitutes_c0 (t22_14 : AV) (t23_15 : AV) (Q : AV → SH → Prop) (t29_19 : AV) (L_20 : SH) : Prop :=
 W.ext 0 t29_19 fun t30_21 =>
 W.ext 1 t29_19 fun t31_22 =>
 W.bin Try.prog Fl .eql 2 t22_14 t30_21 fun t34_23 =>
 W.grd t34_23 true (fun k_25 => k_25 t23_15 L_20) L_20 fun t36_24 L_26 =>
 W.grd t34_23 true (fun k_28 => k_28 t31_22 L_26) L_26 fun t37_27 L_29 =>
 W.grd t34_23 true (fun k_31 => W.bin Try.prog Fl .eql 4 t36_24 t37_27 fun v_33 =>
 k_31 v_33 L_29) L_29 fun t38_30 L_32 =>
 W.pick t34_23 t38_30 (.bool false) fun t39_34 =>
 W.grd t39_34 true (fun k_36 => W.call Try.prog (.fn 17 []) [] L_32 fun v_38 L_39 =>
 k_36 v_38 L_39) L_32 fun t41_35 L_37 =>
 W.pick t39_34 t41_35 (.bool false) fun t42_40 =>
 Q t42_40 L_37
def law05_EvalSubstitutes_c1 (t22_14 : AV) (t23_15 : AV) (Q : AV → SH → Prop) (t28_17 : AV) (L_18 : SH) : Prop :=
 W.call Try.prog (.fn 21 []) [t28_17, .nils, .nils] L_18 (law05_EvalSubstitutes_c0 t22_14 t23_15 Q)
def law05_EvalSubstitutes_c2 (t5_9 : AV) (t16_4 : AV) (t1 : AV) (Q : AV → SH → Prop) (t21_12 : AV) (L_13 : SH) : Prop :=
 W.ext 0 t21_12 fun t22_14 =>
 W.ext 1 t21_12 fun t23_15 =>
 W.load true 4 t5_9 L_13 fun t25_16 =>
 W.call Try.prog (.fn 24 []) [t25_16, t16_4, t1] L_13 (law05_EvalSubstitutes_c1 t22_14 t23_15 Q)
def law05_EvalSubstitutes_c3 (t15_2 : AV) (t1 : AV) (Q : AV → SH → Prop) (t16_4 : AV) (L_5 : SH) : Prop :=
 W.alloc [(.int .i64 0), (.int .i64 0), (.str []), .nils] L_5 fun t5_6 L_7 =>
 W.store 4 t5_6 t15_2 L_7 fun L_8 =>
 W.frz1 t5_6 L_8 fun t5_9 L_10 =>
 W.load true 4 t5_9 L_10 fun t18_11 =>
 W.call Try.prog (.fn 21 []) [t18_11, t16_4, t1] L_10 (law05_EvalSubstitutes_c2 t5_9 t16_4 t1 Q)
def law05_EvalSubstitutes_c4 (t1 : AV) (Q : AV → SH → Prop) (t15_2 : AV) (L_3 : SH) : Prop :=
 W.call Try.prog (.fn 23 []) [] L_3 (law05_EvalSubstitutes_c3 t15_2 t1 Q)
def law05_EvalSubstitutes_w (t0 t1 : AV) (L : SH) (Q : AV → SH → Prop) : Prop :=
 W.len t0 fun t12_0 =>
 W.bin Try.prog Fl .gtr 3 t12_0 (.int .i64 300) fun t13_1 =>
 W.cond t13_1 (
 Q (.bool true) L) (
 W.call Try.prog (.fn 20 []) [t0] L (law05_EvalSubstitutes_c4 t1 Q))
theorem law05_EvalSubstitutes_e (t0 t1 : AV) (L : SH) (Q : AV → SH → Prop) : W.func Try.prog Fl law05_EvalSubstitutes_t Try.f10 (Try.f10.body.getD .skip) [t0, t1] L Q = law05_EvalSubstitutes_w t0 t1 L Q := by kernel_rfl
theorem law05_EvalSubstitutes_ok (t0 t1 : AV) (L : SH) (Q : AV → SH → Prop) (h : law05_EvalSubstitutes_w t0 t1 L Q) : CallA Try.prog 10 [t0, t1] L Q :=
  func_sound (ht := law05_EvalSubstitutes_t) fit Try.func10 (show Try.f10.body = some (Try.f10.body.getD .skip) by kernel_rfl) (Eq.mpr (law05_EvalSubstitutes_e t0 t1 L Q) h)

/- interleave/interleavelaw05.awake -/
def law05_awake_t : Hints := ⟨fun k => none, fun k => [], fun k => [], fun k => []⟩
def law05_awake_c0 (Q : AV → SH → Prop) (t4_0 : AV) (L_1 : SH) : Prop :=
 W.ext 0 t4_0 fun t5_2 =>
 W.ext 1 t4_0 fun t6_3 =>
 W.bin Try.prog Fl .eql 2 t5_2 (.int .i64 5) fun t8_4 =>
 W.grd t8_4 true (fun k_6 => k_6 t6_3 L_1) L_1 fun t10_5 L_7 =>
 W.pick t8_4 t10_5 (.bool false) fun t11_8 =>
 Q t11_8 L_7
def law05_awake_w (L : SH) (Q : AV → SH → Prop) : Prop :=
 W.call Try.prog (.fn 14 []) [(.int .i64 6), (.int .i64 2), (.int .i64 3)] L (law05_awake_c0 Q)
theorem law05_awake_e (L : SH) (Q : AV → SH → Prop) : W.func Try.prog Fl law05_awake_t Try.f17 (Try.f17.body.getD .skip) [] L Q = law05_awake_w  L Q := by kernel_rfl
theorem law05_awake_ok (L : SH) (Q : AV → SH → Prop) (h : law05_awake_w  L Q) : CallA Try.prog 17 [] L Q :=
  func_sound (ht := law05_awake_t) fit Try.func17 (show Try.f17.body = some (Try.f17.body.getD .skip) by kernel_rfl) (Eq.mpr (law05_awake_e  L Q) h)

end Go.Proofs.Ytdaejmkoenhbkaa.Am
