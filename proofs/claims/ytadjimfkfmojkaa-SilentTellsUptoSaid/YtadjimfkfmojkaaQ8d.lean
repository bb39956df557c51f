/- A part of the proof; the statement is proved in the last part. -/
import Derived.Test.YtadjimfkfmojkaaQ8c
set_option linter.unusedSimpArgs false
set_option linter.unusedVariables false
section
namespace Go.Proofs.Ytadjimfkfmojkaa.Am
set_option linter.unusedVariables false
set_option maxRecDepth 100000
def law07_SilentTells_t : Hints := ⟨fun k => none, fun k => [], fun k => if k = 0 then [2, 3] else if k = 1 then [5] else if k = 2 then [7] else [], fun k => []⟩
def law07_SilentTells_c0 (t14_13 : AV) (t5_17 : AV) (Q : AV → SH → Prop) (t18_21 : AV) (L_22 : SH) : Prop :=
 W.ext 0 t18_21 fun t19_23 =>
 W.ext 1 t18_21 fun t20_24 =>
 W.alloc [(.int .i64 0), .nils, .nils, (.int .i64 0)] L_22 fun t7_25 L_26 =>
 W.store 4 t7_25 t19_23 L_26 fun L_27 =>
 W.frz1 t7_25 L_27 fun t7_28 L_29 =>
 W.bin Try.prog Fl .eql 4 t14_13 t20_24 fun t23_30 =>
 W.grd t23_30 true (fun k_32 => W.load true 4 t5_17 L_29 fun v_34 =>
 k_32 v_34 L_29) L_29 fun t25_31 L_33 =>
 W.grd t23_30 true (fun k_36 => W.load true 4 t7_28 L_33 fun v_38 =>
 k_36 v_38 L_33) L_33 fun t26_35 L_37 =>
 W.grd t23_30 true (fun k_40 => W.call Try.prog (.fn 18 []) [t25_31, t26_35] L_37 fun v_42 L_43 =>
 k_40 v_42 L_43) L_37 fun t27_39 L_41 =>
 W.pick t23_30 t27_39 (.bool false) fun t28_44 =>
 W.grd t28_44 true (fun k_46 => W.call Try.prog (.fn 19 []) [] L_41 fun v_48 L_49 =>
 k_46 v_48 L_49) L_41 fun t30_45 L_47 =>
 W.pick t28_44 t30_45 (.bool false) fun t31_50 =>
 Q t31_50 L_47
def law07_SilentTells_c1 (t2_4 : AV) (t3_6 : AV) (Q : AV → SH → Prop) (t12_10 : AV) (L_11 : SH) : Prop :=
 W.ext 0 t12_10 fun t13_12 =>
 W.ext 1 t12_10 fun t14_13 =>
 W.alloc [(.int .i64 0), .nils, .nils, (.int .i64 0)] L_11 fun t5_14 L_15 =>
 W.store 4 t5_14 t13_12 L_15 fun L_16 =>
 W.frz1 t5_14 L_16 fun t5_17 L_18 =>
 W.load true 2 t2_4 L_18 fun t16_19 =>
 W.load true 4 t3_6 L_18 fun t17_20 =>
 W.call Try.prog (.fn 17 []) [t16_19, t17_20] L_18 (law07_SilentTells_c0 t14_13 t5_17 Q)
def law07_SilentTells_w (t0 t1 : AV) (L : SH) (Q : AV → SH → Prop) : Prop :=
 W.box t0 L fun t2_0 L_1 =>
 W.box t1 L_1 fun t3_2 L_3 =>
 W.frz1 t2_0 L_3 fun t2_4 L_5 =>
 W.frz1 t3_2 L_5 fun t3_6 L_7 =>
 W.load true 2 t2_4 L_7 fun t10_8 =>
 W.load true 4 t3_6 L_7 fun t11_9 =>
 W.call Try.prog (.fn 16 []) [t10_8, t11_9] L_7 (law07_SilentTells_c1 t2_4 t3_6 Q)
theorem law07_SilentTells_e (t0 t1 : AV) (L : SH) (Q : AV → SH → Prop) : W.func Try.prog Fl law07_SilentTells_t Try.f4 (Try.f4.body.getD .skip) [t0, t1] L Q = law07_SilentTells_w t0 t1 L Q := by kernel_rfl
theorem law07_SilentTells_ok (t0 t1 : AV) (L : SH) (Q : AV → SH → Prop) (h : law07_SilentTells_w t0 t1 L Q) : CallA Try.prog 4 [t0, t1] L Q :=
  func_sound (ht := law07_SilentTells_t) fit Try.func4 (show Try.f4.body = some (Try.f4.body.getD .skip) by kernel_rfl) (Eq.mpr (law07_SilentTells_e t0 t1 L Q) h)

def silent_Union_t : Hints := ⟨fun k => none, fun k => [], fun k => [], fun k => []⟩
def silent_Union_c0 (t17_7 : AV) (Q : AV → SH → Prop) (t19_9 : AV) (L_10 : SH) : Prop :=
 W.call Try.prog (.fn 41 []) [t17_7] L_10 fun t21_11 L_12 =>
 Q t21_11 L_12
def silent_Union_w (t0 t1 : AV) (L : SH) (Q : AV → SH → Prop) : Prop :=
 W.len t0 fun t7_0 =>
 W.len t1 fun t9_1 =>
 W.bin Try.prog Fl .add 3 t7_0 t9_1 fun t10_2 =>
 W.mslice 1 8 [(.int .i64 0)] (.int .i64 0) t10_2 L fun t11_3 L_4 =>
 W.append 1 8 t11_3 t0 L_4 fun t14_5 L_6 =>
 W.append 1 8 t14_5 t1 L_6 fun t17_7 L_8 =>
 W.call Try.prog (.fn 40 []) [t17_7] L_8 (silent_Union_c0 t17_7 Q)
theorem silent_Union_e (t0 t1 : AV) (L : SH) (Q : AV → SH → Prop) : W.func Try.prog Fl silent_Union_t Try.f14 (Try.f14.body.getD .skip) [t0, t1] L Q = silent_Union_w t0 t1 L Q := by kernel_rfl
theorem silent_Union_ok (t0 t1 : AV) (L : SH) (Q : AV → SH → Prop) (h : silent_Union_w t0 t1 L Q) : CallA Try.prog 14 [t0, t1] L Q :=
  func_sound (ht := silent_Union_t) fit Try.func14 (show Try.f14.body = some (Try.f14.body.getD .skip) by kernel_rfl) (Eq.mpr (silent_Union_e t0 t1 L Q) h)

def silent_Settle_t : Hints := ⟨fun k => none, fun k => if k = 6 then [2, 3, 4, 6] else [], fun k => if k = 0 then [2] else if k = 8 then [7] else [], fun k => []⟩
def silent_Settle_zt0 (t4_4 : AV) (L_36 : SH) (Q : AV → SH → Prop)  : Prop :=
 W.build [(.int .i64 0), .nils, .nils, (.int .i64 0)] [] fun t22_39 =>
 W.store 4 t4_4 t22_39 L_36 fun L_40 =>
 W.load true 4 t4_4 L_40 fun r_41 =>
 Q (.tup [r_41, (.bool false)]) L_40
def silent_Settle_zt1 (vs_46 : List AV) (L_74 : SH) (Q : AV → SH → Prop)  : Prop :=
 W.build [(.int .i64 0), .nils, .nils, (.int .i64 0)] [] fun t38_77 =>
 W.store 4 (slotOf [2, 3, 4, 6] vs_46 4) t38_77 L_74 fun L_78 =>
 W.load true 4 (slotOf [2, 3, 4, 6] vs_46 4) L_78 fun r_79 =>
 Q (.tup [r_79, (.bool false)]) L_78
def silent_Settle_zt2 (vs_46 : List AV) (L_104 : SH) (Q : AV → SH → Prop)  : Prop :=
 W.load true 4 (slotOf [2, 3, 4, 6] vs_46 3) L_104 fun t53_107 =>
 W.store 4 (slotOf [2, 3, 4, 6] vs_46 4) t53_107 L_104 fun L_108 =>
 W.load true 4 (slotOf [2, 3, 4, 6] vs_46 4) L_108 fun r_109 =>
 Q (.tup [r_109, (.bool true)]) L_108
def silent_Settle_zt3 (vs_46 : List AV) (L_125 : SH) (Q : AV → SH → Prop)  : Prop :=
 W.build [(.int .i64 0), .nils, .nils, (.int .i64 0)] [] fun t64_128 =>
 W.store 4 (slotOf [2, 3, 4, 6] vs_46 4) t64_128 L_125 fun L_129 =>
 W.load true 4 (slotOf [2, 3, 4, 6] vs_46 4) L_129 fun r_130 =>
 Q (.tup [r_130, (.bool false)]) L_129
def silent_Settle_zt4 (vs_46 : List AV) (nx_47 : W.Kn) (L_125 : SH)  : Prop :=
 W.bin Try.prog Fl .add 3 (slotOf [2, 3, 4, 6] vs_46 6) (.int .i64 1) fun t26_131 =>
 nx_47 [(slotOf [2, 3, 4, 6] vs_46 2), (slotOf [2, 3, 4, 6] vs_46 3), (slotOf [2, 3, 4, 6] vs_46 4), t26_131] L_125
def silent_Settle_zt5 (vs_46 : List AV) (L_104 : SH) (t7_89 : AV) (Q : AV → SH → Prop) (nx_47 : W.Kn)  : Prop :=
 W.faddr 1 (slotOf [2, 3, 4, 6] vs_46 2) fun t55_110 =>
 W.load false 1 t55_110 L_104 fun t56_111 =>
 W.len t56_111 fun t57_112 =>
 W.bin Try.prog Fl .eql 3 (slotOf [2, 3, 4, 6] vs_46 6) t57_112 fun t58_113 =>
 W.grd t58_113 false (fun k_115 => W.load true 6 t7_89 L_104 fun v_117 =>
 k_115 v_117 L_104) L_104 fun t60_114 L_116 =>
 W.grd t58_113 false (fun k_119 => W.call Try.prog (.fn 43 []) [(slotOf [2, 3, 4, 6] vs_46 3), t60_114] L_116 fun v_121 L_122 =>
 k_119 v_121 L_122) L_116 fun t61_118 L_120 =>
 W.grd t58_113 false (fun k_124 => W.un .not t61_118 fun v_126 =>
 k_124 v_126 L_120) L_120 fun t62_123 L_125 =>
 W.pick t58_113 (.bool true) t62_123 fun t63_127 =>
 W.cond t63_127 (
 (silent_Settle_zt3 vs_46 L_125 Q)) (
 (silent_Settle_zt4 vs_46 nx_47 L_125))
def silent_Settle_zt6 (vs_46 : List AV) (L_74 : SH) (Q : AV → SH → Prop) (nx_47 : W.Kn)  : Prop :=
 W.faddr 1 (slotOf [2, 3, 4, 6] vs_46 2) fun t39_80 =>
 W.load false 1 t39_80 L_74 fun t40_81 =>
 W.faddr 0 (slotOf [2, 3, 4, 6] vs_46 3) fun t41_82 =>
 W.load false 1 t41_82 L_74 fun t42_83 =>
 W.idx 6 t40_81 t42_83 L_74 fun t43_84 =>
 W.load true 6 t43_84 L_74 fun t44_85 =>
 W.alloc [(.int .i64 0), (.int .i64 0), (.int .i64 0), (.int .i64 0), (.int .i64 0), (.int .i64 0)] L_74 fun t7_86 L_87 =>
 W.store 6 t7_86 t44_85 L_87 fun L_88 =>
 W.frz1 t7_86 L_88 fun t7_89 L_90 =>
 W.faddr 0 t7_89 fun t45_91 =>
 W.load false 1 t45_91 L_90 fun t46_92 =>
 W.bin Try.prog Fl .lss 3 t46_92 (.int .i64 1) fun t47_93 =>
 W.grd t47_93 false (fun k_95 => W.faddr 0 t7_89 fun v_97 =>
 k_95 v_97 L_90) L_90 fun t49_94 L_96 =>
 W.grd t47_93 false (fun k_99 => W.load false 1 t49_94 L_96 fun v_101 =>
 k_99 v_101 L_96) L_96 fun t50_98 L_100 =>
 W.grd t47_93 false (fun k_103 => W.bin Try.prog Fl .gtr 3 t50_98 (.int .i64 5) fun v_105 =>
 k_103 v_105 L_100) L_100 fun t51_102 L_104 =>
 W.pick t47_93 (.bool true) t51_102 fun t52_106 =>
 W.cond t52_106 (
 (silent_Settle_zt2 vs_46 L_104 Q)) (
 (silent_Settle_zt5 vs_46 L_104 t7_89 Q nx_47))
def silent_Settle_l0 (Q : AV → SH → Prop) (vs_46 : List AV) (L_48 : SH) (nx_47 : W.Kn) : Prop :=
 W.faddr 0 (slotOf [2, 3, 4, 6] vs_46 3) fun t27_49 =>
 W.load false 1 t27_49 L_48 fun t28_50 =>
 W.bin Try.prog Fl .lss 3 t28_50 (.int .i64 0) fun t29_51 =>
 W.grd t29_51 false (fun k_53 => W.faddr 0 (slotOf [2, 3, 4, 6] vs_46 3) fun v_55 =>
 k_53 v_55 L_48) L_48 fun t31_52 L_54 =>
 W.grd t29_51 false (fun k_57 => W.load false 1 t31_52 L_54 fun v_59 =>
 k_57 v_59 L_54) L_54 fun t32_56 L_58 =>
 W.grd t29_51 false (fun k_61 => W.faddr 1 (slotOf [2, 3, 4, 6] vs_46 2) fun v_63 =>
 k_61 v_63 L_58) L_58 fun t33_60 L_62 =>
 W.grd t29_51 false (fun k_65 => W.load false 1 t33_60 L_62 fun v_67 =>
 k_65 v_67 L_62) L_62 fun t34_64 L_66 =>
 W.grd t29_51 false (fun k_69 => W.len t34_64 fun v_71 =>
 k_69 v_71 L_66) L_66 fun t35_68 L_70 =>
 W.grd t29_51 false (fun k_73 => W.bin Try.prog Fl .geq 3 t32_56 t35_68 fun v_75 =>
 k_73 v_75 L_70) L_70 fun t36_72 L_74 =>
 W.pick t29_51 (.bool true) t36_72 fun t37_76 =>
 W.cond t37_76 (
 (silent_Settle_zt1 vs_46 L_74 Q)) (
 (silent_Settle_zt6 vs_46 L_74 Q nx_47))
def silent_Settle_c1 (t3_2 : AV) (Q : AV → SH → Prop) (t2_6 : AV) (t4_4 : AV) (t24_43 : AV) (L_44 : SH) : Prop :=
 W.store 4 t3_2 t24_43 L_44 fun L_45 =>
 W.loop (silent_Settle_l0 Q) [t2_6, t3_2, t4_4, (.int .i64 0)] L_45
def silent_Settle_w (t0 t1 : AV) (L : SH) (Q : AV → SH → Prop) : Prop :=
 W.box t0 L fun t2_0 L_1 =>
 W.box t1 L_1 fun t3_2 L_3 =>
 W.alloc [(.int .i64 0), .nils, .nils, (.int .i64 0)] L_3 fun t4_4 L_5 =>
 W.frz1 t2_0 L_5 fun t2_6 L_7 =>
 W.faddr 1 t3_2 fun t8_8 =>
 W.load false 1 t8_8 L_7 fun t9_9 =>
 W.len t9_9 fun t10_10 =>
 W.faddr 0 t2_6 fun t11_11 =>
 W.load false 1 t11_11 L_7 fun t12_12 =>
 W.bin Try.prog Fl .neq 3 t10_10 t12_12 fun t13_13 =>
 W.grd t13_13 false (fun k_15 => W.faddr 2 t3_2 fun v_17 =>
 k_15 v_17 L_7) L_7 fun t15_14 L_16 =>
 W.grd t13_13 false (fun k_19 => W.load false 1 t15_14 L_16 fun v_21 =>
 k_19 v_21 L_16) L_16 fun t16_18 L_20 =>
 W.grd t13_13 false (fun k_23 => W.len t16_18 fun v_25 =>
 k_23 v_25 L_20) L_20 fun t17_22 L_24 =>
 W.grd t13_13 false (fun k_27 => W.faddr 0 t2_6 fun v_29 =>
 k_27 v_29 L_24) L_24 fun t18_26 L_28 =>
 W.grd t13_13 false (fun k_31 => W.load false 1 t18_26 L_28 fun v_33 =>
 k_31 v_33 L_28) L_28 fun t19_30 L_32 =>
 W.grd t13_13 false (fun k_35 => W.bin Try.prog Fl .neq 3 t17_22 t19_30 fun v_37 =>
 k_35 v_37 L_32) L_32 fun t20_34 L_36 =>
 W.pick t13_13 (.bool true) t20_34 fun t21_38 =>
 W.cond t21_38 (
 (silent_Settle_zt0 t4_4 L_36 Q)) (
 W.load true 4 t3_2 L_36 fun t23_42 =>
 W.call Try.prog (.fn 42 []) [t23_42] L_36 (silent_Settle_c1 t3_2 Q t2_6 t4_4))
theorem silent_Settle_e (t0 t1 : AV) (L : SH) (Q : AV → SH → Prop) : W.func Try.prog Fl silent_Settle_t Try.f16 (Try.f16.body.getD .skip) [t0, t1] L Q = silent_Settle_w t0 t1 L Q := by kernel_rfl
theorem silent_Settle_ok (t0 t1 : AV) (L : SH) (Q : AV → SH → Prop) (h : silent_Settle_w t0 t1 L Q) : CallA Try.prog 16 [t0, t1] L Q :=
  func_sound (ht := silent_Settle_t) fit Try.func16 (show Try.f16.body = some (Try.f16.body.getD .skip) by kernel_rfl) (Eq.mpr (silent_Settle_e t0 t1 L Q) h)

def ref07_Settle_t : Hints := ⟨fun k => none, fun k => if k = 5 then [2, 3, 4, 6] else [], fun k => if k = 0 then [2] else if k = 9 then [7] else if k = 14 then [8] else [], fun k => []⟩
def ref07_Settle_zt0 (t4_4 : AV) (L_36 : SH) (Q : AV → SH → Prop)  : Prop :=
 W.build [(.int .i64 0), .nils, .nils, (.int .i64 0)] [] fun t24_39 =>
 W.store 4 t4_4 t24_39 L_36 fun L_40 =>
 W.load true 4 t4_4 L_40 fun r_41 =>
 Q (.tup [r_41, (.bool false)]) L_40
def ref07_Settle_zt1 (vs_46 : List AV) (L_78 : SH) (Q : AV → SH → Prop)  : Prop :=
 W.build [(.int .i64 0), .nils, .nils, (.int .i64 0)] [] fun t45_81 =>
 W.store 4 (slotOf [2, 3, 4, 6] vs_46 4) t45_81 L_78 fun L_82 =>
 W.load true 4 (slotOf [2, 3, 4, 6] vs_46 4) L_82 fun r_83 =>
 Q (.tup [r_83, (.bool false)]) L_82
def ref07_Settle_zt2 (vs_46 : List AV) (L_98 : SH) (Q : AV → SH → Prop)  : Prop :=
 W.load true 4 (slotOf [2, 3, 4, 6] vs_46 3) L_98 fun t56_100 =>
 W.store 4 (slotOf [2, 3, 4, 6] vs_46 4) t56_100 L_98 fun L_101 =>
 W.load true 4 (slotOf [2, 3, 4, 6] vs_46 4) L_101 fun r_102 =>
 Q (.tup [r_102, (.bool true)]) L_101
def ref07_Settle_zt3 (vs_46 : List AV) (L_98 : SH) (Q : AV → SH → Prop)  : Prop :=
 W.build [(.int .i64 0), .nils, .nils, (.int .i64 0)] [] fun t62_107 =>
 W.store 4 (slotOf [2, 3, 4, 6] vs_46 4) t62_107 L_98 fun L_108 =>
 W.load true 4 (slotOf [2, 3, 4, 6] vs_46 4) L_108 fun r_109 =>
 Q (.tup [r_109, (.bool false)]) L_108
def ref07_Settle_zt4 (vs_46 : List AV) (L_120 : SH) (Q : AV → SH → Prop)  : Prop :=
 W.build [(.int .i64 0), .nils, .nils, (.int .i64 0)] [] fun t71_122 =>
 W.store 4 (slotOf [2, 3, 4, 6] vs_46 4) t71_122 L_120 fun L_123 =>
 W.load true 4 (slotOf [2, 3, 4, 6] vs_46 4) L_123 fun r_124 =>
 Q (.tup [r_124, (.bool false)]) L_123
def ref07_Settle_zt5 (t8_119 : AV) (L_120 : SH) (vs_46 : List AV) (nx_47 : W.Kn)  : Prop :=
 W.load true 4 t8_119 L_120 fun t72_125 =>
 W.store 4 (slotOf [2, 3, 4, 6] vs_46 3) t72_125 L_120 fun L_126 =>
 W.bin Try.prog Fl .add 3 (slotOf [2, 3, 4, 6] vs_46 6) (.int .i64 1) fun t33_127 =>
 nx_47 [(slotOf [2, 3, 4, 6] vs_46 2), (slotOf [2, 3, 4, 6] vs_46 3), (slotOf [2, 3, 4, 6] vs_46 4), t33_127] L_126
def ref07_Settle_c0 (vs_46 : List AV) (Q : AV → SH → Prop) (nx_47 : W.Kn) (t66_112 : AV) (L_113 : SH) : Prop :=
 W.ext 0 t66_112 fun t67_114 =>
 W.ext 1 t66_112 fun t68_115 =>
 W.alloc [(.int .i64 0), .nils, .nils, (.int .i64 0)] L_113 fun t8_116 L_117 =>
 W.store 4 t8_116 t67_114 L_117 fun L_118 =>
 W.frz1 t8_116 L_118 fun t8_119 L_120 =>
 W.un .not t68_115 fun t70_121 =>
 W.cond t70_121 (
 (ref07_Settle_zt4 vs_46 L_120 Q)) (
 (ref07_Settle_zt5 t8_119 L_120 vs_46 nx_47))
def ref07_Settle_zt6 (t7_93 : AV) (L_98 : SH) (vs_46 : List AV) (Q : AV → SH → Prop) (nx_47 : W.Kn)  : Prop :=
 W.load true 6 t7_93 L_98 fun t64_110 =>
 W.load true 4 (slotOf [2, 3, 4, 6] vs_46 3) L_98 fun t65_111 =>
 W.call Try.prog (.fn 46 []) [t64_110, t65_111] L_98 (ref07_Settle_c0 vs_46 Q nx_47)
def ref07_Settle_zt7 (vs_46 : List AV) (L_98 : SH) (Q : AV → SH → Prop) (t7_93 : AV) (nx_47 : W.Kn)  : Prop :=
 W.faddr 1 (slotOf [2, 3, 4, 6] vs_46 2) fun t58_103 =>
 W.load false 1 t58_103 L_98 fun t59_104 =>
 W.len t59_104 fun t60_105 =>
 W.bin Try.prog Fl .eql 3 (slotOf [2, 3, 4, 6] vs_46 6) t60_105 fun t61_106 =>
 W.cond t61_106 (
 (ref07_Settle_zt3 vs_46 L_98 Q)) (
 (ref07_Settle_zt6 t7_93 L_98 vs_46 Q nx_47))
def ref07_Settle_c1 (vs_46 : List AV) (Q : AV → SH → Prop) (t7_93 : AV) (nx_47 : W.Kn) (t54_97 : AV) (L_98 : SH) : Prop :=
 W.un .not t54_97 fun t55_99 =>
 W.cond t55_99 (
 (ref07_Settle_zt2 vs_46 L_98 Q)) (
 (ref07_Settle_zt7 vs_46 L_98 Q t7_93 nx_47))
def ref07_Settle_zt8 (vs_46 : List AV) (L_78 : SH) (Q : AV → SH → Prop) (nx_47 : W.Kn)  : Prop :=
 W.faddr 1 (slotOf [2, 3, 4, 6] vs_46 2) fun t46_84 =>
 W.load false 1 t46_84 L_78 fun t47_85 =>
 W.faddr 0 (slotOf [2, 3, 4, 6] vs_46 3) fun t48_86 =>
 W.load false 1 t48_86 L_78 fun t49_87 =>
 W.idx 6 t47_85 t49_87 L_78 fun t50_88 =>
 W.load true 6 t50_88 L_78 fun t51_89 =>
 W.alloc [(.int .i64 0), (.int .i64 0), (.int .i64 0), (.int .i64 0), (.int .i64 0), (.int .i64 0)] L_78 fun t7_90 L_91 =>
 W.store 6 t7_90 t51_89 L_91 fun L_92 =>
 W.frz1 t7_90 L_92 fun t7_93 L_94 =>
 W.faddr 0 t7_93 fun t52_95 =>
 W.load false 1 t52_95 L_94 fun t53_96 =>
 W.call Try.prog (.fn 45 []) [t53_96] L_94 (ref07_Settle_c1 vs_46 Q t7_93 nx_47)
def ref07_Settle_zt9 (vs_46 : List AV) (L_48 : SH) (Q : AV → SH → Prop) (nx_47 : W.Kn)  : Prop :=
 W.faddr 0 (slotOf [2, 3, 4, 6] vs_46 3) fun t34_53 =>
 W.load false 1 t34_53 L_48 fun t35_54 =>
 W.bin Try.prog Fl .lss 3 t35_54 (.int .i64 0) fun t36_55 =>
 W.grd t36_55 false (fun k_57 => W.faddr 0 (slotOf [2, 3, 4, 6] vs_46 3) fun v_59 =>
 k_57 v_59 L_48) L_48 fun t38_56 L_58 =>
 W.grd t36_55 false (fun k_61 => W.load false 1 t38_56 L_58 fun v_63 =>
 k_61 v_63 L_58) L_58 fun t39_60 L_62 =>
 W.grd t36_55 false (fun k_65 => W.faddr 1 (slotOf [2, 3, 4, 6] vs_46 2) fun v_67 =>
 k_65 v_67 L_62) L_62 fun t40_64 L_66 =>
 W.grd t36_55 false (fun k_69 => W.load false 1 t40_64 L_66 fun v_71 =>
 k_69 v_71 L_66) L_66 fun t41_68 L_70 =>
 W.grd t36_55 false (fun k_73 => W.len t41_68 fun v_75 =>
 k_73 v_75 L_70) L_70 fun t42_72 L_74 =>
 W.grd t36_55 false (fun k_77 => W.bin Try.prog Fl .geq 3 t39_60 t42_72 fun v_79 =>
 k_77 v_79 L_74) L_74 fun t43_76 L_78 =>
 W.pick t36_55 (.bool true) t43_76 fun t44_80 =>
 W.cond t44_80 (
 (ref07_Settle_zt1 vs_46 L_78 Q)) (
 (ref07_Settle_zt8 vs_46 L_78 Q nx_47))
def ref07_Settle_zt10 (vs_46 : List AV) (L_48 : SH) (Q : AV → SH → Prop)  : Prop :=
 W.build [(.int .i64 0), .nils, .nils, (.int .i64 0)] [] fun t73_128 =>
 W.store 4 (slotOf [2, 3, 4, 6] vs_46 4) t73_128 L_48 fun L_129 =>
 W.load true 4 (slotOf [2, 3, 4, 6] vs_46 4) L_129 fun r_130 =>
 Q (.tup [r_130, (.bool false)]) L_129
def ref07_Settle_l2 (Q : AV → SH → Prop) (vs_46 : List AV) (L_48 : SH) (nx_47 : W.Kn) : Prop :=
 W.faddr 1 (slotOf [2, 3, 4, 6] vs_46 2) fun t28_49 =>
 W.load false 1 t28_49 L_48 fun t29_50 =>
 W.len t29_50 fun t30_51 =>
 W.bin Try.prog Fl .leq 3 (slotOf [2, 3, 4, 6] vs_46 6) t30_51 fun t31_52 =>
 W.cond t31_52 (
 (ref07_Settle_zt9 vs_46 L_48 Q nx_47)) (
 (ref07_Settle_zt10 vs_46 L_48 Q))
def ref07_Settle_c3 (t3_2 : AV) (Q : AV → SH → Prop) (t2_6 : AV) (t4_4 : AV) (t26_43 : AV) (L_44 : SH) : Prop :=
 W.store 4 t3_2 t26_43 L_44 fun L_45 =>
 W.loop (ref07_Settle_l2 Q) [t2_6, t3_2, t4_4, (.int .i64 0)] L_45
def ref07_Settle_w (t0 t1 : AV) (L : SH) (Q : AV → SH → Prop) : Prop :=
 W.box t0 L fun t2_0 L_1 =>
 W.box t1 L_1 fun t3_2 L_3 =>
 W.alloc [(.int .i64 0), .nils, .nils, (.int .i64 0)] L_3 fun t4_4 L_5 =>
 W.frz1 t2_0 L_5 fun t2_6 L_7 =>
 W.faddr 1 t3_2 fun t10_8 =>
 W.load false 1 t10_8 L_7 fun t11_9 =>
 W.len t11_9 fun t12_10 =>
 W.faddr 0 t2_6 fun t13_11 =>
 W.load false 1 t13_11 L_7 fun t14_12 =>
 W.bin Try.prog Fl .neq 3 t12_10 t14_12 fun t15_13 =>
 W.grd t15_13 false (fun k_15 => W.faddr 2 t3_2 fun v_17 =>
 k_15 v_17 L_7) L_7 fun t17_14 L_16 =>
 W.grd t15_13 false (fun k_19 => W.load false 1 t17_14 L_16 fun v_21 =>
 k_19 v_21 L_16) L_16 fun t18_18 L_20 =>
 W.grd t15_13 false (fun k_23 => W.len t18_18 fun v_25 =>
 k_23 v_25 L_20) L_20 fun t19_22 L_24 =>
 W.grd t15_13 false (fun k_27 => W.faddr 0 t2_6 fun v_29 =>
 k_27 v_29 L_24) L_24 fun t20_26 L_28 =>
 W.grd t15_13 false (fun k_31 => W.load false 1 t20_26 L_28 fun v_33 =>
 k_31 v_33 L_28) L_28 fun t21_30 L_32 =>
 W.grd t15_13 false (fun k_35 => W.bin Try.prog Fl .neq 3 t19_22 t21_30 fun v_37 =>
 k_35 v_37 L_32) L_32 fun t22_34 L_36 =>
 W.pick t15_13 (.bool true) t22_34 fun t23_38 =>
 W.cond t23_38 (
 (ref07_Settle_zt0 t4_4 L_36 Q)) (
 W.load true 4 t3_2 L_36 fun t25_42 =>
 W.call Try.prog (.fn 44 []) [t25_42] L_36 (ref07_Settle_c3 t3_2 Q t2_6 t4_4))
theorem ref07_Settle_e (t0 t1 : AV) (L : SH) (Q : AV → SH → Prop) : W.func Try.prog Fl ref07_Settle_t Try.f17 (Try.f17.body.getD .skip) [t0, t1] L Q = ref07_Settle_w t0 t1 L Q := by kernel_rfl
theorem ref07_Settle_ok (t0 t1 : AV) (L : SH) (Q : AV → SH → Prop) (h : ref07_Settle_w t0 t1 L Q) : CallA Try.prog 17 [t0, t1] L Q :=
  func_sound (ht := ref07_Settle_t) fit Try.func17 (show Try.f17.body = some (Try.f17.body.getD .skip) by kernel_rfl) (Eq.mpr (ref07_Settle_e t0 t1 L Q) h)

def ref07_SameThread_t : Hints := ⟨fun k => none, fun k => if k = 4 then [2, 3, 5] else if k = 9 then [2, 3, 6] else [], fun k => if k = 0 then [2, 3] else [], fun k => if k = 6 then [0, 1, 0, 7, 15, 0, 32, 0, 224, 480, 1023] else if k = 11 then [0, 1, 0, 7, 15, 0, 32, 0, 224, 480, 1023, 2047] else []⟩
def ref07_SameThread_zt0 (vs_92 : List AV) (L_94 : SH) (Q : AV → SH → Prop) (nx_93 : W.Kn)  : Prop :=
 (true = true) ∧ (
 W.faddr 1 (slotOf [2, 3, 5] vs_92 2) fun t44_99 =>
 W.calm [] ⟨1, (blocksOf t44_99), [], [], false, []⟩ (
 W.load false 1 t44_99 L_94 fun t45_100 =>
 W.note ⟨(blocksOf t44_99), [], [], []⟩ fun r_101 =>
 W.calm [] ⟨3, (slOf t45_100), [], [], false, []⟩ (
 W.idx 1 t45_100 (slotOf [2, 3, 5] vs_92 5) L_94 fun t47_102 =>
 W.note ⟨(slOf t45_100), [], [], []⟩ fun r_103 =>
 W.calm [] ⟨4, (blocksOf t47_102), [], [], false, []⟩ (
 W.load false 1 t47_102 L_94 fun t48_104 =>
 W.note ⟨(blocksOf t47_102), [], [], []⟩ fun r_105 =>
 W.faddr 1 (slotOf [2, 3, 5] vs_92 3) fun t49_106 =>
 W.calm [⟨4, r_105.reads, r_105.writes, r_105.made, false, r_105.old⟩, ⟨3, r_103.reads, r_103.writes, r_103.made, false, r_103.old⟩, ⟨1, r_101.reads, r_101.writes, r_101.made, false, r_101.old⟩] ⟨6, (blocksOf t49_106), [], [], false, []⟩ (
 W.load false 1 t49_106 L_94 fun t50_107 =>
 W.note ⟨(blocksOf t49_106), [], [], []⟩ fun r_108 =>
 W.calm [⟨4, r_105.reads, r_105.writes, r_105.made, false, r_105.old⟩, ⟨3, r_103.reads, r_103.writes, r_103.made, false, r_103.old⟩, ⟨1, r_101.reads, r_101.writes, r_101.made, false, r_101.old⟩] ⟨8, (slOf t50_107), [], [], false, []⟩ (
 W.idx 1 t50_107 (slotOf [2, 3, 5] vs_92 5) L_94 fun t52_109 =>
 W.note ⟨(slOf t50_107), [], [], []⟩ fun r_110 =>
 W.calm [⟨4, r_105.reads, r_105.writes, r_105.made, false, r_105.old⟩, ⟨3, r_103.reads, r_103.writes, r_103.made, false, r_103.old⟩, ⟨1, r_101.reads, r_101.writes, r_101.made, false, r_101.old⟩] ⟨9, (blocksOf t52_109), [], [], false, []⟩ (
 W.load false 1 t52_109 L_94 fun t53_111 =>
 W.note ⟨(blocksOf t52_109), [], [], []⟩ fun r_112 =>
 W.bin Try.prog Fl .neq 2 t48_104 t53_111 fun t54_113 =>
 W.cond t54_113 (
 Q (.bool false) L_94) (
 W.bin Try.prog Fl .add 3 (slotOf [2, 3, 5] vs_92 5) (.int .i64 1) fun t43_114 =>
 nx_93 [(slotOf [2, 3, 5] vs_92 2), (slotOf [2, 3, 5] vs_92 3), t43_114] L_94))))))))
def ref07_SameThread_zt1 (vs_115 : List AV) (nx_116 : W.Kn) (L_138 : SH)  : Prop :=
 W.bin Try.prog Fl .add 3 (slotOf [2, 3, 6] vs_115 6) (.int .i64 1) fun t61_141 =>
 nx_116 [(slotOf [2, 3, 6] vs_115 2), (slotOf [2, 3, 6] vs_115 3), t61_141] L_138
def ref07_SameThread_d0 (L_117 : SH) (Q : AV → SH → Prop) (vs_115 : List AV) (nx_116 : W.Kn) (t72_136 : AV) (L_138 : SH) (ks_137 : List Nat) : Prop :=
 W.note ⟨[], ks_137, [], L_117.names⟩ fun r_139 =>
 W.un .not t72_136 fun t73_140 =>
 W.cond t73_140 (
 Q (.bool false) L_138) (
 (ref07_SameThread_zt1 vs_115 nx_116 L_138))
def ref07_SameThread_zt2 (vs_115 : List AV) (L_117 : SH) (Q : AV → SH → Prop) (nx_116 : W.Kn)  : Prop :=
 (true = true) ∧ (
 W.faddr 2 (slotOf [2, 3, 6] vs_115 2) fun t62_122 =>
 W.calm [] ⟨1, (blocksOf t62_122), [], [], false, []⟩ (
 W.load false 1 t62_122 L_117 fun t63_123 =>
 W.note ⟨(blocksOf t62_122), [], [], []⟩ fun r_124 =>
 W.calm [] ⟨3, (slOf t63_123), [], [], false, []⟩ (
 W.idx 1 t63_123 (slotOf [2, 3, 6] vs_115 6) L_117 fun t65_125 =>
 W.note ⟨(slOf t63_123), [], [], []⟩ fun r_126 =>
 W.calm [] ⟨4, (blocksOf t65_125), [], [], false, []⟩ (
 W.load false 1 t65_125 L_117 fun t66_127 =>
 W.note ⟨(blocksOf t65_125), [], [], []⟩ fun r_128 =>
 W.faddr 2 (slotOf [2, 3, 6] vs_115 3) fun t67_129 =>
 W.calm [⟨4, r_128.reads, r_128.writes, r_128.made, false, r_128.old⟩, ⟨3, r_126.reads, r_126.writes, r_126.made, false, r_126.old⟩, ⟨1, r_124.reads, r_124.writes, r_124.made, false, r_124.old⟩] ⟨6, (blocksOf t67_129), [], [], false, []⟩ (
 W.load false 1 t67_129 L_117 fun t68_130 =>
 W.note ⟨(blocksOf t67_129), [], [], []⟩ fun r_131 =>
 W.calm [⟨4, r_128.reads, r_128.writes, r_128.made, false, r_128.old⟩, ⟨3, r_126.reads, r_126.writes, r_126.made, false, r_126.old⟩, ⟨1, r_124.reads, r_124.writes, r_124.made, false, r_124.old⟩] ⟨8, (slOf t68_130), [], [], false, []⟩ (
 W.idx 1 t68_130 (slotOf [2, 3, 6] vs_115 6) L_117 fun t70_132 =>
 W.note ⟨(slOf t68_130), [], [], []⟩ fun r_133 =>
 W.calm [⟨4, r_128.reads, r_128.writes, r_128.made, false, r_128.old⟩, ⟨3, r_126.reads, r_126.writes, r_126.made, false, r_126.old⟩, ⟨1, r_124.reads, r_124.writes, r_124.made, false, r_124.old⟩] ⟨9, (blocksOf t70_132), [], [], false, []⟩ (
 W.load false 1 t70_132 L_117 fun t71_134 =>
 W.note ⟨(blocksOf t70_132), [], [], []⟩ fun r_135 =>
 W.dcall Try.prog [] 10 (.fn 34 []) [t66_127, t71_134] L_117 (ref07_SameThread_d0 L_117 Q vs_115 nx_116))))))))
def ref07_SameThread_l1 (Q : AV → SH → Prop) (vs_115 : List AV) (L_117 : SH) (nx_116 : W.Kn) : Prop :=
 W.faddr 2 (slotOf [2, 3, 6] vs_115 2) fun t56_118 =>
 W.load false 1 t56_118 L_117 fun t57_119 =>
 W.len t57_119 fun t58_120 =>
 W.bin Try.prog Fl .lss 3 (slotOf [2, 3, 6] vs_115 6) t58_120 fun t59_121 =>
 W.cond t59_121 (
 (ref07_SameThread_zt2 vs_115 L_117 Q nx_116)) (
 Q (.bool true) L_117)
def ref07_SameThread_l2 (Q : AV → SH → Prop) (vs_92 : List AV) (L_94 : SH) (nx_93 : W.Kn) : Prop :=
 W.faddr 1 (slotOf [2, 3, 5] vs_92 2) fun t38_95 =>
 W.load false 1 t38_95 L_94 fun t39_96 =>
 W.len t39_96 fun t40_97 =>
 W.bin Try.prog Fl .lss 3 (slotOf [2, 3, 5] vs_92 5) t40_97 fun t41_98 =>
 W.cond t41_98 (
 (ref07_SameThread_zt0 vs_92 L_94 Q nx_93)) (
 W.loop (ref07_SameThread_l1 Q) [(slotOf [2, 3, 5] vs_92 2), (slotOf [2, 3, 5] vs_92 3), (.int .i64 0)] L_94)
def ref07_SameThread_w (t0 t1 : AV) (L : SH) (Q : AV → SH → Prop) : Prop :=
 W.box t0 L fun t2_0 L_1 =>
 W.box t1 L_1 fun t3_2 L_3 =>
 W.frz1 t2_0 L_3 fun t2_4 L_5 =>
 W.frz1 t3_2 L_5 fun t3_6 L_7 =>
 W.faddr 0 t2_4 fun t7_8 =>
 W.load false 1 t7_8 L_7 fun t8_9 =>
 W.faddr 0 t3_6 fun t9_10 =>
 W.load false 1 t9_10 L_7 fun t10_11 =>
 W.bin Try.prog Fl .neq 3 t8_9 t10_11 fun t11_12 =>
 W.grd t11_12 false (fun k_14 => W.faddr 3 t2_4 fun v_16 =>
 k_14 v_16 L_7) L_7 fun t13_13 L_15 =>
 W.grd t11_12 false (fun k_18 => W.load false 1 t13_13 L_15 fun v_20 =>
 k_18 v_20 L_15) L_15 fun t14_17 L_19 =>
 W.grd t11_12 false (fun k_22 => W.faddr 3 t3_6 fun v_24 =>
 k_22 v_24 L_19) L_19 fun t15_21 L_23 =>
 W.grd t11_12 false (fun k_26 => W.load false 1 t15_21 L_23 fun v_28 =>
 k_26 v_28 L_23) L_23 fun t16_25 L_27 =>
 W.grd t11_12 false (fun k_30 => W.bin Try.prog Fl .neq 3 t14_17 t16_25 fun v_32 =>
 k_30 v_32 L_27) L_27 fun t17_29 L_31 =>
 W.pick t11_12 (.bool true) t17_29 fun t18_33 =>
 W.grd t18_33 false (fun k_35 => W.faddr 1 t2_4 fun v_37 =>
 k_35 v_37 L_31) L_31 fun t20_34 L_36 =>
 W.grd t18_33 false (fun k_39 => W.load false 1 t20_34 L_36 fun v_41 =>
 k_39 v_41 L_36) L_36 fun t21_38 L_40 =>
 W.grd t18_33 false (fun k_43 => W.len t21_38 fun v_45 =>
 k_43 v_45 L_40) L_40 fun t22_42 L_44 =>
 W.grd t18_33 false (fun k_47 => W.faddr 1 t3_6 fun v_49 =>
 k_47 v_49 L_44) L_44 fun t23_46 L_48 =>
 W.grd t18_33 false (fun k_51 => W.load false 1 t23_46 L_48 fun v_53 =>
 k_51 v_53 L_48) L_48 fun t24_50 L_52 =>
 W.grd t18_33 false (fun k_55 => W.len t24_50 fun v_57 =>
 k_55 v_57 L_52) L_52 fun t25_54 L_56 =>
 W.grd t18_33 false (fun k_59 => W.bin Try.prog Fl .neq 3 t22_42 t25_54 fun v_61 =>
 k_59 v_61 L_56) L_56 fun t26_58 L_60 =>
 W.pick t18_33 (.bool true) t26_58 fun t27_62 =>
 W.grd t27_62 false (fun k_64 => W.faddr 2 t2_4 fun v_66 =>
 k_64 v_66 L_60) L_60 fun t29_63 L_65 =>
 W.grd t27_62 false (fun k_68 => W.load false 1 t29_63 L_65 fun v_70 =>
 k_68 v_70 L_65) L_65 fun t30_67 L_69 =>
 W.grd t27_62 false (fun k_72 => W.len t30_67 fun v_74 =>
 k_72 v_74 L_69) L_69 fun t31_71 L_73 =>
 W.grd t27_62 false (fun k_76 => W.faddr 2 t3_6 fun v_78 =>
 k_76 v_78 L_73) L_73 fun t32_75 L_77 =>
 W.grd t27_62 false (fun k_80 => W.load false 1 t32_75 L_77 fun v_82 =>
 k_80 v_82 L_77) L_77 fun t33_79 L_81 =>
 W.grd t27_62 false (fun k_84 => W.len t33_79 fun v_86 =>
 k_84 v_86 L_81) L_81 fun t34_83 L_85 =>
 W.grd t27_62 false (fun k_88 => W.bin Try.prog Fl .neq 3 t31_71 t34_83 fun v_90 =>
 k_88 v_90 L_85) L_85 fun t35_87 L_89 =>
 W.pick t27_62 (.bool true) t35_87 fun t36_91 =>
 W.cond t36_91 (
 Q (.bool false) L_89) (
 W.loop (ref07_SameThread_l2 Q) [t2_4, t3_6, (.int .i64 0)] L_89)
theorem ref07_SameThread_e (t0 t1 : AV) (L : SH) (Q : AV → SH → Prop) : W.func Try.prog Fl ref07_SameThread_t Try.f18 (Try.f18.body.getD .skip) [t0, t1] L Q = ref07_SameThread_w t0 t1 L Q := by kernel_rfl
theorem ref07_SameThread_ok (t0 t1 : AV) (L : SH) (Q : AV → SH → Prop) (h : ref07_SameThread_w t0 t1 L Q) : CallA Try.prog 18 [t0, t1] L Q :=
  func_sound (ht := ref07_SameThread_t) fit Try.func18 (show Try.f18.body = some (Try.f18.body.getD .skip) by kernel_rfl) (Eq.mpr (ref07_SameThread_e t0 t1 L Q) h)

def silent_clone_t : Hints := ⟨fun k => none, fun k => if k = 4 then [1, 2, 3, 15, 16, 17] else [], fun k => [], fun k => []⟩
def silent_clone_c0 (vs_18 : List AV) (nx_19 : W.Kn) (t25_24 : AV) (L_25 : SH) : Prop :=
 W.idx 1 (slotOf [1, 2, 3, 15, 16, 17] vs_18 3) (slotOf [1, 2, 3, 15, 16, 17] vs_18 17) L_25 fun t26_26 =>
 W.store 1 t26_26 t25_24 L_25 fun L_27 =>
 W.bin Try.prog Fl .add 3 (slotOf [1, 2, 3, 15, 16, 17] vs_18 17) (.int .i64 1) fun t27_28 =>
 nx_19 [(slotOf [1, 2, 3, 15, 16, 17] vs_18 1), (slotOf [1, 2, 3, 15, 16, 17] vs_18 2), (slotOf [1, 2, 3, 15, 16, 17] vs_18 3), (slotOf [1, 2, 3, 15, 16, 17] vs_18 15), (slotOf [1, 2, 3, 15, 16, 17] vs_18 16), t27_28] L_27
def silent_clone_zt0 (vs_18 : List AV) (L_20 : SH) (nx_19 : W.Kn)  : Prop :=
 W.idx 1 (slotOf [1, 2, 3, 15, 16, 17] vs_18 15) (slotOf [1, 2, 3, 15, 16, 17] vs_18 17) L_20 fun t20_22 =>
 W.load false 1 t20_22 L_20 fun t21_23 =>
 W.call Try.prog (.fn 68 []) [t21_23] L_20 (silent_clone_c0 vs_18 nx_19)
def silent_clone_zt1 (vs_18 : List AV) (L_20 : SH) (Q : AV → SH → Prop)  : Prop :=
 W.faddr 2 (slotOf [1, 2, 3, 15, 16, 17] vs_18 1) fun t29_29 =>
 W.store 1 t29_29 (slotOf [1, 2, 3, 15, 16, 17] vs_18 3) L_20 fun L_30 =>
 W.load true 4 (slotOf [1, 2, 3, 15, 16, 17] vs_18 1) L_30 fun t30_31 =>
 W.store 4 (slotOf [1, 2, 3, 15, 16, 17] vs_18 2) t30_31 L_30 fun L_32 =>
 W.load true 4 (slotOf [1, 2, 3, 15, 16, 17] vs_18 2) L_32 fun r_33 =>
 Q r_33 L_32
def silent_clone_l1 (Q : AV → SH → Prop) (vs_18 : List AV) (L_20 : SH) (nx_19 : W.Kn) : Prop :=
 W.bin Try.prog Fl .lss 3 (slotOf [1, 2, 3, 15, 16, 17] vs_18 17) (slotOf [1, 2, 3, 15, 16, 17] vs_18 16) fun t18_21 =>
 W.cond t18_21 (
 (silent_clone_zt0 vs_18 L_20 nx_19)) (
 (silent_clone_zt1 vs_18 L_20 Q))
def silent_clone_c2 (t1_0 : AV) (Q : AV → SH → Prop) (t2_2 : AV) (t8_6 : AV) (L_7 : SH) : Prop :=
 W.faddr 1 t1_0 fun t9_8 =>
 W.store 1 t9_8 t8_6 L_7 fun L_9 =>
 W.faddr 2 t1_0 fun t10_10 =>
 W.load false 1 t10_10 L_9 fun t11_11 =>
 W.len t11_11 fun t12_12 =>
 W.mslice 1 24 [.nils] t12_12 t12_12 L_9 fun t13_13 L_14 =>
 W.faddr 2 t1_0 fun t14_15 =>
 W.load false 1 t14_15 L_14 fun t15_16 =>
 W.len t15_16 fun t16_17 =>
 W.loop (silent_clone_l1 Q) [t1_0, t2_2, t13_13, t15_16, t16_17, (.int .i64 0)] L_14
def silent_clone_w (t0 : AV) (L : SH) (Q : AV → SH → Prop) : Prop :=
 W.box t0 L fun t1_0 L_1 =>
 W.alloc [(.int .i64 0), .nils, .nils, (.int .i64 0)] L_1 fun t2_2 L_3 =>
 W.faddr 1 t1_0 fun t6_4 =>
 W.load false 1 t6_4 L_3 fun t7_5 =>
 W.call Try.prog (.fn 67 []) [t7_5] L_3 (silent_clone_c2 t1_0 Q t2_2)
theorem silent_clone_e (t0 : AV) (L : SH) (Q : AV → SH → Prop) : W.func Try.prog Fl silent_clone_t Try.f42 (Try.f42.body.getD .skip) [t0] L Q = silent_clone_w t0 L Q := by kernel_rfl
theorem silent_clone_ok (t0 : AV) (L : SH) (Q : AV → SH → Prop) (h : silent_clone_w t0 L Q) : CallA Try.prog 42 [t0] L Q :=
  func_sound (ht := silent_clone_t) fit Try.func42 (show Try.f42.body = some (Try.f42.body.getD .skip) by kernel_rfl) (Eq.mpr (silent_clone_e t0 L Q) h)

def silent_execute_t : Hints := ⟨fun k => if k = 24 then some [2, 4, 6] else none, fun k => [], fun k => if k = 0 then [2, 3] else [], fun k => if k = 7 then [0, 1, 3, 7, 0, 16, 0, 64, 192, 448, 0, 1024, 0, 4096, 13311, 29695, 65535, 131071] else if k = 11 then [0, 1, 3, 7, 0, 16, 0, 64, 192, 448, 0, 1024, 0, 4096, 12288, 28672, 0, 65536, 258048, 520192, 0, 1048576, 3145728, 7340032, 0, 16777216, 66060288, 133169152, 267386880, 536867839, 1073738751, 2147483647, 4294967295] else if k = 15 then [0, 1, 3, 7, 0, 16, 0, 64, 0, 256, 768, 1792, 0, 4096, 16128, 32512, 65472, 131008, 262080, 262080, 524287, 1572863, 4194303] else if k = 16 then [0, 1, 3, 7, 0, 16, 0, 64, 192, 448, 0, 1024, 4032, 8128, 16320, 32767, 65535] else if k = 20 then [0, 1, 3, 7, 0, 16, 0, 64, 0, 256, 768, 1792, 0, 4096, 16128, 32512, 0, 65536, 196608, 458752, 0, 1048576, 4128768, 8323072, 16777152, 33554368, 67108800, 67108800, 134217727, 402653183, 1073741823] else if k = 21 then [0, 1, 3, 7, 0, 16, 0, 64, 192, 448, 0, 1024, 4032, 8128, 0, 16384, 49152, 114688, 0, 262144, 1032192, 2080768, 4194240, 8388607, 16777215] else []⟩
def silent_execute_j0 (Q : AV → SH → Prop) (vs_8 : List AV) (L_10 : SH) : Prop :=
 W.load false 1 (slotOf [2, 4, 6] vs_8 2) L_10 fun t210_11 =>
 W.nilchk t210_11 fun t211_12 =>
 W.faddr 0 t211_12 fun t212_13 =>
 W.load false 1 t212_13 L_10 fun t213_14 =>
 W.bin Try.prog Fl .add 3 t213_14 (.int .i64 1) fun t214_15 =>
 W.nilchk t210_11 fun t215_16 =>
 W.faddr 0 t215_16 fun t216_17 =>
 W.store 1 t216_17 t214_15 L_10 fun L_18 =>
 Q (slotOf [2, 4, 6] vs_8 6) L_18
def silent_execute_zt0 (t2_4 : AV) (L_25 : SH) (t3_6 : AV) (j_9 : W.Kn)  : Prop :=
 (true = true) ∧ (
 W.calm [] ⟨0, (blocksOf t2_4), [], [], false, []⟩ (
 W.load false 1 t2_4 L_25 fun t17_27 =>
 W.note ⟨(blocksOf t2_4), [], [], []⟩ fun r_28 =>
 W.nilchk t17_27 fun t18_29 =>
 W.faddr 1 t18_29 fun t19_30 =>
 W.calm [] ⟨3, (blocksOf t19_30), [], [], false, []⟩ (
 W.load false 1 t19_30 L_25 fun t20_31 =>
 W.note ⟨(blocksOf t19_30), [], [], []⟩ fun r_32 =>
 W.faddr 1 t3_6 fun t21_33 =>
 W.calm [⟨3, r_32.reads, r_32.writes, r_32.made, false, r_32.old⟩, ⟨0, r_28.reads, r_28.writes, r_28.made, false, r_28.old⟩] ⟨5, (blocksOf t21_33), [], [], false, []⟩ (
 W.load false 1 t21_33 L_25 fun t22_34 =>
 W.note ⟨(blocksOf t21_33), [], [], []⟩ fun r_35 =>
 W.calm [⟨5, r_35.reads, r_35.writes, r_35.made, false, r_35.old⟩, ⟨3, r_32.reads, r_32.writes, r_32.made, false, r_32.old⟩, ⟨0, r_28.reads, r_28.writes, r_28.made, false, r_28.old⟩] ⟨6, (blocksOf t2_4), [], [], false, []⟩ (
 W.load false 1 t2_4 L_25 fun t23_36 =>
 W.note ⟨(blocksOf t2_4), [], [], []⟩ fun r_37 =>
 W.nilchk t23_36 fun t24_38 =>
 W.faddr 2 t24_38 fun t25_39 =>
 W.calm [⟨5, r_35.reads, r_35.writes, r_35.made, false, r_35.old⟩, ⟨3, r_32.reads, r_32.writes, r_32.made, false, r_32.old⟩, ⟨0, r_28.reads, r_28.writes, r_28.made, false, r_28.old⟩] ⟨9, (blocksOf t25_39), [], [], false, []⟩ (
 W.load false 1 t25_39 L_25 fun t26_40 =>
 W.note ⟨(blocksOf t25_39), [], [], []⟩ fun r_41 =>
 W.faddr 1 t3_6 fun t27_42 =>
 W.calm [⟨9, r_41.reads, r_41.writes, r_41.made, false, r_41.old⟩, ⟨6, r_37.reads, r_37.writes, r_37.made, false, r_37.old⟩, ⟨5, r_35.reads, r_35.writes, r_35.made, false, r_35.old⟩, ⟨3, r_32.reads, r_32.writes, r_32.made, false, r_32.old⟩, ⟨0, r_28.reads, r_28.writes, r_28.made, false, r_28.old⟩] ⟨11, (blocksOf t27_42), [], [], false, []⟩ (
 W.load false 1 t27_42 L_25 fun t28_43 =>
 W.note ⟨(blocksOf t27_42), [], [], []⟩ fun r_44 =>
 W.faddr 4 t3_6 fun t29_45 =>
 W.calm [⟨11, r_44.reads, r_44.writes, r_44.made, false, r_44.old⟩, ⟨9, r_41.reads, r_41.writes, r_41.made, false, r_41.old⟩, ⟨6, r_37.reads, r_37.writes, r_37.made, false, r_37.old⟩, ⟨5, r_35.reads, r_35.writes, r_35.made, false, r_35.old⟩, ⟨3, r_32.reads, r_32.writes, r_32.made, false, r_32.old⟩, ⟨0, r_28.reads, r_28.writes, r_28.made, false, r_28.old⟩] ⟨13, (blocksOf t29_45), [], [], false, []⟩ (
 W.load false 1 t29_45 L_25 fun t30_46 =>
 W.note ⟨(blocksOf t29_45), [], [], []⟩ fun r_47 =>
 W.calm [⟨11, r_44.reads, r_44.writes, r_44.made, false, r_44.old⟩] ⟨14, (slOf t20_31), [], [], false, []⟩ (
 W.idx 1 t20_31 t22_34 L_25 fun t31_48 =>
 W.note ⟨(slOf t20_31), [], [], []⟩ fun r_49 =>
 W.calm [⟨11, r_44.reads, r_44.writes, r_44.made, false, r_44.old⟩] ⟨15, (blocksOf t31_48), (blocksOf t31_48), [], false, []⟩ (
 W.store 1 t31_48 t30_46 L_25 fun L_50 =>
 W.note ⟨(blocksOf t31_48), (blocksOf t31_48), [], []⟩ fun r_51 =>
 W.calm [] ⟨16, (slOf t26_40), [], [], false, []⟩ (
 W.idx 1 t26_40 t28_43 L_50 fun t32_52 =>
 W.note ⟨(slOf t26_40), [], [], []⟩ fun r_53 =>
 W.calm [] ⟨17, (blocksOf t32_52), (blocksOf t32_52), [], false, []⟩ (
 W.store 1 t32_52 .nils L_50 fun L_54 =>
 W.note ⟨(blocksOf t32_52), (blocksOf t32_52), [], []⟩ fun r_55 =>
 j_9 [t2_4, (.bool false), (.bool true)] L_54))))))))))))
def silent_execute_c1 (Q : AV → SH → Prop) (t2_4 : AV) (t3_6 : AV) (j_9 : W.Kn) (t15_24 : AV) (L_25 : SH) : Prop :=
 W.un .not t15_24 fun t16_26 =>
 W.cond t16_26 (
 Q (.bool false) L_25) (
 (silent_execute_zt0 t2_4 L_25 t3_6 j_9))
def silent_execute_d2 (L_80 : SH) (r_100 : W.Fp) (t50_87 : AV) (t52_90 : AV) (t66_112 : AV) (t56_96 : AV) (t58_99 : AV) (j_9 : W.Kn) (t2_4 : AV) (t75_127 : AV) (L_129 : SH) (ks_128 : List Nat) : Prop :=
 W.note ⟨[], ks_128, [], L_80.names⟩ fun r_130 =>
 W.calm [⟨11, r_100.reads, r_100.writes, r_100.made, false, r_100.old⟩] ⟨29, (slOf t50_87), [], [], false, []⟩ (
 W.idx 1 t50_87 t52_90 L_129 fun t76_131 =>
 W.note ⟨(slOf t50_87), [], [], []⟩ fun r_132 =>
 W.calm [⟨11, r_100.reads, r_100.writes, r_100.made, false, r_100.old⟩] ⟨30, (blocksOf t76_131), (blocksOf t76_131), [], false, []⟩ (
 W.store 1 t76_131 t66_112 L_129 fun L_133 =>
 W.note ⟨(blocksOf t76_131), (blocksOf t76_131), [], []⟩ fun r_134 =>
 W.calm [] ⟨31, (slOf t56_96), [], [], false, []⟩ (
 W.idx 1 t56_96 t58_99 L_133 fun t77_135 =>
 W.note ⟨(slOf t56_96), [], [], []⟩ fun r_136 =>
 W.calm [] ⟨32, (blocksOf t77_135), (blocksOf t77_135), [], false, []⟩ (
 W.store 1 t77_135 t75_127 L_133 fun L_137 =>
 W.note ⟨(blocksOf t77_135), (blocksOf t77_135), [], []⟩ fun r_138 =>
 j_9 [t2_4, (.bool false), (.bool true)] L_137))))
def silent_execute_zt1 (t2_4 : AV) (L_80 : SH) (t3_6 : AV) (j_9 : W.Kn)  : Prop :=
 (true = true) ∧ (
 W.calm [] ⟨0, (blocksOf t2_4), [], [], false, []⟩ (
 W.load false 1 t2_4 L_80 fun t47_83 =>
 W.note ⟨(blocksOf t2_4), [], [], []⟩ fun r_84 =>
 W.nilchk t47_83 fun t48_85 =>
 W.faddr 1 t48_85 fun t49_86 =>
 W.calm [] ⟨3, (blocksOf t49_86), [], [], false, []⟩ (
 W.load false 1 t49_86 L_80 fun t50_87 =>
 W.note ⟨(blocksOf t49_86), [], [], []⟩ fun r_88 =>
 W.faddr 1 t3_6 fun t51_89 =>
 W.calm [⟨3, r_88.reads, r_88.writes, r_88.made, false, r_88.old⟩, ⟨0, r_84.reads, r_84.writes, r_84.made, false, r_84.old⟩] ⟨5, (blocksOf t51_89), [], [], false, []⟩ (
 W.load false 1 t51_89 L_80 fun t52_90 =>
 W.note ⟨(blocksOf t51_89), [], [], []⟩ fun r_91 =>
 W.calm [⟨5, r_91.reads, r_91.writes, r_91.made, false, r_91.old⟩, ⟨3, r_88.reads, r_88.writes, r_88.made, false, r_88.old⟩, ⟨0, r_84.reads, r_84.writes, r_84.made, false, r_84.old⟩] ⟨6, (blocksOf t2_4), [], [], false, []⟩ (
 W.load false 1 t2_4 L_80 fun t53_92 =>
 W.note ⟨(blocksOf t2_4), [], [], []⟩ fun r_93 =>
 W.nilchk t53_92 fun t54_94 =>
 W.faddr 2 t54_94 fun t55_95 =>
 W.calm [⟨5, r_91.reads, r_91.writes, r_91.made, false, r_91.old⟩, ⟨3, r_88.reads, r_88.writes, r_88.made, false, r_88.old⟩, ⟨0, r_84.reads, r_84.writes, r_84.made, false, r_84.old⟩] ⟨9, (blocksOf t55_95), [], [], false, []⟩ (
 W.load false 1 t55_95 L_80 fun t56_96 =>
 W.note ⟨(blocksOf t55_95), [], [], []⟩ fun r_97 =>
 W.faddr 1 t3_6 fun t57_98 =>
 W.calm [⟨9, r_97.reads, r_97.writes, r_97.made, false, r_97.old⟩, ⟨6, r_93.reads, r_93.writes, r_93.made, false, r_93.old⟩, ⟨5, r_91.reads, r_91.writes, r_91.made, false, r_91.old⟩, ⟨3, r_88.reads, r_88.writes, r_88.made, false, r_88.old⟩, ⟨0, r_84.reads, r_84.writes, r_84.made, false, r_84.old⟩] ⟨11, (blocksOf t57_98), [], [], false, []⟩ (
 W.load false 1 t57_98 L_80 fun t58_99 =>
 W.note ⟨(blocksOf t57_98), [], [], []⟩ fun r_100 =>
 W.calm [⟨11, r_100.reads, r_100.writes, r_100.made, false, r_100.old⟩, ⟨9, r_97.reads, r_97.writes, r_97.made, false, r_97.old⟩, ⟨6, r_93.reads, r_93.writes, r_93.made, false, r_93.old⟩, ⟨5, r_91.reads, r_91.writes, r_91.made, false, r_91.old⟩, ⟨3, r_88.reads, r_88.writes, r_88.made, false, r_88.old⟩, ⟨0, r_84.reads, r_84.writes, r_84.made, false, r_84.old⟩] ⟨12, (blocksOf t2_4), [], [], false, []⟩ (
 W.load false 1 t2_4 L_80 fun t59_101 =>
 W.note ⟨(blocksOf t2_4), [], [], []⟩ fun r_102 =>
 W.nilchk t59_101 fun t60_103 =>
 W.faddr 1 t60_103 fun t61_104 =>
 W.calm [⟨11, r_100.reads, r_100.writes, r_100.made, false, r_100.old⟩, ⟨9, r_97.reads, r_97.writes, r_97.made, false, r_97.old⟩, ⟨6, r_93.reads, r_93.writes, r_93.made, false, r_93.old⟩, ⟨5, r_91.reads, r_91.writes, r_91.made, false, r_91.old⟩, ⟨3, r_88.reads, r_88.writes, r_88.made, false, r_88.old⟩, ⟨0, r_84.reads, r_84.writes, r_84.made, false, r_84.old⟩] ⟨15, (blocksOf t61_104), [], [], false, []⟩ (
 W.load false 1 t61_104 L_80 fun t62_105 =>
 W.note ⟨(blocksOf t61_104), [], [], []⟩ fun r_106 =>
 W.faddr 2 t3_6 fun t63_107 =>
 W.calm [⟨15, r_106.reads, r_106.writes, r_106.made, false, r_106.old⟩, ⟨12, r_102.reads, r_102.writes, r_102.made, false, r_102.old⟩, ⟨11, r_100.reads, r_100.writes, r_100.made, false, r_100.old⟩, ⟨9, r_97.reads, r_97.writes, r_97.made, false, r_97.old⟩, ⟨6, r_93.reads, r_93.writes, r_93.made, false, r_93.old⟩, ⟨5, r_91.reads, r_91.writes, r_91.made, false, r_91.old⟩, ⟨3, r_88.reads, r_88.writes, r_88.made, false, r_88.old⟩, ⟨0, r_84.reads, r_84.writes, r_84.made, false, r_84.old⟩] ⟨17, (blocksOf t63_107), [], [], false, []⟩ (
 W.load false 1 t63_107 L_80 fun t64_108 =>
 W.note ⟨(blocksOf t63_107), [], [], []⟩ fun r_109 =>
 W.calm [⟨11, r_100.reads, r_100.writes, r_100.made, false, r_100.old⟩, ⟨9, r_97.reads, r_97.writes, r_97.made, false, r_97.old⟩, ⟨6, r_93.reads, r_93.writes, r_93.made, false, r_93.old⟩, ⟨5, r_91.reads, r_91.writes, r_91.made, false, r_91.old⟩, ⟨3, r_88.reads, r_88.writes, r_88.made, false, r_88.old⟩, ⟨0, r_84.reads, r_84.writes, r_84.made, false, r_84.old⟩] ⟨18, (slOf t62_105), [], [], false, []⟩ (
 W.idx 1 t62_105 t64_108 L_80 fun t65_110 =>
 W.note ⟨(slOf t62_105), [], [], []⟩ fun r_111 =>
 W.calm [⟨11, r_100.reads, r_100.writes, r_100.made, false, r_100.old⟩, ⟨9, r_97.reads, r_97.writes, r_97.made, false, r_97.old⟩, ⟨6, r_93.reads, r_93.writes, r_93.made, false, r_93.old⟩, ⟨5, r_91.reads, r_91.writes, r_91.made, false, r_91.old⟩, ⟨3, r_88.reads, r_88.writes, r_88.made, false, r_88.old⟩, ⟨0, r_84.reads, r_84.writes, r_84.made, false, r_84.old⟩] ⟨19, (blocksOf t65_110), [], [], false, []⟩ (
 W.load false 1 t65_110 L_80 fun t66_112 =>
 W.note ⟨(blocksOf t65_110), [], [], []⟩ fun r_113 =>
 W.calm [⟨19, r_113.reads, r_113.writes, r_113.made, false, r_113.old⟩, ⟨18, r_111.reads, r_111.writes, r_111.made, false, r_111.old⟩, ⟨17, r_109.reads, r_109.writes, r_109.made, false, r_109.old⟩, ⟨15, r_106.reads, r_106.writes, r_106.made, false, r_106.old⟩, ⟨12, r_102.reads, r_102.writes, r_102.made, false, r_102.old⟩, ⟨11, r_100.reads, r_100.writes, r_100.made, false, r_100.old⟩, ⟨9, r_97.reads, r_97.writes, r_97.made, false, r_97.old⟩, ⟨6, r_93.reads, r_93.writes, r_93.made, false, r_93.old⟩, ⟨5, r_91.reads, r_91.writes, r_91.made, false, r_91.old⟩, ⟨3, r_88.reads, r_88.writes, r_88.made, false, r_88.old⟩, ⟨0, r_84.reads, r_84.writes, r_84.made, false, r_84.old⟩] ⟨20, (blocksOf t2_4), [], [], false, []⟩ (
 W.load false 1 t2_4 L_80 fun t67_114 =>
 W.note ⟨(blocksOf t2_4), [], [], []⟩ fun r_115 =>
 W.nilchk t67_114 fun t68_116 =>
 W.faddr 2 t68_116 fun t69_117 =>
 W.calm [⟨19, r_113.reads, r_113.writes, r_113.made, false, r_113.old⟩, ⟨18, r_111.reads, r_111.writes, r_111.made, false, r_111.old⟩, ⟨17, r_109.reads, r_109.writes, r_109.made, false, r_109.old⟩, ⟨15, r_106.reads, r_106.writes, r_106.made, false, r_106.old⟩, ⟨12, r_102.reads, r_102.writes, r_102.made, false, r_102.old⟩, ⟨11, r_100.reads, r_100.writes, r_100.made, false, r_100.old⟩, ⟨9, r_97.reads, r_97.writes, r_97.made, false, r_97.old⟩, ⟨6, r_93.reads, r_93.writes, r_93.made, false, r_93.old⟩, ⟨5, r_91.reads, r_91.writes, r_91.made, false, r_91.old⟩, ⟨3, r_88.reads, r_88.writes, r_88.made, false, r_88.old⟩, ⟨0, r_84.reads, r_84.writes, r_84.made, false, r_84.old⟩] ⟨23, (blocksOf t69_117), [], [], false, []⟩ (
 W.load false 1 t69_117 L_80 fun t70_118 =>
 W.note ⟨(blocksOf t69_117), [], [], []⟩ fun r_119 =>
 W.faddr 2 t3_6 fun t71_120 =>
 W.calm [⟨23, r_119.reads, r_119.writes, r_119.made, false, r_119.old⟩, ⟨20, r_115.reads, r_115.writes, r_115.made, false, r_115.old⟩, ⟨19, r_113.reads, r_113.writes, r_113.made, false, r_113.old⟩, ⟨18, r_111.reads, r_111.writes, r_111.made, false, r_111.old⟩, ⟨17, r_109.reads, r_109.writes, r_109.made, false, r_109.old⟩, ⟨15, r_106.reads, r_106.writes, r_106.made, false, r_106.old⟩, ⟨12, r_102.reads, r_102.writes, r_102.made, false, r_102.old⟩, ⟨11, r_100.reads, r_100.writes, r_100.made, false, r_100.old⟩, ⟨9, r_97.reads, r_97.writes, r_97.made, false, r_97.old⟩, ⟨6, r_93.reads, r_93.writes, r_93.made, false, r_93.old⟩, ⟨5, r_91.reads, r_91.writes, r_91.made, false, r_91.old⟩, ⟨3, r_88.reads, r_88.writes, r_88.made, false, r_88.old⟩, ⟨0, r_84.reads, r_84.writes, r_84.made, false, r_84.old⟩] ⟨25, (blocksOf t71_120), [], [], false, []⟩ (
 W.load false 1 t71_120 L_80 fun t72_121 =>
 W.note ⟨(blocksOf t71_120), [], [], []⟩ fun r_122 =>
 W.calm [⟨19, r_113.reads, r_113.writes, r_113.made, false, r_113.old⟩, ⟨18, r_111.reads, r_111.writes, r_111.made, false, r_111.old⟩, ⟨17, r_109.reads, r_109.writes, r_109.made, false, r_109.old⟩, ⟨15, r_106.reads, r_106.writes, r_106.made, false, r_106.old⟩, ⟨12, r_102.reads, r_102.writes, r_102.made, false, r_102.old⟩, ⟨11, r_100.reads, r_100.writes, r_100.made, false, r_100.old⟩, ⟨9, r_97.reads, r_97.writes, r_97.made, false, r_97.old⟩, ⟨6, r_93.reads, r_93.writes, r_93.made, false, r_93.old⟩, ⟨5, r_91.reads, r_91.writes, r_91.made, false, r_91.old⟩, ⟨3, r_88.reads, r_88.writes, r_88.made, false, r_88.old⟩, ⟨0, r_84.reads, r_84.writes, r_84.made, false, r_84.old⟩] ⟨26, (slOf t70_118), [], [], false, []⟩ (
 W.idx 1 t70_118 t72_121 L_80 fun t73_123 =>
 W.note ⟨(slOf t70_118), [], [], []⟩ fun r_124 =>
 W.calm [⟨19, r_113.reads, r_113.writes, r_113.made, false, r_113.old⟩, ⟨18, r_111.reads, r_111.writes, r_111.made, false, r_111.old⟩, ⟨17, r_109.reads, r_109.writes, r_109.made, false, r_109.old⟩, ⟨15, r_106.reads, r_106.writes, r_106.made, false, r_106.old⟩, ⟨12, r_102.reads, r_102.writes, r_102.made, false, r_102.old⟩, ⟨11, r_100.reads, r_100.writes, r_100.made, false, r_100.old⟩, ⟨9, r_97.reads, r_97.writes, r_97.made, false, r_97.old⟩, ⟨6, r_93.reads, r_93.writes, r_93.made, false, r_93.old⟩, ⟨5, r_91.reads, r_91.writes, r_91.made, false, r_91.old⟩, ⟨3, r_88.reads, r_88.writes, r_88.made, false, r_88.old⟩, ⟨0, r_84.reads, r_84.writes, r_84.made, false, r_84.old⟩] ⟨27, (blocksOf t73_123), [], [], false, []⟩ (
 W.load false 1 t73_123 L_80 fun t74_125 =>
 W.note ⟨(blocksOf t73_123), [], [], []⟩ fun r_126 =>
 W.dcall Try.prog [⟨19, r_113.reads, r_113.writes, r_113.made, false, r_113.old⟩, ⟨18, r_111.reads, r_111.writes, r_111.made, false, r_111.old⟩, ⟨17, r_109.reads, r_109.writes, r_109.made, false, r_109.old⟩, ⟨15, r_106.reads, r_106.writes, r_106.made, false, r_106.old⟩, ⟨12, r_102.reads, r_102.writes, r_102.made, false, r_102.old⟩, ⟨11, r_100.reads, r_100.writes, r_100.made, false, r_100.old⟩, ⟨9, r_97.reads, r_97.writes, r_97.made, false, r_97.old⟩, ⟨6, r_93.reads, r_93.writes, r_93.made, false, r_93.old⟩, ⟨5, r_91.reads, r_91.writes, r_91.made, false, r_91.old⟩, ⟨3, r_88.reads, r_88.writes, r_88.made, false, r_88.old⟩, ⟨0, r_84.reads, r_84.writes, r_84.made, false, r_84.old⟩] 28 (.fn 68 []) [t74_125] L_80 (silent_execute_d2 L_80 r_100 t50_87 t52_90 t66_112 t56_96 t58_99 j_9 t2_4))))))))))))))))))
def silent_execute_c3 (t2_4 : AV) (t3_6 : AV) (Q : AV → SH → Prop) (j_9 : W.Kn) (t38_59 : AV) (L_60 : SH) : Prop :=
 W.un .not t38_59 fun t39_61 =>
 W.grd t39_61 false (fun k_63 => k_63 (.fn 69 [t2_4]) L_60) L_60 fun t41_62 L_64 =>
 W.grd t39_61 false (fun k_66 => W.faddr 2 t3_6 fun v_68 =>
 k_66 v_68 L_64) L_64 fun t42_65 L_67 =>
 W.grd t39_61 false (fun k_70 => W.load false 1 t42_65 L_67 fun v_72 =>
 k_70 v_72 L_67) L_67 fun t43_69 L_71 =>
 W.grd t39_61 false (fun k_74 => W.call Try.prog t41_62 [t43_69] L_71 fun v_76 L_77 =>
 k_74 v_76 L_77) L_71 fun t44_73 L_75 =>
 W.grd t39_61 false (fun k_79 => W.un .not t44_73 fun v_81 =>
 k_79 v_81 L_75) L_75 fun t45_78 L_80 =>
 W.pick t39_61 (.bool true) t45_78 fun t46_82 =>
 W.cond t46_82 (
 Q (.bool false) L_80) (
 (silent_execute_zt1 t2_4 L_80 t3_6 j_9))
def silent_execute_d4 (L_199 : SH) (t116_205 : AV) (t118_208 : AV) (j_9 : W.Kn) (t2_4 : AV) (t111_196 : AV) (t127_223 : AV) (L_225 : SH) (ks_224 : List Nat) : Prop :=
 W.note ⟨[], ks_224, [], L_199.names⟩ fun r_226 =>
 W.calm [] ⟨15, (slOf t116_205), [], [], false, []⟩ (
 W.idx 1 t116_205 t118_208 L_225 fun t128_227 =>
 W.note ⟨(slOf t116_205), [], [], []⟩ fun r_228 =>
 W.calm [] ⟨16, (blocksOf t128_227), (blocksOf t128_227), [], false, []⟩ (
 W.store 1 t128_227 t127_223 L_225 fun L_229 =>
 W.note ⟨(blocksOf t128_227), (blocksOf t128_227), [], []⟩ fun r_230 =>
 j_9 [t2_4, (.bool false), t111_196] L_229))
def silent_execute_d5 (L_163 : SH) (t96_170 : AV) (t98_173 : AV) (t2_4 : AV) (t3_6 : AV) (j_9 : W.Kn) (t109_191 : AV) (L_193 : SH) (ks_192 : List Nat) : Prop :=
 W.note ⟨[], ks_192, [], L_163.names⟩ fun r_194 =>
 W.ext 0 t109_191 fun t110_195 =>
 W.ext 1 t109_191 fun t111_196 =>
 W.calm [] ⟨20, (slOf t96_170), [], [], false, []⟩ (
 W.idx 1 t96_170 t98_173 L_193 fun t112_197 =>
 W.note ⟨(slOf t96_170), [], [], []⟩ fun r_198 =>
 W.calm [] ⟨21, (blocksOf t112_197), (blocksOf t112_197), [], false, []⟩ (
 W.store 1 t112_197 t110_195 L_193 fun L_199 =>
 W.note ⟨(blocksOf t112_197), (blocksOf t112_197), [], []⟩ fun r_200 =>
 (true = true) ∧ (
 W.calm [] ⟨0, (blocksOf t2_4), [], [], false, []⟩ (
 W.load false 1 t2_4 L_199 fun t113_201 =>
 W.note ⟨(blocksOf t2_4), [], [], []⟩ fun r_202 =>
 W.nilchk t113_201 fun t114_203 =>
 W.faddr 2 t114_203 fun t115_204 =>
 W.calm [] ⟨3, (blocksOf t115_204), [], [], false, []⟩ (
 W.load false 1 t115_204 L_199 fun t116_205 =>
 W.note ⟨(blocksOf t115_204), [], [], []⟩ fun r_206 =>
 W.faddr 1 t3_6 fun t117_207 =>
 W.calm [⟨3, r_206.reads, r_206.writes, r_206.made, false, r_206.old⟩, ⟨0, r_202.reads, r_202.writes, r_202.made, false, r_202.old⟩] ⟨5, (blocksOf t117_207), [], [], false, []⟩ (
 W.load false 1 t117_207 L_199 fun t118_208 =>
 W.note ⟨(blocksOf t117_207), [], [], []⟩ fun r_209 =>
 W.calm [⟨5, r_209.reads, r_209.writes, r_209.made, false, r_209.old⟩, ⟨3, r_206.reads, r_206.writes, r_206.made, false, r_206.old⟩, ⟨0, r_202.reads, r_202.writes, r_202.made, false, r_202.old⟩] ⟨6, (blocksOf t2_4), [], [], false, []⟩ (
 W.load false 1 t2_4 L_199 fun t119_210 =>
 W.note ⟨(blocksOf t2_4), [], [], []⟩ fun r_211 =>
 W.nilchk t119_210 fun t120_212 =>
 W.faddr 2 t120_212 fun t121_213 =>
 W.calm [⟨5, r_209.reads, r_209.writes, r_209.made, false, r_209.old⟩, ⟨3, r_206.reads, r_206.writes, r_206.made, false, r_206.old⟩, ⟨0, r_202.reads, r_202.writes, r_202.made, false, r_202.old⟩] ⟨9, (blocksOf t121_213), [], [], false, []⟩ (
 W.load false 1 t121_213 L_199 fun t122_214 =>
 W.note ⟨(blocksOf t121_213), [], [], []⟩ fun r_215 =>
 W.faddr 2 t3_6 fun t123_216 =>
 W.calm [⟨9, r_215.reads, r_215.writes, r_215.made, false, r_215.old⟩, ⟨6, r_211.reads, r_211.writes, r_211.made, false, r_211.old⟩, ⟨5, r_209.reads, r_209.writes, r_209.made, false, r_209.old⟩, ⟨3, r_206.reads, r_206.writes, r_206.made, false, r_206.old⟩, ⟨0, r_202.reads, r_202.writes, r_202.made, false, r_202.old⟩] ⟨11, (blocksOf t123_216), [], [], false, []⟩ (
 W.load false 1 t123_216 L_199 fun t124_217 =>
 W.note ⟨(blocksOf t123_216), [], [], []⟩ fun r_218 =>
 W.calm [⟨5, r_209.reads, r_209.writes, r_209.made, false, r_209.old⟩, ⟨3, r_206.reads, r_206.writes, r_206.made, false, r_206.old⟩, ⟨0, r_202.reads, r_202.writes, r_202.made, false, r_202.old⟩] ⟨12, (slOf t122_214), [], [], false, []⟩ (
 W.idx 1 t122_214 t124_217 L_199 fun t125_219 =>
 W.note ⟨(slOf t122_214), [], [], []⟩ fun r_220 =>
 W.calm [⟨5, r_209.reads, r_209.writes, r_209.made, false, r_209.old⟩, ⟨3, r_206.reads, r_206.writes, r_206.made, false, r_206.old⟩, ⟨0, r_202.reads, r_202.writes, r_202.made, false, r_202.old⟩] ⟨13, (blocksOf t125_219), [], [], false, []⟩ (
 W.load false 1 t125_219 L_199 fun t126_221 =>
 W.note ⟨(blocksOf t125_219), [], [], []⟩ fun r_222 =>
 W.dcall Try.prog [⟨5, r_209.reads, r_209.writes, r_209.made, false, r_209.old⟩, ⟨3, r_206.reads, r_206.writes, r_206.made, false, r_206.old⟩, ⟨0, r_202.reads, r_202.writes, r_202.made, false, r_202.old⟩] 14 (.fn 68 []) [t126_221] L_199 (silent_execute_d4 L_199 t116_205 t118_208 j_9 t2_4 t111_196))))))))))))
def silent_execute_zt2 (t2_4 : AV) (L_163 : SH) (t3_6 : AV) (j_9 : W.Kn)  : Prop :=
 (true = true) ∧ (
 W.calm [] ⟨0, (blocksOf t2_4), [], [], false, []⟩ (
 W.load false 1 t2_4 L_163 fun t93_166 =>
 W.note ⟨(blocksOf t2_4), [], [], []⟩ fun r_167 =>
 W.nilchk t93_166 fun t94_168 =>
 W.faddr 1 t94_168 fun t95_169 =>
 W.calm [] ⟨3, (blocksOf t95_169), [], [], false, []⟩ (
 W.load false 1 t95_169 L_163 fun t96_170 =>
 W.note ⟨(blocksOf t95_169), [], [], []⟩ fun r_171 =>
 W.faddr 1 t3_6 fun t97_172 =>
 W.calm [⟨3, r_171.reads, r_171.writes, r_171.made, false, r_171.old⟩, ⟨0, r_167.reads, r_167.writes, r_167.made, false, r_167.old⟩] ⟨5, (blocksOf t97_172), [], [], false, []⟩ (
 W.load false 1 t97_172 L_163 fun t98_173 =>
 W.note ⟨(blocksOf t97_172), [], [], []⟩ fun r_174 =>
 W.faddr 4 t3_6 fun t99_175 =>
 W.calm [⟨5, r_174.reads, r_174.writes, r_174.made, false, r_174.old⟩, ⟨3, r_171.reads, r_171.writes, r_171.made, false, r_171.old⟩, ⟨0, r_167.reads, r_167.writes, r_167.made, false, r_167.old⟩] ⟨7, (blocksOf t99_175), [], [], false, []⟩ (
 W.load false 1 t99_175 L_163 fun t100_176 =>
 W.note ⟨(blocksOf t99_175), [], [], []⟩ fun r_177 =>
 W.calm [⟨7, r_177.reads, r_177.writes, r_177.made, false, r_177.old⟩, ⟨5, r_174.reads, r_174.writes, r_174.made, false, r_174.old⟩, ⟨3, r_171.reads, r_171.writes, r_171.made, false, r_171.old⟩, ⟨0, r_167.reads, r_167.writes, r_167.made, false, r_167.old⟩] ⟨8, (blocksOf t2_4), [], [], false, []⟩ (
 W.load false 1 t2_4 L_163 fun t101_178 =>
 W.note ⟨(blocksOf t2_4), [], [], []⟩ fun r_179 =>
 W.nilchk t101_178 fun t102_180 =>
 W.faddr 1 t102_180 fun t103_181 =>
 W.calm [⟨7, r_177.reads, r_177.writes, r_177.made, false, r_177.old⟩, ⟨5, r_174.reads, r_174.writes, r_174.made, false, r_174.old⟩, ⟨3, r_171.reads, r_171.writes, r_171.made, false, r_171.old⟩, ⟨0, r_167.reads, r_167.writes, r_167.made, false, r_167.old⟩] ⟨11, (blocksOf t103_181), [], [], false, []⟩ (
 W.load false 1 t103_181 L_163 fun t104_182 =>
 W.note ⟨(blocksOf t103_181), [], [], []⟩ fun r_183 =>
 W.faddr 2 t3_6 fun t105_184 =>
 W.calm [⟨11, r_183.reads, r_183.writes, r_183.made, false, r_183.old⟩, ⟨8, r_179.reads, r_179.writes, r_179.made, false, r_179.old⟩, ⟨7, r_177.reads, r_177.writes, r_177.made, false, r_177.old⟩, ⟨5, r_174.reads, r_174.writes, r_174.made, false, r_174.old⟩, ⟨3, r_171.reads, r_171.writes, r_171.made, false, r_171.old⟩, ⟨0, r_167.reads, r_167.writes, r_167.made, false, r_167.old⟩] ⟨13, (blocksOf t105_184), [], [], false, []⟩ (
 W.load false 1 t105_184 L_163 fun t106_185 =>
 W.note ⟨(blocksOf t105_184), [], [], []⟩ fun r_186 =>
 W.calm [⟨7, r_177.reads, r_177.writes, r_177.made, false, r_177.old⟩, ⟨5, r_174.reads, r_174.writes, r_174.made, false, r_174.old⟩, ⟨3, r_171.reads, r_171.writes, r_171.made, false, r_171.old⟩, ⟨0, r_167.reads, r_167.writes, r_167.made, false, r_167.old⟩] ⟨14, (slOf t104_182), [], [], false, []⟩ (
 W.idx 1 t104_182 t106_185 L_163 fun t107_187 =>
 W.note ⟨(slOf t104_182), [], [], []⟩ fun r_188 =>
 W.calm [⟨7, r_177.reads, r_177.writes, r_177.made, false, r_177.old⟩, ⟨5, r_174.reads, r_174.writes, r_174.made, false, r_174.old⟩, ⟨3, r_171.reads, r_171.writes, r_171.made, false, r_171.old⟩, ⟨0, r_167.reads, r_167.writes, r_167.made, false, r_167.old⟩] ⟨15, (blocksOf t107_187), [], [], false, []⟩ (
 W.load false 1 t107_187 L_163 fun t108_189 =>
 W.note ⟨(blocksOf t107_187), [], [], []⟩ fun r_190 =>
 W.dcall Try.prog [⟨5, r_174.reads, r_174.writes, r_174.made, false, r_174.old⟩, ⟨3, r_171.reads, r_171.writes, r_171.made, false, r_171.old⟩, ⟨0, r_167.reads, r_167.writes, r_167.made, false, r_167.old⟩] 16 (.fn 70 []) [t100_176, t108_189] L_163 (silent_execute_d5 L_163 t96_170 t98_173 t2_4 t3_6 j_9)))))))))))
def silent_execute_c6 (t2_4 : AV) (t3_6 : AV) (Q : AV → SH → Prop) (j_9 : W.Kn) (t83_142 : AV) (L_143 : SH) : Prop :=
 W.un .not t83_142 fun t84_144 =>
 W.grd t84_144 false (fun k_146 => k_146 (.fn 69 [t2_4]) L_143) L_143 fun t86_145 L_147 =>
 W.grd t84_144 false (fun k_149 => W.faddr 2 t3_6 fun v_151 =>
 k_149 v_151 L_147) L_147 fun t87_148 L_150 =>
 W.grd t84_144 false (fun k_153 => W.load false 1 t87_148 L_150 fun v_155 =>
 k_153 v_155 L_150) L_150 fun t88_152 L_154 =>
 W.grd t84_144 false (fun k_157 => W.call Try.prog t86_145 [t88_152] L_154 fun v_159 L_160 =>
 k_157 v_159 L_160) L_154 fun t89_156 L_158 =>
 W.grd t84_144 false (fun k_162 => W.un .not t89_156 fun v_164 =>
 k_162 v_164 L_158) L_158 fun t90_161 L_163 =>
 W.pick t84_144 (.bool true) t90_161 fun t91_165 =>
 W.cond t91_165 (
 Q (.bool false) L_163) (
 (silent_execute_zt2 t2_4 L_163 t3_6 j_9))
def silent_execute_d7 (L_325 : SH) (t182_331 : AV) (t184_334 : AV) (j_9 : W.Kn) (t2_4 : AV) (t177_322 : AV) (t201_362 : AV) (L_364 : SH) (ks_363 : List Nat) : Prop :=
 W.note ⟨[], ks_363, [], L_325.names⟩ fun r_365 =>
 W.calm [] ⟨23, (slOf t182_331), [], [], false, []⟩ (
 W.idx 1 t182_331 t184_334 L_364 fun t202_366 =>
 W.note ⟨(slOf t182_331), [], [], []⟩ fun r_367 =>
 W.calm [] ⟨24, (blocksOf t202_366), (blocksOf t202_366), [], false, []⟩ (
 W.store 1 t202_366 t201_362 L_364 fun L_368 =>
 W.note ⟨(blocksOf t202_366), (blocksOf t202_366), [], []⟩ fun r_369 =>
 j_9 [t2_4, (.bool false), t177_322] L_368))
def silent_execute_d8 (L_276 : SH) (t154_283 : AV) (t156_286 : AV) (t2_4 : AV) (t3_6 : AV) (j_9 : W.Kn) (t175_317 : AV) (L_319 : SH) (ks_318 : List Nat) : Prop :=
 W.note ⟨[], ks_318, [], L_276.names⟩ fun r_320 =>
 W.ext 0 t175_317 fun t176_321 =>
 W.ext 1 t175_317 fun t177_322 =>
 W.calm [] ⟨28, (slOf t154_283), [], [], false, []⟩ (
 W.idx 1 t154_283 t156_286 L_319 fun t178_323 =>
 W.note ⟨(slOf t154_283), [], [], []⟩ fun r_324 =>
 W.calm [] ⟨29, (blocksOf t178_323), (blocksOf t178_323), [], false, []⟩ (
 W.store 1 t178_323 t176_321 L_319 fun L_325 =>
 W.note ⟨(blocksOf t178_323), (blocksOf t178_323), [], []⟩ fun r_326 =>
 (true = true) ∧ (
 W.calm [] ⟨0, (blocksOf t2_4), [], [], false, []⟩ (
 W.load false 1 t2_4 L_325 fun t179_327 =>
 W.note ⟨(blocksOf t2_4), [], [], []⟩ fun r_328 =>
 W.nilchk t179_327 fun t180_329 =>
 W.faddr 2 t180_329 fun t181_330 =>
 W.calm [] ⟨3, (blocksOf t181_330), [], [], false, []⟩ (
 W.load false 1 t181_330 L_325 fun t182_331 =>
 W.note ⟨(blocksOf t181_330), [], [], []⟩ fun r_332 =>
 W.faddr 1 t3_6 fun t183_333 =>
 W.calm [⟨3, r_332.reads, r_332.writes, r_332.made, false, r_332.old⟩, ⟨0, r_328.reads, r_328.writes, r_328.made, false, r_328.old⟩] ⟨5, (blocksOf t183_333), [], [], false, []⟩ (
 W.load false 1 t183_333 L_325 fun t184_334 =>
 W.note ⟨(blocksOf t183_333), [], [], []⟩ fun r_335 =>
 W.calm [⟨5, r_335.reads, r_335.writes, r_335.made, false, r_335.old⟩, ⟨3, r_332.reads, r_332.writes, r_332.made, false, r_332.old⟩, ⟨0, r_328.reads, r_328.writes, r_328.made, false, r_328.old⟩] ⟨6, (blocksOf t2_4), [], [], false, []⟩ (
 W.load false 1 t2_4 L_325 fun t185_336 =>
 W.note ⟨(blocksOf t2_4), [], [], []⟩ fun r_337 =>
 W.nilchk t185_336 fun t186_338 =>
 W.faddr 2 t186_338 fun t187_339 =>
 W.calm [⟨5, r_335.reads, r_335.writes, r_335.made, false, r_335.old⟩, ⟨3, r_332.reads, r_332.writes, r_332.made, false, r_332.old⟩, ⟨0, r_328.reads, r_328.writes, r_328.made, false, r_328.old⟩] ⟨9, (blocksOf t187_339), [], [], false, []⟩ (
 W.load false 1 t187_339 L_325 fun t188_340 =>
 W.note ⟨(blocksOf t187_339), [], [], []⟩ fun r_341 =>
 W.faddr 2 t3_6 fun t189_342 =>
 W.calm [⟨9, r_341.reads, r_341.writes, r_341.made, false, r_341.old⟩, ⟨6, r_337.reads, r_337.writes, r_337.made, false, r_337.old⟩, ⟨5, r_335.reads, r_335.writes, r_335.made, false, r_335.old⟩, ⟨3, r_332.reads, r_332.writes, r_332.made, false, r_332.old⟩, ⟨0, r_328.reads, r_328.writes, r_328.made, false, r_328.old⟩] ⟨11, (blocksOf t189_342), [], [], false, []⟩ (
 W.load false 1 t189_342 L_325 fun t190_343 =>
 W.note ⟨(blocksOf t189_342), [], [], []⟩ fun r_344 =>
 W.calm [⟨5, r_335.reads, r_335.writes, r_335.made, false, r_335.old⟩, ⟨3, r_332.reads, r_332.writes, r_332.made, false, r_332.old⟩, ⟨0, r_328.reads, r_328.writes, r_328.made, false, r_328.old⟩] ⟨12, (slOf t188_340), [], [], false, []⟩ (
 W.idx 1 t188_340 t190_343 L_325 fun t191_345 =>
 W.note ⟨(slOf t188_340), [], [], []⟩ fun r_346 =>
 W.calm [⟨5, r_335.reads, r_335.writes, r_335.made, false, r_335.old⟩, ⟨3, r_332.reads, r_332.writes, r_332.made, false, r_332.old⟩, ⟨0, r_328.reads, r_328.writes, r_328.made, false, r_328.old⟩] ⟨13, (blocksOf t191_345), [], [], false, []⟩ (
 W.load false 1 t191_345 L_325 fun t192_347 =>
 W.note ⟨(blocksOf t191_345), [], [], []⟩ fun r_348 =>
 W.calm [⟨13, r_348.reads, r_348.writes, r_348.made, false, r_348.old⟩, ⟨12, r_346.reads, r_346.writes, r_346.made, false, r_346.old⟩, ⟨11, r_344.reads, r_344.writes, r_344.made, false, r_344.old⟩, ⟨9, r_341.reads, r_341.writes, r_341.made, false, r_341.old⟩, ⟨6, r_337.reads, r_337.writes, r_337.made, false, r_337.old⟩, ⟨5, r_335.reads, r_335.writes, r_335.made, false, r_335.old⟩, ⟨3, r_332.reads, r_332.writes, r_332.made, false, r_332.old⟩, ⟨0, r_328.reads, r_328.writes, r_328.made, false, r_328.old⟩] ⟨14, (blocksOf t2_4), [], [], false, []⟩ (
 W.load false 1 t2_4 L_325 fun t193_349 =>
 W.note ⟨(blocksOf t2_4), [], [], []⟩ fun r_350 =>
 W.nilchk t193_349 fun t194_351 =>
 W.faddr 2 t194_351 fun t195_352 =>
 W.calm [⟨13, r_348.reads, r_348.writes, r_348.made, false, r_348.old⟩, ⟨12, r_346.reads, r_346.writes, r_346.made, false, r_346.old⟩, ⟨11, r_344.reads, r_344.writes, r_344.made, false, r_344.old⟩, ⟨9, r_341.reads, r_341.writes, r_341.made, false, r_341.old⟩, ⟨6, r_337.reads, r_337.writes, r_337.made, false, r_337.old⟩, ⟨5, r_335.reads, r_335.writes, r_335.made, false, r_335.old⟩, ⟨3, r_332.reads, r_332.writes, r_332.made, false, r_332.old⟩, ⟨0, r_328.reads, r_328.writes, r_328.made, false, r_328.old⟩] ⟨17, (blocksOf t195_352), [], [], false, []⟩ (
 W.load false 1 t195_352 L_325 fun t196_353 =>
 W.note ⟨(blocksOf t195_352), [], [], []⟩ fun r_354 =>
 W.faddr 3 t3_6 fun t197_355 =>
 W.calm [⟨17, r_354.reads, r_354.writes, r_354.made, false, r_354.old⟩, ⟨14, r_350.reads, r_350.writes, r_350.made, false, r_350.old⟩, ⟨13, r_348.reads, r_348.writes, r_348.made, false, r_348.old⟩, ⟨12, r_346.reads, r_346.writes, r_346.made, false, r_346.old⟩, ⟨11, r_344.reads, r_344.writes, r_344.made, false, r_344.old⟩, ⟨9, r_341.reads, r_341.writes, r_341.made, false, r_341.old⟩, ⟨6, r_337.reads, r_337.writes, r_337.made, false, r_337.old⟩, ⟨5, r_335.reads, r_335.writes, r_335.made, false, r_335.old⟩, ⟨3, r_332.reads, r_332.writes, r_332.made, false, r_332.old⟩, ⟨0, r_328.reads, r_328.writes, r_328.made, false, r_328.old⟩] ⟨19, (blocksOf t197_355), [], [], false, []⟩ (
 W.load false 1 t197_355 L_325 fun t198_356 =>
 W.note ⟨(blocksOf t197_355), [], [], []⟩ fun r_357 =>
 W.calm [⟨13, r_348.reads, r_348.writes, r_348.made, false, r_348.old⟩, ⟨12, r_346.reads, r_346.writes, r_346.made, false, r_346.old⟩, ⟨11, r_344.reads, r_344.writes, r_344.made, false, r_344.old⟩, ⟨9, r_341.reads, r_341.writes, r_341.made, false, r_341.old⟩, ⟨6, r_337.reads, r_337.writes, r_337.made, false, r_337.old⟩, ⟨5, r_335.reads, r_335.writes, r_335.made, false, r_335.old⟩, ⟨3, r_332.reads, r_332.writes, r_332.made, false, r_332.old⟩, ⟨0, r_328.reads, r_328.writes, r_328.made, false, r_328.old⟩] ⟨20, (slOf t196_353), [], [], false, []⟩ (
 W.idx 1 t196_353 t198_356 L_325 fun t199_358 =>
 W.note ⟨(slOf t196_353), [], [], []⟩ fun r_359 =>
 W.calm [⟨13, r_348.reads, r_348.writes, r_348.made, false, r_348.old⟩, ⟨12, r_346.reads, r_346.writes, r_346.made, false, r_346.old⟩, ⟨11, r_344.reads, r_344.writes, r_344.made, false, r_344.old⟩, ⟨9, r_341.reads, r_341.writes, r_341.made, false, r_341.old⟩, ⟨6, r_337.reads, r_337.writes, r_337.made, false, r_337.old⟩, ⟨5, r_335.reads, r_335.writes, r_335.made, false, r_335.old⟩, ⟨3, r_332.reads, r_332.writes, r_332.made, false, r_332.old⟩, ⟨0, r_328.reads, r_328.writes, r_328.made, false, r_328.old⟩] ⟨21, (blocksOf t199_358), [], [], false, []⟩ (
 W.load false 1 t199_358 L_325 fun t200_360 =>
 W.note ⟨(blocksOf t199_358), [], [], []⟩ fun r_361 =>
 W.dcall Try.prog [⟨5, r_335.reads, r_335.writes, r_335.made, false, r_335.old⟩, ⟨3, r_332.reads, r_332.writes, r_332.made, false, r_332.old⟩, ⟨0, r_328.reads, r_328.writes, r_328.made, false, r_328.old⟩] 22 (.fn 14 []) [t192_347, t200_360] L_325 (silent_execute_d7 L_325 t182_331 t184_334 j_9 t2_4 t177_322)))))))))))))))))
def silent_execute_zt3 (t2_4 : AV) (L_276 : SH) (t3_6 : AV) (j_9 : W.Kn)  : Prop :=
 (true = true) ∧ (
 W.calm [] ⟨0, (blocksOf t2_4), [], [], false, []⟩ (
 W.load false 1 t2_4 L_276 fun t151_279 =>
 W.note ⟨(blocksOf t2_4), [], [], []⟩ fun r_280 =>
 W.nilchk t151_279 fun t152_281 =>
 W.faddr 1 t152_281 fun t153_282 =>
 W.calm [] ⟨3, (blocksOf t153_282), [], [], false, []⟩ (
 W.load false 1 t153_282 L_276 fun t154_283 =>
 W.note ⟨(blocksOf t153_282), [], [], []⟩ fun r_284 =>
 W.faddr 1 t3_6 fun t155_285 =>
 W.calm [⟨3, r_284.reads, r_284.writes, r_284.made, false, r_284.old⟩, ⟨0, r_280.reads, r_280.writes, r_280.made, false, r_280.old⟩] ⟨5, (blocksOf t155_285), [], [], false, []⟩ (
 W.load false 1 t155_285 L_276 fun t156_286 =>
 W.note ⟨(blocksOf t155_285), [], [], []⟩ fun r_287 =>
 W.faddr 4 t3_6 fun t157_288 =>
 W.calm [⟨5, r_287.reads, r_287.writes, r_287.made, false, r_287.old⟩, ⟨3, r_284.reads, r_284.writes, r_284.made, false, r_284.old⟩, ⟨0, r_280.reads, r_280.writes, r_280.made, false, r_280.old⟩] ⟨7, (blocksOf t157_288), [], [], false, []⟩ (
 W.load false 1 t157_288 L_276 fun t158_289 =>
 W.note ⟨(blocksOf t157_288), [], [], []⟩ fun r_290 =>
 W.calm [⟨7, r_290.reads, r_290.writes, r_290.made, false, r_290.old⟩, ⟨5, r_287.reads, r_287.writes, r_287.made, false, r_287.old⟩, ⟨3, r_284.reads, r_284.writes, r_284.made, false, r_284.old⟩, ⟨0, r_280.reads, r_280.writes, r_280.made, false, r_280.old⟩] ⟨8, (blocksOf t2_4), [], [], false, []⟩ (
 W.load false 1 t2_4 L_276 fun t159_291 =>
 W.note ⟨(blocksOf t2_4), [], [], []⟩ fun r_292 =>
 W.nilchk t159_291 fun t160_293 =>
 W.faddr 1 t160_293 fun t161_294 =>
 W.calm [⟨7, r_290.reads, r_290.writes, r_290.made, false, r_290.old⟩, ⟨5, r_287.reads, r_287.writes, r_287.made, false, r_287.old⟩, ⟨3, r_284.reads, r_284.writes, r_284.made, false, r_284.old⟩, ⟨0, r_280.reads, r_280.writes, r_280.made, false, r_280.old⟩] ⟨11, (blocksOf t161_294), [], [], false, []⟩ (
 W.load false 1 t161_294 L_276 fun t162_295 =>
 W.note ⟨(blocksOf t161_294), [], [], []⟩ fun r_296 =>
 W.faddr 2 t3_6 fun t163_297 =>
 W.calm [⟨11, r_296.reads, r_296.writes, r_296.made, false, r_296.old⟩, ⟨8, r_292.reads, r_292.writes, r_292.made, false, r_292.old⟩, ⟨7, r_290.reads, r_290.writes, r_290.made, false, r_290.old⟩, ⟨5, r_287.reads, r_287.writes, r_287.made, false, r_287.old⟩, ⟨3, r_284.reads, r_284.writes, r_284.made, false, r_284.old⟩, ⟨0, r_280.reads, r_280.writes, r_280.made, false, r_280.old⟩] ⟨13, (blocksOf t163_297), [], [], false, []⟩ (
 W.load false 1 t163_297 L_276 fun t164_298 =>
 W.note ⟨(blocksOf t163_297), [], [], []⟩ fun r_299 =>
 W.calm [⟨7, r_290.reads, r_290.writes, r_290.made, false, r_290.old⟩, ⟨5, r_287.reads, r_287.writes, r_287.made, false, r_287.old⟩, ⟨3, r_284.reads, r_284.writes, r_284.made, false, r_284.old⟩, ⟨0, r_280.reads, r_280.writes, r_280.made, false, r_280.old⟩] ⟨14, (slOf t162_295), [], [], false, []⟩ (
 W.idx 1 t162_295 t164_298 L_276 fun t165_300 =>
 W.note ⟨(slOf t162_295), [], [], []⟩ fun r_301 =>
 W.calm [⟨7, r_290.reads, r_290.writes, r_290.made, false, r_290.old⟩, ⟨5, r_287.reads, r_287.writes, r_287.made, false, r_287.old⟩, ⟨3, r_284.reads, r_284.writes, r_284.made, false, r_284.old⟩, ⟨0, r_280.reads, r_280.writes, r_280.made, false, r_280.old⟩] ⟨15, (blocksOf t165_300), [], [], false, []⟩ (
 W.load false 1 t165_300 L_276 fun t166_302 =>
 W.note ⟨(blocksOf t165_300), [], [], []⟩ fun r_303 =>
 W.calm [⟨15, r_303.reads, r_303.writes, r_303.made, false, r_303.old⟩, ⟨14, r_301.reads, r_301.writes, r_301.made, false, r_301.old⟩, ⟨13, r_299.reads, r_299.writes, r_299.made, false, r_299.old⟩, ⟨11, r_296.reads, r_296.writes, r_296.made, false, r_296.old⟩, ⟨8, r_292.reads, r_292.writes, r_292.made, false, r_292.old⟩, ⟨7, r_290.reads, r_290.writes, r_290.made, false, r_290.old⟩, ⟨5, r_287.reads, r_287.writes, r_287.made, false, r_287.old⟩, ⟨3, r_284.reads, r_284.writes, r_284.made, false, r_284.old⟩, ⟨0, r_280.reads, r_280.writes, r_280.made, false, r_280.old⟩] ⟨16, (blocksOf t2_4), [], [], false, []⟩ (
 W.load false 1 t2_4 L_276 fun t167_304 =>
 W.note ⟨(blocksOf t2_4), [], [], []⟩ fun r_305 =>
 W.nilchk t167_304 fun t168_306 =>
 W.faddr 1 t168_306 fun t169_307 =>
 W.calm [⟨15, r_303.reads, r_303.writes, r_303.made, false, r_303.old⟩, ⟨14, r_301.reads, r_301.writes, r_301.made, false, r_301.old⟩, ⟨13, r_299.reads, r_299.writes, r_299.made, false, r_299.old⟩, ⟨11, r_296.reads, r_296.writes, r_296.made, false, r_296.old⟩, ⟨8, r_292.reads, r_292.writes, r_292.made, false, r_292.old⟩, ⟨7, r_290.reads, r_290.writes, r_290.made, false, r_290.old⟩, ⟨5, r_287.reads, r_287.writes, r_287.made, false, r_287.old⟩, ⟨3, r_284.reads, r_284.writes, r_284.made, false, r_284.old⟩, ⟨0, r_280.reads, r_280.writes, r_280.made, false, r_280.old⟩] ⟨19, (blocksOf t169_307), [], [], false, []⟩ (
 W.load false 1 t169_307 L_276 fun t170_308 =>
 W.note ⟨(blocksOf t169_307), [], [], []⟩ fun r_309 =>
 W.faddr 3 t3_6 fun t171_310 =>
 W.calm [⟨19, r_309.reads, r_309.writes, r_309.made, false, r_309.old⟩, ⟨16, r_305.reads, r_305.writes, r_305.made, false, r_305.old⟩, ⟨15, r_303.reads, r_303.writes, r_303.made, false, r_303.old⟩, ⟨14, r_301.reads, r_301.writes, r_301.made, false, r_301.old⟩, ⟨13, r_299.reads, r_299.writes, r_299.made, false, r_299.old⟩, ⟨11, r_296.reads, r_296.writes, r_296.made, false, r_296.old⟩, ⟨8, r_292.reads, r_292.writes, r_292.made, false, r_292.old⟩, ⟨7, r_290.reads, r_290.writes, r_290.made, false, r_290.old⟩, ⟨5, r_287.reads, r_287.writes, r_287.made, false, r_287.old⟩, ⟨3, r_284.reads, r_284.writes, r_284.made, false, r_284.old⟩, ⟨0, r_280.reads, r_280.writes, r_280.made, false, r_280.old⟩] ⟨21, (blocksOf t171_310), [], [], false, []⟩ (
 W.load false 1 t171_310 L_276 fun t172_311 =>
 W.note ⟨(blocksOf t171_310), [], [], []⟩ fun r_312 =>
 W.calm [⟨15, r_303.reads, r_303.writes, r_303.made, false, r_303.old⟩, ⟨14, r_301.reads, r_301.writes, r_301.made, false, r_301.old⟩, ⟨13, r_299.reads, r_299.writes, r_299.made, false, r_299.old⟩, ⟨11, r_296.reads, r_296.writes, r_296.made, false, r_296.old⟩, ⟨8, r_292.reads, r_292.writes, r_292.made, false, r_292.old⟩, ⟨7, r_290.reads, r_290.writes, r_290.made, false, r_290.old⟩, ⟨5, r_287.reads, r_287.writes, r_287.made, false, r_287.old⟩, ⟨3, r_284.reads, r_284.writes, r_284.made, false, r_284.old⟩, ⟨0, r_280.reads, r_280.writes, r_280.made, false, r_280.old⟩] ⟨22, (slOf t170_308), [], [], false, []⟩ (
 W.idx 1 t170_308 t172_311 L_276 fun t173_313 =>
 W.note ⟨(slOf t170_308), [], [], []⟩ fun r_314 =>
 W.calm [⟨15, r_303.reads, r_303.writes, r_303.made, false, r_303.old⟩, ⟨14, r_301.reads, r_301.writes, r_301.made, false, r_301.old⟩, ⟨13, r_299.reads, r_299.writes, r_299.made, false, r_299.old⟩, ⟨11, r_296.reads, r_296.writes, r_296.made, false, r_296.old⟩, ⟨8, r_292.reads, r_292.writes, r_292.made, false, r_292.old⟩, ⟨7, r_290.reads, r_290.writes, r_290.made, false, r_290.old⟩, ⟨5, r_287.reads, r_287.writes, r_287.made, false, r_287.old⟩, ⟨3, r_284.reads, r_284.writes, r_284.made, false, r_284.old⟩, ⟨0, r_280.reads, r_280.writes, r_280.made, false, r_280.old⟩] ⟨23, (blocksOf t173_313), [], [], false, []⟩ (
 W.load false 1 t173_313 L_276 fun t174_315 =>
 W.note ⟨(blocksOf t173_313), [], [], []⟩ fun r_316 =>
 W.dcall Try.prog [⟨5, r_287.reads, r_287.writes, r_287.made, false, r_287.old⟩, ⟨3, r_284.reads, r_284.writes, r_284.made, false, r_284.old⟩, ⟨0, r_280.reads, r_280.writes, r_280.made, false, r_280.old⟩] 24 (.fn 71 []) [t158_289, t166_302, t174_315] L_276 (silent_execute_d8 L_276 t154_283 t156_286 t2_4 t3_6 j_9))))))))))))))))
def silent_execute_c9 (t2_4 : AV) (t3_6 : AV) (Q : AV → SH → Prop) (j_9 : W.Kn) (t134_234 : AV) (L_235 : SH) : Prop :=
 W.un .not t134_234 fun t135_236 =>
 W.grd t135_236 false (fun k_238 => k_238 (.fn 69 [t2_4]) L_235) L_235 fun t137_237 L_239 =>
 W.grd t135_236 false (fun k_241 => W.faddr 2 t3_6 fun v_243 =>
 k_241 v_243 L_239) L_239 fun t138_240 L_242 =>
 W.grd t135_236 false (fun k_245 => W.load false 1 t138_240 L_242 fun v_247 =>
 k_245 v_247 L_242) L_242 fun t139_244 L_246 =>
 W.grd t135_236 false (fun k_249 => W.call Try.prog t137_237 [t139_244] L_246 fun v_251 L_252 =>
 k_249 v_251 L_252) L_246 fun t140_248 L_250 =>
 W.grd t135_236 false (fun k_254 => W.un .not t140_248 fun v_256 =>
 k_254 v_256 L_250) L_250 fun t141_253 L_255 =>
 W.pick t135_236 (.bool true) t141_253 fun t142_257 =>
 W.grd t142_257 false (fun k_259 => k_259 (.fn 69 [t2_4]) L_255) L_255 fun t144_258 L_260 =>
 W.grd t142_257 false (fun k_262 => W.faddr 3 t3_6 fun v_264 =>
 k_262 v_264 L_260) L_260 fun t145_261 L_263 =>
 W.grd t142_257 false (fun k_266 => W.load false 1 t145_261 L_263 fun v_268 =>
 k_266 v_268 L_263) L_263 fun t146_265 L_267 =>
 W.grd t142_257 false (fun k_270 => W.call Try.prog t144_258 [t146_265] L_267 fun v_272 L_273 =>
 k_270 v_272 L_273) L_267 fun t147_269 L_271 =>
 W.grd t142_257 false (fun k_275 => W.un .not t147_269 fun v_277 =>
 k_275 v_277 L_271) L_271 fun t148_274 L_276 =>
 W.pick t142_257 (.bool true) t148_274 fun t149_278 =>
 W.cond t149_278 (
 Q (.bool false) L_276) (
 (silent_execute_zt3 t2_4 L_276 t3_6 j_9))
def silent_execute_j10 (Q : AV → SH → Prop) (vs_377 : List AV) (L_379 : SH) : Prop :=
 Q (slotOf [2, 4, 6] vs_377 4) L_379
def silent_execute_zt4 (t2_4 : AV) (L_7 : SH) (t3_6 : AV) (Q : AV → SH → Prop)  : Prop :=
 W.load false 1 t2_4 L_7 fun t205_371 =>
 W.faddr 1 t3_6 fun t206_372 =>
 W.load false 1 t206_372 L_7 fun t207_373 =>
 W.nilchk t205_371 fun t208_374 =>
 W.faddr 0 t208_374 fun t209_375 =>
 W.store 1 t209_375 t207_373 L_7 fun L_376 =>
 W.join (silent_execute_j10 Q) fun j_378 =>
 j_378 [t2_4, (.bool true), (.bool true)] L_376
def silent_execute_zt5 (t9_20 : AV) (t2_4 : AV) (L_7 : SH) (t3_6 : AV) (Q : AV → SH → Prop) (j_9 : W.Kn)  : Prop :=
 W.bin Try.prog Fl .eql 3 t9_20 (.int .i64 5) fun t204_370 =>
 W.cond t204_370 (
 (silent_execute_zt4 t2_4 L_7 t3_6 Q)) (
 j_9 [t2_4, (.bool false), (.bool true)] L_7)
def silent_execute_zt6 (t9_20 : AV) (t3_6 : AV) (L_7 : SH) (t2_4 : AV) (Q : AV → SH → Prop) (j_9 : W.Kn)  : Prop :=
 W.bin Try.prog Fl .eql 3 t9_20 (.int .i64 4) fun t130_231 =>
 W.cond t130_231 (
 W.faddr 1 t3_6 fun t132_232 =>
 W.load false 1 t132_232 L_7 fun t133_233 =>
 W.call Try.prog (.fn 69 [t2_4]) [t133_233] L_7 (silent_execute_c9 t2_4 t3_6 Q j_9)) (
 (silent_execute_zt5 t9_20 t2_4 L_7 t3_6 Q j_9))
def silent_execute_zt7 (t9_20 : AV) (t3_6 : AV) (L_7 : SH) (t2_4 : AV) (Q : AV → SH → Prop) (j_9 : W.Kn)  : Prop :=
 W.bin Try.prog Fl .eql 3 t9_20 (.int .i64 3) fun t79_139 =>
 W.cond t79_139 (
 W.faddr 1 t3_6 fun t81_140 =>
 W.load false 1 t81_140 L_7 fun t82_141 =>
 W.call Try.prog (.fn 69 [t2_4]) [t82_141] L_7 (silent_execute_c6 t2_4 t3_6 Q j_9)) (
 (silent_execute_zt6 t9_20 t3_6 L_7 t2_4 Q j_9))
def silent_execute_zt8 (t9_20 : AV) (t3_6 : AV) (L_7 : SH) (t2_4 : AV) (Q : AV → SH → Prop) (j_9 : W.Kn)  : Prop :=
 W.bin Try.prog Fl .eql 3 t9_20 (.int .i64 2) fun t34_56 =>
 W.cond t34_56 (
 W.faddr 1 t3_6 fun t36_57 =>
 W.load false 1 t36_57 L_7 fun t37_58 =>
 W.call Try.prog (.fn 69 [t2_4]) [t37_58] L_7 (silent_execute_c3 t2_4 t3_6 Q j_9)) (
 (silent_execute_zt7 t9_20 t3_6 L_7 t2_4 Q j_9))
def silent_execute_w (t0 t1 : AV) (L : SH) (Q : AV → SH → Prop) : Prop :=
 W.box t0 L fun t2_0 L_1 =>
 W.box t1 L_1 fun t3_2 L_3 =>
 W.frz1 t2_0 L_3 fun t2_4 L_5 =>
 W.frz1 t3_2 L_5 fun t3_6 L_7 =>
 W.join (silent_execute_j0 Q) fun j_9 =>
 W.faddr 0 t3_6 fun t8_19 =>
 W.load false 1 t8_19 L_7 fun t9_20 =>
 W.bin Try.prog Fl .eql 3 t9_20 (.int .i64 1) fun t11_21 =>
 W.cond t11_21 (
 W.faddr 1 t3_6 fun t13_22 =>
 W.load false 1 t13_22 L_7 fun t14_23 =>
 W.call Try.prog (.fn 69 [t2_4]) [t14_23] L_7 (silent_execute_c1 Q t2_4 t3_6 j_9)) (
 (silent_execute_zt8 t9_20 t3_6 L_7 t2_4 Q j_9))
theorem silent_execute_e (t0 t1 : AV) (L : SH) (Q : AV → SH → Prop) : W.func Try.prog Fl silent_execute_t Try.f43 (Try.f43.body.getD .skip) [t0, t1] L Q = silent_execute_w t0 t1 L Q := by kernel_rfl
theorem silent_execute_ok (t0 t1 : AV) (L : SH) (Q : AV → SH → Prop) (h : silent_execute_w t0 t1 L Q) : CallA Try.prog 43 [t0, t1] L Q :=
  func_sound (ht := silent_execute_t) fit Try.func43 (show Try.f43.body = some (Try.f43.body.getD .skip) by kernel_rfl) (Eq.mpr (silent_execute_e t0 t1 L Q) h)

def ref07_Copy_t : Hints := ⟨fun k => none, fun k => if k = 3 then [1, 2, 3, 4] else [], fun k => if k = 0 then [1] else [], fun k => if k = 1 then [0, 1, 0, 4, 0, 0, 32, 112, 255, 0, 1023] else if k = 5 then [0, 1, 0, 0, 8, 0, 56, 120, 252, 508, 1023, 2047, 4095] else []⟩
def ref07_Copy_zt0 (vs_27 : List AV) (L_29 : SH) (nx_28 : W.Kn)  : Prop :=
 (true = true) ∧ (
 W.faddr 2 (slotOf [1, 2, 3, 4] vs_27 3) fun t21_34 =>
 W.calm [] ⟨1, (blocksOf t21_34), [], [], false, []⟩ (
 W.load false 1 t21_34 L_29 fun t22_35 =>
 W.note ⟨(blocksOf t21_34), [], [], []⟩ fun r_36 =>
 W.calm [⟨1, r_36.reads, r_36.writes, r_36.made, false, r_36.old⟩] ⟨2, [], [], [], false, []⟩ (
 W.bslice 1 [(.int .i64 0)] 0 [] L_29 fun t23_37 L_38 =>
 W.note ⟨[], [], (blocksOf t23_37), []⟩ fun r_39 =>
 W.faddr 2 (slotOf [1, 2, 3, 4] vs_27 1) fun t24_40 =>
 W.calm [⟨2, r_39.reads, r_39.writes, r_39.made, false, r_39.old⟩, ⟨1, r_36.reads, r_36.writes, r_36.made, false, r_36.old⟩] ⟨4, (blocksOf t24_40), [], [], false, []⟩ (
 W.load false 1 t24_40 L_38 fun t25_41 =>
 W.note ⟨(blocksOf t24_40), [], [], []⟩ fun r_42 =>
 W.calm [⟨2, r_39.reads, r_39.writes, r_39.made, false, r_39.old⟩, ⟨1, r_36.reads, r_36.writes, r_36.made, false, r_36.old⟩] ⟨6, (slOf t25_41), [], [], false, []⟩ (
 W.idx 1 t25_41 (slotOf [1, 2, 3, 4] vs_27 4) L_38 fun t27_43 =>
 W.note ⟨(slOf t25_41), [], [], []⟩ fun r_44 =>
 W.calm [⟨2, r_39.reads, r_39.writes, r_39.made, false, r_39.old⟩, ⟨1, r_36.reads, r_36.writes, r_36.made, false, r_36.old⟩] ⟨7, (blocksOf t27_43), [], [], false, []⟩ (
 W.load false 1 t27_43 L_38 fun t28_45 =>
 W.note ⟨(blocksOf t27_43), [], [], []⟩ fun r_46 =>
 W.calm [⟨1, r_36.reads, r_36.writes, r_36.made, false, r_36.old⟩] ⟨8, (blocksOf t23_37 ++ blocksOf t28_45), (blocksOf t23_37), [], false, []⟩ (
 W.append 1 8 t23_37 t28_45 L_38 fun t29_47 L_48 =>
 W.note ⟨(blocksOf t23_37 ++ blocksOf t28_45), (blocksOf t23_37), (blocksOf t29_47), []⟩ fun r_49 =>
 W.calm [⟨1, r_36.reads, r_36.writes, r_36.made, false, r_36.old⟩] ⟨9, [], [], [], false, []⟩ (
 W.bslice 1 [.nils] 1 [(0, t29_47)] L_48 fun t30_50 L_51 =>
 W.note ⟨[], [], (blocksOf t30_50), []⟩ fun r_52 =>
 W.calm [] ⟨10, (blocksOf t22_35 ++ blocksOf t30_50), (blocksOf t22_35), [], false, []⟩ (
 W.append 1 24 t22_35 t30_50 L_51 fun t31_53 L_54 =>
 W.note ⟨(blocksOf t22_35 ++ blocksOf t30_50), (blocksOf t22_35), (blocksOf t31_53), []⟩ fun r_55 =>
 W.faddr 2 (slotOf [1, 2, 3, 4] vs_27 3) fun t32_56 =>
 W.calm [] ⟨12, (blocksOf t32_56), (blocksOf t32_56), [], false, []⟩ (
 W.store 1 t32_56 t31_53 L_54 fun L_57 =>
 W.note ⟨(blocksOf t32_56), (blocksOf t32_56), [], []⟩ fun r_58 =>
 W.bin Try.prog Fl .add 3 (slotOf [1, 2, 3, 4] vs_27 4) (.int .i64 1) fun t20_59 =>
 nx_28 [(slotOf [1, 2, 3, 4] vs_27 1), (slotOf [1, 2, 3, 4] vs_27 2), (slotOf [1, 2, 3, 4] vs_27 3), t20_59] L_57))))))))))
def ref07_Copy_zt1 (vs_27 : List AV) (L_29 : SH) (Q : AV → SH → Prop)  : Prop :=
 W.load true 4 (slotOf [1, 2, 3, 4] vs_27 3) L_29 fun t33_60 =>
 W.store 4 (slotOf [1, 2, 3, 4] vs_27 2) t33_60 L_29 fun L_61 =>
 W.load true 4 (slotOf [1, 2, 3, 4] vs_27 2) L_61 fun r_62 =>
 Q r_62 L_61
def ref07_Copy_l0 (Q : AV → SH → Prop) (vs_27 : List AV) (L_29 : SH) (nx_28 : W.Kn) : Prop :=
 W.faddr 2 (slotOf [1, 2, 3, 4] vs_27 1) fun t15_30 =>
 W.load false 1 t15_30 L_29 fun t16_31 =>
 W.len t16_31 fun t17_32 =>
 W.bin Try.prog Fl .lss 3 (slotOf [1, 2, 3, 4] vs_27 4) t17_32 fun t18_33 =>
 W.cond t18_33 (
 (ref07_Copy_zt0 vs_27 L_29 nx_28)) (
 (ref07_Copy_zt1 vs_27 L_29 Q))
def ref07_Copy_w (t0 : AV) (L : SH) (Q : AV → SH → Prop) : Prop :=
 W.box t0 L fun t1_0 L_1 =>
 W.alloc [(.int .i64 0), .nils, .nils, (.int .i64 0)] L_1 fun t2_2 L_3 =>
 W.frz1 t1_0 L_3 fun t1_4 L_5 =>
 (true = true) ∧ (
 W.faddr 0 t1_4 fun t5_6 =>
 W.calm [] ⟨1, (blocksOf t5_6), [], [], false, []⟩ (
 W.load false 1 t5_6 L_5 fun t6_7 =>
 W.note ⟨(blocksOf t5_6), [], [], []⟩ fun r_8 =>
 W.faddr 3 t1_4 fun t7_9 =>
 W.calm [⟨1, r_8.reads, r_8.writes, r_8.made, false, r_8.old⟩] ⟨3, (blocksOf t7_9), [], [], false, []⟩ (
 W.load false 1 t7_9 L_5 fun t8_10 =>
 W.note ⟨(blocksOf t7_9), [], [], []⟩ fun r_11 =>
 W.calm [⟨3, r_11.reads, r_11.writes, r_11.made, false, r_11.old⟩, ⟨1, r_8.reads, r_8.writes, r_8.made, false, r_8.old⟩] ⟨4, [], [], [], false, []⟩ (
 W.bslice 1 [(.int .i64 0)] 0 [] L_5 fun t9_12 L_13 =>
 W.note ⟨[], [], (blocksOf t9_12), []⟩ fun r_14 =>
 W.faddr 1 t1_4 fun t10_15 =>
 W.calm [⟨4, r_14.reads, r_14.writes, r_14.made, false, r_14.old⟩, ⟨3, r_11.reads, r_11.writes, r_11.made, false, r_11.old⟩, ⟨1, r_8.reads, r_8.writes, r_8.made, false, r_8.old⟩] ⟨6, (blocksOf t10_15), [], [], false, []⟩ (
 W.load false 1 t10_15 L_13 fun t11_16 =>
 W.note ⟨(blocksOf t10_15), [], [], []⟩ fun r_17 =>
 W.calm [⟨3, r_11.reads, r_11.writes, r_11.made, false, r_11.old⟩, ⟨1, r_8.reads, r_8.writes, r_8.made, false, r_8.old⟩] ⟨7, (blocksOf t9_12 ++ blocksOf t11_16), (blocksOf t9_12), [], false, []⟩ (
 W.append 1 8 t9_12 t11_16 L_13 fun t12_18 L_19 =>
 W.note ⟨(blocksOf t9_12 ++ blocksOf t11_16), (blocksOf t9_12), (blocksOf t12_18), []⟩ fun r_20 =>
 W.build [(.int .i64 0), .nils, .nils, (.int .i64 0)] [(0, 1, t6_7), (3, 1, t8_10), (1, 1, t12_18)] fun t13_21 =>
 W.calm [⟨7, r_20.reads, r_20.writes, r_20.made, false, r_20.old⟩, ⟨6, r_17.reads, r_17.writes, r_17.made, false, r_17.old⟩, ⟨4, r_14.reads, r_14.writes, r_14.made, false, r_14.old⟩, ⟨3, r_11.reads, r_11.writes, r_11.made, false, r_11.old⟩, ⟨1, r_8.reads, r_8.writes, r_8.made, false, r_8.old⟩] ⟨9, [], [], [], false, []⟩ (
 W.alloc [(.int .i64 0), .nils, .nils, (.int .i64 0)] L_19 fun t3_22 L_23 =>
 W.note ⟨[], [], (blocksOf t3_22), []⟩ fun r_24 =>
 W.calm [] ⟨10, (blocksOf t3_22), (blocksOf t3_22), [], false, []⟩ (
 W.store 4 t3_22 t13_21 L_23 fun L_25 =>
 W.note ⟨(blocksOf t3_22), (blocksOf t3_22), [], []⟩ fun r_26 =>
 W.loop (ref07_Copy_l0 Q) [t1_4, t2_2, t3_22, (.int .i64 0)] L_25))))))))
theorem ref07_Copy_e (t0 : AV) (L : SH) (Q : AV → SH → Prop) : W.func Try.prog Fl ref07_Copy_t Try.f44 (Try.f44.body.getD .skip) [t0] L Q = ref07_Copy_w t0 L Q := by kernel_rfl
theorem ref07_Copy_ok (t0 : AV) (L : SH) (Q : AV → SH → Prop) (h : ref07_Copy_w t0 L Q) : CallA Try.prog 44 [t0] L Q :=
  func_sound (ht := ref07_Copy_t) fit Try.func44 (show Try.f44.body = some (Try.f44.body.getD .skip) by kernel_rfl) (Eq.mpr (ref07_Copy_e t0 L Q) h)

def ref06_Silent_t : Hints := ⟨fun k => none, fun k => [], fun k => [], fun k => []⟩
def ref06_Silent_w (t0 : AV) (L : SH) (Q : AV → SH → Prop) : Prop :=
 W.bin Try.prog Fl .geq 3 t0 (.int .i64 1) fun t4_0 =>
 W.grd t4_0 true (fun k_2 => k_2 t0 L) L fun t6_1 L_3 =>
 W.grd t4_0 true (fun k_5 => W.bin Try.prog Fl .leq 3 t6_1 (.int .i64 5) fun v_7 =>
 k_5 v_7 L_3) L_3 fun t7_4 L_6 =>
 W.pick t4_0 t7_4 (.bool false) fun t8_8 =>
 Q t8_8 L_6
theorem ref06_Silent_e (t0 : AV) (L : SH) (Q : AV → SH → Prop) : W.func Try.prog Fl ref06_Silent_t Try.f45 (Try.f45.body.getD .skip) [t0] L Q = ref06_Silent_w t0 L Q := by kernel_rfl
theorem ref06_Silent_ok (t0 : AV) (L : SH) (Q : AV → SH → Prop) (h : ref06_Silent_w t0 L Q) : CallA Try.prog 45 [t0] L Q :=
  func_sound (ht := ref06_Silent_t) fit Try.func45 (show Try.f45.body = some (Try.f45.body.getD .skip) by kernel_rfl) (Eq.mpr (ref06_Silent_e t0 L Q) h)

def ref07_step_t : Hints := ⟨fun k => if k = 11 then some [2, 3, 4, 8, 9, 10] else none, fun k => if k = 3 then [2, 3, 4, 6, 7] else [], fun k => if k = 0 then [2] else [], fun k => if k = 5 then [0, 0, 3, 7, 15, 31, 63, 63, 255, 511, 63, 1087, 3135, 8191, 16383] else if k = 18 then [0, 1, 0, 4, 15, 31, 0, 64, 0, 256, 960, 1984, 63, 8191] else if k = 20 then [0, 1, 3, 0, 8, 0, 32, 120, 248, 511, 1023, 2047, 2047, 4095, 16383] else if k = 10 then [0, 1, 3, 0, 8, 0, 32, 120, 248, 0, 512, 0, 2048, 7680, 15872, 32767, 65535, 131071, 131071, 262143, 1048575] else if k = 11 then [0, 1, 0, 4, 15, 31, 0, 64, 0, 256, 960, 1984, 4095, 8191] else if k = 22 then [0, 1, 0, 4, 0, 16, 0, 64, 0, 0, 0, 1536, 3855, 7951, 16383, 32767] else []⟩
def ref07_step_zt0 (vs_11 : List AV) (L_60 : SH) (Q : AV → SH → Prop)  : Prop :=
 W.build [(.int .i64 0), .nils, .nils, (.int .i64 0)] [] fun t34_63 =>
 W.store 4 (slotOf [2, 3, 4, 6, 7] vs_11 4) t34_63 L_60 fun L_64 =>
 W.load true 4 (slotOf [2, 3, 4, 6, 7] vs_11 4) L_64 fun r_65 =>
 Q (.tup [r_65, (.bool false)]) L_64
def ref07_step_zt1 (vs_11 : List AV) (nx_12 : W.Kn) (L_60 : SH)  : Prop :=
 W.bin Try.prog Fl .add 3 (slotOf [2, 3, 4, 6, 7] vs_11 7) (.int .i64 1) fun t18_66 =>
 nx_12 [(slotOf [2, 3, 4, 6, 7] vs_11 2), (slotOf [2, 3, 4, 6, 7] vs_11 3), (slotOf [2, 3, 4, 6, 7] vs_11 4), (slotOf [2, 3, 4, 6, 7] vs_11 6), t18_66] L_60
def ref07_step_zt2 (vs_11 : List AV) (L_13 : SH) (Q : AV → SH → Prop) (nx_12 : W.Kn)  : Prop :=
 (true = true) ∧ (
 W.calm [] ⟨2, (slOf (slotOf [2, 3, 4, 6, 7] vs_11 6)), [], [], false, []⟩ (
 W.idx 1 (slotOf [2, 3, 4, 6, 7] vs_11 6) (slotOf [2, 3, 4, 6, 7] vs_11 7) L_13 fun t21_16 =>
 W.note ⟨(slOf (slotOf [2, 3, 4, 6, 7] vs_11 6)), [], [], []⟩ fun r_17 =>
 W.calm [] ⟨3, (blocksOf t21_16), [], [], false, []⟩ (
 W.load false 1 t21_16 L_13 fun t22_18 =>
 W.note ⟨(blocksOf t21_16), [], [], []⟩ fun r_19 =>
 W.bin Try.prog Fl .lss 3 t22_18 (.int .i64 0) fun t23_20 =>
 W.dgrd t23_20 false (fun k_22 => k_22 (slotOf [2, 3, 4, 6, 7] vs_11 6) L_13 ⟨[], [], [], []⟩) L_13 fun t25_21 L_24 r_23 =>
 W.dgrd t23_20 false (fun k_26 => k_26 (slotOf [2, 3, 4, 6, 7] vs_11 7) L_24 ⟨[], [], [], []⟩) L_24 fun t26_25 L_28 r_27 =>
 W.dgrd t23_20 false (fun k_30 => W.calm [] ⟨8, (slOf t25_21), [], [], false, []⟩ (
 W.idx 1 t25_21 t26_25 L_28 fun v_33 =>
 W.note ⟨(slOf t25_21), [], [], []⟩ fun r_34 =>
 k_30 v_33 L_28 r_34)) L_28 fun t27_29 L_32 r_31 =>
 W.dgrd t23_20 false (fun k_36 => W.calm [] ⟨9, (blocksOf t27_29), [], [], false, []⟩ (
 W.load false 1 t27_29 L_32 fun v_39 =>
 W.note ⟨(blocksOf t27_29), [], [], []⟩ fun r_40 =>
 k_36 v_39 L_32 r_40)) L_32 fun t28_35 L_38 r_37 =>
 W.dgrd t23_20 false (fun k_42 => W.faddr 1 (slotOf [2, 3, 4, 6, 7] vs_11 3) fun v_45 =>
 k_42 v_45 L_38 ⟨[], [], [], []⟩) L_38 fun t29_41 L_44 r_43 =>
 W.dgrd t23_20 false (fun k_47 => W.calm [⟨9, r_37.reads, r_37.writes, r_37.made, false, r_37.old⟩, ⟨8, r_31.reads, r_31.writes, r_31.made, false, r_31.old⟩] ⟨11, (blocksOf t29_41), [], [], false, []⟩ (
 W.load false 1 t29_41 L_44 fun v_50 =>
 W.note ⟨(blocksOf t29_41), [], [], []⟩ fun r_51 =>
 k_47 v_50 L_44 r_51)) L_44 fun t30_46 L_49 r_48 =>
 W.dgrd t23_20 false (fun k_53 => W.len t30_46 fun v_56 =>
 k_53 v_56 L_49 ⟨[], [], [], []⟩) L_49 fun t31_52 L_55 r_54 =>
 W.dgrd t23_20 false (fun k_58 => W.bin Try.prog Fl .geq 3 t28_35 t31_52 fun v_61 =>
 k_58 v_61 L_55 ⟨[], [], [], []⟩) L_55 fun t32_57 L_60 r_59 =>
 W.pick t23_20 (.bool true) t32_57 fun t33_62 =>
 W.cond t33_62 (
 (ref07_step_zt0 vs_11 L_60 Q)) (
 (ref07_step_zt1 vs_11 nx_12 L_60)))))
def ref07_step_j0 (Q : AV → SH → Prop) (vs_67 : List AV) (L_69 : SH) : Prop :=
 (true = true) ∧ (
 W.faddr 1 (slotOf [2, 3, 4, 8, 9, 10] vs_67 3) fun t114_70 =>
 W.calm [] ⟨1, (blocksOf t114_70), [], [], false, []⟩ (
 W.load false 1 t114_70 L_69 fun t115_71 =>
 W.note ⟨(blocksOf t114_70), [], [], []⟩ fun r_72 =>
 W.faddr 1 (slotOf [2, 3, 4, 8, 9, 10] vs_67 2) fun t116_73 =>
 W.calm [⟨1, r_72.reads, r_72.writes, r_72.made, false, r_72.old⟩] ⟨3, (blocksOf t116_73), [], [], false, []⟩ (
 W.load false 1 t116_73 L_69 fun t117_74 =>
 W.note ⟨(blocksOf t116_73), [], [], []⟩ fun r_75 =>
 W.faddr 2 (slotOf [2, 3, 4, 8, 9, 10] vs_67 3) fun t118_76 =>
 W.calm [⟨3, r_75.reads, r_75.writes, r_75.made, false, r_75.old⟩, ⟨1, r_72.reads, r_72.writes, r_72.made, false, r_72.old⟩] ⟨5, (blocksOf t118_76), [], [], false, []⟩ (
 W.load false 1 t118_76 L_69 fun t119_77 =>
 W.note ⟨(blocksOf t118_76), [], [], []⟩ fun r_78 =>
 W.faddr 1 (slotOf [2, 3, 4, 8, 9, 10] vs_67 2) fun t120_79 =>
 W.calm [⟨5, r_78.reads, r_78.writes, r_78.made, false, r_78.old⟩, ⟨3, r_75.reads, r_75.writes, r_75.made, false, r_75.old⟩, ⟨1, r_72.reads, r_72.writes, r_72.made, false, r_72.old⟩] ⟨7, (blocksOf t120_79), [], [], false, []⟩ (
 W.load false 1 t120_79 L_69 fun t121_80 =>
 W.note ⟨(blocksOf t120_79), [], [], []⟩ fun r_81 =>
 W.calm [⟨7, r_81.reads, r_81.writes, r_81.made, false, r_81.old⟩, ⟨5, r_78.reads, r_78.writes, r_78.made, false, r_78.old⟩, ⟨3, r_75.reads, r_75.writes, r_75.made, false, r_75.old⟩, ⟨1, r_72.reads, r_72.writes, r_72.made, false, r_72.old⟩] ⟨9, [], [], [], false, []⟩ (
 W.bslice 1 [(.int .i64 0)] 0 [] L_69 fun t123_82 L_83 =>
 W.note ⟨[], [], (blocksOf t123_82), []⟩ fun r_84 =>
 W.calm [⟨7, r_81.reads, r_81.writes, r_81.made, false, r_81.old⟩, ⟨5, r_78.reads, r_78.writes, r_78.made, false, r_78.old⟩, ⟨3, r_75.reads, r_75.writes, r_75.made, false, r_75.old⟩, ⟨1, r_72.reads, r_72.writes, r_72.made, false, r_72.old⟩] ⟨11, (blocksOf t123_82 ++ blocksOf (slotOf [2, 3, 4, 8, 9, 10] vs_67 10)), (blocksOf t123_82), [], false, []⟩ (
 W.append 1 8 t123_82 (slotOf [2, 3, 4, 8, 9, 10] vs_67 10) L_83 fun t125_85 L_86 =>
 W.note ⟨(blocksOf t123_82 ++ blocksOf (slotOf [2, 3, 4, 8, 9, 10] vs_67 10)), (blocksOf t123_82), (blocksOf t125_85), []⟩ fun r_87 =>
 W.calm [⟨7, r_81.reads, r_81.writes, r_81.made, false, r_81.old⟩, ⟨5, r_78.reads, r_78.writes, r_78.made, false, r_78.old⟩] ⟨12, (slOf t115_71), [], [], false, []⟩ (
 W.idx 1 t115_71 t117_74 L_86 fun t126_88 =>
 W.note ⟨(slOf t115_71), [], [], []⟩ fun r_89 =>
 W.calm [⟨7, r_81.reads, r_81.writes, r_81.made, false, r_81.old⟩, ⟨5, r_78.reads, r_78.writes, r_78.made, false, r_78.old⟩] ⟨13, (blocksOf t126_88), (blocksOf t126_88), [], false, []⟩ (
 W.store 1 t126_88 (slotOf [2, 3, 4, 8, 9, 10] vs_67 8) L_86 fun L_90 =>
 W.note ⟨(blocksOf t126_88), (blocksOf t126_88), [], []⟩ fun r_91 =>
 W.calm [] ⟨14, (slOf t119_77), [], [], false, []⟩ (
 W.idx 1 t119_77 t121_80 L_90 fun t127_92 =>
 W.note ⟨(slOf t119_77), [], [], []⟩ fun r_93 =>
 W.calm [] ⟨15, (blocksOf t127_92), (blocksOf t127_92), [], false, []⟩ (
 W.store 1 t127_92 t125_85 L_90 fun L_94 =>
 W.note ⟨(blocksOf t127_92), (blocksOf t127_92), [], []⟩ fun r_95 =>
 W.faddr 0 (slotOf [2, 3, 4, 8, 9, 10] vs_67 3) fun t128_96 =>
 W.load false 1 t128_96 L_94 fun t129_97 =>
 W.bin Try.prog Fl .add 3 t129_97 (.int .i64 1) fun t130_98 =>
 W.faddr 0 (slotOf [2, 3, 4, 8, 9, 10] vs_67 3) fun t131_99 =>
 W.store 1 t131_99 t130_98 L_94 fun L_100 =>
 W.load true 4 (slotOf [2, 3, 4, 8, 9, 10] vs_67 3) L_100 fun t132_101 =>
 W.store 4 (slotOf [2, 3, 4, 8, 9, 10] vs_67 4) t132_101 L_100 fun L_102 =>
 W.load true 4 (slotOf [2, 3, 4, 8, 9, 10] vs_67 4) L_102 fun r_103 =>
 Q (.tup [r_103, (slotOf [2, 3, 4, 8, 9, 10] vs_67 9)]) L_102)))))))))))
def ref07_step_zt3 (vs_11 : List AV) (L_13 : SH) (Q : AV → SH → Prop)  : Prop :=
 W.faddr 1 (slotOf [2, 3, 4, 6, 7] vs_11 2) fun t71_107 =>
 W.load false 1 t71_107 L_13 fun t72_108 =>
 W.faddr 0 (slotOf [2, 3, 4, 6, 7] vs_11 3) fun t73_109 =>
 W.store 1 t73_109 t72_108 L_13 fun L_110 =>
 W.load true 4 (slotOf [2, 3, 4, 6, 7] vs_11 3) L_110 fun t74_111 =>
 W.store 4 (slotOf [2, 3, 4, 6, 7] vs_11 4) t74_111 L_110 fun L_112 =>
 W.load true 4 (slotOf [2, 3, 4, 6, 7] vs_11 4) L_112 fun r_113 =>
 Q (.tup [r_113, (.bool true)]) L_112
def ref07_step_zt4 (vs_11 : List AV) (L_13 : SH) (j_68 : W.Kn)  : Prop :=
 W.faddr 4 (slotOf [2, 3, 4, 6, 7] vs_11 2) fun t77_115 =>
 W.load false 1 t77_115 L_13 fun t78_116 =>
 j_68 [(slotOf [2, 3, 4, 6, 7] vs_11 2), (slotOf [2, 3, 4, 6, 7] vs_11 3), (slotOf [2, 3, 4, 6, 7] vs_11 4), t78_116, (.bool true), .nils] L_13
def ref07_step_zt5 (vs_11 : List AV) (L_13 : SH) (j_68 : W.Kn)  : Prop :=
 (true = true) ∧ (
 W.faddr 1 (slotOf [2, 3, 4, 6, 7] vs_11 3) fun t81_118 =>
 W.calm [] ⟨1, (blocksOf t81_118), [], [], false, []⟩ (
 W.load false 1 t81_118 L_13 fun t82_119 =>
 W.note ⟨(blocksOf t81_118), [], [], []⟩ fun r_120 =>
 W.faddr 2 (slotOf [2, 3, 4, 6, 7] vs_11 2) fun t83_121 =>
 W.calm [⟨1, r_120.reads, r_120.writes, r_120.made, false, r_120.old⟩] ⟨3, (blocksOf t83_121), [], [], false, []⟩ (
 W.load false 1 t83_121 L_13 fun t84_122 =>
 W.note ⟨(blocksOf t83_121), [], [], []⟩ fun r_123 =>
 W.calm [] ⟨4, (slOf t82_119), [], [], false, []⟩ (
 W.idx 1 t82_119 t84_122 L_13 fun t85_124 =>
 W.note ⟨(slOf t82_119), [], [], []⟩ fun r_125 =>
 W.calm [] ⟨5, (blocksOf t85_124), [], [], false, []⟩ (
 W.load false 1 t85_124 L_13 fun t86_126 =>
 W.note ⟨(blocksOf t85_124), [], [], []⟩ fun r_127 =>
 W.faddr 2 (slotOf [2, 3, 4, 6, 7] vs_11 3) fun t87_128 =>
 W.calm [⟨5, r_127.reads, r_127.writes, r_127.made, false, r_127.old⟩, ⟨4, r_125.reads, r_125.writes, r_125.made, false, r_125.old⟩, ⟨3, r_123.reads, r_123.writes, r_123.made, false, r_123.old⟩, ⟨1, r_120.reads, r_120.writes, r_120.made, false, r_120.old⟩] ⟨7, (blocksOf t87_128), [], [], false, []⟩ (
 W.load false 1 t87_128 L_13 fun t88_129 =>
 W.note ⟨(blocksOf t87_128), [], [], []⟩ fun r_130 =>
 W.faddr 2 (slotOf [2, 3, 4, 6, 7] vs_11 2) fun t89_131 =>
 W.calm [⟨7, r_130.reads, r_130.writes, r_130.made, false, r_130.old⟩, ⟨5, r_127.reads, r_127.writes, r_127.made, false, r_127.old⟩, ⟨4, r_125.reads, r_125.writes, r_125.made, false, r_125.old⟩, ⟨3, r_123.reads, r_123.writes, r_123.made, false, r_123.old⟩, ⟨1, r_120.reads, r_120.writes, r_120.made, false, r_120.old⟩] ⟨9, (blocksOf t89_131), [], [], false, []⟩ (
 W.load false 1 t89_131 L_13 fun t90_132 =>
 W.note ⟨(blocksOf t89_131), [], [], []⟩ fun r_133 =>
 W.calm [⟨5, r_127.reads, r_127.writes, r_127.made, false, r_127.old⟩, ⟨4, r_125.reads, r_125.writes, r_125.made, false, r_125.old⟩, ⟨3, r_123.reads, r_123.writes, r_123.made, false, r_123.old⟩, ⟨1, r_120.reads, r_120.writes, r_120.made, false, r_120.old⟩] ⟨10, (slOf t88_129), [], [], false, []⟩ (
 W.idx 1 t88_129 t90_132 L_13 fun t91_134 =>
 W.note ⟨(slOf t88_129), [], [], []⟩ fun r_135 =>
 W.calm [⟨5, r_127.reads, r_127.writes, r_127.made, false, r_127.old⟩, ⟨4, r_125.reads, r_125.writes, r_125.made, false, r_125.old⟩, ⟨3, r_123.reads, r_123.writes, r_123.made, false, r_123.old⟩, ⟨1, r_120.reads, r_120.writes, r_120.made, false, r_120.old⟩] ⟨11, (blocksOf t91_134), [], [], false, []⟩ (
 W.load false 1 t91_134 L_13 fun t92_136 =>
 W.note ⟨(blocksOf t91_134), [], [], []⟩ fun r_137 =>
 j_68 [(slotOf [2, 3, 4, 6, 7] vs_11 2), (slotOf [2, 3, 4, 6, 7] vs_11 3), (slotOf [2, 3, 4, 6, 7] vs_11 4), t86_126, (.bool true), t92_136] L_13)))))))))
def ref07_step_d1 (L_144 : SH) (vs_11 : List AV) (j_68 : W.Kn) (t105_156 : AV) (L_158 : SH) (ks_157 : List Nat) : Prop :=
 W.note ⟨[], ks_157, [], L_144.names⟩ fun r_159 =>
 W.ext 0 t105_156 fun t106_160 =>
 W.ext 1 t105_156 fun t107_161 =>
 W.faddr 2 (slotOf [2, 3, 4, 6, 7] vs_11 3) fun t108_162 =>
 W.load false 1 t108_162 L_158 fun t109_163 =>
 W.faddr 2 (slotOf [2, 3, 4, 6, 7] vs_11 2) fun t110_164 =>
 W.load false 1 t110_164 L_158 fun t111_165 =>
 W.idx 1 t109_163 t111_165 L_158 fun t112_166 =>
 W.load false 1 t112_166 L_158 fun t113_167 =>
 j_68 [(slotOf [2, 3, 4, 6, 7] vs_11 2), (slotOf [2, 3, 4, 6, 7] vs_11 3), (slotOf [2, 3, 4, 6, 7] vs_11 4), t106_160, t107_161, t113_167] L_158
def ref07_step_d2 (L_13 : SH) (vs_11 : List AV) (r_141 : W.Fp) (j_68 : W.Kn) (t98_142 : AV) (L_144 : SH) (ks_143 : List Nat) : Prop :=
 W.note ⟨[], ks_143, [], L_13.names⟩ fun r_145 =>
 W.faddr 1 (slotOf [2, 3, 4, 6, 7] vs_11 3) fun t99_146 =>
 W.calm [⟨2, r_145.reads, r_145.writes, r_145.made, true, r_145.old⟩, ⟨1, r_141.reads, r_141.writes, r_141.made, false, r_141.old⟩] ⟨4, (blocksOf t99_146), [], [], false, []⟩ (
 W.load false 1 t99_146 L_144 fun t100_147 =>
 W.note ⟨(blocksOf t99_146), [], [], []⟩ fun r_148 =>
 W.faddr 2 (slotOf [2, 3, 4, 6, 7] vs_11 2) fun t101_149 =>
 W.calm [⟨4, r_148.reads, r_148.writes, r_148.made, false, r_148.old⟩, ⟨2, r_145.reads, r_145.writes, r_145.made, true, r_145.old⟩, ⟨1, r_141.reads, r_141.writes, r_141.made, false, r_141.old⟩] ⟨6, (blocksOf t101_149), [], [], false, []⟩ (
 W.load false 1 t101_149 L_144 fun t102_150 =>
 W.note ⟨(blocksOf t101_149), [], [], []⟩ fun r_151 =>
 W.calm [⟨2, r_145.reads, r_145.writes, r_145.made, true, r_145.old⟩, ⟨1, r_141.reads, r_141.writes, r_141.made, false, r_141.old⟩] ⟨7, (slOf t100_147), [], [], false, []⟩ (
 W.idx 1 t100_147 t102_150 L_144 fun t103_152 =>
 W.note ⟨(slOf t100_147), [], [], []⟩ fun r_153 =>
 W.calm [⟨2, r_145.reads, r_145.writes, r_145.made, true, r_145.old⟩, ⟨1, r_141.reads, r_141.writes, r_141.made, false, r_141.old⟩] ⟨8, (blocksOf t103_152), [], [], false, []⟩ (
 W.load false 1 t103_152 L_144 fun t104_154 =>
 W.note ⟨(blocksOf t103_152), [], [], []⟩ fun r_155 =>
 W.dcall Try.prog [] 9 (.fn 73 []) [t98_142, t104_154] L_144 (ref07_step_d1 L_144 vs_11 j_68)))))
def ref07_step_zt6 (vs_11 : List AV) (L_13 : SH) (j_68 : W.Kn)  : Prop :=
 (true = true) ∧ (
 W.faddr 4 (slotOf [2, 3, 4, 6, 7] vs_11 2) fun t96_139 =>
 W.calm [] ⟨1, (blocksOf t96_139), [], [], false, []⟩ (
 W.load false 1 t96_139 L_13 fun t97_140 =>
 W.note ⟨(blocksOf t96_139), [], [], []⟩ fun r_141 =>
 W.dcall Try.prog [] 2 (.fn 74 []) [t97_140] L_13 (ref07_step_d2 L_13 vs_11 r_141 j_68)))
def ref07_step_d3 (L_197 : SH) (j_68 : W.Kn) (vs_11 : List AV) (t54_199 : AV) (t55_200 : AV) (t68_221 : AV) (L_223 : SH) (ks_222 : List Nat) : Prop :=
 W.note ⟨[], ks_222, [], L_197.names⟩ fun r_224 =>
 j_68 [(slotOf [2, 3, 4, 6, 7] vs_11 2), (slotOf [2, 3, 4, 6, 7] vs_11 3), (slotOf [2, 3, 4, 6, 7] vs_11 4), t54_199, t55_200, t68_221] L_223
def ref07_step_d4 (L_173 : SH) (vs_11 : List AV) (j_68 : W.Kn) (t53_195 : AV) (L_197 : SH) (ks_196 : List Nat) : Prop :=
 W.note ⟨[], ks_196, [], L_173.names⟩ fun r_198 =>
 W.ext 0 t53_195 fun t54_199 =>
 W.ext 1 t53_195 fun t55_200 =>
 (true = true) ∧ (
 W.faddr 2 (slotOf [2, 3, 4, 6, 7] vs_11 3) fun t56_201 =>
 W.calm [] ⟨1, (blocksOf t56_201), [], [], false, []⟩ (
 W.load false 1 t56_201 L_197 fun t57_202 =>
 W.note ⟨(blocksOf t56_201), [], [], []⟩ fun r_203 =>
 W.faddr 2 (slotOf [2, 3, 4, 6, 7] vs_11 2) fun t58_204 =>
 W.calm [⟨1, r_203.reads, r_203.writes, r_203.made, false, r_203.old⟩] ⟨3, (blocksOf t58_204), [], [], false, []⟩ (
 W.load false 1 t58_204 L_197 fun t59_205 =>
 W.note ⟨(blocksOf t58_204), [], [], []⟩ fun r_206 =>
 W.calm [] ⟨4, (slOf t57_202), [], [], false, []⟩ (
 W.idx 1 t57_202 t59_205 L_197 fun t60_207 =>
 W.note ⟨(slOf t57_202), [], [], []⟩ fun r_208 =>
 W.calm [] ⟨5, (blocksOf t60_207), [], [], false, []⟩ (
 W.load false 1 t60_207 L_197 fun t61_209 =>
 W.note ⟨(blocksOf t60_207), [], [], []⟩ fun r_210 =>
 W.faddr 2 (slotOf [2, 3, 4, 6, 7] vs_11 3) fun t62_211 =>
 W.calm [⟨5, r_210.reads, r_210.writes, r_210.made, false, r_210.old⟩, ⟨4, r_208.reads, r_208.writes, r_208.made, false, r_208.old⟩, ⟨3, r_206.reads, r_206.writes, r_206.made, false, r_206.old⟩, ⟨1, r_203.reads, r_203.writes, r_203.made, false, r_203.old⟩] ⟨7, (blocksOf t62_211), [], [], false, []⟩ (
 W.load false 1 t62_211 L_197 fun t63_212 =>
 W.note ⟨(blocksOf t62_211), [], [], []⟩ fun r_213 =>
 W.faddr 3 (slotOf [2, 3, 4, 6, 7] vs_11 2) fun t64_214 =>
 W.calm [⟨7, r_213.reads, r_213.writes, r_213.made, false, r_213.old⟩, ⟨5, r_210.reads, r_210.writes, r_210.made, false, r_210.old⟩, ⟨4, r_208.reads, r_208.writes, r_208.made, false, r_208.old⟩, ⟨3, r_206.reads, r_206.writes, r_206.made, false, r_206.old⟩, ⟨1, r_203.reads, r_203.writes, r_203.made, false, r_203.old⟩] ⟨9, (blocksOf t64_214), [], [], false, []⟩ (
 W.load false 1 t64_214 L_197 fun t65_215 =>
 W.note ⟨(blocksOf t64_214), [], [], []⟩ fun r_216 =>
 W.calm [⟨5, r_210.reads, r_210.writes, r_210.made, false, r_210.old⟩, ⟨4, r_208.reads, r_208.writes, r_208.made, false, r_208.old⟩, ⟨3, r_206.reads, r_206.writes, r_206.made, false, r_206.old⟩, ⟨1, r_203.reads, r_203.writes, r_203.made, false, r_203.old⟩] ⟨10, (slOf t63_212), [], [], false, []⟩ (
 W.idx 1 t63_212 t65_215 L_197 fun t66_217 =>
 W.note ⟨(slOf t63_212), [], [], []⟩ fun r_218 =>
 W.calm [⟨5, r_210.reads, r_210.writes, r_210.made, false, r_210.old⟩, ⟨4, r_208.reads, r_208.writes, r_208.made, false, r_208.old⟩, ⟨3, r_206.reads, r_206.writes, r_206.made, false, r_206.old⟩, ⟨1, r_203.reads, r_203.writes, r_203.made, false, r_203.old⟩] ⟨11, (blocksOf t66_217), [], [], false, []⟩ (
 W.load false 1 t66_217 L_197 fun t67_219 =>
 W.note ⟨(blocksOf t66_217), [], [], []⟩ fun r_220 =>
 W.dcall Try.prog [] 12 (.fn 57 []) [t61_209, t67_219] L_197 (ref07_step_d3 L_197 j_68 vs_11 t54_199 t55_200))))))))))
def ref07_step_d5 (L_13 : SH) (vs_11 : List AV) (r_170 : W.Fp) (j_68 : W.Kn) (t40_171 : AV) (L_173 : SH) (ks_172 : List Nat) : Prop :=
 W.note ⟨[], ks_172, [], L_13.names⟩ fun r_174 =>
 W.faddr 1 (slotOf [2, 3, 4, 6, 7] vs_11 3) fun t41_175 =>
 W.calm [⟨2, r_174.reads, r_174.writes, r_174.made, true, r_174.old⟩, ⟨1, r_170.reads, r_170.writes, r_170.made, false, r_170.old⟩] ⟨4, (blocksOf t41_175), [], [], false, []⟩ (
 W.load false 1 t41_175 L_173 fun t42_176 =>
 W.note ⟨(blocksOf t41_175), [], [], []⟩ fun r_177 =>
 W.faddr 2 (slotOf [2, 3, 4, 6, 7] vs_11 2) fun t43_178 =>
 W.calm [⟨4, r_177.reads, r_177.writes, r_177.made, false, r_177.old⟩, ⟨2, r_174.reads, r_174.writes, r_174.made, true, r_174.old⟩, ⟨1, r_170.reads, r_170.writes, r_170.made, false, r_170.old⟩] ⟨6, (blocksOf t43_178), [], [], false, []⟩ (
 W.load false 1 t43_178 L_173 fun t44_179 =>
 W.note ⟨(blocksOf t43_178), [], [], []⟩ fun r_180 =>
 W.calm [⟨2, r_174.reads, r_174.writes, r_174.made, true, r_174.old⟩, ⟨1, r_170.reads, r_170.writes, r_170.made, false, r_170.old⟩] ⟨7, (slOf t42_176), [], [], false, []⟩ (
 W.idx 1 t42_176 t44_179 L_173 fun t45_181 =>
 W.note ⟨(slOf t42_176), [], [], []⟩ fun r_182 =>
 W.calm [⟨2, r_174.reads, r_174.writes, r_174.made, true, r_174.old⟩, ⟨1, r_170.reads, r_170.writes, r_170.made, false, r_170.old⟩] ⟨8, (blocksOf t45_181), [], [], false, []⟩ (
 W.load false 1 t45_181 L_173 fun t46_183 =>
 W.note ⟨(blocksOf t45_181), [], [], []⟩ fun r_184 =>
 W.faddr 1 (slotOf [2, 3, 4, 6, 7] vs_11 3) fun t47_185 =>
 W.calm [⟨8, r_184.reads, r_184.writes, r_184.made, false, r_184.old⟩, ⟨7, r_182.reads, r_182.writes, r_182.made, false, r_182.old⟩, ⟨6, r_180.reads, r_180.writes, r_180.made, false, r_180.old⟩, ⟨4, r_177.reads, r_177.writes, r_177.made, false, r_177.old⟩, ⟨2, r_174.reads, r_174.writes, r_174.made, true, r_174.old⟩, ⟨1, r_170.reads, r_170.writes, r_170.made, false, r_170.old⟩] ⟨10, (blocksOf t47_185), [], [], false, []⟩ (
 W.load false 1 t47_185 L_173 fun t48_186 =>
 W.note ⟨(blocksOf t47_185), [], [], []⟩ fun r_187 =>
 W.faddr 3 (slotOf [2, 3, 4, 6, 7] vs_11 2) fun t49_188 =>
 W.calm [⟨10, r_187.reads, r_187.writes, r_187.made, false, r_187.old⟩, ⟨8, r_184.reads, r_184.writes, r_184.made, false, r_184.old⟩, ⟨7, r_182.reads, r_182.writes, r_182.made, false, r_182.old⟩, ⟨6, r_180.reads, r_180.writes, r_180.made, false, r_180.old⟩, ⟨4, r_177.reads, r_177.writes, r_177.made, false, r_177.old⟩, ⟨2, r_174.reads, r_174.writes, r_174.made, true, r_174.old⟩, ⟨1, r_170.reads, r_170.writes, r_170.made, false, r_170.old⟩] ⟨12, (blocksOf t49_188), [], [], false, []⟩ (
 W.load false 1 t49_188 L_173 fun t50_189 =>
 W.note ⟨(blocksOf t49_188), [], [], []⟩ fun r_190 =>
 W.calm [⟨8, r_184.reads, r_184.writes, r_184.made, false, r_184.old⟩, ⟨7, r_182.reads, r_182.writes, r_182.made, false, r_182.old⟩, ⟨6, r_180.reads, r_180.writes, r_180.made, false, r_180.old⟩, ⟨4, r_177.reads, r_177.writes, r_177.made, false, r_177.old⟩, ⟨2, r_174.reads, r_174.writes, r_174.made, true, r_174.old⟩, ⟨1, r_170.reads, r_170.writes, r_170.made, false, r_170.old⟩] ⟨13, (slOf t48_186), [], [], false, []⟩ (
 W.idx 1 t48_186 t50_189 L_173 fun t51_191 =>
 W.note ⟨(slOf t48_186), [], [], []⟩ fun r_192 =>
 W.calm [⟨8, r_184.reads, r_184.writes, r_184.made, false, r_184.old⟩, ⟨7, r_182.reads, r_182.writes, r_182.made, false, r_182.old⟩, ⟨6, r_180.reads, r_180.writes, r_180.made, false, r_180.old⟩, ⟨4, r_177.reads, r_177.writes, r_177.made, false, r_177.old⟩, ⟨2, r_174.reads, r_174.writes, r_174.made, true, r_174.old⟩, ⟨1, r_170.reads, r_170.writes, r_170.made, false, r_170.old⟩] ⟨14, (blocksOf t51_191), [], [], false, []⟩ (
 W.load false 1 t51_191 L_173 fun t52_193 =>
 W.note ⟨(blocksOf t51_191), [], [], []⟩ fun r_194 =>
 W.dcall Try.prog [] 15 (.fn 75 []) [t40_171, t46_183, t52_193] L_173 (ref07_step_d4 L_173 vs_11 j_68)))))))))
def ref07_step_zt7 (vs_11 : List AV) (L_13 : SH) (j_68 : W.Kn)  : Prop :=
 (true = true) ∧ (
 W.faddr 4 (slotOf [2, 3, 4, 6, 7] vs_11 2) fun t38_168 =>
 W.calm [] ⟨1, (blocksOf t38_168), [], [], false, []⟩ (
 W.load false 1 t38_168 L_13 fun t39_169 =>
 W.note ⟨(blocksOf t38_168), [], [], []⟩ fun r_170 =>
 W.dcall Try.prog [] 2 (.fn 74 []) [t39_169] L_13 (ref07_step_d5 L_13 vs_11 r_170 j_68)))
def ref07_step_zt8 (t36_105 : AV) (vs_11 : List AV) (L_13 : SH) (j_68 : W.Kn)  : Prop :=
 W.bin Try.prog Fl .eql 3 t36_105 (.int .i64 2) fun t80_117 =>
 W.cond t80_117 (
 (ref07_step_zt5 vs_11 L_13 j_68)) (
 W.bin Try.prog Fl .eql 3 t36_105 (.int .i64 3) fun t94_138 =>
 W.cond t94_138 (
 (ref07_step_zt6 vs_11 L_13 j_68)) (
 (ref07_step_zt7 vs_11 L_13 j_68)))
def ref07_step_zt9 (Q : AV → SH → Prop) (vs_11 : List AV) (L_13 : SH)  : Prop :=
 W.join (ref07_step_j0 Q) fun j_68 =>
 W.faddr 0 (slotOf [2, 3, 4, 6, 7] vs_11 2) fun t35_104 =>
 W.load false 1 t35_104 L_13 fun t36_105 =>
 W.bin Try.prog Fl .eql 3 t36_105 (.int .i64 5) fun t70_106 =>
 W.cond t70_106 (
 (ref07_step_zt3 vs_11 L_13 Q)) (
 W.bin Try.prog Fl .eql 3 t36_105 (.int .i64 1) fun t76_114 =>
 W.cond t76_114 (
 (ref07_step_zt4 vs_11 L_13 j_68)) (
 (ref07_step_zt8 t36_105 vs_11 L_13 j_68)))
def ref07_step_l6 (Q : AV → SH → Prop) (vs_11 : List AV) (L_13 : SH) (nx_12 : W.Kn) : Prop :=
 W.len (slotOf [2, 3, 4, 6, 7] vs_11 6) fun t15_14 =>
 W.bin Try.prog Fl .lss 3 (slotOf [2, 3, 4, 6, 7] vs_11 7) t15_14 fun t16_15 =>
 W.cond t16_15 (
 (ref07_step_zt2 vs_11 L_13 Q nx_12)) (
 (ref07_step_zt9 Q vs_11 L_13))
def ref07_step_c7 (Q : AV → SH → Prop) (t2_6 : AV) (t3_2 : AV) (t4_4 : AV) (t12_9 : AV) (L_10 : SH) : Prop :=
 W.loop (ref07_step_l6 Q) [t2_6, t3_2, t4_4, t12_9, (.int .i64 0)] L_10
def ref07_step_w (t0 t1 : AV) (L : SH) (Q : AV → SH → Prop) : Prop :=
 W.box t0 L fun t2_0 L_1 =>
 W.box t1 L_1 fun t3_2 L_3 =>
 W.alloc [(.int .i64 0), .nils, .nils, (.int .i64 0)] L_3 fun t4_4 L_5 =>
 W.frz1 t2_0 L_5 fun t2_6 L_7 =>
 W.load true 6 t2_6 L_7 fun t11_8 =>
 W.call Try.prog (.fn 72 []) [t11_8] L_7 (ref07_step_c7 Q t2_6 t3_2 t4_4)
theorem ref07_step_e (t0 t1 : AV) (L : SH) (Q : AV → SH → Prop) : W.func Try.prog Fl ref07_step_t Try.f46 (Try.f46.body.getD .skip) [t0, t1] L Q = ref07_step_w t0 t1 L Q := by kernel_rfl
theorem ref07_step_ok (t0 t1 : AV) (L : SH) (Q : AV → SH → Prop) (h : ref07_step_w t0 t1 L Q) : CallA Try.prog 46 [t0, t1] L Q :=
  func_sound (ht := ref07_step_t) fit Try.func46 (show Try.f46.body = some (Try.f46.body.getD .skip) by kernel_rfl) (Eq.mpr (ref07_step_e t0 t1 L Q) h)

def silent_execute_1_t : Hints := ⟨fun k => none, fun k => [], fun k => [], fun k => []⟩
def silent_execute_1_w (t0 t1 : AV) (L : SH) (Q : AV → SH → Prop) : Prop :=
 W.bin Try.prog Fl .geq 3 t0 (.int .i64 0) fun t5_0 =>
 W.grd t5_0 true (fun k_2 => k_2 t0 L) L fun t7_1 L_3 =>
 W.grd t5_0 true (fun k_5 => W.load false 1 t1 L_3 fun v_7 =>
 k_5 v_7 L_3) L_3 fun t8_4 L_6 =>
 W.grd t5_0 true (fun k_9 => W.nilchk t8_4 fun v_11 =>
 k_9 v_11 L_6) L_6 fun t9_8 L_10 =>
 W.grd t5_0 true (fun k_13 => W.faddr 1 t9_8 fun v_15 =>
 k_13 v_15 L_10) L_10 fun t10_12 L_14 =>
 W.grd t5_0 true (fun k_17 => W.load false 1 t10_12 L_14 fun v_19 =>
 k_17 v_19 L_14) L_14 fun t11_16 L_18 =>
 W.grd t5_0 true (fun k_21 => W.len t11_16 fun v_23 =>
 k_21 v_23 L_18) L_18 fun t12_20 L_22 =>
 W.grd t5_0 true (fun k_25 => W.bin Try.prog Fl .lss 3 t7_1 t12_20 fun v_27 =>
 k_25 v_27 L_22) L_22 fun t13_24 L_26 =>
 W.pick t5_0 t13_24 (.bool false) fun t14_28 =>
 Q t14_28 L_26
theorem silent_execute_1_e (t0 t1 : AV) (L : SH) (Q : AV → SH → Prop) : W.func Try.prog Fl silent_execute_1_t Try.f69 (Try.f69.body.getD .skip) [t0, t1] L Q = silent_execute_1_w t0 t1 L Q := by kernel_rfl
theorem silent_execute_1_ok (t0 t1 : AV) (L : SH) (Q : AV → SH → Prop) (h : silent_execute_1_w t0 t1 L Q) : CallA Try.prog 69 [t0, t1] L Q :=
  func_sound (ht := silent_execute_1_t) fit Try.func69 (show Try.f69.body = some (Try.f69.body.getD .skip) by kernel_rfl) (Eq.mpr (silent_execute_1_e t0 t1 L Q) h)

def eval_Unary_t : Hints := ⟨fun k => none, fun k => [], fun k => [], fun k => []⟩
def eval_Unary_zt0 (t0 : AV) (t1 : AV) (L : SH) (Q : AV → SH → Prop)  : Prop :=
 W.bin Try.prog Fl .eql 3 t0 (.int .i64 5) fun t12_2 =>
 W.cond t12_2 (
 W.bin Try.prog Fl .eql 2 t1 (.int .i64 0) fun t14_3 =>
 W.call Try.prog (.fn 92 []) [t14_3] L fun t15_4 L_5 =>
 Q (.tup [t15_4, (.bool true)]) L_5) (
 Q (.tup [(.int .i64 0), (.bool false)]) L)
def eval_Unary_w (t0 t1 : AV) (L : SH) (Q : AV → SH → Prop) : Prop :=
 W.bin Try.prog Fl .eql 3 t0 (.int .i64 4) fun t8_0 =>
 W.cond t8_0 (
 W.un .neg t1 fun t10_1 =>
 Q (.tup [t10_1, (.bool true)]) L) (
 (eval_Unary_zt0 t0 t1 L Q))
theorem eval_Unary_e (t0 t1 : AV) (L : SH) (Q : AV → SH → Prop) : W.func Try.prog Fl eval_Unary_t Try.f70 (Try.f70.body.getD .skip) [t0, t1] L Q = eval_Unary_w t0 t1 L Q := by kernel_rfl
theorem eval_Unary_ok (t0 t1 : AV) (L : SH) (Q : AV → SH → Prop) (h : eval_Unary_w t0 t1 L Q) : CallA Try.prog 70 [t0, t1] L Q :=
  func_sound (ht := eval_Unary_t) fit Try.func70 (show Try.f70.body = some (Try.f70.body.getD .skip) by kernel_rfl) (Eq.mpr (eval_Unary_e t0 t1 L Q) h)

def eval_Binary_t : Hints := ⟨fun k => none, fun k => [], fun k => [], fun k => []⟩
def eval_Binary_zt0 (t2 : AV) (Q : AV → SH → Prop) (L : SH) (t1 : AV)  : Prop :=
 W.bin Try.prog Fl .eql 2 t2 (.int .i64 0) fun t27_7 =>
 W.cond t27_7 (
 Q (.tup [(.int .i64 0), (.bool true)]) L) (
 W.bin Try.prog Fl .quo 2 t1 t2 fun t30_8 =>
 Q (.tup [t30_8, (.bool true)]) L)
def eval_Binary_zt1 (t2 : AV) (Q : AV → SH → Prop) (L : SH) (t1 : AV)  : Prop :=
 W.bin Try.prog Fl .eql 2 t2 (.int .i64 0) fun t34_10 =>
 W.cond t34_10 (
 Q (.tup [(.int .i64 0), (.bool true)]) L) (
 W.bin Try.prog Fl .rem 2 t1 t2 fun t37_11 =>
 Q (.tup [t37_11, (.bool true)]) L)
def eval_Binary_zt2 (t1 : AV) (t2 : AV) (L : SH) (Q : AV → SH → Prop)  : Prop :=
 W.bin Try.prog Fl .neq 2 t1 (.int .i64 0) fun t77_37 =>
 W.grd t77_37 true (fun k_39 => k_39 t2 L) L fun t79_38 L_40 =>
 W.grd t77_37 true (fun k_42 => W.bin Try.prog Fl .neq 2 t79_38 (.int .i64 0) fun v_44 =>
 k_42 v_44 L_40) L_40 fun t80_41 L_43 =>
 W.pick t77_37 t80_41 (.bool false) fun t81_45 =>
 W.call Try.prog (.fn 92 []) [t81_45] L_43 fun t82_46 L_47 =>
 Q (.tup [t82_46, (.bool true)]) L_47
def eval_Binary_zt3 (t1 : AV) (t2 : AV) (L : SH) (Q : AV → SH → Prop)  : Prop :=
 W.bin Try.prog Fl .neq 2 t1 (.int .i64 0) fun t86_49 =>
 W.grd t86_49 false (fun k_51 => k_51 t2 L) L fun t88_50 L_52 =>
 W.grd t86_49 false (fun k_54 => W.bin Try.prog Fl .neq 2 t88_50 (.int .i64 0) fun v_56 =>
 k_54 v_56 L_52) L_52 fun t89_53 L_55 =>
 W.pick t86_49 (.bool true) t89_53 fun t90_57 =>
 W.call Try.prog (.fn 92 []) [t90_57] L_55 fun t91_58 L_59 =>
 Q (.tup [t91_58, (.bool true)]) L_59
def eval_Binary_zt4 (t0 : AV) (t1 : AV) (t2 : AV) (L : SH) (Q : AV → SH → Prop)  : Prop :=
 W.bin Try.prog Fl .eql 3 t0 (.int .i64 17) fun t75_36 =>
 W.cond t75_36 (
 (eval_Binary_zt2 t1 t2 L Q)) (
 W.bin Try.prog Fl .eql 3 t0 (.int .i64 18) fun t84_48 =>
 W.cond t84_48 (
 (eval_Binary_zt3 t1 t2 L Q)) (
 Q (.tup [(.int .i64 0), (.bool false)]) L))
def eval_Binary_zt5 (t0 : AV) (t1 : AV) (t2 : AV) (L : SH) (Q : AV → SH → Prop)  : Prop :=
 W.bin Try.prog Fl .eql 3 t0 (.int .i64 16) fun t69_32 =>
 W.cond t69_32 (
 W.bin Try.prog Fl .geq 2 t1 t2 fun t72_33 =>
 W.call Try.prog (.fn 92 []) [t72_33] L fun t73_34 L_35 =>
 Q (.tup [t73_34, (.bool true)]) L_35) (
 (eval_Binary_zt4 t0 t1 t2 L Q))
def eval_Binary_zt6 (t0 : AV) (t1 : AV) (t2 : AV) (L : SH) (Q : AV → SH → Prop)  : Prop :=
 W.bin Try.prog Fl .eql 3 t0 (.int .i64 15) fun t63_28 =>
 W.cond t63_28 (
 W.bin Try.prog Fl .gtr 2 t1 t2 fun t66_29 =>
 W.call Try.prog (.fn 92 []) [t66_29] L fun t67_30 L_31 =>
 Q (.tup [t67_30, (.bool true)]) L_31) (
 (eval_Binary_zt5 t0 t1 t2 L Q))
def eval_Binary_zt7 (t0 : AV) (t1 : AV) (t2 : AV) (L : SH) (Q : AV → SH → Prop)  : Prop :=
 W.bin Try.prog Fl .eql 3 t0 (.int .i64 14) fun t57_24 =>
 W.cond t57_24 (
 W.bin Try.prog Fl .leq 2 t1 t2 fun t60_25 =>
 W.call Try.prog (.fn 92 []) [t60_25] L fun t61_26 L_27 =>
 Q (.tup [t61_26, (.bool true)]) L_27) (
 (eval_Binary_zt6 t0 t1 t2 L Q))
def eval_Binary_zt8 (t0 : AV) (t1 : AV) (t2 : AV) (L : SH) (Q : AV → SH → Prop)  : Prop :=
 W.bin Try.prog Fl .eql 3 t0 (.int .i64 13) fun t51_20 =>
 W.cond t51_20 (
 W.bin Try.prog Fl .lss 2 t1 t2 fun t54_21 =>
 W.call Try.prog (.fn 92 []) [t54_21] L fun t55_22 L_23 =>
 Q (.tup [t55_22, (.bool true)]) L_23) (
 (eval_Binary_zt7 t0 t1 t2 L Q))
def eval_Binary_zt9 (t0 : AV) (t1 : AV) (t2 : AV) (L : SH) (Q : AV → SH → Prop)  : Prop :=
 W.bin Try.prog Fl .eql 3 t0 (.int .i64 12) fun t45_16 =>
 W.cond t45_16 (
 W.bin Try.prog Fl .neq 2 t1 t2 fun t48_17 =>
 W.call Try.prog (.fn 92 []) [t48_17] L fun t49_18 L_19 =>
 Q (.tup [t49_18, (.bool true)]) L_19) (
 (eval_Binary_zt8 t0 t1 t2 L Q))
def eval_Binary_zt10 (t0 : AV) (t1 : AV) (t2 : AV) (L : SH) (Q : AV → SH → Prop)  : Prop :=
 W.bin Try.prog Fl .eql 3 t0 (.int .i64 11) fun t39_12 =>
 W.cond t39_12 (
 W.bin Try.prog Fl .eql 2 t1 t2 fun t42_13 =>
 W.call Try.prog (.fn 92 []) [t42_13] L fun t43_14 L_15 =>
 Q (.tup [t43_14, (.bool true)]) L_15) (
 (eval_Binary_zt9 t0 t1 t2 L Q))
def eval_Binary_zt11 (t0 : AV) (t2 : AV) (Q : AV → SH → Prop) (L : SH) (t1 : AV)  : Prop :=
 W.bin Try.prog Fl .eql 3 t0 (.int .i64 9) fun t25_6 =>
 W.cond t25_6 (
 (eval_Binary_zt0 t2 Q L t1)) (
 W.bin Try.prog Fl .eql 3 t0 (.int .i64 10) fun t32_9 =>
 W.cond t32_9 (
 (eval_Binary_zt1 t2 Q L t1)) (
 (eval_Binary_zt10 t0 t1 t2 L Q)))
def eval_Binary_zt12 (t0 : AV) (t1 : AV) (t2 : AV) (Q : AV → SH → Prop) (L : SH)  : Prop :=
 W.bin Try.prog Fl .eql 3 t0 (.int .i64 8) fun t20_4 =>
 W.cond t20_4 (
 W.bin Try.prog Fl .mul 2 t1 t2 fun t23_5 =>
 Q (.tup [t23_5, (.bool true)]) L) (
 (eval_Binary_zt11 t0 t2 Q L t1))
def eval_Binary_zt13 (t0 : AV) (t1 : AV) (t2 : AV) (Q : AV → SH → Prop) (L : SH)  : Prop :=
 W.bin Try.prog Fl .eql 3 t0 (.int .i64 7) fun t15_2 =>
 W.cond t15_2 (
 W.bin Try.prog Fl .sub 2 t1 t2 fun t18_3 =>
 Q (.tup [t18_3, (.bool true)]) L) (
 (eval_Binary_zt12 t0 t1 t2 Q L))
def eval_Binary_w (t0 t1 t2 : AV) (L : SH) (Q : AV → SH → Prop) : Prop :=
 W.bin Try.prog Fl .eql 3 t0 (.int .i64 6) fun t10_0 =>
 W.cond t10_0 (
 W.bin Try.prog Fl .add 2 t1 t2 fun t13_1 =>
 Q (.tup [t13_1, (.bool true)]) L) (
 (eval_Binary_zt13 t0 t1 t2 Q L))
theorem eval_Binary_e (t0 t1 t2 : AV) (L : SH) (Q : AV → SH → Prop) : W.func Try.prog Fl eval_Binary_t Try.f71 (Try.f71.body.getD .skip) [t0, t1, t2] L Q = eval_Binary_w t0 t1 t2 L Q := by kernel_rfl
theorem eval_Binary_ok (t0 t1 t2 : AV) (L : SH) (Q : AV → SH → Prop) (h : eval_Binary_w t0 t1 t2 L Q) : CallA Try.prog 71 [t0, t1, t2] L Q :=
  func_sound (ht := eval_Binary_t) fit Try.func71 (show Try.f71.body = some (Try.f71.body.getD .skip) by kernel_rfl) (Eq.mpr (eval_Binary_e t0 t1 t2 L Q) h)

def ref06_Registers_t : Hints := ⟨fun k => if k = 5 then some [1, 4, 5] else if k = 8 then some [1, 4, 13] else if k = 15 then some [1, 4, 37] else none, fun k => [], fun k => if k = 0 then [1] else [], fun k => []⟩
def ref06_Registers_zt0 (vs_6 : List AV) (L_8 : SH) (Q : AV → SH → Prop)  : Prop :=
 W.faddr 1 (slotOf [1, 4, 5] vs_6 1) fun t10_9 =>
 W.load false 1 t10_9 L_8 fun t11_10 =>
 W.bslice 1 [(.int .i64 0)] 1 [(0, t11_10)] L_8 fun t12_11 L_12 =>
 Q t12_11 L_12
def ref06_Registers_zt1 (vs_13 : List AV) (L_15 : SH) (Q : AV → SH → Prop)  : Prop :=
 W.faddr 1 (slotOf [1, 4, 13] vs_13 1) fun t16_16 =>
 W.load false 1 t16_16 L_15 fun t17_17 =>
 W.faddr 2 (slotOf [1, 4, 13] vs_13 1) fun t18_18 =>
 W.load false 1 t18_18 L_15 fun t19_19 =>
 W.bslice 1 [(.int .i64 0)] 2 [(0, t17_17), (1, t19_19)] L_15 fun t20_20 L_21 =>
 Q t20_20 L_21
def ref06_Registers_zt2 (vs_13 : List AV) (L_15 : SH) (Q : AV → SH → Prop)  : Prop :=
 W.faddr 1 (slotOf [1, 4, 13] vs_13 1) fun t23_23 =>
 W.load false 1 t23_23 L_15 fun t24_24 =>
 W.faddr 2 (slotOf [1, 4, 13] vs_13 1) fun t25_25 =>
 W.load false 1 t25_25 L_15 fun t26_26 =>
 W.faddr 3 (slotOf [1, 4, 13] vs_13 1) fun t27_27 =>
 W.load false 1 t27_27 L_15 fun t28_28 =>
 W.bslice 1 [(.int .i64 0)] 3 [(0, t24_24), (1, t26_26), (2, t28_28)] L_15 fun t29_29 L_30 =>
 Q t29_29 L_30
def ref06_Registers_zt3 (vs_13 : List AV) (L_15 : SH) (Q : AV → SH → Prop)  : Prop :=
 W.faddr 1 (slotOf [1, 4, 13] vs_13 1) fun t32_32 =>
 W.load false 1 t32_32 L_15 fun t33_33 =>
 W.faddr 3 (slotOf [1, 4, 13] vs_13 1) fun t34_34 =>
 W.load false 1 t34_34 L_15 fun t35_35 =>
 W.bslice 1 [(.int .i64 0)] 2 [(0, t33_33), (1, t35_35)] L_15 fun t36_36 L_37 =>
 Q t36_36 L_37
def ref06_Registers_zt4 (vs_38 : List AV) (L_40 : SH) (Q : AV → SH → Prop)  : Prop :=
 W.faddr 2 (slotOf [1, 4, 37] vs_38 1) fun t40_41 =>
 W.load false 1 t40_41 L_40 fun t41_42 =>
 W.bslice 1 [(.int .i64 0)] 1 [(0, t41_42)] L_40 fun t42_43 L_44 =>
 Q t42_43 L_44
def ref06_Registers_zt5 (vs_38 : List AV) (L_40 : SH) (Q : AV → SH → Prop)  : Prop :=
 W.faddr 2 (slotOf [1, 4, 37] vs_38 1) fun t45_46 =>
 W.load false 1 t45_46 L_40 fun t46_47 =>
 W.faddr 3 (slotOf [1, 4, 37] vs_38 1) fun t47_48 =>
 W.load false 1 t47_48 L_40 fun t48_49 =>
 W.bslice 1 [(.int .i64 0)] 2 [(0, t46_47), (1, t48_49)] L_40 fun t49_50 L_51 =>
 Q t49_50 L_51
def ref06_Registers_j0 (Q : AV → SH → Prop) (vs_38 : List AV) (L_40 : SH) : Prop :=
 W.cond (slotOf [1, 4, 37] vs_38 37) (
 (ref06_Registers_zt4 vs_38 L_40 Q)) (
 W.bin Try.prog Fl .eql 3 (slotOf [1, 4, 37] vs_38 4) (.int .i64 9) fun t44_45 =>
 W.cond t44_45 (
 (ref06_Registers_zt5 vs_38 L_40 Q)) (
 Q .nils L_40))
def ref06_Registers_zt6 (Q : AV → SH → Prop) (vs_13 : List AV) (L_15 : SH)  : Prop :=
 W.join (ref06_Registers_j0 Q) fun j_39 =>
 W.bin Try.prog Fl .eql 3 (slotOf [1, 4, 13] vs_13 4) (.int .i64 8) fun t38_52 =>
 W.cond t38_52 (
 j_39 [(slotOf [1, 4, 13] vs_13 1), (slotOf [1, 4, 13] vs_13 4), t38_52] L_15) (
 W.bin Try.prog Fl .eql 3 (slotOf [1, 4, 13] vs_13 4) (.int .i64 26) fun t39_53 =>
 j_39 [(slotOf [1, 4, 13] vs_13 1), (slotOf [1, 4, 13] vs_13 4), t39_53] L_15)
def ref06_Registers_zt7 (vs_13 : List AV) (L_15 : SH) (Q : AV → SH → Prop)  : Prop :=
 W.bin Try.prog Fl .eql 3 (slotOf [1, 4, 13] vs_13 4) (.int .i64 7) fun t31_31 =>
 W.cond t31_31 (
 (ref06_Registers_zt3 vs_13 L_15 Q)) (
 (ref06_Registers_zt6 Q vs_13 L_15))
def ref06_Registers_zt8 (vs_13 : List AV) (L_15 : SH) (Q : AV → SH → Prop)  : Prop :=
 W.bin Try.prog Fl .eql 3 (slotOf [1, 4, 13] vs_13 4) (.int .i64 4) fun t22_22 =>
 W.cond t22_22 (
 (ref06_Registers_zt2 vs_13 L_15 Q)) (
 (ref06_Registers_zt7 vs_13 L_15 Q))
def ref06_Registers_j1 (Q : AV → SH → Prop) (vs_13 : List AV) (L_15 : SH) : Prop :=
 W.cond (slotOf [1, 4, 13] vs_13 13) (
 (ref06_Registers_zt1 vs_13 L_15 Q)) (
 (ref06_Registers_zt8 vs_13 L_15 Q))
def ref06_Registers_zt9 (Q : AV → SH → Prop) (vs_6 : List AV) (L_8 : SH)  : Prop :=
 W.join (ref06_Registers_j1 Q) fun j_14 =>
 W.bin Try.prog Fl .eql 3 (slotOf [1, 4, 5] vs_6 4) (.int .i64 2) fun t14_54 =>
 W.cond t14_54 (
 j_14 [(slotOf [1, 4, 5] vs_6 1), (slotOf [1, 4, 5] vs_6 4), t14_54] L_8) (
 W.bin Try.prog Fl .eql 3 (slotOf [1, 4, 5] vs_6 4) (.int .i64 3) fun t15_55 =>
 j_14 [(slotOf [1, 4, 5] vs_6 1), (slotOf [1, 4, 5] vs_6 4), t15_55] L_8)
def ref06_Registers_j2 (Q : AV → SH → Prop) (vs_6 : List AV) (L_8 : SH) : Prop :=
 W.cond (slotOf [1, 4, 5] vs_6 5) (
 (ref06_Registers_zt0 vs_6 L_8 Q)) (
 (ref06_Registers_zt9 Q vs_6 L_8))
def ref06_Registers_zt10 (t4_5 : AV) (j_7 : W.Kn) (t1_2 : AV) (L_3 : SH)  : Prop :=
 W.bin Try.prog Fl .eql 3 t4_5 (.int .i64 10) fun t8_58 =>
 W.cond t8_58 (
 j_7 [t1_2, t4_5, t8_58] L_3) (
 W.bin Try.prog Fl .eql 3 t4_5 (.int .i64 27) fun t9_59 =>
 j_7 [t1_2, t4_5, t9_59] L_3)
def ref06_Registers_w (t0 : AV) (L : SH) (Q : AV → SH → Prop) : Prop :=
 W.box t0 L fun t1_0 L_1 =>
 W.frz1 t1_0 L_1 fun t1_2 L_3 =>
 W.faddr 0 t1_2 fun t3_4 =>
 W.load false 1 t3_4 L_3 fun t4_5 =>
 W.join (ref06_Registers_j2 Q) fun j_7 =>
 W.bin Try.prog Fl .eql 3 t4_5 (.int .i64 1) fun t6_56 =>
 W.cond t6_56 (
 j_7 [t1_2, t4_5, t6_56] L_3) (
 W.bin Try.prog Fl .eql 3 t4_5 (.int .i64 6) fun t7_57 =>
 W.cond t7_57 (
 j_7 [t1_2, t4_5, t7_57] L_3) (
 (ref06_Registers_zt10 t4_5 j_7 t1_2 L_3)))
theorem ref06_Registers_e (t0 : AV) (L : SH) (Q : AV → SH → Prop) : W.func Try.prog Fl ref06_Registers_t Try.f72 (Try.f72.body.getD .skip) [t0] L Q = ref06_Registers_w t0 L Q := by kernel_rfl
theorem ref06_Registers_ok (t0 : AV) (L : SH) (Q : AV → SH → Prop) (h : ref06_Registers_w t0 L Q) : CallA Try.prog 72 [t0] L Q :=
  func_sound (ht := ref06_Registers_t) fit Try.func72 (show Try.f72.body = some (Try.f72.body.getD .skip) by kernel_rfl) (Eq.mpr (ref06_Registers_e t0 L Q) h)

def ref05_Unary_t : Hints := ⟨fun k => none, fun k => [], fun k => [], fun k => []⟩
def ref05_Unary_zt0 (t0 : AV) (t1 : AV) (L : SH) (Q : AV → SH → Prop)  : Prop :=
 W.bin Try.prog Fl .eql 3 t0 (.int .i64 5) fun t12_2 =>
 W.cond t12_2 (
 W.bin Try.prog Fl .eql 2 t1 (.int .i64 0) fun t14_3 =>
 W.call Try.prog (.fn 93 []) [t14_3] L fun t15_4 L_5 =>
 Q (.tup [t15_4, (.bool true)]) L_5) (
 Q (.tup [(.int .i64 0), (.bool false)]) L)
def ref05_Unary_w (t0 t1 : AV) (L : SH) (Q : AV → SH → Prop) : Prop :=
 W.bin Try.prog Fl .eql 3 t0 (.int .i64 4) fun t8_0 =>
 W.cond t8_0 (
 W.un .neg t1 fun t10_1 =>
 Q (.tup [t10_1, (.bool true)]) L) (
 (ref05_Unary_zt0 t0 t1 L Q))
theorem ref05_Unary_e (t0 t1 : AV) (L : SH) (Q : AV → SH → Prop) : W.func Try.prog Fl ref05_Unary_t Try.f73 (Try.f73.body.getD .skip) [t0, t1] L Q = ref05_Unary_w t0 t1 L Q := by kernel_rfl
theorem ref05_Unary_ok (t0 t1 : AV) (L : SH) (Q : AV → SH → Prop) (h : ref05_Unary_w t0 t1 L Q) : CallA Try.prog 73 [t0, t1] L Q :=
  func_sound (ht := ref05_Unary_t) fit Try.func73 (show Try.f73.body = some (Try.f73.body.getD .skip) by kernel_rfl) (Eq.mpr (ref05_Unary_e t0 t1 L Q) h)

def ref07_operator_t : Hints := ⟨fun k => none, fun k => [], fun k => [], fun k => []⟩
def ref07_operator_w (t0 : AV) (L : SH) (Q : AV → SH → Prop) : Prop :=
 W.bin Try.prog Fl .lss 2 t0 (.int .i64 1) fun t4_0 =>
 W.grd t4_0 false (fun k_2 => k_2 t0 L) L fun t6_1 L_3 =>
 W.grd t4_0 false (fun k_5 => W.bin Try.prog Fl .gtr 2 t6_1 (.int .i64 100) fun v_7 =>
 k_5 v_7 L_3) L_3 fun t7_4 L_6 =>
 W.pick t4_0 (.bool true) t7_4 fun t8_8 =>
 W.cond t8_8 (
 Q (.int .i64 0) L_6) (
 Q t0 L_6)
theorem ref07_operator_e (t0 : AV) (L : SH) (Q : AV → SH → Prop) : W.func Try.prog Fl ref07_operator_t Try.f74 (Try.f74.body.getD .skip) [t0] L Q = ref07_operator_w t0 L Q := by kernel_rfl
theorem ref07_operator_ok (t0 : AV) (L : SH) (Q : AV → SH → Prop) (h : ref07_operator_w t0 L Q) : CallA Try.prog 74 [t0] L Q :=
  func_sound (ht := ref07_operator_t) fit Try.func74 (show Try.f74.body = some (Try.f74.body.getD .skip) by kernel_rfl) (Eq.mpr (ref07_operator_e t0 L Q) h)

def ref05_Binary_t : Hints := ⟨fun k => none, fun k => [], fun k => [], fun k => []⟩
def ref05_Binary_zt0 (t2 : AV) (Q : AV → SH → Prop) (L : SH) (t1 : AV)  : Prop :=
 W.bin Try.prog Fl .eql 2 t2 (.int .i64 0) fun t27_7 =>
 W.cond t27_7 (
 Q (.tup [(.int .i64 0), (.bool true)]) L) (
 W.bin Try.prog Fl .quo 2 t1 t2 fun t30_8 =>
 Q (.tup [t30_8, (.bool true)]) L)
def ref05_Binary_zt1 (t2 : AV) (Q : AV → SH → Prop) (L : SH) (t1 : AV)  : Prop :=
 W.bin Try.prog Fl .eql 2 t2 (.int .i64 0) fun t34_10 =>
 W.cond t34_10 (
 Q (.tup [(.int .i64 0), (.bool true)]) L) (
 W.bin Try.prog Fl .rem 2 t1 t2 fun t37_11 =>
 Q (.tup [t37_11, (.bool true)]) L)
def ref05_Binary_zt2 (t1 : AV) (t2 : AV) (L : SH) (Q : AV → SH → Prop)  : Prop :=
 W.bin Try.prog Fl .neq 2 t1 (.int .i64 0) fun t77_37 =>
 W.grd t77_37 true (fun k_39 => k_39 t2 L) L fun t79_38 L_40 =>
 W.grd t77_37 true (fun k_42 => W.bin Try.prog Fl .neq 2 t79_38 (.int .i64 0) fun v_44 =>
 k_42 v_44 L_40) L_40 fun t80_41 L_43 =>
 W.pick t77_37 t80_41 (.bool false) fun t81_45 =>
 W.call Try.prog (.fn 93 []) [t81_45] L_43 fun t82_46 L_47 =>
 Q (.tup [t82_46, (.bool true)]) L_47
def ref05_Binary_zt3 (t1 : AV) (t2 : AV) (L : SH) (Q : AV → SH → Prop)  : Prop :=
 W.bin Try.prog Fl .neq 2 t1 (.int .i64 0) fun t86_49 =>
 W.grd t86_49 false (fun k_51 => k_51 t2 L) L fun t88_50 L_52 =>
 W.grd t86_49 false (fun k_54 => W.bin Try.prog Fl .neq 2 t88_50 (.int .i64 0) fun v_56 =>
 k_54 v_56 L_52) L_52 fun t89_53 L_55 =>
 W.pick t86_49 (.bool true) t89_53 fun t90_57 =>
 W.call Try.prog (.fn 93 []) [t90_57] L_55 fun t91_58 L_59 =>
 Q (.tup [t91_58, (.bool true)]) L_59
def ref05_Binary_zt4 (t0 : AV) (t1 : AV) (t2 : AV) (L : SH) (Q : AV → SH → Prop)  : Prop :=
 W.bin Try.prog Fl .eql 3 t0 (.int .i64 17) fun t75_36 =>
 W.cond t75_36 (
 (ref05_Binary_zt2 t1 t2 L Q)) (
 W.bin Try.prog Fl .eql 3 t0 (.int .i64 18) fun t84_48 =>
 W.cond t84_48 (
 (ref05_Binary_zt3 t1 t2 L Q)) (
 Q (.tup [(.int .i64 0), (.bool false)]) L))
def ref05_Binary_zt5 (t0 : AV) (t1 : AV) (t2 : AV) (L : SH) (Q : AV → SH → Prop)  : Prop :=
 W.bin Try.prog Fl .eql 3 t0 (.int .i64 16) fun t69_32 =>
 W.cond t69_32 (
 W.bin Try.prog Fl .geq 2 t1 t2 fun t72_33 =>
 W.call Try.prog (.fn 93 []) [t72_33] L fun t73_34 L_35 =>
 Q (.tup [t73_34, (.bool true)]) L_35) (
 (ref05_Binary_zt4 t0 t1 t2 L Q))
def ref05_Binary_zt6 (t0 : AV) (t1 : AV) (t2 : AV) (L : SH) (Q : AV → SH → Prop)  : Prop :=
 W.bin Try.prog Fl .eql 3 t0 (.int .i64 15) fun t63_28 =>
 W.cond t63_28 (
 W.bin Try.prog Fl .gtr 2 t1 t2 fun t66_29 =>
 W.call Try.prog (.fn 93 []) [t66_29] L fun t67_30 L_31 =>
 Q (.tup [t67_30, (.bool true)]) L_31) (
 (ref05_Binary_zt5 t0 t1 t2 L Q))
def ref05_Binary_zt7 (t0 : AV) (t1 : AV) (t2 : AV) (L : SH) (Q : AV → SH → Prop)  : Prop :=
 W.bin Try.prog Fl .eql 3 t0 (.int .i64 14) fun t57_24 =>
 W.cond t57_24 (
 W.bin Try.prog Fl .leq 2 t1 t2 fun t60_25 =>
 W.call Try.prog (.fn 93 []) [t60_25] L fun t61_26 L_27 =>
 Q (.tup [t61_26, (.bool true)]) L_27) (
 (ref05_Binary_zt6 t0 t1 t2 L Q))
def ref05_Binary_zt8 (t0 : AV) (t1 : AV) (t2 : AV) (L : SH) (Q : AV → SH → Prop)  : Prop :=
 W.bin Try.prog Fl .eql 3 t0 (.int .i64 13) fun t51_20 =>
 W.cond t51_20 (
 W.bin Try.prog Fl .lss 2 t1 t2 fun t54_21 =>
 W.call Try.prog (.fn 93 []) [t54_21] L fun t55_22 L_23 =>
 Q (.tup [t55_22, (.bool true)]) L_23) (
 (ref05_Binary_zt7 t0 t1 t2 L Q))
def ref05_Binary_zt9 (t0 : AV) (t1 : AV) (t2 : AV) (L : SH) (Q : AV → SH → Prop)  : Prop :=
 W.bin Try.prog Fl .eql 3 t0 (.int .i64 12) fun t45_16 =>
 W.cond t45_16 (
 W.bin Try.prog Fl .neq 2 t1 t2 fun t48_17 =>
 W.call Try.prog (.fn 93 []) [t48_17] L fun t49_18 L_19 =>
 Q (.tup [t49_18, (.bool true)]) L_19) (
 (ref05_Binary_zt8 t0 t1 t2 L Q))
def ref05_Binary_zt10 (t0 : AV) (t1 : AV) (t2 : AV) (L : SH) (Q : AV → SH → Prop)  : Prop :=
 W.bin Try.prog Fl .eql 3 t0 (.int .i64 11) fun t39_12 =>
 W.cond t39_12 (
 W.bin Try.prog Fl .eql 2 t1 t2 fun t42_13 =>
 W.call Try.prog (.fn 93 []) [t42_13] L fun t43_14 L_15 =>
 Q (.tup [t43_14, (.bool true)]) L_15) (
 (ref05_Binary_zt9 t0 t1 t2 L Q))
def ref05_Binary_zt11 (t0 : AV) (t2 : AV) (Q : AV → SH → Prop) (L : SH) (t1 : AV)  : Prop :=
 W.bin Try.prog Fl .eql 3 t0 (.int .i64 9) fun t25_6 =>
 W.cond t25_6 (
 (ref05_Binary_zt0 t2 Q L t1)) (
 W.bin Try.prog Fl .eql 3 t0 (.int .i64 10) fun t32_9 =>
 W.cond t32_9 (
 (ref05_Binary_zt1 t2 Q L t1)) (
 (ref05_Binary_zt10 t0 t1 t2 L Q)))
def ref05_Binary_zt12 (t0 : AV) (t1 : AV) (t2 : AV) (Q : AV → SH → Prop) (L : SH)  : Prop :=
 W.bin Try.prog Fl .eql 3 t0 (.int .i64 8) fun t20_4 =>
 W.cond t20_4 (
 W.bin Try.prog Fl .mul 2 t1 t2 fun t23_5 =>
 Q (.tup [t23_5, (.bool true)]) L) (
 (ref05_Binary_zt11 t0 t2 Q L t1))
def ref05_Binary_zt13 (t0 : AV) (t1 : AV) (t2 : AV) (Q : AV → SH → Prop) (L : SH)  : Prop :=
 W.bin Try.prog Fl .eql 3 t0 (.int .i64 7) fun t15_2 =>
 W.cond t15_2 (
 W.bin Try.prog Fl .sub 2 t1 t2 fun t18_3 =>
 Q (.tup [t18_3, (.bool true)]) L) (
 (ref05_Binary_zt12 t0 t1 t2 Q L))
def ref05_Binary_w (t0 t1 t2 : AV) (L : SH) (Q : AV → SH → Prop) : Prop :=
 W.bin Try.prog Fl .eql 3 t0 (.int .i64 6) fun t10_0 =>
 W.cond t10_0 (
 W.bin Try.prog Fl .add 2 t1 t2 fun t13_1 =>
 Q (.tup [t13_1, (.bool true)]) L) (
 (ref05_Binary_zt13 t0 t1 t2 Q L))
theorem ref05_Binary_e (t0 t1 t2 : AV) (L : SH) (Q : AV → SH → Prop) : W.func Try.prog Fl ref05_Binary_t Try.f75 (Try.f75.body.getD .skip) [t0, t1, t2] L Q = ref05_Binary_w t0 t1 t2 L Q := by kernel_rfl
theorem ref05_Binary_ok (t0 t1 t2 : AV) (L : SH) (Q : AV → SH → Prop) (h : ref05_Binary_w t0 t1 t2 L Q) : CallA Try.prog 75 [t0, t1, t2] L Q :=
  func_sound (ht := ref05_Binary_t) fit Try.func75 (show Try.f75.body = some (Try.f75.body.getD .skip) by kernel_rfl) (Eq.mpr (ref05_Binary_e t0 t1 t2 L Q) h)

def eval_truth_t : Hints := ⟨fun k => none, fun k => [], fun k => [], fun k => []⟩
def eval_truth_w (t0 : AV) (L : SH) (Q : AV → SH → Prop) : Prop :=
 W.cond t0 (
 Q (.int .i64 1) L) (
 Q (.int .i64 0) L)
theorem eval_truth_e (t0 : AV) (L : SH) (Q : AV → SH → Prop) : W.func Try.prog Fl eval_truth_t Try.f92 (Try.f92.body.getD .skip) [t0] L Q = eval_truth_w t0 L Q := by kernel_rfl
theorem eval_truth_ok (t0 : AV) (L : SH) (Q : AV → SH → Prop) (h : eval_truth_w t0 L Q) : CallA Try.prog 92 [t0] L Q :=
  func_sound (ht := eval_truth_t) fit Try.func92 (show Try.f92.body = some (Try.f92.body.getD .skip) by kernel_rfl) (Eq.mpr (eval_truth_e t0 L Q) h)

def ref05_truth_t : Hints := ⟨fun k => none, fun k => [], fun k => [], fun k => []⟩
def ref05_truth_w (t0 : AV) (L : SH) (Q : AV → SH → Prop) : Prop :=
 W.cond t0 (
 Q (.int .i64 1) L) (
 Q (.int .i64 0) L)
theorem ref05_truth_e (t0 : AV) (L : SH) (Q : AV → SH → Prop) : W.func Try.prog Fl ref05_truth_t Try.f93 (Try.f93.body.getD .skip) [t0] L Q = ref05_truth_w t0 L Q := by kernel_rfl
theorem ref05_truth_ok (t0 : AV) (L : SH) (Q : AV → SH → Prop) (h : ref05_truth_w t0 L Q) : CallA Try.prog 93 [t0] L Q :=
  func_sound (ht := ref05_truth_t) fit Try.func93 (show Try.f93.body = some (Try.f93.body.getD .skip) by kernel_rfl) (Eq.mpr (ref05_truth_e t0 L Q) h)

end Go.Proofs.Ytadjimfkfmojkaa.Am

end
section
namespace Go.Proofs.Ytadjimfkfmojkaa.Am
set_option linter.unusedVariables false
set_option maxRecDepth 100000
def ref07_Union_t : Hints := ⟨fun k => none, fun k => if k = 3 then [0, 1, 5, 6] else if k = 7 then [1, 5, 7] else [], fun k => [], fun k => []⟩
def ref07_Union_c0 (vs_0 : List AV) (nx_1 : W.Kn) (t19_7 : AV) (L_8 : SH) : Prop :=
 W.bin Try.prog Fl .add 3 (slotOf [0, 1, 5, 6] vs_0 6) (.int .i64 1) fun t13_9 =>
 nx_1 [(slotOf [0, 1, 5, 6] vs_0 0), (slotOf [0, 1, 5, 6] vs_0 1), t19_7, t13_9] L_8
def ref07_Union_zt0 (vs_0 : List AV) (L_2 : SH) (nx_1 : W.Kn)  : Prop :=
 W.idx 1 (slotOf [0, 1, 5, 6] vs_0 0) (slotOf [0, 1, 5, 6] vs_0 6) L_2 fun t17_5 =>
 W.load false 1 t17_5 L_2 fun t18_6 =>
 W.call Try.prog (.fn 64 []) [(slotOf [0, 1, 5, 6] vs_0 5), t18_6] L_2 (ref07_Union_c0 vs_0 nx_1)
def ref07_Union_c1 (vs_10 : List AV) (nx_11 : W.Kn) (t31_17 : AV) (L_18 : SH) : Prop :=
 W.bin Try.prog Fl .add 3 (slotOf [1, 5, 7] vs_10 7) (.int .i64 1) fun t25_19 =>
 nx_11 [(slotOf [1, 5, 7] vs_10 1), t31_17, t25_19] L_18
def ref07_Union_zt1 (vs_10 : List AV) (L_12 : SH) (nx_11 : W.Kn)  : Prop :=
 W.idx 1 (slotOf [1, 5, 7] vs_10 1) (slotOf [1, 5, 7] vs_10 7) L_12 fun t29_15 =>
 W.load false 1 t29_15 L_12 fun t30_16 =>
 W.call Try.prog (.fn 64 []) [(slotOf [1, 5, 7] vs_10 5), t30_16] L_12 (ref07_Union_c1 vs_10 nx_11)
def ref07_Union_l2 (Q : AV → SH → Prop) (vs_10 : List AV) (L_12 : SH) (nx_11 : W.Kn) : Prop :=
 W.len (slotOf [1, 5, 7] vs_10 1) fun t22_13 =>
 W.bin Try.prog Fl .lss 3 (slotOf [1, 5, 7] vs_10 7) t22_13 fun t23_14 =>
 W.cond t23_14 (
 (ref07_Union_zt1 vs_10 L_12 nx_11)) (
 Q (slotOf [1, 5, 7] vs_10 5) L_12)
def ref07_Union_l3 (Q : AV → SH → Prop) (vs_0 : List AV) (L_2 : SH) (nx_1 : W.Kn) : Prop :=
 W.len (slotOf [0, 1, 5, 6] vs_0 0) fun t10_3 =>
 W.bin Try.prog Fl .lss 3 (slotOf [0, 1, 5, 6] vs_0 6) t10_3 fun t11_4 =>
 W.cond t11_4 (
 (ref07_Union_zt0 vs_0 L_2 nx_1)) (
 W.loop (ref07_Union_l2 Q) [(slotOf [0, 1, 5, 6] vs_0 1), (slotOf [0, 1, 5, 6] vs_0 5), (.int .i64 0)] L_2)
def ref07_Union_w (t0 t1 : AV) (L : SH) (Q : AV → SH → Prop) : Prop :=
 W.loop (ref07_Union_l3 Q) [t0, t1, .nils, (.int .i64 0)] L
theorem ref07_Union_e (t0 t1 : AV) (L : SH) (Q : AV → SH → Prop) : W.func Try.prog Fl ref07_Union_t Try.f57 (Try.f57.body.getD .skip) [t0, t1] L Q = ref07_Union_w t0 t1 L Q := by kernel_rfl
theorem ref07_Union_ok (t0 t1 : AV) (L : SH) (Q : AV → SH → Prop) (h : ref07_Union_w t0 t1 L Q) : CallA Try.prog 57 [t0, t1] L Q :=
  func_sound (ht := ref07_Union_t) fit Try.func57 (show Try.f57.body = some (Try.f57.body.getD .skip) by kernel_rfl) (Eq.mpr (ref07_Union_e t0 t1 L Q) h)

def ref07_Put_t : Hints := ⟨fun k => none, fun k => if k = 2 then [0, 1, 5] else [], fun k => [], fun k => []⟩
def ref07_Put_zt0 (L_49 : SH) (vs_0 : List AV) (Q : AV → SH → Prop)  : Prop :=
 W.bslice 1 [(.int .i64 0)] 0 [] L_49 fun t34_52 L_53 =>
 W.slice 1 (slotOf [0, 1, 5] vs_0 0) none (some (slotOf [0, 1, 5] vs_0 5)) none L_53 fun t37_54 =>
 W.append 1 8 t34_52 t37_54 L_53 fun t38_55 L_56 =>
 W.bslice 1 [(.int .i64 0)] 1 [(0, (slotOf [0, 1, 5] vs_0 1))] L_56 fun t41_57 L_58 =>
 W.append 1 8 t38_55 t41_57 L_58 fun t42_59 L_60 =>
 W.slice 1 (slotOf [0, 1, 5] vs_0 0) (some (slotOf [0, 1, 5] vs_0 5)) none none L_60 fun t46_61 =>
 W.append 1 8 t42_59 t46_61 L_60 fun t47_62 L_63 =>
 Q t47_62 L_63
def ref07_Put_zt1 (vs_0 : List AV) (L_24 : SH) (Q : AV → SH → Prop)  : Prop :=
 W.len (slotOf [0, 1, 5] vs_0 0) fun t23_28 =>
 W.bin Try.prog Fl .lss 3 (slotOf [0, 1, 5] vs_0 5) t23_28 fun t24_29 =>
 W.grd t24_29 true (fun k_31 => k_31 (slotOf [0, 1, 5] vs_0 0) L_24) L_24 fun t26_30 L_32 =>
 W.grd t24_29 true (fun k_34 => k_34 (slotOf [0, 1, 5] vs_0 5) L_32) L_32 fun t27_33 L_35 =>
 W.grd t24_29 true (fun k_37 => W.idx 1 t26_30 t27_33 L_35 fun v_39 =>
 k_37 v_39 L_35) L_35 fun t28_36 L_38 =>
 W.grd t24_29 true (fun k_41 => W.load false 1 t28_36 L_38 fun v_43 =>
 k_41 v_43 L_38) L_38 fun t29_40 L_42 =>
 W.grd t24_29 true (fun k_45 => k_45 (slotOf [0, 1, 5] vs_0 1) L_42) L_42 fun t30_44 L_46 =>
 W.grd t24_29 true (fun k_48 => W.bin Try.prog Fl .eql 3 t29_40 t30_44 fun v_50 =>
 k_48 v_50 L_46) L_46 fun t31_47 L_49 =>
 W.pick t24_29 t31_47 (.bool false) fun t32_51 =>
 W.cond t32_51 (
 Q (slotOf [0, 1, 5] vs_0 0) L_49) (
 (ref07_Put_zt0 L_49 vs_0 Q))
def ref07_Put_l0 (Q : AV → SH → Prop) (vs_0 : List AV) (L_2 : SH) (nx_1 : W.Kn) : Prop :=
 W.len (slotOf [0, 1, 5] vs_0 0) fun t9_3 =>
 W.bin Try.prog Fl .lss 3 (slotOf [0, 1, 5] vs_0 5) t9_3 fun t10_4 =>
 W.grd t10_4 true (fun k_6 => k_6 (slotOf [0, 1, 5] vs_0 0) L_2) L_2 fun t12_5 L_7 =>
 W.grd t10_4 true (fun k_9 => k_9 (slotOf [0, 1, 5] vs_0 5) L_7) L_7 fun t13_8 L_10 =>
 W.grd t10_4 true (fun k_12 => W.idx 1 t12_5 t13_8 L_10 fun v_14 =>
 k_12 v_14 L_10) L_10 fun t14_11 L_13 =>
 W.grd t10_4 true (fun k_16 => W.load false 1 t14_11 L_13 fun v_18 =>
 k_16 v_18 L_13) L_13 fun t15_15 L_17 =>
 W.grd t10_4 true (fun k_20 => k_20 (slotOf [0, 1, 5] vs_0 1) L_17) L_17 fun t16_19 L_21 =>
 W.grd t10_4 true (fun k_23 => W.bin Try.prog Fl .lss 3 t15_15 t16_19 fun v_25 =>
 k_23 v_25 L_21) L_21 fun t17_22 L_24 =>
 W.pick t10_4 t17_22 (.bool false) fun t18_26 =>
 W.cond t18_26 (
 W.bin Try.prog Fl .add 3 (slotOf [0, 1, 5] vs_0 5) (.int .i64 1) fun t20_27 =>
 nx_1 [(slotOf [0, 1, 5] vs_0 0), (slotOf [0, 1, 5] vs_0 1), t20_27] L_24) (
 (ref07_Put_zt1 vs_0 L_24 Q))
def ref07_Put_w (t0 t1 : AV) (L : SH) (Q : AV → SH → Prop) : Prop :=
 W.loop (ref07_Put_l0 Q) [t0, t1, (.int .i64 0)] L
theorem ref07_Put_e (t0 t1 : AV) (L : SH) (Q : AV → SH → Prop) : W.func Try.prog Fl ref07_Put_t Try.f64 (Try.f64.body.getD .skip) [t0, t1] L Q = ref07_Put_w t0 t1 L Q := by kernel_rfl
theorem ref07_Put_ok (t0 t1 : AV) (L : SH) (Q : AV → SH → Prop) (h : ref07_Put_w t0 t1 L Q) : CallA Try.prog 64 [t0, t1] L Q :=
  func_sound (ht := ref07_Put_t) fit Try.func64 (show Try.f64.body = some (Try.f64.body.getD .skip) by kernel_rfl) (Eq.mpr (ref07_Put_e t0 t1 L Q) h)

end Go.Proofs.Ytadjimfkfmojkaa.Am

end
section
namespace Go.Proofs.Ytadjimfkfmojkaa.Am
set_option linter.unusedVariables false
set_option maxRecDepth 100000
def ref07_SameInts_t : Hints := ⟨fun k => none, fun k => if k = 4 then [0, 1, 5] else [], fun k => [], fun k => if k = 6 then [0, 0, 3, 7, 0, 0, 48, 112, 255] else []⟩
def ref07_SameInts_zt0 (vs_3 : List AV) (L_5 : SH) (Q : AV → SH → Prop) (nx_4 : W.Kn)  : Prop :=
 (true = true) ∧ (
 W.calm [] ⟨2, (slOf (slotOf [0, 1, 5] vs_3 0)), [], [], false, []⟩ (
 W.idx 1 (slotOf [0, 1, 5] vs_3 0) (slotOf [0, 1, 5] vs_3 5) L_5 fun t19_8 =>
 W.note ⟨(slOf (slotOf [0, 1, 5] vs_3 0)), [], [], []⟩ fun r_9 =>
 W.calm [] ⟨3, (blocksOf t19_8), [], [], false, []⟩ (
 W.load false 1 t19_8 L_5 fun t20_10 =>
 W.note ⟨(blocksOf t19_8), [], [], []⟩ fun r_11 =>
 W.calm [⟨3, r_11.reads, r_11.writes, r_11.made, false, r_11.old⟩, ⟨2, r_9.reads, r_9.writes, r_9.made, false, r_9.old⟩] ⟨6, (slOf (slotOf [0, 1, 5] vs_3 1)), [], [], false, []⟩ (
 W.idx 1 (slotOf [0, 1, 5] vs_3 1) (slotOf [0, 1, 5] vs_3 5) L_5 fun t23_12 =>
 W.note ⟨(slOf (slotOf [0, 1, 5] vs_3 1)), [], [], []⟩ fun r_13 =>
 W.calm [⟨3, r_11.reads, r_11.writes, r_11.made, false, r_11.old⟩, ⟨2, r_9.reads, r_9.writes, r_9.made, false, r_9.old⟩] ⟨7, (blocksOf t23_12), [], [], false, []⟩ (
 W.load false 1 t23_12 L_5 fun t24_14 =>
 W.note ⟨(blocksOf t23_12), [], [], []⟩ fun r_15 =>
 W.bin Try.prog Fl .neq 3 t20_10 t24_14 fun t25_16 =>
 W.cond t25_16 (
 Q (.bool false) L_5) (
 W.bin Try.prog Fl .add 3 (slotOf [0, 1, 5] vs_3 5) (.int .i64 1) fun t16_17 =>
 nx_4 [(slotOf [0, 1, 5] vs_3 0), (slotOf [0, 1, 5] vs_3 1), t16_17] L_5))))))
def ref07_SameInts_l0 (Q : AV → SH → Prop) (vs_3 : List AV) (L_5 : SH) (nx_4 : W.Kn) : Prop :=
 W.len (slotOf [0, 1, 5] vs_3 0) fun t13_6 =>
 W.bin Try.prog Fl .lss 3 (slotOf [0, 1, 5] vs_3 5) t13_6 fun t14_7 =>
 W.cond t14_7 (
 (ref07_SameInts_zt0 vs_3 L_5 Q nx_4)) (
 Q (.bool true) L_5)
def ref07_SameInts_w (t0 t1 : AV) (L : SH) (Q : AV → SH → Prop) : Prop :=
 W.len t0 fun t7_0 =>
 W.len t1 fun t9_1 =>
 W.bin Try.prog Fl .neq 3 t7_0 t9_1 fun t10_2 =>
 W.cond t10_2 (
 Q (.bool false) L) (
 W.loop (ref07_SameInts_l0 Q) [t0, t1, (.int .i64 0)] L)
theorem ref07_SameInts_e (t0 t1 : AV) (L : SH) (Q : AV → SH → Prop) : W.func Try.prog Fl ref07_SameInts_t Try.f34 (Try.f34.body.getD .skip) [t0, t1] L Q = ref07_SameInts_w t0 t1 L Q := by kernel_rfl
theorem ref07_SameInts_ok (t0 t1 : AV) (L : SH) (Q : AV → SH → Prop) (h : ref07_SameInts_w t0 t1 L Q) : CallA Try.prog 34 [t0, t1] L Q :=
  func_sound (ht := ref07_SameInts_t) fit Try.func34 (show Try.f34.body = some (Try.f34.body.getD .skip) by kernel_rfl) (Eq.mpr (ref07_SameInts_e t0 t1 L Q) h)

end Go.Proofs.Ytadjimfkfmojkaa.Am

end
section
namespace Go.Proofs.Ytadjimfkfmojkaa.Am
set_option linter.unusedVariables false
structure W.callM (P : Program) (g : FuncId) (args : List AV) (L : SH) (KL : AV → SH → Prop) : Prop where
  h : CallA P g args L KL
structure W.dcallM (P : Program) (us : List W.WR) (i : Nat) (g : FuncId) (args : List AV) (L : SH) (KN : AV → SH → List Nat → Prop) : Prop where
  h : ∃ Kc R : SH, L.Perm (Kc ++ R) ∧ (∀ x ∈ us, W.free x ⟨i, [], Kc.names, [], true, []⟩) ∧ CallA P g args Kc fun v Kc' => KN v (Kc' ++ R) Kc.names
section
variable {P : Program} {g : FuncId} {args : List AV} {L : SH} {KL : AV → SH → Prop} {KN : AV → SH → List Nat → Prop} {us : List W.WR} {i : Nat} {v : AV}
theorem a_mark (h : W.callM P g args L KL) : W.call P (.fn g []) args L KL := by rw [call_eq, List.append_nil]; exact h.h
theorem m_call (h1 : PureA P g args v) (h : KL v L) : W.callM P g args L KL := ⟨h1.call h⟩
theorem m_callD {b : Nat} {x : Blk} {L' : SH} {R1 : AV → SH → Prop} (h : CallA P g args [(b, x)] R1) (hd : Del b x L L') (hq : ∀ v K', R1 v K' → KL v (K' ++ L')) : W.callM P g args L KL := ⟨h.frame hd.perm hq⟩
theorem CallA.nd {f : FuncId} {Q : AV → SH → Prop} (hb : ∃ fn c, P.funcs[f]? = some fn ∧ fn.body = some c) (h : L.names.Nodup → CallA P f args L Q) : CallA P f args L Q := ⟨hb, fun H hB hs => (h hs.nd).2 H hB hs⟩
/-- nothing but the arguments is read anew -/
theorem FzS.vals {vs vs2 : List AV} (h : FzL [] vs vs2) : FzS vs L vs2 L := .drop (K := []) (.refl _) h.at_.1 h.at_.2
theorem h_fn (k : FuncId) (h : W.callM P k args L KL) : W.callM P k args L KL := h
theorem h_dfn (k : FuncId) (h : W.dcallM P us i k args L KN) : W.dcallM P us i k args L KN := h
theorem a_dmark (h : W.dcallM P us i g args L KN) : W.dcall P us i (.fn g []) args L KN := by rw [dcall_eq, List.append_nil]; exact h.h
theorem m_dcall (h : PureA P g args v) (hf : ∀ x ∈ us, W.free x ⟨i, [], [], [], true, []⟩) (hk : KN v L []) : W.dcallM P us i g args L KN :=
  ⟨[], L, .refl _, hf, CallA.mono h fun u K ⟨h1, h2⟩ => by subst h1; subst h2; exact hk⟩
end
theorem h_load1 {n : Nat} {a : AV} {L : SH} {K : AV → Prop} (h : W.load false n a L K) : W.load false n a L K := h
theorem h_row {n : Nat} {a : AV} {L : SH} {K : AV → Prop} (h : W.load true n a L K) : W.load true n a L K := h
theorem h_faddr {off : Nat} {x : AV} {K : AV → Prop} (h : W.faddr off x K) : W.faddr off x K := h
theorem h_bin {P : Program} {F : TypeId → Option (List TypeId)} {op : BinOp} {t : TypeId} {x y : AV} {K : AV → Prop} (h : W.bin P F op t x y K) : W.bin P F op t x y K := h
theorem h_cond {v : AV} {A B : Prop} (h : W.cond v A B) : W.cond v A B := h
theorem h_idx {n : Nat} {x ix : AV} {L : SH} {K : AV → Prop} (h : W.idx n x ix L K) : W.idx n x ix L K := h
theorem h_len {x : AV} {K : AV → Prop} (h : W.len x K) : W.len x K := h
theorem h_ext {i : Nat} {x : AV} {K : AV → Prop} (h : W.ext i x K) : W.ext i x K := h
theorem h_calm {us : List W.WR} {y : W.WR} {A : Prop} (h : W.calm us y A) : W.calm us y A := h
theorem h_note {r : W.Fp} {K : W.Fp → Prop} (h : W.note r K) : W.note r K := h
theorem h_pick {c x y : AV} {K : AV → Prop} (h : W.pick c x y K) : W.pick c x y K := h
theorem h_grd {x : AV} {want : Bool} {A : (AV → SH → Prop) → Prop} {L : SH} {K : AV → SH → Prop} (h : W.grd x want A L K) : W.grd x want A L K := h
theorem h_dgrd {x : AV} {want : Bool} {A : (AV → SH → W.Fp → Prop) → Prop} {L : SH} {K : AV → SH → W.Fp → Prop} (h : W.dgrd x want A L K) : W.dgrd x want A L K := h
theorem h_un {op : UnOp} {x : AV} {K : AV → Prop} (h : W.un op x K) : W.un op x K := h
theorem h_box {x : AV} {L : SH} {K : AV → SH → Prop} (h : W.box x L K) : W.box x L K := h
theorem h_frz1 {v : AV} {L : SH} {K : AV → SH → Prop} (h : W.frz1 v L K) : W.frz1 v L K := h
theorem h_store {n : Nat} {a v : AV} {L : SH} {K : SH → Prop} (h : W.store n a v L K) : W.store n a v L K := h
theorem h_idxP {len n : Nat} {x ix : AV} {K : AV → Prop} (h : W.idxP len n x ix K) : W.idxP len n x ix K := h
theorem h_bslice {n : Nat} {z : List AV} {len : Nat} {ps : List (Nat × AV)} {L : SH} {K : AV → SH → Prop} (h : W.bslice n z len ps L K) : W.bslice n z len ps L K := h
theorem h_mslice {n by_ : Nat} {z : List AV} {l c : AV} {L : SH} {K : AV → SH → Prop} (h : W.mslice n by_ z l c L K) : W.mslice n by_ z l c L K := h
theorem h_nilchk {x : AV} {K : AV → Prop} (h : W.nilchk x K) : W.nilchk x K := h
end Go.Proofs.Ytadjimfkfmojkaa.Am

end
section
namespace Go.Proofs.Ytadjimfkfmojkaa.Am
set_option linter.unusedVariables false
section
variable {P : Program} {F : TypeId → Option (List TypeId)} {K : AV → Prop} {KL : AV → SH → Prop} {L : SH}
theorem b_load_q {n : Nat} {rows : List (List AV)} {i off : Nat} {r : List AV} {v : AV} (h : K v) (h1 : rows[i]? = some r := by first | assumption | rfl) (h2 : r[off]? = some v := by rfl) : W.load false n (.pptr rows i off) L K := a_load_q h1 h2 h
theorem b_load_i {α : Type} [Inhabited α] {f : α → List AV} {l : List α} {n : Nat} {i : Int} {off : Nat} {v : AV} (h : K v) (h1 : inB i l.length = true := by assumption) (h2 : (f (l.getD i.toNat default))[off]? = some v := by rfl) : W.load false n (.pptr (l.map f) i.toNat off) L K := a_load_q (at_inB h1) h2 h
theorem b_load_p {n b i off : Nat} {x : Blk} {r : List AV} {v : AV} (h : K v) (hm : (b, x) ∈ L := by repeat constructor) (h1 : x.rows[i]? = some r := by first | assumption | rfl) (h2 : r[off]? = some v := by rfl) : W.load false n (.ptr b i off) L K := a_load_p hm h1 h2 h
theorem b_row_q {n : Nat} {rows : List (List AV)} {i : Nat} {r : List AV} (h : K (.agg r)) (h1 : rows[i]? = some r := by first | assumption | rfl) (h2 : r.length = n := by rfl) : W.load true n (.pptr rows i 0) L K := a_row_q h1 h2 h
theorem b_row_i {α : Type} [Inhabited α] {f : α → List AV} {l : List α} {n : Nat} {i : Int} (h : K (.agg (f (l.getD i.toNat default)))) (h1 : inB i l.length = true := by assumption) (h2 : (f (l.getD i.toNat default)).length = n := by rfl) : W.load true n (.pptr (l.map f) i.toNat 0) L K := a_row_q (at_inB h1) h2 h
theorem b_row_p {n b i : Nat} {x : Blk} {r : List AV} (h : K (.agg r)) (hm : (b, x) ∈ L := by repeat constructor) (h1 : x.rows[i]? = some r := by first | assumption | rfl) (h2 : r.length = n := by rfl) : W.load true n (.ptr b i 0) L K := a_row_p hm h1 h2 h
theorem b_rem {t : TypeId} {k : IntKind} {a b : Int} (h : K (.int k (a.tmod b))) (hb : b ≠ 0 := by first | assumption | decide | omega | exact of_decide_eq_false (by assumption)) : W.bin P F .rem t (.int k a) (.int k b) K := a_rem hb h
theorem b_quo {t : TypeId} {k : IntKind} {a b : Int} (h : K (.int k (k.wrap (a.tdiv b)))) (hb : b ≠ 0 := by first | assumption | decide | omega | exact of_decide_eq_false (by assumption)) : W.bin P F .quo t (.int k a) (.int k b) K := a_quo hb h
theorem b_cond_t {p : Bool} {A B : Prop} (h : A) (hp : p = true := by first | assumption | rfl) : W.cond (.bool p) A B := a_cond_t hp h
theorem b_cond_f {p : Bool} {A B : Prop} (h : B) (hp : p = false := by first | assumption | rfl) : W.cond (.bool p) A B := a_cond_f hp h
theorem b_idx_n {n : Nat} {rows : List (List AV)} {k : IntKind} {j : Nat} {r : List AV} (h : K (.pptr rows j 0)) (h1 : rows[j]? = some r := by first | assumption | rfl) (h2 : r.length = n := by rfl) : W.idx n (.lst rows) (.int k (j : Int)) L K := a_idx_n h1 h2 h
theorem b_idx_l {n : Nat} {rows : List (List AV)} {k : IntKind} {i : Int} {r : List AV} (h : K (.pptr rows i.toNat 0)) (h0 : 0 ≤ i := by first | decide | omega) (h1 : rows[i.toNat]? = some r := by first | assumption | rfl) (h2 : r.length = n := by rfl) : W.idx n (.lst rows) (.int k i) L K := a_idx_l h0 h1 h2 h
theorem b_idx_i {α : Type} [Inhabited α] {f : α → List AV} {l : List α} {n : Nat} {k : IntKind} {i : Int} (h : K (.pptr (l.map f) i.toNat 0)) (h1 : inB i l.length = true := by assumption) (h2 : (f (l.getD i.toNat default)).length = n := by rfl) : W.idx n (.lst (l.map f)) (.int k i) L K := a_idx_l (nn_inB h1) (at_inB h1) h2 h
theorem b_idx_sn {n b m : Nat} {k : IntKind} {i : Nat} {y : Blk} (h : K (.ptr b i 0)) (h1 : i < m := by first | assumption | omega) (hm : (b, y) ∈ L := by repeat constructor) (h2 : y.size = n := by rfl) : W.idx n (.sl b 0 m) (.int k (i : Int)) L K := a_idx_sn h1 hm h2 h
theorem b_idx_s {n b j m : Nat} {k : IntKind} {i : Int} {y : Blk} (h : K (.ptr b (j + i.toNat) 0)) (h0 : 0 ≤ i := by first | decide | omega) (h1 : i.toNat < m := by first | assumption | omega) (hm : (b, y) ∈ L := by repeat constructor) (h2 : y.size = n := by rfl) : W.idx n (.sl b j m) (.int k i) L K := a_idx_s h0 h1 hm h2 h
theorem b_ext {i : Nat} {vs : List AV} {v : AV} (h : K v) (h1 : vs[i]? = some v := by rfl) : W.ext i (.tup vs) K := a_ext h1 h
theorem b_calm {us : List W.WR} {y : W.WR} {A : Prop} (h : A) (h1 : ∀ x ∈ us, W.free x y := by (simp only [W.free, slotOf, ↓reduceIte, Nat.reduceEqDiff, blocksOf, slOf, List.forall_mem_nil, List.forall_mem_cons, List.not_mem_nil, not_false_eq_true, implies_true, and_true, true_and, and_self, Bool.false_eq_true, reduceCtorEq, forall_const, false_implies, List.mem_singleton, forall_eq, List.append_nil, List.nil_append, List.mem_cons, or_false, false_or, forall_eq_or_imp, not_or]) <;> (repeat' constructor) <;> first | assumption | (exact Ne.symm (by assumption)) | (intro e_; subst e_; simp [SH.names] at *; done)) : W.calm us y A := a_calm h1 h
theorem b_pick_t {p : Bool} {x y : AV} (h : K x) (hp : p = true := by first | assumption | rfl) : W.pick (.bool p) x y K := a_pick_t hp h
theorem b_pick_f {p : Bool} {x y : AV} (h : K y) (hp : p = false := by first | assumption | rfl) : W.pick (.bool p) x y K := a_pick_f hp h
theorem b_grd_y {p want : Bool} {A : (AV → SH → Prop) → Prop} (h : A KL) (hp : p = want := by first | assumption | rfl) : W.grd (.bool p) want A L KL := a_grd_y hp h
theorem b_grd_n {p want : Bool} {A : (AV → SH → Prop) → Prop} (h : KL undefA L) (hp : p = !want := by first | assumption | rfl) : W.grd (.bool p) want A L KL := a_grd_n hp h
theorem b_dgrd_y {KF : AV → SH → W.Fp → Prop} {p want : Bool} {A : (AV → SH → W.Fp → Prop) → Prop} (h : A KF) (hp : p = want := by first | assumption | rfl) : W.dgrd (.bool p) want A L KF := a_dgrd_y hp h
theorem b_dgrd_n {KF : AV → SH → W.Fp → Prop} {p want : Bool} {A : (AV → SH → W.Fp → Prop) → Prop} (h : KF undefA L ⟨[], [], [], L.names⟩) (hp : p = !want := by first | assumption | rfl) : W.dgrd (.bool p) want A L KF := a_dgrd_n hp h
theorem b_frz_p {b i off : Nat} {x : Blk} {L' : SH} (h : KL (.pptr x.rows i off) L') (h1 : Del b x L L' := by repeat constructor) (h2 : 0 < x.size := by first | exact Nat.succ_pos _ | decide | simp) (h3 : 0 < x.rows.length := by first | exact Nat.succ_pos _ | decide | simp) : W.frz1 (.ptr b i off) L KL := a_frz_p h1 h2 h3 h
theorem b_frz_s {b n : Nat} {x : Blk} {L' : SH} (h : KL (.lst x.rows) L') (h1 : Del b x L L' := by repeat constructor) (h2 : 0 < x.size := by first | exact Nat.succ_pos _ | decide | simp) (h3 : n = x.rows.length := by first | rfl | simp) : W.frz1 (.sl b 0 n) L KL := a_frz_s h1 h2 h3 h
theorem b_store_box {KS : SH → Prop} {n b : Nat} {v : AV} {m : Nat} {r cs : List AV} {L' : SH} (h : KS L') (hu : Upd b ⟨m, [r]⟩ ⟨m, [cs]⟩ L L' := by repeat constructor) (h2 : v.cells? = some cs := by rfl) (h3 : cs.length = n := by rfl) (h4 : cs.all AV.one = true := by rfl) (h5 : r.length = n := by rfl) : W.store n (.ptr b 0 0) v L KS := a_store_box hu h2 h3 h4 h5 h
theorem b_store_one {KS : SH → Prop} {b i off : Nat} {v : AV} {x : Blk} {r : List AV} {L' : SH} (h : KS L') (hu : Upd b x ⟨x.size, x.rows.set i (r.set off v)⟩ L L' := by repeat constructor) (h1 : x.rows[i]? = some r := by first | assumption | rfl) (h2 : v.cells? = some [v] := by rfl) (h4 : v.one = true := by rfl) (h5 : off < r.length := by first | decide | exact Nat.lt_of_sub_pos (Nat.succ_pos _) | simp | omega) : W.store 1 (.ptr b i off) v L KS := a_store_one hu h1 h2 h4 h5 rfl h
theorem b_store_row {KS : SH → Prop} {n b i : Nat} {v : AV} {x : Blk} {r cs : List AV} {L' : SH} (h : KS L') (hu : Upd b x ⟨x.size, x.rows.set i cs⟩ L L' := by repeat constructor) (h1 : x.rows[i]? = some r := by first | assumption | rfl) (h2 : v.cells? = some cs := by rfl) (h3 : cs.length = n := by rfl) (h4 : cs.all AV.one = true := by rfl) (h5 : r.length = n := by rfl) : W.store n (.ptr b i 0) v L KS := a_store_row hu h1 h2 h3 h4 h5 rfl h
theorem b_idxP_p {len n b j off : Nat} {k : IntKind} {i : Int} (h : K (.ptr b j (off + i.toNat * n))) (h0 : 0 ≤ i := by first | decide | omega | exact Int.natCast_nonneg _) (h1 : i.toNat < len := by first | decide | omega) : W.idxP len n (.ptr b j off) (.int k i) K := a_idxP_p h0 h1 h
theorem b_idxP_q {len n : Nat} {rows : List (List AV)} {j off : Nat} {k : IntKind} {i : Int} (h : K (.pptr rows j (off + i.toNat * n))) (h0 : 0 ≤ i := by first | decide | omega | exact Int.natCast_nonneg _) (h1 : i.toNat < len := by first | decide | omega) : W.idxP len n (.pptr rows j off) (.int k i) K := a_idxP_q h0 h1 h
theorem b_mslice {n by_ : Nat} {z : List AV} {k k' : IntKind} {i j : Nat} (h : ∀ b, b ∉ L.names → KL (.sl b 0 i) ((b, ⟨n, List.replicate i z⟩) :: L)) (h1 : i ≤ j := by omega) (h2 : j ≤ 2 ^ 62 := by omega) (h3 : j * by_ ≤ 2 ^ 48 := by omega) : W.mslice n by_ z (.int k (i : Int)) (.int k' (j : Int)) L KL := a_mslice h1 h2 h3 h
theorem b_bslice {n : Nat} {z : List AV} {len : Nat} {ps : List (Nat × AV)} {rows : List (List AV)} (h : ∀ b, b ∉ L.names → KL (.sl b 0 len) ((b, ⟨n, rows⟩) :: L)) (h1 : len * n ≤ 2 ^ 24 := by decide) (h2 : fillRows n (List.replicate len z) ps = some rows := by rfl) : W.bslice n z len ps L KL := a_bslice h1 h2 h
theorem b_box {x : AV} {cs : List AV} (h : ∀ b, b ∉ L.names → KL (.ptr b 0 0) ((b, ⟨cs.length, [cs]⟩) :: L)) (h1 : x.cells? = some cs := by rfl) (h2 : cs.all AV.one = true := by rfl) : W.box x L KL := a_box h1 h2 h
theorem b_build {z : List AV} {ps : List (Nat × Nat × AV)} {cs : List AV} (h : K (.agg cs)) (h1 : W0.fillR z ps = some cs := by rfl) : W.build z ps K := a_build h1 h
theorem b_fld {ag : Bool} {n off : Nat} {cs : List AV} {v : AV} (h : K v) (h1 : W0.rowLd ag n cs off = some v := by rfl) : W.fld ag n off (.agg cs) K := a_fld h1 h
theorem b_dcall {KN : AV → SH → List Nat → Prop} {us : List W.WR} {i : Nat} {g : FuncId} {args : List AV} {v : AV} (h : PureA P g args v) (hk : KN v L []) (hf : ∀ x ∈ us, W.free x ⟨i, [], [], [], true, []⟩ := by (simp only [W.free, slotOf, ↓reduceIte, Nat.reduceEqDiff, blocksOf, slOf, List.forall_mem_nil, List.forall_mem_cons, List.not_mem_nil, not_false_eq_true, implies_true, and_true, true_and, and_self, Bool.false_eq_true, reduceCtorEq, forall_const, false_implies, List.mem_singleton, forall_eq, List.append_nil, List.nil_append, List.mem_cons, or_false, false_or, forall_eq_or_imp, not_or]) <;> (repeat' constructor) <;> first | assumption | (exact Ne.symm (by assumption)) | (intro e_; subst e_; simp [SH.names] at *; done)) : W.dcallM P us i g args L KN := m_dcall h hf hk
end
end Go.Proofs.Ytadjimfkfmojkaa.Am

end
section
namespace Go.Proofs.Ytadjimfkfmojkaa.Am
set_option maxRecDepth 100000
set_option linter.unusedSimpArgs false
set_option linter.unusedVariables false
/-- what a predicate says of every number, over a heap that it leaves alone -/
def PredA (P : Program) (g : FuncId) (cs : List AV) (p : Int → Bool) : Prop := ∀ x : Int, PureA P g (.int .i64 x :: cs) (.bool (p x))
theorem PredA.call {P : Program} {g : FuncId} {cs : List AV} {p : Int → Bool} (h : PredA P g cs p) {x : Int} {L : SH} {KL : AV → SH → Prop} (hk : KL (.bool (p x)) L) : W.call P (.fn g cs) [.int .i64 x] L KL := ⟨(h x).call hk⟩
theorem bound_nat {k : IntKind} {m d : Nat} : boundA (some (.int k (m : Int))) d = some m := by simp [boundA, natOf]
end Go.Proofs.Ytadjimfkfmojkaa.Am

end
section
namespace Go.Proofs.Ytadjimfkfmojkaa.Am
set_option linter.unusedVariables false
/-- a block that may not be there yet is given up -/
inductive DelO (o : Option Nat) (n : Nat) (rows : List (List AV)) : SH → SH → Prop where
  | here (R : SH) : DelO o n rows (slotB o n rows ++ R) R
  | last : DelO o n rows (slotB o n rows) []
  | there (p : Nat × Blk) {L L' : SH} : DelO o n rows L L' → DelO o n rows (p :: L) (p :: L')
  | skip (o2 : Option Nat) (n2 : Nat) (rows2 : List (List AV)) {L L' : SH} : DelO o n rows L L' → DelO o n rows (slotB o2 n2 rows2 ++ L) (slotB o2 n2 rows2 ++ L')
theorem DelO.some' {b n : Nat} {rows : List (List AV)} {L L' : SH} (h : DelO (some b) n rows L L') : Del b ⟨n, rows⟩ L L' := by
  induction h with
  | here R => exact .here R
  | last => exact .here []
  | there p h ih => exact .there p ih
  | skip o2 n2 rows2 h ih => exact ih.app _
theorem DelO.none' {n : Nat} {rows : List (List AV)} {L L' : SH} (h : DelO none n rows L L') : L = L' := by
  induction h with
  | here R => rfl
  | last => rfl
  | there p h ih => rw [ih]
  | skip o2 n2 rows2 h ih => rw [ih]
theorem DelO.perm {o : Option Nat} {n : Nat} {rows : List (List AV)} {L L' : SH} (h : DelO o n rows L L') : L.Perm (slotB o n rows ++ L') := by
  cases o with
  | none => rw [h.none']; exact .refl _
  | some b => exact h.some'.perm
theorem Del.mem' {b : Nat} {x : Blk} {L L' : SH} (h : Del b x L L') : (b, x) ∈ L := by
  induction h with
  | here L => simp
  | there p h ih => simp [ih]
section
variable {KL : AV → SH → Prop} {L L' : SH}
theorem a_app_o {o : Option Nat} {i n by_ bX k : Nat} {rows m : List (List AV)} (hX : (bX, (⟨n, m⟩ : Blk)) ∈ L) (hd : DelO o n rows L L') (hr : rows.length = i) (h0 : o = none → rows = []) (hk : k = m.length) (hm : 0 < m.length) (h2 : 2 * (i + m.length) * by_ ≤ 2 ^ 48) (h3 : 2 * (i + m.length) ≤ 2 ^ 62) (h4 : (m.all fun r => r.all AV.one) = true)
    (h : ∀ b, b ∉ L.names → KL (.sl b 0 (i + m.length)) ((b, ⟨n, rows ++ m⟩) :: L')) : W.append n by_ (slotV o i) (.sl bX 0 k) L KL := by
  subst hk
  cases o with
  | none =>
    have hr0 := h0 rfl
    subst hr0
    simp only [List.length_nil] at hr
    subst hr
    have hl := hd.none'
    subst hl
    have := a_app_e (KL := KL) (L := L) (by_ := by_) (rowsR_s hX rfl rfl) (by simpa using h2) (by simpa using h3) h4 (by show m.length ≠ 0; omega) (fun b hb => by simpa using h b hb)
    exact this
  | some b =>
    subst hr
    exact a_app_s (y := ⟨n, rows⟩) (l := rows) hd.some'.mem' rfl (by simp) (by simp) (rowsR_s hX rfl rfl) h2 h3 h4 hd.some' (fun b' hb => h b' hb)
/-- some blocks are kept, in an order of one's own -/
inductive Pick : SH → SH → Prop where
  | nil (L : SH) : Pick L []
  | one {b : Nat} {x : Blk} {L L' R : SH} : Del b x L L' → Pick L' R → Pick L ((b, x) :: R)
  | slot {o : Option Nat} {n : Nat} {rows : List (List AV)} {L L' R : SH} : DelO o n rows L L' → Pick L' R → Pick L (slotB o n rows ++ R)
  | slotl {o : Option Nat} {n : Nat} {rows : List (List AV)} {L L' : SH} : DelO o n rows L L' → Pick L (slotB o n rows)
theorem Pick.perm {L R : SH} (h : Pick L R) : ∃ K, L.Perm (K ++ R) := by
  induction h with
  | nil L => exact ⟨L, by simp⟩
  | one hd hp ih =>
    obtain ⟨K, hK⟩ := ih
    exact ⟨K, (hd.perm.trans ((hK.cons _).trans List.perm_middle.symm))⟩
  | slot hd hp ih =>
    obtain ⟨K, hK⟩ := ih
    refine ⟨K, hd.perm.trans ((hK.append_left _).trans ?_)⟩
    rw [← List.append_assoc, ← List.append_assoc]
    exact List.perm_append_comm.append_right _
  | slotl hd => exact ⟨_, hd.perm.trans List.perm_append_comm⟩
theorem FzS.pick {vs vs2 : List AV} {R : SH} (h : Pick L R) (hv : vs = vs2) : FzS vs L vs2 R := by
  subst hv
  obtain ⟨K, hK⟩ := h.perm
  exact FzS.forget hK
end
end Go.Proofs.Ytadjimfkfmojkaa.Am

end
section
namespace Go.Proofs.Ytadjimfkfmojkaa.Am
set_option linter.unusedVariables false
theorem fit0 : Fit Try.prog (fun _ => none) := ⟨fun t ts h => (by cases h), fit.names, fit.order⟩
theorem closed_pure {f : FuncId} {n : Nat} (hrun : isTrue (callBy Try.prog (exec Try.prog (fun _ => none) n) f [] Heap.empty) = true) : PureA Try.prog f [] (.bool true) := by
  have hd := (goods checkedAll).2
  have hs := callBy_sound (P := Try.prog) hd (fun c τ H e τ' H' dr hx => exec_sound fit0 hd n c τ H e τ' H' dr hx)
  cases hc : callBy Try.prog (exec Try.prog (fun _ => none) n) f [] Heap.empty with
  | none => rw [hc] at hrun; cases hrun
  | some r =>
    obtain ⟨v, H'⟩ := r
    rw [hc] at hrun
    have hv : v = .bool true := by
      unfold isTrue at hrun
      split at hrun
      · rename_i heq; cases heq; rfl
      · cases hrun
    subst hv
    have hV : CallV Try.prog f [] (.bool true) := fun w σ vs hW hvs => (hs.ok _ _ _ _ _ hc w σ vs hW hvs).mono fun e w' ⟨v', σ', he, k1, k2, k3, k4⟩ => ⟨v', σ', H', he, k1, k3⟩
    exact ⟨hs.body _ _ _ _ _ hc, fun H hb hS => ⟨.bool true, H, [], lift (.bool true) (fun i a h => by simp at h) hV H, .refl hb hS, rfl, rfl⟩⟩
end Go.Proofs.Ytadjimfkfmojkaa.Am

end
section
namespace Go.Proofs.Ytadjimfkfmojkaa.Am
set_option maxRecDepth 100000
set_option linter.unusedSimpArgs false
set_option linter.unusedVariables false
def lockAt (s : SyncD) (o : Int) : LockD := s.locks.getD o.toNat default
/-- what a state that fits gives -/
structure FitD (w : WorldD) (s : SyncD) : Prop where
  locks : s.locks.length = w.locks.length
  done : s.done.length = w.futures.length
  threads : s.threads.length = w.threads.length
  conds : ∀ c ∈ w.conds, inB c.mutex w.locks.length = true
end Go.Proofs.Ytadjimfkfmojkaa.Am

end
section
namespace Go.Proofs.Ytadjimfkfmojkaa.Am
set_option maxRecDepth 100000
set_option linter.unusedSimpArgs false
set_option linter.unusedVariables false
theorem Fr.perm {B : Nat} {L L' L'' : SH} {H H' : Heap} (h : Fr B L H L' H') (hp : L'.Perm L'') : Fr B L H L'' H' :=
  ⟨h.next, h.bd, h.sub.perm hp, fun b x h1 h2 => ⟨(h.keep b x h1 h2).1, fun hm => (h.keep b x h1 h2).2 ((hp.map Prod.fst).mem_iff.2 hm)⟩, h.dom, fun b hb hlt => h.fresh b ((hp.map Prod.fst).mem_iff.2 hb) hlt⟩
theorem CallA.perm {P : Program} {f : FuncId} {args : List AV} {L : SH} {Q : AV → SH → Prop} (h : CallA P f args L fun v L' => ∃ L'', L'.Perm L'' ∧ Q v L'') : CallA P f args L Q := ⟨h.1, fun H hb hs => by
  obtain ⟨v, H', L', h1, h2, L'', hp, h3⟩ := h.2 H hb hs
  exact ⟨v, H', L'', h1, h2.perm hp, h3⟩⟩
/-- a call that is handed nothing and gives blocks, which are put behind the others -/
theorem call_back {P : Program} {KL : AV → SH → Prop} {g : FuncId} {cs args : List AV} {L : SH} {R : AV → SH → Prop} (h : CallA P g (args ++ cs) [] R) (hk : ∀ v K, R v K → KL v (L ++ K)) : W.call P (.fn g cs) args L KL :=
  ⟨.perm (h.frame (K := []) (R := L) (.refl _) fun u K hu => ⟨L ++ K, List.perm_append_comm, hk u K hu⟩)⟩
theorem FzL.refl (K : SH) : ∀ l : List AV, FzL K l l
  | [] => .nil
  | a :: l => .cons (.refl a) (FzL.refl K l)
/-- the rows of a block are read anew -/
theorem FzS.row {vs : List AV} {L K R : SH} {b n : Nat} {rows rows' : List (List AV)} (hL : L.Perm (K ++ (b, ⟨n, rows⟩) :: R)) (hlen : rows.length = rows'.length) (hr : ∀ (j : Nat) (r r' : List AV), rows[j]? = some r → rows'[j]? = some r' → FzL K r r') : FzS vs L vs ((b, ⟨n, rows'⟩) :: R) := by
  refine ⟨K, (b, ⟨n, rows⟩) :: R, hL, ⟨rfl, fun i a a2 h1 h2 => by rw [h1] at h2; cases h2; exact .refl _⟩, rfl, fun i p q h1 h2 => ?_⟩
  match i with
  | 0 =>
    cases h1; cases h2
    exact ⟨rfl, rfl, hlen, fun j s s2 g1 g2 => (hr j s s2 g1 g2).at_⟩
  | i + 1 =>
    simp only [List.getElem?_cons_succ] at h1 h2
    rw [h1] at h2; cases h2
    exact ⟨rfl, rfl, rfl, fun j r r2 h3 h4 => by rw [h3] at h4; cases h4; exact ⟨rfl, fun k a a2 h5 h6 => by rw [h5] at h6; cases h6; exact .refl _⟩⟩
end Go.Proofs.Ytadjimfkfmojkaa.Am

end
section
namespace Go.Proofs.Ytadjimfkfmojkaa.Am
set_option maxRecDepth 100000
set_option linter.unusedSimpArgs false
set_option linter.unusedVariables false
set_option linter.unusedSectionVars false
section
variable (w : WorldD) (s : SyncD) (t o wake : Int) (b7 b12 bl bt : Nat) (od : Option Nat)
/-- the heap behind clone -/
def apL (R : SH) : SH := (bl, ⟨2, s.locks.map LockD.enc⟩) :: (bt, ⟨3, s.threads.map ThrD.enc⟩) :: (b12, ⟨4, [[.nils, .int .i64 0, .nils, .nils]]⟩) :: (b7, ⟨4, [s.enc]⟩) :: R
variable (R : SH) (dv : AV) (hone : dv.one = true) (Q : AV → SH → Prop) (hf : FitD w s) (ht : inB t s.threads.length = true) (hnd : (apL s b7 b12 bl bt R).names.Nodup)
include hone hf ht hnd
end
end Go.Proofs.Ytadjimfkfmojkaa.Am

end
section
namespace Go.Proofs.Ytadjimfkfmojkaa.Am
set_option maxRecDepth 100000
set_option linter.unusedSimpArgs false
set_option linter.unusedVariables false
set_option linter.unusedSectionVars false
theorem take_map {α β : Type} {f : α → β} {l m : List α} {n : Nat} (h : l.take n = m) : ((l.map f).drop 0).take n = m.map f := by
  rw [List.drop_zero, ← List.map_take, h]
section
variable (w : WorldD) (s : SyncD) (t o wake : Int) (b7 b12 bl bt : Nat)
variable (R : SH) (dv : AV) (hone : dv.one = true) (Q : AV → SH → Prop) (hl : inB o s.locks.length = true) (hrd : (lockAt s o).readers.length < 2 ^ 40)
include hone hl hrd
end
end Go.Proofs.Ytadjimfkfmojkaa.Am

end
section
namespace Go.Proofs.Ytadjimfkfmojkaa.Am
set_option maxRecDepth 100000
set_option linter.unusedSimpArgs false
set_option linter.unusedVariables false
set_option linter.unusedSectionVars false
theorem a_app_sm {α : Type} {f : α → List AV} {l : List α} {b i n by_ : Nat} {rows : List (List AV)} {L L' : SH} {KL : AV → SH → Prop} (hd : Del b ⟨n, rows⟩ L L') (hn : ∀ x, (f x).length = n) (hr : rows.length = i) (h2 : 2 * (i + l.length) * by_ ≤ 2 ^ 48) (h3 : 2 * (i + l.length) ≤ 2 ^ 62) (h4 : ∀ x, (f x).all AV.one = true)
    (h : ∀ b', b' ∉ L.names → KL (.sl b' 0 (i + l.length)) ((b', ⟨n, rows ++ l.map f⟩) :: L')) : W.append n by_ (.sl b 0 i) (.lst (l.map f)) L KL := by
  have h4' : ((l.map f).all fun r => r.all AV.one) = true := by
    rw [List.all_eq_true]
    intro r hr
    obtain ⟨x, _, rfl⟩ := List.mem_map.1 hr
    exact h4 x
  subst hr
  exact a_app_s (y := ⟨n, rows⟩) (l := rows) hd.mem' rfl (by simp) (by simp) (rowsR_m hn) (by simpa using h2) (by simpa using h3) h4' hd (fun b' hb => by simpa using h b' hb)
section
variable (w : WorldD) (s : SyncD) (t o : Int) (hf : FitD w s) (ht : inB t w.threads.length = true) (hr : ∀ l ∈ s.locks, l.readers.length < 2 ^ 40) (Q : AV → SH → Prop)
include hf ht hr
end
end Go.Proofs.Ytadjimfkfmojkaa.Am

end
section
namespace Go.Proofs.Ytadjimfkfmojkaa.Am
set_option maxRecDepth 100000
set_option linter.unusedSimpArgs false
set_option linter.unusedVariables false
set_option linter.unusedSectionVars false
theorem a_slice_take {α : Type} {f : α → List AV} {l : List α} {n i : Nat} {k : IntKind} {L : SH} {K : AV → Prop} (hn : ∀ x, (f x).length = n) (hi : i ≤ l.length) (h : K (.lst ((l.take i).map f))) : W.slice n (.lst (l.map f)) none (some (.int k (i : Int))) none L K := by
  refine a_slice_l (l := 0) (h := i) rfl bound_nat (Nat.zero_le _) (by simpa using hi) (fun r hr => ?_) ?_
  · cases l with
    | nil => cases hr
    | cons x l => simp at hr; rw [← hr]; exact hn x
  · rw [List.drop_zero, Nat.sub_zero, ← List.map_take]; exact h
theorem a_slice_drop {α : Type} {f : α → List AV} {l : List α} {n i : Nat} {k : IntKind} {L : SH} {K : AV → Prop} (hn : ∀ x, (f x).length = n) (hi : i ≤ l.length) (h : K (.lst ((l.drop i).map f))) : W.slice n (.lst (l.map f)) (some (.int k (i : Int))) none none L K := by
  refine a_slice_l (l := i) (h := (l.map f).length) bound_nat rfl (by simpa using hi) (Nat.le_refl _) (fun r hr => ?_) ?_
  · cases l with
    | nil => cases hr
    | cons x l => simp at hr; rw [← hr]; exact hn x
  · rw [List.take_of_length_le (by simp), ← List.map_drop]; exact h
theorem a_app_ss {b bX i k n by_ : Nat} {rows m : List (List AV)} {L L' : SH} {KL : AV → SH → Prop} (hX : (bX, (⟨n, m⟩ : Blk)) ∈ L) (hd : Del b ⟨n, rows⟩ L L') (hr : rows.length = i) (hk : k = m.length) (h2 : 2 * (i + m.length) * by_ ≤ 2 ^ 48) (h3 : 2 * (i + m.length) ≤ 2 ^ 62) (h4 : (m.all fun r => r.all AV.one) = true)
    (h : ∀ b', b' ∉ L.names → KL (.sl b' 0 (i + m.length)) ((b', ⟨n, rows ++ m⟩) :: L')) : W.append n by_ (.sl b 0 i) (.sl bX 0 k) L KL := by
  subst hk
  subst hr
  exact a_app_s (y := ⟨n, rows⟩) (l := rows) hd.mem' rfl (by simp) (by simp) (rowsR_s hX rfl rfl) h2 h3 h4 hd (fun b' hb => h b' hb)
def lows (l : List Int) (n : Int) : List Int := l.takeWhile fun x => decide (x < n)
def highs (l : List Int) (n : Int) : List Int := l.dropWhile fun x => decide (x < n)
def putS (l : List Int) (n : Int) : List Int := if (highs l n).head? = some n then l else lows l n ++ n :: highs l n
theorem low_high (l : List Int) (n : Int) : lows l n ++ highs l n = l := List.takeWhile_append_dropWhile
theorem lows_of : ∀ (l : List Int) (n : Int) (i : Nat), (∀ x ∈ l.take i, x < n) → (∀ x, (l.drop i).head? = some x → ¬ x < n) → lows l n = l.take i ∧ highs l n = l.drop i
  | [], n, i, _, _ => by simp [lows, highs]
  | x :: l, n, 0, _, h2 => by
    have : ¬ x < n := h2 x rfl
    simp [lows, highs, this]
  | x :: l, n, i + 1, h1, h2 => by
    have hx : x < n := h1 x (by simp)
    obtain ⟨e1, e2⟩ := lows_of l n i (fun y hy => h1 y (by simp [hy])) (fun y hy => h2 y (by simpa using hy))
    unfold lows at e1 ⊢
    unfold highs at e2 ⊢
    simp [hx, e1, e2]
theorem put_ok (l : List Int) (n : Int) (hl : l.length < 2 ^ 41) : PureA Try.prog 64 [.lst (l.map intE), .int .i64 n] (.lst ((putS l n).map intE)) := by
  refine CallA.fz (ref07_Put_ok _ _ _ _ ?_)
  unfold ref07_Put_w
  generalize hQ : (fun (v : AV) (L : SH) => ∃ v2 L2, FzS [v] L [v2] L2 ∧ v2 = AV.lst ((putS l n).map intE) ∧ L2 = []) = Q
  refine for_by l.length (fun i => ([.lst (l.map intE), .int .i64 n, .int .i64 i], [])) (fun i => ∀ x ∈ l.take i, x < n) (by simp) rfl rfl ?_
  intro i hi hG
  dsimp only
  unfold ref07_Put_l0
  have fin : ∀ (b : Nat) (L : SH) (k : Nat), k = (l.take i).length + 1 + (l.drop i).length → lows l n = l.take i ∧ highs l n = l.drop i → ¬ (highs l n).head? = some n → (b, (⟨1, ((l.take i).map intE ++ [[.int .i64 n]]) ++ (l.drop i).map intE⟩ : Blk)) ∈ L → Q (.sl b 0 k) L := fun b L k hk hlh hne hm => by
    subst hQ
    have e : putS l n = l.take i ++ n :: l.drop i := by unfold putS; rw [if_neg hne, hlh.1, hlh.2]
    exact ⟨_, [], FzS.all (Fz.sls (l := putS l n) hm (by rw [e]; simp [intE]) (by decide) (by rw [hk, e]; simp; omega)), rfl, rfl⟩
  rcases Nat.lt_or_ge i l.length with g1 | g1
  · have hd := dec_lt g1
    have hx := map_at (f := intE) g1
    have htk : l.take (i + 1) = l.take i ++ [l[i]] := List.take_succ_eq_append_getElem g1
    have hhd : (l.drop i).head? = some l[i] := by rw [List.drop_eq_getElem_cons g1]; rfl
    have hlt : (l.take i).length = i := by simp; omega
    cases hc : decide (l[i] < n) with
    | true =>
      repeat' (first | (refine h_load1 ?_; refine b_load_q ?_) | (refine h_bin ?_; first | refine a_lss ?_ | refine a_add ?_) | (refine h_cond ?_; refine b_cond_t ?_) | (refine h_idx ?_; refine b_idx_n ?_) | (refine h_len ?_; refine a_len_m ?_) | (refine h_pick ?_; refine b_pick_t ?_) | (refine h_grd ?_; refine b_grd_y ?_))
      exact ⟨i + 1, by omega, by omega, fun x hx => by
        rw [htk] at hx
        rcases List.mem_append.1 hx with h | h
        · exact hG x h
        · simp at h; subst h; exact of_decide_eq_true hc, fzs_eq (by rw [i64_succ g1 (by omega)]; rfl) rfl⟩
    | false =>
      have hlh := lows_of l n i hG (fun x hx => by rw [hhd] at hx; cases hx; exact of_decide_eq_false hc)
      cases he : decide (l[i] = n) with
      | true =>
        repeat' (first | (refine h_load1 ?_; refine b_load_q ?_) | (refine h_bin ?_; first | refine a_eql ?_ | refine a_lss ?_) | (refine h_cond ?_; first | refine b_cond_t ?_ | refine b_cond_f ?_) | (refine h_idx ?_; refine b_idx_n ?_) | (refine h_len ?_; refine a_len_m ?_) | (refine h_pick ?_; refine b_pick_t ?_) | (refine h_grd ?_; refine b_grd_y ?_))
        subst hQ
        have e : putS l n = l := by unfold putS; rw [if_pos]; rw [hlh.2, hhd, of_decide_eq_true he]
        exact ⟨_, [], FzS.all (.refl _), by rw [e]; rfl, rfl⟩
      | false =>
        have hne : ¬ (highs l n).head? = some n := by rw [hlh.2, hhd]; intro h; cases h; simp at he
        repeat' (first | (refine h_load1 ?_; refine b_load_q ?_) | (refine h_bin ?_; first | refine a_eql ?_ | refine a_lss ?_) | (refine h_cond ?_; refine b_cond_f ?_) | (refine h_idx ?_; refine b_idx_n ?_) | (refine h_len ?_; refine a_len_m ?_) | (refine h_pick ?_; refine b_pick_t ?_) | (refine h_grd ?_; refine b_grd_y ?_) | refine a_slice_take (fun _ => rfl) (by omega) ?_ | refine a_slice_drop (fun _ => rfl) (by omega) ?_ | refine a_app_sm (by repeat constructor) (fun _ => rfl) (by simp) (by simp; omega) (by simp; omega) (fun _ => rfl) (fun nb_ hnb_ => ?_) | refine a_app_ss (by repeat constructor) (by repeat constructor) (by simp) (by rfl) (by simp; omega) (by simp; omega) (by rfl) (fun nb_ hnb_ => ?_) | (refine h_bslice ?_; refine b_bslice (fun nb_ hnb_ => ?_)))
        exact fin _ _ _ (by simp) hlh hne (by simp [slotOf])
  · have hd := dec_ge g1
    have hi0 : i = l.length := by omega
    have hhd : (l.drop i).head? = none := by rw [List.drop_eq_nil_of_le g1]; rfl
    have hlh := lows_of l n i hG (fun x hx => by rw [hhd] at hx; cases hx)
    have hne : ¬ (highs l n).head? = some n := by rw [hlh.2, hhd]; nofun
    repeat' (first | (refine h_bin ?_; refine a_lss ?_) | (refine h_cond ?_; refine b_cond_f ?_) | (refine h_len ?_; refine a_len_m ?_) | (refine h_pick ?_; refine b_pick_f ?_) | (refine h_grd ?_; refine b_grd_n ?_) | refine a_slice_take (fun _ => rfl) (by omega) ?_ | refine a_slice_drop (fun _ => rfl) (by omega) ?_ | refine a_app_sm (by repeat constructor) (fun _ => rfl) (by simp) (by simp; omega) (by simp; omega) (fun _ => rfl) (fun nb_ hnb_ => ?_) | refine a_app_ss (by repeat constructor) (by repeat constructor) (by simp) (by rfl) (by simp; omega) (by simp; omega) (by rfl) (fun nb_ hnb_ => ?_) | (refine h_bslice ?_; refine b_bslice (fun nb_ hnb_ => ?_)))
    exact fin _ _ _ (by simp) hlh hne (by simp [slotOf])
theorem putS_len (l : List Int) (n : Int) : (putS l n).length ≤ l.length + 1 := by
  unfold putS
  split
  · omega
  · have := congrArg List.length (low_high l n)
    simp only [List.length_append, List.length_cons] at this ⊢
    omega
theorem putS_asc {l : List Int} {n : Int} (h : l.Pairwise (· < ·)) : (putS l n).Pairwise (· < ·) := by
  unfold putS
  split
  · exact h
  · rename_i hne
    have hl := low_high l n
    rw [← hl] at h
    obtain ⟨h1, h2, h3⟩ := List.pairwise_append.1 h
    have hlow : ∀ x ∈ lows l n, x < n := fun x hx => by
      unfold lows at hx
      have := List.all_eq_true.1 (List.all_takeWhile (p := fun x => decide (x < n)) (l := l)) x hx
      exact of_decide_eq_true this
    refine List.pairwise_append.2 ⟨h1, List.pairwise_cons.2 ⟨?_, h2⟩, ?_⟩
    · cases hh : highs l n with
      | nil => intro y hy; cases hy
      | cons x r =>
        rw [hh] at hne h2
        have hx : ¬ x < n := by
          have : (highs l n).head? = some x := by rw [hh]; rfl
          unfold highs at this
          have h0 := List.head?_dropWhile_not (p := fun x => decide (x < n)) l
          rw [this] at h0
          simpa using h0
        have hxn : x ≠ n := fun e => hne (by rw [e]; rfl)
        intro y hy
        rcases List.mem_cons.1 hy with rfl | hy
        · omega
        · have := (List.pairwise_cons.1 h2).1 y hy
          omega
    · intro a ha b hb
      rcases List.mem_cons.1 hb with rfl | hb
      · exact hlow a ha
      · exact h3 a ha b hb
theorem putS_mem {l : List Int} {n x : Int} : x ∈ putS l n ↔ x ∈ l ∨ x = n := by
  unfold putS
  have hl := low_high l n
  split
  · rename_i hh
    constructor
    · exact .inl
    · rintro (h | rfl)
      · exact h
      · rw [← hl]
        exact List.mem_append_right _ (List.mem_of_mem_head? hh)
  · constructor
    · intro h
      rcases List.mem_append.1 h with h | h
      · left; rw [← hl]; exact List.mem_append_left _ h
      · rcases List.mem_cons.1 h with h | h
        · exact .inr h
        · left; rw [← hl]; exact List.mem_append_right _ h
    · rintro (h | rfl)
      · rw [← hl] at h
        rcases List.mem_append.1 h with h | h
        · exact List.mem_append_left _ h
        · exact List.mem_append_right _ (List.mem_cons_of_mem _ h)
      · exact List.mem_append_right _ List.mem_cons_self
/-- all numbers of a list put into another one -/
def puts (l m : List Int) : List Int := m.foldl putS l
theorem puts_asc : ∀ (m : List Int) {l : List Int}, l.Pairwise (· < ·) → (puts l m).Pairwise (· < ·)
  | [], _, h => h
  | x :: m, _, h => puts_asc m (putS_asc h)
theorem puts_mem : ∀ (m : List Int) {l : List Int} {x : Int}, x ∈ puts l m ↔ x ∈ l ∨ x ∈ m
  | [], l, x => by simp [puts]
  | y :: m, l, x => by
    have := puts_mem m (l := putS l y) (x := x)
    unfold puts at this ⊢
    rw [List.foldl_cons, this, putS_mem]
    simp only [List.mem_cons]
    constructor
    · rintro ((h | h) | h)
      · exact .inl h
      · exact .inr (.inl h)
      · exact .inr (.inr h)
    · rintro (h | h | h)
      · exact .inl (.inl h)
      · exact .inl (.inr h)
      · exact .inr h
theorem puts_len : ∀ (m l : List Int), (puts l m).length ≤ l.length + m.length
  | [], l => by simp [puts]
  | y :: m, l => by
    have h1 := puts_len m (putS l y)
    have h2 := putS_len l y
    unfold puts at h1 ⊢
    rw [List.foldl_cons, List.length_cons]
    omega
theorem puts_eq (m : List Int) : puts [] m = asc m := asc_ext (puts_asc m .nil) (asc_asc m) fun x => by rw [puts_mem, asc_mem]; simp
theorem puts_snoc (l m : List Int) (x : Int) : puts l (m ++ [x]) = putS (puts l m) x := by unfold puts; rw [List.foldl_append]; rfl
theorem puts_app (l m r : List Int) : puts l (m ++ r) = puts (puts l m) r := by unfold puts; rw [List.foldl_append]
/-- Union of the reference -/
theorem unionR_ok (a b : List Int) (ha : a.length < 2 ^ 40) (hb : b.length < 2 ^ 40) : PureA Try.prog 57 [.lst (a.map intE), .lst (b.map intE)] (.lst ((asc (a ++ b)).map intE)) := by
  refine CallA.fz (ref07_Union_ok _ _ _ _ ?_)
  unfold ref07_Union_w
  generalize hQ : (fun (v : AV) (L : SH) => ∃ v2 L2, FzS [v] L [v2] L2 ∧ v2 = AV.lst ((asc (a ++ b)).map intE) ∧ L2 = []) = Q
  refine loop_ex a.length (fun i (_ : Unit) => ([.lst (a.map intE), .lst (b.map intE), .lst ((puts [] (a.take i)).map intE), .int .i64 i], [])) (fun _ _ => True) () trivial (FzS.vals (.cons (.refl _) (.cons (.refl _) (.cons .nils (.cons (.refl _) .nil))))) ?_
  rintro i _ hi _
  dsimp only
  unfold ref07_Union_l3
  have hpl := puts_len (a.take i) []
  have htl : (a.take i).length ≤ a.length := by rw [List.length_take]; exact Nat.min_le_right _ _
  simp only [List.length_nil] at hpl
  rcases Nat.lt_or_ge i a.length with g1 | g1
  · have hd := dec_lt g1
    have hx := map_at (f := intE) g1
    have hp := put_ok (puts [] (a.take i)) a[i] (by omega)
    repeat' (first | (refine h_load1 ?_; refine b_load_q ?_) | (refine h_bin ?_; first | refine a_lss ?_ | refine a_add ?_) | (refine h_cond ?_; refine b_cond_t ?_) | (refine h_idx ?_; refine b_idx_n ?_) | (refine h_len ?_; refine a_len_m ?_) | refine a_mark ?_ | ((with_reducible refine h_fn 64 ?_); refine m_call (hp) ?_))
    exact ⟨i + 1, (), by omega, by omega, trivial, fzs_eq (by rw [i64_succ g1 (by omega), List.take_succ_eq_append_getElem g1, puts_snoc]; rfl) rfl⟩
  · have hd := dec_ge g1
    repeat' (first | (refine h_bin ?_; refine a_lss ?_) | (refine h_cond ?_; refine b_cond_f ?_) | (refine h_len ?_; refine a_len_m ?_))
    rw [List.take_of_length_le g1] at *
    refine for_by b.length (fun i => ([.lst (b.map intE), .lst ((puts (puts [] a) (b.take i)).map intE), .int .i64 i], [])) (fun _ => True) trivial rfl rfl ?_
    intro j hj _
    dsimp only
    unfold ref07_Union_l2
    have hpl2 := puts_len (b.take j) (puts [] a)
    have htl2 : (b.take j).length ≤ b.length := by rw [List.length_take]; exact Nat.min_le_right _ _
    rcases Nat.lt_or_ge j b.length with g2 | g2
    · have hd := dec_lt g2
      have hx := map_at (f := intE) g2
      have hp := put_ok (puts (puts [] a) (b.take j)) b[j] (by omega)
      repeat' (first | (refine h_load1 ?_; refine b_load_q ?_) | (refine h_bin ?_; first | refine a_lss ?_ | refine a_add ?_) | (refine h_cond ?_; refine b_cond_t ?_) | (refine h_idx ?_; refine b_idx_n ?_) | (refine h_len ?_; refine a_len_m ?_) | refine a_mark ?_ | ((with_reducible refine h_fn 64 ?_); refine m_call (hp) ?_))
      exact ⟨j + 1, by omega, by omega, trivial, fzs_eq (by rw [i64_succ g2 (by omega), List.take_succ_eq_append_getElem g2, puts_snoc]; rfl) rfl⟩
    · have hd := dec_ge g2
      rw [List.take_of_length_le g2, ← puts_app, puts_eq]
      repeat' (first | (refine h_bin ?_; refine a_lss ?_) | (refine h_cond ?_; refine b_cond_f ?_) | (refine h_len ?_; refine a_len_m ?_))
      subst hQ
      exact ⟨_, [], FzS.all (.refl _), rfl, rfl⟩
end Go.Proofs.Ytadjimfkfmojkaa.Am

end
section
namespace Go.Proofs.Ytadjimfkfmojkaa.Am
set_option maxRecDepth 100000
set_option linter.unusedSimpArgs false
set_option linter.unusedVariables false
set_option linter.unusedSectionVars false
/-- what is left when some blocks are picked out -/
inductive Rest : SH → SH → SH → Prop where
  | nil (L : SH) : Rest L [] L
  | one {b : Nat} {x : Blk} {L L' R K : SH} : Del b x L L' → Rest L' R K → Rest L ((b, x) :: R) K
  | slot {o : Option Nat} {n : Nat} {rows : List (List AV)} {L L' R K : SH} : DelO o n rows L L' → Rest L' R K → Rest L (slotB o n rows ++ R) K
theorem Rest.perm {L R K : SH} (h : Rest L R K) : L.Perm (K ++ R) := by
  induction h with
  | nil L => simp
  | one hd hp ih => exact (hd.perm.trans ((ih.cons _).trans List.perm_middle.symm))
  | slot hd hp ih =>
    refine hd.perm.trans ((ih.append_left _).trans ?_)
    rw [← List.append_assoc, ← List.append_assoc]
    exact List.perm_append_comm.append_right _
end Go.Proofs.Ytadjimfkfmojkaa.Am

end
section
namespace Go.Proofs.Ytadjimfkfmojkaa.Am
set_option maxRecDepth 100000
set_option linter.unusedSimpArgs false
set_option linter.unusedVariables false
set_option linter.unusedSectionVars false
/-- the rows of one block, wherever it stands, are read anew -/
theorem FzS.rowA {vs vs2 : List AV} {L A R K : SH} {b n : Nat} {rows rows' : List (List AV)} (h : Rest L (A ++ (b, ⟨n, rows⟩) :: R) K) (hlen : rows.length = rows'.length) (hr : ∀ (j : Nat) (r r' : List AV), rows[j]? = some r → rows'[j]? = some r' → FzL K r r') (hv : vs = vs2) : FzS vs L vs2 (A ++ (b, ⟨n, rows'⟩) :: R) := by
  subst hv
  refine ⟨K, _, h.perm, ⟨rfl, fun i a a2 h1 h2 => by rw [h1] at h2; cases h2; exact .refl _⟩, by simp, fun i p q h1 h2 => ?_⟩
  have same : p = q → p.1 = q.1 ∧ p.2.size = q.2.size ∧ p.2.rows.length = q.2.rows.length ∧ ∀ (j : Nat) (r r2 : List AV), p.2.rows[j]? = some r → q.2.rows[j]? = some r2 → r.length = r2.length ∧ ∀ (k : Nat) (a a2 : AV), r[k]? = some a → r2[k]? = some a2 → Fz K a a2 := fun e => by
    subst e
    exact ⟨rfl, rfl, rfl, fun j r r2 h3 h4 => by rw [h3] at h4; cases h4; exact ⟨rfl, fun k a a2 h5 h6 => by rw [h5] at h6; cases h6; exact .refl _⟩⟩
  rcases Nat.lt_or_ge i A.length with hi | hi
  · rw [List.getElem?_append_left hi] at h1 h2
    rw [h1] at h2; cases h2
    exact same rfl
  · rw [List.getElem?_append_right hi] at h1 h2
    generalize i - A.length = k at h1 h2
    match k with
    | 0 =>
      cases h1; cases h2
      exact ⟨rfl, rfl, hlen, fun j r r' g1 g2 => (hr j r r' g1 g2).at_⟩
    | k + 1 =>
      simp only [List.getElem?_cons_succ] at h1 h2
      rw [h1] at h2; cases h2
      exact same rfl
end Go.Proofs.Ytadjimfkfmojkaa.Am

end
section
namespace Go.Proofs.Ytadjimfkfmojkaa.Am
set_option maxRecDepth 100000
set_option linter.unusedSimpArgs false
set_option linter.unusedVariables false
set_option linter.unusedSectionVars false
theorem cloneJ_ok (xs : List Int) (hl : xs.length * 8 ≤ 140737488355328) : CallA Try.prog 67 [.lst (xs.map intE)] [] fun v L => ∃ o, v = slotL o xs.length ∧ L = slotB o 1 (xs.map intE) ∧ (o = none → xs = []) := by
  refine (clone_any (fun A n c xs w hf h1 hn hA => cloneJ_any A n c xs w hf h1 hn hA) ⟨_, _, Try.func67, rfl⟩ (xs.map intE) (by simp [intE, AV.one]) (fun r hr => by obtain ⟨x, _, rfl⟩ := List.mem_map.1 hr; rfl) (by simpa using hl)).mono ?_
  rintro v L ⟨o, rfl, rfl, h⟩
  exact ⟨o, by simp, rfl, fun e => by simpa using h e⟩
/-- Clone of a list of numbers that is read only from now on -/
theorem cloneI_pure (xs : List Int) (hl : xs.length * 8 ≤ 140737488355328) : PureA Try.prog 68 [.lst (xs.map intE)] (.lst (xs.map intE)) := by
  refine CallA.fz ((cloneI_ok xs hl).mono ?_)
  rintro v L ⟨o, rfl, rfl, ho⟩
  exact ⟨_, [], FzS.all (Fz.slot (f := intE) rfl (fun e => by rw [ho e]; rfl) (by decide) (fun y _ => rfl) (fun y _ q a a2 h1 h2 => by rw [h1] at h2; cases h2; exact .refl _)), rfl, rfl⟩
/-- what a copy of a state is: registers and taints in blocks of their own -/
def CopiedT (s : TsD) (v : AV) (L : SH) : Prop :=
  ∃ (o t : Option Nat), v = .agg [.int .i64 s.pc, slotL o s.regs.length, slotL t s.taint.length, .int .i64 s.ev] ∧ L = slotB o 1 (s.regs.map intE) ++ slotB t 1 (s.taint.map lstE) ∧ (o = none → s.regs = []) ∧ (t = none → s.taint = [])
def rowsT (t : List (List Int)) (k : Nat) : List (List AV) := (t.take k).map lstE ++ List.replicate (t.length - k) [.nils]
theorem rowsT_len (t : List (List Int)) (k : Nat) (hk : k ≤ t.length) : (rowsT t k).length = t.length := by simp [rowsT]; omega
theorem rowsT_at (t : List (List Int)) (k : Nat) (hk : k < t.length) : (rowsT t k)[k]? = some [.nils] := by
  unfold rowsT
  have hl : ((t.take k).map lstE).length = k := by simp; omega
  rw [List.getElem?_append_right (by omega), hl, Nat.sub_self]
  obtain ⟨m, hm⟩ : ∃ m, t.length - k = m + 1 := ⟨t.length - k - 1, by omega⟩
  rw [hm]; rfl
theorem rowsT_set (t : List (List Int)) (k : Nat) (hk : k < t.length) : (rowsT t k).set k (lstE t[k]) = rowsT t (k + 1) := by
  unfold rowsT
  have hl : ((t.take k).map lstE).length = k := by simp; omega
  rw [List.set_append_right _ _ (by omega), hl, Nat.sub_self]
  obtain ⟨m, hm⟩ : ∃ m, t.length - k = m + 1 := ⟨t.length - k - 1, by omega⟩
  rw [hm, List.replicate_succ, List.set_cons_zero, List.take_succ_eq_append_getElem hk, show t.length - (k + 1) = m by omega, List.map_append, List.append_assoc]
  rfl
theorem cloneT2_ok (s : TsD) (h1 : s.regs.length < 2 ^ 40) (h2 : s.taint.length < 2 ^ 40) (h3 : ∀ l ∈ s.taint, l.length ≤ 2 ^ 30) : CallA Try.prog 42 [.agg s.enc] [] (CopiedT s) := by
  refine CallA.fz (silent_clone_ok _ _ _ ?_)
  unfold silent_clone_w
  generalize hQ : (fun (v : AV) (L : SH) => ∃ v2 L2, FzS [v] L [v2] L2 ∧ CopiedT s v2 L2) = Q
  repeat' (first | refine a_load_q (by first | assumption | rfl) rfl ?_ | refine a_load_q (at_inB (by assumption)) rfl ?_ | refine a_faddr_q ?_ | refine a_len_m ?_ | refine a_len_l ?_ | refine a_grd_y (by first | assumption | rfl) ?_ | refine a_grd_n (by first | assumption | rfl) ?_ | refine a_grd_u ?_ | refine a_pick_t (by first | assumption | rfl) ?_ | refine a_pick_f (by first | assumption | rfl) ?_ | refine a_eql ?_ | refine a_lss ?_ | refine a_neq ?_ | refine a_geq ?_ | refine a_gtr ?_ | refine a_leq ?_ | refine a_add ?_ | refine a_sub ?_ | refine a_mul ?_ | refine a_eqs ?_ | refine a_nes ?_ | refine a_not ?_ | refine a_neg ?_ | refine a_conv ?_ | refine a_convS ?_ | refine a_cond_t (by first | assumption | rfl) ?_ | refine a_cond_f (by first | assumption | rfl) ?_ | refine a_box rfl rfl (fun nb_ hnb_ => ?_) | refine a_frz_p (by first | exact .here _ | exact .there _ (.here _) | exact .there _ (.there _ (.here _)) | exact .there _ (.there _ (.there _ (.here _)))) (by first | exact Nat.succ_pos _ | decide | simp) (by first | exact Nat.succ_pos _ | decide | simp) ?_ | refine a_alloc (fun nb_ hnb_ => ?_) | refine a_faddr_p ?_ | refine a_store_box (by first | exact .here _ | exact .there _ (.here _) | exact .there _ (.there _ (.here _)) | exact .there _ (.there _ (.there _ (.here _))) | exact .there _ (.there _ (.there _ (.there _ (.here _))))) rfl rfl rfl rfl ?_ | refine a_store_one (by first | exact .here _ | exact .there _ (.here _) | exact .there _ (.there _ (.here _)) | exact .there _ (.there _ (.there _ (.here _))) | exact .there _ (.there _ (.there _ (.there _ (.here _))))) (by first | assumption | rfl) rfl rfl (by first | decide | exact Nat.lt_of_sub_pos (Nat.succ_pos _) | simp | omega) rfl ?_ | refine a_store_row (by first | exact .here _ | exact .there _ (.here _) | exact .there _ (.there _ (.here _)) | exact .there _ (.there _ (.there _ (.here _))) | exact .there _ (.there _ (.there _ (.there _ (.here _))))) (by first | assumption | rfl) rfl rfl rfl rfl rfl ?_ | refine a_load_p (by first | exact .head _ | exact .tail _ (.head _) | exact .tail _ (.tail _ (.head _)) | exact .tail _ (.tail _ (.tail _ (.head _))) | exact .tail _ (.tail _ (.tail _ (.tail _ (.head _))))) (by first | assumption | rfl) rfl ?_ | refine a_row_q (by first | assumption | rfl) rfl ?_ | refine a_row_q (at_inB (by assumption)) rfl ?_ | refine a_row_p (by first | exact .head _ | exact .tail _ (.head _) | exact .tail _ (.tail _ (.head _)) | exact .tail _ (.tail _ (.tail _ (.head _))) | exact .tail _ (.tail _ (.tail _ (.tail _ (.head _))))) (by first | assumption | rfl) rfl ?_ | refine a_idx_n (by first | assumption | rfl) rfl ?_ | refine a_idx_l (by first | decide | omega) (by first | assumption | rfl) rfl ?_ | refine a_idx_l (nn_inB (by assumption)) (at_inB (by assumption)) rfl ?_ | refine a_idx_sn (by first | assumption | omega) (by first | exact .head _ | exact .tail _ (.head _) | exact .tail _ (.tail _ (.head _)) | exact .tail _ (.tail _ (.tail _ (.head _)))) rfl ?_ | refine a_ext rfl ?_ | refine a_build rfl ?_ | refine a_fld rfl ?_ | refine a_nil_p ?_ | refine a_nil_q ?_ | refine a_nil_f ?_ | refine a_note ?_ | refine a_join ?_ | refine a_len_s ?_ | refine a_len_n ?_ | refine a_lenS ?_ | refine a_tt ?_ | refine a_calm (by simp only [W.free, blocksOf, slOf, List.forall_mem_nil, List.forall_mem_cons, List.not_mem_nil, not_false_eq_true, implies_true, and_true, true_and, and_self, Bool.false_eq_true, reduceCtorEq, forall_const, false_implies, List.mem_singleton, forall_eq, List.append_nil, List.nil_append]) ?_ | refine a_dgrd_y (by first | assumption | rfl) ?_ | refine a_dgrd_n (by first | assumption | rfl) ?_ | refine a_dgrd_u ?_ | refine a_mslice (by omega) (by omega) (by omega) (fun nb_ hnb_ => ?_) | refine a_bslice (by decide) rfl (fun nb_ hnb_ => ?_) | refine a_idx_s (by first | decide | omega) (by first | assumption | omega) (by first | exact .head _ | exact .tail _ (.head _) | exact .tail _ (.tail _ (.head _)) | exact .tail _ (.tail _ (.tail _ (.head _)))) rfl ?_ | refine a_len_e ?_)
  rename_i b1 _
  revert nb_
  intro b2 _
  refine call_back (cloneJ_ok _ (by omega)) ?_
  rintro v K ⟨o, rfl, rfl, ho⟩
  unfold silent_clone_c2
  have fin : ∀ (bt : Nat) (L : SH), (∃ x y : Blk, L = (bt, ⟨1, s.taint.map lstE⟩) :: (b2, x) :: (b1, y) :: slotB o 1 (s.regs.map intE)) → Q (.agg [.int .i64 s.pc, slotL o s.regs.length, .sl bt 0 s.taint.length, .int .i64 s.ev]) L := by
    rintro bt L ⟨x, y, rfl⟩
    subst hQ
    refine ⟨_, _, FzS.forget (K := [(b2, x), (b1, y)]) (R := slotB o 1 (s.regs.map intE) ++ [(bt, ⟨1, s.taint.map lstE⟩)]) ?_, o, some bt, rfl, rfl, ho, nofun⟩
    refine (List.Perm.trans (List.Perm.swap _ _ _) ?_)
    refine List.Perm.cons _ ((List.Perm.swap _ _ _).trans (List.Perm.cons _ ?_))
    exact (List.perm_append_comm (l₁ := [(bt, (⟨1, s.taint.map lstE⟩ : Blk))]) (l₂ := slotB o 1 (s.regs.map intE)))
  have loop : ∀ (bt : Nat) (y : Blk), y = ⟨4, [[.int .i64 s.pc, slotL o s.regs.length, .lst (s.taint.map lstE), .int .i64 s.ev]]⟩ → W.loop (silent_clone_l1 Q) [.ptr b1 0 0, .ptr b2 0 0, .sl bt 0 s.taint.length, .lst (s.taint.map lstE), .int .i64 s.taint.length, .int .i64 (0 : Nat)] ((bt, ⟨1, List.replicate s.taint.length [.nils]⟩) :: (b2, ⟨4, [[.int .i64 0, .nils, .nils, .int .i64 0]]⟩) :: (b1, y) :: slotB o 1 (s.regs.map intE)) := by
    intro bt y hy
    subst hy
    refine loop_ex s.taint.length (fun k (_ : Unit) => ([.ptr b1 0 0, .ptr b2 0 0, .sl bt 0 s.taint.length, .lst (s.taint.map lstE), .int .i64 s.taint.length, .int .i64 k], (bt, ⟨1, rowsT s.taint k⟩) :: (b2, ⟨4, [[.int .i64 0, .nils, .nils, .int .i64 0]]⟩) :: (b1, ⟨4, [[.int .i64 s.pc, slotL o s.regs.length, .lst (s.taint.map lstE), .int .i64 s.ev]]⟩) :: slotB o 1 (s.regs.map intE))) (fun _ _ => True) () trivial (fzs_eq rfl (by simp [rowsT])) ?_
    intro k _ hk _
    dsimp only
    unfold silent_clone_l1
    rcases Nat.lt_or_ge k s.taint.length with g1 | g1
    · have hd := dec_lt g1
      have hx := map_at (f := lstE) g1
      have hz := rowsT_at s.taint k g1
      have hkl : k < (rowsT s.taint k).length := by rw [rowsT_len _ _ hk]; exact g1
      have hrk : (s.taint[k]).length * 8 ≤ 140737488355328 := by have := h3 _ (List.getElem_mem g1); omega
      cases o with
      | none =>
        dsimp only [slotB, slotL]
        repeat' (first | (refine h_load1 ?_; first | refine b_load_q ?_ | refine b_load_i ?_ | refine b_load_p ?_) | (refine h_faddr ?_; first | refine a_faddr_q ?_ | refine a_faddr_p ?_) | (refine h_bin ?_; first | refine a_eql ?_ | refine a_lss ?_ | refine a_neq ?_ | refine a_geq ?_ | refine a_gtr ?_ | refine a_leq ?_ | refine a_add ?_ | refine a_sub ?_ | refine a_mul ?_ | refine a_eqs ?_ | refine a_nes ?_ | refine b_rem ?_ | refine b_quo ?_) | (refine h_cond ?_; first | refine b_cond_t ?_ | refine b_cond_f ?_ | refine a_cond (fun h => ?_) (fun h => ?_)) | (refine h_idx ?_; first | refine b_idx_n ?_ | refine b_idx_l ?_ | refine b_idx_i ?_ | refine b_idx_sn ?_ | refine b_idx_s ?_) | (refine h_row ?_; first | refine b_row_q ?_ | refine b_row_i ?_ | refine b_row_p ?_) | (refine h_len ?_; first | refine a_len_m ?_ | refine a_len_l ?_ | refine a_len_s ?_ | refine a_len_n ?_ | refine a_len_e ?_) | (refine h_ext ?_; refine b_ext ?_) | (refine h_calm ?_; refine b_calm ?_) | (refine h_note ?_; refine a_note ?_) | (refine h_pick ?_; first | refine b_pick_t ?_ | refine b_pick_f ?_) | (refine h_grd ?_; first | refine b_grd_y ?_ | refine b_grd_n ?_ | refine a_grd_u ?_ | refine a_grd_t (fun h => ?_) (fun h => ?_) | refine a_grd_f (fun h => ?_) (fun h => ?_)) | (refine h_dgrd ?_; first | refine b_dgrd_y ?_ | refine b_dgrd_n ?_ | refine a_dgrd_u ?_ | refine a_dgrd_t (fun h => ?_) (fun h => ?_) | refine a_dgrd_f (fun h => ?_) (fun h => ?_)) | (refine h_nilchk ?_; first | refine a_nil_p ?_ | refine a_nil_q ?_ | refine a_nil_f ?_) | refine a_mark ?_ | refine a_dmark ?_ | ((with_reducible refine h_fn 68 ?_); refine m_call (cloneI_pure _ hrk) ?_) | ((with_reducible refine h_dfn 68 ?_); refine b_dcall (cloneI_pure _ hrk) ?_) | unfold silent_clone_c0 | (refine h_un ?_; first | refine a_not ?_ | refine a_neg ?_) | (refine h_box ?_; refine b_box (fun nb_ hnb_ => ?_)) | (refine h_frz1 ?_; first | refine b_frz_p ?_ | refine b_frz_s ?_) | (refine h_store ?_; first | refine b_store_box ?_ | refine b_store_one ?_ | refine b_store_row ?_) | (refine h_idxP ?_; first | refine b_idxP_p ?_ | refine b_idxP_q ?_) | (refine h_mslice ?_; refine b_mslice (fun nb_ hnb_ => ?_)) | (refine h_bslice ?_; refine b_bslice (fun nb_ hnb_ => ?_)) | refine a_conv ?_ | refine a_convS ?_ | refine a_alloc (fun nb_ hnb_ => ?_) | refine b_build ?_ | refine b_fld ?_ | refine a_join ?_ | refine a_lenS ?_ | refine a_tt ?_)
        exact ⟨k + 1, (), by omega, by omega, trivial, fzs_eq (by rw [i64_succ g1 (by omega)]; rfl) (by rw [← rowsT_set _ _ g1]; rfl)⟩
      | some b' =>
        dsimp only [slotB, slotL]
        repeat' (first | (refine h_load1 ?_; first | refine b_load_q ?_ | refine b_load_i ?_ | refine b_load_p ?_) | (refine h_faddr ?_; first | refine a_faddr_q ?_ | refine a_faddr_p ?_) | (refine h_bin ?_; first | refine a_eql ?_ | refine a_lss ?_ | refine a_neq ?_ | refine a_geq ?_ | refine a_gtr ?_ | refine a_leq ?_ | refine a_add ?_ | refine a_sub ?_ | refine a_mul ?_ | refine a_eqs ?_ | refine a_nes ?_ | refine b_rem ?_ | refine b_quo ?_) | (refine h_cond ?_; first | refine b_cond_t ?_ | refine b_cond_f ?_ | refine a_cond (fun h => ?_) (fun h => ?_)) | (refine h_idx ?_; first | refine b_idx_n ?_ | refine b_idx_l ?_ | refine b_idx_i ?_ | refine b_idx_sn ?_ | refine b_idx_s ?_) | (refine h_row ?_; first | refine b_row_q ?_ | refine b_row_i ?_ | refine b_row_p ?_) | (refine h_len ?_; first | refine a_len_m ?_ | refine a_len_l ?_ | refine a_len_s ?_ | refine a_len_n ?_ | refine a_len_e ?_) | (refine h_ext ?_; refine b_ext ?_) | (refine h_calm ?_; refine b_calm ?_) | (refine h_note ?_; refine a_note ?_) | (refine h_pick ?_; first | refine b_pick_t ?_ | refine b_pick_f ?_) | (refine h_grd ?_; first | refine b_grd_y ?_ | refine b_grd_n ?_ | refine a_grd_u ?_ | refine a_grd_t (fun h => ?_) (fun h => ?_) | refine a_grd_f (fun h => ?_) (fun h => ?_)) | (refine h_dgrd ?_; first | refine b_dgrd_y ?_ | refine b_dgrd_n ?_ | refine a_dgrd_u ?_ | refine a_dgrd_t (fun h => ?_) (fun h => ?_) | refine a_dgrd_f (fun h => ?_) (fun h => ?_)) | (refine h_nilchk ?_; first | refine a_nil_p ?_ | refine a_nil_q ?_ | refine a_nil_f ?_) | refine a_mark ?_ | refine a_dmark ?_ | ((with_reducible refine h_fn 68 ?_); refine m_call (cloneI_pure _ hrk) ?_) | ((with_reducible refine h_dfn 68 ?_); refine b_dcall (cloneI_pure _ hrk) ?_) | unfold silent_clone_c0 | (refine h_un ?_; first | refine a_not ?_ | refine a_neg ?_) | (refine h_box ?_; refine b_box (fun nb_ hnb_ => ?_)) | (refine h_frz1 ?_; first | refine b_frz_p ?_ | refine b_frz_s ?_) | (refine h_store ?_; first | refine b_store_box ?_ | refine b_store_one ?_ | refine b_store_row ?_) | (refine h_idxP ?_; first | refine b_idxP_p ?_ | refine b_idxP_q ?_) | (refine h_mslice ?_; refine b_mslice (fun nb_ hnb_ => ?_)) | (refine h_bslice ?_; refine b_bslice (fun nb_ hnb_ => ?_)) | refine a_conv ?_ | refine a_convS ?_ | refine a_alloc (fun nb_ hnb_ => ?_) | refine b_build ?_ | refine b_fld ?_ | refine a_join ?_ | refine a_lenS ?_ | refine a_tt ?_)
        exact ⟨k + 1, (), by omega, by omega, trivial, fzs_eq (by rw [i64_succ g1 (by omega)]; rfl) (by rw [← rowsT_set _ _ g1]; rfl)⟩
    · have hd := dec_ge g1
      have hk0 : k = s.taint.length := by omega
      subst hk0
      have e : rowsT s.taint s.taint.length = s.taint.map lstE := by simp [rowsT]
      rw [e]
      cases o with
      | none =>
        dsimp only [slotB, slotL] at fin ⊢
        repeat' (first | (refine h_load1 ?_; first | refine b_load_q ?_ | refine b_load_i ?_ | refine b_load_p ?_) | (refine h_faddr ?_; first | refine a_faddr_q ?_ | refine a_faddr_p ?_) | (refine h_bin ?_; first | refine a_eql ?_ | refine a_lss ?_ | refine a_neq ?_ | refine a_geq ?_ | refine a_gtr ?_ | refine a_leq ?_ | refine a_add ?_ | refine a_sub ?_ | refine a_mul ?_ | refine a_eqs ?_ | refine a_nes ?_ | refine b_rem ?_ | refine b_quo ?_) | (refine h_cond ?_; first | refine b_cond_t ?_ | refine b_cond_f ?_ | refine a_cond (fun h => ?_) (fun h => ?_)) | (refine h_idx ?_; first | refine b_idx_n ?_ | refine b_idx_l ?_ | refine b_idx_i ?_ | refine b_idx_sn ?_ | refine b_idx_s ?_) | (refine h_row ?_; first | refine b_row_q ?_ | refine b_row_i ?_ | refine b_row_p ?_) | (refine h_len ?_; first | refine a_len_m ?_ | refine a_len_l ?_ | refine a_len_s ?_ | refine a_len_n ?_ | refine a_len_e ?_) | (refine h_ext ?_; refine b_ext ?_) | (refine h_calm ?_; refine b_calm ?_) | (refine h_note ?_; refine a_note ?_) | (refine h_pick ?_; first | refine b_pick_t ?_ | refine b_pick_f ?_) | (refine h_grd ?_; first | refine b_grd_y ?_ | refine b_grd_n ?_ | refine a_grd_u ?_ | refine a_grd_t (fun h => ?_) (fun h => ?_) | refine a_grd_f (fun h => ?_) (fun h => ?_)) | (refine h_dgrd ?_; first | refine b_dgrd_y ?_ | refine b_dgrd_n ?_ | refine a_dgrd_u ?_ | refine a_dgrd_t (fun h => ?_) (fun h => ?_) | refine a_dgrd_f (fun h => ?_) (fun h => ?_)) | (refine h_nilchk ?_; first | refine a_nil_p ?_ | refine a_nil_q ?_ | refine a_nil_f ?_) | refine a_mark ?_ | refine a_dmark ?_ | (refine h_un ?_; first | refine a_not ?_ | refine a_neg ?_) | (refine h_box ?_; refine b_box (fun nb_ hnb_ => ?_)) | (refine h_frz1 ?_; first | refine b_frz_p ?_ | refine b_frz_s ?_) | (refine h_store ?_; first | refine b_store_box ?_ | refine b_store_one ?_ | refine b_store_row ?_) | (refine h_idxP ?_; first | refine b_idxP_p ?_ | refine b_idxP_q ?_) | (refine h_mslice ?_; refine b_mslice (fun nb_ hnb_ => ?_)) | (refine h_bslice ?_; refine b_bslice (fun nb_ hnb_ => ?_)) | refine a_conv ?_ | refine a_convS ?_ | refine a_alloc (fun nb_ hnb_ => ?_) | refine b_build ?_ | refine b_fld ?_ | refine a_join ?_ | refine a_lenS ?_ | refine a_tt ?_)
        exact fin _ _ ⟨_, _, rfl⟩
      | some b' =>
        dsimp only [slotB, slotL] at fin ⊢
        repeat' (first | (refine h_load1 ?_; first | refine b_load_q ?_ | refine b_load_i ?_ | refine b_load_p ?_) | (refine h_faddr ?_; first | refine a_faddr_q ?_ | refine a_faddr_p ?_) | (refine h_bin ?_; first | refine a_eql ?_ | refine a_lss ?_ | refine a_neq ?_ | refine a_geq ?_ | refine a_gtr ?_ | refine a_leq ?_ | refine a_add ?_ | refine a_sub ?_ | refine a_mul ?_ | refine a_eqs ?_ | refine a_nes ?_ | refine b_rem ?_ | refine b_quo ?_) | (refine h_cond ?_; first | refine b_cond_t ?_ | refine b_cond_f ?_ | refine a_cond (fun h => ?_) (fun h => ?_)) | (refine h_idx ?_; first | refine b_idx_n ?_ | refine b_idx_l ?_ | refine b_idx_i ?_ | refine b_idx_sn ?_ | refine b_idx_s ?_) | (refine h_row ?_; first | refine b_row_q ?_ | refine b_row_i ?_ | refine b_row_p ?_) | (refine h_len ?_; first | refine a_len_m ?_ | refine a_len_l ?_ | refine a_len_s ?_ | refine a_len_n ?_ | refine a_len_e ?_) | (refine h_ext ?_; refine b_ext ?_) | (refine h_calm ?_; refine b_calm ?_) | (refine h_note ?_; refine a_note ?_) | (refine h_pick ?_; first | refine b_pick_t ?_ | refine b_pick_f ?_) | (refine h_grd ?_; first | refine b_grd_y ?_ | refine b_grd_n ?_ | refine a_grd_u ?_ | refine a_grd_t (fun h => ?_) (fun h => ?_) | refine a_grd_f (fun h => ?_) (fun h => ?_)) | (refine h_dgrd ?_; first | refine b_dgrd_y ?_ | refine b_dgrd_n ?_ | refine a_dgrd_u ?_ | refine a_dgrd_t (fun h => ?_) (fun h => ?_) | refine a_dgrd_f (fun h => ?_) (fun h => ?_)) | (refine h_nilchk ?_; first | refine a_nil_p ?_ | refine a_nil_q ?_ | refine a_nil_f ?_) | refine a_mark ?_ | refine a_dmark ?_ | (refine h_un ?_; first | refine a_not ?_ | refine a_neg ?_) | (refine h_box ?_; refine b_box (fun nb_ hnb_ => ?_)) | (refine h_frz1 ?_; first | refine b_frz_p ?_ | refine b_frz_s ?_) | (refine h_store ?_; first | refine b_store_box ?_ | refine b_store_one ?_ | refine b_store_row ?_) | (refine h_idxP ?_; first | refine b_idxP_p ?_ | refine b_idxP_q ?_) | (refine h_mslice ?_; refine b_mslice (fun nb_ hnb_ => ?_)) | (refine h_bslice ?_; refine b_bslice (fun nb_ hnb_ => ?_)) | refine a_conv ?_ | refine a_convS ?_ | refine a_alloc (fun nb_ hnb_ => ?_) | refine b_build ?_ | refine b_fld ?_ | refine a_join ?_ | refine a_lenS ?_ | refine a_tt ?_)
        exact fin _ _ ⟨_, _, rfl⟩
  cases o with
  | none =>
    dsimp only [slotB, slotL] at loop ⊢
    repeat' (first | refine a_load_q (by first | assumption | rfl) rfl ?_ | refine a_load_q (at_inB (by assumption)) rfl ?_ | refine a_faddr_q ?_ | refine a_len_m ?_ | refine a_len_l ?_ | refine a_grd_y (by first | assumption | rfl) ?_ | refine a_grd_n (by first | assumption | rfl) ?_ | refine a_grd_u ?_ | refine a_pick_t (by first | assumption | rfl) ?_ | refine a_pick_f (by first | assumption | rfl) ?_ | refine a_eql ?_ | refine a_lss ?_ | refine a_neq ?_ | refine a_geq ?_ | refine a_gtr ?_ | refine a_leq ?_ | refine a_add ?_ | refine a_sub ?_ | refine a_mul ?_ | refine a_eqs ?_ | refine a_nes ?_ | refine a_not ?_ | refine a_neg ?_ | refine a_conv ?_ | refine a_convS ?_ | refine a_cond_t (by first | assumption | rfl) ?_ | refine a_cond_f (by first | assumption | rfl) ?_ | refine a_box rfl rfl (fun nb_ hnb_ => ?_) | refine a_frz_p (by first | exact .here _ | exact .there _ (.here _) | exact .there _ (.there _ (.here _)) | exact .there _ (.there _ (.there _ (.here _)))) (by first | exact Nat.succ_pos _ | decide | simp) (by first | exact Nat.succ_pos _ | decide | simp) ?_ | refine a_alloc (fun nb_ hnb_ => ?_) | refine a_faddr_p ?_ | refine a_store_box (by first | exact .here _ | exact .there _ (.here _) | exact .there _ (.there _ (.here _)) | exact .there _ (.there _ (.there _ (.here _))) | exact .there _ (.there _ (.there _ (.there _ (.here _))))) rfl rfl rfl rfl ?_ | refine a_store_one (by first | exact .here _ | exact .there _ (.here _) | exact .there _ (.there _ (.here _)) | exact .there _ (.there _ (.there _ (.here _))) | exact .there _ (.there _ (.there _ (.there _ (.here _))))) (by first | assumption | rfl) rfl rfl (by first | decide | exact Nat.lt_of_sub_pos (Nat.succ_pos _) | simp | omega) rfl ?_ | refine a_store_row (by first | exact .here _ | exact .there _ (.here _) | exact .there _ (.there _ (.here _)) | exact .there _ (.there _ (.there _ (.here _))) | exact .there _ (.there _ (.there _ (.there _ (.here _))))) (by first | assumption | rfl) rfl rfl rfl rfl rfl ?_ | refine a_load_p (by first | exact .head _ | exact .tail _ (.head _) | exact .tail _ (.tail _ (.head _)) | exact .tail _ (.tail _ (.tail _ (.head _))) | exact .tail _ (.tail _ (.tail _ (.tail _ (.head _))))) (by first | assumption | rfl) rfl ?_ | refine a_row_q (by first | assumption | rfl) rfl ?_ | refine a_row_q (at_inB (by assumption)) rfl ?_ | refine a_row_p (by first | exact .head _ | exact .tail _ (.head _) | exact .tail _ (.tail _ (.head _)) | exact .tail _ (.tail _ (.tail _ (.head _))) | exact .tail _ (.tail _ (.tail _ (.tail _ (.head _))))) (by first | assumption | rfl) rfl ?_ | refine a_idx_n (by first | assumption | rfl) rfl ?_ | refine a_idx_l (by first | decide | omega) (by first | assumption | rfl) rfl ?_ | refine a_idx_l (nn_inB (by assumption)) (at_inB (by assumption)) rfl ?_ | refine a_idx_sn (by first | assumption | omega) (by first | exact .head _ | exact .tail _ (.head _) | exact .tail _ (.tail _ (.head _)) | exact .tail _ (.tail _ (.tail _ (.head _)))) rfl ?_ | refine a_ext rfl ?_ | refine a_build rfl ?_ | refine a_fld rfl ?_ | refine a_nil_p ?_ | refine a_nil_q ?_ | refine a_nil_f ?_ | refine a_note ?_ | refine a_join ?_ | refine a_len_s ?_ | refine a_len_n ?_ | refine a_lenS ?_ | refine a_tt ?_ | refine a_calm (by simp only [W.free, blocksOf, slOf, List.forall_mem_nil, List.forall_mem_cons, List.not_mem_nil, not_false_eq_true, implies_true, and_true, true_and, and_self, Bool.false_eq_true, reduceCtorEq, forall_const, false_implies, List.mem_singleton, forall_eq, List.append_nil, List.nil_append]) ?_ | refine a_dgrd_y (by first | assumption | rfl) ?_ | refine a_dgrd_n (by first | assumption | rfl) ?_ | refine a_dgrd_u ?_ | refine a_mslice (by omega) (by omega) (by omega) (fun nb_ hnb_ => ?_) | refine a_bslice (by decide) rfl (fun nb_ hnb_ => ?_) | refine a_idx_s (by first | decide | omega) (by first | assumption | omega) (by first | exact .head _ | exact .tail _ (.head _) | exact .tail _ (.tail _ (.head _)) | exact .tail _ (.tail _ (.tail _ (.head _)))) rfl ?_ | refine a_len_e ?_)
    exact loop _ _ rfl
  | some b' =>
    dsimp only [slotB, slotL] at loop ⊢
    repeat' (first | refine a_load_q (by first | assumption | rfl) rfl ?_ | refine a_load_q (at_inB (by assumption)) rfl ?_ | refine a_faddr_q ?_ | refine a_len_m ?_ | refine a_len_l ?_ | refine a_grd_y (by first | assumption | rfl) ?_ | refine a_grd_n (by first | assumption | rfl) ?_ | refine a_grd_u ?_ | refine a_pick_t (by first | assumption | rfl) ?_ | refine a_pick_f (by first | assumption | rfl) ?_ | refine a_eql ?_ | refine a_lss ?_ | refine a_neq ?_ | refine a_geq ?_ | refine a_gtr ?_ | refine a_leq ?_ | refine a_add ?_ | refine a_sub ?_ | refine a_mul ?_ | refine a_eqs ?_ | refine a_nes ?_ | refine a_not ?_ | refine a_neg ?_ | refine a_conv ?_ | refine a_convS ?_ | refine a_cond_t (by first | assumption | rfl) ?_ | refine a_cond_f (by first | assumption | rfl) ?_ | refine a_box rfl rfl (fun nb_ hnb_ => ?_) | refine a_frz_p (by first | exact .here _ | exact .there _ (.here _) | exact .there _ (.there _ (.here _)) | exact .there _ (.there _ (.there _ (.here _)))) (by first | exact Nat.succ_pos _ | decide | simp) (by first | exact Nat.succ_pos _ | decide | simp) ?_ | refine a_alloc (fun nb_ hnb_ => ?_) | refine a_faddr_p ?_ | refine a_store_box (by first | exact .here _ | exact .there _ (.here _) | exact .there _ (.there _ (.here _)) | exact .there _ (.there _ (.there _ (.here _))) | exact .there _ (.there _ (.there _ (.there _ (.here _))))) rfl rfl rfl rfl ?_ | refine a_store_one (by first | exact .here _ | exact .there _ (.here _) | exact .there _ (.there _ (.here _)) | exact .there _ (.there _ (.there _ (.here _))) | exact .there _ (.there _ (.there _ (.there _ (.here _))))) (by first | assumption | rfl) rfl rfl (by first | decide | exact Nat.lt_of_sub_pos (Nat.succ_pos _) | simp | omega) rfl ?_ | refine a_store_row (by first | exact .here _ | exact .there _ (.here _) | exact .there _ (.there _ (.here _)) | exact .there _ (.there _ (.there _ (.here _))) | exact .there _ (.there _ (.there _ (.there _ (.here _))))) (by first | assumption | rfl) rfl rfl rfl rfl rfl ?_ | refine a_load_p (by first | exact .head _ | exact .tail _ (.head _) | exact .tail _ (.tail _ (.head _)) | exact .tail _ (.tail _ (.tail _ (.head _))) | exact .tail _ (.tail _ (.tail _ (.tail _ (.head _))))) (by first | assumption | rfl) rfl ?_ | refine a_row_q (by first | assumption | rfl) rfl ?_ | refine a_row_q (at_inB (by assumption)) rfl ?_ | refine a_row_p (by first | exact .head _ | exact .tail _ (.head _) | exact .tail _ (.tail _ (.head _)) | exact .tail _ (.tail _ (.tail _ (.head _))) | exact .tail _ (.tail _ (.tail _ (.tail _ (.head _))))) (by first | assumption | rfl) rfl ?_ | refine a_idx_n (by first | assumption | rfl) rfl ?_ | refine a_idx_l (by first | decide | omega) (by first | assumption | rfl) rfl ?_ | refine a_idx_l (nn_inB (by assumption)) (at_inB (by assumption)) rfl ?_ | refine a_idx_sn (by first | assumption | omega) (by first | exact .head _ | exact .tail _ (.head _) | exact .tail _ (.tail _ (.head _)) | exact .tail _ (.tail _ (.tail _ (.head _)))) rfl ?_ | refine a_ext rfl ?_ | refine a_build rfl ?_ | refine a_fld rfl ?_ | refine a_nil_p ?_ | refine a_nil_q ?_ | refine a_nil_f ?_ | refine a_note ?_ | refine a_join ?_ | refine a_len_s ?_ | refine a_len_n ?_ | refine a_lenS ?_ | refine a_tt ?_ | refine a_calm (by simp only [W.free, blocksOf, slOf, List.forall_mem_nil, List.forall_mem_cons, List.not_mem_nil, not_false_eq_true, implies_true, and_true, true_and, and_self, Bool.false_eq_true, reduceCtorEq, forall_const, false_implies, List.mem_singleton, forall_eq, List.append_nil, List.nil_append]) ?_ | refine a_dgrd_y (by first | assumption | rfl) ?_ | refine a_dgrd_n (by first | assumption | rfl) ?_ | refine a_dgrd_u ?_ | refine a_mslice (by omega) (by omega) (by omega) (fun nb_ hnb_ => ?_) | refine a_bslice (by decide) rfl (fun nb_ hnb_ => ?_) | refine a_idx_s (by first | decide | omega) (by first | assumption | omega) (by first | exact .head _ | exact .tail _ (.head _) | exact .tail _ (.tail _ (.head _)) | exact .tail _ (.tail _ (.tail _ (.head _)))) rfl ?_ | refine a_len_e ?_)
    exact loop _ _ rfl
end Go.Proofs.Ytadjimfkfmojkaa.Am

end
section
namespace Go.Proofs.Ytadjimfkfmojkaa.Am
set_option maxRecDepth 100000
set_option linter.unusedSimpArgs false
set_option linter.unusedVariables false
set_option linter.unusedSectionVars false
theorem union_ok (a b : List Int) (ha : a.length ≤ 2 ^ 30) (hb : b.length ≤ 2 ^ 30) : PureA Try.prog 14 [.lst (a.map intE), .lst (b.map intE)] (.lst ((asc (a ++ b)).map intE)) := by
  refine CallA.fz (silent_Union_ok _ _ _ _ ?_)
  unfold silent_Union_w
  generalize hQ : (fun (v : AV) (L : SH) => ∃ v2 L2, FzS [v] L [v2] L2 ∧ v2 = AV.lst ((asc (a ++ b)).map intE) ∧ L2 = []) = Q
  have hsum : IntKind.i64.wrap ((a.length : Int) + b.length) = ((a.length + b.length : Nat) : Int) := by rw [IntWalk.i64_in _ (by omega)]; omega
  have fin : ∀ (bk : Nat) (L : SH), (bk, (⟨1, (Lib.compact (srt (a ++ b)) ++ List.replicate ((a ++ b).length - (Lib.compact (srt (a ++ b))).length) 0).map intE⟩ : Blk)) ∈ L → Q (.sl bk 0 (Lib.compact (srt (a ++ b))).length) L := fun bk L hm => by
    subst hQ
    refine ⟨_, [], FzS.all ?_, rfl, rfl⟩
    show Fz _ (.sl bk 0 (asc (a ++ b)).length) (.lst ((asc (a ++ b)).map intE))
    rw [show (asc (a ++ b)).map intE = ((((Lib.compact (srt (a ++ b)) ++ List.replicate ((a ++ b).length - (Lib.compact (srt (a ++ b))).length) 0).map intE).drop 0).take (asc (a ++ b)).length) from (take_map (List.take_left' rfl)).symm]
    exact Fz.rows (x := ⟨1, _⟩) hm (by simp) (by simp [asc])
  have h2 := fun bk : Nat => sort_ok bk (a ++ b) (by simp; omega)
  have h3 := fun bk : Nat => compact_ok bk (srt (a ++ b)) (by rw [srt_len]; simp; omega)
  simp only [srt_len] at h3
  repeat' (first | (refine h_load1 ?_; first | refine b_load_q ?_ | refine b_load_i ?_ | refine b_load_p ?_) | (refine h_faddr ?_; first | refine a_faddr_q ?_ | refine a_faddr_p ?_) | (refine h_bin ?_; first | refine a_eql ?_ | refine a_lss ?_ | refine a_neq ?_ | refine a_geq ?_ | refine a_gtr ?_ | refine a_leq ?_ | refine a_add ?_ | refine a_sub ?_ | refine a_mul ?_ | refine a_eqs ?_ | refine a_nes ?_ | refine b_rem ?_ | refine b_quo ?_) | (refine h_cond ?_; first | refine b_cond_t ?_ | refine b_cond_f ?_ | refine a_cond (fun h => ?_) (fun h => ?_)) | (refine h_idx ?_; first | refine b_idx_n ?_ | refine b_idx_l ?_ | refine b_idx_i ?_ | refine b_idx_sn ?_ | refine b_idx_s ?_) | (refine h_row ?_; first | refine b_row_q ?_ | refine b_row_i ?_ | refine b_row_p ?_) | (refine h_len ?_; first | refine a_len_m ?_ | refine a_len_l ?_ | refine a_len_s ?_ | refine a_len_n ?_ | refine a_len_e ?_) | (refine h_ext ?_; refine b_ext ?_) | (refine h_calm ?_; refine b_calm ?_) | (refine h_note ?_; refine a_note ?_) | (refine h_pick ?_; first | refine b_pick_t ?_ | refine b_pick_f ?_) | (refine h_grd ?_; first | refine b_grd_y ?_ | refine b_grd_n ?_ | refine a_grd_u ?_ | refine a_grd_t (fun h => ?_) (fun h => ?_) | refine a_grd_f (fun h => ?_) (fun h => ?_)) | (refine h_dgrd ?_; first | refine b_dgrd_y ?_ | refine b_dgrd_n ?_ | refine a_dgrd_u ?_ | refine a_dgrd_t (fun h => ?_) (fun h => ?_) | refine a_dgrd_f (fun h => ?_) (fun h => ?_)) | (refine h_nilchk ?_; first | refine a_nil_p ?_ | refine a_nil_q ?_ | refine a_nil_f ?_) | refine a_mark ?_ | refine a_dmark ?_ | (refine h_un ?_; first | refine a_not ?_ | refine a_neg ?_) | (refine h_box ?_; refine b_box (fun nb_ hnb_ => ?_)) | (refine h_frz1 ?_; first | refine b_frz_p ?_ | refine b_frz_s ?_) | (refine h_store ?_; first | refine b_store_box ?_ | refine b_store_one ?_ | refine b_store_row ?_) | (refine h_idxP ?_; first | refine b_idxP_p ?_ | refine b_idxP_q ?_) | (refine h_mslice ?_; refine b_mslice (fun nb_ hnb_ => ?_)) | (refine h_bslice ?_; refine b_bslice (fun nb_ hnb_ => ?_)) | refine a_conv ?_ | refine a_convS ?_ | refine a_alloc (fun nb_ hnb_ => ?_) | refine b_build ?_ | refine b_fld ?_ | refine a_join ?_ | refine a_lenS ?_ | refine a_tt ?_)
  rw [hsum]
  refine a_mslice (i := 0) (j := a.length + b.length) (by omega) (by omega) (by omega) (fun nb_ hnb_ => ?_)
  repeat' (first | (refine h_load1 ?_; first | refine b_load_q ?_ | refine b_load_i ?_ | refine b_load_p ?_) | (refine h_faddr ?_; first | refine a_faddr_q ?_ | refine a_faddr_p ?_) | (refine h_bin ?_; first | refine a_eql ?_ | refine a_lss ?_ | refine a_neq ?_ | refine a_geq ?_ | refine a_gtr ?_ | refine a_leq ?_ | refine a_add ?_ | refine a_sub ?_ | refine a_mul ?_ | refine a_eqs ?_ | refine a_nes ?_ | refine b_rem ?_ | refine b_quo ?_) | (refine h_cond ?_; first | refine b_cond_t ?_ | refine b_cond_f ?_ | refine a_cond (fun h => ?_) (fun h => ?_)) | (refine h_idx ?_; first | refine b_idx_n ?_ | refine b_idx_l ?_ | refine b_idx_i ?_ | refine b_idx_sn ?_ | refine b_idx_s ?_) | (refine h_row ?_; first | refine b_row_q ?_ | refine b_row_i ?_ | refine b_row_p ?_) | (refine h_len ?_; first | refine a_len_m ?_ | refine a_len_l ?_ | refine a_len_s ?_ | refine a_len_n ?_ | refine a_len_e ?_) | (refine h_ext ?_; refine b_ext ?_) | (refine h_calm ?_; refine b_calm ?_) | (refine h_note ?_; refine a_note ?_) | (refine h_pick ?_; first | refine b_pick_t ?_ | refine b_pick_f ?_) | (refine h_grd ?_; first | refine b_grd_y ?_ | refine b_grd_n ?_ | refine a_grd_u ?_ | refine a_grd_t (fun h => ?_) (fun h => ?_) | refine a_grd_f (fun h => ?_) (fun h => ?_)) | (refine h_dgrd ?_; first | refine b_dgrd_y ?_ | refine b_dgrd_n ?_ | refine a_dgrd_u ?_ | refine a_dgrd_t (fun h => ?_) (fun h => ?_) | refine a_dgrd_f (fun h => ?_) (fun h => ?_)) | (refine h_nilchk ?_; first | refine a_nil_p ?_ | refine a_nil_q ?_ | refine a_nil_f ?_) | refine a_mark ?_ | refine a_dmark ?_ | refine a_app_sm (by repeat constructor) (fun _ => rfl) (by simp) (by simp; omega) (by simp; omega) (fun _ => rfl) (fun nb_ hnb_ => ?_) | (refine h_un ?_; first | refine a_not ?_ | refine a_neg ?_) | (refine h_box ?_; refine b_box (fun nb_ hnb_ => ?_)) | (refine h_frz1 ?_; first | refine b_frz_p ?_ | refine b_frz_s ?_) | (refine h_store ?_; first | refine b_store_box ?_ | refine b_store_one ?_ | refine b_store_row ?_) | (refine h_idxP ?_; first | refine b_idxP_p ?_ | refine b_idxP_q ?_) | (refine h_mslice ?_; refine b_mslice (fun nb_ hnb_ => ?_)) | (refine h_bslice ?_; refine b_bslice (fun nb_ hnb_ => ?_)) | refine a_conv ?_ | refine a_convS ?_ | refine a_alloc (fun nb_ hnb_ => ?_) | refine b_build ?_ | refine b_fld ?_ | refine a_join ?_ | refine a_lenS ?_ | refine a_tt ?_)
  simp only [List.replicate, List.nil_append, ← List.map_append, Nat.zero_add, ← List.length_append]
  repeat' (first | (refine h_load1 ?_; first | refine b_load_q ?_ | refine b_load_i ?_ | refine b_load_p ?_) | (refine h_faddr ?_; first | refine a_faddr_q ?_ | refine a_faddr_p ?_) | (refine h_bin ?_; first | refine a_eql ?_ | refine a_lss ?_ | refine a_neq ?_ | refine a_geq ?_ | refine a_gtr ?_ | refine a_leq ?_ | refine a_add ?_ | refine a_sub ?_ | refine a_mul ?_ | refine a_eqs ?_ | refine a_nes ?_ | refine b_rem ?_ | refine b_quo ?_) | (refine h_cond ?_; first | refine b_cond_t ?_ | refine b_cond_f ?_ | refine a_cond (fun h => ?_) (fun h => ?_)) | (refine h_idx ?_; first | refine b_idx_n ?_ | refine b_idx_l ?_ | refine b_idx_i ?_ | refine b_idx_sn ?_ | refine b_idx_s ?_) | (refine h_row ?_; first | refine b_row_q ?_ | refine b_row_i ?_ | refine b_row_p ?_) | (refine h_len ?_; first | refine a_len_m ?_ | refine a_len_l ?_ | refine a_len_s ?_ | refine a_len_n ?_ | refine a_len_e ?_) | (refine h_ext ?_; refine b_ext ?_) | (refine h_calm ?_; refine b_calm ?_) | (refine h_note ?_; refine a_note ?_) | (refine h_pick ?_; first | refine b_pick_t ?_ | refine b_pick_f ?_) | (refine h_grd ?_; first | refine b_grd_y ?_ | refine b_grd_n ?_ | refine a_grd_u ?_ | refine a_grd_t (fun h => ?_) (fun h => ?_) | refine a_grd_f (fun h => ?_) (fun h => ?_)) | (refine h_dgrd ?_; first | refine b_dgrd_y ?_ | refine b_dgrd_n ?_ | refine a_dgrd_u ?_ | refine a_dgrd_t (fun h => ?_) (fun h => ?_) | refine a_dgrd_f (fun h => ?_) (fun h => ?_)) | (refine h_nilchk ?_; first | refine a_nil_p ?_ | refine a_nil_q ?_ | refine a_nil_f ?_) | refine a_mark ?_ | refine a_dmark ?_ | ((with_reducible refine h_fn 40 ?_); (refine m_callD (h2 _) (.here _) ?_; rintro _ _ ⟨rfl, rfl⟩)) | ((with_reducible refine h_fn 41 ?_); (refine m_callD (h3 _) (.here _) ?_; rintro _ _ ⟨rfl, rfl⟩)) | (refine h_un ?_; first | refine a_not ?_ | refine a_neg ?_) | (refine h_box ?_; refine b_box (fun nb_ hnb_ => ?_)) | (refine h_frz1 ?_; first | refine b_frz_p ?_ | refine b_frz_s ?_) | (refine h_store ?_; first | refine b_store_box ?_ | refine b_store_one ?_ | refine b_store_row ?_) | (refine h_idxP ?_; first | refine b_idxP_p ?_ | refine b_idxP_q ?_) | (refine h_mslice ?_; refine b_mslice (fun nb_ hnb_ => ?_)) | (refine h_bslice ?_; refine b_bslice (fun nb_ hnb_ => ?_)) | refine a_conv ?_ | refine a_convS ?_ | refine a_alloc (fun nb_ hnb_ => ?_) | refine b_build ?_ | refine b_fld ?_ | refine a_join ?_ | refine a_lenS ?_ | refine a_tt ?_)
  exact fin _ _ (by repeat constructor)
theorem FzS.pickV {vs vs2 : List AV} {L R : SH} (h : Pick L R) (hv : ∀ K, FzL K vs vs2) : FzS vs L vs2 R := by
  obtain ⟨K, hK⟩ := h.perm
  exact FzS.drop hK (hv K).at_.1 (hv K).at_.2
theorem copyT_ok (s : TsD) (h1 : s.regs.length < 2 ^ 40) (h2 : s.taint.length < 2 ^ 40) (h3 : ∀ l ∈ s.taint, l.length ≤ 2 ^ 30) : CallA Try.prog 44 [.agg s.enc] [] (CopiedT s) := by
  refine CallA.fz (ref07_Copy_ok _ _ _ ?_)
  unfold ref07_Copy_w
  generalize hQ : (fun (v : AV) (L : SH) => ∃ v2 L2, FzS [v] L [v2] L2 ∧ CopiedT s v2 L2) = Q
  repeat' (first | (refine h_load1 ?_; first | refine b_load_q ?_ | refine b_load_i ?_ | refine b_load_p ?_) | (refine h_faddr ?_; first | refine a_faddr_q ?_ | refine a_faddr_p ?_) | (refine h_bin ?_; first | refine a_eql ?_ | refine a_lss ?_ | refine a_neq ?_ | refine a_geq ?_ | refine a_gtr ?_ | refine a_leq ?_ | refine a_add ?_ | refine a_sub ?_ | refine a_mul ?_ | refine a_eqs ?_ | refine a_nes ?_ | refine b_rem ?_ | refine b_quo ?_) | (refine h_cond ?_; first | refine b_cond_t ?_ | refine b_cond_f ?_ | refine a_cond (fun h => ?_) (fun h => ?_)) | (refine h_idx ?_; first | refine b_idx_n ?_ | refine b_idx_l ?_ | refine b_idx_i ?_ | refine b_idx_sn ?_ | refine b_idx_s ?_) | (refine h_row ?_; first | refine b_row_q ?_ | refine b_row_i ?_ | refine b_row_p ?_) | (refine h_len ?_; first | refine a_len_m ?_ | refine a_len_l ?_ | refine a_len_s ?_ | refine a_len_n ?_ | refine a_len_e ?_) | (refine h_ext ?_; refine b_ext ?_) | (refine h_calm ?_; refine b_calm ?_) | (refine h_note ?_; refine a_note ?_) | (refine h_pick ?_; first | refine b_pick_t ?_ | refine b_pick_f ?_) | (refine h_grd ?_; first | refine b_grd_y ?_ | refine b_grd_n ?_ | refine a_grd_u ?_ | refine a_grd_t (fun h => ?_) (fun h => ?_) | refine a_grd_f (fun h => ?_) (fun h => ?_)) | (refine h_dgrd ?_; first | refine b_dgrd_y ?_ | refine b_dgrd_n ?_ | refine a_dgrd_u ?_ | refine a_dgrd_t (fun h => ?_) (fun h => ?_) | refine a_dgrd_f (fun h => ?_) (fun h => ?_)) | (refine h_nilchk ?_; first | refine a_nil_p ?_ | refine a_nil_q ?_ | refine a_nil_f ?_) | refine a_mark ?_ | refine a_dmark ?_ | refine a_app_sm (by repeat constructor) (fun _ => rfl) (by rfl) (by simp; omega) (by simp; omega) (fun _ => rfl) (fun nb_ hnb_ => ?_) | (refine h_un ?_; first | refine a_not ?_ | refine a_neg ?_) | (refine h_box ?_; refine b_box (fun nb_ hnb_ => ?_)) | (refine h_frz1 ?_; first | refine b_frz_p ?_ | refine b_frz_s ?_) | (refine h_store ?_; first | refine b_store_box ?_ | refine b_store_one ?_ | refine b_store_row ?_) | (refine h_idxP ?_; first | refine b_idxP_p ?_ | refine b_idxP_q ?_) | (refine h_mslice ?_; refine b_mslice (fun nb_ hnb_ => ?_)) | (refine h_bslice ?_; refine b_bslice (fun nb_ hnb_ => ?_)) | refine a_conv ?_ | refine a_convS ?_ | refine a_alloc (fun nb_ hnb_ => ?_) | refine b_build ?_ | refine b_fld ?_ | refine a_join ?_ | refine a_lenS ?_ | refine a_tt ?_)
  rename_i _ _ b2 _ _ _ b1 _
  rw [Nat.zero_add]
  revert nb_
  intro b3 _
  refine loop_ex s.taint.length (fun i (o : Option Nat) => ([.pptr [s.enc] 0 0, .ptr b2 0 0, .ptr b3 0 0, .int .i64 i], (b3, ⟨4, [[.int .i64 s.pc, .sl b1 0 s.regs.length, slotV o i, .int .i64 s.ev]]⟩) :: (b1, ⟨1, s.regs.map intE⟩) :: (b2, ⟨4, [[.int .i64 0, .nils, .nils, .int .i64 0]]⟩) :: slotB o 1 ((s.taint.take i).map lstE))) (fun i o => o = none → i = 0) none (fun _ => rfl) (FzS.box (K := []) (.refl _) (.cons (.refl _) (.cons (.refl _) (.cons .nile (.cons (.refl _) .nil))))) ?_
  intro i o hi ho
  dsimp only
  unfold ref07_Copy_l0
  have hlen : ((s.taint.take i).map lstE).length = i := by simp; omega
  have h0 : o = none → (s.taint.take i).map lstE = [] := fun e => by rw [ho e]; rfl
  rcases Nat.lt_or_ge i s.taint.length with g1 | g1
  · have hd := dec_lt g1
    have hx := map_at (f := lstE) g1
    have hr := h3 _ (List.getElem_mem g1)
    repeat' (first | (refine h_load1 ?_; first | refine b_load_q ?_ | refine b_load_i ?_ | refine b_load_p ?_) | (refine h_faddr ?_; first | refine a_faddr_q ?_ | refine a_faddr_p ?_) | (refine h_bin ?_; first | refine a_eql ?_ | refine a_lss ?_ | refine a_neq ?_ | refine a_geq ?_ | refine a_gtr ?_ | refine a_leq ?_ | refine a_add ?_ | refine a_sub ?_ | refine a_mul ?_ | refine a_eqs ?_ | refine a_nes ?_ | refine b_rem ?_ | refine b_quo ?_) | (refine h_cond ?_; first | refine b_cond_t ?_ | refine b_cond_f ?_ | refine a_cond (fun h => ?_) (fun h => ?_)) | (refine h_idx ?_; first | refine b_idx_n ?_ | refine b_idx_l ?_ | refine b_idx_i ?_ | refine b_idx_sn ?_ | refine b_idx_s ?_) | (refine h_row ?_; first | refine b_row_q ?_ | refine b_row_i ?_ | refine b_row_p ?_) | (refine h_len ?_; first | refine a_len_m ?_ | refine a_len_l ?_ | refine a_len_s ?_ | refine a_len_n ?_ | refine a_len_e ?_) | (refine h_ext ?_; refine b_ext ?_) | (refine h_calm ?_; refine b_calm ?_) | (refine h_note ?_; refine a_note ?_) | (refine h_pick ?_; first | refine b_pick_t ?_ | refine b_pick_f ?_) | (refine h_grd ?_; first | refine b_grd_y ?_ | refine b_grd_n ?_ | refine a_grd_u ?_ | refine a_grd_t (fun h => ?_) (fun h => ?_) | refine a_grd_f (fun h => ?_) (fun h => ?_)) | (refine h_dgrd ?_; first | refine b_dgrd_y ?_ | refine b_dgrd_n ?_ | refine a_dgrd_u ?_ | refine a_dgrd_t (fun h => ?_) (fun h => ?_) | refine a_dgrd_f (fun h => ?_) (fun h => ?_)) | (refine h_nilchk ?_; first | refine a_nil_p ?_ | refine a_nil_q ?_ | refine a_nil_f ?_) | refine a_mark ?_ | refine a_dmark ?_ | refine a_app_sm (by repeat constructor) (fun _ => rfl) (by rfl) (by simp; omega) (by simp; omega) (fun _ => rfl) (fun nb_ hnb_ => ?_) | refine a_app_o (by repeat constructor) (by repeat constructor) hlen h0 (by rfl) (by simp) (by simp; omega) (by simp; omega) (by rfl) (fun nb_ hnb_ => ?_) | (refine h_un ?_; first | refine a_not ?_ | refine a_neg ?_) | (refine h_box ?_; refine b_box (fun nb_ hnb_ => ?_)) | (refine h_frz1 ?_; first | refine b_frz_p ?_ | refine b_frz_s ?_) | (refine h_store ?_; first | refine b_store_box ?_ | refine b_store_one ?_ | refine b_store_row ?_) | (refine h_idxP ?_; first | refine b_idxP_p ?_ | refine b_idxP_q ?_) | (refine h_mslice ?_; refine b_mslice (fun nb_ hnb_ => ?_)) | (refine h_bslice ?_; refine b_bslice (fun nb_ hnb_ => ?_)) | refine a_conv ?_ | refine a_convS ?_ | refine a_alloc (fun nb_ hnb_ => ?_) | refine b_build ?_ | refine b_fld ?_ | refine a_join ?_ | refine a_lenS ?_ | refine a_tt ?_)
    rename_i br _ _ _
    refine ⟨i + 1, some nb_, by omega, by omega, nofun, ?_⟩
    refine FzS.rowA (A := [(b3, _), (b1, _), (b2, _)]) (b := nb_) (R := []) (rows' := (s.taint.take (i + 1)).map lstE) (by repeat constructor) ?_ ?_ (by rw [i64_succ g1 (by omega)]; rfl)
    · simp; omega
    · intro j r r' q1 q2
      rw [List.take_succ_eq_append_getElem g1, List.map_append] at q2
      rcases Nat.lt_or_ge j i with hj | hj
      · rw [List.getElem?_append_left (by rw [hlen]; exact hj)] at q1 q2
        rw [q1] at q2; cases q2
        exact FzL.refl _ _
      · rw [List.getElem?_append_right (by rw [hlen]; exact hj), hlen] at q1 q2
        generalize j - i = k at q1 q2
        match k with
        | 0 =>
          cases q1; cases q2
          exact .cons (Fz.sls (l := s.taint[i]) (by repeat constructor) rfl (by decide) (by simp)) .nil
        | k + 1 => simp at q1
  · have hd := dec_ge g1
    have hi0 : i = s.taint.length := by omega
    subst hi0
    rw [List.take_of_length_le (Nat.le_refl _)]
    have ho2 : o = none → s.taint = [] := fun e => List.length_eq_zero_iff.1 (ho e)
    cases o with
    | none =>
      dsimp only [slotV, slotB]
      repeat' (first | (refine h_load1 ?_; first | refine b_load_q ?_ | refine b_load_i ?_ | refine b_load_p ?_) | (refine h_faddr ?_; first | refine a_faddr_q ?_ | refine a_faddr_p ?_) | (refine h_bin ?_; first | refine a_eql ?_ | refine a_lss ?_ | refine a_neq ?_ | refine a_geq ?_ | refine a_gtr ?_ | refine a_leq ?_ | refine a_add ?_ | refine a_sub ?_ | refine a_mul ?_ | refine a_eqs ?_ | refine a_nes ?_ | refine b_rem ?_ | refine b_quo ?_) | (refine h_cond ?_; first | refine b_cond_t ?_ | refine b_cond_f ?_ | refine a_cond (fun h => ?_) (fun h => ?_)) | (refine h_idx ?_; first | refine b_idx_n ?_ | refine b_idx_l ?_ | refine b_idx_i ?_ | refine b_idx_sn ?_ | refine b_idx_s ?_) | (refine h_row ?_; first | refine b_row_q ?_ | refine b_row_i ?_ | refine b_row_p ?_) | (refine h_len ?_; first | refine a_len_m ?_ | refine a_len_l ?_ | refine a_len_s ?_ | refine a_len_n ?_ | refine a_len_e ?_) | (refine h_ext ?_; refine b_ext ?_) | (refine h_calm ?_; refine b_calm ?_) | (refine h_note ?_; refine a_note ?_) | (refine h_pick ?_; first | refine b_pick_t ?_ | refine b_pick_f ?_) | (refine h_grd ?_; first | refine b_grd_y ?_ | refine b_grd_n ?_ | refine a_grd_u ?_ | refine a_grd_t (fun h => ?_) (fun h => ?_) | refine a_grd_f (fun h => ?_) (fun h => ?_)) | (refine h_dgrd ?_; first | refine b_dgrd_y ?_ | refine b_dgrd_n ?_ | refine a_dgrd_u ?_ | refine a_dgrd_t (fun h => ?_) (fun h => ?_) | refine a_dgrd_f (fun h => ?_) (fun h => ?_)) | (refine h_nilchk ?_; first | refine a_nil_p ?_ | refine a_nil_q ?_ | refine a_nil_f ?_) | refine a_mark ?_ | refine a_dmark ?_ | (refine h_un ?_; first | refine a_not ?_ | refine a_neg ?_) | (refine h_box ?_; refine b_box (fun nb_ hnb_ => ?_)) | (refine h_frz1 ?_; first | refine b_frz_p ?_ | refine b_frz_s ?_) | (refine h_store ?_; first | refine b_store_box ?_ | refine b_store_one ?_ | refine b_store_row ?_) | (refine h_idxP ?_; first | refine b_idxP_p ?_ | refine b_idxP_q ?_) | (refine h_mslice ?_; refine b_mslice (fun nb_ hnb_ => ?_)) | (refine h_bslice ?_; refine b_bslice (fun nb_ hnb_ => ?_)) | refine a_conv ?_ | refine a_convS ?_ | refine a_alloc (fun nb_ hnb_ => ?_) | refine b_build ?_ | refine b_fld ?_ | refine a_join ?_ | refine a_lenS ?_ | refine a_tt ?_)
      subst hQ
      exact ⟨.agg [.int .i64 s.pc, .sl b1 0 s.regs.length, .lst [], .int .i64 s.ev], _, FzS.pickV (R := [(b1, _)]) (by repeat constructor) (fun K => .cons (Fz.aggs (.cons (.refl _) (.cons (.refl _) (.cons .emp (.cons (.refl _) .nil))))) .nil), some b1, none, rfl, rfl, nofun, ho2⟩
    | some bl =>
      dsimp only [slotV, slotB]
      repeat' (first | (refine h_load1 ?_; first | refine b_load_q ?_ | refine b_load_i ?_ | refine b_load_p ?_) | (refine h_faddr ?_; first | refine a_faddr_q ?_ | refine a_faddr_p ?_) | (refine h_bin ?_; first | refine a_eql ?_ | refine a_lss ?_ | refine a_neq ?_ | refine a_geq ?_ | refine a_gtr ?_ | refine a_leq ?_ | refine a_add ?_ | refine a_sub ?_ | refine a_mul ?_ | refine a_eqs ?_ | refine a_nes ?_ | refine b_rem ?_ | refine b_quo ?_) | (refine h_cond ?_; first | refine b_cond_t ?_ | refine b_cond_f ?_ | refine a_cond (fun h => ?_) (fun h => ?_)) | (refine h_idx ?_; first | refine b_idx_n ?_ | refine b_idx_l ?_ | refine b_idx_i ?_ | refine b_idx_sn ?_ | refine b_idx_s ?_) | (refine h_row ?_; first | refine b_row_q ?_ | refine b_row_i ?_ | refine b_row_p ?_) | (refine h_len ?_; first | refine a_len_m ?_ | refine a_len_l ?_ | refine a_len_s ?_ | refine a_len_n ?_ | refine a_len_e ?_) | (refine h_ext ?_; refine b_ext ?_) | (refine h_calm ?_; refine b_calm ?_) | (refine h_note ?_; refine a_note ?_) | (refine h_pick ?_; first | refine b_pick_t ?_ | refine b_pick_f ?_) | (refine h_grd ?_; first | refine b_grd_y ?_ | refine b_grd_n ?_ | refine a_grd_u ?_ | refine a_grd_t (fun h => ?_) (fun h => ?_) | refine a_grd_f (fun h => ?_) (fun h => ?_)) | (refine h_dgrd ?_; first | refine b_dgrd_y ?_ | refine b_dgrd_n ?_ | refine a_dgrd_u ?_ | refine a_dgrd_t (fun h => ?_) (fun h => ?_) | refine a_dgrd_f (fun h => ?_) (fun h => ?_)) | (refine h_nilchk ?_; first | refine a_nil_p ?_ | refine a_nil_q ?_ | refine a_nil_f ?_) | refine a_mark ?_ | refine a_dmark ?_ | (refine h_un ?_; first | refine a_not ?_ | refine a_neg ?_) | (refine h_box ?_; refine b_box (fun nb_ hnb_ => ?_)) | (refine h_frz1 ?_; first | refine b_frz_p ?_ | refine b_frz_s ?_) | (refine h_store ?_; first | refine b_store_box ?_ | refine b_store_one ?_ | refine b_store_row ?_) | (refine h_idxP ?_; first | refine b_idxP_p ?_ | refine b_idxP_q ?_) | (refine h_mslice ?_; refine b_mslice (fun nb_ hnb_ => ?_)) | (refine h_bslice ?_; refine b_bslice (fun nb_ hnb_ => ?_)) | refine a_conv ?_ | refine a_convS ?_ | refine a_alloc (fun nb_ hnb_ => ?_) | refine b_build ?_ | refine b_fld ?_ | refine a_join ?_ | refine a_lenS ?_ | refine a_tt ?_)
      subst hQ
      exact ⟨_, _, FzS.pick (R := [(b1, _), (bl, _)]) (by repeat constructor) rfl, some b1, some bl, rfl, rfl, nofun, ho2⟩
end Go.Proofs.Ytadjimfkfmojkaa.Am

end
