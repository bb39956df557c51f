/- What the bodies of these functions demand, printed by a program of mine (Gen) from the seat's program; each is checked by the kernel against the body. -/
import Derived.Test.YtadjimfkfmojkaaSlh
namespace Go.Proofs.Ytadjimfkfmojkaa.Am
set_option linter.unusedVariables false
set_option maxRecDepth 100000
/- interleave/interleaveref07.Has -/
def ref07_Has_t : Hints := ⟨fun k => none, fun k => if k = 2 then [0, 1, 5] else [], fun k => [], fun k => []⟩
def ref07_Has_l0 (Q : AV → SH → Prop) (vs_0 : List AV) (L_2 : SH) (nx_1 : W.Kn) : Prop :=
 W.len (slotOf [0, 1, 5] vs_0 0) fun t8_3 =>
 W.bin Try.prog Fl .lss 3 (slotOf [0, 1, 5] vs_0 5) t8_3 fun t9_4 =>
 W.cond t9_4 (
 W.idx 1 (slotOf [0, 1, 5] vs_0 0) (slotOf [0, 1, 5] vs_0 5) L_2 fun t14_5 =>
 W.load false 1 t14_5 L_2 fun t15_6 =>
 W.bin Try.prog Fl .eql 3 t15_6 (slotOf [0, 1, 5] vs_0 1) fun t17_7 =>
 W.cond t17_7 (
 Q (.bool true) L_2) (
 W.bin Try.prog Fl .add 3 (slotOf [0, 1, 5] vs_0 5) (.int .i64 1) fun t11_8 =>
 nx_1 [(slotOf [0, 1, 5] vs_0 0), (slotOf [0, 1, 5] vs_0 1), t11_8] L_2)) (
 Q (.bool false) L_2)
def ref07_Has_w (t0 t1 : AV) (L : SH) (Q : AV → SH → Prop) : Prop :=
 W.loop (ref07_Has_l0 Q) [t0, t1, (.int .i64 0)] L
theorem ref07_Has_e (t0 t1 : AV) (L : SH) (Q : AV → SH → Prop) : W.func Try.prog Fl ref07_Has_t Try.f15 (Try.f15.body.getD .skip) [t0, t1] L Q = ref07_Has_w t0 t1 L Q := by kernel_rfl
theorem ref07_Has_ok (t0 t1 : AV) (L : SH) (Q : AV → SH → Prop) (h : ref07_Has_w t0 t1 L Q) : CallA Try.prog 15 [t0, t1] L Q :=
  func_sound (ht := ref07_Has_t) fit Try.func15 (show Try.f15.body = some (Try.f15.body.getD .skip) by kernel_rfl) (Eq.mpr (ref07_Has_e t0 t1 L Q) h)

/- interleave/interleaveref07.Settle -/
def ref07_Settle_t : Hints := ⟨fun k => none, fun k => if k = 5 then [2, 3, 4, 6] else [], fun k => if k = 0 then [2] else if k = 9 then [7] else if k = 14 then [8] else [], fun k => []⟩
def ref07_Settle_c0 (vs_46 : List AV) (Q : AV → SH → Prop) (nx_47 : W.Kn) (t66_112 : AV) (L_113 : SH) : Prop :=
 W.ext 0 t66_112 fun t67_114 =>
 W.ext 1 t66_112 fun t68_115 =>
 W.alloc [(.int .i64 0), .nils, .nils, (.int .i64 0)] L_113 fun t8_116 L_117 =>
 W.store 4 t8_116 t67_114 L_117 fun L_118 =>
 W.frz1 t8_116 L_118 fun t8_119 L_120 =>
 W.un .not t68_115 fun t70_121 =>
 W.cond t70_121 (
 W.build [(.int .i64 0), .nils, .nils, (.int .i64 0)] [] fun t71_122 =>
 W.store 4 (slotOf [2, 3, 4, 6] vs_46 4) t71_122 L_120 fun L_123 =>
 W.load true 4 (slotOf [2, 3, 4, 6] vs_46 4) L_123 fun r_124 =>
 Q (.tup [r_124, (.bool false)]) L_123) (
 W.load true 4 t8_119 L_120 fun t72_125 =>
 W.store 4 (slotOf [2, 3, 4, 6] vs_46 3) t72_125 L_120 fun L_126 =>
 W.bin Try.prog Fl .add 3 (slotOf [2, 3, 4, 6] vs_46 6) (.int .i64 1) fun t33_127 =>
 nx_47 [(slotOf [2, 3, 4, 6] vs_46 2), (slotOf [2, 3, 4, 6] vs_46 3), (slotOf [2, 3, 4, 6] vs_46 4), t33_127] L_126)
def ref07_Settle_c1 (vs_46 : List AV) (Q : AV → SH → Prop) (t7_93 : AV) (nx_47 : W.Kn) (t54_97 : AV) (L_98 : SH) : Prop :=
 W.un .not t54_97 fun t55_99 =>
 W.cond t55_99 (
 W.load true 4 (slotOf [2, 3, 4, 6] vs_46 3) L_98 fun t56_100 =>
 W.store 4 (slotOf [2, 3, 4, 6] vs_46 4) t56_100 L_98 fun L_101 =>
 W.load true 4 (slotOf [2, 3, 4, 6] vs_46 4) L_101 fun r_102 =>
 Q (.tup [r_102, (.bool true)]) L_101) (
 W.faddr 1 (slotOf [2, 3, 4, 6] vs_46 2) fun t58_103 =>
 W.load false 1 t58_103 L_98 fun t59_104 =>
 W.len t59_104 fun t60_105 =>
 W.bin Try.prog Fl .eql 3 (slotOf [2, 3, 4, 6] vs_46 6) t60_105 fun t61_106 =>
 W.cond t61_106 (
 W.build [(.int .i64 0), .nils, .nils, (.int .i64 0)] [] fun t62_107 =>
 W.store 4 (slotOf [2, 3, 4, 6] vs_46 4) t62_107 L_98 fun L_108 =>
 W.load true 4 (slotOf [2, 3, 4, 6] vs_46 4) L_108 fun r_109 =>
 Q (.tup [r_109, (.bool false)]) L_108) (
 W.load true 6 t7_93 L_98 fun t64_110 =>
 W.load true 4 (slotOf [2, 3, 4, 6] vs_46 3) L_98 fun t65_111 =>
 W.call Try.prog (.fn 46 []) [t64_110, t65_111] L_98 (ref07_Settle_c0 vs_46 Q nx_47)))
def ref07_Settle_l2 (Q : AV → SH → Prop) (vs_46 : List AV) (L_48 : SH) (nx_47 : W.Kn) : Prop :=
 W.faddr 1 (slotOf [2, 3, 4, 6] vs_46 2) fun t28_49 =>
 W.load false 1 t28_49 L_48 fun t29_50 =>
 W.len t29_50 fun t30_51 =>
 W.bin Try.prog Fl .leq 3 (slotOf [2, 3, 4, 6] vs_46 6) t30_51 fun t31_52 =>
 W.cond t31_52 (
 W.faddr 0 (slotOf [2, 3, 4, 6] vs_46 3) fun t34_53 =>
 W.load false 1 t34_53 L_48 fun t35_54 =>
 W.bin Try.prog Fl .lss 3 t35_54 (.int .i64 0) fun t36_55 =>
 W.grd t36_55 false (fun k_57 => W.faddr 0 (slotOf [2, 3, 4, 6] vs_46 3) fun v_59 =>
 k_57 v_59 L_48) L_48 fun t38_56 L_58 =>
 W.grd t36_55 false (fun k_61 => W.load false 1 t38_56 L_58 fun v_63 =>
 k_61 v_63 L_58) L_58 fun t39_60 L_62 =>
 W.grd t36_55 false (fun k_65 => W.faddr 1 (slotOf [2, 3, 4, 6] vs_46 2) fun v_67 =>
 k_65 v_67 L_62) L_62 fun t40_64 L_66 =>
 W.grd t36_55 false (fun k_69 => W.load false 1 t40_64 L_66 fun v_71 =>
 k_69 v_71 L_66) L_66 fun t41_68 L_70 =>
 W.grd t36_55 false (fun k_73 => W.len t41_68 fun v_75 =>
 k_73 v_75 L_70) L_70 fun t42_72 L_74 =>
 W.grd t36_55 false (fun k_77 => W.bin Try.prog Fl .geq 3 t39_60 t42_72 fun v_79 =>
 k_77 v_79 L_74) L_74 fun t43_76 L_78 =>
 W.pick t36_55 (.bool true) t43_76 fun t44_80 =>
 W.cond t44_80 (
 W.build [(.int .i64 0), .nils, .nils, (.int .i64 0)] [] fun t45_81 =>
 W.store 4 (slotOf [2, 3, 4, 6] vs_46 4) t45_81 L_78 fun L_82 =>
 W.load true 4 (slotOf [2, 3, 4, 6] vs_46 4) L_82 fun r_83 =>
 Q (.tup [r_83, (.bool false)]) L_82) (
 W.faddr 1 (slotOf [2, 3, 4, 6] vs_46 2) fun t46_84 =>
 W.load false 1 t46_84 L_78 fun t47_85 =>
 W.faddr 0 (slotOf [2, 3, 4, 6] vs_46 3) fun t48_86 =>
 W.load false 1 t48_86 L_78 fun t49_87 =>
 W.idx 6 t47_85 t49_87 L_78 fun t50_88 =>
 W.load true 6 t50_88 L_78 fun t51_89 =>
 W.alloc [(.int .i64 0), (.int .i64 0), (.int .i64 0), (.int .i64 0), (.int .i64 0), (.int .i64 0)] L_78 fun t7_90 L_91 =>
 W.store 6 t7_90 t51_89 L_91 fun L_92 =>
 W.frz1 t7_90 L_92 fun t7_93 L_94 =>
 W.faddr 0 t7_93 fun t52_95 =>
 W.load false 1 t52_95 L_94 fun t53_96 =>
 W.call Try.prog (.fn 45 []) [t53_96] L_94 (ref07_Settle_c1 vs_46 Q t7_93 nx_47))) (
 W.build [(.int .i64 0), .nils, .nils, (.int .i64 0)] [] fun t73_128 =>
 W.store 4 (slotOf [2, 3, 4, 6] vs_46 4) t73_128 L_48 fun L_129 =>
 W.load true 4 (slotOf [2, 3, 4, 6] vs_46 4) L_129 fun r_130 =>
 Q (.tup [r_130, (.bool false)]) L_129)
def ref07_Settle_c3 (t3_2 : AV) (Q : AV → SH → Prop) (t2_6 : AV) (t4_4 : AV) (t26_43 : AV) (L_44 : SH) : Prop :=
 W.store 4 t3_2 t26_43 L_44 fun L_45 =>
 W.loop (ref07_Settle_l2 Q) [t2_6, t3_2, t4_4, (.int .i64 0)] L_45
def ref07_Settle_w (t0 t1 : AV) (L : SH) (Q : AV → SH → Prop) : Prop :=
 W.box t0 L fun t2_0 L_1 =>
 W.box t1 L_1 fun t3_2 L_3 =>
 W.alloc [(.int .i64 0), .nils, .nils, (.int .i64 0)] L_3 fun t4_4 L_5 =>
 W.frz1 t2_0 L_5 fun t2_6 L_7 =>
 W.faddr 1 t3_2 fun t10_8 =>
 W.load false 1 t10_8 L_7 fun t11_9 =>
 W.len t11_9 fun t12_10 =>
 W.faddr 0 t2_6 fun t13_11 =>
 W.load false 1 t13_11 L_7 fun t14_12 =>
 W.bin Try.prog Fl .neq 3 t12_10 t14_12 fun t15_13 =>
 W.grd t15_13 false (fun k_15 => W.faddr 2 t3_2 fun v_17 =>
 k_15 v_17 L_7) L_7 fun t17_14 L_16 =>
 W.grd t15_13 false (fun k_19 => W.load false 1 t17_14 L_16 fun v_21 =>
 k_19 v_21 L_16) L_16 fun t18_18 L_20 =>
 W.grd t15_13 false (fun k_23 => W.len t18_18 fun v_25 =>
 k_23 v_25 L_20) L_20 fun t19_22 L_24 =>
 W.grd t15_13 false (fun k_27 => W.faddr 0 t2_6 fun v_29 =>
 k_27 v_29 L_24) L_24 fun t20_26 L_28 =>
 W.grd t15_13 false (fun k_31 => W.load false 1 t20_26 L_28 fun v_33 =>
 k_31 v_33 L_28) L_28 fun t21_30 L_32 =>
 W.grd t15_13 false (fun k_35 => W.bin Try.prog Fl .neq 3 t19_22 t21_30 fun v_37 =>
 k_35 v_37 L_32) L_32 fun t22_34 L_36 =>
 W.pick t15_13 (.bool true) t22_34 fun t23_38 =>
 W.cond t23_38 (
 W.build [(.int .i64 0), .nils, .nils, (.int .i64 0)] [] fun t24_39 =>
 W.store 4 t4_4 t24_39 L_36 fun L_40 =>
 W.load true 4 t4_4 L_40 fun r_41 =>
 Q (.tup [r_41, (.bool false)]) L_40) (
 W.load true 4 t3_2 L_36 fun t25_42 =>
 W.call Try.prog (.fn 44 []) [t25_42] L_36 (ref07_Settle_c3 t3_2 Q t2_6 t4_4))
theorem ref07_Settle_e (t0 t1 : AV) (L : SH) (Q : AV → SH → Prop) : W.func Try.prog Fl ref07_Settle_t Try.f17 (Try.f17.body.getD .skip) [t0, t1] L Q = ref07_Settle_w t0 t1 L Q := by kernel_rfl
theorem ref07_Settle_ok (t0 t1 : AV) (L : SH) (Q : AV → SH → Prop) (h : ref07_Settle_w t0 t1 L Q) : CallA Try.prog 17 [t0, t1] L Q :=
  func_sound (ht := ref07_Settle_t) fit Try.func17 (show Try.f17.body = some (Try.f17.body.getD .skip) by kernel_rfl) (Eq.mpr (ref07_Settle_e t0 t1 L Q) h)

/- interleave/interleaveref07.SameThread -/
def ref07_SameThread_t : Hints := ⟨fun k => none, fun k => if k = 4 then [2, 3, 5] else if k = 9 then [2, 3, 6] else [], fun k => if k = 0 then [2, 3] else [], fun k => if k = 6 then [0, 1, 0, 7, 15, 0, 32, 0, 224, 480, 1023] else if k = 11 then [0, 1, 0, 7, 15, 0, 32, 0, 224, 480, 1023, 2047] else []⟩
def ref07_SameThread_d0 (L_117 : SH) (Q : AV → SH → Prop) (vs_115 : List AV) (nx_116 : W.Kn) (t72_136 : AV) (L_138 : SH) (ks_137 : List Nat) : Prop :=
 W.note ⟨[], ks_137, [], L_117.names⟩ fun r_139 =>
 W.un .not t72_136 fun t73_140 =>
 W.cond t73_140 (
 Q (.bool false) L_138) (
 W.bin Try.prog Fl .add 3 (slotOf [2, 3, 6] vs_115 6) (.int .i64 1) fun t61_141 =>
 nx_116 [(slotOf [2, 3, 6] vs_115 2), (slotOf [2, 3, 6] vs_115 3), t61_141] L_138)
def ref07_SameThread_l1 (Q : AV → SH → Prop) (vs_115 : List AV) (L_117 : SH) (nx_116 : W.Kn) : Prop :=
 W.faddr 2 (slotOf [2, 3, 6] vs_115 2) fun t56_118 =>
 W.load false 1 t56_118 L_117 fun t57_119 =>
 W.len t57_119 fun t58_120 =>
 W.bin Try.prog Fl .lss 3 (slotOf [2, 3, 6] vs_115 6) t58_120 fun t59_121 =>
 W.cond t59_121 (
 (true = true) ∧ (
 W.faddr 2 (slotOf [2, 3, 6] vs_115 2) fun t62_122 =>
 W.calm [] ⟨1, (blocksOf t62_122), [], [], false, []⟩ (
 W.load false 1 t62_122 L_117 fun t63_123 =>
 W.note ⟨(blocksOf t62_122), [], [], []⟩ fun r_124 =>
 W.calm [] ⟨3, (slOf t63_123), [], [], false, []⟩ (
 W.idx 1 t63_123 (slotOf [2, 3, 6] vs_115 6) L_117 fun t65_125 =>
 W.note ⟨(slOf t63_123), [], [], []⟩ fun r_126 =>
 W.calm [] ⟨4, (blocksOf t65_125), [], [], false, []⟩ (
 W.load false 1 t65_125 L_117 fun t66_127 =>
 W.note ⟨(blocksOf t65_125), [], [], []⟩ fun r_128 =>
 W.faddr 2 (slotOf [2, 3, 6] vs_115 3) fun t67_129 =>
 W.calm [⟨4, r_128.reads, r_128.writes, r_128.made, false, r_128.old⟩, ⟨3, r_126.reads, r_126.writes, r_126.made, false, r_126.old⟩, ⟨1, r_124.reads, r_124.writes, r_124.made, false, r_124.old⟩] ⟨6, (blocksOf t67_129), [], [], false, []⟩ (
 W.load false 1 t67_129 L_117 fun t68_130 =>
 W.note ⟨(blocksOf t67_129), [], [], []⟩ fun r_131 =>
 W.calm [⟨4, r_128.reads, r_128.writes, r_128.made, false, r_128.old⟩, ⟨3, r_126.reads, r_126.writes, r_126.made, false, r_126.old⟩, ⟨1, r_124.reads, r_124.writes, r_124.made, false, r_124.old⟩] ⟨8, (slOf t68_130), [], [], false, []⟩ (
 W.idx 1 t68_130 (slotOf [2, 3, 6] vs_115 6) L_117 fun t70_132 =>
 W.note ⟨(slOf t68_130), [], [], []⟩ fun r_133 =>
 W.calm [⟨4, r_128.reads, r_128.writes, r_128.made, false, r_128.old⟩, ⟨3, r_126.reads, r_126.writes, r_126.made, false, r_126.old⟩, ⟨1, r_124.reads, r_124.writes, r_124.made, false, r_124.old⟩] ⟨9, (blocksOf t70_132), [], [], false, []⟩ (
 W.load false 1 t70_132 L_117 fun t71_134 =>
 W.note ⟨(blocksOf t70_132), [], [], []⟩ fun r_135 =>
 W.dcall Try.prog [] 10 (.fn 34 []) [t66_127, t71_134] L_117 (ref07_SameThread_d0 L_117 Q vs_115 nx_116))))))))) (
 Q (.bool true) L_117)
def ref07_SameThread_l2 (Q : AV → SH → Prop) (vs_92 : List AV) (L_94 : SH) (nx_93 : W.Kn) : Prop :=
 W.faddr 1 (slotOf [2, 3, 5] vs_92 2) fun t38_95 =>
 W.load false 1 t38_95 L_94 fun t39_96 =>
 W.len t39_96 fun t40_97 =>
 W.bin Try.prog Fl .lss 3 (slotOf [2, 3, 5] vs_92 5) t40_97 fun t41_98 =>
 W.cond t41_98 (
 (true = true) ∧ (
 W.faddr 1 (slotOf [2, 3, 5] vs_92 2) fun t44_99 =>
 W.calm [] ⟨1, (blocksOf t44_99), [], [], false, []⟩ (
 W.load false 1 t44_99 L_94 fun t45_100 =>
 W.note ⟨(blocksOf t44_99), [], [], []⟩ fun r_101 =>
 W.calm [] ⟨3, (slOf t45_100), [], [], false, []⟩ (
 W.idx 1 t45_100 (slotOf [2, 3, 5] vs_92 5) L_94 fun t47_102 =>
 W.note ⟨(slOf t45_100), [], [], []⟩ fun r_103 =>
 W.calm [] ⟨4, (blocksOf t47_102), [], [], false, []⟩ (
 W.load false 1 t47_102 L_94 fun t48_104 =>
 W.note ⟨(blocksOf t47_102), [], [], []⟩ fun r_105 =>
 W.faddr 1 (slotOf [2, 3, 5] vs_92 3) fun t49_106 =>
 W.calm [⟨4, r_105.reads, r_105.writes, r_105.made, false, r_105.old⟩, ⟨3, r_103.reads, r_103.writes, r_103.made, false, r_103.old⟩, ⟨1, r_101.reads, r_101.writes, r_101.made, false, r_101.old⟩] ⟨6, (blocksOf t49_106), [], [], false, []⟩ (
 W.load false 1 t49_106 L_94 fun t50_107 =>
 W.note ⟨(blocksOf t49_106), [], [], []⟩ fun r_108 =>
 W.calm [⟨4, r_105.reads, r_105.writes, r_105.made, false, r_105.old⟩, ⟨3, r_103.reads, r_103.writes, r_103.made, false, r_103.old⟩, ⟨1, r_101.reads, r_101.writes, r_101.made, false, r_101.old⟩] ⟨8, (slOf t50_107), [], [], false, []⟩ (
 W.idx 1 t50_107 (slotOf [2, 3, 5] vs_92 5) L_94 fun t52_109 =>
 W.note ⟨(slOf t50_107), [], [], []⟩ fun r_110 =>
 W.calm [⟨4, r_105.reads, r_105.writes, r_105.made, false, r_105.old⟩, ⟨3, r_103.reads, r_103.writes, r_103.made, false, r_103.old⟩, ⟨1, r_101.reads, r_101.writes, r_101.made, false, r_101.old⟩] ⟨9, (blocksOf t52_109), [], [], false, []⟩ (
 W.load false 1 t52_109 L_94 fun t53_111 =>
 W.note ⟨(blocksOf t52_109), [], [], []⟩ fun r_112 =>
 W.bin Try.prog Fl .neq 2 t48_104 t53_111 fun t54_113 =>
 W.cond t54_113 (
 Q (.bool false) L_94) (
 W.bin Try.prog Fl .add 3 (slotOf [2, 3, 5] vs_92 5) (.int .i64 1) fun t43_114 =>
 nx_93 [(slotOf [2, 3, 5] vs_92 2), (slotOf [2, 3, 5] vs_92 3), t43_114] L_94))))))))) (
 W.loop (ref07_SameThread_l1 Q) [(slotOf [2, 3, 5] vs_92 2), (slotOf [2, 3, 5] vs_92 3), (.int .i64 0)] L_94)
def ref07_SameThread_w (t0 t1 : AV) (L : SH) (Q : AV → SH → Prop) : Prop :=
 W.box t0 L fun t2_0 L_1 =>
 W.box t1 L_1 fun t3_2 L_3 =>
 W.frz1 t2_0 L_3 fun t2_4 L_5 =>
 W.frz1 t3_2 L_5 fun t3_6 L_7 =>
 W.faddr 0 t2_4 fun t7_8 =>
 W.load false 1 t7_8 L_7 fun t8_9 =>
 W.faddr 0 t3_6 fun t9_10 =>
 W.load false 1 t9_10 L_7 fun t10_11 =>
 W.bin Try.prog Fl .neq 3 t8_9 t10_11 fun t11_12 =>
 W.grd t11_12 false (fun k_14 => W.faddr 3 t2_4 fun v_16 =>
 k_14 v_16 L_7) L_7 fun t13_13 L_15 =>
 W.grd t11_12 false (fun k_18 => W.load false 1 t13_13 L_15 fun v_20 =>
 k_18 v_20 L_15) L_15 fun t14_17 L_19 =>
 W.grd t11_12 false (fun k_22 => W.faddr 3 t3_6 fun v_24 =>
 k_22 v_24 L_19) L_19 fun t15_21 L_23 =>
 W.grd t11_12 false (fun k_26 => W.load false 1 t15_21 L_23 fun v_28 =>
 k_26 v_28 L_23) L_23 fun t16_25 L_27 =>
 W.grd t11_12 false (fun k_30 => W.bin Try.prog Fl .neq 3 t14_17 t16_25 fun v_32 =>
 k_30 v_32 L_27) L_27 fun t17_29 L_31 =>
 W.pick t11_12 (.bool true) t17_29 fun t18_33 =>
 W.grd t18_33 false (fun k_35 => W.faddr 1 t2_4 fun v_37 =>
 k_35 v_37 L_31) L_31 fun t20_34 L_36 =>
 W.grd t18_33 false (fun k_39 => W.load false 1 t20_34 L_36 fun v_41 =>
 k_39 v_41 L_36) L_36 fun t21_38 L_40 =>
 W.grd t18_33 false (fun k_43 => W.len t21_38 fun v_45 =>
 k_43 v_45 L_40) L_40 fun t22_42 L_44 =>
 W.grd t18_33 false (fun k_47 => W.faddr 1 t3_6 fun v_49 =>
 k_47 v_49 L_44) L_44 fun t23_46 L_48 =>
 W.grd t18_33 false (fun k_51 => W.load false 1 t23_46 L_48 fun v_53 =>
 k_51 v_53 L_48) L_48 fun t24_50 L_52 =>
 W.grd t18_33 false (fun k_55 => W.len t24_50 fun v_57 =>
 k_55 v_57 L_52) L_52 fun t25_54 L_56 =>
 W.grd t18_33 false (fun k_59 => W.bin Try.prog Fl .neq 3 t22_42 t25_54 fun v_61 =>
 k_59 v_61 L_56) L_56 fun t26_58 L_60 =>
 W.pick t18_33 (.bool true) t26_58 fun t27_62 =>
 W.grd t27_62 false (fun k_64 => W.faddr 2 t2_4 fun v_66 =>
 k_64 v_66 L_60) L_60 fun t29_63 L_65 =>
 W.grd t27_62 false (fun k_68 => W.load false 1 t29_63 L_65 fun v_70 =>
 k_68 v_70 L_65) L_65 fun t30_67 L_69 =>
 W.grd t27_62 false (fun k_72 => W.len t30_67 fun v_74 =>
 k_72 v_74 L_69) L_69 fun t31_71 L_73 =>
 W.grd t27_62 false (fun k_76 => W.faddr 2 t3_6 fun v_78 =>
 k_76 v_78 L_73) L_73 fun t32_75 L_77 =>
 W.grd t27_62 false (fun k_80 => W.load false 1 t32_75 L_77 fun v_82 =>
 k_80 v_82 L_77) L_77 fun t33_79 L_81 =>
 W.grd t27_62 false (fun k_84 => W.len t33_79 fun v_86 =>
 k_84 v_86 L_81) L_81 fun t34_83 L_85 =>
 W.grd t27_62 false (fun k_88 => W.bin Try.prog Fl .neq 3 t31_71 t34_83 fun v_90 =>
 k_88 v_90 L_85) L_85 fun t35_87 L_89 =>
 W.pick t27_62 (.bool true) t35_87 fun t36_91 =>
 W.cond t36_91 (
 Q (.bool false) L_89) (
 W.loop (ref07_SameThread_l2 Q) [t2_4, t3_6, (.int .i64 0)] L_89)
theorem ref07_SameThread_e (t0 t1 : AV) (L : SH) (Q : AV → SH → Prop) : W.func Try.prog Fl ref07_SameThread_t Try.f18 (Try.f18.body.getD .skip) [t0, t1] L Q = ref07_SameThread_w t0 t1 L Q := by kernel_rfl
theorem ref07_SameThread_ok (t0 t1 : AV) (L : SH) (Q : AV → SH → Prop) (h : ref07_SameThread_w t0 t1 L Q) : CallA Try.prog 18 [t0, t1] L Q :=
  func_sound (ht := ref07_SameThread_t) fit Try.func18 (show Try.f18.body = some (Try.f18.body.getD .skip) by kernel_rfl) (Eq.mpr (ref07_SameThread_e t0 t1 L Q) h)

/- interleave/interleaveref07.SameInts -/
def ref07_SameInts_t : Hints := ⟨fun k => none, fun k => if k = 4 then [0, 1, 5] else [], fun k => [], fun k => if k = 6 then [0, 0, 3, 7, 0, 0, 48, 112, 255] else []⟩
def ref07_SameInts_l0 (Q : AV → SH → Prop) (vs_3 : List AV) (L_5 : SH) (nx_4 : W.Kn) : Prop :=
 W.len (slotOf [0, 1, 5] vs_3 0) fun t13_6 =>
 W.bin Try.prog Fl .lss 3 (slotOf [0, 1, 5] vs_3 5) t13_6 fun t14_7 =>
 W.cond t14_7 (
 (true = true) ∧ (
 W.calm [] ⟨2, (slOf (slotOf [0, 1, 5] vs_3 0)), [], [], false, []⟩ (
 W.idx 1 (slotOf [0, 1, 5] vs_3 0) (slotOf [0, 1, 5] vs_3 5) L_5 fun t19_8 =>
 W.note ⟨(slOf (slotOf [0, 1, 5] vs_3 0)), [], [], []⟩ fun r_9 =>
 W.calm [] ⟨3, (blocksOf t19_8), [], [], false, []⟩ (
 W.load false 1 t19_8 L_5 fun t20_10 =>
 W.note ⟨(blocksOf t19_8), [], [], []⟩ fun r_11 =>
 W.calm [⟨3, r_11.reads, r_11.writes, r_11.made, false, r_11.old⟩, ⟨2, r_9.reads, r_9.writes, r_9.made, false, r_9.old⟩] ⟨6, (slOf (slotOf [0, 1, 5] vs_3 1)), [], [], false, []⟩ (
 W.idx 1 (slotOf [0, 1, 5] vs_3 1) (slotOf [0, 1, 5] vs_3 5) L_5 fun t23_12 =>
 W.note ⟨(slOf (slotOf [0, 1, 5] vs_3 1)), [], [], []⟩ fun r_13 =>
 W.calm [⟨3, r_11.reads, r_11.writes, r_11.made, false, r_11.old⟩, ⟨2, r_9.reads, r_9.writes, r_9.made, false, r_9.old⟩] ⟨7, (blocksOf t23_12), [], [], false, []⟩ (
 W.load false 1 t23_12 L_5 fun t24_14 =>
 W.note ⟨(blocksOf t23_12), [], [], []⟩ fun r_15 =>
 W.bin Try.prog Fl .neq 3 t20_10 t24_14 fun t25_16 =>
 W.cond t25_16 (
 Q (.bool false) L_5) (
 W.bin Try.prog Fl .add 3 (slotOf [0, 1, 5] vs_3 5) (.int .i64 1) fun t16_17 =>
 nx_4 [(slotOf [0, 1, 5] vs_3 0), (slotOf [0, 1, 5] vs_3 1), t16_17] L_5))))))) (
 Q (.bool true) L_5)
def ref07_SameInts_w (t0 t1 : AV) (L : SH) (Q : AV → SH → Prop) : Prop :=
 W.len t0 fun t7_0 =>
 W.len t1 fun t9_1 =>
 W.bin Try.prog Fl .neq 3 t7_0 t9_1 fun t10_2 =>
 W.cond t10_2 (
 Q (.bool false) L) (
 W.loop (ref07_SameInts_l0 Q) [t0, t1, (.int .i64 0)] L)
theorem ref07_SameInts_e (t0 t1 : AV) (L : SH) (Q : AV → SH → Prop) : W.func Try.prog Fl ref07_SameInts_t Try.f34 (Try.f34.body.getD .skip) [t0, t1] L Q = ref07_SameInts_w t0 t1 L Q := by kernel_rfl
theorem ref07_SameInts_ok (t0 t1 : AV) (L : SH) (Q : AV → SH → Prop) (h : ref07_SameInts_w t0 t1 L Q) : CallA Try.prog 34 [t0, t1] L Q :=
  func_sound (ht := ref07_SameInts_t) fit Try.func34 (show Try.f34.body = some (Try.f34.body.getD .skip) by kernel_rfl) (Eq.mpr (ref07_SameInts_e t0 t1 L Q) h)

/- interleave/interleaveref07.Copy -/
def ref07_Copy_t : Hints := ⟨fun k => none, fun k => if k = 3 then [1, 2, 3, 4] else [], fun k => if k = 0 then [1] else [], fun k => if k = 1 then [0, 1, 0, 4, 0, 0, 32, 112, 255, 0, 1023] else if k = 5 then [0, 1, 0, 0, 8, 0, 56, 120, 252, 508, 1023, 2047, 4095] else []⟩
def ref07_Copy_l0 (Q : AV → SH → Prop) (vs_27 : List AV) (L_29 : SH) (nx_28 : W.Kn) : Prop :=
 W.faddr 2 (slotOf [1, 2, 3, 4] vs_27 1) fun t15_30 =>
 W.load false 1 t15_30 L_29 fun t16_31 =>
 W.len t16_31 fun t17_32 =>
 W.bin Try.prog Fl .lss 3 (slotOf [1, 2, 3, 4] vs_27 4) t17_32 fun t18_33 =>
 W.cond t18_33 (
 (true = true) ∧ (
 W.faddr 2 (slotOf [1, 2, 3, 4] vs_27 3) fun t21_34 =>
 W.calm [] ⟨1, (blocksOf t21_34), [], [], false, []⟩ (
 W.load false 1 t21_34 L_29 fun t22_35 =>
 W.note ⟨(blocksOf t21_34), [], [], []⟩ fun r_36 =>
 W.calm [⟨1, r_36.reads, r_36.writes, r_36.made, false, r_36.old⟩] ⟨2, [], [], [], false, []⟩ (
 W.bslice 1 [(.int .i64 0)] 0 [] L_29 fun t23_37 L_38 =>
 W.note ⟨[], [], (blocksOf t23_37), []⟩ fun r_39 =>
 W.faddr 2 (slotOf [1, 2, 3, 4] vs_27 1) fun t24_40 =>
 W.calm [⟨2, r_39.reads, r_39.writes, r_39.made, false, r_39.old⟩, ⟨1, r_36.reads, r_36.writes, r_36.made, false, r_36.old⟩] ⟨4, (blocksOf t24_40), [], [], false, []⟩ (
 W.load false 1 t24_40 L_38 fun t25_41 =>
 W.note ⟨(blocksOf t24_40), [], [], []⟩ fun r_42 =>
 W.calm [⟨2, r_39.reads, r_39.writes, r_39.made, false, r_39.old⟩, ⟨1, r_36.reads, r_36.writes, r_36.made, false, r_36.old⟩] ⟨6, (slOf t25_41), [], [], false, []⟩ (
 W.idx 1 t25_41 (slotOf [1, 2, 3, 4] vs_27 4) L_38 fun t27_43 =>
 W.note ⟨(slOf t25_41), [], [], []⟩ fun r_44 =>
 W.calm [⟨2, r_39.reads, r_39.writes, r_39.made, false, r_39.old⟩, ⟨1, r_36.reads, r_36.writes, r_36.made, false, r_36.old⟩] ⟨7, (blocksOf t27_43), [], [], false, []⟩ (
 W.load false 1 t27_43 L_38 fun t28_45 =>
 W.note ⟨(blocksOf t27_43), [], [], []⟩ fun r_46 =>
 W.calm [⟨1, r_36.reads, r_36.writes, r_36.made, false, r_36.old⟩] ⟨8, (blocksOf t23_37 ++ blocksOf t28_45), (blocksOf t23_37), [], false, []⟩ (
 W.append 1 8 t23_37 t28_45 L_38 fun t29_47 L_48 =>
 W.note ⟨(blocksOf t23_37 ++ blocksOf t28_45), (blocksOf t23_37), (blocksOf t29_47), []⟩ fun r_49 =>
 W.calm [⟨1, r_36.reads, r_36.writes, r_36.made, false, r_36.old⟩] ⟨9, [], [], [], false, []⟩ (
 W.bslice 1 [.nils] 1 [(0, t29_47)] L_48 fun t30_50 L_51 =>
 W.note ⟨[], [], (blocksOf t30_50), []⟩ fun r_52 =>
 W.calm [] ⟨10, (blocksOf t22_35 ++ blocksOf t30_50), (blocksOf t22_35), [], false, []⟩ (
 W.append 1 24 t22_35 t30_50 L_51 fun t31_53 L_54 =>
 W.note ⟨(blocksOf t22_35 ++ blocksOf t30_50), (blocksOf t22_35), (blocksOf t31_53), []⟩ fun r_55 =>
 W.faddr 2 (slotOf [1, 2, 3, 4] vs_27 3) fun t32_56 =>
 W.calm [] ⟨12, (blocksOf t32_56), (blocksOf t32_56), [], false, []⟩ (
 W.store 1 t32_56 t31_53 L_54 fun L_57 =>
 W.note ⟨(blocksOf t32_56), (blocksOf t32_56), [], []⟩ fun r_58 =>
 W.bin Try.prog Fl .add 3 (slotOf [1, 2, 3, 4] vs_27 4) (.int .i64 1) fun t20_59 =>
 nx_28 [(slotOf [1, 2, 3, 4] vs_27 1), (slotOf [1, 2, 3, 4] vs_27 2), (slotOf [1, 2, 3, 4] vs_27 3), t20_59] L_57))))))))))) (
 W.load true 4 (slotOf [1, 2, 3, 4] vs_27 3) L_29 fun t33_60 =>
 W.store 4 (slotOf [1, 2, 3, 4] vs_27 2) t33_60 L_29 fun L_61 =>
 W.load true 4 (slotOf [1, 2, 3, 4] vs_27 2) L_61 fun r_62 =>
 Q r_62 L_61)
def ref07_Copy_w (t0 : AV) (L : SH) (Q : AV → SH → Prop) : Prop :=
 W.box t0 L fun t1_0 L_1 =>
 W.alloc [(.int .i64 0), .nils, .nils, (.int .i64 0)] L_1 fun t2_2 L_3 =>
 W.frz1 t1_0 L_3 fun t1_4 L_5 =>
 (true = true) ∧ (
 W.faddr 0 t1_4 fun t5_6 =>
 W.calm [] ⟨1, (blocksOf t5_6), [], [], false, []⟩ (
 W.load false 1 t5_6 L_5 fun t6_7 =>
 W.note ⟨(blocksOf t5_6), [], [], []⟩ fun r_8 =>
 W.faddr 3 t1_4 fun t7_9 =>
 W.calm [⟨1, r_8.reads, r_8.writes, r_8.made, false, r_8.old⟩] ⟨3, (blocksOf t7_9), [], [], false, []⟩ (
 W.load false 1 t7_9 L_5 fun t8_10 =>
 W.note ⟨(blocksOf t7_9), [], [], []⟩ fun r_11 =>
 W.calm [⟨3, r_11.reads, r_11.writes, r_11.made, false, r_11.old⟩, ⟨1, r_8.reads, r_8.writes, r_8.made, false, r_8.old⟩] ⟨4, [], [], [], false, []⟩ (
 W.bslice 1 [(.int .i64 0)] 0 [] L_5 fun t9_12 L_13 =>
 W.note ⟨[], [], (blocksOf t9_12), []⟩ fun r_14 =>
 W.faddr 1 t1_4 fun t10_15 =>
 W.calm [⟨4, r_14.reads, r_14.writes, r_14.made, false, r_14.old⟩, ⟨3, r_11.reads, r_11.writes, r_11.made, false, r_11.old⟩, ⟨1, r_8.reads, r_8.writes, r_8.made, false, r_8.old⟩] ⟨6, (blocksOf t10_15), [], [], false, []⟩ (
 W.load false 1 t10_15 L_13 fun t11_16 =>
 W.note ⟨(blocksOf t10_15), [], [], []⟩ fun r_17 =>
 W.calm [⟨3, r_11.reads, r_11.writes, r_11.made, false, r_11.old⟩, ⟨1, r_8.reads, r_8.writes, r_8.made, false, r_8.old⟩] ⟨7, (blocksOf t9_12 ++ blocksOf t11_16), (blocksOf t9_12), [], false, []⟩ (
 W.append 1 8 t9_12 t11_16 L_13 fun t12_18 L_19 =>
 W.note ⟨(blocksOf t9_12 ++ blocksOf t11_16), (blocksOf t9_12), (blocksOf t12_18), []⟩ fun r_20 =>
 W.build [(.int .i64 0), .nils, .nils, (.int .i64 0)] [(0, 1, t6_7), (3, 1, t8_10), (1, 1, t12_18)] fun t13_21 =>
 W.calm [⟨7, r_20.reads, r_20.writes, r_20.made, false, r_20.old⟩, ⟨6, r_17.reads, r_17.writes, r_17.made, false, r_17.old⟩, ⟨4, r_14.reads, r_14.writes, r_14.made, false, r_14.old⟩, ⟨3, r_11.reads, r_11.writes, r_11.made, false, r_11.old⟩, ⟨1, r_8.reads, r_8.writes, r_8.made, false, r_8.old⟩] ⟨9, [], [], [], false, []⟩ (
 W.alloc [(.int .i64 0), .nils, .nils, (.int .i64 0)] L_19 fun t3_22 L_23 =>
 W.note ⟨[], [], (blocksOf t3_22), []⟩ fun r_24 =>
 W.calm [] ⟨10, (blocksOf t3_22), (blocksOf t3_22), [], false, []⟩ (
 W.store 4 t3_22 t13_21 L_23 fun L_25 =>
 W.note ⟨(blocksOf t3_22), (blocksOf t3_22), [], []⟩ fun r_26 =>
 W.loop (ref07_Copy_l0 Q) [t1_4, t2_2, t3_22, (.int .i64 0)] L_25))))))))
theorem ref07_Copy_e (t0 : AV) (L : SH) (Q : AV → SH → Prop) : W.func Try.prog Fl ref07_Copy_t Try.f44 (Try.f44.body.getD .skip) [t0] L Q = ref07_Copy_w t0 L Q := by kernel_rfl
theorem ref07_Copy_ok (t0 : AV) (L : SH) (Q : AV → SH → Prop) (h : ref07_Copy_w t0 L Q) : CallA Try.prog 44 [t0] L Q :=
  func_sound (ht := ref07_Copy_t) fit Try.func44 (show Try.f44.body = some (Try.f44.body.getD .skip) by kernel_rfl) (Eq.mpr (ref07_Copy_e t0 L Q) h)

/- interleave/interleaveref06.Silent -/
def ref06_Silent_t : Hints := ⟨fun k => none, fun k => [], fun k => [], fun k => []⟩
def ref06_Silent_w (t0 : AV) (L : SH) (Q : AV → SH → Prop) : Prop :=
 W.bin Try.prog Fl .geq 3 t0 (.int .i64 1) fun t4_0 =>
 W.grd t4_0 true (fun k_2 => k_2 t0 L) L fun t6_1 L_3 =>
 W.grd t4_0 true (fun k_5 => W.bin Try.prog Fl .leq 3 t6_1 (.int .i64 5) fun v_7 =>
 k_5 v_7 L_3) L_3 fun t7_4 L_6 =>
 W.pick t4_0 t7_4 (.bool false) fun t8_8 =>
 Q t8_8 L_6
theorem ref06_Silent_e (t0 : AV) (L : SH) (Q : AV → SH → Prop) : W.func Try.prog Fl ref06_Silent_t Try.f45 (Try.f45.body.getD .skip) [t0] L Q = ref06_Silent_w t0 L Q := by kernel_rfl
theorem ref06_Silent_ok (t0 : AV) (L : SH) (Q : AV → SH → Prop) (h : ref06_Silent_w t0 L Q) : CallA Try.prog 45 [t0] L Q :=
  func_sound (ht := ref06_Silent_t) fit Try.func45 (show Try.f45.body = some (Try.f45.body.getD .skip) by kernel_rfl) (Eq.mpr (ref06_Silent_e t0 L Q) h)

/- interleave/interleaveref07.step -/
def ref07_step_t : Hints := ⟨fun k => if k = 11 then some [2, 3, 4, 8, 9, 10] else none, fun k => if k = 3 then [2, 3, 4, 6, 7] else [], fun k => if k = 0 then [2] else [], fun k => if k = 5 then [0, 0, 3, 7, 15, 31, 63, 63, 255, 511, 63, 1087, 3135, 8191, 16383] else if k = 18 then [0, 1, 0, 4, 15, 31, 0, 64, 0, 256, 960, 1984, 63, 8191] else if k = 20 then [0, 1, 3, 0, 8, 0, 32, 120, 248, 511, 1023, 2047, 2047, 4095, 16383] else if k = 10 then [0, 1, 3, 0, 8, 0, 32, 120, 248, 0, 512, 0, 2048, 7680, 15872, 32767, 65535, 131071, 131071, 262143, 1048575] else if k = 11 then [0, 1, 0, 4, 15, 31, 0, 64, 0, 256, 960, 1984, 4095, 8191] else if k = 22 then [0, 1, 0, 4, 0, 16, 0, 64, 0, 0, 0, 1536, 3855, 7951, 16383, 32767] else []⟩
def ref07_step_j0 (Q : AV → SH → Prop) (vs_67 : List AV) (L_69 : SH) : Prop :=
 (true = true) ∧ (
 W.faddr 1 (slotOf [2, 3, 4, 8, 9, 10] vs_67 3) fun t114_70 =>
 W.calm [] ⟨1, (blocksOf t114_70), [], [], false, []⟩ (
 W.load false 1 t114_70 L_69 fun t115_71 =>
 W.note ⟨(blocksOf t114_70), [], [], []⟩ fun r_72 =>
 W.faddr 1 (slotOf [2, 3, 4, 8, 9, 10] vs_67 2) fun t116_73 =>
 W.calm [⟨1, r_72.reads, r_72.writes, r_72.made, false, r_72.old⟩] ⟨3, (blocksOf t116_73), [], [], false, []⟩ (
 W.load false 1 t116_73 L_69 fun t117_74 =>
 W.note ⟨(blocksOf t116_73), [], [], []⟩ fun r_75 =>
 W.faddr 2 (slotOf [2, 3, 4, 8, 9, 10] vs_67 3) fun t118_76 =>
 W.calm [⟨3, r_75.reads, r_75.writes, r_75.made, false, r_75.old⟩, ⟨1, r_72.reads, r_72.writes, r_72.made, false, r_72.old⟩] ⟨5, (blocksOf t118_76), [], [], false, []⟩ (
 W.load false 1 t118_76 L_69 fun t119_77 =>
 W.note ⟨(blocksOf t118_76), [], [], []⟩ fun r_78 =>
 W.faddr 1 (slotOf [2, 3, 4, 8, 9, 10] vs_67 2) fun t120_79 =>
 W.calm [⟨5, r_78.reads, r_78.writes, r_78.made, false, r_78.old⟩, ⟨3, r_75.reads, r_75.writes, r_75.made, false, r_75.old⟩, ⟨1, r_72.reads, r_72.writes, r_72.made, false, r_72.old⟩] ⟨7, (blocksOf t120_79), [], [], false, []⟩ (
 W.load false 1 t120_79 L_69 fun t121_80 =>
 W.note ⟨(blocksOf t120_79), [], [], []⟩ fun r_81 =>
 W.calm [⟨7, r_81.reads, r_81.writes, r_81.made, false, r_81.old⟩, ⟨5, r_78.reads, r_78.writes, r_78.made, false, r_78.old⟩, ⟨3, r_75.reads, r_75.writes, r_75.made, false, r_75.old⟩, ⟨1, r_72.reads, r_72.writes, r_72.made, false, r_72.old⟩] ⟨9, [], [], [], false, []⟩ (
 W.bslice 1 [(.int .i64 0)] 0 [] L_69 fun t123_82 L_83 =>
 W.note ⟨[], [], (blocksOf t123_82), []⟩ fun r_84 =>
 W.calm [⟨7, r_81.reads, r_81.writes, r_81.made, false, r_81.old⟩, ⟨5, r_78.reads, r_78.writes, r_78.made, false, r_78.old⟩, ⟨3, r_75.reads, r_75.writes, r_75.made, false, r_75.old⟩, ⟨1, r_72.reads, r_72.writes, r_72.made, false, r_72.old⟩] ⟨11, (blocksOf t123_82 ++ blocksOf (slotOf [2, 3, 4, 8, 9, 10] vs_67 10)), (blocksOf t123_82), [], false, []⟩ (
 W.append 1 8 t123_82 (slotOf [2, 3, 4, 8, 9, 10] vs_67 10) L_83 fun t125_85 L_86 =>
 W.note ⟨(blocksOf t123_82 ++ blocksOf (slotOf [2, 3, 4, 8, 9, 10] vs_67 10)), (blocksOf t123_82), (blocksOf t125_85), []⟩ fun r_87 =>
 W.calm [⟨7, r_81.reads, r_81.writes, r_81.made, false, r_81.old⟩, ⟨5, r_78.reads, r_78.writes, r_78.made, false, r_78.old⟩] ⟨12, (slOf t115_71), [], [], false, []⟩ (
 W.idx 1 t115_71 t117_74 L_86 fun t126_88 =>
 W.note ⟨(slOf t115_71), [], [], []⟩ fun r_89 =>
 W.calm [⟨7, r_81.reads, r_81.writes, r_81.made, false, r_81.old⟩, ⟨5, r_78.reads, r_78.writes, r_78.made, false, r_78.old⟩] ⟨13, (blocksOf t126_88), (blocksOf t126_88), [], false, []⟩ (
 W.store 1 t126_88 (slotOf [2, 3, 4, 8, 9, 10] vs_67 8) L_86 fun L_90 =>
 W.note ⟨(blocksOf t126_88), (blocksOf t126_88), [], []⟩ fun r_91 =>
 W.calm [] ⟨14, (slOf t119_77), [], [], false, []⟩ (
 W.idx 1 t119_77 t121_80 L_90 fun t127_92 =>
 W.note ⟨(slOf t119_77), [], [], []⟩ fun r_93 =>
 W.calm [] ⟨15, (blocksOf t127_92), (blocksOf t127_92), [], false, []⟩ (
 W.store 1 t127_92 t125_85 L_90 fun L_94 =>
 W.note ⟨(blocksOf t127_92), (blocksOf t127_92), [], []⟩ fun r_95 =>
 W.faddr 0 (slotOf [2, 3, 4, 8, 9, 10] vs_67 3) fun t128_96 =>
 W.load false 1 t128_96 L_94 fun t129_97 =>
 W.bin Try.prog Fl .add 3 t129_97 (.int .i64 1) fun t130_98 =>
 W.faddr 0 (slotOf [2, 3, 4, 8, 9, 10] vs_67 3) fun t131_99 =>
 W.store 1 t131_99 t130_98 L_94 fun L_100 =>
 W.load true 4 (slotOf [2, 3, 4, 8, 9, 10] vs_67 3) L_100 fun t132_101 =>
 W.store 4 (slotOf [2, 3, 4, 8, 9, 10] vs_67 4) t132_101 L_100 fun L_102 =>
 W.load true 4 (slotOf [2, 3, 4, 8, 9, 10] vs_67 4) L_102 fun r_103 =>
 Q (.tup [r_103, (slotOf [2, 3, 4, 8, 9, 10] vs_67 9)]) L_102)))))))))))
def ref07_step_d1 (L_144 : SH) (vs_11 : List AV) (j_68 : W.Kn) (t105_156 : AV) (L_158 : SH) (ks_157 : List Nat) : Prop :=
 W.note ⟨[], ks_157, [], L_144.names⟩ fun r_159 =>
 W.ext 0 t105_156 fun t106_160 =>
 W.ext 1 t105_156 fun t107_161 =>
 W.faddr 2 (slotOf [2, 3, 4, 6, 7] vs_11 3) fun t108_162 =>
 W.load false 1 t108_162 L_158 fun t109_163 =>
 W.faddr 2 (slotOf [2, 3, 4, 6, 7] vs_11 2) fun t110_164 =>
 W.load false 1 t110_164 L_158 fun t111_165 =>
 W.idx 1 t109_163 t111_165 L_158 fun t112_166 =>
 W.load false 1 t112_166 L_158 fun t113_167 =>
 j_68 [(slotOf [2, 3, 4, 6, 7] vs_11 2), (slotOf [2, 3, 4, 6, 7] vs_11 3), (slotOf [2, 3, 4, 6, 7] vs_11 4), t106_160, t107_161, t113_167] L_158
def ref07_step_d2 (L_13 : SH) (vs_11 : List AV) (r_141 : W.Fp) (j_68 : W.Kn) (t98_142 : AV) (L_144 : SH) (ks_143 : List Nat) : Prop :=
 W.note ⟨[], ks_143, [], L_13.names⟩ fun r_145 =>
 W.faddr 1 (slotOf [2, 3, 4, 6, 7] vs_11 3) fun t99_146 =>
 W.calm [⟨2, r_145.reads, r_145.writes, r_145.made, true, r_145.old⟩, ⟨1, r_141.reads, r_141.writes, r_141.made, false, r_141.old⟩] ⟨4, (blocksOf t99_146), [], [], false, []⟩ (
 W.load false 1 t99_146 L_144 fun t100_147 =>
 W.note ⟨(blocksOf t99_146), [], [], []⟩ fun r_148 =>
 W.faddr 2 (slotOf [2, 3, 4, 6, 7] vs_11 2) fun t101_149 =>
 W.calm [⟨4, r_148.reads, r_148.writes, r_148.made, false, r_148.old⟩, ⟨2, r_145.reads, r_145.writes, r_145.made, true, r_145.old⟩, ⟨1, r_141.reads, r_141.writes, r_141.made, false, r_141.old⟩] ⟨6, (blocksOf t101_149), [], [], false, []⟩ (
 W.load false 1 t101_149 L_144 fun t102_150 =>
 W.note ⟨(blocksOf t101_149), [], [], []⟩ fun r_151 =>
 W.calm [⟨2, r_145.reads, r_145.writes, r_145.made, true, r_145.old⟩, ⟨1, r_141.reads, r_141.writes, r_141.made, false, r_141.old⟩] ⟨7, (slOf t100_147), [], [], false, []⟩ (
 W.idx 1 t100_147 t102_150 L_144 fun t103_152 =>
 W.note ⟨(slOf t100_147), [], [], []⟩ fun r_153 =>
 W.calm [⟨2, r_145.reads, r_145.writes, r_145.made, true, r_145.old⟩, ⟨1, r_141.reads, r_141.writes, r_141.made, false, r_141.old⟩] ⟨8, (blocksOf t103_152), [], [], false, []⟩ (
 W.load false 1 t103_152 L_144 fun t104_154 =>
 W.note ⟨(blocksOf t103_152), [], [], []⟩ fun r_155 =>
 W.dcall Try.prog [] 9 (.fn 73 []) [t98_142, t104_154] L_144 (ref07_step_d1 L_144 vs_11 j_68)))))
def ref07_step_d3 (L_197 : SH) (j_68 : W.Kn) (vs_11 : List AV) (t54_199 : AV) (t55_200 : AV) (t68_221 : AV) (L_223 : SH) (ks_222 : List Nat) : Prop :=
 W.note ⟨[], ks_222, [], L_197.names⟩ fun r_224 =>
 j_68 [(slotOf [2, 3, 4, 6, 7] vs_11 2), (slotOf [2, 3, 4, 6, 7] vs_11 3), (slotOf [2, 3, 4, 6, 7] vs_11 4), t54_199, t55_200, t68_221] L_223
def ref07_step_d4 (L_173 : SH) (vs_11 : List AV) (j_68 : W.Kn) (t53_195 : AV) (L_197 : SH) (ks_196 : List Nat) : Prop :=
 W.note ⟨[], ks_196, [], L_173.names⟩ fun r_198 =>
 W.ext 0 t53_195 fun t54_199 =>
 W.ext 1 t53_195 fun t55_200 =>
 (true = true) ∧ (
 W.faddr 2 (slotOf [2, 3, 4, 6, 7] vs_11 3) fun t56_201 =>
 W.calm [] ⟨1, (blocksOf t56_201), [], [], false, []⟩ (
 W.load false 1 t56_201 L_197 fun t57_202 =>
 W.note ⟨(blocksOf t56_201), [], [], []⟩ fun r_203 =>
 W.faddr 2 (slotOf [2, 3, 4, 6, 7] vs_11 2) fun t58_204 =>
 W.calm [⟨1, r_203.reads, r_203.writes, r_203.made, false, r_203.old⟩] ⟨3, (blocksOf t58_204), [], [], false, []⟩ (
 W.load false 1 t58_204 L_197 fun t59_205 =>
 W.note ⟨(blocksOf t58_204), [], [], []⟩ fun r_206 =>
 W.calm [] ⟨4, (slOf t57_202), [], [], false, []⟩ (
 W.idx 1 t57_202 t59_205 L_197 fun t60_207 =>
 W.note ⟨(slOf t57_202), [], [], []⟩ fun r_208 =>
 W.calm [] ⟨5, (blocksOf t60_207), [], [], false, []⟩ (
 W.load false 1 t60_207 L_197 fun t61_209 =>
 W.note ⟨(blocksOf t60_207), [], [], []⟩ fun r_210 =>
 W.faddr 2 (slotOf [2, 3, 4, 6, 7] vs_11 3) fun t62_211 =>
 W.calm [⟨5, r_210.reads, r_210.writes, r_210.made, false, r_210.old⟩, ⟨4, r_208.reads, r_208.writes, r_208.made, false, r_208.old⟩, ⟨3, r_206.reads, r_206.writes, r_206.made, false, r_206.old⟩, ⟨1, r_203.reads, r_203.writes, r_203.made, false, r_203.old⟩] ⟨7, (blocksOf t62_211), [], [], false, []⟩ (
 W.load false 1 t62_211 L_197 fun t63_212 =>
 W.note ⟨(blocksOf t62_211), [], [], []⟩ fun r_213 =>
 W.faddr 3 (slotOf [2, 3, 4, 6, 7] vs_11 2) fun t64_214 =>
 W.calm [⟨7, r_213.reads, r_213.writes, r_213.made, false, r_213.old⟩, ⟨5, r_210.reads, r_210.writes, r_210.made, false, r_210.old⟩, ⟨4, r_208.reads, r_208.writes, r_208.made, false, r_208.old⟩, ⟨3, r_206.reads, r_206.writes, r_206.made, false, r_206.old⟩, ⟨1, r_203.reads, r_203.writes, r_203.made, false, r_203.old⟩] ⟨9, (blocksOf t64_214), [], [], false, []⟩ (
 W.load false 1 t64_214 L_197 fun t65_215 =>
 W.note ⟨(blocksOf t64_214), [], [], []⟩ fun r_216 =>
 W.calm [⟨5, r_210.reads, r_210.writes, r_210.made, false, r_210.old⟩, ⟨4, r_208.reads, r_208.writes, r_208.made, false, r_208.old⟩, ⟨3, r_206.reads, r_206.writes, r_206.made, false, r_206.old⟩, ⟨1, r_203.reads, r_203.writes, r_203.made, false, r_203.old⟩] ⟨10, (slOf t63_212), [], [], false, []⟩ (
 W.idx 1 t63_212 t65_215 L_197 fun t66_217 =>
 W.note ⟨(slOf t63_212), [], [], []⟩ fun r_218 =>
 W.calm [⟨5, r_210.reads, r_210.writes, r_210.made, false, r_210.old⟩, ⟨4, r_208.reads, r_208.writes, r_208.made, false, r_208.old⟩, ⟨3, r_206.reads, r_206.writes, r_206.made, false, r_206.old⟩, ⟨1, r_203.reads, r_203.writes, r_203.made, false, r_203.old⟩] ⟨11, (blocksOf t66_217), [], [], false, []⟩ (
 W.load false 1 t66_217 L_197 fun t67_219 =>
 W.note ⟨(blocksOf t66_217), [], [], []⟩ fun r_220 =>
 W.dcall Try.prog [] 12 (.fn 57 []) [t61_209, t67_219] L_197 (ref07_step_d3 L_197 j_68 vs_11 t54_199 t55_200))))))))))
def ref07_step_d5 (L_13 : SH) (vs_11 : List AV) (r_170 : W.Fp) (j_68 : W.Kn) (t40_171 : AV) (L_173 : SH) (ks_172 : List Nat) : Prop :=
 W.note ⟨[], ks_172, [], L_13.names⟩ fun r_174 =>
 W.faddr 1 (slotOf [2, 3, 4, 6, 7] vs_11 3) fun t41_175 =>
 W.calm [⟨2, r_174.reads, r_174.writes, r_174.made, true, r_174.old⟩, ⟨1, r_170.reads, r_170.writes, r_170.made, false, r_170.old⟩] ⟨4, (blocksOf t41_175), [], [], false, []⟩ (
 W.load false 1 t41_175 L_173 fun t42_176 =>
 W.note ⟨(blocksOf t41_175), [], [], []⟩ fun r_177 =>
 W.faddr 2 (slotOf [2, 3, 4, 6, 7] vs_11 2) fun t43_178 =>
 W.calm [⟨4, r_177.reads, r_177.writes, r_177.made, false, r_177.old⟩, ⟨2, r_174.reads, r_174.writes, r_174.made, true, r_174.old⟩, ⟨1, r_170.reads, r_170.writes, r_170.made, false, r_170.old⟩] ⟨6, (blocksOf t43_178), [], [], false, []⟩ (
 W.load false 1 t43_178 L_173 fun t44_179 =>
 W.note ⟨(blocksOf t43_178), [], [], []⟩ fun r_180 =>
 W.calm [⟨2, r_174.reads, r_174.writes, r_174.made, true, r_174.old⟩, ⟨1, r_170.reads, r_170.writes, r_170.made, false, r_170.old⟩] ⟨7, (slOf t42_176), [], [], false, []⟩ (
 W.idx 1 t42_176 t44_179 L_173 fun t45_181 =>
 W.note ⟨(slOf t42_176), [], [], []⟩ fun r_182 =>
 W.calm [⟨2, r_174.reads, r_174.writes, r_174.made, true, r_174.old⟩, ⟨1, r_170.reads, r_170.writes, r_170.made, false, r_170.old⟩] ⟨8, (blocksOf t45_181), [], [], false, []⟩ (
 W.load false 1 t45_181 L_173 fun t46_183 =>
 W.note ⟨(blocksOf t45_181), [], [], []⟩ fun r_184 =>
 W.faddr 1 (slotOf [2, 3, 4, 6, 7] vs_11 3) fun t47_185 =>
 W.calm [⟨8, r_184.reads, r_184.writes, r_184.made, false, r_184.old⟩, ⟨7, r_182.reads, r_182.writes, r_182.made, false, r_182.old⟩, ⟨6, r_180.reads, r_180.writes, r_180.made, false, r_180.old⟩, ⟨4, r_177.reads, r_177.writes, r_177.made, false, r_177.old⟩, ⟨2, r_174.reads, r_174.writes, r_174.made, true, r_174.old⟩, ⟨1, r_170.reads, r_170.writes, r_170.made, false, r_170.old⟩] ⟨10, (blocksOf t47_185), [], [], false, []⟩ (
 W.load false 1 t47_185 L_173 fun t48_186 =>
 W.note ⟨(blocksOf t47_185), [], [], []⟩ fun r_187 =>
 W.faddr 3 (slotOf [2, 3, 4, 6, 7] vs_11 2) fun t49_188 =>
 W.calm [⟨10, r_187.reads, r_187.writes, r_187.made, false, r_187.old⟩, ⟨8, r_184.reads, r_184.writes, r_184.made, false, r_184.old⟩, ⟨7, r_182.reads, r_182.writes, r_182.made, false, r_182.old⟩, ⟨6, r_180.reads, r_180.writes, r_180.made, false, r_180.old⟩, ⟨4, r_177.reads, r_177.writes, r_177.made, false, r_177.old⟩, ⟨2, r_174.reads, r_174.writes, r_174.made, true, r_174.old⟩, ⟨1, r_170.reads, r_170.writes, r_170.made, false, r_170.old⟩] ⟨12, (blocksOf t49_188), [], [], false, []⟩ (
 W.load false 1 t49_188 L_173 fun t50_189 =>
 W.note ⟨(blocksOf t49_188), [], [], []⟩ fun r_190 =>
 W.calm [⟨8, r_184.reads, r_184.writes, r_184.made, false, r_184.old⟩, ⟨7, r_182.reads, r_182.writes, r_182.made, false, r_182.old⟩, ⟨6, r_180.reads, r_180.writes, r_180.made, false, r_180.old⟩, ⟨4, r_177.reads, r_177.writes, r_177.made, false, r_177.old⟩, ⟨2, r_174.reads, r_174.writes, r_174.made, true, r_174.old⟩, ⟨1, r_170.reads, r_170.writes, r_170.made, false, r_170.old⟩] ⟨13, (slOf t48_186), [], [], false, []⟩ (
 W.idx 1 t48_186 t50_189 L_173 fun t51_191 =>
 W.note ⟨(slOf t48_186), [], [], []⟩ fun r_192 =>
 W.calm [⟨8, r_184.reads, r_184.writes, r_184.made, false, r_184.old⟩, ⟨7, r_182.reads, r_182.writes, r_182.made, false, r_182.old⟩, ⟨6, r_180.reads, r_180.writes, r_180.made, false, r_180.old⟩, ⟨4, r_177.reads, r_177.writes, r_177.made, false, r_177.old⟩, ⟨2, r_174.reads, r_174.writes, r_174.made, true, r_174.old⟩, ⟨1, r_170.reads, r_170.writes, r_170.made, false, r_170.old⟩] ⟨14, (blocksOf t51_191), [], [], false, []⟩ (
 W.load false 1 t51_191 L_173 fun t52_193 =>
 W.note ⟨(blocksOf t51_191), [], [], []⟩ fun r_194 =>
 W.dcall Try.prog [] 15 (.fn 75 []) [t40_171, t46_183, t52_193] L_173 (ref07_step_d4 L_173 vs_11 j_68)))))))))
def ref07_step_l6 (Q : AV → SH → Prop) (vs_11 : List AV) (L_13 : SH) (nx_12 : W.Kn) : Prop :=
 W.len (slotOf [2, 3, 4, 6, 7] vs_11 6) fun t15_14 =>
 W.bin Try.prog Fl .lss 3 (slotOf [2, 3, 4, 6, 7] vs_11 7) t15_14 fun t16_15 =>
 W.cond t16_15 (
 (true = true) ∧ (
 W.calm [] ⟨2, (slOf (slotOf [2, 3, 4, 6, 7] vs_11 6)), [], [], false, []⟩ (
 W.idx 1 (slotOf [2, 3, 4, 6, 7] vs_11 6) (slotOf [2, 3, 4, 6, 7] vs_11 7) L_13 fun t21_16 =>
 W.note ⟨(slOf (slotOf [2, 3, 4, 6, 7] vs_11 6)), [], [], []⟩ fun r_17 =>
 W.calm [] ⟨3, (blocksOf t21_16), [], [], false, []⟩ (
 W.load false 1 t21_16 L_13 fun t22_18 =>
 W.note ⟨(blocksOf t21_16), [], [], []⟩ fun r_19 =>
 W.bin Try.prog Fl .lss 3 t22_18 (.int .i64 0) fun t23_20 =>
 W.dgrd t23_20 false (fun k_22 => k_22 (slotOf [2, 3, 4, 6, 7] vs_11 6) L_13 ⟨[], [], [], []⟩) L_13 fun t25_21 L_24 r_23 =>
 W.dgrd t23_20 false (fun k_26 => k_26 (slotOf [2, 3, 4, 6, 7] vs_11 7) L_24 ⟨[], [], [], []⟩) L_24 fun t26_25 L_28 r_27 =>
 W.dgrd t23_20 false (fun k_30 => W.calm [] ⟨8, (slOf t25_21), [], [], false, []⟩ (
 W.idx 1 t25_21 t26_25 L_28 fun v_33 =>
 W.note ⟨(slOf t25_21), [], [], []⟩ fun r_34 =>
 k_30 v_33 L_28 r_34)) L_28 fun t27_29 L_32 r_31 =>
 W.dgrd t23_20 false (fun k_36 => W.calm [] ⟨9, (blocksOf t27_29), [], [], false, []⟩ (
 W.load false 1 t27_29 L_32 fun v_39 =>
 W.note ⟨(blocksOf t27_29), [], [], []⟩ fun r_40 =>
 k_36 v_39 L_32 r_40)) L_32 fun t28_35 L_38 r_37 =>
 W.dgrd t23_20 false (fun k_42 => W.faddr 1 (slotOf [2, 3, 4, 6, 7] vs_11 3) fun v_45 =>
 k_42 v_45 L_38 ⟨[], [], [], []⟩) L_38 fun t29_41 L_44 r_43 =>
 W.dgrd t23_20 false (fun k_47 => W.calm [⟨9, r_37.reads, r_37.writes, r_37.made, false, r_37.old⟩, ⟨8, r_31.reads, r_31.writes, r_31.made, false, r_31.old⟩] ⟨11, (blocksOf t29_41), [], [], false, []⟩ (
 W.load false 1 t29_41 L_44 fun v_50 =>
 W.note ⟨(blocksOf t29_41), [], [], []⟩ fun r_51 =>
 k_47 v_50 L_44 r_51)) L_44 fun t30_46 L_49 r_48 =>
 W.dgrd t23_20 false (fun k_53 => W.len t30_46 fun v_56 =>
 k_53 v_56 L_49 ⟨[], [], [], []⟩) L_49 fun t31_52 L_55 r_54 =>
 W.dgrd t23_20 false (fun k_58 => W.bin Try.prog Fl .geq 3 t28_35 t31_52 fun v_61 =>
 k_58 v_61 L_55 ⟨[], [], [], []⟩) L_55 fun t32_57 L_60 r_59 =>
 W.pick t23_20 (.bool true) t32_57 fun t33_62 =>
 W.cond t33_62 (
 W.build [(.int .i64 0), .nils, .nils, (.int .i64 0)] [] fun t34_63 =>
 W.store 4 (slotOf [2, 3, 4, 6, 7] vs_11 4) t34_63 L_60 fun L_64 =>
 W.load true 4 (slotOf [2, 3, 4, 6, 7] vs_11 4) L_64 fun r_65 =>
 Q (.tup [r_65, (.bool false)]) L_64) (
 W.bin Try.prog Fl .add 3 (slotOf [2, 3, 4, 6, 7] vs_11 7) (.int .i64 1) fun t18_66 =>
 nx_12 [(slotOf [2, 3, 4, 6, 7] vs_11 2), (slotOf [2, 3, 4, 6, 7] vs_11 3), (slotOf [2, 3, 4, 6, 7] vs_11 4), (slotOf [2, 3, 4, 6, 7] vs_11 6), t18_66] L_60))))) (
 W.join (ref07_step_j0 Q) fun j_68 =>
 W.faddr 0 (slotOf [2, 3, 4, 6, 7] vs_11 2) fun t35_104 =>
 W.load false 1 t35_104 L_13 fun t36_105 =>
 W.bin Try.prog Fl .eql 3 t36_105 (.int .i64 5) fun t70_106 =>
 W.cond t70_106 (
 W.faddr 1 (slotOf [2, 3, 4, 6, 7] vs_11 2) fun t71_107 =>
 W.load false 1 t71_107 L_13 fun t72_108 =>
 W.faddr 0 (slotOf [2, 3, 4, 6, 7] vs_11 3) fun t73_109 =>
 W.store 1 t73_109 t72_108 L_13 fun L_110 =>
 W.load true 4 (slotOf [2, 3, 4, 6, 7] vs_11 3) L_110 fun t74_111 =>
 W.store 4 (slotOf [2, 3, 4, 6, 7] vs_11 4) t74_111 L_110 fun L_112 =>
 W.load true 4 (slotOf [2, 3, 4, 6, 7] vs_11 4) L_112 fun r_113 =>
 Q (.tup [r_113, (.bool true)]) L_112) (
 W.bin Try.prog Fl .eql 3 t36_105 (.int .i64 1) fun t76_114 =>
 W.cond t76_114 (
 W.faddr 4 (slotOf [2, 3, 4, 6, 7] vs_11 2) fun t77_115 =>
 W.load false 1 t77_115 L_13 fun t78_116 =>
 j_68 [(slotOf [2, 3, 4, 6, 7] vs_11 2), (slotOf [2, 3, 4, 6, 7] vs_11 3), (slotOf [2, 3, 4, 6, 7] vs_11 4), t78_116, (.bool true), .nils] L_13) (
 W.bin Try.prog Fl .eql 3 t36_105 (.int .i64 2) fun t80_117 =>
 W.cond t80_117 (
 (true = true) ∧ (
 W.faddr 1 (slotOf [2, 3, 4, 6, 7] vs_11 3) fun t81_118 =>
 W.calm [] ⟨1, (blocksOf t81_118), [], [], false, []⟩ (
 W.load false 1 t81_118 L_13 fun t82_119 =>
 W.note ⟨(blocksOf t81_118), [], [], []⟩ fun r_120 =>
 W.faddr 2 (slotOf [2, 3, 4, 6, 7] vs_11 2) fun t83_121 =>
 W.calm [⟨1, r_120.reads, r_120.writes, r_120.made, false, r_120.old⟩] ⟨3, (blocksOf t83_121), [], [], false, []⟩ (
 W.load false 1 t83_121 L_13 fun t84_122 =>
 W.note ⟨(blocksOf t83_121), [], [], []⟩ fun r_123 =>
 W.calm [] ⟨4, (slOf t82_119), [], [], false, []⟩ (
 W.idx 1 t82_119 t84_122 L_13 fun t85_124 =>
 W.note ⟨(slOf t82_119), [], [], []⟩ fun r_125 =>
 W.calm [] ⟨5, (blocksOf t85_124), [], [], false, []⟩ (
 W.load false 1 t85_124 L_13 fun t86_126 =>
 W.note ⟨(blocksOf t85_124), [], [], []⟩ fun r_127 =>
 W.faddr 2 (slotOf [2, 3, 4, 6, 7] vs_11 3) fun t87_128 =>
 W.calm [⟨5, r_127.reads, r_127.writes, r_127.made, false, r_127.old⟩, ⟨4, r_125.reads, r_125.writes, r_125.made, false, r_125.old⟩, ⟨3, r_123.reads, r_123.writes, r_123.made, false, r_123.old⟩, ⟨1, r_120.reads, r_120.writes, r_120.made, false, r_120.old⟩] ⟨7, (blocksOf t87_128), [], [], false, []⟩ (
 W.load false 1 t87_128 L_13 fun t88_129 =>
 W.note ⟨(blocksOf t87_128), [], [], []⟩ fun r_130 =>
 W.faddr 2 (slotOf [2, 3, 4, 6, 7] vs_11 2) fun t89_131 =>
 W.calm [⟨7, r_130.reads, r_130.writes, r_130.made, false, r_130.old⟩, ⟨5, r_127.reads, r_127.writes, r_127.made, false, r_127.old⟩, ⟨4, r_125.reads, r_125.writes, r_125.made, false, r_125.old⟩, ⟨3, r_123.reads, r_123.writes, r_123.made, false, r_123.old⟩, ⟨1, r_120.reads, r_120.writes, r_120.made, false, r_120.old⟩] ⟨9, (blocksOf t89_131), [], [], false, []⟩ (
 W.load false 1 t89_131 L_13 fun t90_132 =>
 W.note ⟨(blocksOf t89_131), [], [], []⟩ fun r_133 =>
 W.calm [⟨5, r_127.reads, r_127.writes, r_127.made, false, r_127.old⟩, ⟨4, r_125.reads, r_125.writes, r_125.made, false, r_125.old⟩, ⟨3, r_123.reads, r_123.writes, r_123.made, false, r_123.old⟩, ⟨1, r_120.reads, r_120.writes, r_120.made, false, r_120.old⟩] ⟨10, (slOf t88_129), [], [], false, []⟩ (
 W.idx 1 t88_129 t90_132 L_13 fun t91_134 =>
 W.note ⟨(slOf t88_129), [], [], []⟩ fun r_135 =>
 W.calm [⟨5, r_127.reads, r_127.writes, r_127.made, false, r_127.old⟩, ⟨4, r_125.reads, r_125.writes, r_125.made, false, r_125.old⟩, ⟨3, r_123.reads, r_123.writes, r_123.made, false, r_123.old⟩, ⟨1, r_120.reads, r_120.writes, r_120.made, false, r_120.old⟩] ⟨11, (blocksOf t91_134), [], [], false, []⟩ (
 W.load false 1 t91_134 L_13 fun t92_136 =>
 W.note ⟨(blocksOf t91_134), [], [], []⟩ fun r_137 =>
 j_68 [(slotOf [2, 3, 4, 6, 7] vs_11 2), (slotOf [2, 3, 4, 6, 7] vs_11 3), (slotOf [2, 3, 4, 6, 7] vs_11 4), t86_126, (.bool true), t92_136] L_13)))))))))) (
 W.bin Try.prog Fl .eql 3 t36_105 (.int .i64 3) fun t94_138 =>
 W.cond t94_138 (
 (true = true) ∧ (
 W.faddr 4 (slotOf [2, 3, 4, 6, 7] vs_11 2) fun t96_139 =>
 W.calm [] ⟨1, (blocksOf t96_139), [], [], false, []⟩ (
 W.load false 1 t96_139 L_13 fun t97_140 =>
 W.note ⟨(blocksOf t96_139), [], [], []⟩ fun r_141 =>
 W.dcall Try.prog [] 2 (.fn 74 []) [t97_140] L_13 (ref07_step_d2 L_13 vs_11 r_141 j_68)))) (
 (true = true) ∧ (
 W.faddr 4 (slotOf [2, 3, 4, 6, 7] vs_11 2) fun t38_168 =>
 W.calm [] ⟨1, (blocksOf t38_168), [], [], false, []⟩ (
 W.load false 1 t38_168 L_13 fun t39_169 =>
 W.note ⟨(blocksOf t38_168), [], [], []⟩ fun r_170 =>
 W.dcall Try.prog [] 2 (.fn 74 []) [t39_169] L_13 (ref07_step_d5 L_13 vs_11 r_170 j_68))))))))
def ref07_step_c7 (Q : AV → SH → Prop) (t2_6 : AV) (t3_2 : AV) (t4_4 : AV) (t12_9 : AV) (L_10 : SH) : Prop :=
 W.loop (ref07_step_l6 Q) [t2_6, t3_2, t4_4, t12_9, (.int .i64 0)] L_10
def ref07_step_w (t0 t1 : AV) (L : SH) (Q : AV → SH → Prop) : Prop :=
 W.box t0 L fun t2_0 L_1 =>
 W.box t1 L_1 fun t3_2 L_3 =>
 W.alloc [(.int .i64 0), .nils, .nils, (.int .i64 0)] L_3 fun t4_4 L_5 =>
 W.frz1 t2_0 L_5 fun t2_6 L_7 =>
 W.load true 6 t2_6 L_7 fun t11_8 =>
 W.call Try.prog (.fn 72 []) [t11_8] L_7 (ref07_step_c7 Q t2_6 t3_2 t4_4)
theorem ref07_step_e (t0 t1 : AV) (L : SH) (Q : AV → SH → Prop) : W.func Try.prog Fl ref07_step_t Try.f46 (Try.f46.body.getD .skip) [t0, t1] L Q = ref07_step_w t0 t1 L Q := by kernel_rfl
theorem ref07_step_ok (t0 t1 : AV) (L : SH) (Q : AV → SH → Prop) (h : ref07_step_w t0 t1 L Q) : CallA Try.prog 46 [t0, t1] L Q :=
  func_sound (ht := ref07_step_t) fit Try.func46 (show Try.f46.body = some (Try.f46.body.getD .skip) by kernel_rfl) (Eq.mpr (ref07_step_e t0 t1 L Q) h)

/- interleave/interleaveref07.Union -/
def ref07_Union_t : Hints := ⟨fun k => none, fun k => if k = 3 then [0, 1, 5, 6] else if k = 7 then [1, 5, 7] else [], fun k => [], fun k => []⟩
def ref07_Union_c0 (vs_0 : List AV) (nx_1 : W.Kn) (t19_7 : AV) (L_8 : SH) : Prop :=
 W.bin Try.prog Fl .add 3 (slotOf [0, 1, 5, 6] vs_0 6) (.int .i64 1) fun t13_9 =>
 nx_1 [(slotOf [0, 1, 5, 6] vs_0 0), (slotOf [0, 1, 5, 6] vs_0 1), t19_7, t13_9] L_8
def ref07_Union_c1 (vs_10 : List AV) (nx_11 : W.Kn) (t31_17 : AV) (L_18 : SH) : Prop :=
 W.bin Try.prog Fl .add 3 (slotOf [1, 5, 7] vs_10 7) (.int .i64 1) fun t25_19 =>
 nx_11 [(slotOf [1, 5, 7] vs_10 1), t31_17, t25_19] L_18
def ref07_Union_l2 (Q : AV → SH → Prop) (vs_10 : List AV) (L_12 : SH) (nx_11 : W.Kn) : Prop :=
 W.len (slotOf [1, 5, 7] vs_10 1) fun t22_13 =>
 W.bin Try.prog Fl .lss 3 (slotOf [1, 5, 7] vs_10 7) t22_13 fun t23_14 =>
 W.cond t23_14 (
 W.idx 1 (slotOf [1, 5, 7] vs_10 1) (slotOf [1, 5, 7] vs_10 7) L_12 fun t29_15 =>
 W.load false 1 t29_15 L_12 fun t30_16 =>
 W.call Try.prog (.fn 64 []) [(slotOf [1, 5, 7] vs_10 5), t30_16] L_12 (ref07_Union_c1 vs_10 nx_11)) (
 Q (slotOf [1, 5, 7] vs_10 5) L_12)
def ref07_Union_l3 (Q : AV → SH → Prop) (vs_0 : List AV) (L_2 : SH) (nx_1 : W.Kn) : Prop :=
 W.len (slotOf [0, 1, 5, 6] vs_0 0) fun t10_3 =>
 W.bin Try.prog Fl .lss 3 (slotOf [0, 1, 5, 6] vs_0 6) t10_3 fun t11_4 =>
 W.cond t11_4 (
 W.idx 1 (slotOf [0, 1, 5, 6] vs_0 0) (slotOf [0, 1, 5, 6] vs_0 6) L_2 fun t17_5 =>
 W.load false 1 t17_5 L_2 fun t18_6 =>
 W.call Try.prog (.fn 64 []) [(slotOf [0, 1, 5, 6] vs_0 5), t18_6] L_2 (ref07_Union_c0 vs_0 nx_1)) (
 W.loop (ref07_Union_l2 Q) [(slotOf [0, 1, 5, 6] vs_0 1), (slotOf [0, 1, 5, 6] vs_0 5), (.int .i64 0)] L_2)
def ref07_Union_w (t0 t1 : AV) (L : SH) (Q : AV → SH → Prop) : Prop :=
 W.loop (ref07_Union_l3 Q) [t0, t1, .nils, (.int .i64 0)] L
theorem ref07_Union_e (t0 t1 : AV) (L : SH) (Q : AV → SH → Prop) : W.func Try.prog Fl ref07_Union_t Try.f57 (Try.f57.body.getD .skip) [t0, t1] L Q = ref07_Union_w t0 t1 L Q := by kernel_rfl
theorem ref07_Union_ok (t0 t1 : AV) (L : SH) (Q : AV → SH → Prop) (h : ref07_Union_w t0 t1 L Q) : CallA Try.prog 57 [t0, t1] L Q :=
  func_sound (ht := ref07_Union_t) fit Try.func57 (show Try.f57.body = some (Try.f57.body.getD .skip) by kernel_rfl) (Eq.mpr (ref07_Union_e t0 t1 L Q) h)

/- interleave/interleaveref07.Put -/
def ref07_Put_t : Hints := ⟨fun k => none, fun k => if k = 2 then [0, 1, 5] else [], fun k => [], fun k => []⟩
def ref07_Put_l0 (Q : AV → SH → Prop) (vs_0 : List AV) (L_2 : SH) (nx_1 : W.Kn) : Prop :=
 W.len (slotOf [0, 1, 5] vs_0 0) fun t9_3 =>
 W.bin Try.prog Fl .lss 3 (slotOf [0, 1, 5] vs_0 5) t9_3 fun t10_4 =>
 W.grd t10_4 true (fun k_6 => k_6 (slotOf [0, 1, 5] vs_0 0) L_2) L_2 fun t12_5 L_7 =>
 W.grd t10_4 true (fun k_9 => k_9 (slotOf [0, 1, 5] vs_0 5) L_7) L_7 fun t13_8 L_10 =>
 W.grd t10_4 true (fun k_12 => W.idx 1 t12_5 t13_8 L_10 fun v_14 =>
 k_12 v_14 L_10) L_10 fun t14_11 L_13 =>
 W.grd t10_4 true (fun k_16 => W.load false 1 t14_11 L_13 fun v_18 =>
 k_16 v_18 L_13) L_13 fun t15_15 L_17 =>
 W.grd t10_4 true (fun k_20 => k_20 (slotOf [0, 1, 5] vs_0 1) L_17) L_17 fun t16_19 L_21 =>
 W.grd t10_4 true (fun k_23 => W.bin Try.prog Fl .lss 3 t15_15 t16_19 fun v_25 =>
 k_23 v_25 L_21) L_21 fun t17_22 L_24 =>
 W.pick t10_4 t17_22 (.bool false) fun t18_26 =>
 W.cond t18_26 (
 W.bin Try.prog Fl .add 3 (slotOf [0, 1, 5] vs_0 5) (.int .i64 1) fun t20_27 =>
 nx_1 [(slotOf [0, 1, 5] vs_0 0), (slotOf [0, 1, 5] vs_0 1), t20_27] L_24) (
 W.len (slotOf [0, 1, 5] vs_0 0) fun t23_28 =>
 W.bin Try.prog Fl .lss 3 (slotOf [0, 1, 5] vs_0 5) t23_28 fun t24_29 =>
 W.grd t24_29 true (fun k_31 => k_31 (slotOf [0, 1, 5] vs_0 0) L_24) L_24 fun t26_30 L_32 =>
 W.grd t24_29 true (fun k_34 => k_34 (slotOf [0, 1, 5] vs_0 5) L_32) L_32 fun t27_33 L_35 =>
 W.grd t24_29 true (fun k_37 => W.idx 1 t26_30 t27_33 L_35 fun v_39 =>
 k_37 v_39 L_35) L_35 fun t28_36 L_38 =>
 W.grd t24_29 true (fun k_41 => W.load false 1 t28_36 L_38 fun v_43 =>
 k_41 v_43 L_38) L_38 fun t29_40 L_42 =>
 W.grd t24_29 true (fun k_45 => k_45 (slotOf [0, 1, 5] vs_0 1) L_42) L_42 fun t30_44 L_46 =>
 W.grd t24_29 true (fun k_48 => W.bin Try.prog Fl .eql 3 t29_40 t30_44 fun v_50 =>
 k_48 v_50 L_46) L_46 fun t31_47 L_49 =>
 W.pick t24_29 t31_47 (.bool false) fun t32_51 =>
 W.cond t32_51 (
 Q (slotOf [0, 1, 5] vs_0 0) L_49) (
 W.bslice 1 [(.int .i64 0)] 0 [] L_49 fun t34_52 L_53 =>
 W.slice 1 (slotOf [0, 1, 5] vs_0 0) none (some (slotOf [0, 1, 5] vs_0 5)) none L_53 fun t37_54 =>
 W.append 1 8 t34_52 t37_54 L_53 fun t38_55 L_56 =>
 W.bslice 1 [(.int .i64 0)] 1 [(0, (slotOf [0, 1, 5] vs_0 1))] L_56 fun t41_57 L_58 =>
 W.append 1 8 t38_55 t41_57 L_58 fun t42_59 L_60 =>
 W.slice 1 (slotOf [0, 1, 5] vs_0 0) (some (slotOf [0, 1, 5] vs_0 5)) none none L_60 fun t46_61 =>
 W.append 1 8 t42_59 t46_61 L_60 fun t47_62 L_63 =>
 Q t47_62 L_63))
def ref07_Put_w (t0 t1 : AV) (L : SH) (Q : AV → SH → Prop) : Prop :=
 W.loop (ref07_Put_l0 Q) [t0, t1, (.int .i64 0)] L
theorem ref07_Put_e (t0 t1 : AV) (L : SH) (Q : AV → SH → Prop) : W.func Try.prog Fl ref07_Put_t Try.f64 (Try.f64.body.getD .skip) [t0, t1] L Q = ref07_Put_w t0 t1 L Q := by kernel_rfl
theorem ref07_Put_ok (t0 t1 : AV) (L : SH) (Q : AV → SH → Prop) (h : ref07_Put_w t0 t1 L Q) : CallA Try.prog 64 [t0, t1] L Q :=
  func_sound (ht := ref07_Put_t) fit Try.func64 (show Try.f64.body = some (Try.f64.body.getD .skip) by kernel_rfl) (Eq.mpr (ref07_Put_e t0 t1 L Q) h)

/- interleave/interleaveref06.Registers -/
def ref06_Registers_t : Hints := ⟨fun k => if k = 5 then some [1, 4, 5] else if k = 8 then some [1, 4, 13] else if k = 15 then some [1, 4, 37] else none, fun k => [], fun k => if k = 0 then [1] else [], fun k => []⟩
def ref06_Registers_j0 (Q : AV → SH → Prop) (vs_38 : List AV) (L_40 : SH) : Prop :=
 W.cond (slotOf [1, 4, 37] vs_38 37) (
 W.faddr 2 (slotOf [1, 4, 37] vs_38 1) fun t40_41 =>
 W.load false 1 t40_41 L_40 fun t41_42 =>
 W.bslice 1 [(.int .i64 0)] 1 [(0, t41_42)] L_40 fun t42_43 L_44 =>
 Q t42_43 L_44) (
 W.bin Try.prog Fl .eql 3 (slotOf [1, 4, 37] vs_38 4) (.int .i64 9) fun t44_45 =>
 W.cond t44_45 (
 W.faddr 2 (slotOf [1, 4, 37] vs_38 1) fun t45_46 =>
 W.load false 1 t45_46 L_40 fun t46_47 =>
 W.faddr 3 (slotOf [1, 4, 37] vs_38 1) fun t47_48 =>
 W.load false 1 t47_48 L_40 fun t48_49 =>
 W.bslice 1 [(.int .i64 0)] 2 [(0, t46_47), (1, t48_49)] L_40 fun t49_50 L_51 =>
 Q t49_50 L_51) (
 Q .nils L_40))
def ref06_Registers_j1 (Q : AV → SH → Prop) (vs_13 : List AV) (L_15 : SH) : Prop :=
 W.cond (slotOf [1, 4, 13] vs_13 13) (
 W.faddr 1 (slotOf [1, 4, 13] vs_13 1) fun t16_16 =>
 W.load false 1 t16_16 L_15 fun t17_17 =>
 W.faddr 2 (slotOf [1, 4, 13] vs_13 1) fun t18_18 =>
 W.load false 1 t18_18 L_15 fun t19_19 =>
 W.bslice 1 [(.int .i64 0)] 2 [(0, t17_17), (1, t19_19)] L_15 fun t20_20 L_21 =>
 Q t20_20 L_21) (
 W.bin Try.prog Fl .eql 3 (slotOf [1, 4, 13] vs_13 4) (.int .i64 4) fun t22_22 =>
 W.cond t22_22 (
 W.faddr 1 (slotOf [1, 4, 13] vs_13 1) fun t23_23 =>
 W.load false 1 t23_23 L_15 fun t24_24 =>
 W.faddr 2 (slotOf [1, 4, 13] vs_13 1) fun t25_25 =>
 W.load false 1 t25_25 L_15 fun t26_26 =>
 W.faddr 3 (slotOf [1, 4, 13] vs_13 1) fun t27_27 =>
 W.load false 1 t27_27 L_15 fun t28_28 =>
 W.bslice 1 [(.int .i64 0)] 3 [(0, t24_24), (1, t26_26), (2, t28_28)] L_15 fun t29_29 L_30 =>
 Q t29_29 L_30) (
 W.bin Try.prog Fl .eql 3 (slotOf [1, 4, 13] vs_13 4) (.int .i64 7) fun t31_31 =>
 W.cond t31_31 (
 W.faddr 1 (slotOf [1, 4, 13] vs_13 1) fun t32_32 =>
 W.load false 1 t32_32 L_15 fun t33_33 =>
 W.faddr 3 (slotOf [1, 4, 13] vs_13 1) fun t34_34 =>
 W.load false 1 t34_34 L_15 fun t35_35 =>
 W.bslice 1 [(.int .i64 0)] 2 [(0, t33_33), (1, t35_35)] L_15 fun t36_36 L_37 =>
 Q t36_36 L_37) (
 W.join (ref06_Registers_j0 Q) fun j_39 =>
 W.bin Try.prog Fl .eql 3 (slotOf [1, 4, 13] vs_13 4) (.int .i64 8) fun t38_52 =>
 W.cond t38_52 (
 j_39 [(slotOf [1, 4, 13] vs_13 1), (slotOf [1, 4, 13] vs_13 4), t38_52] L_15) (
 W.bin Try.prog Fl .eql 3 (slotOf [1, 4, 13] vs_13 4) (.int .i64 26) fun t39_53 =>
 j_39 [(slotOf [1, 4, 13] vs_13 1), (slotOf [1, 4, 13] vs_13 4), t39_53] L_15))))
def ref06_Registers_j2 (Q : AV → SH → Prop) (vs_6 : List AV) (L_8 : SH) : Prop :=
 W.cond (slotOf [1, 4, 5] vs_6 5) (
 W.faddr 1 (slotOf [1, 4, 5] vs_6 1) fun t10_9 =>
 W.load false 1 t10_9 L_8 fun t11_10 =>
 W.bslice 1 [(.int .i64 0)] 1 [(0, t11_10)] L_8 fun t12_11 L_12 =>
 Q t12_11 L_12) (
 W.join (ref06_Registers_j1 Q) fun j_14 =>
 W.bin Try.prog Fl .eql 3 (slotOf [1, 4, 5] vs_6 4) (.int .i64 2) fun t14_54 =>
 W.cond t14_54 (
 j_14 [(slotOf [1, 4, 5] vs_6 1), (slotOf [1, 4, 5] vs_6 4), t14_54] L_8) (
 W.bin Try.prog Fl .eql 3 (slotOf [1, 4, 5] vs_6 4) (.int .i64 3) fun t15_55 =>
 j_14 [(slotOf [1, 4, 5] vs_6 1), (slotOf [1, 4, 5] vs_6 4), t15_55] L_8))
def ref06_Registers_w (t0 : AV) (L : SH) (Q : AV → SH → Prop) : Prop :=
 W.box t0 L fun t1_0 L_1 =>
 W.frz1 t1_0 L_1 fun t1_2 L_3 =>
 W.faddr 0 t1_2 fun t3_4 =>
 W.load false 1 t3_4 L_3 fun t4_5 =>
 W.join (ref06_Registers_j2 Q) fun j_7 =>
 W.bin Try.prog Fl .eql 3 t4_5 (.int .i64 1) fun t6_56 =>
 W.cond t6_56 (
 j_7 [t1_2, t4_5, t6_56] L_3) (
 W.bin Try.prog Fl .eql 3 t4_5 (.int .i64 6) fun t7_57 =>
 W.cond t7_57 (
 j_7 [t1_2, t4_5, t7_57] L_3) (
 W.bin Try.prog Fl .eql 3 t4_5 (.int .i64 10) fun t8_58 =>
 W.cond t8_58 (
 j_7 [t1_2, t4_5, t8_58] L_3) (
 W.bin Try.prog Fl .eql 3 t4_5 (.int .i64 27) fun t9_59 =>
 j_7 [t1_2, t4_5, t9_59] L_3)))
theorem ref06_Registers_e (t0 : AV) (L : SH) (Q : AV → SH → Prop) : W.func Try.prog Fl ref06_Registers_t Try.f72 (Try.f72.body.getD .skip) [t0] L Q = ref06_Registers_w t0 L Q := by kernel_rfl
theorem ref06_Registers_ok (t0 : AV) (L : SH) (Q : AV → SH → Prop) (h : ref06_Registers_w t0 L Q) : CallA Try.prog 72 [t0] L Q :=
  func_sound (ht := ref06_Registers_t) fit Try.func72 (show Try.f72.body = some (Try.f72.body.getD .skip) by kernel_rfl) (Eq.mpr (ref06_Registers_e t0 L Q) h)

/- interleave/interleaveref05.Unary -/
def ref05_Unary_t : Hints := ⟨fun k => none, fun k => [], fun k => [], fun k => []⟩
def ref05_Unary_w (t0 t1 : AV) (L : SH) (Q : AV → SH → Prop) : Prop :=
 W.bin Try.prog Fl .eql 3 t0 (.int .i64 4) fun t8_0 =>
 W.cond t8_0 (
 W.un .neg t1 fun t10_1 =>
 Q (.tup [t10_1, (.bool true)]) L) (
 W.bin Try.prog Fl .eql 3 t0 (.int .i64 5) fun t12_2 =>
 W.cond t12_2 (
 W.bin Try.prog Fl .eql 2 t1 (.int .i64 0) fun t14_3 =>
 W.call Try.prog (.fn 93 []) [t14_3] L fun t15_4 L_5 =>
 Q (.tup [t15_4, (.bool true)]) L_5) (
 Q (.tup [(.int .i64 0), (.bool false)]) L))
theorem ref05_Unary_e (t0 t1 : AV) (L : SH) (Q : AV → SH → Prop) : W.func Try.prog Fl ref05_Unary_t Try.f73 (Try.f73.body.getD .skip) [t0, t1] L Q = ref05_Unary_w t0 t1 L Q := by kernel_rfl
theorem ref05_Unary_ok (t0 t1 : AV) (L : SH) (Q : AV → SH → Prop) (h : ref05_Unary_w t0 t1 L Q) : CallA Try.prog 73 [t0, t1] L Q :=
  func_sound (ht := ref05_Unary_t) fit Try.func73 (show Try.f73.body = some (Try.f73.body.getD .skip) by kernel_rfl) (Eq.mpr (ref05_Unary_e t0 t1 L Q) h)

/- interleave/interleaveref07.operator -/
def ref07_operator_t : Hints := ⟨fun k => none, fun k => [], fun k => [], fun k => []⟩
def ref07_operator_w (t0 : AV) (L : SH) (Q : AV → SH → Prop) : Prop :=
 W.bin Try.prog Fl .lss 2 t0 (.int .i64 1) fun t4_0 =>
 W.grd t4_0 false (fun k_2 => k_2 t0 L) L fun t6_1 L_3 =>
 W.grd t4_0 false (fun k_5 => W.bin Try.prog Fl .gtr 2 t6_1 (.int .i64 100) fun v_7 =>
 k_5 v_7 L_3) L_3 fun t7_4 L_6 =>
 W.pick t4_0 (.bool true) t7_4 fun t8_8 =>
 W.cond t8_8 (
 Q (.int .i64 0) L_6) (
 Q t0 L_6)
theorem ref07_operator_e (t0 : AV) (L : SH) (Q : AV → SH → Prop) : W.func Try.prog Fl ref07_operator_t Try.f74 (Try.f74.body.getD .skip) [t0] L Q = ref07_operator_w t0 L Q := by kernel_rfl
theorem ref07_operator_ok (t0 : AV) (L : SH) (Q : AV → SH → Prop) (h : ref07_operator_w t0 L Q) : CallA Try.prog 74 [t0] L Q :=
  func_sound (ht := ref07_operator_t) fit Try.func74 (show Try.f74.body = some (Try.f74.body.getD .skip) by kernel_rfl) (Eq.mpr (ref07_operator_e t0 L Q) h)

/- interleave/interleaveref05.Binary -/
def ref05_Binary_t : Hints := ⟨fun k => none, fun k => [], fun k => [], fun k => []⟩
def ref05_Binary_w (t0 t1 t2 : AV) (L : SH) (Q : AV → SH → Prop) : Prop :=
 W.bin Try.prog Fl .eql 3 t0 (.int .i64 6) fun t10_0 =>
 W.cond t10_0 (
 W.bin Try.prog Fl .add 2 t1 t2 fun t13_1 =>
 Q (.tup [t13_1, (.bool true)]) L) (
 W.bin Try.prog Fl .eql 3 t0 (.int .i64 7) fun t15_2 =>
 W.cond t15_2 (
 W.bin Try.prog Fl .sub 2 t1 t2 fun t18_3 =>
 Q (.tup [t18_3, (.bool true)]) L) (
 W.bin Try.prog Fl .eql 3 t0 (.int .i64 8) fun t20_4 =>
 W.cond t20_4 (
 W.bin Try.prog Fl .mul 2 t1 t2 fun t23_5 =>
 Q (.tup [t23_5, (.bool true)]) L) (
 W.bin Try.prog Fl .eql 3 t0 (.int .i64 9) fun t25_6 =>
 W.cond t25_6 (
 W.bin Try.prog Fl .eql 2 t2 (.int .i64 0) fun t27_7 =>
 W.cond t27_7 (
 Q (.tup [(.int .i64 0), (.bool true)]) L) (
 W.bin Try.prog Fl .quo 2 t1 t2 fun t30_8 =>
 Q (.tup [t30_8, (.bool true)]) L)) (
 W.bin Try.prog Fl .eql 3 t0 (.int .i64 10) fun t32_9 =>
 W.cond t32_9 (
 W.bin Try.prog Fl .eql 2 t2 (.int .i64 0) fun t34_10 =>
 W.cond t34_10 (
 Q (.tup [(.int .i64 0), (.bool true)]) L) (
 W.bin Try.prog Fl .rem 2 t1 t2 fun t37_11 =>
 Q (.tup [t37_11, (.bool true)]) L)) (
 W.bin Try.prog Fl .eql 3 t0 (.int .i64 11) fun t39_12 =>
 W.cond t39_12 (
 W.bin Try.prog Fl .eql 2 t1 t2 fun t42_13 =>
 W.call Try.prog (.fn 93 []) [t42_13] L fun t43_14 L_15 =>
 Q (.tup [t43_14, (.bool true)]) L_15) (
 W.bin Try.prog Fl .eql 3 t0 (.int .i64 12) fun t45_16 =>
 W.cond t45_16 (
 W.bin Try.prog Fl .neq 2 t1 t2 fun t48_17 =>
 W.call Try.prog (.fn 93 []) [t48_17] L fun t49_18 L_19 =>
 Q (.tup [t49_18, (.bool true)]) L_19) (
 W.bin Try.prog Fl .eql 3 t0 (.int .i64 13) fun t51_20 =>
 W.cond t51_20 (
 W.bin Try.prog Fl .lss 2 t1 t2 fun t54_21 =>
 W.call Try.prog (.fn 93 []) [t54_21] L fun t55_22 L_23 =>
 Q (.tup [t55_22, (.bool true)]) L_23) (
 W.bin Try.prog Fl .eql 3 t0 (.int .i64 14) fun t57_24 =>
 W.cond t57_24 (
 W.bin Try.prog Fl .leq 2 t1 t2 fun t60_25 =>
 W.call Try.prog (.fn 93 []) [t60_25] L fun t61_26 L_27 =>
 Q (.tup [t61_26, (.bool true)]) L_27) (
 W.bin Try.prog Fl .eql 3 t0 (.int .i64 15) fun t63_28 =>
 W.cond t63_28 (
 W.bin Try.prog Fl .gtr 2 t1 t2 fun t66_29 =>
 W.call Try.prog (.fn 93 []) [t66_29] L fun t67_30 L_31 =>
 Q (.tup [t67_30, (.bool true)]) L_31) (
 W.bin Try.prog Fl .eql 3 t0 (.int .i64 16) fun t69_32 =>
 W.cond t69_32 (
 W.bin Try.prog Fl .geq 2 t1 t2 fun t72_33 =>
 W.call Try.prog (.fn 93 []) [t72_33] L fun t73_34 L_35 =>
 Q (.tup [t73_34, (.bool true)]) L_35) (
 W.bin Try.prog Fl .eql 3 t0 (.int .i64 17) fun t75_36 =>
 W.cond t75_36 (
 W.bin Try.prog Fl .neq 2 t1 (.int .i64 0) fun t77_37 =>
 W.grd t77_37 true (fun k_39 => k_39 t2 L) L fun t79_38 L_40 =>
 W.grd t77_37 true (fun k_42 => W.bin Try.prog Fl .neq 2 t79_38 (.int .i64 0) fun v_44 =>
 k_42 v_44 L_40) L_40 fun t80_41 L_43 =>
 W.pick t77_37 t80_41 (.bool false) fun t81_45 =>
 W.call Try.prog (.fn 93 []) [t81_45] L_43 fun t82_46 L_47 =>
 Q (.tup [t82_46, (.bool true)]) L_47) (
 W.bin Try.prog Fl .eql 3 t0 (.int .i64 18) fun t84_48 =>
 W.cond t84_48 (
 W.bin Try.prog Fl .neq 2 t1 (.int .i64 0) fun t86_49 =>
 W.grd t86_49 false (fun k_51 => k_51 t2 L) L fun t88_50 L_52 =>
 W.grd t86_49 false (fun k_54 => W.bin Try.prog Fl .neq 2 t88_50 (.int .i64 0) fun v_56 =>
 k_54 v_56 L_52) L_52 fun t89_53 L_55 =>
 W.pick t86_49 (.bool true) t89_53 fun t90_57 =>
 W.call Try.prog (.fn 93 []) [t90_57] L_55 fun t91_58 L_59 =>
 Q (.tup [t91_58, (.bool true)]) L_59) (
 Q (.tup [(.int .i64 0), (.bool false)]) L)))))))))))))
theorem ref05_Binary_e (t0 t1 t2 : AV) (L : SH) (Q : AV → SH → Prop) : W.func Try.prog Fl ref05_Binary_t Try.f75 (Try.f75.body.getD .skip) [t0, t1, t2] L Q = ref05_Binary_w t0 t1 t2 L Q := by kernel_rfl
theorem ref05_Binary_ok (t0 t1 t2 : AV) (L : SH) (Q : AV → SH → Prop) (h : ref05_Binary_w t0 t1 t2 L Q) : CallA Try.prog 75 [t0, t1, t2] L Q :=
  func_sound (ht := ref05_Binary_t) fit Try.func75 (show Try.f75.body = some (Try.f75.body.getD .skip) by kernel_rfl) (Eq.mpr (ref05_Binary_e t0 t1 t2 L Q) h)

/- interleave/interleaveref05.truth -/
def ref05_truth_t : Hints := ⟨fun k => none, fun k => [], fun k => [], fun k => []⟩
def ref05_truth_w (t0 : AV) (L : SH) (Q : AV → SH → Prop) : Prop :=
 W.cond t0 (
 Q (.int .i64 1) L) (
 Q (.int .i64 0) L)
theorem ref05_truth_e (t0 : AV) (L : SH) (Q : AV → SH → Prop) : W.func Try.prog Fl ref05_truth_t Try.f93 (Try.f93.body.getD .skip) [t0] L Q = ref05_truth_w t0 L Q := by kernel_rfl
theorem ref05_truth_ok (t0 : AV) (L : SH) (Q : AV → SH → Prop) (h : ref05_truth_w t0 L Q) : CallA Try.prog 93 [t0] L Q :=
  func_sound (ht := ref05_truth_t) fit Try.func93 (show Try.f93.body = some (Try.f93.body.getD .skip) by kernel_rfl) (Eq.mpr (ref05_truth_e t0 L Q) h)

/- interleave/silent.Settle -/
def silent_Settle_t : Hints := ⟨fun k => none, fun k => if k = 6 then [2, 3, 4, 6] else [], fun k => if k = 0 then [2] else if k = 8 then [7] else [], fun k => []⟩
def silent_Settle_l0 (Q : AV → SH → Prop) (vs_46 : List AV) (L_48 : SH) (nx_47 : W.Kn) : Prop :=
 W.faddr 0 (slotOf [2, 3, 4, 6] vs_46 3) fun t27_49 =>
 W.load false 1 t27_49 L_48 fun t28_50 =>
 W.bin Try.prog Fl .lss 3 t28_50 (.int .i64 0) fun t29_51 =>
 W.grd t29_51 false (fun k_53 => W.faddr 0 (slotOf [2, 3, 4, 6] vs_46 3) fun v_55 =>
 k_53 v_55 L_48) L_48 fun t31_52 L_54 =>
 W.grd t29_51 false (fun k_57 => W.load false 1 t31_52 L_54 fun v_59 =>
 k_57 v_59 L_54) L_54 fun t32_56 L_58 =>
 W.grd t29_51 false (fun k_61 => W.faddr 1 (slotOf [2, 3, 4, 6] vs_46 2) fun v_63 =>
 k_61 v_63 L_58) L_58 fun t33_60 L_62 =>
 W.grd t29_51 false (fun k_65 => W.load false 1 t33_60 L_62 fun v_67 =>
 k_65 v_67 L_62) L_62 fun t34_64 L_66 =>
 W.grd t29_51 false (fun k_69 => W.len t34_64 fun v_71 =>
 k_69 v_71 L_66) L_66 fun t35_68 L_70 =>
 W.grd t29_51 false (fun k_73 => W.bin Try.prog Fl .geq 3 t32_56 t35_68 fun v_75 =>
 k_73 v_75 L_70) L_70 fun t36_72 L_74 =>
 W.pick t29_51 (.bool true) t36_72 fun t37_76 =>
 W.cond t37_76 (
 W.build [(.int .i64 0), .nils, .nils, (.int .i64 0)] [] fun t38_77 =>
 W.store 4 (slotOf [2, 3, 4, 6] vs_46 4) t38_77 L_74 fun L_78 =>
 W.load true 4 (slotOf [2, 3, 4, 6] vs_46 4) L_78 fun r_79 =>
 Q (.tup [r_79, (.bool false)]) L_78) (
 W.faddr 1 (slotOf [2, 3, 4, 6] vs_46 2) fun t39_80 =>
 W.load false 1 t39_80 L_74 fun t40_81 =>
 W.faddr 0 (slotOf [2, 3, 4, 6] vs_46 3) fun t41_82 =>
 W.load false 1 t41_82 L_74 fun t42_83 =>
 W.idx 6 t40_81 t42_83 L_74 fun t43_84 =>
 W.load true 6 t43_84 L_74 fun t44_85 =>
 W.alloc [(.int .i64 0), (.int .i64 0), (.int .i64 0), (.int .i64 0), (.int .i64 0), (.int .i64 0)] L_74 fun t7_86 L_87 =>
 W.store 6 t7_86 t44_85 L_87 fun L_88 =>
 W.frz1 t7_86 L_88 fun t7_89 L_90 =>
 W.faddr 0 t7_89 fun t45_91 =>
 W.load false 1 t45_91 L_90 fun t46_92 =>
 W.bin Try.prog Fl .lss 3 t46_92 (.int .i64 1) fun t47_93 =>
 W.grd t47_93 false (fun k_95 => W.faddr 0 t7_89 fun v_97 =>
 k_95 v_97 L_90) L_90 fun t49_94 L_96 =>
 W.grd t47_93 false (fun k_99 => W.load false 1 t49_94 L_96 fun v_101 =>
 k_99 v_101 L_96) L_96 fun t50_98 L_100 =>
 W.grd t47_93 false (fun k_103 => W.bin Try.prog Fl .gtr 3 t50_98 (.int .i64 5) fun v_105 =>
 k_103 v_105 L_100) L_100 fun t51_102 L_104 =>
 W.pick t47_93 (.bool true) t51_102 fun t52_106 =>
 W.cond t52_106 (
 W.load true 4 (slotOf [2, 3, 4, 6] vs_46 3) L_104 fun t53_107 =>
 W.store 4 (slotOf [2, 3, 4, 6] vs_46 4) t53_107 L_104 fun L_108 =>
 W.load true 4 (slotOf [2, 3, 4, 6] vs_46 4) L_108 fun r_109 =>
 Q (.tup [r_109, (.bool true)]) L_108) (
 W.faddr 1 (slotOf [2, 3, 4, 6] vs_46 2) fun t55_110 =>
 W.load false 1 t55_110 L_104 fun t56_111 =>
 W.len t56_111 fun t57_112 =>
 W.bin Try.prog Fl .eql 3 (slotOf [2, 3, 4, 6] vs_46 6) t57_112 fun t58_113 =>
 W.grd t58_113 false (fun k_115 => W.load true 6 t7_89 L_104 fun v_117 =>
 k_115 v_117 L_104) L_104 fun t60_114 L_116 =>
 W.grd t58_113 false (fun k_119 => W.call Try.prog (.fn 43 []) [(slotOf [2, 3, 4, 6] vs_46 3), t60_114] L_116 fun v_121 L_122 =>
 k_119 v_121 L_122) L_116 fun t61_118 L_120 =>
 W.grd t58_113 false (fun k_124 => W.un .not t61_118 fun v_126 =>
 k_124 v_126 L_120) L_120 fun t62_123 L_125 =>
 W.pick t58_113 (.bool true) t62_123 fun t63_127 =>
 W.cond t63_127 (
 W.build [(.int .i64 0), .nils, .nils, (.int .i64 0)] [] fun t64_128 =>
 W.store 4 (slotOf [2, 3, 4, 6] vs_46 4) t64_128 L_125 fun L_129 =>
 W.load true 4 (slotOf [2, 3, 4, 6] vs_46 4) L_129 fun r_130 =>
 Q (.tup [r_130, (.bool false)]) L_129) (
 W.bin Try.prog Fl .add 3 (slotOf [2, 3, 4, 6] vs_46 6) (.int .i64 1) fun t26_131 =>
 nx_47 [(slotOf [2, 3, 4, 6] vs_46 2), (slotOf [2, 3, 4, 6] vs_46 3), (slotOf [2, 3, 4, 6] vs_46 4), t26_131] L_125)))
def silent_Settle_c1 (t3_2 : AV) (Q : AV → SH → Prop) (t2_6 : AV) (t4_4 : AV) (t24_43 : AV) (L_44 : SH) : Prop :=
 W.store 4 t3_2 t24_43 L_44 fun L_45 =>
 W.loop (silent_Settle_l0 Q) [t2_6, t3_2, t4_4, (.int .i64 0)] L_45
def silent_Settle_w (t0 t1 : AV) (L : SH) (Q : AV → SH → Prop) : Prop :=
 W.box t0 L fun t2_0 L_1 =>
 W.box t1 L_1 fun t3_2 L_3 =>
 W.alloc [(.int .i64 0), .nils, .nils, (.int .i64 0)] L_3 fun t4_4 L_5 =>
 W.frz1 t2_0 L_5 fun t2_6 L_7 =>
 W.faddr 1 t3_2 fun t8_8 =>
 W.load false 1 t8_8 L_7 fun t9_9 =>
 W.len t9_9 fun t10_10 =>
 W.faddr 0 t2_6 fun t11_11 =>
 W.load false 1 t11_11 L_7 fun t12_12 =>
 W.bin Try.prog Fl .neq 3 t10_10 t12_12 fun t13_13 =>
 W.grd t13_13 false (fun k_15 => W.faddr 2 t3_2 fun v_17 =>
 k_15 v_17 L_7) L_7 fun t15_14 L_16 =>
 W.grd t13_13 false (fun k_19 => W.load false 1 t15_14 L_16 fun v_21 =>
 k_19 v_21 L_16) L_16 fun t16_18 L_20 =>
 W.grd t13_13 false (fun k_23 => W.len t16_18 fun v_25 =>
 k_23 v_25 L_20) L_20 fun t17_22 L_24 =>
 W.grd t13_13 false (fun k_27 => W.faddr 0 t2_6 fun v_29 =>
 k_27 v_29 L_24) L_24 fun t18_26 L_28 =>
 W.grd t13_13 false (fun k_31 => W.load false 1 t18_26 L_28 fun v_33 =>
 k_31 v_33 L_28) L_28 fun t19_30 L_32 =>
 W.grd t13_13 false (fun k_35 => W.bin Try.prog Fl .neq 3 t17_22 t19_30 fun v_37 =>
 k_35 v_37 L_32) L_32 fun t20_34 L_36 =>
 W.pick t13_13 (.bool true) t20_34 fun t21_38 =>
 W.cond t21_38 (
 W.build [(.int .i64 0), .nils, .nils, (.int .i64 0)] [] fun t22_39 =>
 W.store 4 t4_4 t22_39 L_36 fun L_40 =>
 W.load true 4 t4_4 L_40 fun r_41 =>
 Q (.tup [r_41, (.bool false)]) L_40) (
 W.load true 4 t3_2 L_36 fun t23_42 =>
 W.call Try.prog (.fn 42 []) [t23_42] L_36 (silent_Settle_c1 t3_2 Q t2_6 t4_4))
theorem silent_Settle_e (t0 t1 : AV) (L : SH) (Q : AV → SH → Prop) : W.func Try.prog Fl silent_Settle_t Try.f16 (Try.f16.body.getD .skip) [t0, t1] L Q = silent_Settle_w t0 t1 L Q := by kernel_rfl
theorem silent_Settle_ok (t0 t1 : AV) (L : SH) (Q : AV → SH → Prop) (h : silent_Settle_w t0 t1 L Q) : CallA Try.prog 16 [t0, t1] L Q :=
  func_sound (ht := silent_Settle_t) fit Try.func16 (show Try.f16.body = some (Try.f16.body.getD .skip) by kernel_rfl) (Eq.mpr (silent_Settle_e t0 t1 L Q) h)

/- interleave/silent.clone -/
def silent_clone_t : Hints := ⟨fun k => none, fun k => if k = 4 then [1, 2, 3, 15, 16, 17] else [], fun k => [], fun k => []⟩
def silent_clone_c0 (vs_18 : List AV) (nx_19 : W.Kn) (t25_24 : AV) (L_25 : SH) : Prop :=
 W.idx 1 (slotOf [1, 2, 3, 15, 16, 17] vs_18 3) (slotOf [1, 2, 3, 15, 16, 17] vs_18 17) L_25 fun t26_26 =>
 W.store 1 t26_26 t25_24 L_25 fun L_27 =>
 W.bin Try.prog Fl .add 3 (slotOf [1, 2, 3, 15, 16, 17] vs_18 17) (.int .i64 1) fun t27_28 =>
 nx_19 [(slotOf [1, 2, 3, 15, 16, 17] vs_18 1), (slotOf [1, 2, 3, 15, 16, 17] vs_18 2), (slotOf [1, 2, 3, 15, 16, 17] vs_18 3), (slotOf [1, 2, 3, 15, 16, 17] vs_18 15), (slotOf [1, 2, 3, 15, 16, 17] vs_18 16), t27_28] L_27
def silent_clone_l1 (Q : AV → SH → Prop) (vs_18 : List AV) (L_20 : SH) (nx_19 : W.Kn) : Prop :=
 W.bin Try.prog Fl .lss 3 (slotOf [1, 2, 3, 15, 16, 17] vs_18 17) (slotOf [1, 2, 3, 15, 16, 17] vs_18 16) fun t18_21 =>
 W.cond t18_21 (
 W.idx 1 (slotOf [1, 2, 3, 15, 16, 17] vs_18 15) (slotOf [1, 2, 3, 15, 16, 17] vs_18 17) L_20 fun t20_22 =>
 W.load false 1 t20_22 L_20 fun t21_23 =>
 W.call Try.prog (.fn 68 []) [t21_23] L_20 (silent_clone_c0 vs_18 nx_19)) (
 W.faddr 2 (slotOf [1, 2, 3, 15, 16, 17] vs_18 1) fun t29_29 =>
 W.store 1 t29_29 (slotOf [1, 2, 3, 15, 16, 17] vs_18 3) L_20 fun L_30 =>
 W.load true 4 (slotOf [1, 2, 3, 15, 16, 17] vs_18 1) L_30 fun t30_31 =>
 W.store 4 (slotOf [1, 2, 3, 15, 16, 17] vs_18 2) t30_31 L_30 fun L_32 =>
 W.load true 4 (slotOf [1, 2, 3, 15, 16, 17] vs_18 2) L_32 fun r_33 =>
 Q r_33 L_32)
def silent_clone_c2 (t1_0 : AV) (Q : AV → SH → Prop) (t2_2 : AV) (t8_6 : AV) (L_7 : SH) : Prop :=
 W.faddr 1 t1_0 fun t9_8 =>
 W.store 1 t9_8 t8_6 L_7 fun L_9 =>
 W.faddr 2 t1_0 fun t10_10 =>
 W.load false 1 t10_10 L_9 fun t11_11 =>
 W.len t11_11 fun t12_12 =>
 W.mslice 1 24 [.nils] t12_12 t12_12 L_9 fun t13_13 L_14 =>
 W.faddr 2 t1_0 fun t14_15 =>
 W.load false 1 t14_15 L_14 fun t15_16 =>
 W.len t15_16 fun t16_17 =>
 W.loop (silent_clone_l1 Q) [t1_0, t2_2, t13_13, t15_16, t16_17, (.int .i64 0)] L_14
def silent_clone_w (t0 : AV) (L : SH) (Q : AV → SH → Prop) : Prop :=
 W.box t0 L fun t1_0 L_1 =>
 W.alloc [(.int .i64 0), .nils, .nils, (.int .i64 0)] L_1 fun t2_2 L_3 =>
 W.faddr 1 t1_0 fun t6_4 =>
 W.load false 1 t6_4 L_3 fun t7_5 =>
 W.call Try.prog (.fn 67 []) [t7_5] L_3 (silent_clone_c2 t1_0 Q t2_2)
theorem silent_clone_e (t0 : AV) (L : SH) (Q : AV → SH → Prop) : W.func Try.prog Fl silent_clone_t Try.f42 (Try.f42.body.getD .skip) [t0] L Q = silent_clone_w t0 L Q := by kernel_rfl
theorem silent_clone_ok (t0 : AV) (L : SH) (Q : AV → SH → Prop) (h : silent_clone_w t0 L Q) : CallA Try.prog 42 [t0] L Q :=
  func_sound (ht := silent_clone_t) fit Try.func42 (show Try.f42.body = some (Try.f42.body.getD .skip) by kernel_rfl) (Eq.mpr (silent_clone_e t0 L Q) h)

/- interleave/silent.execute -/
def silent_execute_t : Hints := ⟨fun k => if k = 24 then some [2, 4, 6] else none, fun k => [], fun k => if k = 0 then [3] else [], fun k => if k = 7 then [0, 1, 3, 7, 0, 16, 0, 64, 192, 448, 0, 1024, 0, 4096, 13311, 29695, 65535, 131071] else if k = 11 then [0, 1, 3, 7, 0, 16, 0, 64, 192, 448, 0, 1024, 0, 4096, 12288, 28672, 0, 65536, 258048, 520192, 0, 1048576, 3145728, 7340032, 0, 16777216, 66060288, 133169152, 267386880, 536867839, 1073738751, 2147483647, 4294967295] else if k = 15 then [0, 1, 3, 7, 0, 16, 0, 64, 0, 256, 768, 1792, 0, 4096, 16128, 32512, 65472, 131008, 262080, 262080, 524287, 1572863, 4194303] else if k = 16 then [0, 1, 3, 7, 0, 16, 0, 64, 192, 448, 0, 1024, 4032, 8128, 16320, 32767, 65535] else if k = 20 then [0, 1, 3, 7, 0, 16, 0, 64, 0, 256, 768, 1792, 0, 4096, 16128, 32512, 0, 65536, 196608, 458752, 0, 1048576, 4128768, 8323072, 16777152, 33554368, 67108800, 67108800, 134217727, 402653183, 1073741823] else if k = 21 then [0, 1, 3, 7, 0, 16, 0, 64, 192, 448, 0, 1024, 4032, 8128, 0, 16384, 49152, 114688, 0, 262144, 1032192, 2080768, 4194240, 8388607, 16777215] else []⟩
def silent_execute_j0 (Q : AV → SH → Prop) (vs_6 : List AV) (L_8 : SH) : Prop :=
 W.load false 1 (slotOf [2, 4, 6] vs_6 2) L_8 fun t210_9 =>
 W.nilchk t210_9 fun t211_10 =>
 W.faddr 0 t211_10 fun t212_11 =>
 W.load false 1 t212_11 L_8 fun t213_12 =>
 W.bin Try.prog Fl .add 3 t213_12 (.int .i64 1) fun t214_13 =>
 W.nilchk t210_9 fun t215_14 =>
 W.faddr 0 t215_14 fun t216_15 =>
 W.store 1 t216_15 t214_13 L_8 fun L_16 =>
 Q (slotOf [2, 4, 6] vs_6 6) L_16
def silent_execute_c1 (Q : AV → SH → Prop) (t2_0 : AV) (t3_4 : AV) (j_7 : W.Kn) (t15_22 : AV) (L_23 : SH) : Prop :=
 W.un .not t15_22 fun t16_24 =>
 W.cond t16_24 (
 Q (.bool false) L_23) (
 (true = true) ∧ (
 W.calm [] ⟨0, (blocksOf t2_0), [], [], false, []⟩ (
 W.load false 1 t2_0 L_23 fun t17_25 =>
 W.note ⟨(blocksOf t2_0), [], [], []⟩ fun r_26 =>
 W.nilchk t17_25 fun t18_27 =>
 W.faddr 1 t18_27 fun t19_28 =>
 W.calm [] ⟨3, (blocksOf t19_28), [], [], false, []⟩ (
 W.load false 1 t19_28 L_23 fun t20_29 =>
 W.note ⟨(blocksOf t19_28), [], [], []⟩ fun r_30 =>
 W.faddr 1 t3_4 fun t21_31 =>
 W.calm [⟨3, r_30.reads, r_30.writes, r_30.made, false, r_30.old⟩, ⟨0, r_26.reads, r_26.writes, r_26.made, false, r_26.old⟩] ⟨5, (blocksOf t21_31), [], [], false, []⟩ (
 W.load false 1 t21_31 L_23 fun t22_32 =>
 W.note ⟨(blocksOf t21_31), [], [], []⟩ fun r_33 =>
 W.calm [⟨5, r_33.reads, r_33.writes, r_33.made, false, r_33.old⟩, ⟨3, r_30.reads, r_30.writes, r_30.made, false, r_30.old⟩, ⟨0, r_26.reads, r_26.writes, r_26.made, false, r_26.old⟩] ⟨6, (blocksOf t2_0), [], [], false, []⟩ (
 W.load false 1 t2_0 L_23 fun t23_34 =>
 W.note ⟨(blocksOf t2_0), [], [], []⟩ fun r_35 =>
 W.nilchk t23_34 fun t24_36 =>
 W.faddr 2 t24_36 fun t25_37 =>
 W.calm [⟨5, r_33.reads, r_33.writes, r_33.made, false, r_33.old⟩, ⟨3, r_30.reads, r_30.writes, r_30.made, false, r_30.old⟩, ⟨0, r_26.reads, r_26.writes, r_26.made, false, r_26.old⟩] ⟨9, (blocksOf t25_37), [], [], false, []⟩ (
 W.load false 1 t25_37 L_23 fun t26_38 =>
 W.note ⟨(blocksOf t25_37), [], [], []⟩ fun r_39 =>
 W.faddr 1 t3_4 fun t27_40 =>
 W.calm [⟨9, r_39.reads, r_39.writes, r_39.made, false, r_39.old⟩, ⟨6, r_35.reads, r_35.writes, r_35.made, false, r_35.old⟩, ⟨5, r_33.reads, r_33.writes, r_33.made, false, r_33.old⟩, ⟨3, r_30.reads, r_30.writes, r_30.made, false, r_30.old⟩, ⟨0, r_26.reads, r_26.writes, r_26.made, false, r_26.old⟩] ⟨11, (blocksOf t27_40), [], [], false, []⟩ (
 W.load false 1 t27_40 L_23 fun t28_41 =>
 W.note ⟨(blocksOf t27_40), [], [], []⟩ fun r_42 =>
 W.faddr 4 t3_4 fun t29_43 =>
 W.calm [⟨11, r_42.reads, r_42.writes, r_42.made, false, r_42.old⟩, ⟨9, r_39.reads, r_39.writes, r_39.made, false, r_39.old⟩, ⟨6, r_35.reads, r_35.writes, r_35.made, false, r_35.old⟩, ⟨5, r_33.reads, r_33.writes, r_33.made, false, r_33.old⟩, ⟨3, r_30.reads, r_30.writes, r_30.made, false, r_30.old⟩, ⟨0, r_26.reads, r_26.writes, r_26.made, false, r_26.old⟩] ⟨13, (blocksOf t29_43), [], [], false, []⟩ (
 W.load false 1 t29_43 L_23 fun t30_44 =>
 W.note ⟨(blocksOf t29_43), [], [], []⟩ fun r_45 =>
 W.calm [⟨11, r_42.reads, r_42.writes, r_42.made, false, r_42.old⟩] ⟨14, (slOf t20_29), [], [], false, []⟩ (
 W.idx 1 t20_29 t22_32 L_23 fun t31_46 =>
 W.note ⟨(slOf t20_29), [], [], []⟩ fun r_47 =>
 W.calm [⟨11, r_42.reads, r_42.writes, r_42.made, false, r_42.old⟩] ⟨15, (blocksOf t31_46), (blocksOf t31_46), [], false, []⟩ (
 W.store 1 t31_46 t30_44 L_23 fun L_48 =>
 W.note ⟨(blocksOf t31_46), (blocksOf t31_46), [], []⟩ fun r_49 =>
 W.calm [] ⟨16, (slOf t26_38), [], [], false, []⟩ (
 W.idx 1 t26_38 t28_41 L_48 fun t32_50 =>
 W.note ⟨(slOf t26_38), [], [], []⟩ fun r_51 =>
 W.calm [] ⟨17, (blocksOf t32_50), (blocksOf t32_50), [], false, []⟩ (
 W.store 1 t32_50 .nils L_48 fun L_52 =>
 W.note ⟨(blocksOf t32_50), (blocksOf t32_50), [], []⟩ fun r_53 =>
 j_7 [t2_0, (.bool false), (.bool true)] L_52)))))))))))))
def silent_execute_d2 (L_78 : SH) (r_98 : W.Fp) (t50_85 : AV) (t52_88 : AV) (t66_110 : AV) (t56_94 : AV) (t58_97 : AV) (j_7 : W.Kn) (t2_0 : AV) (t75_125 : AV) (L_127 : SH) (ks_126 : List Nat) : Prop :=
 W.note ⟨[], ks_126, [], L_78.names⟩ fun r_128 =>
 W.calm [⟨11, r_98.reads, r_98.writes, r_98.made, false, r_98.old⟩] ⟨29, (slOf t50_85), [], [], false, []⟩ (
 W.idx 1 t50_85 t52_88 L_127 fun t76_129 =>
 W.note ⟨(slOf t50_85), [], [], []⟩ fun r_130 =>
 W.calm [⟨11, r_98.reads, r_98.writes, r_98.made, false, r_98.old⟩] ⟨30, (blocksOf t76_129), (blocksOf t76_129), [], false, []⟩ (
 W.store 1 t76_129 t66_110 L_127 fun L_131 =>
 W.note ⟨(blocksOf t76_129), (blocksOf t76_129), [], []⟩ fun r_132 =>
 W.calm [] ⟨31, (slOf t56_94), [], [], false, []⟩ (
 W.idx 1 t56_94 t58_97 L_131 fun t77_133 =>
 W.note ⟨(slOf t56_94), [], [], []⟩ fun r_134 =>
 W.calm [] ⟨32, (blocksOf t77_133), (blocksOf t77_133), [], false, []⟩ (
 W.store 1 t77_133 t75_125 L_131 fun L_135 =>
 W.note ⟨(blocksOf t77_133), (blocksOf t77_133), [], []⟩ fun r_136 =>
 j_7 [t2_0, (.bool false), (.bool true)] L_135))))
def silent_execute_c3 (t2_0 : AV) (t3_4 : AV) (Q : AV → SH → Prop) (j_7 : W.Kn) (t38_57 : AV) (L_58 : SH) : Prop :=
 W.un .not t38_57 fun t39_59 =>
 W.grd t39_59 false (fun k_61 => k_61 (.fn 69 [t2_0]) L_58) L_58 fun t41_60 L_62 =>
 W.grd t39_59 false (fun k_64 => W.faddr 2 t3_4 fun v_66 =>
 k_64 v_66 L_62) L_62 fun t42_63 L_65 =>
 W.grd t39_59 false (fun k_68 => W.load false 1 t42_63 L_65 fun v_70 =>
 k_68 v_70 L_65) L_65 fun t43_67 L_69 =>
 W.grd t39_59 false (fun k_72 => W.call Try.prog t41_60 [t43_67] L_69 fun v_74 L_75 =>
 k_72 v_74 L_75) L_69 fun t44_71 L_73 =>
 W.grd t39_59 false (fun k_77 => W.un .not t44_71 fun v_79 =>
 k_77 v_79 L_73) L_73 fun t45_76 L_78 =>
 W.pick t39_59 (.bool true) t45_76 fun t46_80 =>
 W.cond t46_80 (
 Q (.bool false) L_78) (
 (true = true) ∧ (
 W.calm [] ⟨0, (blocksOf t2_0), [], [], false, []⟩ (
 W.load false 1 t2_0 L_78 fun t47_81 =>
 W.note ⟨(blocksOf t2_0), [], [], []⟩ fun r_82 =>
 W.nilchk t47_81 fun t48_83 =>
 W.faddr 1 t48_83 fun t49_84 =>
 W.calm [] ⟨3, (blocksOf t49_84), [], [], false, []⟩ (
 W.load false 1 t49_84 L_78 fun t50_85 =>
 W.note ⟨(blocksOf t49_84), [], [], []⟩ fun r_86 =>
 W.faddr 1 t3_4 fun t51_87 =>
 W.calm [⟨3, r_86.reads, r_86.writes, r_86.made, false, r_86.old⟩, ⟨0, r_82.reads, r_82.writes, r_82.made, false, r_82.old⟩] ⟨5, (blocksOf t51_87), [], [], false, []⟩ (
 W.load false 1 t51_87 L_78 fun t52_88 =>
 W.note ⟨(blocksOf t51_87), [], [], []⟩ fun r_89 =>
 W.calm [⟨5, r_89.reads, r_89.writes, r_89.made, false, r_89.old⟩, ⟨3, r_86.reads, r_86.writes, r_86.made, false, r_86.old⟩, ⟨0, r_82.reads, r_82.writes, r_82.made, false, r_82.old⟩] ⟨6, (blocksOf t2_0), [], [], false, []⟩ (
 W.load false 1 t2_0 L_78 fun t53_90 =>
 W.note ⟨(blocksOf t2_0), [], [], []⟩ fun r_91 =>
 W.nilchk t53_90 fun t54_92 =>
 W.faddr 2 t54_92 fun t55_93 =>
 W.calm [⟨5, r_89.reads, r_89.writes, r_89.made, false, r_89.old⟩, ⟨3, r_86.reads, r_86.writes, r_86.made, false, r_86.old⟩, ⟨0, r_82.reads, r_82.writes, r_82.made, false, r_82.old⟩] ⟨9, (blocksOf t55_93), [], [], false, []⟩ (
 W.load false 1 t55_93 L_78 fun t56_94 =>
 W.note ⟨(blocksOf t55_93), [], [], []⟩ fun r_95 =>
 W.faddr 1 t3_4 fun t57_96 =>
 W.calm [⟨9, r_95.reads, r_95.writes, r_95.made, false, r_95.old⟩, ⟨6, r_91.reads, r_91.writes, r_91.made, false, r_91.old⟩, ⟨5, r_89.reads, r_89.writes, r_89.made, false, r_89.old⟩, ⟨3, r_86.reads, r_86.writes, r_86.made, false, r_86.old⟩, ⟨0, r_82.reads, r_82.writes, r_82.made, false, r_82.old⟩] ⟨11, (blocksOf t57_96), [], [], false, []⟩ (
 W.load false 1 t57_96 L_78 fun t58_97 =>
 W.note ⟨(blocksOf t57_96), [], [], []⟩ fun r_98 =>
 W.calm [⟨11, r_98.reads, r_98.writes, r_98.made, false, r_98.old⟩, ⟨9, r_95.reads, r_95.writes, r_95.made, false, r_95.old⟩, ⟨6, r_91.reads, r_91.writes, r_91.made, false, r_91.old⟩, ⟨5, r_89.reads, r_89.writes, r_89.made, false, r_89.old⟩, ⟨3, r_86.reads, r_86.writes, r_86.made, false, r_86.old⟩, ⟨0, r_82.reads, r_82.writes, r_82.made, false, r_82.old⟩] ⟨12, (blocksOf t2_0), [], [], false, []⟩ (
 W.load false 1 t2_0 L_78 fun t59_99 =>
 W.note ⟨(blocksOf t2_0), [], [], []⟩ fun r_100 =>
 W.nilchk t59_99 fun t60_101 =>
 W.faddr 1 t60_101 fun t61_102 =>
 W.calm [⟨11, r_98.reads, r_98.writes, r_98.made, false, r_98.old⟩, ⟨9, r_95.reads, r_95.writes, r_95.made, false, r_95.old⟩, ⟨6, r_91.reads, r_91.writes, r_91.made, false, r_91.old⟩, ⟨5, r_89.reads, r_89.writes, r_89.made, false, r_89.old⟩, ⟨3, r_86.reads, r_86.writes, r_86.made, false, r_86.old⟩, ⟨0, r_82.reads, r_82.writes, r_82.made, false, r_82.old⟩] ⟨15, (blocksOf t61_102), [], [], false, []⟩ (
 W.load false 1 t61_102 L_78 fun t62_103 =>
 W.note ⟨(blocksOf t61_102), [], [], []⟩ fun r_104 =>
 W.faddr 2 t3_4 fun t63_105 =>
 W.calm [⟨15, r_104.reads, r_104.writes, r_104.made, false, r_104.old⟩, ⟨12, r_100.reads, r_100.writes, r_100.made, false, r_100.old⟩, ⟨11, r_98.reads, r_98.writes, r_98.made, false, r_98.old⟩, ⟨9, r_95.reads, r_95.writes, r_95.made, false, r_95.old⟩, ⟨6, r_91.reads, r_91.writes, r_91.made, false, r_91.old⟩, ⟨5, r_89.reads, r_89.writes, r_89.made, false, r_89.old⟩, ⟨3, r_86.reads, r_86.writes, r_86.made, false, r_86.old⟩, ⟨0, r_82.reads, r_82.writes, r_82.made, false, r_82.old⟩] ⟨17, (blocksOf t63_105), [], [], false, []⟩ (
 W.load false 1 t63_105 L_78 fun t64_106 =>
 W.note ⟨(blocksOf t63_105), [], [], []⟩ fun r_107 =>
 W.calm [⟨11, r_98.reads, r_98.writes, r_98.made, false, r_98.old⟩, ⟨9, r_95.reads, r_95.writes, r_95.made, false, r_95.old⟩, ⟨6, r_91.reads, r_91.writes, r_91.made, false, r_91.old⟩, ⟨5, r_89.reads, r_89.writes, r_89.made, false, r_89.old⟩, ⟨3, r_86.reads, r_86.writes, r_86.made, false, r_86.old⟩, ⟨0, r_82.reads, r_82.writes, r_82.made, false, r_82.old⟩] ⟨18, (slOf t62_103), [], [], false, []⟩ (
 W.idx 1 t62_103 t64_106 L_78 fun t65_108 =>
 W.note ⟨(slOf t62_103), [], [], []⟩ fun r_109 =>
 W.calm [⟨11, r_98.reads, r_98.writes, r_98.made, false, r_98.old⟩, ⟨9, r_95.reads, r_95.writes, r_95.made, false, r_95.old⟩, ⟨6, r_91.reads, r_91.writes, r_91.made, false, r_91.old⟩, ⟨5, r_89.reads, r_89.writes, r_89.made, false, r_89.old⟩, ⟨3, r_86.reads, r_86.writes, r_86.made, false, r_86.old⟩, ⟨0, r_82.reads, r_82.writes, r_82.made, false, r_82.old⟩] ⟨19, (blocksOf t65_108), [], [], false, []⟩ (
 W.load false 1 t65_108 L_78 fun t66_110 =>
 W.note ⟨(blocksOf t65_108), [], [], []⟩ fun r_111 =>
 W.calm [⟨19, r_111.reads, r_111.writes, r_111.made, false, r_111.old⟩, ⟨18, r_109.reads, r_109.writes, r_109.made, false, r_109.old⟩, ⟨17, r_107.reads, r_107.writes, r_107.made, false, r_107.old⟩, ⟨15, r_104.reads, r_104.writes, r_104.made, false, r_104.old⟩, ⟨12, r_100.reads, r_100.writes, r_100.made, false, r_100.old⟩, ⟨11, r_98.reads, r_98.writes, r_98.made, false, r_98.old⟩, ⟨9, r_95.reads, r_95.writes, r_95.made, false, r_95.old⟩, ⟨6, r_91.reads, r_91.writes, r_91.made, false, r_91.old⟩, ⟨5, r_89.reads, r_89.writes, r_89.made, false, r_89.old⟩, ⟨3, r_86.reads, r_86.writes, r_86.made, false, r_86.old⟩, ⟨0, r_82.reads, r_82.writes, r_82.made, false, r_82.old⟩] ⟨20, (blocksOf t2_0), [], [], false, []⟩ (
 W.load false 1 t2_0 L_78 fun t67_112 =>
 W.note ⟨(blocksOf t2_0), [], [], []⟩ fun r_113 =>
 W.nilchk t67_112 fun t68_114 =>
 W.faddr 2 t68_114 fun t69_115 =>
 W.calm [⟨19, r_111.reads, r_111.writes, r_111.made, false, r_111.old⟩, ⟨18, r_109.reads, r_109.writes, r_109.made, false, r_109.old⟩, ⟨17, r_107.reads, r_107.writes, r_107.made, false, r_107.old⟩, ⟨15, r_104.reads, r_104.writes, r_104.made, false, r_104.old⟩, ⟨12, r_100.reads, r_100.writes, r_100.made, false, r_100.old⟩, ⟨11, r_98.reads, r_98.writes, r_98.made, false, r_98.old⟩, ⟨9, r_95.reads, r_95.writes, r_95.made, false, r_95.old⟩, ⟨6, r_91.reads, r_91.writes, r_91.made, false, r_91.old⟩, ⟨5, r_89.reads, r_89.writes, r_89.made, false, r_89.old⟩, ⟨3, r_86.reads, r_86.writes, r_86.made, false, r_86.old⟩, ⟨0, r_82.reads, r_82.writes, r_82.made, false, r_82.old⟩] ⟨23, (blocksOf t69_115), [], [], false, []⟩ (
 W.load false 1 t69_115 L_78 fun t70_116 =>
 W.note ⟨(blocksOf t69_115), [], [], []⟩ fun r_117 =>
 W.faddr 2 t3_4 fun t71_118 =>
 W.calm [⟨23, r_117.reads, r_117.writes, r_117.made, false, r_117.old⟩, ⟨20, r_113.reads, r_113.writes, r_113.made, false, r_113.old⟩, ⟨19, r_111.reads, r_111.writes, r_111.made, false, r_111.old⟩, ⟨18, r_109.reads, r_109.writes, r_109.made, false, r_109.old⟩, ⟨17, r_107.reads, r_107.writes, r_107.made, false, r_107.old⟩, ⟨15, r_104.reads, r_104.writes, r_104.made, false, r_104.old⟩, ⟨12, r_100.reads, r_100.writes, r_100.made, false, r_100.old⟩, ⟨11, r_98.reads, r_98.writes, r_98.made, false, r_98.old⟩, ⟨9, r_95.reads, r_95.writes, r_95.made, false, r_95.old⟩, ⟨6, r_91.reads, r_91.writes, r_91.made, false, r_91.old⟩, ⟨5, r_89.reads, r_89.writes, r_89.made, false, r_89.old⟩, ⟨3, r_86.reads, r_86.writes, r_86.made, false, r_86.old⟩, ⟨0, r_82.reads, r_82.writes, r_82.made, false, r_82.old⟩] ⟨25, (blocksOf t71_118), [], [], false, []⟩ (
 W.load false 1 t71_118 L_78 fun t72_119 =>
 W.note ⟨(blocksOf t71_118), [], [], []⟩ fun r_120 =>
 W.calm [⟨19, r_111.reads, r_111.writes, r_111.made, false, r_111.old⟩, ⟨18, r_109.reads, r_109.writes, r_109.made, false, r_109.old⟩, ⟨17, r_107.reads, r_107.writes, r_107.made, false, r_107.old⟩, ⟨15, r_104.reads, r_104.writes, r_104.made, false, r_104.old⟩, ⟨12, r_100.reads, r_100.writes, r_100.made, false, r_100.old⟩, ⟨11, r_98.reads, r_98.writes, r_98.made, false, r_98.old⟩, ⟨9, r_95.reads, r_95.writes, r_95.made, false, r_95.old⟩, ⟨6, r_91.reads, r_91.writes, r_91.made, false, r_91.old⟩, ⟨5, r_89.reads, r_89.writes, r_89.made, false, r_89.old⟩, ⟨3, r_86.reads, r_86.writes, r_86.made, false, r_86.old⟩, ⟨0, r_82.reads, r_82.writes, r_82.made, false, r_82.old⟩] ⟨26, (slOf t70_116), [], [], false, []⟩ (
 W.idx 1 t70_116 t72_119 L_78 fun t73_121 =>
 W.note ⟨(slOf t70_116), [], [], []⟩ fun r_122 =>
 W.calm [⟨19, r_111.reads, r_111.writes, r_111.made, false, r_111.old⟩, ⟨18, r_109.reads, r_109.writes, r_109.made, false, r_109.old⟩, ⟨17, r_107.reads, r_107.writes, r_107.made, false, r_107.old⟩, ⟨15, r_104.reads, r_104.writes, r_104.made, false, r_104.old⟩, ⟨12, r_100.reads, r_100.writes, r_100.made, false, r_100.old⟩, ⟨11, r_98.reads, r_98.writes, r_98.made, false, r_98.old⟩, ⟨9, r_95.reads, r_95.writes, r_95.made, false, r_95.old⟩, ⟨6, r_91.reads, r_91.writes, r_91.made, false, r_91.old⟩, ⟨5, r_89.reads, r_89.writes, r_89.made, false, r_89.old⟩, ⟨3, r_86.reads, r_86.writes, r_86.made, false, r_86.old⟩, ⟨0, r_82.reads, r_82.writes, r_82.made, false, r_82.old⟩] ⟨27, (blocksOf t73_121), [], [], false, []⟩ (
 W.load false 1 t73_121 L_78 fun t74_123 =>
 W.note ⟨(blocksOf t73_121), [], [], []⟩ fun r_124 =>
 W.dcall Try.prog [⟨19, r_111.reads, r_111.writes, r_111.made, false, r_111.old⟩, ⟨18, r_109.reads, r_109.writes, r_109.made, false, r_109.old⟩, ⟨17, r_107.reads, r_107.writes, r_107.made, false, r_107.old⟩, ⟨15, r_104.reads, r_104.writes, r_104.made, false, r_104.old⟩, ⟨12, r_100.reads, r_100.writes, r_100.made, false, r_100.old⟩, ⟨11, r_98.reads, r_98.writes, r_98.made, false, r_98.old⟩, ⟨9, r_95.reads, r_95.writes, r_95.made, false, r_95.old⟩, ⟨6, r_91.reads, r_91.writes, r_91.made, false, r_91.old⟩, ⟨5, r_89.reads, r_89.writes, r_89.made, false, r_89.old⟩, ⟨3, r_86.reads, r_86.writes, r_86.made, false, r_86.old⟩, ⟨0, r_82.reads, r_82.writes, r_82.made, false, r_82.old⟩] 28 (.fn 68 []) [t74_123] L_78 (silent_execute_d2 L_78 r_98 t50_85 t52_88 t66_110 t56_94 t58_97 j_7 t2_0)))))))))))))))))))
def silent_execute_d4 (L_197 : SH) (t116_203 : AV) (t118_206 : AV) (j_7 : W.Kn) (t2_0 : AV) (t111_194 : AV) (t127_221 : AV) (L_223 : SH) (ks_222 : List Nat) : Prop :=
 W.note ⟨[], ks_222, [], L_197.names⟩ fun r_224 =>
 W.calm [] ⟨15, (slOf t116_203), [], [], false, []⟩ (
 W.idx 1 t116_203 t118_206 L_223 fun t128_225 =>
 W.note ⟨(slOf t116_203), [], [], []⟩ fun r_226 =>
 W.calm [] ⟨16, (blocksOf t128_225), (blocksOf t128_225), [], false, []⟩ (
 W.store 1 t128_225 t127_221 L_223 fun L_227 =>
 W.note ⟨(blocksOf t128_225), (blocksOf t128_225), [], []⟩ fun r_228 =>
 j_7 [t2_0, (.bool false), t111_194] L_227))
def silent_execute_d5 (L_161 : SH) (t96_168 : AV) (t98_171 : AV) (t2_0 : AV) (t3_4 : AV) (j_7 : W.Kn) (t109_189 : AV) (L_191 : SH) (ks_190 : List Nat) : Prop :=
 W.note ⟨[], ks_190, [], L_161.names⟩ fun r_192 =>
 W.ext 0 t109_189 fun t110_193 =>
 W.ext 1 t109_189 fun t111_194 =>
 W.calm [] ⟨20, (slOf t96_168), [], [], false, []⟩ (
 W.idx 1 t96_168 t98_171 L_191 fun t112_195 =>
 W.note ⟨(slOf t96_168), [], [], []⟩ fun r_196 =>
 W.calm [] ⟨21, (blocksOf t112_195), (blocksOf t112_195), [], false, []⟩ (
 W.store 1 t112_195 t110_193 L_191 fun L_197 =>
 W.note ⟨(blocksOf t112_195), (blocksOf t112_195), [], []⟩ fun r_198 =>
 (true = true) ∧ (
 W.calm [] ⟨0, (blocksOf t2_0), [], [], false, []⟩ (
 W.load false 1 t2_0 L_197 fun t113_199 =>
 W.note ⟨(blocksOf t2_0), [], [], []⟩ fun r_200 =>
 W.nilchk t113_199 fun t114_201 =>
 W.faddr 2 t114_201 fun t115_202 =>
 W.calm [] ⟨3, (blocksOf t115_202), [], [], false, []⟩ (
 W.load false 1 t115_202 L_197 fun t116_203 =>
 W.note ⟨(blocksOf t115_202), [], [], []⟩ fun r_204 =>
 W.faddr 1 t3_4 fun t117_205 =>
 W.calm [⟨3, r_204.reads, r_204.writes, r_204.made, false, r_204.old⟩, ⟨0, r_200.reads, r_200.writes, r_200.made, false, r_200.old⟩] ⟨5, (blocksOf t117_205), [], [], false, []⟩ (
 W.load false 1 t117_205 L_197 fun t118_206 =>
 W.note ⟨(blocksOf t117_205), [], [], []⟩ fun r_207 =>
 W.calm [⟨5, r_207.reads, r_207.writes, r_207.made, false, r_207.old⟩, ⟨3, r_204.reads, r_204.writes, r_204.made, false, r_204.old⟩, ⟨0, r_200.reads, r_200.writes, r_200.made, false, r_200.old⟩] ⟨6, (blocksOf t2_0), [], [], false, []⟩ (
 W.load false 1 t2_0 L_197 fun t119_208 =>
 W.note ⟨(blocksOf t2_0), [], [], []⟩ fun r_209 =>
 W.nilchk t119_208 fun t120_210 =>
 W.faddr 2 t120_210 fun t121_211 =>
 W.calm [⟨5, r_207.reads, r_207.writes, r_207.made, false, r_207.old⟩, ⟨3, r_204.reads, r_204.writes, r_204.made, false, r_204.old⟩, ⟨0, r_200.reads, r_200.writes, r_200.made, false, r_200.old⟩] ⟨9, (blocksOf t121_211), [], [], false, []⟩ (
 W.load false 1 t121_211 L_197 fun t122_212 =>
 W.note ⟨(blocksOf t121_211), [], [], []⟩ fun r_213 =>
 W.faddr 2 t3_4 fun t123_214 =>
 W.calm [⟨9, r_213.reads, r_213.writes, r_213.made, false, r_213.old⟩, ⟨6, r_209.reads, r_209.writes, r_209.made, false, r_209.old⟩, ⟨5, r_207.reads, r_207.writes, r_207.made, false, r_207.old⟩, ⟨3, r_204.reads, r_204.writes, r_204.made, false, r_204.old⟩, ⟨0, r_200.reads, r_200.writes, r_200.made, false, r_200.old⟩] ⟨11, (blocksOf t123_214), [], [], false, []⟩ (
 W.load false 1 t123_214 L_197 fun t124_215 =>
 W.note ⟨(blocksOf t123_214), [], [], []⟩ fun r_216 =>
 W.calm [⟨5, r_207.reads, r_207.writes, r_207.made, false, r_207.old⟩, ⟨3, r_204.reads, r_204.writes, r_204.made, false, r_204.old⟩, ⟨0, r_200.reads, r_200.writes, r_200.made, false, r_200.old⟩] ⟨12, (slOf t122_212), [], [], false, []⟩ (
 W.idx 1 t122_212 t124_215 L_197 fun t125_217 =>
 W.note ⟨(slOf t122_212), [], [], []⟩ fun r_218 =>
 W.calm [⟨5, r_207.reads, r_207.writes, r_207.made, false, r_207.old⟩, ⟨3, r_204.reads, r_204.writes, r_204.made, false, r_204.old⟩, ⟨0, r_200.reads, r_200.writes, r_200.made, false, r_200.old⟩] ⟨13, (blocksOf t125_217), [], [], false, []⟩ (
 W.load false 1 t125_217 L_197 fun t126_219 =>
 W.note ⟨(blocksOf t125_217), [], [], []⟩ fun r_220 =>
 W.dcall Try.prog [⟨5, r_207.reads, r_207.writes, r_207.made, false, r_207.old⟩, ⟨3, r_204.reads, r_204.writes, r_204.made, false, r_204.old⟩, ⟨0, r_200.reads, r_200.writes, r_200.made, false, r_200.old⟩] 14 (.fn 68 []) [t126_219] L_197 (silent_execute_d4 L_197 t116_203 t118_206 j_7 t2_0 t111_194))))))))))))
def silent_execute_c6 (t2_0 : AV) (t3_4 : AV) (Q : AV → SH → Prop) (j_7 : W.Kn) (t83_140 : AV) (L_141 : SH) : Prop :=
 W.un .not t83_140 fun t84_142 =>
 W.grd t84_142 false (fun k_144 => k_144 (.fn 69 [t2_0]) L_141) L_141 fun t86_143 L_145 =>
 W.grd t84_142 false (fun k_147 => W.faddr 2 t3_4 fun v_149 =>
 k_147 v_149 L_145) L_145 fun t87_146 L_148 =>
 W.grd t84_142 false (fun k_151 => W.load false 1 t87_146 L_148 fun v_153 =>
 k_151 v_153 L_148) L_148 fun t88_150 L_152 =>
 W.grd t84_142 false (fun k_155 => W.call Try.prog t86_143 [t88_150] L_152 fun v_157 L_158 =>
 k_155 v_157 L_158) L_152 fun t89_154 L_156 =>
 W.grd t84_142 false (fun k_160 => W.un .not t89_154 fun v_162 =>
 k_160 v_162 L_156) L_156 fun t90_159 L_161 =>
 W.pick t84_142 (.bool true) t90_159 fun t91_163 =>
 W.cond t91_163 (
 Q (.bool false) L_161) (
 (true = true) ∧ (
 W.calm [] ⟨0, (blocksOf t2_0), [], [], false, []⟩ (
 W.load false 1 t2_0 L_161 fun t93_164 =>
 W.note ⟨(blocksOf t2_0), [], [], []⟩ fun r_165 =>
 W.nilchk t93_164 fun t94_166 =>
 W.faddr 1 t94_166 fun t95_167 =>
 W.calm [] ⟨3, (blocksOf t95_167), [], [], false, []⟩ (
 W.load false 1 t95_167 L_161 fun t96_168 =>
 W.note ⟨(blocksOf t95_167), [], [], []⟩ fun r_169 =>
 W.faddr 1 t3_4 fun t97_170 =>
 W.calm [⟨3, r_169.reads, r_169.writes, r_169.made, false, r_169.old⟩, ⟨0, r_165.reads, r_165.writes, r_165.made, false, r_165.old⟩] ⟨5, (blocksOf t97_170), [], [], false, []⟩ (
 W.load false 1 t97_170 L_161 fun t98_171 =>
 W.note ⟨(blocksOf t97_170), [], [], []⟩ fun r_172 =>
 W.faddr 4 t3_4 fun t99_173 =>
 W.calm [⟨5, r_172.reads, r_172.writes, r_172.made, false, r_172.old⟩, ⟨3, r_169.reads, r_169.writes, r_169.made, false, r_169.old⟩, ⟨0, r_165.reads, r_165.writes, r_165.made, false, r_165.old⟩] ⟨7, (blocksOf t99_173), [], [], false, []⟩ (
 W.load false 1 t99_173 L_161 fun t100_174 =>
 W.note ⟨(blocksOf t99_173), [], [], []⟩ fun r_175 =>
 W.calm [⟨7, r_175.reads, r_175.writes, r_175.made, false, r_175.old⟩, ⟨5, r_172.reads, r_172.writes, r_172.made, false, r_172.old⟩, ⟨3, r_169.reads, r_169.writes, r_169.made, false, r_169.old⟩, ⟨0, r_165.reads, r_165.writes, r_165.made, false, r_165.old⟩] ⟨8, (blocksOf t2_0), [], [], false, []⟩ (
 W.load false 1 t2_0 L_161 fun t101_176 =>
 W.note ⟨(blocksOf t2_0), [], [], []⟩ fun r_177 =>
 W.nilchk t101_176 fun t102_178 =>
 W.faddr 1 t102_178 fun t103_179 =>
 W.calm [⟨7, r_175.reads, r_175.writes, r_175.made, false, r_175.old⟩, ⟨5, r_172.reads, r_172.writes, r_172.made, false, r_172.old⟩, ⟨3, r_169.reads, r_169.writes, r_169.made, false, r_169.old⟩, ⟨0, r_165.reads, r_165.writes, r_165.made, false, r_165.old⟩] ⟨11, (blocksOf t103_179), [], [], false, []⟩ (
 W.load false 1 t103_179 L_161 fun t104_180 =>
 W.note ⟨(blocksOf t103_179), [], [], []⟩ fun r_181 =>
 W.faddr 2 t3_4 fun t105_182 =>
 W.calm [⟨11, r_181.reads, r_181.writes, r_181.made, false, r_181.old⟩, ⟨8, r_177.reads, r_177.writes, r_177.made, false, r_177.old⟩, ⟨7, r_175.reads, r_175.writes, r_175.made, false, r_175.old⟩, ⟨5, r_172.reads, r_172.writes, r_172.made, false, r_172.old⟩, ⟨3, r_169.reads, r_169.writes, r_169.made, false, r_169.old⟩, ⟨0, r_165.reads, r_165.writes, r_165.made, false, r_165.old⟩] ⟨13, (blocksOf t105_182), [], [], false, []⟩ (
 W.load false 1 t105_182 L_161 fun t106_183 =>
 W.note ⟨(blocksOf t105_182), [], [], []⟩ fun r_184 =>
 W.calm [⟨7, r_175.reads, r_175.writes, r_175.made, false, r_175.old⟩, ⟨5, r_172.reads, r_172.writes, r_172.made, false, r_172.old⟩, ⟨3, r_169.reads, r_169.writes, r_169.made, false, r_169.old⟩, ⟨0, r_165.reads, r_165.writes, r_165.made, false, r_165.old⟩] ⟨14, (slOf t104_180), [], [], false, []⟩ (
 W.idx 1 t104_180 t106_183 L_161 fun t107_185 =>
 W.note ⟨(slOf t104_180), [], [], []⟩ fun r_186 =>
 W.calm [⟨7, r_175.reads, r_175.writes, r_175.made, false, r_175.old⟩, ⟨5, r_172.reads, r_172.writes, r_172.made, false, r_172.old⟩, ⟨3, r_169.reads, r_169.writes, r_169.made, false, r_169.old⟩, ⟨0, r_165.reads, r_165.writes, r_165.made, false, r_165.old⟩] ⟨15, (blocksOf t107_185), [], [], false, []⟩ (
 W.load false 1 t107_185 L_161 fun t108_187 =>
 W.note ⟨(blocksOf t107_185), [], [], []⟩ fun r_188 =>
 W.dcall Try.prog [⟨5, r_172.reads, r_172.writes, r_172.made, false, r_172.old⟩, ⟨3, r_169.reads, r_169.writes, r_169.made, false, r_169.old⟩, ⟨0, r_165.reads, r_165.writes, r_165.made, false, r_165.old⟩] 16 (.fn 70 []) [t100_174, t108_187] L_161 (silent_execute_d5 L_161 t96_168 t98_171 t2_0 t3_4 j_7))))))))))))
def silent_execute_d7 (L_323 : SH) (t182_329 : AV) (t184_332 : AV) (j_7 : W.Kn) (t2_0 : AV) (t177_320 : AV) (t201_360 : AV) (L_362 : SH) (ks_361 : List Nat) : Prop :=
 W.note ⟨[], ks_361, [], L_323.names⟩ fun r_363 =>
 W.calm [] ⟨23, (slOf t182_329), [], [], false, []⟩ (
 W.idx 1 t182_329 t184_332 L_362 fun t202_364 =>
 W.note ⟨(slOf t182_329), [], [], []⟩ fun r_365 =>
 W.calm [] ⟨24, (blocksOf t202_364), (blocksOf t202_364), [], false, []⟩ (
 W.store 1 t202_364 t201_360 L_362 fun L_366 =>
 W.note ⟨(blocksOf t202_364), (blocksOf t202_364), [], []⟩ fun r_367 =>
 j_7 [t2_0, (.bool false), t177_320] L_366))
def silent_execute_d8 (L_274 : SH) (t154_281 : AV) (t156_284 : AV) (t2_0 : AV) (t3_4 : AV) (j_7 : W.Kn) (t175_315 : AV) (L_317 : SH) (ks_316 : List Nat) : Prop :=
 W.note ⟨[], ks_316, [], L_274.names⟩ fun r_318 =>
 W.ext 0 t175_315 fun t176_319 =>
 W.ext 1 t175_315 fun t177_320 =>
 W.calm [] ⟨28, (slOf t154_281), [], [], false, []⟩ (
 W.idx 1 t154_281 t156_284 L_317 fun t178_321 =>
 W.note ⟨(slOf t154_281), [], [], []⟩ fun r_322 =>
 W.calm [] ⟨29, (blocksOf t178_321), (blocksOf t178_321), [], false, []⟩ (
 W.store 1 t178_321 t176_319 L_317 fun L_323 =>
 W.note ⟨(blocksOf t178_321), (blocksOf t178_321), [], []⟩ fun r_324 =>
 (true = true) ∧ (
 W.calm [] ⟨0, (blocksOf t2_0), [], [], false, []⟩ (
 W.load false 1 t2_0 L_323 fun t179_325 =>
 W.note ⟨(blocksOf t2_0), [], [], []⟩ fun r_326 =>
 W.nilchk t179_325 fun t180_327 =>
 W.faddr 2 t180_327 fun t181_328 =>
 W.calm [] ⟨3, (blocksOf t181_328), [], [], false, []⟩ (
 W.load false 1 t181_328 L_323 fun t182_329 =>
 W.note ⟨(blocksOf t181_328), [], [], []⟩ fun r_330 =>
 W.faddr 1 t3_4 fun t183_331 =>
 W.calm [⟨3, r_330.reads, r_330.writes, r_330.made, false, r_330.old⟩, ⟨0, r_326.reads, r_326.writes, r_326.made, false, r_326.old⟩] ⟨5, (blocksOf t183_331), [], [], false, []⟩ (
 W.load false 1 t183_331 L_323 fun t184_332 =>
 W.note ⟨(blocksOf t183_331), [], [], []⟩ fun r_333 =>
 W.calm [⟨5, r_333.reads, r_333.writes, r_333.made, false, r_333.old⟩, ⟨3, r_330.reads, r_330.writes, r_330.made, false, r_330.old⟩, ⟨0, r_326.reads, r_326.writes, r_326.made, false, r_326.old⟩] ⟨6, (blocksOf t2_0), [], [], false, []⟩ (
 W.load false 1 t2_0 L_323 fun t185_334 =>
 W.note ⟨(blocksOf t2_0), [], [], []⟩ fun r_335 =>
 W.nilchk t185_334 fun t186_336 =>
 W.faddr 2 t186_336 fun t187_337 =>
 W.calm [⟨5, r_333.reads, r_333.writes, r_333.made, false, r_333.old⟩, ⟨3, r_330.reads, r_330.writes, r_330.made, false, r_330.old⟩, ⟨0, r_326.reads, r_326.writes, r_326.made, false, r_326.old⟩] ⟨9, (blocksOf t187_337), [], [], false, []⟩ (
 W.load false 1 t187_337 L_323 fun t188_338 =>
 W.note ⟨(blocksOf t187_337), [], [], []⟩ fun r_339 =>
 W.faddr 2 t3_4 fun t189_340 =>
 W.calm [⟨9, r_339.reads, r_339.writes, r_339.made, false, r_339.old⟩, ⟨6, r_335.reads, r_335.writes, r_335.made, false, r_335.old⟩, ⟨5, r_333.reads, r_333.writes, r_333.made, false, r_333.old⟩, ⟨3, r_330.reads, r_330.writes, r_330.made, false, r_330.old⟩, ⟨0, r_326.reads, r_326.writes, r_326.made, false, r_326.old⟩] ⟨11, (blocksOf t189_340), [], [], false, []⟩ (
 W.load false 1 t189_340 L_323 fun t190_341 =>
 W.note ⟨(blocksOf t189_340), [], [], []⟩ fun r_342 =>
 W.calm [⟨5, r_333.reads, r_333.writes, r_333.made, false, r_333.old⟩, ⟨3, r_330.reads, r_330.writes, r_330.made, false, r_330.old⟩, ⟨0, r_326.reads, r_326.writes, r_326.made, false, r_326.old⟩] ⟨12, (slOf t188_338), [], [], false, []⟩ (
 W.idx 1 t188_338 t190_341 L_323 fun t191_343 =>
 W.note ⟨(slOf t188_338), [], [], []⟩ fun r_344 =>
 W.calm [⟨5, r_333.reads, r_333.writes, r_333.made, false, r_333.old⟩, ⟨3, r_330.reads, r_330.writes, r_330.made, false, r_330.old⟩, ⟨0, r_326.reads, r_326.writes, r_326.made, false, r_326.old⟩] ⟨13, (blocksOf t191_343), [], [], false, []⟩ (
 W.load false 1 t191_343 L_323 fun t192_345 =>
 W.note ⟨(blocksOf t191_343), [], [], []⟩ fun r_346 =>
 W.calm [⟨13, r_346.reads, r_346.writes, r_346.made, false, r_346.old⟩, ⟨12, r_344.reads, r_344.writes, r_344.made, false, r_344.old⟩, ⟨11, r_342.reads, r_342.writes, r_342.made, false, r_342.old⟩, ⟨9, r_339.reads, r_339.writes, r_339.made, false, r_339.old⟩, ⟨6, r_335.reads, r_335.writes, r_335.made, false, r_335.old⟩, ⟨5, r_333.reads, r_333.writes, r_333.made, false, r_333.old⟩, ⟨3, r_330.reads, r_330.writes, r_330.made, false, r_330.old⟩, ⟨0, r_326.reads, r_326.writes, r_326.made, false, r_326.old⟩] ⟨14, (blocksOf t2_0), [], [], false, []⟩ (
 W.load false 1 t2_0 L_323 fun t193_347 =>
 W.note ⟨(blocksOf t2_0), [], [], []⟩ fun r_348 =>
 W.nilchk t193_347 fun t194_349 =>
 W.faddr 2 t194_349 fun t195_350 =>
 W.calm [⟨13, r_346.reads, r_346.writes, r_346.made, false, r_346.old⟩, ⟨12, r_344.reads, r_344.writes, r_344.made, false, r_344.old⟩, ⟨11, r_342.reads, r_342.writes, r_342.made, false, r_342.old⟩, ⟨9, r_339.reads, r_339.writes, r_339.made, false, r_339.old⟩, ⟨6, r_335.reads, r_335.writes, r_335.made, false, r_335.old⟩, ⟨5, r_333.reads, r_333.writes, r_333.made, false, r_333.old⟩, ⟨3, r_330.reads, r_330.writes, r_330.made, false, r_330.old⟩, ⟨0, r_326.reads, r_326.writes, r_326.made, false, r_326.old⟩] ⟨17, (blocksOf t195_350), [], [], false, []⟩ (
 W.load false 1 t195_350 L_323 fun t196_351 =>
 W.note ⟨(blocksOf t195_350), [], [], []⟩ fun r_352 =>
 W.faddr 3 t3_4 fun t197_353 =>
 W.calm [⟨17, r_352.reads, r_352.writes, r_352.made, false, r_352.old⟩, ⟨14, r_348.reads, r_348.writes, r_348.made, false, r_348.old⟩, ⟨13, r_346.reads, r_346.writes, r_346.made, false, r_346.old⟩, ⟨12, r_344.reads, r_344.writes, r_344.made, false, r_344.old⟩, ⟨11, r_342.reads, r_342.writes, r_342.made, false, r_342.old⟩, ⟨9, r_339.reads, r_339.writes, r_339.made, false, r_339.old⟩, ⟨6, r_335.reads, r_335.writes, r_335.made, false, r_335.old⟩, ⟨5, r_333.reads, r_333.writes, r_333.made, false, r_333.old⟩, ⟨3, r_330.reads, r_330.writes, r_330.made, false, r_330.old⟩, ⟨0, r_326.reads, r_326.writes, r_326.made, false, r_326.old⟩] ⟨19, (blocksOf t197_353), [], [], false, []⟩ (
 W.load false 1 t197_353 L_323 fun t198_354 =>
 W.note ⟨(blocksOf t197_353), [], [], []⟩ fun r_355 =>
 W.calm [⟨13, r_346.reads, r_346.writes, r_346.made, false, r_346.old⟩, ⟨12, r_344.reads, r_344.writes, r_344.made, false, r_344.old⟩, ⟨11, r_342.reads, r_342.writes, r_342.made, false, r_342.old⟩, ⟨9, r_339.reads, r_339.writes, r_339.made, false, r_339.old⟩, ⟨6, r_335.reads, r_335.writes, r_335.made, false, r_335.old⟩, ⟨5, r_333.reads, r_333.writes, r_333.made, false, r_333.old⟩, ⟨3, r_330.reads, r_330.writes, r_330.made, false, r_330.old⟩, ⟨0, r_326.reads, r_326.writes, r_326.made, false, r_326.old⟩] ⟨20, (slOf t196_351), [], [], false, []⟩ (
 W.idx 1 t196_351 t198_354 L_323 fun t199_356 =>
 W.note ⟨(slOf t196_351), [], [], []⟩ fun r_357 =>
 W.calm [⟨13, r_346.reads, r_346.writes, r_346.made, false, r_346.old⟩, ⟨12, r_344.reads, r_344.writes, r_344.made, false, r_344.old⟩, ⟨11, r_342.reads, r_342.writes, r_342.made, false, r_342.old⟩, ⟨9, r_339.reads, r_339.writes, r_339.made, false, r_339.old⟩, ⟨6, r_335.reads, r_335.writes, r_335.made, false, r_335.old⟩, ⟨5, r_333.reads, r_333.writes, r_333.made, false, r_333.old⟩, ⟨3, r_330.reads, r_330.writes, r_330.made, false, r_330.old⟩, ⟨0, r_326.reads, r_326.writes, r_326.made, false, r_326.old⟩] ⟨21, (blocksOf t199_356), [], [], false, []⟩ (
 W.load false 1 t199_356 L_323 fun t200_358 =>
 W.note ⟨(blocksOf t199_356), [], [], []⟩ fun r_359 =>
 W.dcall Try.prog [⟨5, r_333.reads, r_333.writes, r_333.made, false, r_333.old⟩, ⟨3, r_330.reads, r_330.writes, r_330.made, false, r_330.old⟩, ⟨0, r_326.reads, r_326.writes, r_326.made, false, r_326.old⟩] 22 (.fn 14 []) [t192_345, t200_358] L_323 (silent_execute_d7 L_323 t182_329 t184_332 j_7 t2_0 t177_320)))))))))))))))))
def silent_execute_c9 (t2_0 : AV) (t3_4 : AV) (Q : AV → SH → Prop) (j_7 : W.Kn) (t134_232 : AV) (L_233 : SH) : Prop :=
 W.un .not t134_232 fun t135_234 =>
 W.grd t135_234 false (fun k_236 => k_236 (.fn 69 [t2_0]) L_233) L_233 fun t137_235 L_237 =>
 W.grd t135_234 false (fun k_239 => W.faddr 2 t3_4 fun v_241 =>
 k_239 v_241 L_237) L_237 fun t138_238 L_240 =>
 W.grd t135_234 false (fun k_243 => W.load false 1 t138_238 L_240 fun v_245 =>
 k_243 v_245 L_240) L_240 fun t139_242 L_244 =>
 W.grd t135_234 false (fun k_247 => W.call Try.prog t137_235 [t139_242] L_244 fun v_249 L_250 =>
 k_247 v_249 L_250) L_244 fun t140_246 L_248 =>
 W.grd t135_234 false (fun k_252 => W.un .not t140_246 fun v_254 =>
 k_252 v_254 L_248) L_248 fun t141_251 L_253 =>
 W.pick t135_234 (.bool true) t141_251 fun t142_255 =>
 W.grd t142_255 false (fun k_257 => k_257 (.fn 69 [t2_0]) L_253) L_253 fun t144_256 L_258 =>
 W.grd t142_255 false (fun k_260 => W.faddr 3 t3_4 fun v_262 =>
 k_260 v_262 L_258) L_258 fun t145_259 L_261 =>
 W.grd t142_255 false (fun k_264 => W.load false 1 t145_259 L_261 fun v_266 =>
 k_264 v_266 L_261) L_261 fun t146_263 L_265 =>
 W.grd t142_255 false (fun k_268 => W.call Try.prog t144_256 [t146_263] L_265 fun v_270 L_271 =>
 k_268 v_270 L_271) L_265 fun t147_267 L_269 =>
 W.grd t142_255 false (fun k_273 => W.un .not t147_267 fun v_275 =>
 k_273 v_275 L_269) L_269 fun t148_272 L_274 =>
 W.pick t142_255 (.bool true) t148_272 fun t149_276 =>
 W.cond t149_276 (
 Q (.bool false) L_274) (
 (true = true) ∧ (
 W.calm [] ⟨0, (blocksOf t2_0), [], [], false, []⟩ (
 W.load false 1 t2_0 L_274 fun t151_277 =>
 W.note ⟨(blocksOf t2_0), [], [], []⟩ fun r_278 =>
 W.nilchk t151_277 fun t152_279 =>
 W.faddr 1 t152_279 fun t153_280 =>
 W.calm [] ⟨3, (blocksOf t153_280), [], [], false, []⟩ (
 W.load false 1 t153_280 L_274 fun t154_281 =>
 W.note ⟨(blocksOf t153_280), [], [], []⟩ fun r_282 =>
 W.faddr 1 t3_4 fun t155_283 =>
 W.calm [⟨3, r_282.reads, r_282.writes, r_282.made, false, r_282.old⟩, ⟨0, r_278.reads, r_278.writes, r_278.made, false, r_278.old⟩] ⟨5, (blocksOf t155_283), [], [], false, []⟩ (
 W.load false 1 t155_283 L_274 fun t156_284 =>
 W.note ⟨(blocksOf t155_283), [], [], []⟩ fun r_285 =>
 W.faddr 4 t3_4 fun t157_286 =>
 W.calm [⟨5, r_285.reads, r_285.writes, r_285.made, false, r_285.old⟩, ⟨3, r_282.reads, r_282.writes, r_282.made, false, r_282.old⟩, ⟨0, r_278.reads, r_278.writes, r_278.made, false, r_278.old⟩] ⟨7, (blocksOf t157_286), [], [], false, []⟩ (
 W.load false 1 t157_286 L_274 fun t158_287 =>
 W.note ⟨(blocksOf t157_286), [], [], []⟩ fun r_288 =>
 W.calm [⟨7, r_288.reads, r_288.writes, r_288.made, false, r_288.old⟩, ⟨5, r_285.reads, r_285.writes, r_285.made, false, r_285.old⟩, ⟨3, r_282.reads, r_282.writes, r_282.made, false, r_282.old⟩, ⟨0, r_278.reads, r_278.writes, r_278.made, false, r_278.old⟩] ⟨8, (blocksOf t2_0), [], [], false, []⟩ (
 W.load false 1 t2_0 L_274 fun t159_289 =>
 W.note ⟨(blocksOf t2_0), [], [], []⟩ fun r_290 =>
 W.nilchk t159_289 fun t160_291 =>
 W.faddr 1 t160_291 fun t161_292 =>
 W.calm [⟨7, r_288.reads, r_288.writes, r_288.made, false, r_288.old⟩, ⟨5, r_285.reads, r_285.writes, r_285.made, false, r_285.old⟩, ⟨3, r_282.reads, r_282.writes, r_282.made, false, r_282.old⟩, ⟨0, r_278.reads, r_278.writes, r_278.made, false, r_278.old⟩] ⟨11, (blocksOf t161_292), [], [], false, []⟩ (
 W.load false 1 t161_292 L_274 fun t162_293 =>
 W.note ⟨(blocksOf t161_292), [], [], []⟩ fun r_294 =>
 W.faddr 2 t3_4 fun t163_295 =>
 W.calm [⟨11, r_294.reads, r_294.writes, r_294.made, false, r_294.old⟩, ⟨8, r_290.reads, r_290.writes, r_290.made, false, r_290.old⟩, ⟨7, r_288.reads, r_288.writes, r_288.made, false, r_288.old⟩, ⟨5, r_285.reads, r_285.writes, r_285.made, false, r_285.old⟩, ⟨3, r_282.reads, r_282.writes, r_282.made, false, r_282.old⟩, ⟨0, r_278.reads, r_278.writes, r_278.made, false, r_278.old⟩] ⟨13, (blocksOf t163_295), [], [], false, []⟩ (
 W.load false 1 t163_295 L_274 fun t164_296 =>
 W.note ⟨(blocksOf t163_295), [], [], []⟩ fun r_297 =>
 W.calm [⟨7, r_288.reads, r_288.writes, r_288.made, false, r_288.old⟩, ⟨5, r_285.reads, r_285.writes, r_285.made, false, r_285.old⟩, ⟨3, r_282.reads, r_282.writes, r_282.made, false, r_282.old⟩, ⟨0, r_278.reads, r_278.writes, r_278.made, false, r_278.old⟩] ⟨14, (slOf t162_293), [], [], false, []⟩ (
 W.idx 1 t162_293 t164_296 L_274 fun t165_298 =>
 W.note ⟨(slOf t162_293), [], [], []⟩ fun r_299 =>
 W.calm [⟨7, r_288.reads, r_288.writes, r_288.made, false, r_288.old⟩, ⟨5, r_285.reads, r_285.writes, r_285.made, false, r_285.old⟩, ⟨3, r_282.reads, r_282.writes, r_282.made, false, r_282.old⟩, ⟨0, r_278.reads, r_278.writes, r_278.made, false, r_278.old⟩] ⟨15, (blocksOf t165_298), [], [], false, []⟩ (
 W.load false 1 t165_298 L_274 fun t166_300 =>
 W.note ⟨(blocksOf t165_298), [], [], []⟩ fun r_301 =>
 W.calm [⟨15, r_301.reads, r_301.writes, r_301.made, false, r_301.old⟩, ⟨14, r_299.reads, r_299.writes, r_299.made, false, r_299.old⟩, ⟨13, r_297.reads, r_297.writes, r_297.made, false, r_297.old⟩, ⟨11, r_294.reads, r_294.writes, r_294.made, false, r_294.old⟩, ⟨8, r_290.reads, r_290.writes, r_290.made, false, r_290.old⟩, ⟨7, r_288.reads, r_288.writes, r_288.made, false, r_288.old⟩, ⟨5, r_285.reads, r_285.writes, r_285.made, false, r_285.old⟩, ⟨3, r_282.reads, r_282.writes, r_282.made, false, r_282.old⟩, ⟨0, r_278.reads, r_278.writes, r_278.made, false, r_278.old⟩] ⟨16, (blocksOf t2_0), [], [], false, []⟩ (
 W.load false 1 t2_0 L_274 fun t167_302 =>
 W.note ⟨(blocksOf t2_0), [], [], []⟩ fun r_303 =>
 W.nilchk t167_302 fun t168_304 =>
 W.faddr 1 t168_304 fun t169_305 =>
 W.calm [⟨15, r_301.reads, r_301.writes, r_301.made, false, r_301.old⟩, ⟨14, r_299.reads, r_299.writes, r_299.made, false, r_299.old⟩, ⟨13, r_297.reads, r_297.writes, r_297.made, false, r_297.old⟩, ⟨11, r_294.reads, r_294.writes, r_294.made, false, r_294.old⟩, ⟨8, r_290.reads, r_290.writes, r_290.made, false, r_290.old⟩, ⟨7, r_288.reads, r_288.writes, r_288.made, false, r_288.old⟩, ⟨5, r_285.reads, r_285.writes, r_285.made, false, r_285.old⟩, ⟨3, r_282.reads, r_282.writes, r_282.made, false, r_282.old⟩, ⟨0, r_278.reads, r_278.writes, r_278.made, false, r_278.old⟩] ⟨19, (blocksOf t169_305), [], [], false, []⟩ (
 W.load false 1 t169_305 L_274 fun t170_306 =>
 W.note ⟨(blocksOf t169_305), [], [], []⟩ fun r_307 =>
 W.faddr 3 t3_4 fun t171_308 =>
 W.calm [⟨19, r_307.reads, r_307.writes, r_307.made, false, r_307.old⟩, ⟨16, r_303.reads, r_303.writes, r_303.made, false, r_303.old⟩, ⟨15, r_301.reads, r_301.writes, r_301.made, false, r_301.old⟩, ⟨14, r_299.reads, r_299.writes, r_299.made, false, r_299.old⟩, ⟨13, r_297.reads, r_297.writes, r_297.made, false, r_297.old⟩, ⟨11, r_294.reads, r_294.writes, r_294.made, false, r_294.old⟩, ⟨8, r_290.reads, r_290.writes, r_290.made, false, r_290.old⟩, ⟨7, r_288.reads, r_288.writes, r_288.made, false, r_288.old⟩, ⟨5, r_285.reads, r_285.writes, r_285.made, false, r_285.old⟩, ⟨3, r_282.reads, r_282.writes, r_282.made, false, r_282.old⟩, ⟨0, r_278.reads, r_278.writes, r_278.made, false, r_278.old⟩] ⟨21, (blocksOf t171_308), [], [], false, []⟩ (
 W.load false 1 t171_308 L_274 fun t172_309 =>
 W.note ⟨(blocksOf t171_308), [], [], []⟩ fun r_310 =>
 W.calm [⟨15, r_301.reads, r_301.writes, r_301.made, false, r_301.old⟩, ⟨14, r_299.reads, r_299.writes, r_299.made, false, r_299.old⟩, ⟨13, r_297.reads, r_297.writes, r_297.made, false, r_297.old⟩, ⟨11, r_294.reads, r_294.writes, r_294.made, false, r_294.old⟩, ⟨8, r_290.reads, r_290.writes, r_290.made, false, r_290.old⟩, ⟨7, r_288.reads, r_288.writes, r_288.made, false, r_288.old⟩, ⟨5, r_285.reads, r_285.writes, r_285.made, false, r_285.old⟩, ⟨3, r_282.reads, r_282.writes, r_282.made, false, r_282.old⟩, ⟨0, r_278.reads, r_278.writes, r_278.made, false, r_278.old⟩] ⟨22, (slOf t170_306), [], [], false, []⟩ (
 W.idx 1 t170_306 t172_309 L_274 fun t173_311 =>
 W.note ⟨(slOf t170_306), [], [], []⟩ fun r_312 =>
 W.calm [⟨15, r_301.reads, r_301.writes, r_301.made, false, r_301.old⟩, ⟨14, r_299.reads, r_299.writes, r_299.made, false, r_299.old⟩, ⟨13, r_297.reads, r_297.writes, r_297.made, false, r_297.old⟩, ⟨11, r_294.reads, r_294.writes, r_294.made, false, r_294.old⟩, ⟨8, r_290.reads, r_290.writes, r_290.made, false, r_290.old⟩, ⟨7, r_288.reads, r_288.writes, r_288.made, false, r_288.old⟩, ⟨5, r_285.reads, r_285.writes, r_285.made, false, r_285.old⟩, ⟨3, r_282.reads, r_282.writes, r_282.made, false, r_282.old⟩, ⟨0, r_278.reads, r_278.writes, r_278.made, false, r_278.old⟩] ⟨23, (blocksOf t173_311), [], [], false, []⟩ (
 W.load false 1 t173_311 L_274 fun t174_313 =>
 W.note ⟨(blocksOf t173_311), [], [], []⟩ fun r_314 =>
 W.dcall Try.prog [⟨5, r_285.reads, r_285.writes, r_285.made, false, r_285.old⟩, ⟨3, r_282.reads, r_282.writes, r_282.made, false, r_282.old⟩, ⟨0, r_278.reads, r_278.writes, r_278.made, false, r_278.old⟩] 24 (.fn 71 []) [t158_287, t166_300, t174_313] L_274 (silent_execute_d8 L_274 t154_281 t156_284 t2_0 t3_4 j_7)))))))))))))))))
def silent_execute_j10 (Q : AV → SH → Prop) (vs_375 : List AV) (L_377 : SH) : Prop :=
 Q (slotOf [2, 4, 6] vs_375 4) L_377
def silent_execute_w (t0 t1 : AV) (L : SH) (Q : AV → SH → Prop) : Prop :=
 W.box t0 L fun t2_0 L_1 =>
 W.box t1 L_1 fun t3_2 L_3 =>
 W.frz1 t3_2 L_3 fun t3_4 L_5 =>
 W.join (silent_execute_j0 Q) fun j_7 =>
 W.faddr 0 t3_4 fun t8_17 =>
 W.load false 1 t8_17 L_5 fun t9_18 =>
 W.bin Try.prog Fl .eql 3 t9_18 (.int .i64 1) fun t11_19 =>
 W.cond t11_19 (
 W.faddr 1 t3_4 fun t13_20 =>
 W.load false 1 t13_20 L_5 fun t14_21 =>
 W.call Try.prog (.fn 69 [t2_0]) [t14_21] L_5 (silent_execute_c1 Q t2_0 t3_4 j_7)) (
 W.bin Try.prog Fl .eql 3 t9_18 (.int .i64 2) fun t34_54 =>
 W.cond t34_54 (
 W.faddr 1 t3_4 fun t36_55 =>
 W.load false 1 t36_55 L_5 fun t37_56 =>
 W.call Try.prog (.fn 69 [t2_0]) [t37_56] L_5 (silent_execute_c3 t2_0 t3_4 Q j_7)) (
 W.bin Try.prog Fl .eql 3 t9_18 (.int .i64 3) fun t79_137 =>
 W.cond t79_137 (
 W.faddr 1 t3_4 fun t81_138 =>
 W.load false 1 t81_138 L_5 fun t82_139 =>
 W.call Try.prog (.fn 69 [t2_0]) [t82_139] L_5 (silent_execute_c6 t2_0 t3_4 Q j_7)) (
 W.bin Try.prog Fl .eql 3 t9_18 (.int .i64 4) fun t130_229 =>
 W.cond t130_229 (
 W.faddr 1 t3_4 fun t132_230 =>
 W.load false 1 t132_230 L_5 fun t133_231 =>
 W.call Try.prog (.fn 69 [t2_0]) [t133_231] L_5 (silent_execute_c9 t2_0 t3_4 Q j_7)) (
 W.bin Try.prog Fl .eql 3 t9_18 (.int .i64 5) fun t204_368 =>
 W.cond t204_368 (
 W.load false 1 t2_0 L_5 fun t205_369 =>
 W.faddr 1 t3_4 fun t206_370 =>
 W.load false 1 t206_370 L_5 fun t207_371 =>
 W.nilchk t205_369 fun t208_372 =>
 W.faddr 0 t208_372 fun t209_373 =>
 W.store 1 t209_373 t207_371 L_5 fun L_374 =>
 W.join (silent_execute_j10 Q) fun j_376 =>
 j_376 [t2_0, (.bool true), (.bool true)] L_374) (
 j_7 [t2_0, (.bool false), (.bool true)] L_5)))))
theorem silent_execute_e (t0 t1 : AV) (L : SH) (Q : AV → SH → Prop) : W.func Try.prog Fl silent_execute_t Try.f43 (Try.f43.body.getD .skip) [t0, t1] L Q = silent_execute_w t0 t1 L Q := by kernel_rfl
theorem silent_execute_ok (t0 t1 : AV) (L : SH) (Q : AV → SH → Prop) (h : silent_execute_w t0 t1 L Q) : CallA Try.prog 43 [t0, t1] L Q :=
  func_sound (ht := silent_execute_t) fit Try.func43 (show Try.f43.body = some (Try.f43.body.getD .skip) by kernel_rfl) (Eq.mpr (silent_execute_e t0 t1 L Q) h)

/- interleave/silent.execute$1 -/
def silent_execute_1_t : Hints := ⟨fun k => none, fun k => [], fun k => [], fun k => []⟩
def silent_execute_1_w (t0 t1 : AV) (L : SH) (Q : AV → SH → Prop) : Prop :=
 W.bin Try.prog Fl .geq 3 t0 (.int .i64 0) fun t5_0 =>
 W.grd t5_0 true (fun k_2 => k_2 t0 L) L fun t7_1 L_3 =>
 W.grd t5_0 true (fun k_5 => W.load false 1 t1 L_3 fun v_7 =>
 k_5 v_7 L_3) L_3 fun t8_4 L_6 =>
 W.grd t5_0 true (fun k_9 => W.nilchk t8_4 fun v_11 =>
 k_9 v_11 L_6) L_6 fun t9_8 L_10 =>
 W.grd t5_0 true (fun k_13 => W.faddr 1 t9_8 fun v_15 =>
 k_13 v_15 L_10) L_10 fun t10_12 L_14 =>
 W.grd t5_0 true (fun k_17 => W.load false 1 t10_12 L_14 fun v_19 =>
 k_17 v_19 L_14) L_14 fun t11_16 L_18 =>
 W.grd t5_0 true (fun k_21 => W.len t11_16 fun v_23 =>
 k_21 v_23 L_18) L_18 fun t12_20 L_22 =>
 W.grd t5_0 true (fun k_25 => W.bin Try.prog Fl .lss 3 t7_1 t12_20 fun v_27 =>
 k_25 v_27 L_22) L_22 fun t13_24 L_26 =>
 W.pick t5_0 t13_24 (.bool false) fun t14_28 =>
 Q t14_28 L_26
theorem silent_execute_1_e (t0 t1 : AV) (L : SH) (Q : AV → SH → Prop) : W.func Try.prog Fl silent_execute_1_t Try.f69 (Try.f69.body.getD .skip) [t0, t1] L Q = silent_execute_1_w t0 t1 L Q := by kernel_rfl
theorem silent_execute_1_ok (t0 t1 : AV) (L : SH) (Q : AV → SH → Prop) (h : silent_execute_1_w t0 t1 L Q) : CallA Try.prog 69 [t0, t1] L Q :=
  func_sound (ht := silent_execute_1_t) fit Try.func69 (show Try.f69.body = some (Try.f69.body.getD .skip) by kernel_rfl) (Eq.mpr (silent_execute_1_e t0 t1 L Q) h)

/- interleave/eval.Unary -/
def eval_Unary_t : Hints := ⟨fun k => none, fun k => [], fun k => [], fun k => []⟩
def eval_Unary_w (t0 t1 : AV) (L : SH) (Q : AV → SH → Prop) : Prop :=
 W.bin Try.prog Fl .eql 3 t0 (.int .i64 4) fun t8_0 =>
 W.cond t8_0 (
 W.un .neg t1 fun t10_1 =>
 Q (.tup [t10_1, (.bool true)]) L) (
 W.bin Try.prog Fl .eql 3 t0 (.int .i64 5) fun t12_2 =>
 W.cond t12_2 (
 W.bin Try.prog Fl .eql 2 t1 (.int .i64 0) fun t14_3 =>
 W.call Try.prog (.fn 92 []) [t14_3] L fun t15_4 L_5 =>
 Q (.tup [t15_4, (.bool true)]) L_5) (
 Q (.tup [(.int .i64 0), (.bool false)]) L))
theorem eval_Unary_e (t0 t1 : AV) (L : SH) (Q : AV → SH → Prop) : W.func Try.prog Fl eval_Unary_t Try.f70 (Try.f70.body.getD .skip) [t0, t1] L Q = eval_Unary_w t0 t1 L Q := by kernel_rfl
theorem eval_Unary_ok (t0 t1 : AV) (L : SH) (Q : AV → SH → Prop) (h : eval_Unary_w t0 t1 L Q) : CallA Try.prog 70 [t0, t1] L Q :=
  func_sound (ht := eval_Unary_t) fit Try.func70 (show Try.f70.body = some (Try.f70.body.getD .skip) by kernel_rfl) (Eq.mpr (eval_Unary_e t0 t1 L Q) h)

/- interleave/eval.Binary -/
def eval_Binary_t : Hints := ⟨fun k => none, fun k => [], fun k => [], fun k => []⟩
def eval_Binary_w (t0 t1 t2 : AV) (L : SH) (Q : AV → SH → Prop) : Prop :=
 W.bin Try.prog Fl .eql 3 t0 (.int .i64 6) fun t10_0 =>
 W.cond t10_0 (
 W.bin Try.prog Fl .add 2 t1 t2 fun t13_1 =>
 Q (.tup [t13_1, (.bool true)]) L) (
 W.bin Try.prog Fl .eql 3 t0 (.int .i64 7) fun t15_2 =>
 W.cond t15_2 (
 W.bin Try.prog Fl .sub 2 t1 t2 fun t18_3 =>
 Q (.tup [t18_3, (.bool true)]) L) (
 W.bin Try.prog Fl .eql 3 t0 (.int .i64 8) fun t20_4 =>
 W.cond t20_4 (
 W.bin Try.prog Fl .mul 2 t1 t2 fun t23_5 =>
 Q (.tup [t23_5, (.bool true)]) L) (
 W.bin Try.prog Fl .eql 3 t0 (.int .i64 9) fun t25_6 =>
 W.cond t25_6 (
 W.bin Try.prog Fl .eql 2 t2 (.int .i64 0) fun t27_7 =>
 W.cond t27_7 (
 Q (.tup [(.int .i64 0), (.bool true)]) L) (
 W.bin Try.prog Fl .quo 2 t1 t2 fun t30_8 =>
 Q (.tup [t30_8, (.bool true)]) L)) (
 W.bin Try.prog Fl .eql 3 t0 (.int .i64 10) fun t32_9 =>
 W.cond t32_9 (
 W.bin Try.prog Fl .eql 2 t2 (.int .i64 0) fun t34_10 =>
 W.cond t34_10 (
 Q (.tup [(.int .i64 0), (.bool true)]) L) (
 W.bin Try.prog Fl .rem 2 t1 t2 fun t37_11 =>
 Q (.tup [t37_11, (.bool true)]) L)) (
 W.bin Try.prog Fl .eql 3 t0 (.int .i64 11) fun t39_12 =>
 W.cond t39_12 (
 W.bin Try.prog Fl .eql 2 t1 t2 fun t42_13 =>
 W.call Try.prog (.fn 92 []) [t42_13] L fun t43_14 L_15 =>
 Q (.tup [t43_14, (.bool true)]) L_15) (
 W.bin Try.prog Fl .eql 3 t0 (.int .i64 12) fun t45_16 =>
 W.cond t45_16 (
 W.bin Try.prog Fl .neq 2 t1 t2 fun t48_17 =>
 W.call Try.prog (.fn 92 []) [t48_17] L fun t49_18 L_19 =>
 Q (.tup [t49_18, (.bool true)]) L_19) (
 W.bin Try.prog Fl .eql 3 t0 (.int .i64 13) fun t51_20 =>
 W.cond t51_20 (
 W.bin Try.prog Fl .lss 2 t1 t2 fun t54_21 =>
 W.call Try.prog (.fn 92 []) [t54_21] L fun t55_22 L_23 =>
 Q (.tup [t55_22, (.bool true)]) L_23) (
 W.bin Try.prog Fl .eql 3 t0 (.int .i64 14) fun t57_24 =>
 W.cond t57_24 (
 W.bin Try.prog Fl .leq 2 t1 t2 fun t60_25 =>
 W.call Try.prog (.fn 92 []) [t60_25] L fun t61_26 L_27 =>
 Q (.tup [t61_26, (.bool true)]) L_27) (
 W.bin Try.prog Fl .eql 3 t0 (.int .i64 15) fun t63_28 =>
 W.cond t63_28 (
 W.bin Try.prog Fl .gtr 2 t1 t2 fun t66_29 =>
 W.call Try.prog (.fn 92 []) [t66_29] L fun t67_30 L_31 =>
 Q (.tup [t67_30, (.bool true)]) L_31) (
 W.bin Try.prog Fl .eql 3 t0 (.int .i64 16) fun t69_32 =>
 W.cond t69_32 (
 W.bin Try.prog Fl .geq 2 t1 t2 fun t72_33 =>
 W.call Try.prog (.fn 92 []) [t72_33] L fun t73_34 L_35 =>
 Q (.tup [t73_34, (.bool true)]) L_35) (
 W.bin Try.prog Fl .eql 3 t0 (.int .i64 17) fun t75_36 =>
 W.cond t75_36 (
 W.bin Try.prog Fl .neq 2 t1 (.int .i64 0) fun t77_37 =>
 W.grd t77_37 true (fun k_39 => k_39 t2 L) L fun t79_38 L_40 =>
 W.grd t77_37 true (fun k_42 => W.bin Try.prog Fl .neq 2 t79_38 (.int .i64 0) fun v_44 =>
 k_42 v_44 L_40) L_40 fun t80_41 L_43 =>
 W.pick t77_37 t80_41 (.bool false) fun t81_45 =>
 W.call Try.prog (.fn 92 []) [t81_45] L_43 fun t82_46 L_47 =>
 Q (.tup [t82_46, (.bool true)]) L_47) (
 W.bin Try.prog Fl .eql 3 t0 (.int .i64 18) fun t84_48 =>
 W.cond t84_48 (
 W.bin Try.prog Fl .neq 2 t1 (.int .i64 0) fun t86_49 =>
 W.grd t86_49 false (fun k_51 => k_51 t2 L) L fun t88_50 L_52 =>
 W.grd t86_49 false (fun k_54 => W.bin Try.prog Fl .neq 2 t88_50 (.int .i64 0) fun v_56 =>
 k_54 v_56 L_52) L_52 fun t89_53 L_55 =>
 W.pick t86_49 (.bool true) t89_53 fun t90_57 =>
 W.call Try.prog (.fn 92 []) [t90_57] L_55 fun t91_58 L_59 =>
 Q (.tup [t91_58, (.bool true)]) L_59) (
 Q (.tup [(.int .i64 0), (.bool false)]) L)))))))))))))
theorem eval_Binary_e (t0 t1 t2 : AV) (L : SH) (Q : AV → SH → Prop) : W.func Try.prog Fl eval_Binary_t Try.f71 (Try.f71.body.getD .skip) [t0, t1, t2] L Q = eval_Binary_w t0 t1 t2 L Q := by kernel_rfl
theorem eval_Binary_ok (t0 t1 t2 : AV) (L : SH) (Q : AV → SH → Prop) (h : eval_Binary_w t0 t1 t2 L Q) : CallA Try.prog 71 [t0, t1, t2] L Q :=
  func_sound (ht := eval_Binary_t) fit Try.func71 (show Try.f71.body = some (Try.f71.body.getD .skip) by kernel_rfl) (Eq.mpr (eval_Binary_e t0 t1 t2 L Q) h)

/- interleave/eval.truth -/
def eval_truth_t : Hints := ⟨fun k => none, fun k => [], fun k => [], fun k => []⟩
def eval_truth_w (t0 : AV) (L : SH) (Q : AV → SH → Prop) : Prop :=
 W.cond t0 (
 Q (.int .i64 1) L) (
 Q (.int .i64 0) L)
theorem eval_truth_e (t0 : AV) (L : SH) (Q : AV → SH → Prop) : W.func Try.prog Fl eval_truth_t Try.f92 (Try.f92.body.getD .skip) [t0] L Q = eval_truth_w t0 L Q := by kernel_rfl
theorem eval_truth_ok (t0 : AV) (L : SH) (Q : AV → SH → Prop) (h : eval_truth_w t0 L Q) : CallA Try.prog 92 [t0] L Q :=
  func_sound (ht := eval_truth_t) fit Try.func92 (show Try.f92.body = some (Try.f92.body.getD .skip) by kernel_rfl) (Eq.mpr (eval_truth_e t0 L Q) h)

/- interleave/silent.Union -/
def silent_Union_t : Hints := ⟨fun k => none, fun k => [], fun k => [], fun k => []⟩
def silent_Union_c0 (t17_7 : AV) (Q : AV → SH → Prop) (t19_9 : AV) (L_10 : SH) : Prop :=
 W.call Try.prog (.fn 41 []) [t17_7] L_10 fun t21_11 L_12 =>
 Q t21_11 L_12
def silent_Union_w (t0 t1 : AV) (L : SH) (Q : AV → SH → Prop) : Prop :=
 W.len t0 fun t7_0 =>
 W.len t1 fun t9_1 =>
 W.bin Try.prog Fl .add 3 t7_0 t9_1 fun t10_2 =>
 W.mslice 1 8 [(.int .i64 0)] (.int .i64 0) t10_2 L fun t11_3 L_4 =>
 W.append 1 8 t11_3 t0 L_4 fun t14_5 L_6 =>
 W.append 1 8 t14_5 t1 L_6 fun t17_7 L_8 =>
 W.call Try.prog (.fn 40 []) [t17_7] L_8 (silent_Union_c0 t17_7 Q)
theorem silent_Union_e (t0 t1 : AV) (L : SH) (Q : AV → SH → Prop) : W.func Try.prog Fl silent_Union_t Try.f14 (Try.f14.body.getD .skip) [t0, t1] L Q = silent_Union_w t0 t1 L Q := by kernel_rfl
theorem silent_Union_ok (t0 t1 : AV) (L : SH) (Q : AV → SH → Prop) (h : silent_Union_w t0 t1 L Q) : CallA Try.prog 14 [t0, t1] L Q :=
  func_sound (ht := silent_Union_t) fit Try.func14 (show Try.f14.body = some (Try.f14.body.getD .skip) by kernel_rfl) (Eq.mpr (silent_Union_e t0 t1 L Q) h)

/- slices.Clone[[]int64,int64] -/
def slices_Clone___int64_int64__t : Hints := ⟨fun k => none, fun k => [], fun k => [], fun k => []⟩
def slices_Clone___int64_int64__w (t0 : AV) (L : SH) (Q : AV → SH → Prop) : Prop :=
 W.bin Try.prog Fl .eql 29 t0 .nils fun t4_0 =>
 W.cond t4_0 (
 Q .nils L) (
 W.bslice 1 [(.int .i64 0)] 0 [] L fun t5_1 L_2 =>
 W.append 1 8 t5_1 t0 L_2 fun t7_3 L_4 =>
 Q t7_3 L_4)
theorem slices_Clone___int64_int64__e (t0 : AV) (L : SH) (Q : AV → SH → Prop) : W.func Try.prog Fl slices_Clone___int64_int64__t Try.f67 (Try.f67.body.getD .skip) [t0] L Q = slices_Clone___int64_int64__w t0 L Q := by kernel_rfl
theorem slices_Clone___int64_int64__ok (t0 : AV) (L : SH) (Q : AV → SH → Prop) (h : slices_Clone___int64_int64__w t0 L Q) : CallA Try.prog 67 [t0] L Q :=
  func_sound (ht := slices_Clone___int64_int64__t) fit Try.func67 (show Try.f67.body = some (Try.f67.body.getD .skip) by kernel_rfl) (Eq.mpr (slices_Clone___int64_int64__e t0 L Q) h)

/- slices.Clone[[]int,int] -/
def slices_Clone___int_int__t : Hints := ⟨fun k => none, fun k => [], fun k => [], fun k => []⟩
def slices_Clone___int_int__w (t0 : AV) (L : SH) (Q : AV → SH → Prop) : Prop :=
 W.bin Try.prog Fl .eql 22 t0 .nils fun t4_0 =>
 W.cond t4_0 (
 Q .nils L) (
 W.bslice 1 [(.int .i64 0)] 0 [] L fun t5_1 L_2 =>
 W.append 1 8 t5_1 t0 L_2 fun t7_3 L_4 =>
 Q t7_3 L_4)
theorem slices_Clone___int_int__e (t0 : AV) (L : SH) (Q : AV → SH → Prop) : W.func Try.prog Fl slices_Clone___int_int__t Try.f68 (Try.f68.body.getD .skip) [t0] L Q = slices_Clone___int_int__w t0 L Q := by kernel_rfl
theorem slices_Clone___int_int__ok (t0 : AV) (L : SH) (Q : AV → SH → Prop) (h : slices_Clone___int_int__w t0 L Q) : CallA Try.prog 68 [t0] L Q :=
  func_sound (ht := slices_Clone___int_int__t) fit Try.func68 (show Try.f68.body = some (Try.f68.body.getD .skip) by kernel_rfl) (Eq.mpr (slices_Clone___int_int__e t0 L Q) h)

end Go.Proofs.Ytadjimfkfmojkaa.Am
