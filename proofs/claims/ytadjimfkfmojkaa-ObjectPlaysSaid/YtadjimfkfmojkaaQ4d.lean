/- A part of the proof; the statement is proved in the last part. -/
import Derived.Test.YtadjimfkfmojkaaQ4c
import Derived.Test.YtadjimfkfmojkaaRows
import Derived.WalkKit
import Derived.ProofKit
import Derived.OpenShut
import Derived.Handy
import Derived.Outline
import Derived.Lib.Hide
import Derived.Deep.Slices
import Derived.Deep.Fields
import Derived.ChangeSame
import Derived.Carry
import Derived.Deep.Draws
import Derived.Laws.AppendOwn
import Derived.Laws.OwnMore
import Derived.Laws.MakeOwn
import Derived.OwnWalk
import Derived.WalkSpells
import Derived.Deep.DeepMust
set_option linter.unusedSimpArgs false
set_option linter.unusedVariables false
section
namespace Go.Proofs.Ytadjimfkfmojkaa.Am
set_option linter.unusedVariables false
set_option maxRecDepth 100000
def ref08_Start_t : Hints := ⟨fun k => if k = 15 then some [1, 2, 3, 6, 7] else none, fun k => if k = 3 then [1, 2, 3, 4] else if k = 7 then [1, 2, 3, 5] else if k = 11 then [1, 2, 3, 6] else [], fun k => if k = 0 then [1] else [], fun k => []⟩
def ref08_Start_zt0 (vs_10 : List AV) (L_12 : SH) (nx_11 : W.Kn)  : Prop :=
 W.faddr 0 (slotOf [1, 2, 3, 4] vs_10 3) fun t16_17 =>
 W.load false 1 t16_17 L_12 fun t17_18 =>
 W.build [(.int .i64 0), .nils] [(0, 1, (.int .i64 (-1)))] fun t18_19 =>
 W.bslice 2 [(.int .i64 0), .nils] 1 [(0, t18_19)] L_12 fun t19_20 L_21 =>
 W.append 2 32 t17_18 t19_20 L_21 fun t20_22 L_23 =>
 W.faddr 0 (slotOf [1, 2, 3, 4] vs_10 3) fun t21_24 =>
 W.store 1 t21_24 t20_22 L_23 fun L_25 =>
 W.bin Try.prog Fl .add 3 (slotOf [1, 2, 3, 4] vs_10 4) (.int .i64 1) fun t15_26 =>
 nx_11 [(slotOf [1, 2, 3, 4] vs_10 1), (slotOf [1, 2, 3, 4] vs_10 2), (slotOf [1, 2, 3, 4] vs_10 3), t15_26] L_25
def ref08_Start_zt1 (vs_27 : List AV) (L_29 : SH) (nx_28 : W.Kn)  : Prop :=
 W.faddr 2 (slotOf [1, 2, 3, 5] vs_27 3) fun t29_34 =>
 W.load false 1 t29_34 L_29 fun t30_35 =>
 W.bslice 1 [(.bool false)] 1 [(0, (.bool false))] L_29 fun t31_36 L_37 =>
 W.append 1 1 t30_35 t31_36 L_37 fun t32_38 L_39 =>
 W.faddr 2 (slotOf [1, 2, 3, 5] vs_27 3) fun t33_40 =>
 W.store 1 t33_40 t32_38 L_39 fun L_41 =>
 W.bin Try.prog Fl .add 3 (slotOf [1, 2, 3, 5] vs_27 5) (.int .i64 1) fun t28_42 =>
 nx_28 [(slotOf [1, 2, 3, 5] vs_27 1), (slotOf [1, 2, 3, 5] vs_27 2), (slotOf [1, 2, 3, 5] vs_27 3), t28_42] L_41
def ref08_Start_j0 (nx_44 : W.Kn) (vs_54 : List AV) (L_56 : SH) : Prop :=
 W.faddr 3 (slotOf [1, 2, 3, 6, 7] vs_54 3) fun t45_57 =>
 W.load false 1 t45_57 L_56 fun t46_58 =>
 W.load true 3 (slotOf [1, 2, 3, 6, 7] vs_54 7) L_56 fun t47_59 =>
 W.bslice 3 [(.int .i64 0), (.int .i64 0), (.bool false)] 1 [(0, t47_59)] L_56 fun t48_60 L_61 =>
 W.append 3 24 t46_58 t48_60 L_61 fun t49_62 L_63 =>
 W.faddr 3 (slotOf [1, 2, 3, 6, 7] vs_54 3) fun t50_64 =>
 W.store 1 t50_64 t49_62 L_63 fun L_65 =>
 W.bin Try.prog Fl .add 3 (slotOf [1, 2, 3, 6, 7] vs_54 6) (.int .i64 1) fun t40_66 =>
 nx_44 [(slotOf [1, 2, 3, 6, 7] vs_54 1), (slotOf [1, 2, 3, 6, 7] vs_54 2), (slotOf [1, 2, 3, 6, 7] vs_54 3), t40_66] L_65
def ref08_Start_zt2 (t7_51 : AV) (L_53 : SH) (j_55 : W.Kn) (vs_43 : List AV)  : Prop :=
 W.faddr 0 t7_51 fun t44_68 =>
 W.store 1 t44_68 (.int .i64 1) L_53 fun L_69 =>
 j_55 [(slotOf [1, 2, 3, 6] vs_43 1), (slotOf [1, 2, 3, 6] vs_43 2), (slotOf [1, 2, 3, 6] vs_43 3), (slotOf [1, 2, 3, 6] vs_43 6), t7_51] L_69
def ref08_Start_zt3 (L_45 : SH) (nx_44 : W.Kn) (vs_43 : List AV)  : Prop :=
 W.build [(.int .i64 0), (.int .i64 0), (.bool false)] [(0, 1, (.int .i64 0))] fun t41_50 =>
 W.alloc [(.int .i64 0), (.int .i64 0), (.bool false)] L_45 fun t7_51 L_52 =>
 W.store 3 t7_51 t41_50 L_52 fun L_53 =>
 W.join (ref08_Start_j0 nx_44) fun j_55 =>
 W.bin Try.prog Fl .eql 3 (slotOf [1, 2, 3, 6] vs_43 6) (.int .i64 0) fun t43_67 =>
 W.cond t43_67 (
 (ref08_Start_zt2 t7_51 L_53 j_55 vs_43)) (
 j_55 [(slotOf [1, 2, 3, 6] vs_43 1), (slotOf [1, 2, 3, 6] vs_43 2), (slotOf [1, 2, 3, 6] vs_43 3), (slotOf [1, 2, 3, 6] vs_43 6), t7_51] L_53)
def ref08_Start_zt4 (vs_43 : List AV) (L_45 : SH) (Q : AV → SH → Prop)  : Prop :=
 W.load true 4 (slotOf [1, 2, 3, 6] vs_43 3) L_45 fun t51_70 =>
 W.store 4 (slotOf [1, 2, 3, 6] vs_43 2) t51_70 L_45 fun L_71 =>
 W.load true 4 (slotOf [1, 2, 3, 6] vs_43 2) L_71 fun r_72 =>
 Q r_72 L_71
def ref08_Start_l1 (Q : AV → SH → Prop) (vs_43 : List AV) (L_45 : SH) (nx_44 : W.Kn) : Prop :=
 W.faddr 4 (slotOf [1, 2, 3, 6] vs_43 1) fun t35_46 =>
 W.load false 1 t35_46 L_45 fun t36_47 =>
 W.len t36_47 fun t37_48 =>
 W.bin Try.prog Fl .lss 3 (slotOf [1, 2, 3, 6] vs_43 6) t37_48 fun t38_49 =>
 W.cond t38_49 (
 (ref08_Start_zt3 L_45 nx_44 vs_43)) (
 (ref08_Start_zt4 vs_43 L_45 Q))
def ref08_Start_l2 (Q : AV → SH → Prop) (vs_27 : List AV) (L_29 : SH) (nx_28 : W.Kn) : Prop :=
 W.faddr 3 (slotOf [1, 2, 3, 5] vs_27 1) fun t23_30 =>
 W.load false 1 t23_30 L_29 fun t24_31 =>
 W.len t24_31 fun t25_32 =>
 W.bin Try.prog Fl .lss 3 (slotOf [1, 2, 3, 5] vs_27 5) t25_32 fun t26_33 =>
 W.cond t26_33 (
 (ref08_Start_zt1 vs_27 L_29 nx_28)) (
 W.loop (ref08_Start_l1 Q) [(slotOf [1, 2, 3, 5] vs_27 1), (slotOf [1, 2, 3, 5] vs_27 2), (slotOf [1, 2, 3, 5] vs_27 3), (.int .i64 0)] L_29)
def ref08_Start_l3 (Q : AV → SH → Prop) (vs_10 : List AV) (L_12 : SH) (nx_11 : W.Kn) : Prop :=
 W.faddr 1 (slotOf [1, 2, 3, 4] vs_10 1) fun t10_13 =>
 W.load false 1 t10_13 L_12 fun t11_14 =>
 W.len t11_14 fun t12_15 =>
 W.bin Try.prog Fl .lss 3 (slotOf [1, 2, 3, 4] vs_10 4) t12_15 fun t13_16 =>
 W.cond t13_16 (
 (ref08_Start_zt0 vs_10 L_12 nx_11)) (
 W.loop (ref08_Start_l2 Q) [(slotOf [1, 2, 3, 4] vs_10 1), (slotOf [1, 2, 3, 4] vs_10 2), (slotOf [1, 2, 3, 4] vs_10 3), (.int .i64 0)] L_12)
def ref08_Start_w (t0 : AV) (L : SH) (Q : AV → SH → Prop) : Prop :=
 W.box t0 L fun t1_0 L_1 =>
 W.alloc [.nils, (.int .i64 0), .nils, .nils] L_1 fun t2_2 L_3 =>
 W.frz1 t1_0 L_3 fun t1_4 L_5 =>
 W.build [.nils, (.int .i64 0), .nils, .nils] [(1, 1, (.int .i64 (-1)))] fun t8_6 =>
 W.alloc [.nils, (.int .i64 0), .nils, .nils] L_5 fun t3_7 L_8 =>
 W.store 4 t3_7 t8_6 L_8 fun L_9 =>
 W.loop (ref08_Start_l3 Q) [t1_4, t2_2, t3_7, (.int .i64 0)] L_9
theorem ref08_Start_e (t0 : AV) (L : SH) (Q : AV → SH → Prop) : W.func Try.prog Fl ref08_Start_t Try.f22 (Try.f22.body.getD .skip) [t0] L Q = ref08_Start_w t0 L Q := by kernel_rfl
theorem ref08_Start_ok (t0 : AV) (L : SH) (Q : AV → SH → Prop) (h : ref08_Start_w t0 L Q) : CallA Try.prog 22 [t0] L Q :=
  func_sound (ht := ref08_Start_t) fit Try.func22 (show Try.f22.body = some (Try.f22.body.getD .skip) by kernel_rfl) (Eq.mpr (ref08_Start_e t0 L Q) h)

def ref08_Fits_t : Hints := ⟨fun k => none, fun k => if k = 2 then [2, 3, 5] else [], fun k => if k = 0 then [2, 3] else [], fun k => if k = 4 then [0, 1, 0, 7, 15, 31, 63, 127, 255, 511, 255, 2047, 4095, 8191, 255, 16639, 49407, 131071, 262143] else []⟩
def ref08_Fits_zt0 (vs_8 : List AV) (L_10 : SH) (Q : AV → SH → Prop) (nx_9 : W.Kn)  : Prop :=
 (true = true) ∧ (
 W.faddr 2 (slotOf [2, 3, 5] vs_8 2) fun t13_15 =>
 W.calm [] ⟨1, (blocksOf t13_15), [], [], false, []⟩ (
 W.load false 1 t13_15 L_10 fun t14_16 =>
 W.note ⟨(blocksOf t13_15), [], [], []⟩ fun r_17 =>
 W.calm [] ⟨3, (slOf t14_16), [], [], false, []⟩ (
 W.idx 2 t14_16 (slotOf [2, 3, 5] vs_8 5) L_10 fun t16_18 =>
 W.note ⟨(slOf t14_16), [], [], []⟩ fun r_19 =>
 W.faddr 1 t16_18 fun t17_20 =>
 W.calm [] ⟨5, (blocksOf t17_20), [], [], false, []⟩ (
 W.load false 1 t17_20 L_10 fun t18_21 =>
 W.note ⟨(blocksOf t17_20), [], [], []⟩ fun r_22 =>
 W.bin Try.prog Fl .lss 3 t18_21 (.int .i64 0) fun t19_23 =>
 W.dgrd t19_23 false (fun k_25 => W.faddr 2 (slotOf [2, 3, 5] vs_8 2) fun v_28 =>
 k_25 v_28 L_10 ⟨[], [], [], []⟩) L_10 fun t21_24 L_27 r_26 =>
 W.dgrd t19_23 false (fun k_30 => W.calm [] ⟨9, (blocksOf t21_24), [], [], false, []⟩ (
 W.load false 1 t21_24 L_27 fun v_33 =>
 W.note ⟨(blocksOf t21_24), [], [], []⟩ fun r_34 =>
 k_30 v_33 L_27 r_34)) L_27 fun t22_29 L_32 r_31 =>
 W.dgrd t19_23 false (fun k_36 => k_36 (slotOf [2, 3, 5] vs_8 5) L_32 ⟨[], [], [], []⟩) L_32 fun t23_35 L_38 r_37 =>
 W.dgrd t19_23 false (fun k_40 => W.calm [] ⟨11, (slOf t22_29), [], [], false, []⟩ (
 W.idx 2 t22_29 t23_35 L_38 fun v_43 =>
 W.note ⟨(slOf t22_29), [], [], []⟩ fun r_44 =>
 k_40 v_43 L_38 r_44)) L_38 fun t24_39 L_42 r_41 =>
 W.dgrd t19_23 false (fun k_46 => W.faddr 1 t24_39 fun v_49 =>
 k_46 v_49 L_42 ⟨[], [], [], []⟩) L_42 fun t25_45 L_48 r_47 =>
 W.dgrd t19_23 false (fun k_51 => W.calm [] ⟨13, (blocksOf t25_45), [], [], false, []⟩ (
 W.load false 1 t25_45 L_48 fun v_54 =>
 W.note ⟨(blocksOf t25_45), [], [], []⟩ fun r_55 =>
 k_51 v_54 L_48 r_55)) L_48 fun t26_50 L_53 r_52 =>
 W.dgrd t19_23 false (fun k_57 => W.faddr 1 (slotOf [2, 3, 5] vs_8 2) fun v_60 =>
 k_57 v_60 L_53 ⟨[], [], [], []⟩) L_53 fun t27_56 L_59 r_58 =>
 W.dgrd t19_23 false (fun k_62 => W.calm [⟨13, r_52.reads, r_52.writes, r_52.made, false, r_52.old⟩, ⟨11, r_41.reads, r_41.writes, r_41.made, false, r_41.old⟩, ⟨9, r_31.reads, r_31.writes, r_31.made, false, r_31.old⟩] ⟨15, (blocksOf t27_56), [], [], false, []⟩ (
 W.load false 1 t27_56 L_59 fun v_65 =>
 W.note ⟨(blocksOf t27_56), [], [], []⟩ fun r_66 =>
 k_62 v_65 L_59 r_66)) L_59 fun t28_61 L_64 r_63 =>
 W.dgrd t19_23 false (fun k_68 => W.len t28_61 fun v_71 =>
 k_68 v_71 L_64 ⟨[], [], [], []⟩) L_64 fun t29_67 L_70 r_69 =>
 W.dgrd t19_23 false (fun k_73 => W.bin Try.prog Fl .geq 3 t26_50 t29_67 fun v_76 =>
 k_73 v_76 L_70 ⟨[], [], [], []⟩) L_70 fun t30_72 L_75 r_74 =>
 W.pick t19_23 (.bool true) t30_72 fun t31_77 =>
 W.cond t31_77 (
 Q (.bool false) L_75) (
 W.bin Try.prog Fl .add 3 (slotOf [2, 3, 5] vs_8 5) (.int .i64 1) fun t12_78 =>
 nx_9 [(slotOf [2, 3, 5] vs_8 2), (slotOf [2, 3, 5] vs_8 3), t12_78] L_75)))))
def ref08_Fits_zt1 (vs_8 : List AV) (L_10 : SH) (Q : AV → SH → Prop)  : Prop :=
 W.faddr 0 (slotOf [2, 3, 5] vs_8 3) fun t32_79 =>
 W.load false 1 t32_79 L_10 fun t33_80 =>
 W.len t33_80 fun t34_81 =>
 W.faddr 1 (slotOf [2, 3, 5] vs_8 2) fun t35_82 =>
 W.load false 1 t35_82 L_10 fun t36_83 =>
 W.len t36_83 fun t37_84 =>
 W.bin Try.prog Fl .eql 3 t34_81 t37_84 fun t38_85 =>
 W.grd t38_85 true (fun k_87 => W.faddr 2 (slotOf [2, 3, 5] vs_8 3) fun v_89 =>
 k_87 v_89 L_10) L_10 fun t40_86 L_88 =>
 W.grd t38_85 true (fun k_91 => W.load false 1 t40_86 L_88 fun v_93 =>
 k_91 v_93 L_88) L_88 fun t41_90 L_92 =>
 W.grd t38_85 true (fun k_95 => W.len t41_90 fun v_97 =>
 k_95 v_97 L_92) L_92 fun t42_94 L_96 =>
 W.grd t38_85 true (fun k_99 => W.faddr 3 (slotOf [2, 3, 5] vs_8 2) fun v_101 =>
 k_99 v_101 L_96) L_96 fun t43_98 L_100 =>
 W.grd t38_85 true (fun k_103 => W.load false 1 t43_98 L_100 fun v_105 =>
 k_103 v_105 L_100) L_100 fun t44_102 L_104 =>
 W.grd t38_85 true (fun k_107 => W.len t44_102 fun v_109 =>
 k_107 v_109 L_104) L_104 fun t45_106 L_108 =>
 W.grd t38_85 true (fun k_111 => W.bin Try.prog Fl .eql 3 t42_94 t45_106 fun v_113 =>
 k_111 v_113 L_108) L_108 fun t46_110 L_112 =>
 W.pick t38_85 t46_110 (.bool false) fun t47_114 =>
 W.grd t47_114 true (fun k_116 => W.faddr 3 (slotOf [2, 3, 5] vs_8 3) fun v_118 =>
 k_116 v_118 L_112) L_112 fun t49_115 L_117 =>
 W.grd t47_114 true (fun k_120 => W.load false 1 t49_115 L_117 fun v_122 =>
 k_120 v_122 L_117) L_117 fun t50_119 L_121 =>
 W.grd t47_114 true (fun k_124 => W.len t50_119 fun v_126 =>
 k_124 v_126 L_121) L_121 fun t51_123 L_125 =>
 W.grd t47_114 true (fun k_128 => W.faddr 4 (slotOf [2, 3, 5] vs_8 2) fun v_130 =>
 k_128 v_130 L_125) L_125 fun t52_127 L_129 =>
 W.grd t47_114 true (fun k_132 => W.load false 1 t52_127 L_129 fun v_134 =>
 k_132 v_134 L_129) L_129 fun t53_131 L_133 =>
 W.grd t47_114 true (fun k_136 => W.len t53_131 fun v_138 =>
 k_136 v_138 L_133) L_133 fun t54_135 L_137 =>
 W.grd t47_114 true (fun k_140 => W.bin Try.prog Fl .eql 3 t51_123 t54_135 fun v_142 =>
 k_140 v_142 L_137) L_137 fun t55_139 L_141 =>
 W.pick t47_114 t55_139 (.bool false) fun t56_143 =>
 Q t56_143 L_141
def ref08_Fits_l0 (Q : AV → SH → Prop) (vs_8 : List AV) (L_10 : SH) (nx_9 : W.Kn) : Prop :=
 W.faddr 2 (slotOf [2, 3, 5] vs_8 2) fun t7_11 =>
 W.load false 1 t7_11 L_10 fun t8_12 =>
 W.len t8_12 fun t9_13 =>
 W.bin Try.prog Fl .lss 3 (slotOf [2, 3, 5] vs_8 5) t9_13 fun t10_14 =>
 W.cond t10_14 (
 (ref08_Fits_zt0 vs_8 L_10 Q nx_9)) (
 (ref08_Fits_zt1 vs_8 L_10 Q))
def ref08_Fits_w (t0 t1 : AV) (L : SH) (Q : AV → SH → Prop) : Prop :=
 W.box t0 L fun t2_0 L_1 =>
 W.box t1 L_1 fun t3_2 L_3 =>
 W.frz1 t2_0 L_3 fun t2_4 L_5 =>
 W.frz1 t3_2 L_5 fun t3_6 L_7 =>
 W.loop (ref08_Fits_l0 Q) [t2_4, t3_6, (.int .i64 0)] L_7
theorem ref08_Fits_e (t0 t1 : AV) (L : SH) (Q : AV → SH → Prop) : W.func Try.prog Fl ref08_Fits_t Try.f38 (Try.f38.body.getD .skip) [t0, t1] L Q = ref08_Fits_w t0 t1 L Q := by kernel_rfl
theorem ref08_Fits_ok (t0 t1 : AV) (L : SH) (Q : AV → SH → Prop) (h : ref08_Fits_w t0 t1 L Q) : CallA Try.prog 38 [t0, t1] L Q :=
  func_sound (ht := ref08_Fits_t) fit Try.func38 (show Try.f38.body = some (Try.f38.body.getD .skip) by kernel_rfl) (Eq.mpr (ref08_Fits_e t0 t1 L Q) h)

def ref08_in_t : Hints := ⟨fun k => none, fun k => [], fun k => [], fun k => []⟩
def ref08_in_w (t0 t1 : AV) (L : SH) (Q : AV → SH → Prop) : Prop :=
 W.bin Try.prog Fl .geq 3 t0 (.int .i64 0) fun t6_0 =>
 W.grd t6_0 true (fun k_2 => k_2 t0 L) L fun t8_1 L_3 =>
 W.grd t6_0 true (fun k_5 => k_5 t1 L_3) L_3 fun t9_4 L_6 =>
 W.grd t6_0 true (fun k_8 => W.bin Try.prog Fl .lss 3 t8_1 t9_4 fun v_10 =>
 k_8 v_10 L_6) L_6 fun t10_7 L_9 =>
 W.pick t6_0 t10_7 (.bool false) fun t11_11 =>
 Q t11_11 L_9
theorem ref08_in_e (t0 t1 : AV) (L : SH) (Q : AV → SH → Prop) : W.func Try.prog Fl ref08_in_t Try.f61 (Try.f61.body.getD .skip) [t0, t1] L Q = ref08_in_w t0 t1 L Q := by kernel_rfl
theorem ref08_in_ok (t0 t1 : AV) (L : SH) (Q : AV → SH → Prop) (h : ref08_in_w t0 t1 L Q) : CallA Try.prog 61 [t0, t1] L Q :=
  func_sound (ht := ref08_in_t) fit Try.func61 (show Try.f61.body = some (Try.f61.body.getD .skip) by kernel_rfl) (Eq.mpr (ref08_in_e t0 t1 L Q) h)

def ref08_named_t : Hints := ⟨fun k => if k = 8 then some [2, 3, 7, 8] else if k = 11 then some [2, 3, 7, 18] else if k = 14 then some [2, 3, 7, 26] else if k = 19 then some [2, 3, 7, 43] else if k = 24 then some [2, 3, 7, 61] else if k = 27 then some [2, 3, 7, 71] else if k = 30 then some [2, 3, 79] else none, fun k => [], fun k => if k = 0 then [3] else [], fun k => []⟩
def ref08_named_zt0 (vs_8 : List AV) (L_10 : SH) (Q : AV → SH → Prop)  : Prop :=
 W.faddr 0 (slotOf [2, 3, 7, 18] vs_8 3) fun t22_11 =>
 W.load false 1 t22_11 L_10 fun t23_12 =>
 W.len t23_12 fun t24_13 =>
 W.call Try.prog (.fn 61 []) [(slotOf [2, 3, 7, 18] vs_8 2), t24_13] L_10 fun t25_14 L_15 =>
 Q t25_14 L_15
def ref08_named_c0 (vs_16 : List AV) (Q : AV → SH → Prop) (t33_22 : AV) (L_23 : SH) : Prop :=
 W.grd t33_22 true (fun k_25 => W.faddr 1 (slotOf [2, 3, 7, 26] vs_16 3) fun v_27 =>
 k_25 v_27 L_23) L_23 fun t35_24 L_26 =>
 W.grd t33_22 true (fun k_29 => W.load false 1 t35_24 L_26 fun v_31 =>
 k_29 v_31 L_26) L_26 fun t36_28 L_30 =>
 W.grd t33_22 true (fun k_33 => k_33 (slotOf [2, 3, 7, 26] vs_16 2) L_30) L_30 fun t37_32 L_34 =>
 W.grd t33_22 true (fun k_36 => W.idx 2 t36_28 t37_32 L_34 fun v_38 =>
 k_36 v_38 L_34) L_34 fun t38_35 L_37 =>
 W.grd t33_22 true (fun k_40 => W.faddr 1 t38_35 fun v_42 =>
 k_40 v_42 L_37) L_37 fun t39_39 L_41 =>
 W.grd t33_22 true (fun k_44 => W.load false 1 t39_39 L_41 fun v_46 =>
 k_44 v_46 L_41) L_41 fun t40_43 L_45 =>
 W.grd t33_22 true (fun k_48 => W.un .not t40_43 fun v_50 =>
 k_48 v_50 L_45) L_45 fun t41_47 L_49 =>
 W.pick t33_22 t41_47 (.bool false) fun t42_51 =>
 Q t42_51 L_49
def ref08_named_zt1 (vs_16 : List AV) (L_18 : SH) (Q : AV → SH → Prop)  : Prop :=
 W.faddr 1 (slotOf [2, 3, 7, 26] vs_16 3) fun t30_19 =>
 W.load false 1 t30_19 L_18 fun t31_20 =>
 W.len t31_20 fun t32_21 =>
 W.call Try.prog (.fn 61 []) [(slotOf [2, 3, 7, 26] vs_16 2), t32_21] L_18 (ref08_named_c0 vs_16 Q)
def ref08_named_c1 (vs_52 : List AV) (Q : AV → SH → Prop) (t52_58 : AV) (L_59 : SH) : Prop :=
 W.grd t52_58 true (fun k_61 => W.faddr 1 (slotOf [2, 3, 7, 43] vs_52 3) fun v_63 =>
 k_61 v_63 L_59) L_59 fun t54_60 L_62 =>
 W.grd t52_58 true (fun k_65 => W.load false 1 t54_60 L_62 fun v_67 =>
 k_65 v_67 L_62) L_62 fun t55_64 L_66 =>
 W.grd t52_58 true (fun k_69 => k_69 (slotOf [2, 3, 7, 43] vs_52 2) L_66) L_66 fun t56_68 L_70 =>
 W.grd t52_58 true (fun k_72 => W.idx 2 t55_64 t56_68 L_70 fun v_74 =>
 k_72 v_74 L_70) L_70 fun t57_71 L_73 =>
 W.grd t52_58 true (fun k_76 => W.faddr 1 t57_71 fun v_78 =>
 k_76 v_78 L_73) L_73 fun t58_75 L_77 =>
 W.grd t52_58 true (fun k_80 => W.load false 1 t58_75 L_77 fun v_82 =>
 k_80 v_82 L_77) L_77 fun t59_79 L_81 =>
 W.pick t52_58 t59_79 (.bool false) fun t60_83 =>
 Q t60_83 L_81
def ref08_named_zt2 (vs_52 : List AV) (L_54 : SH) (Q : AV → SH → Prop)  : Prop :=
 W.faddr 1 (slotOf [2, 3, 7, 43] vs_52 3) fun t49_55 =>
 W.load false 1 t49_55 L_54 fun t50_56 =>
 W.len t50_56 fun t51_57 =>
 W.call Try.prog (.fn 61 []) [(slotOf [2, 3, 7, 43] vs_52 2), t51_57] L_54 (ref08_named_c1 vs_52 Q)
def ref08_named_zt3 (vs_84 : List AV) (L_86 : SH) (Q : AV → SH → Prop)  : Prop :=
 W.faddr 2 (slotOf [2, 3, 7, 61] vs_84 3) fun t67_87 =>
 W.load false 1 t67_87 L_86 fun t68_88 =>
 W.len t68_88 fun t69_89 =>
 W.call Try.prog (.fn 61 []) [(slotOf [2, 3, 7, 61] vs_84 2), t69_89] L_86 fun t70_90 L_91 =>
 Q t70_90 L_91
def ref08_named_zt4 (vs_92 : List AV) (L_94 : SH) (Q : AV → SH → Prop)  : Prop :=
 W.faddr 4 (slotOf [2, 3, 7, 71] vs_92 3) fun t75_95 =>
 W.load false 1 t75_95 L_94 fun t76_96 =>
 W.len t76_96 fun t77_97 =>
 W.call Try.prog (.fn 61 []) [(slotOf [2, 3, 7, 71] vs_92 2), t77_97] L_94 fun t78_98 L_99 =>
 Q t78_98 L_99
def ref08_named_zt5 (vs_100 : List AV) (L_102 : SH) (Q : AV → SH → Prop)  : Prop :=
 W.faddr 3 (slotOf [2, 3, 79] vs_100 3) fun t83_103 =>
 W.load false 1 t83_103 L_102 fun t84_104 =>
 W.len t84_104 fun t85_105 =>
 W.call Try.prog (.fn 61 []) [(slotOf [2, 3, 79] vs_100 2), t85_105] L_102 fun t86_106 L_107 =>
 Q t86_106 L_107
def ref08_named_j2 (Q : AV → SH → Prop) (vs_100 : List AV) (L_102 : SH) : Prop :=
 W.cond (slotOf [2, 3, 79] vs_100 79) (
 (ref08_named_zt5 vs_100 L_102 Q)) (
 Q (.bool false) L_102)
def ref08_named_zt6 (vs_92 : List AV) (j_101 : W.Kn) (L_94 : SH)  : Prop :=
 W.bin Try.prog Fl .eql 3 (slotOf [2, 3, 7, 71] vs_92 7) (.int .i64 23) fun t81_109 =>
 j_101 [(slotOf [2, 3, 7, 71] vs_92 2), (slotOf [2, 3, 7, 71] vs_92 3), t81_109] L_94
def ref08_named_zt7 (Q : AV → SH → Prop) (vs_92 : List AV) (L_94 : SH)  : Prop :=
 W.join (ref08_named_j2 Q) fun j_101 =>
 W.bin Try.prog Fl .eql 3 (slotOf [2, 3, 7, 71] vs_92 7) (.int .i64 22) fun t80_108 =>
 W.cond t80_108 (
 j_101 [(slotOf [2, 3, 7, 71] vs_92 2), (slotOf [2, 3, 7, 71] vs_92 3), t80_108] L_94) (
 (ref08_named_zt6 vs_92 j_101 L_94))
def ref08_named_j3 (Q : AV → SH → Prop) (vs_92 : List AV) (L_94 : SH) : Prop :=
 W.cond (slotOf [2, 3, 7, 71] vs_92 71) (
 (ref08_named_zt4 vs_92 L_94 Q)) (
 (ref08_named_zt7 Q vs_92 L_94))
def ref08_named_zt8 (vs_84 : List AV) (j_93 : W.Kn) (L_86 : SH)  : Prop :=
 W.bin Try.prog Fl .eql 3 (slotOf [2, 3, 7, 61] vs_84 7) (.int .i64 21) fun t73_111 =>
 j_93 [(slotOf [2, 3, 7, 61] vs_84 2), (slotOf [2, 3, 7, 61] vs_84 3), (slotOf [2, 3, 7, 61] vs_84 7), t73_111] L_86
def ref08_named_zt9 (Q : AV → SH → Prop) (vs_84 : List AV) (L_86 : SH)  : Prop :=
 W.join (ref08_named_j3 Q) fun j_93 =>
 W.bin Try.prog Fl .eql 3 (slotOf [2, 3, 7, 61] vs_84 7) (.int .i64 20) fun t72_110 =>
 W.cond t72_110 (
 j_93 [(slotOf [2, 3, 7, 61] vs_84 2), (slotOf [2, 3, 7, 61] vs_84 3), (slotOf [2, 3, 7, 61] vs_84 7), t72_110] L_86) (
 (ref08_named_zt8 vs_84 j_93 L_86))
def ref08_named_j4 (Q : AV → SH → Prop) (vs_84 : List AV) (L_86 : SH) : Prop :=
 W.cond (slotOf [2, 3, 7, 61] vs_84 61) (
 (ref08_named_zt3 vs_84 L_86 Q)) (
 (ref08_named_zt9 Q vs_84 L_86))
def ref08_named_zt10 (vs_52 : List AV) (j_85 : W.Kn) (L_54 : SH)  : Prop :=
 W.bin Try.prog Fl .eql 3 (slotOf [2, 3, 7, 43] vs_52 7) (.int .i64 19) fun t65_115 =>
 j_85 [(slotOf [2, 3, 7, 43] vs_52 2), (slotOf [2, 3, 7, 43] vs_52 3), (slotOf [2, 3, 7, 43] vs_52 7), t65_115] L_54
def ref08_named_zt11 (vs_52 : List AV) (j_85 : W.Kn) (L_54 : SH)  : Prop :=
 W.bin Try.prog Fl .eql 3 (slotOf [2, 3, 7, 43] vs_52 7) (.int .i64 18) fun t64_114 =>
 W.cond t64_114 (
 j_85 [(slotOf [2, 3, 7, 43] vs_52 2), (slotOf [2, 3, 7, 43] vs_52 3), (slotOf [2, 3, 7, 43] vs_52 7), t64_114] L_54) (
 (ref08_named_zt10 vs_52 j_85 L_54))
def ref08_named_zt12 (vs_52 : List AV) (j_85 : W.Kn) (L_54 : SH)  : Prop :=
 W.bin Try.prog Fl .eql 3 (slotOf [2, 3, 7, 43] vs_52 7) (.int .i64 17) fun t63_113 =>
 W.cond t63_113 (
 j_85 [(slotOf [2, 3, 7, 43] vs_52 2), (slotOf [2, 3, 7, 43] vs_52 3), (slotOf [2, 3, 7, 43] vs_52 7), t63_113] L_54) (
 (ref08_named_zt11 vs_52 j_85 L_54))
def ref08_named_zt13 (Q : AV → SH → Prop) (vs_52 : List AV) (L_54 : SH)  : Prop :=
 W.join (ref08_named_j4 Q) fun j_85 =>
 W.bin Try.prog Fl .eql 3 (slotOf [2, 3, 7, 43] vs_52 7) (.int .i64 16) fun t62_112 =>
 W.cond t62_112 (
 j_85 [(slotOf [2, 3, 7, 43] vs_52 2), (slotOf [2, 3, 7, 43] vs_52 3), (slotOf [2, 3, 7, 43] vs_52 7), t62_112] L_54) (
 (ref08_named_zt12 vs_52 j_85 L_54))
def ref08_named_j5 (Q : AV → SH → Prop) (vs_52 : List AV) (L_54 : SH) : Prop :=
 W.cond (slotOf [2, 3, 7, 43] vs_52 43) (
 (ref08_named_zt2 vs_52 L_54 Q)) (
 (ref08_named_zt13 Q vs_52 L_54))
def ref08_named_zt14 (vs_16 : List AV) (j_53 : W.Kn) (L_18 : SH)  : Prop :=
 W.bin Try.prog Fl .eql 3 (slotOf [2, 3, 7, 26] vs_16 7) (.int .i64 11) fun t47_119 =>
 j_53 [(slotOf [2, 3, 7, 26] vs_16 2), (slotOf [2, 3, 7, 26] vs_16 3), (slotOf [2, 3, 7, 26] vs_16 7), t47_119] L_18
def ref08_named_zt15 (vs_16 : List AV) (j_53 : W.Kn) (L_18 : SH)  : Prop :=
 W.bin Try.prog Fl .eql 3 (slotOf [2, 3, 7, 26] vs_16 7) (.int .i64 10) fun t46_118 =>
 W.cond t46_118 (
 j_53 [(slotOf [2, 3, 7, 26] vs_16 2), (slotOf [2, 3, 7, 26] vs_16 3), (slotOf [2, 3, 7, 26] vs_16 7), t46_118] L_18) (
 (ref08_named_zt14 vs_16 j_53 L_18))
def ref08_named_zt16 (vs_16 : List AV) (j_53 : W.Kn) (L_18 : SH)  : Prop :=
 W.bin Try.prog Fl .eql 3 (slotOf [2, 3, 7, 26] vs_16 7) (.int .i64 9) fun t45_117 =>
 W.cond t45_117 (
 j_53 [(slotOf [2, 3, 7, 26] vs_16 2), (slotOf [2, 3, 7, 26] vs_16 3), (slotOf [2, 3, 7, 26] vs_16 7), t45_117] L_18) (
 (ref08_named_zt15 vs_16 j_53 L_18))
def ref08_named_zt17 (Q : AV → SH → Prop) (vs_16 : List AV) (L_18 : SH)  : Prop :=
 W.join (ref08_named_j5 Q) fun j_53 =>
 W.bin Try.prog Fl .eql 3 (slotOf [2, 3, 7, 26] vs_16 7) (.int .i64 8) fun t44_116 =>
 W.cond t44_116 (
 j_53 [(slotOf [2, 3, 7, 26] vs_16 2), (slotOf [2, 3, 7, 26] vs_16 3), (slotOf [2, 3, 7, 26] vs_16 7), t44_116] L_18) (
 (ref08_named_zt16 vs_16 j_53 L_18))
def ref08_named_j6 (Q : AV → SH → Prop) (vs_16 : List AV) (L_18 : SH) : Prop :=
 W.cond (slotOf [2, 3, 7, 26] vs_16 26) (
 (ref08_named_zt1 vs_16 L_18 Q)) (
 (ref08_named_zt17 Q vs_16 L_18))
def ref08_named_zt18 (vs_8 : List AV) (j_17 : W.Kn) (L_10 : SH)  : Prop :=
 W.bin Try.prog Fl .eql 3 (slotOf [2, 3, 7, 18] vs_8 7) (.int .i64 7) fun t28_121 =>
 j_17 [(slotOf [2, 3, 7, 18] vs_8 2), (slotOf [2, 3, 7, 18] vs_8 3), (slotOf [2, 3, 7, 18] vs_8 7), t28_121] L_10
def ref08_named_zt19 (Q : AV → SH → Prop) (vs_8 : List AV) (L_10 : SH)  : Prop :=
 W.join (ref08_named_j6 Q) fun j_17 =>
 W.bin Try.prog Fl .eql 3 (slotOf [2, 3, 7, 18] vs_8 7) (.int .i64 6) fun t27_120 =>
 W.cond t27_120 (
 j_17 [(slotOf [2, 3, 7, 18] vs_8 2), (slotOf [2, 3, 7, 18] vs_8 3), (slotOf [2, 3, 7, 18] vs_8 7), t27_120] L_10) (
 (ref08_named_zt18 vs_8 j_17 L_10))
def ref08_named_j7 (Q : AV → SH → Prop) (vs_8 : List AV) (L_10 : SH) : Prop :=
 W.cond (slotOf [2, 3, 7, 18] vs_8 18) (
 (ref08_named_zt0 vs_8 L_10 Q)) (
 (ref08_named_zt19 Q vs_8 L_10))
def ref08_named_zt20 (vs_4 : List AV) (j_9 : W.Kn) (L_6 : SH)  : Prop :=
 W.bin Try.prog Fl .eql 3 (slotOf [2, 3, 7, 8] vs_4 7) (.int .i64 4) fun t20_123 =>
 j_9 [(slotOf [2, 3, 7, 8] vs_4 2), (slotOf [2, 3, 7, 8] vs_4 3), (slotOf [2, 3, 7, 8] vs_4 7), t20_123] L_6
def ref08_named_zt21 (Q : AV → SH → Prop) (vs_4 : List AV) (L_6 : SH)  : Prop :=
 W.join (ref08_named_j7 Q) fun j_9 =>
 W.bin Try.prog Fl .eql 3 (slotOf [2, 3, 7, 8] vs_4 7) (.int .i64 3) fun t19_122 =>
 W.cond t19_122 (
 j_9 [(slotOf [2, 3, 7, 8] vs_4 2), (slotOf [2, 3, 7, 8] vs_4 3), (slotOf [2, 3, 7, 8] vs_4 7), t19_122] L_6) (
 (ref08_named_zt20 vs_4 j_9 L_6))
def ref08_named_j8 (Q : AV → SH → Prop) (vs_4 : List AV) (L_6 : SH) : Prop :=
 W.cond (slotOf [2, 3, 7, 8] vs_4 8) (
 W.bin Try.prog Fl .eql 3 (slotOf [2, 3, 7, 8] vs_4 2) (.int .i64 (-1)) fun t17_7 =>
 Q t17_7 L_6) (
 (ref08_named_zt21 Q vs_4 L_6))
def ref08_named_zt22 (t1 : AV) (j_5 : W.Kn) (t2 : AV) (t3_2 : AV) (L_3 : SH)  : Prop :=
 W.bin Try.prog Fl .eql 3 t1 (.int .i64 14) fun t14_129 =>
 W.cond t14_129 (
 j_5 [t2, t3_2, t1, t14_129] L_3) (
 W.bin Try.prog Fl .eql 3 t1 (.int .i64 15) fun t15_130 =>
 j_5 [t2, t3_2, t1, t15_130] L_3)
def ref08_named_zt23 (t1 : AV) (j_5 : W.Kn) (t2 : AV) (t3_2 : AV) (L_3 : SH)  : Prop :=
 W.bin Try.prog Fl .eql 3 t1 (.int .i64 12) fun t12_127 =>
 W.cond t12_127 (
 j_5 [t2, t3_2, t1, t12_127] L_3) (
 W.bin Try.prog Fl .eql 3 t1 (.int .i64 13) fun t13_128 =>
 W.cond t13_128 (
 j_5 [t2, t3_2, t1, t13_128] L_3) (
 (ref08_named_zt22 t1 j_5 t2 t3_2 L_3)))
def ref08_named_zt24 (t1 : AV) (j_5 : W.Kn) (t2 : AV) (t3_2 : AV) (L_3 : SH)  : Prop :=
 W.bin Try.prog Fl .eql 3 t1 (.int .i64 2) fun t10_125 =>
 W.cond t10_125 (
 j_5 [t2, t3_2, t1, t10_125] L_3) (
 W.bin Try.prog Fl .eql 3 t1 (.int .i64 5) fun t11_126 =>
 W.cond t11_126 (
 j_5 [t2, t3_2, t1, t11_126] L_3) (
 (ref08_named_zt23 t1 j_5 t2 t3_2 L_3)))
def ref08_named_w (t0 t1 t2 : AV) (L : SH) (Q : AV → SH → Prop) : Prop :=
 W.box t0 L fun t3_0 L_1 =>
 W.frz1 t3_0 L_1 fun t3_2 L_3 =>
 W.join (ref08_named_j8 Q) fun j_5 =>
 W.bin Try.prog Fl .eql 3 t1 (.int .i64 1) fun t9_124 =>
 W.cond t9_124 (
 j_5 [t2, t3_2, t1, t9_124] L_3) (
 (ref08_named_zt24 t1 j_5 t2 t3_2 L_3))
theorem ref08_named_e (t0 t1 t2 : AV) (L : SH) (Q : AV → SH → Prop) : W.func Try.prog Fl ref08_named_t Try.f63 (Try.f63.body.getD .skip) [t0, t1, t2] L Q = ref08_named_w t0 t1 t2 L Q := by kernel_rfl
theorem ref08_named_ok (t0 t1 t2 : AV) (L : SH) (Q : AV → SH → Prop) (h : ref08_named_w t0 t1 t2 L Q) : CallA Try.prog 63 [t0, t1, t2] L Q :=
  func_sound (ht := ref08_named_t) fit Try.func63 (show Try.f63.body = some (Try.f63.body.getD .skip) by kernel_rfl) (Eq.mpr (ref08_named_e t0 t1 t2 L Q) h)

def ref08_Enabled_t : Hints := ⟨fun k => if k = 19 then some [2, 4, 5, 6, 11, 70, 119] else if k = 33 then some [2, 4, 5, 6, 70, 160] else none, fun k => [], fun k => if k = 0 then [5, 6] else if k = 3 then [11] else [], fun k => if k = 8 then [0, 1, 3, 7, 15, 31, 15, 127, 255, 511, 1023, 2047, 1023, 5119, 1023, 29695, 62463, 127999, 262143, 524287, 1048575, 2097151, 4194303, 8388607] else if k = 34 then [0, 1, 0, 4, 0, 28, 60, 124, 255, 511, 1023, 0, 4095, 8191] else []⟩
def ref08_Enabled_zt0 (t11_65 : AV) (L_66 : SH) (t4 : AV) (t6_6 : AV) (t5_4 : AV) (Q : AV → SH → Prop)  : Prop :=
 (true = true) ∧ (
 W.faddr 0 t11_65 fun t44_72 =>
 W.calm [] ⟨1, (blocksOf t44_72), [], [], false, []⟩ (
 W.load false 1 t44_72 L_66 fun t45_73 =>
 W.note ⟨(blocksOf t44_72), [], [], []⟩ fun r_74 =>
 W.bin Try.prog Fl .eql 3 t45_73 (.int .i64 4) fun t46_75 =>
 W.dgrd t46_75 true (fun k_77 => W.faddr 1 t11_65 fun v_80 =>
 k_77 v_80 L_66 ⟨[], [], [], []⟩) L_66 fun t48_76 L_79 r_78 =>
 W.dgrd t46_75 true (fun k_82 => W.calm [] ⟨5, (blocksOf t48_76), [], [], false, []⟩ (
 W.load false 1 t48_76 L_79 fun v_85 =>
 W.note ⟨(blocksOf t48_76), [], [], []⟩ fun r_86 =>
 k_82 v_85 L_79 r_86)) L_79 fun t49_81 L_84 r_83 =>
 W.dgrd t46_75 true (fun k_88 => k_88 t4 L_84 ⟨[], [], [], []⟩) L_84 fun t50_87 L_90 r_89 =>
 W.dgrd t46_75 true (fun k_92 => W.bin Try.prog Fl .eql 3 t49_81 t50_87 fun v_95 =>
 k_92 v_95 L_90 ⟨[], [], [], []⟩) L_90 fun t51_91 L_94 r_93 =>
 W.pick t46_75 t51_91 (.bool false) fun t52_96 =>
 W.dgrd t52_96 true (fun k_98 => W.faddr 0 t6_6 fun v_101 =>
 k_98 v_101 L_94 ⟨[], [], [], []⟩) L_94 fun t54_97 L_100 r_99 =>
 W.dgrd t52_96 true (fun k_103 => W.calm [] ⟨11, (blocksOf t54_97), [], [], false, []⟩ (
 W.load false 1 t54_97 L_100 fun v_106 =>
 W.note ⟨(blocksOf t54_97), [], [], []⟩ fun r_107 =>
 k_103 v_106 L_100 r_107)) L_100 fun t55_102 L_105 r_104 =>
 W.dgrd t52_96 true (fun k_109 => W.faddr 2 t5_4 fun v_112 =>
 k_109 v_112 L_105 ⟨[], [], [], []⟩) L_105 fun t56_108 L_111 r_110 =>
 W.dgrd t52_96 true (fun k_114 => W.calm [⟨11, r_104.reads, r_104.writes, r_104.made, false, r_104.old⟩] ⟨13, (blocksOf t56_108), [], [], false, []⟩ (
 W.load false 1 t56_108 L_111 fun v_117 =>
 W.note ⟨(blocksOf t56_108), [], [], []⟩ fun r_118 =>
 k_114 v_117 L_111 r_118)) L_111 fun t57_113 L_116 r_115 =>
 W.dgrd t52_96 true (fun k_120 => k_120 t4 L_116 ⟨[], [], [], []⟩) L_116 fun t58_119 L_122 r_121 =>
 W.dgrd t52_96 true (fun k_124 => W.calm [⟨11, r_104.reads, r_104.writes, r_104.made, false, r_104.old⟩] ⟨15, (slOf t57_113), [], [], false, []⟩ (
 W.idx 2 t57_113 t58_119 L_122 fun v_127 =>
 W.note ⟨(slOf t57_113), [], [], []⟩ fun r_128 =>
 k_124 v_127 L_122 r_128)) L_122 fun t59_123 L_126 r_125 =>
 W.dgrd t52_96 true (fun k_130 => W.faddr 1 t59_123 fun v_133 =>
 k_130 v_133 L_126 ⟨[], [], [], []⟩) L_126 fun t60_129 L_132 r_131 =>
 W.dgrd t52_96 true (fun k_135 => W.calm [⟨11, r_104.reads, r_104.writes, r_104.made, false, r_104.old⟩] ⟨17, (blocksOf t60_129), [], [], false, []⟩ (
 W.load false 1 t60_129 L_132 fun v_138 =>
 W.note ⟨(blocksOf t60_129), [], [], []⟩ fun r_139 =>
 k_135 v_138 L_132 r_139)) L_132 fun t61_134 L_137 r_136 =>
 W.dgrd t52_96 true (fun k_141 => W.calm [] ⟨18, (slOf t55_102), [], [], false, []⟩ (
 W.idx 2 t55_102 t61_134 L_137 fun v_144 =>
 W.note ⟨(slOf t55_102), [], [], []⟩ fun r_145 =>
 k_141 v_144 L_137 r_145)) L_137 fun t62_140 L_143 r_142 =>
 W.dgrd t52_96 true (fun k_147 => W.faddr 0 t62_140 fun v_150 =>
 k_147 v_150 L_143 ⟨[], [], [], []⟩) L_143 fun t63_146 L_149 r_148 =>
 W.dgrd t52_96 true (fun k_152 => W.calm [] ⟨20, (blocksOf t63_146), [], [], false, []⟩ (
 W.load false 1 t63_146 L_149 fun v_155 =>
 W.note ⟨(blocksOf t63_146), [], [], []⟩ fun r_156 =>
 k_152 v_155 L_149 r_156)) L_149 fun t64_151 L_154 r_153 =>
 W.dgrd t52_96 true (fun k_158 => W.bin Try.prog Fl .eql 3 t64_151 (.int .i64 (-1)) fun v_161 =>
 k_158 v_161 L_154 ⟨[], [], [], []⟩) L_154 fun t65_157 L_160 r_159 =>
 W.pick t52_96 t65_157 (.bool false) fun t66_162 =>
 Q t66_162 L_160))
def ref08_Enabled_zt1 (t6_6 : AV) (L_66 : SH) (t4 : AV) (Q : AV → SH → Prop)  : Prop :=
 W.faddr 0 t6_6 fun t73_167 =>
 W.load false 1 t73_167 L_66 fun t74_168 =>
 W.idx 2 t74_168 t4 L_66 fun t76_169 =>
 W.faddr 0 t76_169 fun t77_170 =>
 W.load false 1 t77_170 L_66 fun t78_171 =>
 W.bin Try.prog Fl .eql 3 t78_171 (.int .i64 (-1)) fun t79_172 =>
 Q t79_172 L_66
def ref08_Enabled_zt2 (t6_6 : AV) (L_66 : SH) (t4 : AV) (Q : AV → SH → Prop)  : Prop :=
 W.faddr 0 t6_6 fun t82_174 =>
 W.load false 1 t82_174 L_66 fun t83_175 =>
 W.idx 2 t83_175 t4 L_66 fun t85_176 =>
 W.faddr 0 t85_176 fun t86_177 =>
 W.load false 1 t86_177 L_66 fun t87_178 =>
 W.bin Try.prog Fl .eql 3 t87_178 (.int .i64 (-1)) fun t88_179 =>
 W.grd t88_179 true (fun k_181 => W.faddr 0 t6_6 fun v_183 =>
 k_181 v_183 L_66) L_66 fun t90_180 L_182 =>
 W.grd t88_179 true (fun k_185 => W.load false 1 t90_180 L_182 fun v_187 =>
 k_185 v_187 L_182) L_182 fun t91_184 L_186 =>
 W.grd t88_179 true (fun k_189 => k_189 t4 L_186) L_186 fun t92_188 L_190 =>
 W.grd t88_179 true (fun k_192 => W.idx 2 t91_184 t92_188 L_190 fun v_194 =>
 k_192 v_194 L_190) L_190 fun t93_191 L_193 =>
 W.grd t88_179 true (fun k_196 => W.faddr 1 t93_191 fun v_198 =>
 k_196 v_198 L_193) L_193 fun t94_195 L_197 =>
 W.grd t88_179 true (fun k_200 => W.load false 1 t94_195 L_197 fun v_202 =>
 k_200 v_202 L_197) L_197 fun t95_199 L_201 =>
 W.grd t88_179 true (fun k_204 => W.len t95_199 fun v_206 =>
 k_204 v_206 L_201) L_201 fun t96_203 L_205 =>
 W.grd t88_179 true (fun k_208 => W.bin Try.prog Fl .eql 3 t96_203 (.int .i64 0) fun v_210 =>
 k_208 v_210 L_205) L_205 fun t97_207 L_209 =>
 W.pick t88_179 t97_207 (.bool false) fun t98_211 =>
 Q t98_211 L_209
def ref08_Enabled_zt3 (t6_6 : AV) (L_66 : SH) (t4 : AV) (t2 : AV) (Q : AV → SH → Prop)  : Prop :=
 W.faddr 0 t6_6 fun t101_213 =>
 W.load false 1 t101_213 L_66 fun t102_214 =>
 W.idx 2 t102_214 t4 L_66 fun t104_215 =>
 W.faddr 0 t104_215 fun t105_216 =>
 W.load false 1 t105_216 L_66 fun t106_217 =>
 W.bin Try.prog Fl .eql 3 t106_217 (.int .i64 (-1)) fun t107_218 =>
 W.grd t107_218 true (fun k_220 => W.faddr 0 t6_6 fun v_222 =>
 k_220 v_222 L_66) L_66 fun t109_219 L_221 =>
 W.grd t107_218 true (fun k_224 => W.load false 1 t109_219 L_221 fun v_226 =>
 k_224 v_226 L_221) L_221 fun t110_223 L_225 =>
 W.grd t107_218 true (fun k_228 => k_228 t4 L_225) L_225 fun t111_227 L_229 =>
 W.grd t107_218 true (fun k_231 => W.idx 2 t110_223 t111_227 L_229 fun v_233 =>
 k_231 v_233 L_229) L_229 fun t112_230 L_232 =>
 W.grd t107_218 true (fun k_235 => W.faddr 1 t112_230 fun v_237 =>
 k_235 v_237 L_232) L_232 fun t113_234 L_236 =>
 W.grd t107_218 true (fun k_239 => W.load false 1 t113_234 L_236 fun v_241 =>
 k_239 v_241 L_236) L_236 fun t114_238 L_240 =>
 W.grd t107_218 true (fun k_243 => k_243 t2 L_240) L_240 fun t115_242 L_244 =>
 W.grd t107_218 true (fun k_246 => W.call Try.prog (.fn 15 []) [t114_238, t115_242] L_244 fun v_248 L_249 =>
 k_246 v_248 L_249) L_244 fun t116_245 L_247 =>
 W.grd t107_218 true (fun k_251 => W.un .not t116_245 fun v_253 =>
 k_251 v_253 L_247) L_247 fun t117_250 L_252 =>
 W.pick t107_218 t117_250 (.bool false) fun t118_254 =>
 Q t118_254 L_252
def ref08_Enabled_zt4 (vs_255 : List AV) (L_257 : SH) (Q : AV → SH → Prop)  : Prop :=
 W.faddr 0 (slotOf [2, 4, 5, 6, 11, 70, 119] vs_255 6) fun t122_258 =>
 W.load false 1 t122_258 L_257 fun t123_259 =>
 W.idx 2 t123_259 (slotOf [2, 4, 5, 6, 11, 70, 119] vs_255 4) L_257 fun t125_260 =>
 W.faddr 0 t125_260 fun t126_261 =>
 W.load false 1 t126_261 L_257 fun t127_262 =>
 W.bin Try.prog Fl .eql 3 t127_262 (slotOf [2, 4, 5, 6, 11, 70, 119] vs_255 2) fun t129_263 =>
 Q t129_263 L_257
def ref08_Enabled_zt5 (vs_255 : List AV) (L_257 : SH) (Q : AV → SH → Prop)  : Prop :=
 W.faddr 0 (slotOf [2, 4, 5, 6, 11, 70, 119] vs_255 6) fun t132_265 =>
 W.load false 1 t132_265 L_257 fun t133_266 =>
 W.idx 2 t133_266 (slotOf [2, 4, 5, 6, 11, 70, 119] vs_255 4) L_257 fun t135_267 =>
 W.faddr 1 t135_267 fun t136_268 =>
 W.load false 1 t136_268 L_257 fun t137_269 =>
 W.call Try.prog (.fn 15 []) [t137_269, (slotOf [2, 4, 5, 6, 11, 70, 119] vs_255 2)] L_257 fun t139_270 L_271 =>
 Q t139_270 L_271
def ref08_Enabled_zt6 (vs_255 : List AV) (L_257 : SH) (Q : AV → SH → Prop)  : Prop :=
 W.faddr 1 (slotOf [2, 4, 5, 6, 11, 70, 119] vs_255 6) fun t142_273 =>
 W.load false 1 t142_273 L_257 fun t143_274 =>
 W.bin Try.prog Fl .eql 3 t143_274 (.int .i64 (-1)) fun t144_275 =>
 Q t144_275 L_257
def ref08_Enabled_zt7 (vs_255 : List AV) (L_257 : SH) (Q : AV → SH → Prop)  : Prop :=
 W.faddr 1 (slotOf [2, 4, 5, 6, 11, 70, 119] vs_255 6) fun t147_277 =>
 W.load false 1 t147_277 L_257 fun t148_278 =>
 W.bin Try.prog Fl .eql 3 t148_278 (slotOf [2, 4, 5, 6, 11, 70, 119] vs_255 2) fun t150_279 =>
 Q t150_279 L_257
def ref08_Enabled_zt8 (vs_255 : List AV) (L_257 : SH) (Q : AV → SH → Prop)  : Prop :=
 W.faddr 2 (slotOf [2, 4, 5, 6, 11, 70, 119] vs_255 11) fun t153_281 =>
 W.load false 1 t153_281 L_257 fun t154_282 =>
 W.un .not t154_282 fun t155_283 =>
 Q t155_283 L_257
def ref08_Enabled_zt9 (vs_287 : List AV) (L_289 : SH) (Q : AV → SH → Prop)  : Prop :=
 (true = true) ∧ (
 W.faddr 0 (slotOf [2, 4, 5, 6, 70, 160] vs_287 6) fun t164_290 =>
 W.calm [] ⟨1, (blocksOf t164_290), [], [], false, []⟩ (
 W.load false 1 t164_290 L_289 fun t165_291 =>
 W.note ⟨(blocksOf t164_290), [], [], []⟩ fun r_292 =>
 W.faddr 2 (slotOf [2, 4, 5, 6, 70, 160] vs_287 5) fun t166_293 =>
 W.calm [⟨1, r_292.reads, r_292.writes, r_292.made, false, r_292.old⟩] ⟨3, (blocksOf t166_293), [], [], false, []⟩ (
 W.load false 1 t166_293 L_289 fun t167_294 =>
 W.note ⟨(blocksOf t166_293), [], [], []⟩ fun r_295 =>
 W.calm [⟨1, r_292.reads, r_292.writes, r_292.made, false, r_292.old⟩] ⟨5, (slOf t167_294), [], [], false, []⟩ (
 W.idx 2 t167_294 (slotOf [2, 4, 5, 6, 70, 160] vs_287 4) L_289 fun t169_296 =>
 W.note ⟨(slOf t167_294), [], [], []⟩ fun r_297 =>
 W.faddr 1 t169_296 fun t170_298 =>
 W.calm [⟨1, r_292.reads, r_292.writes, r_292.made, false, r_292.old⟩] ⟨7, (blocksOf t170_298), [], [], false, []⟩ (
 W.load false 1 t170_298 L_289 fun t171_299 =>
 W.note ⟨(blocksOf t170_298), [], [], []⟩ fun r_300 =>
 W.calm [] ⟨8, (slOf t165_291), [], [], false, []⟩ (
 W.idx 2 t165_291 t171_299 L_289 fun t172_301 =>
 W.note ⟨(slOf t165_291), [], [], []⟩ fun r_302 =>
 W.faddr 0 t172_301 fun t173_303 =>
 W.calm [] ⟨10, (blocksOf t173_303), [], [], false, []⟩ (
 W.load false 1 t173_303 L_289 fun t174_304 =>
 W.note ⟨(blocksOf t173_303), [], [], []⟩ fun r_305 =>
 W.bin Try.prog Fl .eql 3 t174_304 (slotOf [2, 4, 5, 6, 70, 160] vs_287 2) fun t176_306 =>
 Q t176_306 L_289)))))))
def ref08_Enabled_zt10 (vs_287 : List AV) (L_289 : SH) (Q : AV → SH → Prop)  : Prop :=
 W.bin Try.prog Fl .neq 3 (slotOf [2, 4, 5, 6, 70, 160] vs_287 4) (slotOf [2, 4, 5, 6, 70, 160] vs_287 2) fun t181_308 =>
 W.grd t181_308 true (fun k_310 => W.faddr 3 (slotOf [2, 4, 5, 6, 70, 160] vs_287 6) fun v_312 =>
 k_310 v_312 L_289) L_289 fun t183_309 L_311 =>
 W.grd t181_308 true (fun k_314 => W.load false 1 t183_309 L_311 fun v_316 =>
 k_314 v_316 L_311) L_311 fun t184_313 L_315 =>
 W.grd t181_308 true (fun k_318 => k_318 (slotOf [2, 4, 5, 6, 70, 160] vs_287 4) L_315) L_315 fun t185_317 L_319 =>
 W.grd t181_308 true (fun k_321 => W.idx 3 t184_313 t185_317 L_319 fun v_323 =>
 k_321 v_323 L_319) L_319 fun t186_320 L_322 =>
 W.grd t181_308 true (fun k_325 => W.faddr 0 t186_320 fun v_327 =>
 k_325 v_327 L_322) L_322 fun t187_324 L_326 =>
 W.grd t181_308 true (fun k_329 => W.load false 1 t187_324 L_326 fun v_331 =>
 k_329 v_331 L_326) L_326 fun t188_328 L_330 =>
 W.grd t181_308 true (fun k_333 => W.bin Try.prog Fl .eql 3 t188_328 (.int .i64 0) fun v_335 =>
 k_333 v_335 L_330) L_330 fun t189_332 L_334 =>
 W.pick t181_308 t189_332 (.bool false) fun t190_336 =>
 Q t190_336 L_334
def ref08_Enabled_zt11 (vs_287 : List AV) (L_289 : SH) (Q : AV → SH → Prop)  : Prop :=
 W.bin Try.prog Fl .neq 3 (slotOf [2, 4, 5, 6, 70, 160] vs_287 4) (slotOf [2, 4, 5, 6, 70, 160] vs_287 2) fun t195_338 =>
 W.grd t195_338 true (fun k_340 => W.faddr 3 (slotOf [2, 4, 5, 6, 70, 160] vs_287 6) fun v_342 =>
 k_340 v_342 L_289) L_289 fun t197_339 L_341 =>
 W.grd t195_338 true (fun k_344 => W.load false 1 t197_339 L_341 fun v_346 =>
 k_344 v_346 L_341) L_341 fun t198_343 L_345 =>
 W.grd t195_338 true (fun k_348 => k_348 (slotOf [2, 4, 5, 6, 70, 160] vs_287 4) L_345) L_345 fun t199_347 L_349 =>
 W.grd t195_338 true (fun k_351 => W.idx 3 t198_343 t199_347 L_349 fun v_353 =>
 k_351 v_353 L_349) L_349 fun t200_350 L_352 =>
 W.grd t195_338 true (fun k_355 => W.faddr 0 t200_350 fun v_357 =>
 k_355 v_357 L_352) L_352 fun t201_354 L_356 =>
 W.grd t195_338 true (fun k_359 => W.load false 1 t201_354 L_356 fun v_361 =>
 k_359 v_361 L_356) L_356 fun t202_358 L_360 =>
 W.grd t195_338 true (fun k_363 => W.bin Try.prog Fl .eql 3 t202_358 (.int .i64 5) fun v_365 =>
 k_363 v_365 L_360) L_360 fun t203_362 L_364 =>
 W.pick t195_338 t203_362 (.bool false) fun t204_366 =>
 Q t204_366 L_364
def ref08_Enabled_zt12 (vs_287 : List AV) (L_289 : SH) (Q : AV → SH → Prop)  : Prop :=
 W.faddr 2 (slotOf [2, 4, 5, 6, 70, 160] vs_287 6) fun t207_368 =>
 W.load false 1 t207_368 L_289 fun t208_369 =>
 W.idx 1 t208_369 (slotOf [2, 4, 5, 6, 70, 160] vs_287 4) L_289 fun t210_370 =>
 W.load false 1 t210_370 L_289 fun t211_371 =>
 W.un .not t211_371 fun t212_372 =>
 Q t212_372 L_289
def ref08_Enabled_zt13 (vs_287 : List AV) (L_289 : SH) (Q : AV → SH → Prop)  : Prop :=
 W.faddr 2 (slotOf [2, 4, 5, 6, 70, 160] vs_287 6) fun t215_374 =>
 W.load false 1 t215_374 L_289 fun t216_375 =>
 W.idx 1 t216_375 (slotOf [2, 4, 5, 6, 70, 160] vs_287 4) L_289 fun t218_376 =>
 W.load false 1 t218_376 L_289 fun t219_377 =>
 Q t219_377 L_289
def ref08_Enabled_zt14 (vs_287 : List AV) (L_289 : SH) (Q : AV → SH → Prop)  : Prop :=
 W.bin Try.prog Fl .eql 3 (slotOf [2, 4, 5, 6, 70, 160] vs_287 70) (.int .i64 23) fun t214_373 =>
 W.cond t214_373 (
 (ref08_Enabled_zt13 vs_287 L_289 Q)) (
 Q (.bool true) L_289)
def ref08_Enabled_zt15 (vs_287 : List AV) (L_289 : SH) (Q : AV → SH → Prop)  : Prop :=
 W.bin Try.prog Fl .eql 3 (slotOf [2, 4, 5, 6, 70, 160] vs_287 70) (.int .i64 22) fun t206_367 =>
 W.cond t206_367 (
 (ref08_Enabled_zt12 vs_287 L_289 Q)) (
 (ref08_Enabled_zt14 vs_287 L_289 Q))
def ref08_Enabled_zt16 (vs_287 : List AV) (L_289 : SH) (Q : AV → SH → Prop)  : Prop :=
 W.bin Try.prog Fl .eql 3 (slotOf [2, 4, 5, 6, 70, 160] vs_287 70) (.int .i64 21) fun t192_337 =>
 W.cond t192_337 (
 (ref08_Enabled_zt11 vs_287 L_289 Q)) (
 (ref08_Enabled_zt15 vs_287 L_289 Q))
def ref08_Enabled_zt17 (vs_287 : List AV) (L_289 : SH) (Q : AV → SH → Prop)  : Prop :=
 W.bin Try.prog Fl .eql 3 (slotOf [2, 4, 5, 6, 70, 160] vs_287 70) (.int .i64 20) fun t178_307 =>
 W.cond t178_307 (
 (ref08_Enabled_zt10 vs_287 L_289 Q)) (
 (ref08_Enabled_zt16 vs_287 L_289 Q))
def ref08_Enabled_j0 (Q : AV → SH → Prop) (vs_287 : List AV) (L_289 : SH) : Prop :=
 W.cond (slotOf [2, 4, 5, 6, 70, 160] vs_287 160) (
 (ref08_Enabled_zt9 vs_287 L_289 Q)) (
 (ref08_Enabled_zt17 vs_287 L_289 Q))
def ref08_Enabled_zt18 (j_288 : W.Kn) (vs_255 : List AV) (t161_378 : AV) (L_257 : SH)  : Prop :=
 j_288 [(slotOf [2, 4, 5, 6, 11, 70, 119] vs_255 2), (slotOf [2, 4, 5, 6, 11, 70, 119] vs_255 4), (slotOf [2, 4, 5, 6, 11, 70, 119] vs_255 5), (slotOf [2, 4, 5, 6, 11, 70, 119] vs_255 6), (slotOf [2, 4, 5, 6, 11, 70, 119] vs_255 70), t161_378] L_257
def ref08_Enabled_zt19 (j_288 : W.Kn) (vs_255 : List AV) (t162_379 : AV) (L_257 : SH)  : Prop :=
 j_288 [(slotOf [2, 4, 5, 6, 11, 70, 119] vs_255 2), (slotOf [2, 4, 5, 6, 11, 70, 119] vs_255 4), (slotOf [2, 4, 5, 6, 11, 70, 119] vs_255 5), (slotOf [2, 4, 5, 6, 11, 70, 119] vs_255 6), (slotOf [2, 4, 5, 6, 11, 70, 119] vs_255 70), t162_379] L_257
def ref08_Enabled_zt20 (vs_255 : List AV) (j_288 : W.Kn) (L_257 : SH)  : Prop :=
 W.bin Try.prog Fl .eql 3 (slotOf [2, 4, 5, 6, 11, 70, 119] vs_255 70) (.int .i64 19) fun t163_380 =>
 j_288 [(slotOf [2, 4, 5, 6, 11, 70, 119] vs_255 2), (slotOf [2, 4, 5, 6, 11, 70, 119] vs_255 4), (slotOf [2, 4, 5, 6, 11, 70, 119] vs_255 5), (slotOf [2, 4, 5, 6, 11, 70, 119] vs_255 6), (slotOf [2, 4, 5, 6, 11, 70, 119] vs_255 70), t163_380] L_257
def ref08_Enabled_zt21 (vs_255 : List AV) (j_288 : W.Kn) (L_257 : SH)  : Prop :=
 W.bin Try.prog Fl .eql 3 (slotOf [2, 4, 5, 6, 11, 70, 119] vs_255 70) (.int .i64 18) fun t162_379 =>
 W.cond t162_379 (
 (ref08_Enabled_zt19 j_288 vs_255 t162_379 L_257)) (
 (ref08_Enabled_zt20 vs_255 j_288 L_257))
def ref08_Enabled_zt22 (Q : AV → SH → Prop) (vs_255 : List AV) (L_257 : SH)  : Prop :=
 W.join (ref08_Enabled_j0 Q) fun j_288 =>
 W.bin Try.prog Fl .eql 3 (slotOf [2, 4, 5, 6, 11, 70, 119] vs_255 70) (.int .i64 16) fun t161_378 =>
 W.cond t161_378 (
 (ref08_Enabled_zt18 j_288 vs_255 t161_378 L_257)) (
 (ref08_Enabled_zt21 vs_255 j_288 L_257))
def ref08_Enabled_zt23 (vs_255 : List AV) (L_257 : SH) (Q : AV → SH → Prop)  : Prop :=
 W.bin Try.prog Fl .eql 3 (slotOf [2, 4, 5, 6, 11, 70, 119] vs_255 70) (.int .i64 15) fun t157_284 =>
 W.cond t157_284 (
 W.faddr 2 (slotOf [2, 4, 5, 6, 11, 70, 119] vs_255 11) fun t158_285 =>
 W.load false 1 t158_285 L_257 fun t159_286 =>
 Q t159_286 L_257) (
 (ref08_Enabled_zt22 Q vs_255 L_257))
def ref08_Enabled_zt24 (vs_255 : List AV) (L_257 : SH) (Q : AV → SH → Prop)  : Prop :=
 W.bin Try.prog Fl .eql 3 (slotOf [2, 4, 5, 6, 11, 70, 119] vs_255 70) (.int .i64 14) fun t152_280 =>
 W.cond t152_280 (
 (ref08_Enabled_zt8 vs_255 L_257 Q)) (
 (ref08_Enabled_zt23 vs_255 L_257 Q))
def ref08_Enabled_zt25 (vs_255 : List AV) (L_257 : SH) (Q : AV → SH → Prop)  : Prop :=
 W.bin Try.prog Fl .eql 3 (slotOf [2, 4, 5, 6, 11, 70, 119] vs_255 70) (.int .i64 13) fun t146_276 =>
 W.cond t146_276 (
 (ref08_Enabled_zt7 vs_255 L_257 Q)) (
 (ref08_Enabled_zt24 vs_255 L_257 Q))
def ref08_Enabled_zt26 (vs_255 : List AV) (L_257 : SH) (Q : AV → SH → Prop)  : Prop :=
 W.bin Try.prog Fl .eql 3 (slotOf [2, 4, 5, 6, 11, 70, 119] vs_255 70) (.int .i64 12) fun t141_272 =>
 W.cond t141_272 (
 (ref08_Enabled_zt6 vs_255 L_257 Q)) (
 (ref08_Enabled_zt25 vs_255 L_257 Q))
def ref08_Enabled_zt27 (vs_255 : List AV) (L_257 : SH) (Q : AV → SH → Prop)  : Prop :=
 W.bin Try.prog Fl .eql 3 (slotOf [2, 4, 5, 6, 11, 70, 119] vs_255 70) (.int .i64 9) fun t131_264 =>
 W.cond t131_264 (
 (ref08_Enabled_zt5 vs_255 L_257 Q)) (
 (ref08_Enabled_zt26 vs_255 L_257 Q))
def ref08_Enabled_j1 (Q : AV → SH → Prop) (vs_255 : List AV) (L_257 : SH) : Prop :=
 W.cond (slotOf [2, 4, 5, 6, 11, 70, 119] vs_255 119) (
 (ref08_Enabled_zt4 vs_255 L_257 Q)) (
 (ref08_Enabled_zt27 vs_255 L_257 Q))
def ref08_Enabled_zt28 (Q : AV → SH → Prop) (t3 : AV) (t2 : AV) (t4 : AV) (t5_4 : AV) (t6_6 : AV) (t11_65 : AV) (L_66 : SH)  : Prop :=
 W.join (ref08_Enabled_j1 Q) fun j_256 =>
 W.bin Try.prog Fl .eql 3 t3 (.int .i64 7) fun t120_381 =>
 W.cond t120_381 (
 j_256 [t2, t4, t5_4, t6_6, t11_65, t3, t120_381] L_66) (
 W.bin Try.prog Fl .eql 3 t3 (.int .i64 11) fun t121_382 =>
 j_256 [t2, t4, t5_4, t6_6, t11_65, t3, t121_382] L_66)
def ref08_Enabled_zt29 (t3 : AV) (t6_6 : AV) (L_66 : SH) (t4 : AV) (t2 : AV) (Q : AV → SH → Prop) (t5_4 : AV) (t11_65 : AV)  : Prop :=
 W.bin Try.prog Fl .eql 3 t3 (.int .i64 8) fun t100_212 =>
 W.cond t100_212 (
 (ref08_Enabled_zt3 t6_6 L_66 t4 t2 Q)) (
 (ref08_Enabled_zt28 Q t3 t2 t4 t5_4 t6_6 t11_65 L_66))
def ref08_Enabled_zt30 (t3 : AV) (t6_6 : AV) (L_66 : SH) (t4 : AV) (Q : AV → SH → Prop) (t2 : AV) (t5_4 : AV) (t11_65 : AV)  : Prop :=
 W.bin Try.prog Fl .eql 3 t3 (.int .i64 10) fun t81_173 =>
 W.cond t81_173 (
 (ref08_Enabled_zt2 t6_6 L_66 t4 Q)) (
 (ref08_Enabled_zt29 t3 t6_6 L_66 t4 t2 Q t5_4 t11_65))
def ref08_Enabled_zt31 (t3 : AV) (t6_6 : AV) (L_66 : SH) (t4 : AV) (Q : AV → SH → Prop) (t2 : AV) (t5_4 : AV) (t11_65 : AV)  : Prop :=
 W.bin Try.prog Fl .eql 3 t3 (.int .i64 6) fun t72_166 =>
 W.cond t72_166 (
 (ref08_Enabled_zt1 t6_6 L_66 t4 Q)) (
 (ref08_Enabled_zt30 t3 t6_6 L_66 t4 Q t2 t5_4 t11_65))
def ref08_Enabled_zt32 (t11_65 : AV) (L_66 : SH) (Q : AV → SH → Prop) (t3 : AV) (t6_6 : AV) (t4 : AV) (t2 : AV) (t5_4 : AV)  : Prop :=
 W.faddr 0 t11_65 fun t67_163 =>
 W.load false 1 t67_163 L_66 fun t68_164 =>
 W.bin Try.prog Fl .neq 3 t68_164 (.int .i64 2) fun t69_165 =>
 W.cond t69_165 (
 Q (.bool false) L_66) (
 (ref08_Enabled_zt31 t3 t6_6 L_66 t4 Q t2 t5_4 t11_65))
def ref08_Enabled_zt33 (t3 : AV) (t11_65 : AV) (L_66 : SH) (t4 : AV) (t6_6 : AV) (t5_4 : AV) (Q : AV → SH → Prop) (t2 : AV)  : Prop :=
 W.bin Try.prog Fl .eql 3 t3 (.int .i64 17) fun t43_71 =>
 W.cond t43_71 (
 (ref08_Enabled_zt0 t11_65 L_66 t4 t6_6 t5_4 Q)) (
 (ref08_Enabled_zt32 t11_65 L_66 Q t3 t6_6 t4 t2 t5_4))
def ref08_Enabled_zt34 (t6_6 : AV) (L_55 : SH) (t2 : AV) (t3 : AV) (Q : AV → SH → Prop) (t4 : AV) (t5_4 : AV)  : Prop :=
 W.faddr 3 t6_6 fun t31_58 =>
 W.load false 1 t31_58 L_55 fun t32_59 =>
 W.idx 3 t32_59 t2 L_55 fun t34_60 =>
 W.load true 3 t34_60 L_55 fun t35_61 =>
 W.alloc [(.int .i64 0), (.int .i64 0), (.bool false)] L_55 fun t11_62 L_63 =>
 W.store 3 t11_62 t35_61 L_63 fun L_64 =>
 W.frz1 t11_62 L_64 fun t11_65 L_66 =>
 W.bin Try.prog Fl .eql 3 t3 (.int .i64 1) fun t38_67 =>
 W.cond t38_67 (
 W.faddr 0 t11_65 fun t39_68 =>
 W.load false 1 t39_68 L_66 fun t40_69 =>
 W.bin Try.prog Fl .eql 3 t40_69 (.int .i64 1) fun t41_70 =>
 Q t41_70 L_66) (
 (ref08_Enabled_zt33 t3 t11_65 L_66 t4 t6_6 t5_4 Q t2))
def ref08_Enabled_c2 (t2 : AV) (t5_4 : AV) (t3 : AV) (t4 : AV) (Q : AV → SH → Prop) (t6_6 : AV) (t14_10 : AV) (L_11 : SH) : Prop :=
 W.un .not t14_10 fun t15_12 =>
 W.grd t15_12 false (fun k_14 => k_14 t2 L_11) L_11 fun t17_13 L_15 =>
 W.grd t15_12 false (fun k_17 => W.faddr 4 t5_4 fun v_19 =>
 k_17 v_19 L_15) L_15 fun t18_16 L_18 =>
 W.grd t15_12 false (fun k_21 => W.load false 1 t18_16 L_18 fun v_23 =>
 k_21 v_23 L_18) L_18 fun t19_20 L_22 =>
 W.grd t15_12 false (fun k_25 => W.len t19_20 fun v_27 =>
 k_25 v_27 L_22) L_22 fun t20_24 L_26 =>
 W.grd t15_12 false (fun k_29 => W.call Try.prog (.fn 61 []) [t17_13, t20_24] L_26 fun v_31 L_32 =>
 k_29 v_31 L_32) L_26 fun t21_28 L_30 =>
 W.grd t15_12 false (fun k_34 => W.un .not t21_28 fun v_36 =>
 k_34 v_36 L_30) L_30 fun t22_33 L_35 =>
 W.pick t15_12 (.bool true) t22_33 fun t23_37 =>
 W.grd t23_37 false (fun k_39 => W.load true 6 t5_4 L_35 fun v_41 =>
 k_39 v_41 L_35) L_35 fun t25_38 L_40 =>
 W.grd t23_37 false (fun k_43 => k_43 t3 L_40) L_40 fun t26_42 L_44 =>
 W.grd t23_37 false (fun k_46 => k_46 t4 L_44) L_44 fun t27_45 L_47 =>
 W.grd t23_37 false (fun k_49 => W.call Try.prog (.fn 63 []) [t25_38, t26_42, t27_45] L_47 fun v_51 L_52 =>
 k_49 v_51 L_52) L_47 fun t28_48 L_50 =>
 W.grd t23_37 false (fun k_54 => W.un .not t28_48 fun v_56 =>
 k_54 v_56 L_50) L_50 fun t29_53 L_55 =>
 W.pick t23_37 (.bool true) t29_53 fun t30_57 =>
 W.cond t30_57 (
 Q (.bool false) L_55) (
 (ref08_Enabled_zt34 t6_6 L_55 t2 t3 Q t4 t5_4))
def ref08_Enabled_w (t0 t1 t2 t3 t4 : AV) (L : SH) (Q : AV → SH → Prop) : Prop :=
 W.box t0 L fun t5_0 L_1 =>
 W.box t1 L_1 fun t6_2 L_3 =>
 W.frz1 t5_0 L_3 fun t5_4 L_5 =>
 W.frz1 t6_2 L_5 fun t6_6 L_7 =>
 W.load true 6 t5_4 L_7 fun t12_8 =>
 W.load true 4 t6_6 L_7 fun t13_9 =>
 W.call Try.prog (.fn 38 []) [t12_8, t13_9] L_7 (ref08_Enabled_c2 t2 t5_4 t3 t4 Q t6_6)
theorem ref08_Enabled_e (t0 t1 t2 t3 t4 : AV) (L : SH) (Q : AV → SH → Prop) : W.func Try.prog Fl ref08_Enabled_t Try.f55 (Try.f55.body.getD .skip) [t0, t1, t2, t3, t4] L Q = ref08_Enabled_w t0 t1 t2 t3 t4 L Q := by kernel_rfl
theorem ref08_Enabled_ok (t0 t1 t2 t3 t4 : AV) (L : SH) (Q : AV → SH → Prop) (h : ref08_Enabled_w t0 t1 t2 t3 t4 L Q) : CallA Try.prog 55 [t0, t1, t2, t3, t4] L Q :=
  func_sound (ht := ref08_Enabled_t) fit Try.func55 (show Try.f55.body = some (Try.f55.body.getD .skip) by kernel_rfl) (Eq.mpr (ref08_Enabled_e t0 t1 t2 t3 t4 L Q) h)

def ref08_Copy_t : Hints := ⟨fun k => none, fun k => if k = 3 then [1, 2, 3, 4] else [], fun k => if k = 0 then [1] else [], fun k => if k = 1 then [0, 1, 0, 0, 8, 28, 0, 0, 128, 508, 1023, 0, 4095] else if k = 5 then [0, 1, 0, 4, 0, 28, 60, 124, 0, 0, 512, 0, 3584, 7680, 15872, 32512, 65532, 131068, 262143, 524287, 1048575] else []⟩
def ref08_Copy_zt0 (vs_33 : List AV) (L_35 : SH) (nx_34 : W.Kn)  : Prop :=
 (true = true) ∧ (
 W.faddr 0 (slotOf [1, 2, 3, 4] vs_33 3) fun t23_40 =>
 W.calm [] ⟨1, (blocksOf t23_40), [], [], false, []⟩ (
 W.load false 1 t23_40 L_35 fun t24_41 =>
 W.note ⟨(blocksOf t23_40), [], [], []⟩ fun r_42 =>
 W.faddr 0 (slotOf [1, 2, 3, 4] vs_33 1) fun t25_43 =>
 W.calm [⟨1, r_42.reads, r_42.writes, r_42.made, false, r_42.old⟩] ⟨3, (blocksOf t25_43), [], [], false, []⟩ (
 W.load false 1 t25_43 L_35 fun t26_44 =>
 W.note ⟨(blocksOf t25_43), [], [], []⟩ fun r_45 =>
 W.calm [⟨1, r_42.reads, r_42.writes, r_42.made, false, r_42.old⟩] ⟨5, (slOf t26_44), [], [], false, []⟩ (
 W.idx 2 t26_44 (slotOf [1, 2, 3, 4] vs_33 4) L_35 fun t28_46 =>
 W.note ⟨(slOf t26_44), [], [], []⟩ fun r_47 =>
 W.faddr 0 t28_46 fun t29_48 =>
 W.calm [⟨1, r_42.reads, r_42.writes, r_42.made, false, r_42.old⟩] ⟨7, (blocksOf t29_48), [], [], false, []⟩ (
 W.load false 1 t29_48 L_35 fun t30_49 =>
 W.note ⟨(blocksOf t29_48), [], [], []⟩ fun r_50 =>
 W.calm [⟨7, r_50.reads, r_50.writes, r_50.made, false, r_50.old⟩, ⟨5, r_47.reads, r_47.writes, r_47.made, false, r_47.old⟩, ⟨3, r_45.reads, r_45.writes, r_45.made, false, r_45.old⟩, ⟨1, r_42.reads, r_42.writes, r_42.made, false, r_42.old⟩] ⟨8, [], [], [], false, []⟩ (
 W.bslice 1 [(.int .i64 0)] 0 [] L_35 fun t31_51 L_52 =>
 W.note ⟨[], [], (blocksOf t31_51), []⟩ fun r_53 =>
 W.faddr 0 (slotOf [1, 2, 3, 4] vs_33 1) fun t32_54 =>
 W.calm [⟨8, r_53.reads, r_53.writes, r_53.made, false, r_53.old⟩, ⟨7, r_50.reads, r_50.writes, r_50.made, false, r_50.old⟩, ⟨5, r_47.reads, r_47.writes, r_47.made, false, r_47.old⟩, ⟨3, r_45.reads, r_45.writes, r_45.made, false, r_45.old⟩, ⟨1, r_42.reads, r_42.writes, r_42.made, false, r_42.old⟩] ⟨10, (blocksOf t32_54), [], [], false, []⟩ (
 W.load false 1 t32_54 L_52 fun t33_55 =>
 W.note ⟨(blocksOf t32_54), [], [], []⟩ fun r_56 =>
 W.calm [⟨8, r_53.reads, r_53.writes, r_53.made, false, r_53.old⟩, ⟨7, r_50.reads, r_50.writes, r_50.made, false, r_50.old⟩, ⟨5, r_47.reads, r_47.writes, r_47.made, false, r_47.old⟩, ⟨3, r_45.reads, r_45.writes, r_45.made, false, r_45.old⟩, ⟨1, r_42.reads, r_42.writes, r_42.made, false, r_42.old⟩] ⟨12, (slOf t33_55), [], [], false, []⟩ (
 W.idx 2 t33_55 (slotOf [1, 2, 3, 4] vs_33 4) L_52 fun t35_57 =>
 W.note ⟨(slOf t33_55), [], [], []⟩ fun r_58 =>
 W.faddr 1 t35_57 fun t36_59 =>
 W.calm [⟨8, r_53.reads, r_53.writes, r_53.made, false, r_53.old⟩, ⟨7, r_50.reads, r_50.writes, r_50.made, false, r_50.old⟩, ⟨5, r_47.reads, r_47.writes, r_47.made, false, r_47.old⟩, ⟨3, r_45.reads, r_45.writes, r_45.made, false, r_45.old⟩, ⟨1, r_42.reads, r_42.writes, r_42.made, false, r_42.old⟩] ⟨14, (blocksOf t36_59), [], [], false, []⟩ (
 W.load false 1 t36_59 L_52 fun t37_60 =>
 W.note ⟨(blocksOf t36_59), [], [], []⟩ fun r_61 =>
 W.calm [⟨7, r_50.reads, r_50.writes, r_50.made, false, r_50.old⟩, ⟨5, r_47.reads, r_47.writes, r_47.made, false, r_47.old⟩, ⟨3, r_45.reads, r_45.writes, r_45.made, false, r_45.old⟩, ⟨1, r_42.reads, r_42.writes, r_42.made, false, r_42.old⟩] ⟨15, (blocksOf t31_51 ++ blocksOf t37_60), (blocksOf t31_51), [], false, []⟩ (
 W.append 1 8 t31_51 t37_60 L_52 fun t38_62 L_63 =>
 W.note ⟨(blocksOf t31_51 ++ blocksOf t37_60), (blocksOf t31_51), (blocksOf t38_62), []⟩ fun r_64 =>
 W.build [(.int .i64 0), .nils] [(0, 1, t30_49), (1, 1, t38_62)] fun t39_65 =>
 W.calm [⟨1, r_42.reads, r_42.writes, r_42.made, false, r_42.old⟩] ⟨17, [], [], [], false, []⟩ (
 W.bslice 2 [(.int .i64 0), .nils] 1 [(0, t39_65)] L_63 fun t40_66 L_67 =>
 W.note ⟨[], [], (blocksOf t40_66), []⟩ fun r_68 =>
 W.calm [] ⟨18, (blocksOf t24_41 ++ blocksOf t40_66), (blocksOf t24_41), [], false, []⟩ (
 W.append 2 32 t24_41 t40_66 L_67 fun t41_69 L_70 =>
 W.note ⟨(blocksOf t24_41 ++ blocksOf t40_66), (blocksOf t24_41), (blocksOf t41_69), []⟩ fun r_71 =>
 W.faddr 0 (slotOf [1, 2, 3, 4] vs_33 3) fun t42_72 =>
 W.calm [] ⟨20, (blocksOf t42_72), (blocksOf t42_72), [], false, []⟩ (
 W.store 1 t42_72 t41_69 L_70 fun L_73 =>
 W.note ⟨(blocksOf t42_72), (blocksOf t42_72), [], []⟩ fun r_74 =>
 W.bin Try.prog Fl .add 3 (slotOf [1, 2, 3, 4] vs_33 4) (.int .i64 1) fun t22_75 =>
 nx_34 [(slotOf [1, 2, 3, 4] vs_33 1), (slotOf [1, 2, 3, 4] vs_33 2), (slotOf [1, 2, 3, 4] vs_33 3), t22_75] L_73)))))))))))))
def ref08_Copy_zt1 (vs_33 : List AV) (L_35 : SH) (Q : AV → SH → Prop)  : Prop :=
 W.load true 4 (slotOf [1, 2, 3, 4] vs_33 3) L_35 fun t43_76 =>
 W.store 4 (slotOf [1, 2, 3, 4] vs_33 2) t43_76 L_35 fun L_77 =>
 W.load true 4 (slotOf [1, 2, 3, 4] vs_33 2) L_77 fun r_78 =>
 Q r_78 L_77
def ref08_Copy_l0 (Q : AV → SH → Prop) (vs_33 : List AV) (L_35 : SH) (nx_34 : W.Kn) : Prop :=
 W.faddr 0 (slotOf [1, 2, 3, 4] vs_33 1) fun t17_36 =>
 W.load false 1 t17_36 L_35 fun t18_37 =>
 W.len t18_37 fun t19_38 =>
 W.bin Try.prog Fl .lss 3 (slotOf [1, 2, 3, 4] vs_33 4) t19_38 fun t20_39 =>
 W.cond t20_39 (
 (ref08_Copy_zt0 vs_33 L_35 nx_34)) (
 (ref08_Copy_zt1 vs_33 L_35 Q))
def ref08_Copy_w (t0 : AV) (L : SH) (Q : AV → SH → Prop) : Prop :=
 W.box t0 L fun t1_0 L_1 =>
 W.alloc [.nils, (.int .i64 0), .nils, .nils] L_1 fun t2_2 L_3 =>
 W.frz1 t1_0 L_3 fun t1_4 L_5 =>
 (true = true) ∧ (
 W.faddr 1 t1_4 fun t5_6 =>
 W.calm [] ⟨1, (blocksOf t5_6), [], [], false, []⟩ (
 W.load false 1 t5_6 L_5 fun t6_7 =>
 W.note ⟨(blocksOf t5_6), [], [], []⟩ fun r_8 =>
 W.calm [⟨1, r_8.reads, r_8.writes, r_8.made, false, r_8.old⟩] ⟨2, [], [], [], false, []⟩ (
 W.bslice 1 [(.bool false)] 0 [] L_5 fun t7_9 L_10 =>
 W.note ⟨[], [], (blocksOf t7_9), []⟩ fun r_11 =>
 W.faddr 2 t1_4 fun t8_12 =>
 W.calm [⟨2, r_11.reads, r_11.writes, r_11.made, false, r_11.old⟩, ⟨1, r_8.reads, r_8.writes, r_8.made, false, r_8.old⟩] ⟨4, (blocksOf t8_12), [], [], false, []⟩ (
 W.load false 1 t8_12 L_10 fun t9_13 =>
 W.note ⟨(blocksOf t8_12), [], [], []⟩ fun r_14 =>
 W.calm [⟨1, r_8.reads, r_8.writes, r_8.made, false, r_8.old⟩] ⟨5, (blocksOf t7_9 ++ blocksOf t9_13), (blocksOf t7_9), [], false, []⟩ (
 W.append 1 1 t7_9 t9_13 L_10 fun t10_15 L_16 =>
 W.note ⟨(blocksOf t7_9 ++ blocksOf t9_13), (blocksOf t7_9), (blocksOf t10_15), []⟩ fun r_17 =>
 W.calm [⟨5, r_17.reads, r_17.writes, r_17.made, false, r_17.old⟩, ⟨4, r_14.reads, r_14.writes, r_14.made, false, r_14.old⟩, ⟨2, r_11.reads, r_11.writes, r_11.made, false, r_11.old⟩, ⟨1, r_8.reads, r_8.writes, r_8.made, false, r_8.old⟩] ⟨6, [], [], [], false, []⟩ (
 W.bslice 3 [(.int .i64 0), (.int .i64 0), (.bool false)] 0 [] L_16 fun t11_18 L_19 =>
 W.note ⟨[], [], (blocksOf t11_18), []⟩ fun r_20 =>
 W.faddr 3 t1_4 fun t12_21 =>
 W.calm [⟨6, r_20.reads, r_20.writes, r_20.made, false, r_20.old⟩, ⟨5, r_17.reads, r_17.writes, r_17.made, false, r_17.old⟩, ⟨4, r_14.reads, r_14.writes, r_14.made, false, r_14.old⟩, ⟨2, r_11.reads, r_11.writes, r_11.made, false, r_11.old⟩, ⟨1, r_8.reads, r_8.writes, r_8.made, false, r_8.old⟩] ⟨8, (blocksOf t12_21), [], [], false, []⟩ (
 W.load false 1 t12_21 L_19 fun t13_22 =>
 W.note ⟨(blocksOf t12_21), [], [], []⟩ fun r_23 =>
 W.calm [⟨1, r_8.reads, r_8.writes, r_8.made, false, r_8.old⟩] ⟨9, (blocksOf t11_18 ++ blocksOf t13_22), (blocksOf t11_18), [], false, []⟩ (
 W.append 3 24 t11_18 t13_22 L_19 fun t14_24 L_25 =>
 W.note ⟨(blocksOf t11_18 ++ blocksOf t13_22), (blocksOf t11_18), (blocksOf t14_24), []⟩ fun r_26 =>
 W.build [.nils, (.int .i64 0), .nils, .nils] [(1, 1, t6_7), (2, 1, t10_15), (3, 1, t14_24)] fun t15_27 =>
 W.calm [⟨9, r_26.reads, r_26.writes, r_26.made, false, r_26.old⟩, ⟨8, r_23.reads, r_23.writes, r_23.made, false, r_23.old⟩, ⟨6, r_20.reads, r_20.writes, r_20.made, false, r_20.old⟩, ⟨5, r_17.reads, r_17.writes, r_17.made, false, r_17.old⟩, ⟨4, r_14.reads, r_14.writes, r_14.made, false, r_14.old⟩, ⟨2, r_11.reads, r_11.writes, r_11.made, false, r_11.old⟩, ⟨1, r_8.reads, r_8.writes, r_8.made, false, r_8.old⟩] ⟨11, [], [], [], false, []⟩ (
 W.alloc [.nils, (.int .i64 0), .nils, .nils] L_25 fun t3_28 L_29 =>
 W.note ⟨[], [], (blocksOf t3_28), []⟩ fun r_30 =>
 W.calm [] ⟨12, (blocksOf t3_28), (blocksOf t3_28), [], false, []⟩ (
 W.store 4 t3_28 t15_27 L_29 fun L_31 =>
 W.note ⟨(blocksOf t3_28), (blocksOf t3_28), [], []⟩ fun r_32 =>
 W.loop (ref08_Copy_l0 Q) [t1_4, t2_2, t3_28, (.int .i64 0)] L_31))))))))))
theorem ref08_Copy_e (t0 : AV) (L : SH) (Q : AV → SH → Prop) : W.func Try.prog Fl ref08_Copy_t Try.f56 (Try.f56.body.getD .skip) [t0] L Q = ref08_Copy_w t0 L Q := by kernel_rfl
theorem ref08_Copy_ok (t0 : AV) (L : SH) (Q : AV → SH → Prop) (h : ref08_Copy_w t0 L Q) : CallA Try.prog 56 [t0] L Q :=
  func_sound (ht := ref08_Copy_t) fit Try.func56 (show Try.f56.body = some (Try.f56.body.getD .skip) by kernel_rfl) (Eq.mpr (ref08_Copy_e t0 L Q) h)

def ref07_Union_t : Hints := ⟨fun k => none, fun k => if k = 3 then [0, 1, 5, 6] else if k = 7 then [1, 5, 7] else [], fun k => [], fun k => []⟩
def ref07_Union_c0 (vs_0 : List AV) (nx_1 : W.Kn) (t19_7 : AV) (L_8 : SH) : Prop :=
 W.bin Try.prog Fl .add 3 (slotOf [0, 1, 5, 6] vs_0 6) (.int .i64 1) fun t13_9 =>
 nx_1 [(slotOf [0, 1, 5, 6] vs_0 0), (slotOf [0, 1, 5, 6] vs_0 1), t19_7, t13_9] L_8
def ref07_Union_zt0 (vs_0 : List AV) (L_2 : SH) (nx_1 : W.Kn)  : Prop :=
 W.idx 1 (slotOf [0, 1, 5, 6] vs_0 0) (slotOf [0, 1, 5, 6] vs_0 6) L_2 fun t17_5 =>
 W.load false 1 t17_5 L_2 fun t18_6 =>
 W.call Try.prog (.fn 64 []) [(slotOf [0, 1, 5, 6] vs_0 5), t18_6] L_2 (ref07_Union_c0 vs_0 nx_1)
def ref07_Union_c1 (vs_10 : List AV) (nx_11 : W.Kn) (t31_17 : AV) (L_18 : SH) : Prop :=
 W.bin Try.prog Fl .add 3 (slotOf [1, 5, 7] vs_10 7) (.int .i64 1) fun t25_19 =>
 nx_11 [(slotOf [1, 5, 7] vs_10 1), t31_17, t25_19] L_18
def ref07_Union_zt1 (vs_10 : List AV) (L_12 : SH) (nx_11 : W.Kn)  : Prop :=
 W.idx 1 (slotOf [1, 5, 7] vs_10 1) (slotOf [1, 5, 7] vs_10 7) L_12 fun t29_15 =>
 W.load false 1 t29_15 L_12 fun t30_16 =>
 W.call Try.prog (.fn 64 []) [(slotOf [1, 5, 7] vs_10 5), t30_16] L_12 (ref07_Union_c1 vs_10 nx_11)
def ref07_Union_l2 (Q : AV → SH → Prop) (vs_10 : List AV) (L_12 : SH) (nx_11 : W.Kn) : Prop :=
 W.len (slotOf [1, 5, 7] vs_10 1) fun t22_13 =>
 W.bin Try.prog Fl .lss 3 (slotOf [1, 5, 7] vs_10 7) t22_13 fun t23_14 =>
 W.cond t23_14 (
 (ref07_Union_zt1 vs_10 L_12 nx_11)) (
 Q (slotOf [1, 5, 7] vs_10 5) L_12)
def ref07_Union_l3 (Q : AV → SH → Prop) (vs_0 : List AV) (L_2 : SH) (nx_1 : W.Kn) : Prop :=
 W.len (slotOf [0, 1, 5, 6] vs_0 0) fun t10_3 =>
 W.bin Try.prog Fl .lss 3 (slotOf [0, 1, 5, 6] vs_0 6) t10_3 fun t11_4 =>
 W.cond t11_4 (
 (ref07_Union_zt0 vs_0 L_2 nx_1)) (
 W.loop (ref07_Union_l2 Q) [(slotOf [0, 1, 5, 6] vs_0 1), (slotOf [0, 1, 5, 6] vs_0 5), (.int .i64 0)] L_2)
def ref07_Union_w (t0 t1 : AV) (L : SH) (Q : AV → SH → Prop) : Prop :=
 W.loop (ref07_Union_l3 Q) [t0, t1, .nils, (.int .i64 0)] L
theorem ref07_Union_e (t0 t1 : AV) (L : SH) (Q : AV → SH → Prop) : W.func Try.prog Fl ref07_Union_t Try.f57 (Try.f57.body.getD .skip) [t0, t1] L Q = ref07_Union_w t0 t1 L Q := by kernel_rfl
theorem ref07_Union_ok (t0 t1 : AV) (L : SH) (Q : AV → SH → Prop) (h : ref07_Union_w t0 t1 L Q) : CallA Try.prog 57 [t0, t1] L Q :=
  func_sound (ht := ref07_Union_t) fit Try.func57 (show Try.f57.body = some (Try.f57.body.getD .skip) by kernel_rfl) (Eq.mpr (ref07_Union_e t0 t1 L Q) h)

def ref08_without_t : Hints := ⟨fun k => none, fun k => if k = 3 then [0, 1, 5, 6] else [], fun k => [], fun k => []⟩
def ref08_without_zt0 (vs_0 : List AV) (L_2 : SH) (nx_1 : W.Kn)  : Prop :=
 W.idx 1 (slotOf [0, 1, 5, 6] vs_0 0) (slotOf [0, 1, 5, 6] vs_0 6) L_2 fun t22_8 =>
 W.load false 1 t22_8 L_2 fun t23_9 =>
 W.bslice 1 [(.int .i64 0)] 1 [(0, t23_9)] L_2 fun t24_10 L_11 =>
 W.append 1 8 (slotOf [0, 1, 5, 6] vs_0 5) t24_10 L_11 fun t25_12 L_13 =>
 W.bin Try.prog Fl .add 3 (slotOf [0, 1, 5, 6] vs_0 6) (.int .i64 1) fun t12_14 =>
 nx_1 [(slotOf [0, 1, 5, 6] vs_0 0), (slotOf [0, 1, 5, 6] vs_0 1), t25_12, t12_14] L_13
def ref08_without_zt1 (vs_0 : List AV) (nx_1 : W.Kn) (L_2 : SH)  : Prop :=
 W.bin Try.prog Fl .add 3 (slotOf [0, 1, 5, 6] vs_0 6) (.int .i64 1) fun t12_15 =>
 nx_1 [(slotOf [0, 1, 5, 6] vs_0 0), (slotOf [0, 1, 5, 6] vs_0 1), (slotOf [0, 1, 5, 6] vs_0 5), t12_15] L_2
def ref08_without_zt2 (vs_0 : List AV) (L_2 : SH) (nx_1 : W.Kn)  : Prop :=
 W.idx 1 (slotOf [0, 1, 5, 6] vs_0 0) (slotOf [0, 1, 5, 6] vs_0 6) L_2 fun t15_5 =>
 W.load false 1 t15_5 L_2 fun t16_6 =>
 W.bin Try.prog Fl .neq 3 t16_6 (slotOf [0, 1, 5, 6] vs_0 1) fun t18_7 =>
 W.cond t18_7 (
 (ref08_without_zt0 vs_0 L_2 nx_1)) (
 (ref08_without_zt1 vs_0 nx_1 L_2))
def ref08_without_l0 (Q : AV → SH → Prop) (vs_0 : List AV) (L_2 : SH) (nx_1 : W.Kn) : Prop :=
 W.len (slotOf [0, 1, 5, 6] vs_0 0) fun t9_3 =>
 W.bin Try.prog Fl .lss 3 (slotOf [0, 1, 5, 6] vs_0 6) t9_3 fun t10_4 =>
 W.cond t10_4 (
 (ref08_without_zt2 vs_0 L_2 nx_1)) (
 Q (slotOf [0, 1, 5, 6] vs_0 5) L_2)
def ref08_without_w (t0 t1 : AV) (L : SH) (Q : AV → SH → Prop) : Prop :=
 W.loop (ref08_without_l0 Q) [t0, t1, .nils, (.int .i64 0)] L
theorem ref08_without_e (t0 t1 : AV) (L : SH) (Q : AV → SH → Prop) : W.func Try.prog Fl ref08_without_t Try.f58 (Try.f58.body.getD .skip) [t0, t1] L Q = ref08_without_w t0 t1 L Q := by kernel_rfl
theorem ref08_without_ok (t0 t1 : AV) (L : SH) (Q : AV → SH → Prop) (h : ref08_without_w t0 t1 L Q) : CallA Try.prog 58 [t0, t1] L Q :=
  func_sound (ht := ref08_without_t) fit Try.func58 (show Try.f58.body = some (Try.f58.body.getD .skip) by kernel_rfl) (Eq.mpr (ref08_without_e t0 t1 L Q) h)

def ref08_Waiting_t : Hints := ⟨fun k => none, fun k => if k = 3 then [1, 2, 5, 6] else [], fun k => if k = 0 then [2] else [], fun k => []⟩
def ref08_Waiting_zt0 (vs_4 : List AV) (L_45 : SH) (nx_5 : W.Kn)  : Prop :=
 W.bslice 1 [(.int .i64 0)] 1 [(0, (slotOf [1, 2, 5, 6] vs_4 6))] L_45 fun t33_48 L_49 =>
 W.append 1 8 (slotOf [1, 2, 5, 6] vs_4 5) t33_48 L_49 fun t34_50 L_51 =>
 W.bin Try.prog Fl .add 3 (slotOf [1, 2, 5, 6] vs_4 6) (.int .i64 1) fun t13_52 =>
 nx_5 [(slotOf [1, 2, 5, 6] vs_4 1), (slotOf [1, 2, 5, 6] vs_4 2), t34_50, t13_52] L_51
def ref08_Waiting_zt1 (vs_4 : List AV) (nx_5 : W.Kn) (L_45 : SH)  : Prop :=
 W.bin Try.prog Fl .add 3 (slotOf [1, 2, 5, 6] vs_4 6) (.int .i64 1) fun t13_53 =>
 nx_5 [(slotOf [1, 2, 5, 6] vs_4 1), (slotOf [1, 2, 5, 6] vs_4 2), (slotOf [1, 2, 5, 6] vs_4 5), t13_53] L_45
def ref08_Waiting_zt2 (vs_4 : List AV) (L_6 : SH) (nx_5 : W.Kn)  : Prop :=
 W.faddr 3 (slotOf [1, 2, 5, 6] vs_4 2) fun t14_11 =>
 W.load false 1 t14_11 L_6 fun t15_12 =>
 W.idx 3 t15_12 (slotOf [1, 2, 5, 6] vs_4 6) L_6 fun t17_13 =>
 W.faddr 0 t17_13 fun t18_14 =>
 W.load false 1 t18_14 L_6 fun t19_15 =>
 W.bin Try.prog Fl .eql 3 t19_15 (.int .i64 3) fun t20_16 =>
 W.grd t20_16 true (fun k_18 => W.faddr 3 (slotOf [1, 2, 5, 6] vs_4 2) fun v_20 =>
 k_18 v_20 L_6) L_6 fun t22_17 L_19 =>
 W.grd t20_16 true (fun k_22 => W.load false 1 t22_17 L_19 fun v_24 =>
 k_22 v_24 L_19) L_19 fun t23_21 L_23 =>
 W.grd t20_16 true (fun k_26 => k_26 (slotOf [1, 2, 5, 6] vs_4 6) L_23) L_23 fun t24_25 L_27 =>
 W.grd t20_16 true (fun k_29 => W.idx 3 t23_21 t24_25 L_27 fun v_31 =>
 k_29 v_31 L_27) L_27 fun t25_28 L_30 =>
 W.grd t20_16 true (fun k_33 => W.faddr 1 t25_28 fun v_35 =>
 k_33 v_35 L_30) L_30 fun t26_32 L_34 =>
 W.grd t20_16 true (fun k_37 => W.load false 1 t26_32 L_34 fun v_39 =>
 k_37 v_39 L_34) L_34 fun t27_36 L_38 =>
 W.grd t20_16 true (fun k_41 => k_41 (slotOf [1, 2, 5, 6] vs_4 1) L_38) L_38 fun t28_40 L_42 =>
 W.grd t20_16 true (fun k_44 => W.bin Try.prog Fl .eql 3 t27_36 t28_40 fun v_46 =>
 k_44 v_46 L_42) L_42 fun t29_43 L_45 =>
 W.pick t20_16 t29_43 (.bool false) fun t30_47 =>
 W.cond t30_47 (
 (ref08_Waiting_zt0 vs_4 L_45 nx_5)) (
 (ref08_Waiting_zt1 vs_4 nx_5 L_45))
def ref08_Waiting_l0 (Q : AV → SH → Prop) (vs_4 : List AV) (L_6 : SH) (nx_5 : W.Kn) : Prop :=
 W.faddr 3 (slotOf [1, 2, 5, 6] vs_4 2) fun t8_7 =>
 W.load false 1 t8_7 L_6 fun t9_8 =>
 W.len t9_8 fun t10_9 =>
 W.bin Try.prog Fl .lss 3 (slotOf [1, 2, 5, 6] vs_4 6) t10_9 fun t11_10 =>
 W.cond t11_10 (
 (ref08_Waiting_zt2 vs_4 L_6 nx_5)) (
 Q (slotOf [1, 2, 5, 6] vs_4 5) L_6)
def ref08_Waiting_w (t0 t1 : AV) (L : SH) (Q : AV → SH → Prop) : Prop :=
 W.box t0 L fun t2_0 L_1 =>
 W.frz1 t2_0 L_1 fun t2_2 L_3 =>
 W.loop (ref08_Waiting_l0 Q) [t1, t2_2, .nils, (.int .i64 0)] L_3
theorem ref08_Waiting_e (t0 t1 : AV) (L : SH) (Q : AV → SH → Prop) : W.func Try.prog Fl ref08_Waiting_t Try.f59 (Try.f59.body.getD .skip) [t0, t1] L Q = ref08_Waiting_w t0 t1 L Q := by kernel_rfl
theorem ref08_Waiting_ok (t0 t1 : AV) (L : SH) (Q : AV → SH → Prop) (h : ref08_Waiting_w t0 t1 L Q) : CallA Try.prog 59 [t0, t1] L Q :=
  func_sound (ht := ref08_Waiting_t) fit Try.func59 (show Try.f59.body = some (Try.f59.body.getD .skip) by kernel_rfl) (Eq.mpr (ref08_Waiting_e t0 t1 L Q) h)

def ref07_Put_t : Hints := ⟨fun k => none, fun k => if k = 2 then [0, 1, 5] else [], fun k => [], fun k => []⟩
def ref07_Put_zt0 (L_49 : SH) (vs_0 : List AV) (Q : AV → SH → Prop)  : Prop :=
 W.bslice 1 [(.int .i64 0)] 0 [] L_49 fun t34_52 L_53 =>
 W.slice 1 (slotOf [0, 1, 5] vs_0 0) none (some (slotOf [0, 1, 5] vs_0 5)) none L_53 fun t37_54 =>
 W.append 1 8 t34_52 t37_54 L_53 fun t38_55 L_56 =>
 W.bslice 1 [(.int .i64 0)] 1 [(0, (slotOf [0, 1, 5] vs_0 1))] L_56 fun t41_57 L_58 =>
 W.append 1 8 t38_55 t41_57 L_58 fun t42_59 L_60 =>
 W.slice 1 (slotOf [0, 1, 5] vs_0 0) (some (slotOf [0, 1, 5] vs_0 5)) none none L_60 fun t46_61 =>
 W.append 1 8 t42_59 t46_61 L_60 fun t47_62 L_63 =>
 Q t47_62 L_63
def ref07_Put_zt1 (vs_0 : List AV) (L_24 : SH) (Q : AV → SH → Prop)  : Prop :=
 W.len (slotOf [0, 1, 5] vs_0 0) fun t23_28 =>
 W.bin Try.prog Fl .lss 3 (slotOf [0, 1, 5] vs_0 5) t23_28 fun t24_29 =>
 W.grd t24_29 true (fun k_31 => k_31 (slotOf [0, 1, 5] vs_0 0) L_24) L_24 fun t26_30 L_32 =>
 W.grd t24_29 true (fun k_34 => k_34 (slotOf [0, 1, 5] vs_0 5) L_32) L_32 fun t27_33 L_35 =>
 W.grd t24_29 true (fun k_37 => W.idx 1 t26_30 t27_33 L_35 fun v_39 =>
 k_37 v_39 L_35) L_35 fun t28_36 L_38 =>
 W.grd t24_29 true (fun k_41 => W.load false 1 t28_36 L_38 fun v_43 =>
 k_41 v_43 L_38) L_38 fun t29_40 L_42 =>
 W.grd t24_29 true (fun k_45 => k_45 (slotOf [0, 1, 5] vs_0 1) L_42) L_42 fun t30_44 L_46 =>
 W.grd t24_29 true (fun k_48 => W.bin Try.prog Fl .eql 3 t29_40 t30_44 fun v_50 =>
 k_48 v_50 L_46) L_46 fun t31_47 L_49 =>
 W.pick t24_29 t31_47 (.bool false) fun t32_51 =>
 W.cond t32_51 (
 Q (slotOf [0, 1, 5] vs_0 0) L_49) (
 (ref07_Put_zt0 L_49 vs_0 Q))
def ref07_Put_l0 (Q : AV → SH → Prop) (vs_0 : List AV) (L_2 : SH) (nx_1 : W.Kn) : Prop :=
 W.len (slotOf [0, 1, 5] vs_0 0) fun t9_3 =>
 W.bin Try.prog Fl .lss 3 (slotOf [0, 1, 5] vs_0 5) t9_3 fun t10_4 =>
 W.grd t10_4 true (fun k_6 => k_6 (slotOf [0, 1, 5] vs_0 0) L_2) L_2 fun t12_5 L_7 =>
 W.grd t10_4 true (fun k_9 => k_9 (slotOf [0, 1, 5] vs_0 5) L_7) L_7 fun t13_8 L_10 =>
 W.grd t10_4 true (fun k_12 => W.idx 1 t12_5 t13_8 L_10 fun v_14 =>
 k_12 v_14 L_10) L_10 fun t14_11 L_13 =>
 W.grd t10_4 true (fun k_16 => W.load false 1 t14_11 L_13 fun v_18 =>
 k_16 v_18 L_13) L_13 fun t15_15 L_17 =>
 W.grd t10_4 true (fun k_20 => k_20 (slotOf [0, 1, 5] vs_0 1) L_17) L_17 fun t16_19 L_21 =>
 W.grd t10_4 true (fun k_23 => W.bin Try.prog Fl .lss 3 t15_15 t16_19 fun v_25 =>
 k_23 v_25 L_21) L_21 fun t17_22 L_24 =>
 W.pick t10_4 t17_22 (.bool false) fun t18_26 =>
 W.cond t18_26 (
 W.bin Try.prog Fl .add 3 (slotOf [0, 1, 5] vs_0 5) (.int .i64 1) fun t20_27 =>
 nx_1 [(slotOf [0, 1, 5] vs_0 0), (slotOf [0, 1, 5] vs_0 1), t20_27] L_24) (
 (ref07_Put_zt1 vs_0 L_24 Q))
def ref07_Put_w (t0 t1 : AV) (L : SH) (Q : AV → SH → Prop) : Prop :=
 W.loop (ref07_Put_l0 Q) [t0, t1, (.int .i64 0)] L
theorem ref07_Put_e (t0 t1 : AV) (L : SH) (Q : AV → SH → Prop) : W.func Try.prog Fl ref07_Put_t Try.f64 (Try.f64.body.getD .skip) [t0, t1] L Q = ref07_Put_w t0 t1 L Q := by kernel_rfl
theorem ref07_Put_ok (t0 t1 : AV) (L : SH) (Q : AV → SH → Prop) (h : ref07_Put_w t0 t1 L Q) : CallA Try.prog 64 [t0, t1] L Q :=
  func_sound (ht := ref07_Put_t) fit Try.func64 (show Try.f64.body = some (Try.f64.body.getD .skip) by kernel_rfl) (Eq.mpr (ref07_Put_e t0 t1 L Q) h)

def ref08_Apply_t : Hints := ⟨fun k => if k = 53 then some [7, 12, 15] else if k = 11 then some [2, 4, 5, 6, 7, 12, 15, 30, 45] else if k = 14 then some [2, 4, 5, 6, 7, 12, 15, 30, 54] else if k = 40 then some [7, 12, 17] else none, fun k => if k = 46 then [7, 12, 18, 19] else [], fun k => if k = 0 then [6] else [], fun k => if k = 17 then [0, 1, 0, 0, 8, 0, 56, 120, 248, 0, 512, 2040, 4095, 8191, 16383] else if k = 19 then [0, 1, 0, 0, 8, 0, 56, 120, 248, 0, 1016, 2047, 4095, 8191] else if k = 29 then [0, 1, 0, 4, 0, 28, 60, 124, 255, 511, 1023] else if k = 30 then [0, 1, 0, 0, 8, 0, 0, 7, 135, 391, 1023, 2047, 4095] else if k = 32 then [0, 1, 0, 4, 0, 28, 60, 124, 0, 511, 1023, 2047] else if k = 33 then [0, 1, 0, 0, 8, 0, 7, 71, 199, 511, 1023, 2047] else if k = 48 then [0, 1, 0, 0, 12, 28, 63, 127, 255] else []⟩
def ref08_Apply_zt0 (t12_4 : AV) (L_11 : SH) (Q : AV → SH → Prop)  : Prop :=
 W.build [.nils, (.int .i64 0), .nils, .nils] [] fun t27_13 =>
 W.store 4 t12_4 t27_13 L_11 fun L_14 =>
 W.load true 4 t12_4 L_14 fun r_15 =>
 Q (.tup [r_15, (.int .i64 0), (.bool false)]) L_14
def ref08_Apply_j0 (Q : AV → SH → Prop) (vs_20 : List AV) (L_22 : SH) : Prop :=
 W.load true 4 (slotOf [7, 12, 15] vs_20 7) L_22 fun t215_23 =>
 W.store 4 (slotOf [7, 12, 15] vs_20 12) t215_23 L_22 fun L_24 =>
 W.load true 4 (slotOf [7, 12, 15] vs_20 12) L_24 fun r_25 =>
 Q (.tup [r_25, (slotOf [7, 12, 15] vs_20 15), (.bool true)]) L_24
def ref08_Apply_zt1 (t7_2 : AV) (L_19 : SH) (t2 : AV) (j_21 : W.Kn) (t12_4 : AV)  : Prop :=
 W.faddr 3 t7_2 fun t33_27 =>
 W.load false 1 t33_27 L_19 fun t34_28 =>
 W.idx 3 t34_28 t2 L_19 fun t36_29 =>
 W.faddr 0 t36_29 fun t37_30 =>
 W.store 1 t37_30 (.int .i64 2) L_19 fun L_31 =>
 j_21 [t7_2, t12_4, (.int .i64 0)] L_31
def ref08_Apply_zt2 (t7_2 : AV) (L_19 : SH) (t2 : AV) (j_21 : W.Kn) (t12_4 : AV)  : Prop :=
 W.faddr 3 t7_2 fun t40_33 =>
 W.load false 1 t40_33 L_19 fun t41_34 =>
 W.idx 3 t41_34 t2 L_19 fun t43_35 =>
 W.faddr 0 t43_35 fun t44_36 =>
 W.store 1 t44_36 (.int .i64 5) L_19 fun L_37 =>
 j_21 [t7_2, t12_4, (.int .i64 0)] L_37
def ref08_Apply_zt3 (vs_38 : List AV) (L_40 : SH) (j_21 : W.Kn)  : Prop :=
 W.faddr 0 (slotOf [2, 4, 5, 6, 7, 12, 15, 30, 45] vs_38 7) fun t48_41 =>
 W.load false 1 t48_41 L_40 fun t49_42 =>
 W.idx 2 t49_42 (slotOf [2, 4, 5, 6, 7, 12, 15, 30, 45] vs_38 4) L_40 fun t52_43 =>
 W.faddr 0 t52_43 fun t53_44 =>
 W.store 1 t53_44 (slotOf [2, 4, 5, 6, 7, 12, 15, 30, 45] vs_38 2) L_40 fun L_45 =>
 j_21 [(slotOf [2, 4, 5, 6, 7, 12, 15, 30, 45] vs_38 7), (slotOf [2, 4, 5, 6, 7, 12, 15, 30, 45] vs_38 12), (slotOf [2, 4, 5, 6, 7, 12, 15, 30, 45] vs_38 15)] L_45
def ref08_Apply_zt4 (vs_46 : List AV) (L_48 : SH) (j_21 : W.Kn)  : Prop :=
 W.faddr 0 (slotOf [2, 4, 5, 6, 7, 12, 15, 30, 54] vs_46 7) fun t57_49 =>
 W.load false 1 t57_49 L_48 fun t58_50 =>
 W.idx 2 t58_50 (slotOf [2, 4, 5, 6, 7, 12, 15, 30, 54] vs_46 4) L_48 fun t60_51 =>
 W.faddr 0 t60_51 fun t61_52 =>
 W.store 1 t61_52 (.int .i64 (-1)) L_48 fun L_53 =>
 j_21 [(slotOf [2, 4, 5, 6, 7, 12, 15, 30, 54] vs_46 7), (slotOf [2, 4, 5, 6, 7, 12, 15, 30, 54] vs_46 12), (slotOf [2, 4, 5, 6, 7, 12, 15, 30, 54] vs_46 15)] L_53
def ref08_Apply_d1 (L_67 : SH) (t65_56 : AV) (vs_46 : List AV) (j_21 : W.Kn) (t75_69 : AV) (L_71 : SH) (ks_70 : List Nat) : Prop :=
 W.note ⟨[], ks_70, [], L_67.names⟩ fun r_72 =>
 W.calm [] ⟨12, (slOf t65_56), [], [], false, []⟩ (
 W.idx 2 t65_56 (slotOf [2, 4, 5, 6, 7, 12, 15, 30, 54] vs_46 4) L_71 fun t76_73 =>
 W.note ⟨(slOf t65_56), [], [], []⟩ fun r_74 =>
 W.faddr 1 t76_73 fun t77_75 =>
 W.calm [] ⟨14, (blocksOf t77_75), (blocksOf t77_75), [], false, []⟩ (
 W.store 1 t77_75 t75_69 L_71 fun L_76 =>
 W.note ⟨(blocksOf t77_75), (blocksOf t77_75), [], []⟩ fun r_77 =>
 j_21 [(slotOf [2, 4, 5, 6, 7, 12, 15, 30, 54] vs_46 7), (slotOf [2, 4, 5, 6, 7, 12, 15, 30, 54] vs_46 12), (slotOf [2, 4, 5, 6, 7, 12, 15, 30, 54] vs_46 15)] L_76))
def ref08_Apply_zt5 (vs_46 : List AV) (L_48 : SH) (j_21 : W.Kn)  : Prop :=
 (true = true) ∧ (
 W.faddr 0 (slotOf [2, 4, 5, 6, 7, 12, 15, 30, 54] vs_46 7) fun t64_55 =>
 W.calm [] ⟨1, (blocksOf t64_55), [], [], false, []⟩ (
 W.load false 1 t64_55 L_48 fun t65_56 =>
 W.note ⟨(blocksOf t64_55), [], [], []⟩ fun r_57 =>
 W.faddr 0 (slotOf [2, 4, 5, 6, 7, 12, 15, 30, 54] vs_46 7) fun t67_58 =>
 W.calm [⟨1, r_57.reads, r_57.writes, r_57.made, false, r_57.old⟩] ⟨4, (blocksOf t67_58), [], [], false, []⟩ (
 W.load false 1 t67_58 L_48 fun t68_59 =>
 W.note ⟨(blocksOf t67_58), [], [], []⟩ fun r_60 =>
 W.calm [⟨1, r_57.reads, r_57.writes, r_57.made, false, r_57.old⟩] ⟨6, (slOf t68_59), [], [], false, []⟩ (
 W.idx 2 t68_59 (slotOf [2, 4, 5, 6, 7, 12, 15, 30, 54] vs_46 4) L_48 fun t70_61 =>
 W.note ⟨(slOf t68_59), [], [], []⟩ fun r_62 =>
 W.faddr 1 t70_61 fun t71_63 =>
 W.calm [⟨1, r_57.reads, r_57.writes, r_57.made, false, r_57.old⟩] ⟨8, (blocksOf t71_63), [], [], false, []⟩ (
 W.load false 1 t71_63 L_48 fun t72_64 =>
 W.note ⟨(blocksOf t71_63), [], [], []⟩ fun r_65 =>
 W.calm [⟨8, r_65.reads, r_65.writes, r_65.made, false, r_65.old⟩, ⟨6, r_62.reads, r_62.writes, r_62.made, false, r_62.old⟩, ⟨4, r_60.reads, r_60.writes, r_60.made, false, r_60.old⟩, ⟨1, r_57.reads, r_57.writes, r_57.made, false, r_57.old⟩] ⟨10, [], [], [], false, []⟩ (
 W.bslice 1 [(.int .i64 0)] 1 [(0, (slotOf [2, 4, 5, 6, 7, 12, 15, 30, 54] vs_46 2))] L_48 fun t74_66 L_67 =>
 W.note ⟨[], [], (blocksOf t74_66), []⟩ fun r_68 =>
 W.dcall Try.prog [⟨1, r_57.reads, r_57.writes, r_57.made, false, r_57.old⟩] 11 (.fn 57 []) [t72_64, t74_66] L_67 (ref08_Apply_d1 L_67 t65_56 vs_46 j_21)))))))
def ref08_Apply_d2 (L_48 : SH) (t81_80 : AV) (vs_46 : List AV) (j_21 : W.Kn) (t90_90 : AV) (L_92 : SH) (ks_91 : List Nat) : Prop :=
 W.note ⟨[], ks_91, [], L_48.names⟩ fun r_93 =>
 W.calm [] ⟨11, (slOf t81_80), [], [], false, []⟩ (
 W.idx 2 t81_80 (slotOf [2, 4, 5, 6, 7, 12, 15, 30, 54] vs_46 4) L_92 fun t91_94 =>
 W.note ⟨(slOf t81_80), [], [], []⟩ fun r_95 =>
 W.faddr 1 t91_94 fun t92_96 =>
 W.calm [] ⟨13, (blocksOf t92_96), (blocksOf t92_96), [], false, []⟩ (
 W.store 1 t92_96 t90_90 L_92 fun L_97 =>
 W.note ⟨(blocksOf t92_96), (blocksOf t92_96), [], []⟩ fun r_98 =>
 j_21 [(slotOf [2, 4, 5, 6, 7, 12, 15, 30, 54] vs_46 7), (slotOf [2, 4, 5, 6, 7, 12, 15, 30, 54] vs_46 12), (slotOf [2, 4, 5, 6, 7, 12, 15, 30, 54] vs_46 15)] L_97))
def ref08_Apply_zt6 (vs_46 : List AV) (L_48 : SH) (j_21 : W.Kn)  : Prop :=
 (true = true) ∧ (
 W.faddr 0 (slotOf [2, 4, 5, 6, 7, 12, 15, 30, 54] vs_46 7) fun t80_79 =>
 W.calm [] ⟨1, (blocksOf t80_79), [], [], false, []⟩ (
 W.load false 1 t80_79 L_48 fun t81_80 =>
 W.note ⟨(blocksOf t80_79), [], [], []⟩ fun r_81 =>
 W.faddr 0 (slotOf [2, 4, 5, 6, 7, 12, 15, 30, 54] vs_46 7) fun t83_82 =>
 W.calm [⟨1, r_81.reads, r_81.writes, r_81.made, false, r_81.old⟩] ⟨4, (blocksOf t83_82), [], [], false, []⟩ (
 W.load false 1 t83_82 L_48 fun t84_83 =>
 W.note ⟨(blocksOf t83_82), [], [], []⟩ fun r_84 =>
 W.calm [⟨1, r_81.reads, r_81.writes, r_81.made, false, r_81.old⟩] ⟨6, (slOf t84_83), [], [], false, []⟩ (
 W.idx 2 t84_83 (slotOf [2, 4, 5, 6, 7, 12, 15, 30, 54] vs_46 4) L_48 fun t86_85 =>
 W.note ⟨(slOf t84_83), [], [], []⟩ fun r_86 =>
 W.faddr 1 t86_85 fun t87_87 =>
 W.calm [⟨1, r_81.reads, r_81.writes, r_81.made, false, r_81.old⟩] ⟨8, (blocksOf t87_87), [], [], false, []⟩ (
 W.load false 1 t87_87 L_48 fun t88_88 =>
 W.note ⟨(blocksOf t87_87), [], [], []⟩ fun r_89 =>
 W.dcall Try.prog [⟨1, r_81.reads, r_81.writes, r_81.made, false, r_81.old⟩] 10 (.fn 58 []) [t88_88, (slotOf [2, 4, 5, 6, 7, 12, 15, 30, 54] vs_46 2)] L_48 (ref08_Apply_d2 L_48 t81_80 vs_46 j_21))))))
def ref08_Apply_zt7 (vs_46 : List AV) (L_48 : SH) (j_21 : W.Kn)  : Prop :=
 W.faddr 1 (slotOf [2, 4, 5, 6, 7, 12, 15, 30, 54] vs_46 7) fun t96_100 =>
 W.store 1 t96_100 (slotOf [2, 4, 5, 6, 7, 12, 15, 30, 54] vs_46 2) L_48 fun L_101 =>
 j_21 [(slotOf [2, 4, 5, 6, 7, 12, 15, 30, 54] vs_46 7), (slotOf [2, 4, 5, 6, 7, 12, 15, 30, 54] vs_46 12), (slotOf [2, 4, 5, 6, 7, 12, 15, 30, 54] vs_46 15)] L_101
def ref08_Apply_zt8 (vs_46 : List AV) (L_48 : SH) (j_21 : W.Kn)  : Prop :=
 W.faddr 1 (slotOf [2, 4, 5, 6, 7, 12, 15, 30, 54] vs_46 7) fun t99_103 =>
 W.store 1 t99_103 (.int .i64 (-1)) L_48 fun L_104 =>
 j_21 [(slotOf [2, 4, 5, 6, 7, 12, 15, 30, 54] vs_46 7), (slotOf [2, 4, 5, 6, 7, 12, 15, 30, 54] vs_46 12), (slotOf [2, 4, 5, 6, 7, 12, 15, 30, 54] vs_46 15)] L_104
def ref08_Apply_zt9 (vs_46 : List AV) (L_48 : SH) (j_21 : W.Kn)  : Prop :=
 W.faddr 3 (slotOf [2, 4, 5, 6, 7, 12, 15, 30, 54] vs_46 7) fun t102_106 =>
 W.load false 1 t102_106 L_48 fun t103_107 =>
 W.idx 3 t103_107 (slotOf [2, 4, 5, 6, 7, 12, 15, 30, 54] vs_46 2) L_48 fun t105_108 =>
 W.faddr 2 t105_108 fun t106_109 =>
 W.store 1 t106_109 (.bool true) L_48 fun L_110 =>
 j_21 [(slotOf [2, 4, 5, 6, 7, 12, 15, 30, 54] vs_46 7), (slotOf [2, 4, 5, 6, 7, 12, 15, 30, 54] vs_46 12), (slotOf [2, 4, 5, 6, 7, 12, 15, 30, 54] vs_46 15)] L_110
def ref08_Apply_zt10 (vs_46 : List AV) (L_48 : SH) (j_21 : W.Kn)  : Prop :=
 W.faddr 3 (slotOf [2, 4, 5, 6, 7, 12, 15, 30, 54] vs_46 7) fun t109_112 =>
 W.load false 1 t109_112 L_48 fun t110_113 =>
 W.idx 3 t110_113 (slotOf [2, 4, 5, 6, 7, 12, 15, 30, 54] vs_46 2) L_48 fun t112_114 =>
 W.faddr 2 t112_114 fun t113_115 =>
 W.store 1 t113_115 (.bool false) L_48 fun L_116 =>
 j_21 [(slotOf [2, 4, 5, 6, 7, 12, 15, 30, 54] vs_46 7), (slotOf [2, 4, 5, 6, 7, 12, 15, 30, 54] vs_46 12), (slotOf [2, 4, 5, 6, 7, 12, 15, 30, 54] vs_46 15)] L_116
def ref08_Apply_zt11 (vs_46 : List AV) (L_48 : SH) (j_21 : W.Kn)  : Prop :=
 (true = true) ∧ (
 W.faddr 0 (slotOf [2, 4, 5, 6, 7, 12, 15, 30, 54] vs_46 7) fun t116_118 =>
 W.calm [] ⟨1, (blocksOf t116_118), [], [], false, []⟩ (
 W.load false 1 t116_118 L_48 fun t117_119 =>
 W.note ⟨(blocksOf t116_118), [], [], []⟩ fun r_120 =>
 W.faddr 2 (slotOf [2, 4, 5, 6, 7, 12, 15, 30, 54] vs_46 6) fun t118_121 =>
 W.calm [⟨1, r_120.reads, r_120.writes, r_120.made, false, r_120.old⟩] ⟨3, (blocksOf t118_121), [], [], false, []⟩ (
 W.load false 1 t118_121 L_48 fun t119_122 =>
 W.note ⟨(blocksOf t118_121), [], [], []⟩ fun r_123 =>
 W.calm [⟨1, r_120.reads, r_120.writes, r_120.made, false, r_120.old⟩] ⟨5, (slOf t119_122), [], [], false, []⟩ (
 W.idx 2 t119_122 (slotOf [2, 4, 5, 6, 7, 12, 15, 30, 54] vs_46 4) L_48 fun t121_124 =>
 W.note ⟨(slOf t119_122), [], [], []⟩ fun r_125 =>
 W.faddr 1 t121_124 fun t122_126 =>
 W.calm [⟨1, r_120.reads, r_120.writes, r_120.made, false, r_120.old⟩] ⟨7, (blocksOf t122_126), [], [], false, []⟩ (
 W.load false 1 t122_126 L_48 fun t123_127 =>
 W.note ⟨(blocksOf t122_126), [], [], []⟩ fun r_128 =>
 W.calm [] ⟨8, (slOf t117_119), [], [], false, []⟩ (
 W.idx 2 t117_119 t123_127 L_48 fun t124_129 =>
 W.note ⟨(slOf t117_119), [], [], []⟩ fun r_130 =>
 W.faddr 0 t124_129 fun t125_131 =>
 W.calm [] ⟨10, (blocksOf t125_131), (blocksOf t125_131), [], false, []⟩ (
 W.store 1 t125_131 (.int .i64 (-1)) L_48 fun L_132 =>
 W.note ⟨(blocksOf t125_131), (blocksOf t125_131), [], []⟩ fun r_133 =>
 (true = true) ∧ (
 W.faddr 3 (slotOf [2, 4, 5, 6, 7, 12, 15, 30, 54] vs_46 7) fun t126_134 =>
 W.calm [] ⟨1, (blocksOf t126_134), [], [], false, []⟩ (
 W.load false 1 t126_134 L_132 fun t127_135 =>
 W.note ⟨(blocksOf t126_134), [], [], []⟩ fun r_136 =>
 W.faddr 3 (slotOf [2, 4, 5, 6, 7, 12, 15, 30, 54] vs_46 7) fun t129_137 =>
 W.calm [⟨1, r_136.reads, r_136.writes, r_136.made, false, r_136.old⟩] ⟨4, (blocksOf t129_137), [], [], false, []⟩ (
 W.load false 1 t129_137 L_132 fun t130_138 =>
 W.note ⟨(blocksOf t129_137), [], [], []⟩ fun r_139 =>
 W.calm [⟨4, r_139.reads, r_139.writes, r_139.made, false, r_139.old⟩] ⟨7, (slOf t127_135), [], [], false, []⟩ (
 W.idx 3 t127_135 (slotOf [2, 4, 5, 6, 7, 12, 15, 30, 54] vs_46 2) L_132 fun t133_140 =>
 W.note ⟨(slOf t127_135), [], [], []⟩ fun r_141 =>
 W.faddr 0 t133_140 fun t134_142 =>
 W.calm [⟨4, r_139.reads, r_139.writes, r_139.made, false, r_139.old⟩] ⟨9, (blocksOf t134_142), (blocksOf t134_142), [], false, []⟩ (
 W.store 1 t134_142 (.int .i64 3) L_132 fun L_143 =>
 W.note ⟨(blocksOf t134_142), (blocksOf t134_142), [], []⟩ fun r_144 =>
 W.calm [] ⟨10, (slOf t130_138), [], [], false, []⟩ (
 W.idx 3 t130_138 (slotOf [2, 4, 5, 6, 7, 12, 15, 30, 54] vs_46 2) L_143 fun t135_145 =>
 W.note ⟨(slOf t130_138), [], [], []⟩ fun r_146 =>
 W.faddr 1 t135_145 fun t136_147 =>
 W.calm [] ⟨12, (blocksOf t136_147), (blocksOf t136_147), [], false, []⟩ (
 W.store 1 t136_147 (slotOf [2, 4, 5, 6, 7, 12, 15, 30, 54] vs_46 4) L_143 fun L_148 =>
 W.note ⟨(blocksOf t136_147), (blocksOf t136_147), [], []⟩ fun r_149 =>
 j_21 [(slotOf [2, 4, 5, 6, 7, 12, 15, 30, 54] vs_46 7), (slotOf [2, 4, 5, 6, 7, 12, 15, 30, 54] vs_46 12), (slotOf [2, 4, 5, 6, 7, 12, 15, 30, 54] vs_46 15)] L_148))))))))))))))
def ref08_Apply_zt12 (vs_46 : List AV) (L_48 : SH) (j_21 : W.Kn)  : Prop :=
 (true = true) ∧ (
 W.faddr 0 (slotOf [2, 4, 5, 6, 7, 12, 15, 30, 54] vs_46 7) fun t139_151 =>
 W.calm [] ⟨1, (blocksOf t139_151), [], [], false, []⟩ (
 W.load false 1 t139_151 L_48 fun t140_152 =>
 W.note ⟨(blocksOf t139_151), [], [], []⟩ fun r_153 =>
 W.faddr 2 (slotOf [2, 4, 5, 6, 7, 12, 15, 30, 54] vs_46 6) fun t141_154 =>
 W.calm [⟨1, r_153.reads, r_153.writes, r_153.made, false, r_153.old⟩] ⟨3, (blocksOf t141_154), [], [], false, []⟩ (
 W.load false 1 t141_154 L_48 fun t142_155 =>
 W.note ⟨(blocksOf t141_154), [], [], []⟩ fun r_156 =>
 W.calm [⟨1, r_153.reads, r_153.writes, r_153.made, false, r_153.old⟩] ⟨5, (slOf t142_155), [], [], false, []⟩ (
 W.idx 2 t142_155 (slotOf [2, 4, 5, 6, 7, 12, 15, 30, 54] vs_46 4) L_48 fun t144_157 =>
 W.note ⟨(slOf t142_155), [], [], []⟩ fun r_158 =>
 W.faddr 1 t144_157 fun t145_159 =>
 W.calm [⟨1, r_153.reads, r_153.writes, r_153.made, false, r_153.old⟩] ⟨7, (blocksOf t145_159), [], [], false, []⟩ (
 W.load false 1 t145_159 L_48 fun t146_160 =>
 W.note ⟨(blocksOf t145_159), [], [], []⟩ fun r_161 =>
 W.calm [] ⟨9, (slOf t140_152), [], [], false, []⟩ (
 W.idx 2 t140_152 t146_160 L_48 fun t148_162 =>
 W.note ⟨(slOf t140_152), [], [], []⟩ fun r_163 =>
 W.faddr 0 t148_162 fun t149_164 =>
 W.calm [] ⟨11, (blocksOf t149_164), (blocksOf t149_164), [], false, []⟩ (
 W.store 1 t149_164 (slotOf [2, 4, 5, 6, 7, 12, 15, 30, 54] vs_46 2) L_48 fun L_165 =>
 W.note ⟨(blocksOf t149_164), (blocksOf t149_164), [], []⟩ fun r_166 =>
 (true = true) ∧ (
 W.faddr 3 (slotOf [2, 4, 5, 6, 7, 12, 15, 30, 54] vs_46 7) fun t150_167 =>
 W.calm [] ⟨1, (blocksOf t150_167), [], [], false, []⟩ (
 W.load false 1 t150_167 L_165 fun t151_168 =>
 W.note ⟨(blocksOf t150_167), [], [], []⟩ fun r_169 =>
 W.faddr 3 (slotOf [2, 4, 5, 6, 7, 12, 15, 30, 54] vs_46 7) fun t153_170 =>
 W.calm [⟨1, r_169.reads, r_169.writes, r_169.made, false, r_169.old⟩] ⟨4, (blocksOf t153_170), [], [], false, []⟩ (
 W.load false 1 t153_170 L_165 fun t154_171 =>
 W.note ⟨(blocksOf t153_170), [], [], []⟩ fun r_172 =>
 W.calm [⟨4, r_172.reads, r_172.writes, r_172.made, false, r_172.old⟩] ⟨6, (slOf t151_168), [], [], false, []⟩ (
 W.idx 3 t151_168 (slotOf [2, 4, 5, 6, 7, 12, 15, 30, 54] vs_46 2) L_165 fun t156_173 =>
 W.note ⟨(slOf t151_168), [], [], []⟩ fun r_174 =>
 W.faddr 0 t156_173 fun t157_175 =>
 W.calm [⟨4, r_172.reads, r_172.writes, r_172.made, false, r_172.old⟩] ⟨8, (blocksOf t157_175), (blocksOf t157_175), [], false, []⟩ (
 W.store 1 t157_175 (.int .i64 2) L_165 fun L_176 =>
 W.note ⟨(blocksOf t157_175), (blocksOf t157_175), [], []⟩ fun r_177 =>
 W.calm [] ⟨9, (slOf t154_171), [], [], false, []⟩ (
 W.idx 3 t154_171 (slotOf [2, 4, 5, 6, 7, 12, 15, 30, 54] vs_46 2) L_176 fun t158_178 =>
 W.note ⟨(slOf t154_171), [], [], []⟩ fun r_179 =>
 W.faddr 1 t158_178 fun t159_180 =>
 W.calm [] ⟨11, (blocksOf t159_180), (blocksOf t159_180), [], false, []⟩ (
 W.store 1 t159_180 (.int .i64 0) L_176 fun L_181 =>
 W.note ⟨(blocksOf t159_180), (blocksOf t159_180), [], []⟩ fun r_182 =>
 j_21 [(slotOf [2, 4, 5, 6, 7, 12, 15, 30, 54] vs_46 7), (slotOf [2, 4, 5, 6, 7, 12, 15, 30, 54] vs_46 12), (slotOf [2, 4, 5, 6, 7, 12, 15, 30, 54] vs_46 15)] L_181))))))))))))))
def ref08_Apply_j3 (j_21 : W.Kn) (vs_191 : List AV) (L_193 : SH) : Prop :=
 W.faddr 3 (slotOf [7, 12, 17] vs_191 7) fun t175_194 =>
 W.load false 1 t175_194 L_193 fun t176_195 =>
 W.idx 3 t176_195 (slotOf [7, 12, 17] vs_191 17) L_193 fun t178_196 =>
 W.faddr 0 t178_196 fun t179_197 =>
 W.store 1 t179_197 (.int .i64 4) L_193 fun L_198 =>
 j_21 [(slotOf [7, 12, 17] vs_191 7), (slotOf [7, 12, 17] vs_191 12), (slotOf [7, 12, 17] vs_191 17)] L_198
def ref08_Apply_zt13 (j_192 : W.Kn) (vs_46 : List AV) (L_200 : SH)  : Prop :=
 j_192 [(slotOf [2, 4, 5, 6, 7, 12, 15, 30, 54] vs_46 7), (slotOf [2, 4, 5, 6, 7, 12, 15, 30, 54] vs_46 12), (slotOf [2, 4, 5, 6, 7, 12, 15, 30, 54] vs_46 5)] L_200
def ref08_Apply_c4 (j_192 : W.Kn) (vs_46 : List AV) (t170_190 : AV) (t173_199 : AV) (L_200 : SH) : Prop :=
 W.cond t173_199 (
 (ref08_Apply_zt13 j_192 vs_46 L_200)) (
 j_192 [(slotOf [2, 4, 5, 6, 7, 12, 15, 30, 54] vs_46 7), (slotOf [2, 4, 5, 6, 7, 12, 15, 30, 54] vs_46 12), t170_190] L_200)
def ref08_Apply_zt14 (t164_185 : AV) (L_186 : SH) (j_21 : W.Kn) (vs_46 : List AV)  : Prop :=
 W.idx 1 t164_185 (.int .i64 0) L_186 fun t169_189 =>
 W.load false 1 t169_189 L_186 fun t170_190 =>
 W.join (ref08_Apply_j3 j_21) fun j_192 =>
 W.call Try.prog (.fn 15 []) [t164_185, (slotOf [2, 4, 5, 6, 7, 12, 15, 30, 54] vs_46 5)] L_186 (ref08_Apply_c4 j_192 vs_46 t170_190)
def ref08_Apply_c5 (j_21 : W.Kn) (vs_46 : List AV) (t164_185 : AV) (L_186 : SH) : Prop :=
 W.len t164_185 fun t166_187 =>
 W.bin Try.prog Fl .gtr 3 t166_187 (.int .i64 0) fun t167_188 =>
 W.cond t167_188 (
 (ref08_Apply_zt14 t164_185 L_186 j_21 vs_46)) (
 j_21 [(slotOf [2, 4, 5, 6, 7, 12, 15, 30, 54] vs_46 7), (slotOf [2, 4, 5, 6, 7, 12, 15, 30, 54] vs_46 12), (.int .i64 (-1))] L_186)
def ref08_Apply_zt15 (vs_46 : List AV) (L_48 : SH) (j_21 : W.Kn)  : Prop :=
 W.load true 4 (slotOf [2, 4, 5, 6, 7, 12, 15, 30, 54] vs_46 7) L_48 fun t162_184 =>
 W.call Try.prog (.fn 59 []) [t162_184, (slotOf [2, 4, 5, 6, 7, 12, 15, 30, 54] vs_46 4)] L_48 (ref08_Apply_c5 j_21 vs_46)
def ref08_Apply_zt16 (vs_205 : List AV) (L_207 : SH) (nx_206 : W.Kn)  : Prop :=
 (true = true) ∧ (
 W.faddr 3 (slotOf [7, 12, 18, 19] vs_205 7) fun t192_210 =>
 W.calm [] ⟨1, (blocksOf t192_210), [], [], false, []⟩ (
 W.load false 1 t192_210 L_207 fun t193_211 =>
 W.note ⟨(blocksOf t192_210), [], [], []⟩ fun r_212 =>
 W.calm [⟨1, r_212.reads, r_212.writes, r_212.made, false, r_212.old⟩] ⟨4, (slOf (slotOf [7, 12, 18, 19] vs_205 18)), [], [], false, []⟩ (
 W.idx 1 (slotOf [7, 12, 18, 19] vs_205 18) (slotOf [7, 12, 18, 19] vs_205 19) L_207 fun t196_213 =>
 W.note ⟨(slOf (slotOf [7, 12, 18, 19] vs_205 18)), [], [], []⟩ fun r_214 =>
 W.calm [⟨1, r_212.reads, r_212.writes, r_212.made, false, r_212.old⟩] ⟨5, (blocksOf t196_213), [], [], false, []⟩ (
 W.load false 1 t196_213 L_207 fun t197_215 =>
 W.note ⟨(blocksOf t196_213), [], [], []⟩ fun r_216 =>
 W.calm [] ⟨6, (slOf t193_211), [], [], false, []⟩ (
 W.idx 3 t193_211 t197_215 L_207 fun t198_217 =>
 W.note ⟨(slOf t193_211), [], [], []⟩ fun r_218 =>
 W.faddr 0 t198_217 fun t199_219 =>
 W.calm [] ⟨8, (blocksOf t199_219), (blocksOf t199_219), [], false, []⟩ (
 W.store 1 t199_219 (.int .i64 4) L_207 fun L_220 =>
 W.note ⟨(blocksOf t199_219), (blocksOf t199_219), [], []⟩ fun r_221 =>
 W.bin Try.prog Fl .add 3 (slotOf [7, 12, 18, 19] vs_205 19) (.int .i64 1) fun t191_222 =>
 nx_206 [(slotOf [7, 12, 18, 19] vs_205 7), (slotOf [7, 12, 18, 19] vs_205 12), (slotOf [7, 12, 18, 19] vs_205 18), t191_222] L_220))))))
def ref08_Apply_l6 (j_21 : W.Kn) (vs_205 : List AV) (L_207 : SH) (nx_206 : W.Kn) : Prop :=
 W.len (slotOf [7, 12, 18, 19] vs_205 18) fun t188_208 =>
 W.bin Try.prog Fl .lss 3 (slotOf [7, 12, 18, 19] vs_205 19) t188_208 fun t189_209 =>
 W.cond t189_209 (
 (ref08_Apply_zt16 vs_205 L_207 nx_206)) (
 W.len (slotOf [7, 12, 18, 19] vs_205 18) fun t201_223 =>
 j_21 [(slotOf [7, 12, 18, 19] vs_205 7), (slotOf [7, 12, 18, 19] vs_205 12), t201_223] L_207)
def ref08_Apply_c7 (j_21 : W.Kn) (vs_46 : List AV) (t185_203 : AV) (L_204 : SH) : Prop :=
 W.loop (ref08_Apply_l6 j_21) [(slotOf [2, 4, 5, 6, 7, 12, 15, 30, 54] vs_46 7), (slotOf [2, 4, 5, 6, 7, 12, 15, 30, 54] vs_46 12), t185_203, (.int .i64 0)] L_204
def ref08_Apply_zt17 (vs_46 : List AV) (L_48 : SH) (j_21 : W.Kn)  : Prop :=
 W.load true 4 (slotOf [2, 4, 5, 6, 7, 12, 15, 30, 54] vs_46 7) L_48 fun t183_202 =>
 W.call Try.prog (.fn 59 []) [t183_202, (slotOf [2, 4, 5, 6, 7, 12, 15, 30, 54] vs_46 4)] L_48 (ref08_Apply_c7 j_21 vs_46)
def ref08_Apply_zt18 (vs_46 : List AV) (L_48 : SH) (j_21 : W.Kn)  : Prop :=
 W.faddr 3 (slotOf [2, 4, 5, 6, 7, 12, 15, 30, 54] vs_46 7) fun t204_225 =>
 W.load false 1 t204_225 L_48 fun t205_226 =>
 W.idx 3 t205_226 (slotOf [2, 4, 5, 6, 7, 12, 15, 30, 54] vs_46 4) L_48 fun t207_227 =>
 W.faddr 0 t207_227 fun t208_228 =>
 W.store 1 t208_228 (.int .i64 1) L_48 fun L_229 =>
 j_21 [(slotOf [2, 4, 5, 6, 7, 12, 15, 30, 54] vs_46 7), (slotOf [2, 4, 5, 6, 7, 12, 15, 30, 54] vs_46 12), (slotOf [2, 4, 5, 6, 7, 12, 15, 30, 54] vs_46 15)] L_229
def ref08_Apply_zt19 (vs_46 : List AV) (L_48 : SH) (j_21 : W.Kn)  : Prop :=
 W.faddr 2 (slotOf [2, 4, 5, 6, 7, 12, 15, 30, 54] vs_46 7) fun t211_231 =>
 W.load false 1 t211_231 L_48 fun t212_232 =>
 W.idx 1 t212_232 (slotOf [2, 4, 5, 6, 7, 12, 15, 30, 54] vs_46 4) L_48 fun t214_233 =>
 W.store 1 t214_233 (.bool true) L_48 fun L_234 =>
 j_21 [(slotOf [2, 4, 5, 6, 7, 12, 15, 30, 54] vs_46 7), (slotOf [2, 4, 5, 6, 7, 12, 15, 30, 54] vs_46 12), (slotOf [2, 4, 5, 6, 7, 12, 15, 30, 54] vs_46 15)] L_234
def ref08_Apply_zt20 (j_21 : W.Kn) (vs_46 : List AV) (L_48 : SH)  : Prop :=
 j_21 [(slotOf [2, 4, 5, 6, 7, 12, 15, 30, 54] vs_46 7), (slotOf [2, 4, 5, 6, 7, 12, 15, 30, 54] vs_46 12), (slotOf [2, 4, 5, 6, 7, 12, 15, 30, 54] vs_46 15)] L_48
def ref08_Apply_zt21 (vs_46 : List AV) (L_48 : SH) (j_21 : W.Kn)  : Prop :=
 W.bin Try.prog Fl .eql 3 (slotOf [2, 4, 5, 6, 7, 12, 15, 30, 54] vs_46 30) (.int .i64 22) fun t210_230 =>
 W.cond t210_230 (
 (ref08_Apply_zt19 vs_46 L_48 j_21)) (
 (ref08_Apply_zt20 j_21 vs_46 L_48))
def ref08_Apply_zt22 (vs_46 : List AV) (L_48 : SH) (j_21 : W.Kn)  : Prop :=
 W.bin Try.prog Fl .eql 3 (slotOf [2, 4, 5, 6, 7, 12, 15, 30, 54] vs_46 30) (.int .i64 20) fun t203_224 =>
 W.cond t203_224 (
 (ref08_Apply_zt18 vs_46 L_48 j_21)) (
 (ref08_Apply_zt21 vs_46 L_48 j_21))
def ref08_Apply_zt23 (vs_46 : List AV) (L_48 : SH) (j_21 : W.Kn)  : Prop :=
 W.bin Try.prog Fl .eql 3 (slotOf [2, 4, 5, 6, 7, 12, 15, 30, 54] vs_46 30) (.int .i64 19) fun t182_201 =>
 W.cond t182_201 (
 (ref08_Apply_zt17 vs_46 L_48 j_21)) (
 (ref08_Apply_zt22 vs_46 L_48 j_21))
def ref08_Apply_zt24 (vs_46 : List AV) (L_48 : SH) (j_21 : W.Kn)  : Prop :=
 W.bin Try.prog Fl .eql 3 (slotOf [2, 4, 5, 6, 7, 12, 15, 30, 54] vs_46 30) (.int .i64 18) fun t161_183 =>
 W.cond t161_183 (
 (ref08_Apply_zt15 vs_46 L_48 j_21)) (
 (ref08_Apply_zt23 vs_46 L_48 j_21))
def ref08_Apply_zt25 (vs_46 : List AV) (L_48 : SH) (j_21 : W.Kn)  : Prop :=
 W.bin Try.prog Fl .eql 3 (slotOf [2, 4, 5, 6, 7, 12, 15, 30, 54] vs_46 30) (.int .i64 17) fun t138_150 =>
 W.cond t138_150 (
 (ref08_Apply_zt12 vs_46 L_48 j_21)) (
 (ref08_Apply_zt24 vs_46 L_48 j_21))
def ref08_Apply_zt26 (vs_46 : List AV) (L_48 : SH) (j_21 : W.Kn)  : Prop :=
 W.bin Try.prog Fl .eql 3 (slotOf [2, 4, 5, 6, 7, 12, 15, 30, 54] vs_46 30) (.int .i64 16) fun t115_117 =>
 W.cond t115_117 (
 (ref08_Apply_zt11 vs_46 L_48 j_21)) (
 (ref08_Apply_zt25 vs_46 L_48 j_21))
def ref08_Apply_zt27 (vs_46 : List AV) (L_48 : SH) (j_21 : W.Kn)  : Prop :=
 W.bin Try.prog Fl .eql 3 (slotOf [2, 4, 5, 6, 7, 12, 15, 30, 54] vs_46 30) (.int .i64 15) fun t108_111 =>
 W.cond t108_111 (
 (ref08_Apply_zt10 vs_46 L_48 j_21)) (
 (ref08_Apply_zt26 vs_46 L_48 j_21))
def ref08_Apply_zt28 (vs_46 : List AV) (L_48 : SH) (j_21 : W.Kn)  : Prop :=
 W.bin Try.prog Fl .eql 3 (slotOf [2, 4, 5, 6, 7, 12, 15, 30, 54] vs_46 30) (.int .i64 14) fun t101_105 =>
 W.cond t101_105 (
 (ref08_Apply_zt9 vs_46 L_48 j_21)) (
 (ref08_Apply_zt27 vs_46 L_48 j_21))
def ref08_Apply_zt29 (vs_46 : List AV) (L_48 : SH) (j_21 : W.Kn)  : Prop :=
 W.bin Try.prog Fl .eql 3 (slotOf [2, 4, 5, 6, 7, 12, 15, 30, 54] vs_46 30) (.int .i64 13) fun t98_102 =>
 W.cond t98_102 (
 (ref08_Apply_zt8 vs_46 L_48 j_21)) (
 (ref08_Apply_zt28 vs_46 L_48 j_21))
def ref08_Apply_zt30 (vs_46 : List AV) (L_48 : SH) (j_21 : W.Kn)  : Prop :=
 W.bin Try.prog Fl .eql 3 (slotOf [2, 4, 5, 6, 7, 12, 15, 30, 54] vs_46 30) (.int .i64 12) fun t94_99 =>
 W.cond t94_99 (
 (ref08_Apply_zt7 vs_46 L_48 j_21)) (
 (ref08_Apply_zt29 vs_46 L_48 j_21))
def ref08_Apply_zt31 (vs_46 : List AV) (L_48 : SH) (j_21 : W.Kn)  : Prop :=
 W.bin Try.prog Fl .eql 3 (slotOf [2, 4, 5, 6, 7, 12, 15, 30, 54] vs_46 30) (.int .i64 9) fun t79_78 =>
 W.cond t79_78 (
 (ref08_Apply_zt6 vs_46 L_48 j_21)) (
 (ref08_Apply_zt30 vs_46 L_48 j_21))
def ref08_Apply_zt32 (vs_46 : List AV) (L_48 : SH) (j_21 : W.Kn)  : Prop :=
 W.bin Try.prog Fl .eql 3 (slotOf [2, 4, 5, 6, 7, 12, 15, 30, 54] vs_46 30) (.int .i64 8) fun t63_54 =>
 W.cond t63_54 (
 (ref08_Apply_zt5 vs_46 L_48 j_21)) (
 (ref08_Apply_zt31 vs_46 L_48 j_21))
def ref08_Apply_j8 (j_21 : W.Kn) (vs_46 : List AV) (L_48 : SH) : Prop :=
 W.cond (slotOf [2, 4, 5, 6, 7, 12, 15, 30, 54] vs_46 54) (
 (ref08_Apply_zt4 vs_46 L_48 j_21)) (
 (ref08_Apply_zt32 vs_46 L_48 j_21))
def ref08_Apply_zt33 (j_47 : W.Kn) (vs_38 : List AV) (t55_235 : AV) (L_40 : SH)  : Prop :=
 j_47 [(slotOf [2, 4, 5, 6, 7, 12, 15, 30, 45] vs_38 2), (slotOf [2, 4, 5, 6, 7, 12, 15, 30, 45] vs_38 4), (slotOf [2, 4, 5, 6, 7, 12, 15, 30, 45] vs_38 5), (slotOf [2, 4, 5, 6, 7, 12, 15, 30, 45] vs_38 6), (slotOf [2, 4, 5, 6, 7, 12, 15, 30, 45] vs_38 7), (slotOf [2, 4, 5, 6, 7, 12, 15, 30, 45] vs_38 12), (slotOf [2, 4, 5, 6, 7, 12, 15, 30, 45] vs_38 15), (slotOf [2, 4, 5, 6, 7, 12, 15, 30, 45] vs_38 30), t55_235] L_40
def ref08_Apply_zt34 (vs_38 : List AV) (j_47 : W.Kn) (L_40 : SH)  : Prop :=
 W.bin Try.prog Fl .eql 3 (slotOf [2, 4, 5, 6, 7, 12, 15, 30, 45] vs_38 30) (.int .i64 11) fun t56_236 =>
 j_47 [(slotOf [2, 4, 5, 6, 7, 12, 15, 30, 45] vs_38 2), (slotOf [2, 4, 5, 6, 7, 12, 15, 30, 45] vs_38 4), (slotOf [2, 4, 5, 6, 7, 12, 15, 30, 45] vs_38 5), (slotOf [2, 4, 5, 6, 7, 12, 15, 30, 45] vs_38 6), (slotOf [2, 4, 5, 6, 7, 12, 15, 30, 45] vs_38 7), (slotOf [2, 4, 5, 6, 7, 12, 15, 30, 45] vs_38 12), (slotOf [2, 4, 5, 6, 7, 12, 15, 30, 45] vs_38 15), (slotOf [2, 4, 5, 6, 7, 12, 15, 30, 45] vs_38 30), t56_236] L_40
def ref08_Apply_zt35 (j_21 : W.Kn) (vs_38 : List AV) (L_40 : SH)  : Prop :=
 W.join (ref08_Apply_j8 j_21) fun j_47 =>
 W.bin Try.prog Fl .eql 3 (slotOf [2, 4, 5, 6, 7, 12, 15, 30, 45] vs_38 30) (.int .i64 7) fun t55_235 =>
 W.cond t55_235 (
 (ref08_Apply_zt33 j_47 vs_38 t55_235 L_40)) (
 (ref08_Apply_zt34 vs_38 j_47 L_40))
def ref08_Apply_j9 (j_21 : W.Kn) (vs_38 : List AV) (L_40 : SH) : Prop :=
 W.cond (slotOf [2, 4, 5, 6, 7, 12, 15, 30, 45] vs_38 45) (
 (ref08_Apply_zt3 vs_38 L_40 j_21)) (
 (ref08_Apply_zt35 j_21 vs_38 L_40))
def ref08_Apply_zt36 (j_21 : W.Kn) (t3 : AV) (t2 : AV) (t4 : AV) (t5 : AV) (t6_6 : AV) (t7_2 : AV) (t12_4 : AV) (L_19 : SH)  : Prop :=
 W.join (ref08_Apply_j9 j_21) fun j_39 =>
 W.bin Try.prog Fl .eql 3 t3 (.int .i64 6) fun t46_237 =>
 W.cond t46_237 (
 j_39 [t2, t4, t5, t6_6, t7_2, t12_4, (.int .i64 0), t3, t46_237] L_19) (
 W.bin Try.prog Fl .eql 3 t3 (.int .i64 10) fun t47_238 =>
 j_39 [t2, t4, t5, t6_6, t7_2, t12_4, (.int .i64 0), t3, t47_238] L_19)
def ref08_Apply_zt37 (t3 : AV) (t7_2 : AV) (L_19 : SH) (t2 : AV) (j_21 : W.Kn) (t12_4 : AV) (t4 : AV) (t5 : AV) (t6_6 : AV)  : Prop :=
 W.bin Try.prog Fl .eql 3 t3 (.int .i64 2) fun t39_32 =>
 W.cond t39_32 (
 (ref08_Apply_zt2 t7_2 L_19 t2 j_21 t12_4)) (
 (ref08_Apply_zt36 j_21 t3 t2 t4 t5 t6_6 t7_2 t12_4 L_19))
def ref08_Apply_c10 (t7_2 : AV) (Q : AV → SH → Prop) (t3 : AV) (t2 : AV) (t12_4 : AV) (t4 : AV) (t5 : AV) (t6_6 : AV) (t29_17 : AV) (L_18 : SH) : Prop :=
 W.store 4 t7_2 t29_17 L_18 fun L_19 =>
 W.join (ref08_Apply_j0 Q) fun j_21 =>
 W.bin Try.prog Fl .eql 3 t3 (.int .i64 1) fun t32_26 =>
 W.cond t32_26 (
 (ref08_Apply_zt1 t7_2 L_19 t2 j_21 t12_4)) (
 (ref08_Apply_zt37 t3 t7_2 L_19 t2 j_21 t12_4 t4 t5 t6_6))
def ref08_Apply_c11 (t12_4 : AV) (Q : AV → SH → Prop) (t7_2 : AV) (t3 : AV) (t2 : AV) (t4 : AV) (t5 : AV) (t6_6 : AV) (t25_10 : AV) (L_11 : SH) : Prop :=
 W.un .not t25_10 fun t26_12 =>
 W.cond t26_12 (
 (ref08_Apply_zt0 t12_4 L_11 Q)) (
 W.load true 4 t7_2 L_11 fun t28_16 =>
 W.call Try.prog (.fn 56 []) [t28_16] L_11 (ref08_Apply_c10 t7_2 Q t3 t2 t12_4 t4 t5 t6_6))
def ref08_Apply_w (t0 t1 t2 t3 t4 t5 : AV) (L : SH) (Q : AV → SH → Prop) : Prop :=
 W.box t0 L fun t6_0 L_1 =>
 W.box t1 L_1 fun t7_2 L_3 =>
 W.alloc [.nils, (.int .i64 0), .nils, .nils] L_3 fun t12_4 L_5 =>
 W.frz1 t6_0 L_5 fun t6_6 L_7 =>
 W.load true 6 t6_6 L_7 fun t20_8 =>
 W.load true 4 t7_2 L_7 fun t21_9 =>
 W.call Try.prog (.fn 55 []) [t20_8, t21_9, t2, t3, t4] L_7 (ref08_Apply_c11 t12_4 Q t7_2 t3 t2 t4 t5 t6_6)
theorem ref08_Apply_e (t0 t1 t2 t3 t4 t5 : AV) (L : SH) (Q : AV → SH → Prop) : W.func Try.prog Fl ref08_Apply_t Try.f29 (Try.f29.body.getD .skip) [t0, t1, t2, t3, t4, t5] L Q = ref08_Apply_w t0 t1 t2 t3 t4 t5 L Q := by kernel_rfl
theorem ref08_Apply_ok (t0 t1 t2 t3 t4 t5 : AV) (L : SH) (Q : AV → SH → Prop) (h : ref08_Apply_w t0 t1 t2 t3 t4 t5 L Q) : CallA Try.prog 29 [t0, t1, t2, t3, t4, t5] L Q :=
  func_sound (ht := ref08_Apply_t) fit Try.func29 (show Try.f29.body = some (Try.f29.body.getD .skip) by kernel_rfl) (Eq.mpr (ref08_Apply_e t0 t1 t2 t3 t4 t5 L Q) h)

end Go.Proofs.Ytadjimfkfmojkaa.Am

end
section
namespace Go.Proofs.Ytadjimfkfmojkaa.Am
set_option linter.unusedVariables false
section
variable {P : Program} {F : TypeId → Option (List TypeId)} {K : AV → Prop} {KL : AV → SH → Prop} {L : SH}
theorem a_pick_t {p : Bool} {x y : AV} (hp : p = true) (h : K x) : W.pick (.bool p) x y K := by subst hp; rw [pick_t]; exact h
theorem a_pick_f {p : Bool} {x y : AV} (hp : p = false) (h : K y) : W.pick (.bool p) x y K := by subst hp; rw [pick_f]; exact h
theorem a_grd_y {p want : Bool} {A : (AV → SH → Prop) → Prop} (hp : p = want) (h : A KL) : W.grd (.bool p) want A L KL := ⟨.inl ⟨by rw [hp], h⟩⟩
theorem a_grd_n {p want : Bool} {A : (AV → SH → Prop) → Prop} (hp : p = !want) (h : KL undefA L) : W.grd (.bool p) want A L KL := ⟨.inr ⟨.inl (by rw [hp]), h⟩⟩
theorem a_grd_u {want : Bool} {A : (AV → SH → Prop) → Prop} (h : KL undefA L) : W.grd undefA want A L KL := ⟨.inr ⟨.inr rfl, h⟩⟩
theorem a_grd_t {p : Bool} {A : (AV → SH → Prop) → Prop} (h1 : p = true → A KL) (h2 : p = false → KL undefA L) : W.grd (.bool p) true A L KL := by rw [grd_t]; exact ⟨h1, h2⟩
theorem a_grd_f {p : Bool} {A : (AV → SH → Prop) → Prop} (h1 : p = false → A KL) (h2 : p = true → KL undefA L) : W.grd (.bool p) false A L KL := by rw [grd_f]; exact ⟨h1, h2⟩
theorem a_dgrd_y {KF : AV → SH → W.Fp → Prop} {p want : Bool} {A : (AV → SH → W.Fp → Prop) → Prop} (hp : p = want) (h : A KF) : W.dgrd (.bool p) want A L KF := ⟨.inl ⟨by rw [hp], h⟩⟩
theorem a_dgrd_n {KF : AV → SH → W.Fp → Prop} {p want : Bool} {A : (AV → SH → W.Fp → Prop) → Prop} (hp : p = !want) (h : KF undefA L ⟨[], [], [], L.names⟩) : W.dgrd (.bool p) want A L KF := ⟨.inr ⟨.inl (by rw [hp]), h⟩⟩
theorem a_dgrd_u {KF : AV → SH → W.Fp → Prop} {want : Bool} {A : (AV → SH → W.Fp → Prop) → Prop} (h : KF undefA L ⟨[], [], [], L.names⟩) : W.dgrd undefA want A L KF := ⟨.inr ⟨.inr rfl, h⟩⟩
theorem a_dgrd_t {KF : AV → SH → W.Fp → Prop} {p : Bool} {A : (AV → SH → W.Fp → Prop) → Prop} (h1 : p = true → A KF) (h2 : p = false → KF undefA L ⟨[], [], [], L.names⟩) : W.dgrd (.bool p) true A L KF := by rw [dgrd_t]; exact ⟨h1, h2⟩
theorem a_dgrd_f {KF : AV → SH → W.Fp → Prop} {p : Bool} {A : (AV → SH → W.Fp → Prop) → Prop} (h1 : p = false → A KF) (h2 : p = true → KF undefA L ⟨[], [], [], L.names⟩) : W.dgrd (.bool p) false A L KF := by rw [dgrd_f]; exact ⟨h1, h2⟩
theorem a_cond_t {p : Bool} {A B : Prop} (hp : p = true) (h : A) : W.cond (.bool p) A B := ⟨.inl ⟨by rw [hp], h⟩⟩
theorem a_cond_f {p : Bool} {A B : Prop} (hp : p = false) (h : B) : W.cond (.bool p) A B := ⟨.inr ⟨by rw [hp], h⟩⟩
theorem a_cond {p : Bool} {A B : Prop} (h1 : p = true → A) (h2 : p = false → B) : W.cond (.bool p) A B := by rw [cond_b]; exact ⟨h1, h2⟩
theorem a_lss {t : TypeId} {k : IntKind} {a b : Int} (h : K (.bool (decide (a < b)))) : W.bin P F .lss t (.int k a) (.int k b) K := by rw [lss_i]; exact h
theorem a_leq {t : TypeId} {k : IntKind} {a b : Int} (h : K (.bool (decide (a ≤ b)))) : W.bin P F .leq t (.int k a) (.int k b) K := by rw [leq_i]; exact h
theorem a_gtr {t : TypeId} {k : IntKind} {a b : Int} (h : K (.bool (decide (b < a)))) : W.bin P F .gtr t (.int k a) (.int k b) K := by rw [gtr_i]; exact h
theorem a_geq {t : TypeId} {k : IntKind} {a b : Int} (h : K (.bool (decide (b ≤ a)))) : W.bin P F .geq t (.int k a) (.int k b) K := by rw [geq_i]; exact h
theorem a_eql {t : TypeId} {k : IntKind} {a b : Int} (h : K (.bool (decide (a = b)))) : W.bin P F .eql t (.int k a) (.int k b) K := by rw [eql_i]; exact h
theorem a_neq {t : TypeId} {k : IntKind} {a b : Int} (h : K (.bool (decide (a ≠ b)))) : W.bin P F .neq t (.int k a) (.int k b) K := by rw [neq_i]; exact h
theorem a_add {t : TypeId} {k : IntKind} {a b : Int} (h : K (.int k (k.wrap (a + b)))) : W.bin P F .add t (.int k a) (.int k b) K := by rw [add_i]; exact h
theorem a_sub {t : TypeId} {k : IntKind} {a b : Int} (h : K (.int k (k.wrap (a - b)))) : W.bin P F .sub t (.int k a) (.int k b) K := by rw [sub_i]; exact h
theorem a_mul {t : TypeId} {k : IntKind} {a b : Int} (h : K (.int k (k.wrap (a * b)))) : W.bin P F .mul t (.int k a) (.int k b) K := by rw [mul_i]; exact h
theorem a_rem {t : TypeId} {k : IntKind} {a b : Int} (hb : b ≠ 0) (h : K (.int k (a.tmod b))) : W.bin P F .rem t (.int k a) (.int k b) K := by rw [rem_i]; exact ⟨hb, h⟩
theorem a_eqs {t : TypeId} {a b : List UInt8} (h : K (.bool (decide (a = b)))) : W.bin P F .eql t (.str a) (.str b) K := by rw [eql_s]; exact h
theorem a_nes {t : TypeId} {a b : List UInt8} (h : K (.bool (decide (a ≠ b)))) : W.bin P F .neq t (.str a) (.str b) K := by rw [neq_s]; exact h
theorem a_not {b : Bool} (h : K (.bool !b)) : W.un .not (.bool b) K := by rw [un_not]; exact h
theorem a_neg {k : IntKind} {n : Int} (h : K (.int k (k.wrap (0 - n)))) : W.un .neg (.int k n) K := by rw [un_neg]; exact h
theorem a_conv {k k' : IntKind} {n : Int} (h : K (.int k (k.wrap n))) : W.conv k (.int k' n) K := by rw [conv_i]; exact h
theorem a_convS {s : List UInt8} (h : K (.str s)) : W.convS (.str s) K := by rw [convS_s]; exact h
theorem a_faddr_p {off b i o : Nat} (h : K (.ptr b i (o + off))) : W.faddr off (.ptr b i o) K := ⟨h⟩
theorem a_faddr_q {off : Nat} {rows : List (List AV)} {i o : Nat} (h : K (.pptr rows i (o + off))) : W.faddr off (.pptr rows i o) K := ⟨h⟩
theorem a_fld {ag : Bool} {n off : Nat} {cs : List AV} {v : AV} (h1 : W0.rowLd ag n cs off = some v) (h : K v) : W.fld ag n off (.agg cs) K := ⟨cs, v, rfl, h1, h⟩
theorem a_load_q {n : Nat} {rows : List (List AV)} {i off : Nat} {r : List AV} {v : AV} (h1 : rows[i]? = some r) (h2 : r[off]? = some v) (h : K v) : W.load false n (.pptr rows i off) L K := ⟨r, v, h1, h2, h⟩
theorem a_load_p {n b i off : Nat} {x : Blk} {r : List AV} {v : AV} (hm : (b, x) ∈ L) (h1 : x.rows[i]? = some r) (h2 : r[off]? = some v) (h : K v) : W.load false n (.ptr b i off) L K := ⟨x, r, v, hm, h1, h2, h⟩
/-- a whole row -/
theorem a_row_q {n : Nat} {rows : List (List AV)} {i : Nat} {r : List AV} (h1 : rows[i]? = some r) (h2 : r.length = n) (h : K (.agg r)) : W.load true n (.pptr rows i 0) L K :=
  ⟨r, .agg r, h1, by simp [W0.rowLd, ← h2], h⟩
theorem a_row_p {n b i : Nat} {x : Blk} {r : List AV} (hm : (b, x) ∈ L) (h1 : x.rows[i]? = some r) (h2 : r.length = n) (h : K (.agg r)) : W.load true n (.ptr b i 0) L K :=
  ⟨x, r, .agg r, hm, h1, by simp [W0.rowLd, ← h2], h⟩
/-- a box is written whole -/
theorem a_store_box {KS : SH → Prop} {n b : Nat} {v : AV} {m : Nat} {r cs : List AV} {L' : SH} (hu : Upd b ⟨m, [r]⟩ ⟨m, [cs]⟩ L L') (h2 : v.cells? = some cs) (h3 : cs.length = n) (h4 : cs.all AV.one = true) (h5 : r.length = n) (h : KS L') : W.store n (.ptr b 0 0) v L KS :=
  ⟨⟨m, [r]⟩, r, cs, L', rfl, h2, h3, h4, by omega, by
    have : rowStore r 0 cs = cs := by
      unfold rowStore
      rw [List.take_zero, List.nil_append, List.drop_of_length_le (by omega), List.append_nil]
    rw [this]; exact hu, h⟩
theorem rowStore_one (r : List AV) (off : Nat) (v : AV) (h : off < r.length) : rowStore r off [v] = r.set off v := by
  unfold rowStore
  rw [List.set_eq_take_append_cons_drop, if_pos h]
  simp
/-- one cell is written -/
theorem a_store_one {KS : SH → Prop} {b i off : Nat} {v : AV} {x x' : Blk} {r : List AV} {L' : SH} (hu : Upd b x x' L L') (h1 : x.rows[i]? = some r) (h2 : v.cells? = some [v]) (h4 : v.one = true) (h5 : off < r.length) (h6 : x' = ⟨x.size, x.rows.set i (r.set off v)⟩) (h : KS L') : W.store 1 (.ptr b i off) v L KS :=
  ⟨x, r, [v], L', h1, h2, rfl, by simp [h4], by omega, by rw [rowStore_one r off v h5, ← h6]; exact hu, h⟩
/-- a row is written whole -/
theorem a_store_row {KS : SH → Prop} {n b i : Nat} {v : AV} {x x' : Blk} {r cs : List AV} {L' : SH} (hu : Upd b x x' L L') (h1 : x.rows[i]? = some r) (h2 : v.cells? = some cs) (h3 : cs.length = n) (h4 : cs.all AV.one = true) (h5 : r.length = n) (h6 : x' = ⟨x.size, x.rows.set i cs⟩) (h : KS L') : W.store n (.ptr b i 0) v L KS :=
  ⟨x, r, cs, L', h1, h2, h3, h4, by omega, by
    have : rowStore r 0 cs = cs := by
      unfold rowStore
      rw [List.take_zero, List.nil_append, List.drop_of_length_le (by omega), List.append_nil]
    rw [this, ← h6]; exact hu, h⟩
theorem a_idx_n {n : Nat} {rows : List (List AV)} {k : IntKind} {j : Nat} {r : List AV} (h1 : rows[j]? = some r) (h2 : r.length = n) (h : K (.pptr rows j 0)) : W.idx n (.lst rows) (.int k (j : Int)) L K :=
  ⟨k, j, r, rfl, Int.natCast_nonneg _, by simpa using h1, h2, by simpa using h⟩
theorem a_idx_l {n : Nat} {rows : List (List AV)} {k : IntKind} {i : Int} {r : List AV} (h0 : 0 ≤ i) (h1 : rows[i.toNat]? = some r) (h2 : r.length = n) (h : K (.pptr rows i.toNat 0)) : W.idx n (.lst rows) (.int k i) L K := ⟨k, i, r, rfl, h0, h1, h2, h⟩
theorem a_idx_s {n b j m : Nat} {k : IntKind} {i : Int} {y : Blk} (h0 : 0 ≤ i) (h1 : i.toNat < m) (hm : (b, y) ∈ L) (h2 : y.size = n) (h : K (.ptr b (j + i.toNat) 0)) : W.idx n (.sl b j m) (.int k i) L K := ⟨k, i, y, rfl, h0, h1, hm, h2, h⟩
theorem a_idx_sn {n b m : Nat} {k : IntKind} {i : Nat} {y : Blk} (h1 : i < m) (hm : (b, y) ∈ L) (h2 : y.size = n) (h : K (.ptr b i 0)) : W.idx n (.sl b 0 m) (.int k (i : Int)) L K := ⟨k, i, y, rfl, Int.natCast_nonneg _, by simpa using h1, hm, h2, by simpa using h⟩
theorem a_ext {i : Nat} {vs : List AV} {v : AV} (h1 : vs[i]? = some v) (h : K v) : W.ext i (.tup vs) K := ⟨vs, v, rfl, h1, h⟩
theorem a_nil_p {b i off : Nat} (h : K (.ptr b i off)) : W.nilchk (.ptr b i off) K := ⟨h⟩
theorem a_nil_q {rows : List (List AV)} {i off : Nat} (h : K (.pptr rows i off)) : W.nilchk (.pptr rows i off) K := ⟨h⟩
theorem a_nil_f {f : FuncId} {cs : List AV} (h : K (.fn f cs)) : W.nilchk (.fn f cs) K := ⟨h⟩
theorem a_build {z : List AV} {ps : List (Nat × Nat × AV)} {cs : List AV} (h1 : W0.fillR z ps = some cs) (h : K (.agg cs)) : W.build z ps K := ⟨cs, h1, h⟩
theorem a_alloc {cs : List AV} (h : ∀ b, b ∉ L.names → KL (.ptr b 0 0) ((b, ⟨cs.length, [cs]⟩) :: L)) : W.alloc cs L KL := ⟨h⟩
theorem a_box {x : AV} {cs : List AV} (h1 : x.cells? = some cs) (h2 : cs.all AV.one = true) (h : ∀ b, b ∉ L.names → KL (.ptr b 0 0) ((b, ⟨cs.length, [cs]⟩) :: L)) : W.box x L KL := ⟨cs, h1, h2, h⟩
theorem a_bslice {n : Nat} {z : List AV} {len : Nat} {ps : List (Nat × AV)} {rows : List (List AV)} (h1 : len * n ≤ 2 ^ 24) (h2 : fillRows n (List.replicate len z) ps = some rows) (h : ∀ b, b ∉ L.names → KL (.sl b 0 len) ((b, ⟨n, rows⟩) :: L)) : W.bslice n z len ps L KL := ⟨h1, rows, h2, h⟩
theorem a_mslice {n by_ : Nat} {z : List AV} {k k' : IntKind} {i j : Nat} (h1 : i ≤ j) (h2 : j ≤ 2 ^ 62) (h3 : j * by_ ≤ 2 ^ 48) (h : ∀ b, b ∉ L.names → KL (.sl b 0 i) ((b, ⟨n, List.replicate i z⟩) :: L)) : W.mslice n by_ z (.int k (i : Int)) (.int k' (j : Int)) L KL := ⟨k, k', i, j, rfl, rfl, h1, h2, h3, h⟩
theorem a_len_l {rows : List (List AV)} (h : K (.int .i64 (rows.length : Int))) : W.len (.lst rows) K := ⟨_, rfl, h⟩
theorem a_len_m {α : Type} {f : α → List AV} {l : List α} (h : K (.int .i64 (l.length : Int))) : W.len (.lst (l.map f)) K := ⟨_, rfl, by rw [List.length_map]; exact h⟩
theorem a_len_s {b i n : Nat} (h : K (.int .i64 (n : Int))) : W.len (.sl b i n) K := ⟨_, rfl, h⟩
theorem a_len_n (h : K (.int .i64 (0 : Nat))) : W.len .nils K := ⟨_, rfl, h⟩
theorem a_lenS {s : List UInt8} (h : K (.int .i64 (s.length : Int))) : W.lenS (.str s) K := ⟨_, rfl, h⟩
theorem a_frz_p {b i off : Nat} {x : Blk} {L' : SH} (h1 : Del b x L L') (h2 : 0 < x.size) (h3 : 0 < x.rows.length) (h : KL (.pptr x.rows i off) L') : W.frz1 (.ptr b i off) L KL := ⟨x, L', h1, h2, h3, h⟩
theorem a_note {KF : W.Fp → Prop} {r : W.Fp} (h : KF r) : W.note r KF := by rw [note_eq]; exact h
theorem a_calm {us : List W.WR} {y : W.WR} {A : Prop} (h1 : ∀ x ∈ us, W.free x y) (h : A) : W.calm us y A := ⟨h1, h⟩
theorem a_tt {A : Prop} (h : A) : (true = true) ∧ A := ⟨rfl, h⟩
theorem a_join {J : W.Kn} {B : W.Kn → Prop} (h : B J) : W.join J B := ⟨h⟩
theorem a_app_s {n by_ b' i k : Nat} {x : AV} {y : Blk} {l m : List (List AV)} {L' : SH} (hm : (b', y) ∈ L) (hs : y.size = n) (hl : i + k ≤ y.rows.length) (he : (y.rows.drop i).take k = l) (h1 : W0.rowsR L n x m)
    (h2 : 2 * (l.length + m.length) * by_ ≤ 2 ^ 48) (h3 : 2 * (l.length + m.length) ≤ 2 ^ 62) (h4 : (m.all fun r => r.all AV.one) = true) (hd : Del b' y L L')
    (h : ∀ b, b ∉ L.names → KL (.sl b 0 (l.length + m.length)) ((b, ⟨n, l ++ m⟩) :: L')) : W.append n by_ (.sl b' i k) x L KL :=
  ⟨l, m, ⟨y, hm, hs, hl, he.symm⟩, h1, h2, h3, h4, y, L', hd, h⟩
theorem a_app_e {n by_ : Nat} {x : AV} {m : List (List AV)} (h1 : W0.rowsR L n x m) (h2 : 2 * m.length * by_ ≤ 2 ^ 48) (h3 : 2 * m.length ≤ 2 ^ 62) (h4 : (m.all fun r => r.all AV.one) = true) (h0 : m.length ≠ 0)
    (h : ∀ b, b ∉ L.names → KL (.sl b 0 m.length) ((b, ⟨n, m⟩) :: L)) : W.append n by_ .emp x L KL :=
  ⟨[], m, rfl, h1, by simpa using h2, by simpa using h3, h4, fun e => absurd e h0, fun _ => h⟩
theorem a_len_e (h : K (.int .i64 (0 : Nat))) : W.len .emp K := ⟨_, rfl, h⟩
theorem a_clear_s {KS : SH → Prop} {n : Nat} {z : List AV} {b i k : Nat} {y y' : Blk} {L' : SH} (hu : Upd b y y' L L') (h1 : y.size = n) (h2 : i + k ≤ y.rows.length) (h3 : y' = ⟨y.size, y.rows.take i ++ List.replicate k z ++ y.rows.drop (i + k)⟩) (h : KS L') : W.clear n z (.sl b i k) L KS :=
  ⟨y, L', h1, h2, h3 ▸ hu, h⟩
theorem a_slice_s {n b i m : Nat} {lo hi : Option AV} {l h : Nat} {y : Blk} (h1 : boundA lo 0 = some l) (h2 : boundA hi m = some h) (hl : l ≤ h) (hh : h ≤ m) (hm : (b, y) ∈ L) (hs : y.size = n) (hk : K (.sl b (i + l) (h - l))) : W.slice n (.sl b i m) lo hi none L K :=
  ⟨m, l, h, m, rfl, h1, h2, rfl, hl, hh, Nat.le_refl _, ⟨y, hm, hs⟩, hk⟩
theorem a_slice_l {n : Nat} {rows : List (List AV)} {lo hi : Option AV} {l h : Nat} (h1 : boundA lo 0 = some l) (h2 : boundA hi rows.length = some h) (hl : l ≤ h) (hh : h ≤ rows.length) (hs : ∀ r, rows.head? = some r → r.length = n) (hk : K (.lst ((rows.drop l).take (h - l)))) : W.slice n (.lst rows) lo hi none L K :=
  ⟨rows.length, l, h, rows.length, rfl, h1, h2, rfl, hl, hh, Nat.le_refl _, hs, hk⟩
theorem rowsR_m {α : Type} {f : α → List AV} {l : List α} {n : Nat} (h : ∀ x, (f x).length = n) : W0.rowsR L n (.lst (l.map f)) (l.map f) := ⟨rfl, fun r hr => by
  cases l with
  | nil => cases hr
  | cons x l => simp at hr; rw [← hr]; exact h x⟩
theorem rowsR_s {n b k : Nat} {x : Blk} (hm : (b, x) ∈ L) (hs : x.size = n) (hk : k = x.rows.length) : W0.rowsR L n (.sl b 0 k) x.rows := ⟨x, hm, hs, by omega, by simp [hk]⟩
end
end Go.Proofs.Ytadjimfkfmojkaa.Am

end
section
namespace Go.Proofs.Ytadjimfkfmojkaa.Am
set_option linter.unusedVariables false
abbrev Str := List UInt8
structure CellD where
  name : Str
  index : Int
  size : Int
  volatile : Bool
  init : Int
  deriving Inhabited, DecidableEq
structure LockI where
  name : Str
  rw : Bool
  deriving Inhabited, DecidableEq
structure CondI where
  name : Str
  mutex : Int
  deriving Inhabited, DecidableEq
structure SiteD where
  thread : Int
  stmt : Int
  line : Int
  deriving Inhabited, DecidableEq
structure WorldD where
  cells : List CellD
  locks : List LockI
  conds : List CondI
  futures : List Str
  threads : List Str
  sites : List SiteD
  deriving Inhabited, DecidableEq
structure LockD where
  owner : Int
  readers : List Int
  deriving Inhabited, DecidableEq
structure ThrD where
  status : Int
  cond : Int
  atomic : Bool
  deriving Inhabited, DecidableEq
structure SyncD where
  locks : List LockD
  tx : Int
  done : List Bool
  threads : List ThrD
  deriving Inhabited, DecidableEq
def CellD.enc (c : CellD) : List AV := [.str c.name, .int .i64 c.index, .int .i64 c.size, .bool c.volatile, .int .i64 c.init]
def LockI.enc (c : LockI) : List AV := [.str c.name, .bool c.rw]
def CondI.enc (c : CondI) : List AV := [.str c.name, .int .i64 c.mutex]
def SiteD.enc (c : SiteD) : List AV := [.int .i64 c.thread, .int .i64 c.stmt, .int .i64 c.line]
def strE (s : Str) : List AV := [.str s]
def intE (n : Int) : List AV := [.int .i64 n]
def boolE (b : Bool) : List AV := [.bool b]
def LockD.enc (l : LockD) : List AV := [.int .i64 l.owner, .lst (l.readers.map intE)]
def ThrD.enc (t : ThrD) : List AV := [.int .i64 t.status, .int .i64 t.cond, .bool t.atomic]
def WorldD.enc (w : WorldD) : List AV := [.lst (w.cells.map CellD.enc), .lst (w.locks.map LockI.enc), .lst (w.conds.map CondI.enc), .lst (w.futures.map strE), .lst (w.threads.map strE), .lst (w.sites.map SiteD.enc)]
def SyncD.enc (s : SyncD) : List AV := [.lst (s.locks.map LockD.enc), .int .i64 s.tx, .lst (s.done.map boolE), .lst (s.threads.map ThrD.enc)]
theorem map_at {α β : Type} {f : α → β} {l : List α} {i : Nat} (h : i < l.length) : (l.map f)[i]? = some (f l[i]) := by simp [h]
theorem i64_succ {i n : Nat} (h : i < n) (hn : n < 2 ^ 62) : IntKind.i64.wrap ((i : Int) + 1) = ((i + 1 : Nat) : Int) := by rw [IntWalk.i64_in _ (by omega)]; omega
theorem dec_lt {i n : Nat} (h : i < n) : decide ((i : Int) < (n : Int)) = true := by simpa using h
theorem dec_ge {i n : Nat} (h : n ≤ i) : decide ((i : Int) < (n : Int)) = false := by simpa using h
theorem fzs_eq {vs vs2 : List AV} {L L2 : SH} (hv : vs = vs2) (hL : L = L2) : FzS vs L vs2 L2 := by subst hv; subst hL; exact .refl _ _
/-- a loop that counts -/
theorem for_by (n : Nat) (S : Nat → List AV × SH) (G : Nat → Prop) {B : List AV → SH → W.Kn → Prop} {vs : List AV} {L : SH} (h0 : G 0) (hv : vs = (S 0).1) (hL : L = (S 0).2)
    (h : ∀ i, i ≤ n → G i → B (S i).1 (S i).2 fun vs' L' => ∃ j, i < j ∧ j ≤ n ∧ G j ∧ FzS vs' L' (S j).1 (S j).2) : W.loop B vs L := by
  refine ⟨fun k vs L => ∃ i, i ≤ n ∧ G i ∧ k = n - i ∧ vs = (S i).1 ∧ L = (S i).2, ⟨n, _, _, .refl _ _, 0, Nat.zero_le _, h0, rfl, hv, hL⟩, ?_⟩
  rintro k vs L ⟨i, hi, hG, rfl, rfl, rfl⟩
  have e : (fun vs' L' => ∃ m vs2 L2, m < n - i ∧ FzS vs' L' vs2 L2 ∧ ∃ j, j ≤ n ∧ G j ∧ m = n - j ∧ vs2 = (S j).1 ∧ L2 = (S j).2) = fun vs' L' => ∃ j, i < j ∧ j ≤ n ∧ G j ∧ FzS vs' L' (S j).1 (S j).2 := by
    funext vs' L'
    apply propext
    constructor
    · rintro ⟨m, vs2, L2, h1, h2, j, h3, h4, rfl, rfl, rfl⟩; exact ⟨j, by omega, h3, h4, h2⟩
    · rintro ⟨j, h1, h2, h3, h4⟩; exact ⟨n - j, _, _, by omega, h4, j, h2, h3, rfl, rfl, rfl⟩
  rw [e]
  exact h i hi hG
def inB (i : Int) (n : Nat) : Bool := decide (0 ≤ i) && decide (i < (n : Int))
theorem inB_iff {i : Int} {n : Nat} : inB i n = true ↔ 0 ≤ i ∧ i < n := by simp [inB]
theorem nn_inB {i : Int} {n : Nat} (h : inB i n = true) : 0 ≤ i := (inB_iff.1 h).1
theorem at_inB {α : Type} [Inhabited α] {f : α → List AV} {l : List α} {i : Int} (h : inB i l.length = true) : (l.map f)[i.toNat]? = some (f (l.getD i.toNat default)) := by
  obtain ⟨h1, h2⟩ := inB_iff.1 h
  have : i.toNat < l.length := by omega
  simp [this]
end Go.Proofs.Ytadjimfkfmojkaa.Am

end
section
namespace Go.Proofs.Ytadjimfkfmojkaa.Am
set_option maxRecDepth 100000
set_option linter.unusedSimpArgs false
set_option linter.unusedVariables false
/-- a slice that reads as a list -/
theorem Fz.slm {α : Type} {K : SH} {b n size : Nat} {l : List α} {f g : α → List AV} {rows : List (List AV)} (hm : (b, ⟨size, rows⟩) ∈ K) (hr : rows = l.map f) (hs : 0 < size) (hn : n = l.length) (hl : ∀ y ∈ l, (f y).length = (g y).length)
    (hc : ∀ y ∈ l, ∀ (q : Nat) (a a2 : AV), (f y)[q]? = some a → (g y)[q]? = some a2 → Fz K a a2) : Fz K (.sl b 0 n) (.lst (l.map g)) := by
  subst hr
  subst hn
  cases l with
  | nil => exact .sl0 b 0
  | cons x l =>
    have get : ∀ (j : Nat) (r r2 : List AV), ((x :: l).map f)[0 + j]? = some r → ((x :: l).map g)[j]? = some r2 → ∃ y ∈ x :: l, r = f y ∧ r2 = g y := fun j r r2 h1 h2 => by
      rw [Nat.zero_add, List.getElem?_map] at h1
      rw [List.getElem?_map] at h2
      cases hj : (x :: l)[j]? with
      | none => rw [hj] at h1; cases h1
      | some y =>
        rw [hj] at h1 h2
        cases h1; cases h2
        exact ⟨y, List.mem_of_getElem? hj, rfl, rfl⟩
    refine .sl b 0 _ ⟨size, (x :: l).map f⟩ _ hm hs (by simp) (by simp) (by simp) (fun j r r2 h1 h2 => ?_) (fun j r r2 q a a2 h1 h2 h3 h4 => ?_)
    · obtain ⟨y, hy, rfl, rfl⟩ := get j r r2 h1 h2; exact hl y hy
    · obtain ⟨y, hy, rfl, rfl⟩ := get j r r2 h1 h2; exact hc y hy q a a2 h3 h4
theorem Fz.sls {α : Type} {K : SH} {b n size : Nat} {l : List α} {f : α → List AV} {rows : List (List AV)} (hm : (b, ⟨size, rows⟩) ∈ K) (hr : rows = l.map f) (hs : 0 < size) (hn : n = l.length) : Fz K (.sl b 0 n) (.lst (l.map f)) :=
  Fz.slm hm hr hs hn (fun _ _ => rfl) fun y _ q a a2 h1 h2 => by rw [h1] at h2; cases h2; exact .refl _
/-- cell by cell -/
inductive FzL (K : SH) : List AV → List AV → Prop where
  | nil : FzL K [] []
  | cons {a b : AV} {l m : List AV} : Fz K a b → FzL K l m → FzL K (a :: l) (b :: m)
theorem FzL.at_ {K : SH} {l m : List AV} (h : FzL K l m) : l.length = m.length ∧ ∀ (i : Nat) (a b : AV), l[i]? = some a → m[i]? = some b → Fz K a b := by
  induction h with
  | nil => exact ⟨rfl, fun i a b h => by simp at h⟩
  | cons h1 h2 ih =>
    refine ⟨by simp [ih.1], fun i a b ha hb => ?_⟩
    match i with
    | 0 => cases ha; cases hb; exact h1
    | i + 1 => exact ih.2 i a b (by simpa using ha) (by simpa using hb)
theorem Fz.aggs {K : SH} {l m : List AV} (h : FzL K l m) : Fz K (.agg l) (.agg m) := .agg l m h.at_.1 h.at_.2
theorem Fz.tups {K : SH} {l m : List AV} (h : FzL K l m) : Fz K (.tup l) (.tup m) := .tup l m h.at_.1 h.at_.2
theorem FzS.all {L : SH} {v v2 : AV} (h : Fz L v v2) : FzS [v] L [v2] [] := .drop (K := L) (R := []) (by simp) rfl fun i a a2 h1 h2 => by
  match i with
  | 0 => cases h1; cases h2; exact h
  | i + 1 => simp at h1
theorem rep_set {α : Type} (i n : Nat) (A B : α) (h : i < n) : (List.replicate i A ++ List.replicate (n - i) B).set i A = List.replicate (i + 1) A ++ List.replicate (n - (i + 1)) B := by
  rw [List.set_append_right _ _ (by simp), List.length_replicate, Nat.sub_self]
  obtain ⟨k, hk⟩ : ∃ k, n - i = k + 1 := ⟨n - i - 1, by omega⟩
  rw [hk, List.replicate_succ, List.set_cons_zero, show n - (i + 1) = k by omega, List.replicate_succ', List.append_assoc, List.singleton_append]
theorem rep_get {α : Type} (i n : Nat) (A B : α) (h : i < n) : (List.replicate i A ++ List.replicate (n - i) B)[i]? = some B := by
  rw [List.getElem?_append_right (by simp), List.length_replicate, Nat.sub_self]
  obtain ⟨k, hk⟩ : ∃ k, n - i = k + 1 := ⟨n - i - 1, by omega⟩
  rw [hk, List.replicate_succ]; rfl
/-- a slice that has no room as long as nothing was appended to it -/
def slotV : Option Nat → Nat → AV
  | none, _ => .emp
  | some b, n => .sl b 0 n
def slotB (o : Option Nat) (size : Nat) (rows : List (List AV)) : SH := match o with
  | none => []
  | some b => [(b, ⟨size, rows⟩)]
theorem Del.app {b : Nat} {x : Blk} {L L' : SH} (h : Del b x L L') : ∀ M : SH, Del b x (M ++ L) (M ++ L')
  | [] => h
  | p :: M => .there p (h.app M)
theorem a_app_slot (M : SH) {KL : AV → SH → Prop} {o : Option Nat} {i n by_ bX : Nat} {R : SH} {rows m : List (List AV)} {k : Nat} (hr : rows.length = i) (h0 : o = none → rows = []) (hk : k = m.length) (hm : 0 < m.length) (h2 : 2 * (i + m.length) * by_ ≤ 2 ^ 48) (h3 : 2 * (i + m.length) ≤ 2 ^ 62) (h4 : (m.all fun r => r.all AV.one) = true)
    (h : ∀ b, KL (.sl b 0 (i + m.length)) ((b, ⟨n, rows ++ m⟩) :: (bX, ⟨n, m⟩) :: (M ++ R))) : W.append n by_ (slotV o i) (.sl bX 0 k) ((bX, ⟨n, m⟩) :: (M ++ (slotB o n rows ++ R))) KL := by
  subst hk
  cases o with
  | none =>
    have hr0 := h0 rfl
    subst hr0
    simp only [List.length_nil] at hr
    subst hr
    have := a_app_e (KL := KL) (L := (bX, ⟨n, m⟩) :: (M ++ R)) (by_ := by_) (rowsR_s (.head _) rfl rfl) (by simpa using h2) (by simpa using h3) h4 (by show m.length ≠ 0; omega) (fun b _ => by simpa using h b)
    exact this
  | some b =>
    subst hr
    exact a_app_s (y := ⟨n, rows⟩) (l := rows) (by simp [slotB]) rfl (by simp) (by simp) (rowsR_s (.head _) rfl rfl) h2 h3 h4 (.there _ (Del.app (.here R) M)) (fun b' _ => h b')
theorem perm_rot2 {α : Type} (x y u z : α) (R : List α) : (x :: y :: u :: z :: R).Perm ([y, u] ++ (z :: ([x] ++ R))) := (List.Perm.swap y x _).trans (((List.Perm.swap u x _).trans ((List.Perm.swap z x R).cons u)).cons y)
theorem perm_rot {α : Type} (x y z : α) (R : List α) : (x :: y :: z :: R).Perm ([y] ++ (z :: ([x] ++ R))) := (List.Perm.swap y x _).trans ((List.Perm.swap z x R).cons y)
/-- a list of blocks, without some -/
theorem FzS.forget {vs : List AV} {L K R : SH} (hL : L.Perm (K ++ R)) : FzS vs L vs R := .drop hL rfl fun i a a2 h1 h2 => by rw [h1] at h2; cases h2; exact .refl _
/-- the cells of a box are read anew -/
theorem FzS.box {vs : List AV} {L K R : SH} {b n : Nat} {r r' : List AV} (hL : L.Perm (K ++ (b, ⟨n, [r]⟩) :: R)) (hr : FzL K r r') : FzS vs L vs ((b, ⟨n, [r']⟩) :: R) := by
  refine ⟨K, (b, ⟨n, [r]⟩) :: R, hL, ⟨rfl, fun i a a2 h1 h2 => by rw [h1] at h2; cases h2; exact .refl _⟩, rfl, fun i p q h1 h2 => ?_⟩
  match i with
  | 0 =>
    cases h1; cases h2
    refine ⟨rfl, rfl, rfl, fun j s s2 g1 g2 => ?_⟩
    match j with
    | 0 => cases g1; cases g2; exact ⟨hr.at_.1, hr.at_.2⟩
    | j + 1 => simp at g1
  | i + 1 =>
    simp only [List.getElem?_cons_succ] at h1 h2
    rw [h1] at h2; cases h2
    exact ⟨rfl, rfl, rfl, fun j r r2 h3 h4 => by rw [h3] at h4; cases h4; exact ⟨rfl, fun k a a2 h5 h6 => by rw [h5] at h6; cases h6; exact .refl _⟩⟩
theorem Fz.slot {α : Type} {o : Option Nat} {size : Nat} {l : List α} {f g : α → List AV} {rows : List (List AV)} (hr : rows = l.map f) (h0 : o = none → rows = []) (hs : 0 < size) (hl : ∀ y ∈ l, (f y).length = (g y).length)
    (hc : ∀ y ∈ l, ∀ (q : Nat) (a a2 : AV), (f y)[q]? = some a → (g y)[q]? = some a2 → Fz (slotB o size rows) a a2) : Fz (slotB o size rows) (slotV o l.length) (.lst (l.map g)) := by
  cases o with
  | none =>
    have := h0 rfl
    subst hr
    have : l = [] := by simpa using this
    subst this
    exact .emp
  | some b => exact Fz.slm (List.mem_singleton.2 rfl) hr hs rfl hl hc
/-- a loop, over states that are described by a number and something more -/
theorem loop_ex {β : Type} (n : Nat) (S : Nat → β → List AV × SH) (G : Nat → β → Prop) {B : List AV → SH → W.Kn → Prop} {vs : List AV} {L : SH} (b0 : β) (h0 : G 0 b0) (hz : FzS vs L (S 0 b0).1 (S 0 b0).2)
    (h : ∀ i o, i ≤ n → G i o → B (S i o).1 (S i o).2 fun vs' L' => ∃ j o', i < j ∧ j ≤ n ∧ G j o' ∧ FzS vs' L' (S j o').1 (S j o').2) : W.loop B vs L := by
  refine ⟨fun k vs L => ∃ i o, i ≤ n ∧ G i o ∧ k = n - i ∧ vs = (S i o).1 ∧ L = (S i o).2, ⟨n, _, _, hz, 0, b0, Nat.zero_le _, h0, rfl, rfl, rfl⟩, ?_⟩
  rintro k vs L ⟨i, o, hi, hG, rfl, rfl, rfl⟩
  have e : (fun vs' L' => ∃ m vs2 L2, m < n - i ∧ FzS vs' L' vs2 L2 ∧ ∃ j o', j ≤ n ∧ G j o' ∧ m = n - j ∧ vs2 = (S j o').1 ∧ L2 = (S j o').2) = fun vs' L' => ∃ j o', i < j ∧ j ≤ n ∧ G j o' ∧ FzS vs' L' (S j o').1 (S j o').2 := by
    funext vs' L'
    apply propext
    constructor
    · rintro ⟨m, vs2, L2, h1, h2, j, o', h3, h4, rfl, rfl, rfl⟩; exact ⟨j, o', by omega, h3, h4, h2⟩
    · rintro ⟨j, o', h1, h2, h3, h4⟩; exact ⟨n - j, _, _, by omega, h4, j, o', h2, h3, rfl, rfl, rfl⟩
  rw [e]
  exact h i o hi hG
end Go.Proofs.Ytadjimfkfmojkaa.Am

end
section
namespace Go.Proofs.Ytadjimfkfmojkaa.Am
set_option linter.unusedVariables false
structure W.callM (P : Program) (g : FuncId) (args : List AV) (L : SH) (KL : AV → SH → Prop) : Prop where
  h : CallA P g args L KL
structure W.dcallM (P : Program) (us : List W.WR) (i : Nat) (g : FuncId) (args : List AV) (L : SH) (KN : AV → SH → List Nat → Prop) : Prop where
  h : ∃ Kc R : SH, L.Perm (Kc ++ R) ∧ (∀ x ∈ us, W.free x ⟨i, [], Kc.names, [], true, []⟩) ∧ CallA P g args Kc fun v Kc' => KN v (Kc' ++ R) Kc.names
section
variable {P : Program} {g : FuncId} {args : List AV} {L : SH} {KL : AV → SH → Prop} {KN : AV → SH → List Nat → Prop} {us : List W.WR} {i : Nat} {v : AV}
theorem a_mark (h : W.callM P g args L KL) : W.call P (.fn g []) args L KL := by rw [call_eq, List.append_nil]; exact h.h
theorem m_call (h1 : PureA P g args v) (h : KL v L) : W.callM P g args L KL := ⟨h1.call h⟩
theorem m_callF {K R : SH} {R1 : AV → SH → Prop} (h : CallA P g args K R1) (hL : L.Perm (K ++ R)) (hq : ∀ v K', R1 v K' → KL v (K' ++ R)) : W.callM P g args L KL := ⟨h.frame hL hq⟩
theorem m_callD {b : Nat} {x : Blk} {L' : SH} {R1 : AV → SH → Prop} (h : CallA P g args [(b, x)] R1) (hd : Del b x L L') (hq : ∀ v K', R1 v K' → KL v (K' ++ L')) : W.callM P g args L KL := ⟨h.frame hd.perm hq⟩
theorem m_dcallD {b : Nat} {x : Blk} {L' : SH} {R1 : AV → SH → Prop} (h : CallA P g args [(b, x)] R1) (hd : Del b x L L') (hf : ∀ y ∈ us, W.free y ⟨i, [], [b], [], true, []⟩) (hq : ∀ v K', R1 v K' → KN v (K' ++ L') [b]) : W.dcallM P us i g args L KN :=
  ⟨[(b, x)], L', hd.perm, hf, h.mono hq⟩
theorem CallA.nd {f : FuncId} {Q : AV → SH → Prop} (hb : ∃ fn c, P.funcs[f]? = some fn ∧ fn.body = some c) (h : L.names.Nodup → CallA P f args L Q) : CallA P f args L Q := ⟨hb, fun H hB hs => (h hs.nd).2 H hB hs⟩
/-- arguments as they read -/
theorem CallA.pre {f : FuncId} {args2 : List AV} {L2 : SH} {Q : AV → SH → Prop} (hz : FzS args L args2 L2) (h : CallA P f args2 L2 Q) : CallA P f args L Q := ⟨h.1, fun H hb hs => by
  obtain ⟨H2, f1, f2, f3, f4⟩ := fzs_sound hz hs hb
  obtain ⟨v, H', L', h1, h2, h3⟩ := h.2 H2 f1.bd f1.sub
  refine ⟨v, H', L', fun w σ vs hW hvs => ?_, f1.trans (h2.low (by rw [f2]; exact Nat.le_refl _)) (Nat.le_refl _), h3⟩
  obtain ⟨g1, g2, g3⟩ := f3 w σ hW
  refine (h1 w σ vs g1 (g3 vs hvs)).mono ?_
  rintro e w' ⟨v', σ', rfl, k1, k2, k3, k4⟩
  exact ⟨v', σ', rfl, k1, k2, ⟨k3.os, k3.tape, k3.output, k3.size, fun c hc hT => k3.keep c hc (fun h => hT (g2 c h)), k3.shape, k3.sig, k3.eqfr, k3.frame, fun c hc => (k3.own c hc).imp (g2 c) id⟩, fun c pl hc => by rw [← f2]; exact k4 c pl hc⟩⟩
/-- nothing but the arguments is read anew -/
theorem FzS.vals {vs vs2 : List AV} (h : FzL [] vs vs2) : FzS vs L vs2 L := .drop (K := []) (.refl _) h.at_.1 h.at_.2
theorem h_fn (k : FuncId) (h : W.callM P k args L KL) : W.callM P k args L KL := h
theorem h_dfn (k : FuncId) (h : W.dcallM P us i k args L KN) : W.dcallM P us i k args L KN := h
theorem a_dmark (h : W.dcallM P us i g args L KN) : W.dcall P us i (.fn g []) args L KN := by rw [dcall_eq, List.append_nil]; exact h.h
theorem m_dcall (h : PureA P g args v) (hf : ∀ x ∈ us, W.free x ⟨i, [], [], [], true, []⟩) (hk : KN v L []) : W.dcallM P us i g args L KN :=
  ⟨[], L, .refl _, hf, CallA.mono h fun u K ⟨h1, h2⟩ => by subst h1; subst h2; exact hk⟩
end
theorem h_load1 {n : Nat} {a : AV} {L : SH} {K : AV → Prop} (h : W.load false n a L K) : W.load false n a L K := h
theorem h_row {n : Nat} {a : AV} {L : SH} {K : AV → Prop} (h : W.load true n a L K) : W.load true n a L K := h
theorem h_faddr {off : Nat} {x : AV} {K : AV → Prop} (h : W.faddr off x K) : W.faddr off x K := h
theorem h_bin {P : Program} {F : TypeId → Option (List TypeId)} {op : BinOp} {t : TypeId} {x y : AV} {K : AV → Prop} (h : W.bin P F op t x y K) : W.bin P F op t x y K := h
theorem h_cond {v : AV} {A B : Prop} (h : W.cond v A B) : W.cond v A B := h
theorem h_idx {n : Nat} {x ix : AV} {L : SH} {K : AV → Prop} (h : W.idx n x ix L K) : W.idx n x ix L K := h
theorem h_len {x : AV} {K : AV → Prop} (h : W.len x K) : W.len x K := h
theorem h_ext {i : Nat} {x : AV} {K : AV → Prop} (h : W.ext i x K) : W.ext i x K := h
theorem h_calm {us : List W.WR} {y : W.WR} {A : Prop} (h : W.calm us y A) : W.calm us y A := h
theorem h_note {r : W.Fp} {K : W.Fp → Prop} (h : W.note r K) : W.note r K := h
theorem h_pick {c x y : AV} {K : AV → Prop} (h : W.pick c x y K) : W.pick c x y K := h
theorem h_grd {x : AV} {want : Bool} {A : (AV → SH → Prop) → Prop} {L : SH} {K : AV → SH → Prop} (h : W.grd x want A L K) : W.grd x want A L K := h
theorem h_dgrd {x : AV} {want : Bool} {A : (AV → SH → W.Fp → Prop) → Prop} {L : SH} {K : AV → SH → W.Fp → Prop} (h : W.dgrd x want A L K) : W.dgrd x want A L K := h
theorem h_un {op : UnOp} {x : AV} {K : AV → Prop} (h : W.un op x K) : W.un op x K := h
theorem h_box {x : AV} {L : SH} {K : AV → SH → Prop} (h : W.box x L K) : W.box x L K := h
theorem h_frz1 {v : AV} {L : SH} {K : AV → SH → Prop} (h : W.frz1 v L K) : W.frz1 v L K := h
theorem h_store {n : Nat} {a v : AV} {L : SH} {K : SH → Prop} (h : W.store n a v L K) : W.store n a v L K := h
theorem h_bslice {n : Nat} {z : List AV} {len : Nat} {ps : List (Nat × AV)} {L : SH} {K : AV → SH → Prop} (h : W.bslice n z len ps L K) : W.bslice n z len ps L K := h
theorem h_mslice {n by_ : Nat} {z : List AV} {l c : AV} {L : SH} {K : AV → SH → Prop} (h : W.mslice n by_ z l c L K) : W.mslice n by_ z l c L K := h
end Go.Proofs.Ytadjimfkfmojkaa.Am

end
section
namespace Go.Proofs.Ytadjimfkfmojkaa.Am
set_option linter.unusedVariables false
section
variable {P : Program} {g : FuncId} {args : List AV} {L : SH} {KL : AV → SH → Prop}
theorem Fr.permS {B : Nat} {L' L'' : SH} {H H' : Heap} (h : Fr B L H L' H') (hp : L'.Perm L'') : Fr B L H L'' H' :=
  ⟨h.next, h.bd, h.sub.perm hp, fun b x h1 h2 => ⟨(h.keep b x h1 h2).1, fun hm => (h.keep b x h1 h2).2 ((hp.map Prod.fst).mem_iff.2 hm)⟩, h.dom, fun b hb hlt => h.fresh b ((hp.map Prod.fst).mem_iff.2 hb) hlt⟩
/-- a call that makes blocks: all blocks are told in an order of one's own, and are known to be different -/
theorem m_callN {R1 : AV → SH → Prop} (h : CallA P g args [] R1) (hq : ∀ v K', R1 v K' → ∃ L' : SH, (K' ++ L).Perm L' ∧ (L'.names.Nodup → KL v L')) : W.callM P g args L KL := by
  refine ⟨⟨h.1, fun H hb hs => ?_⟩⟩
  obtain ⟨v, H', L', h1, h2, L'', hp, h3⟩ := (h.frame (K := []) (R := L) (R2 := fun v L1 => ∃ L' : SH, L1.Perm L' ∧ (L'.names.Nodup → KL v L')) (.refl _) hq).2 H hb hs
  have h4 := h2.permS hp
  exact ⟨v, H', L'', h1, h4, h3 h4.sub.nd⟩
theorem a_app_slotN (M : SH) {o : Option Nat} {i n by_ bX : Nat} {R : SH} {rows m : List (List AV)} {k : Nat} (hr : rows.length = i) (h0 : o = none → rows = []) (hk : k = m.length) (hm : 0 < m.length) (h2 : 2 * (i + m.length) * by_ ≤ 2 ^ 48) (h3 : 2 * (i + m.length) ≤ 2 ^ 62) (h4 : (m.all fun r => r.all AV.one) = true)
    (h : ∀ b, (∀ p ∈ M, b ≠ p.1) → KL (.sl b 0 (i + m.length)) ((b, ⟨n, rows ++ m⟩) :: (bX, ⟨n, m⟩) :: (M ++ R))) : W.append n by_ (slotV o i) (.sl bX 0 k) ((bX, ⟨n, m⟩) :: (M ++ (slotB o n rows ++ R))) KL := by
  subst hk
  cases o with
  | none =>
    have hr0 := h0 rfl
    subst hr0
    simp only [List.length_nil] at hr
    subst hr
    have := a_app_e (KL := KL) (L := (bX, ⟨n, m⟩) :: (M ++ R)) (by_ := by_) (rowsR_s (.head _) rfl rfl) (by simpa using h2) (by simpa using h3) h4 (by show m.length ≠ 0; omega) (fun b hb => by
      have := h b fun p hp e => hb (by rw [e]; exact List.mem_map_of_mem (List.mem_cons_of_mem _ (List.mem_append_left _ hp)))
      simpa using this)
    exact this
  | some b =>
    subst hr
    exact a_app_s (y := ⟨n, rows⟩) (l := rows) (by simp [slotB]) rfl (by simp) (by simp) (rowsR_s (.head _) rfl rfl) h2 h3 h4 (.there _ (Del.app (.here R) M)) (fun b' hb => h b' fun p hp e => hb (by rw [e]; exact List.mem_map_of_mem (List.mem_cons_of_mem _ (List.mem_append_left _ hp))))
end
end Go.Proofs.Ytadjimfkfmojkaa.Am

end
section
namespace Go.Proofs.Ytadjimfkfmojkaa.Am
set_option linter.unusedVariables false
section
variable {P : Program} {F : TypeId → Option (List TypeId)} {K : AV → Prop} {KL : AV → SH → Prop} {L : SH}
theorem b_load_q {n : Nat} {rows : List (List AV)} {i off : Nat} {r : List AV} {v : AV} (h : K v) (h1 : rows[i]? = some r := by first | assumption | rfl) (h2 : r[off]? = some v := by rfl) : W.load false n (.pptr rows i off) L K := a_load_q h1 h2 h
theorem b_load_i {α : Type} [Inhabited α] {f : α → List AV} {l : List α} {n : Nat} {i : Int} {off : Nat} {v : AV} (h : K v) (h1 : inB i l.length = true := by assumption) (h2 : (f (l.getD i.toNat default))[off]? = some v := by rfl) : W.load false n (.pptr (l.map f) i.toNat off) L K := a_load_q (at_inB h1) h2 h
theorem b_load_p {n b i off : Nat} {x : Blk} {r : List AV} {v : AV} (h : K v) (hm : (b, x) ∈ L := by repeat constructor) (h1 : x.rows[i]? = some r := by first | assumption | rfl) (h2 : r[off]? = some v := by rfl) : W.load false n (.ptr b i off) L K := a_load_p hm h1 h2 h
theorem b_row_q {n : Nat} {rows : List (List AV)} {i : Nat} {r : List AV} (h : K (.agg r)) (h1 : rows[i]? = some r := by first | assumption | rfl) (h2 : r.length = n := by rfl) : W.load true n (.pptr rows i 0) L K := a_row_q h1 h2 h
theorem b_row_i {α : Type} [Inhabited α] {f : α → List AV} {l : List α} {n : Nat} {i : Int} (h : K (.agg (f (l.getD i.toNat default)))) (h1 : inB i l.length = true := by assumption) (h2 : (f (l.getD i.toNat default)).length = n := by rfl) : W.load true n (.pptr (l.map f) i.toNat 0) L K := a_row_q (at_inB h1) h2 h
theorem b_row_p {n b i : Nat} {x : Blk} {r : List AV} (h : K (.agg r)) (hm : (b, x) ∈ L := by repeat constructor) (h1 : x.rows[i]? = some r := by first | assumption | rfl) (h2 : r.length = n := by rfl) : W.load true n (.ptr b i 0) L K := a_row_p hm h1 h2 h
theorem b_rem {t : TypeId} {k : IntKind} {a b : Int} (h : K (.int k (a.tmod b))) (hb : b ≠ 0 := by first | assumption | decide | omega | exact of_decide_eq_false (by assumption)) : W.bin P F .rem t (.int k a) (.int k b) K := a_rem hb h
theorem b_cond_t {p : Bool} {A B : Prop} (h : A) (hp : p = true := by first | assumption | rfl) : W.cond (.bool p) A B := a_cond_t hp h
theorem b_cond_f {p : Bool} {A B : Prop} (h : B) (hp : p = false := by first | assumption | rfl) : W.cond (.bool p) A B := a_cond_f hp h
theorem b_idx_n {n : Nat} {rows : List (List AV)} {k : IntKind} {j : Nat} {r : List AV} (h : K (.pptr rows j 0)) (h1 : rows[j]? = some r := by first | assumption | rfl) (h2 : r.length = n := by rfl) : W.idx n (.lst rows) (.int k (j : Int)) L K := a_idx_n h1 h2 h
theorem b_idx_i {α : Type} [Inhabited α] {f : α → List AV} {l : List α} {n : Nat} {k : IntKind} {i : Int} (h : K (.pptr (l.map f) i.toNat 0)) (h1 : inB i l.length = true := by assumption) (h2 : (f (l.getD i.toNat default)).length = n := by rfl) : W.idx n (.lst (l.map f)) (.int k i) L K := a_idx_l (nn_inB h1) (at_inB h1) h2 h
theorem b_idx_sn {n b m : Nat} {k : IntKind} {i : Nat} {y : Blk} (h : K (.ptr b i 0)) (h1 : i < m := by first | assumption | omega) (hm : (b, y) ∈ L := by repeat constructor) (h2 : y.size = n := by rfl) : W.idx n (.sl b 0 m) (.int k (i : Int)) L K := a_idx_sn h1 hm h2 h
theorem b_idx_s {n b j m : Nat} {k : IntKind} {i : Int} {y : Blk} (h : K (.ptr b (j + i.toNat) 0)) (h0 : 0 ≤ i := by first | decide | omega) (h1 : i.toNat < m := by first | assumption | omega) (hm : (b, y) ∈ L := by repeat constructor) (h2 : y.size = n := by rfl) : W.idx n (.sl b j m) (.int k i) L K := a_idx_s h0 h1 hm h2 h
theorem b_ext {i : Nat} {vs : List AV} {v : AV} (h : K v) (h1 : vs[i]? = some v := by rfl) : W.ext i (.tup vs) K := a_ext h1 h
theorem b_calm {us : List W.WR} {y : W.WR} {A : Prop} (h : A) (h1 : ∀ x ∈ us, W.free x y := by (simp only [W.free, slotOf, ↓reduceIte, Nat.reduceEqDiff, blocksOf, slOf, List.forall_mem_nil, List.forall_mem_cons, List.not_mem_nil, not_false_eq_true, implies_true, and_true, true_and, and_self, Bool.false_eq_true, reduceCtorEq, forall_const, false_implies, List.mem_singleton, forall_eq, List.append_nil, List.nil_append, List.mem_cons, or_false, false_or, forall_eq_or_imp, not_or]) <;> (repeat' constructor) <;> first | assumption | (exact Ne.symm (by assumption)) | (intro e_; subst e_; simp [SH.names] at *; done)) : W.calm us y A := a_calm h1 h
theorem b_pick_t {p : Bool} {x y : AV} (h : K x) (hp : p = true := by first | assumption | rfl) : W.pick (.bool p) x y K := a_pick_t hp h
theorem b_pick_f {p : Bool} {x y : AV} (h : K y) (hp : p = false := by first | assumption | rfl) : W.pick (.bool p) x y K := a_pick_f hp h
theorem b_grd_y {p want : Bool} {A : (AV → SH → Prop) → Prop} (h : A KL) (hp : p = want := by first | assumption | rfl) : W.grd (.bool p) want A L KL := a_grd_y hp h
theorem b_grd_n {p want : Bool} {A : (AV → SH → Prop) → Prop} (h : KL undefA L) (hp : p = !want := by first | assumption | rfl) : W.grd (.bool p) want A L KL := a_grd_n hp h
theorem b_dgrd_y {KF : AV → SH → W.Fp → Prop} {p want : Bool} {A : (AV → SH → W.Fp → Prop) → Prop} (h : A KF) (hp : p = want := by first | assumption | rfl) : W.dgrd (.bool p) want A L KF := a_dgrd_y hp h
theorem b_dgrd_n {KF : AV → SH → W.Fp → Prop} {p want : Bool} {A : (AV → SH → W.Fp → Prop) → Prop} (h : KF undefA L ⟨[], [], [], L.names⟩) (hp : p = !want := by first | assumption | rfl) : W.dgrd (.bool p) want A L KF := a_dgrd_n hp h
theorem b_frz_p {b i off : Nat} {x : Blk} {L' : SH} (h : KL (.pptr x.rows i off) L') (h1 : Del b x L L' := by repeat constructor) (h2 : 0 < x.size := by first | exact Nat.succ_pos _ | decide | simp) (h3 : 0 < x.rows.length := by first | exact Nat.succ_pos _ | decide | simp) : W.frz1 (.ptr b i off) L KL := a_frz_p h1 h2 h3 h
theorem b_store_box {KS : SH → Prop} {n b : Nat} {v : AV} {m : Nat} {r cs : List AV} {L' : SH} (h : KS L') (hu : Upd b ⟨m, [r]⟩ ⟨m, [cs]⟩ L L' := by repeat constructor) (h2 : v.cells? = some cs := by rfl) (h3 : cs.length = n := by rfl) (h4 : cs.all AV.one = true := by rfl) (h5 : r.length = n := by rfl) : W.store n (.ptr b 0 0) v L KS := a_store_box hu h2 h3 h4 h5 h
theorem b_store_one {KS : SH → Prop} {b i off : Nat} {v : AV} {x : Blk} {r : List AV} {L' : SH} (h : KS L') (hu : Upd b x ⟨x.size, x.rows.set i (r.set off v)⟩ L L' := by repeat constructor) (h1 : x.rows[i]? = some r := by first | assumption | rfl) (h2 : v.cells? = some [v] := by rfl) (h4 : v.one = true := by rfl) (h5 : off < r.length := by first | decide | exact Nat.lt_of_sub_pos (Nat.succ_pos _) | simp | omega) : W.store 1 (.ptr b i off) v L KS := a_store_one hu h1 h2 h4 h5 rfl h
theorem b_mslice {n by_ : Nat} {z : List AV} {k k' : IntKind} {i j : Nat} (h : ∀ b, b ∉ L.names → KL (.sl b 0 i) ((b, ⟨n, List.replicate i z⟩) :: L)) (h1 : i ≤ j := by omega) (h2 : j ≤ 2 ^ 62 := by omega) (h3 : j * by_ ≤ 2 ^ 48 := by omega) : W.mslice n by_ z (.int k (i : Int)) (.int k' (j : Int)) L KL := a_mslice h1 h2 h3 h
theorem b_bslice {n : Nat} {z : List AV} {len : Nat} {ps : List (Nat × AV)} {rows : List (List AV)} (h : ∀ b, b ∉ L.names → KL (.sl b 0 len) ((b, ⟨n, rows⟩) :: L)) (h1 : len * n ≤ 2 ^ 24 := by decide) (h2 : fillRows n (List.replicate len z) ps = some rows := by rfl) : W.bslice n z len ps L KL := a_bslice h1 h2 h
theorem b_box {x : AV} {cs : List AV} (h : ∀ b, b ∉ L.names → KL (.ptr b 0 0) ((b, ⟨cs.length, [cs]⟩) :: L)) (h1 : x.cells? = some cs := by rfl) (h2 : cs.all AV.one = true := by rfl) : W.box x L KL := a_box h1 h2 h
theorem b_build {z : List AV} {ps : List (Nat × Nat × AV)} {cs : List AV} (h : K (.agg cs)) (h1 : W0.fillR z ps = some cs := by rfl) : W.build z ps K := a_build h1 h
theorem b_dcall {KN : AV → SH → List Nat → Prop} {us : List W.WR} {i : Nat} {g : FuncId} {args : List AV} {v : AV} (h : PureA P g args v) (hk : KN v L []) (hf : ∀ x ∈ us, W.free x ⟨i, [], [], [], true, []⟩ := by (simp only [W.free, slotOf, ↓reduceIte, Nat.reduceEqDiff, blocksOf, slOf, List.forall_mem_nil, List.forall_mem_cons, List.not_mem_nil, not_false_eq_true, implies_true, and_true, true_and, and_self, Bool.false_eq_true, reduceCtorEq, forall_const, false_implies, List.mem_singleton, forall_eq, List.append_nil, List.nil_append, List.mem_cons, or_false, false_or, forall_eq_or_imp, not_or]) <;> (repeat' constructor) <;> first | assumption | (exact Ne.symm (by assumption)) | (intro e_; subst e_; simp [SH.names] at *; done)) : W.dcallM P us i g args L KN := m_dcall h hf hk
end
end Go.Proofs.Ytadjimfkfmojkaa.Am

end
section
namespace Go.Proofs.Ytadjimfkfmojkaa.Am
set_option maxRecDepth 100000
set_option linter.unusedSimpArgs false
set_option linter.unusedVariables false
theorem within_ok (i : Int) (n : Nat) : PureA Try.prog 52 [.int .i64 i, .int .i64 n] (.bool (inB i n)) := by
  refine object_within_ok _ _ _ _ ?_
  unfold object_within_w
  repeat' (first | (refine h_bin ?_; first | refine a_lss ?_ | refine a_geq ?_) | (refine h_pick ?_; first | refine b_pick_t ?_ | refine b_pick_f ?_) | (refine h_grd ?_; first | refine b_grd_y ?_ | refine b_grd_n ?_ | refine a_grd_t (fun h => ?_) (fun h => ?_)))
  · refine ⟨?_, rfl⟩; have := of_decide_eq_true h; simp [inB, this]
  · refine ⟨?_, rfl⟩; have := of_decide_eq_false h; simp [inB, this]
theorem in_ok (i : Int) (n : Nat) : PureA Try.prog 61 [.int .i64 i, .int .i64 n] (.bool (inB i n)) := by
  refine ref08_in_ok _ _ _ _ ?_
  unfold ref08_in_w
  repeat' (first | (refine h_bin ?_; first | refine a_lss ?_ | refine a_geq ?_) | (refine h_pick ?_; first | refine b_pick_t ?_ | refine b_pick_f ?_) | (refine h_grd ?_; first | refine b_grd_y ?_ | refine b_grd_n ?_ | refine a_grd_t (fun h => ?_) (fun h => ?_)))
  · refine ⟨?_, rfl⟩; have := of_decide_eq_true h; simp [inB, this]
  · refine ⟨?_, rfl⟩; have := of_decide_eq_false h; simp [inB, this]
def waitsS (t : ThrD) (c : Int) : Bool := decide (t.status = 3) && decide (t.cond = c)
theorem waits_ok (t : ThrD) (c : Int) : PureA Try.prog 79 [.agg t.enc, .int .i64 c] (.bool (waitsS t c)) := by
  refine object_waits_ok _ _ _ _ ?_
  unfold object_waits_w
  repeat' (first | (refine h_load1 ?_; refine b_load_q ?_) | (refine h_faddr ?_; refine a_faddr_q ?_) | (refine h_bin ?_; refine a_eql ?_) | (refine h_pick ?_; first | refine b_pick_t ?_ | refine b_pick_f ?_) | (refine h_grd ?_; first | refine b_grd_y ?_ | refine b_grd_n ?_ | refine a_grd_t (fun h => ?_) (fun h => ?_)) | (refine h_box ?_; refine b_box (fun nb_ hnb_ => ?_)) | (refine h_frz1 ?_; refine b_frz_p ?_))
  · refine ⟨?_, rfl⟩; have := of_decide_eq_true h; simp [waitsS, this]
  · refine ⟨?_, rfl⟩; have := of_decide_eq_false h; simp [waitsS, this]
theorem has_ok (l : List Int) (n : Int) (hl : l.length < 2 ^ 62) : PureA Try.prog 15 [.lst (l.map intE), .int .i64 n] (.bool (l.contains n)) := by
  refine ref07_Has_ok _ _ _ _ ?_
  unfold ref07_Has_w
  refine for_by l.length (fun i => ([.lst (l.map intE), .int .i64 n, .int .i64 i], [])) (fun i => n ∉ l.take i) (by simp) rfl rfl ?_
  intro i hi hno
  unfold ref07_Has_l0
  rcases Nat.lt_or_ge i l.length with h1 | h1
  · have hx := map_at (f := intE) h1
    have hd := dec_lt h1
    repeat' (first | (refine h_load1 ?_; refine b_load_q ?_) | (refine h_bin ?_; first | refine a_eql ?_ | refine a_lss ?_ | refine a_add ?_) | (refine h_cond ?_; first | refine b_cond_t ?_ | refine a_cond (fun h => ?_) (fun h => ?_)) | (refine h_idx ?_; refine b_idx_n ?_) | (refine h_len ?_; refine a_len_m ?_))
    · refine ⟨?_, rfl⟩
      have := of_decide_eq_true h
      have : l.contains n = true := by rw [List.contains_iff_mem, ← this]; exact List.getElem_mem h1
      rw [this]
    · have := of_decide_eq_false h
      refine ⟨i + 1, by omega, by omega, ?_, fzs_eq (by rw [i64_succ h1 hl]; rfl) rfl⟩
      rw [List.take_succ_eq_append_getElem h1]
      simp only [List.mem_append, List.mem_singleton, not_or]
      exact ⟨hno, fun h => this h.symm⟩
  · have hd := dec_ge h1
    repeat' (first | (refine h_bin ?_; refine a_lss ?_) | (refine h_cond ?_; refine b_cond_f ?_) | (refine h_len ?_; refine a_len_m ?_))
    refine ⟨?_, rfl⟩
    rw [List.take_of_length_le h1] at hno
    rw [show l.contains n = false by simpa using hno]
theorem index_ok (l : List Int) (n : Int) (hl : l.length < 2 ^ 62) : CallA Try.prog 80 [.lst (l.map intE), .int .i64 n] [] fun v L => ∃ k : Int, v = .int .i64 k ∧ decide (0 ≤ k) = l.contains n ∧ L = [] := by
  refine slices_Index___int_int__ok _ _ _ _ ?_
  unfold slices_Index___int_int__w
  repeat' (first | (refine h_len ?_; refine a_len_m ?_))
  refine for_by l.length (fun i => ([.lst (l.map intE), .int .i64 n, .int .i64 l.length, .int .i64 i], [])) (fun i => n ∉ l.take i) (by simp) rfl rfl ?_
  intro i hi hno
  unfold slices_Index___int_int__l0
  rcases Nat.lt_or_ge i l.length with h1 | h1
  · have hx := map_at (f := intE) h1
    have hd := dec_lt h1
    repeat' (first | (refine h_load1 ?_; refine b_load_q ?_) | (refine h_bin ?_; first | refine a_eql ?_ | refine a_lss ?_ | refine a_add ?_) | (refine h_cond ?_; first | refine b_cond_t ?_ | refine a_cond (fun h => ?_) (fun h => ?_)) | (refine h_idx ?_; refine b_idx_n ?_))
    · refine ⟨_, rfl, ?_, rfl⟩
      have := of_decide_eq_true h
      have : l.contains n = true := by rw [List.contains_iff_mem, this]; exact List.getElem_mem h1
      rw [this]
      simp
    · have := of_decide_eq_false h
      refine ⟨i + 1, by omega, by omega, ?_, fzs_eq (by rw [i64_succ h1 hl]; rfl) rfl⟩
      rw [List.take_succ_eq_append_getElem h1]
      simp only [List.mem_append, List.mem_singleton, not_or]
      exact ⟨hno, this⟩
  · have hd := dec_ge h1
    repeat' (first | (refine h_bin ?_; refine a_lss ?_) | (refine h_cond ?_; refine b_cond_f ?_))
    refine ⟨_, rfl, ?_, rfl⟩
    rw [List.take_of_length_le h1] at hno
    rw [show l.contains n = false by simpa using hno]
    rfl
theorem contains_ok (l : List Int) (n : Int) (hl : l.length < 2 ^ 62) : PureA Try.prog 60 [.lst (l.map intE), .int .i64 n] (.bool (l.contains n)) := by
  refine slices_Contains___int_int__ok _ _ _ _ ?_
  unfold slices_Contains___int_int__w
  refine ⟨(index_ok l n hl).mono ?_⟩
  rintro v L ⟨k, rfl, hk, rfl⟩
  unfold slices_Contains___int_int__c0
  repeat' (first | (refine h_bin ?_; refine a_geq ?_))
  exact ⟨by rw [hk], rfl⟩
def fitsS (w : WorldD) (s : SyncD) : Bool := decide (s.locks.length = w.locks.length) && decide (s.done.length = w.futures.length) && decide (s.threads.length = w.threads.length) && w.conds.all fun c => inB c.mutex w.locks.length
theorem fits_ok (w : WorldD) (s : SyncD) (hc : w.conds.length < 2 ^ 62) : PureA Try.prog 37 [.agg w.enc, .agg s.enc] (.bool (fitsS w s)) := by
  refine object_Fits_ok _ _ _ _ ?_
  unfold object_Fits_w
  repeat' (first | (refine h_load1 ?_; refine b_load_q ?_) | (refine h_faddr ?_; refine a_faddr_q ?_) | (refine h_bin ?_; refine a_neq ?_) | (refine h_cond ?_; first | refine b_cond_t ?_ | refine a_cond (fun h => ?_) (fun h => ?_)) | (refine h_len ?_; refine a_len_m ?_) | (refine h_pick ?_; first | refine b_pick_t ?_ | refine b_pick_f ?_) | (refine h_grd ?_; first | refine b_grd_y ?_ | refine b_grd_n ?_ | refine a_grd_f (fun h => ?_) (fun h => ?_)) | (refine h_box ?_; refine b_box (fun nb_ hnb_ => ?_)) | (refine h_frz1 ?_; refine b_frz_p ?_))
  · refine ⟨?_, rfl⟩; have := of_decide_eq_true h; simp only [ne_eq, Int.natCast_inj] at this; simp [fitsS, this]
  · rename_i h1 h2
    simp only [ne_eq, Int.natCast_inj, decide_eq_false_iff_not, Decidable.not_not] at h h1 h2
    refine for_by w.conds.length (fun i => ([.pptr [w.enc] 0 0, .lst (w.conds.map CondI.enc), .int .i64 w.conds.length, .int .i64 i], [])) (fun i => (w.conds.take i).all (fun c => inB c.mutex w.locks.length) = true) (by simp) rfl rfl ?_
    intro i hi hG
    dsimp only
    unfold object_Fits_l1
    rcases Nat.lt_or_ge i w.conds.length with g1 | g1
    · have hx := map_at (f := CondI.enc) g1
      have hd := dec_lt g1
      repeat' (first | (refine h_load1 ?_; refine b_load_q ?_) | (refine h_faddr ?_; refine a_faddr_q ?_) | (refine h_bin ?_; first | refine a_lss ?_ | refine a_add ?_) | (refine h_cond ?_; first | refine b_cond_t ?_ | refine a_cond (fun h => ?_) (fun h => ?_)) | (refine h_idx ?_; refine b_idx_n ?_) | (refine h_row ?_; refine b_row_q ?_) | (refine h_len ?_; refine a_len_m ?_) | refine a_mark ?_ | ((with_reducible refine h_fn 52 ?_); refine m_call (within_ok _ _) ?_) | (refine h_un ?_; refine a_not ?_) | (refine h_frz1 ?_; refine b_frz_p ?_) | (refine h_store ?_; refine b_store_box ?_) | refine a_alloc (fun nb_ hnb_ => ?_))
      · refine ⟨?_, rfl⟩
        have : w.conds.all (fun c => inB c.mutex w.locks.length) = false := by
          rw [List.all_eq_false]
          exact ⟨_, List.getElem_mem g1, by simpa using h⟩
        simp [fitsS, this]
      · refine ⟨i + 1, by omega, by omega, ?_, fzs_eq (by rw [i64_succ g1 hc]; rfl) rfl⟩
        rw [List.take_succ_eq_append_getElem g1, List.all_append, hG]
        simpa using h
    · have hd := dec_ge g1
      repeat' (first | (refine h_bin ?_; refine a_lss ?_) | (refine h_cond ?_; refine b_cond_f ?_))
      refine ⟨?_, rfl⟩
      rw [List.take_of_length_le g1] at hG
      simp [fitsS, h, h1, h2, hG]
  · refine ⟨?_, rfl⟩; have := of_decide_eq_true h; simp only [ne_eq, Int.natCast_inj] at this; simp [fitsS, this]
  · refine ⟨?_, rfl⟩; have := of_decide_eq_true h; simp only [ne_eq, Int.natCast_inj] at this; simp [fitsS, this]
theorem fitsR_ok (w : WorldD) (s : SyncD) (hc : w.conds.length < 2 ^ 62) : PureA Try.prog 38 [.agg w.enc, .agg s.enc] (.bool (fitsS w s)) := by
  refine ref08_Fits_ok _ _ _ _ ?_
  unfold ref08_Fits_w
  repeat' (first | (refine h_box ?_; refine b_box (fun nb_ hnb_ => ?_)) | (refine h_frz1 ?_; refine b_frz_p ?_))
  refine for_by w.conds.length (fun i => ([.pptr [w.enc] 0 0, .pptr [s.enc] 0 0, .int .i64 i], [])) (fun i => (w.conds.take i).all (fun c => inB c.mutex w.locks.length) = true) (by simp) rfl rfl ?_
  intro i hi hG
  dsimp only
  unfold ref08_Fits_l0
  rcases Nat.lt_or_ge i w.conds.length with g1 | g1
  · have hx := map_at (f := CondI.enc) g1
    have hd := dec_lt g1
    repeat' (first | (refine h_load1 ?_; refine b_load_q ?_) | (refine h_faddr ?_; refine a_faddr_q ?_) | (refine h_bin ?_; first | refine a_lss ?_ | refine a_geq ?_ | refine a_add ?_) | (refine h_cond ?_; first | refine b_cond_t ?_ | refine a_cond (fun h => ?_) (fun h => ?_)) | (refine h_idx ?_; refine b_idx_n ?_) | (refine h_len ?_; refine a_len_m ?_) | (refine h_calm ?_; refine b_calm ?_) | (refine h_note ?_; refine a_note ?_) | (refine h_pick ?_; first | refine b_pick_t ?_ | refine b_pick_f ?_) | (refine h_dgrd ?_; first | refine b_dgrd_y ?_ | refine b_dgrd_n ?_ | refine a_dgrd_f (fun h => ?_) (fun h => ?_)) | refine a_tt ?_)
    · rename_i h3
      refine ⟨?_, rfl⟩
      have : w.conds.all (fun c => inB c.mutex w.locks.length) = false := by
        rw [List.all_eq_false]
        refine ⟨_, List.getElem_mem g1, ?_⟩
        rw [inB_iff]; simp at h; omega
      simp [fitsS, this]
    · rename_i h3
      refine ⟨i + 1, by omega, by omega, ?_, fzs_eq (by rw [i64_succ g1 hc]; rfl) rfl⟩
      rw [List.take_succ_eq_append_getElem g1, List.all_append, hG]
      have : inB w.conds[i].mutex w.locks.length = true := by rw [inB_iff]; simp at h h3; omega
      simpa using this
    · refine ⟨?_, rfl⟩
      have : w.conds.all (fun c => inB c.mutex w.locks.length) = false := by
        rw [List.all_eq_false]
        refine ⟨_, List.getElem_mem g1, ?_⟩
        rw [inB_iff]; simp at h; omega
      simp [fitsS, this]
  · have hd := dec_ge g1
    rw [List.take_of_length_le g1] at hG
    repeat' (first | (refine h_load1 ?_; refine b_load_q ?_) | (refine h_faddr ?_; refine a_faddr_q ?_) | (refine h_bin ?_; first | refine a_eql ?_ | refine a_lss ?_) | (refine h_cond ?_; refine b_cond_f ?_) | (refine h_len ?_; refine a_len_m ?_) | (refine h_pick ?_; first | refine b_pick_t ?_ | refine b_pick_f ?_) | (refine h_grd ?_; first | refine b_grd_y ?_ | refine b_grd_n ?_ | refine a_grd_t (fun h => ?_) (fun h => ?_)))
    · rename_i h3
      simp only [Int.natCast_inj, decide_eq_true_eq] at h h3
      refine ⟨?_, rfl⟩
      simp only [fitsS, h, h3, hG, Int.natCast_inj, decide_true, Bool.true_and, Bool.and_true]
    · simp only [Int.natCast_inj, decide_eq_false_iff_not] at h
      refine ⟨?_, rfl⟩
      simp [fitsS, h]
    · simp only [Int.natCast_inj, decide_eq_false_iff_not] at h
      refine ⟨?_, rfl⟩
      simp [fitsS, h]
end Go.Proofs.Ytadjimfkfmojkaa.Am

end
section
namespace Go.Proofs.Ytadjimfkfmojkaa.Am
set_option maxRecDepth 100000
set_option linter.unusedSimpArgs false
set_option linter.unusedVariables false
theorem kinds (k : Int) : (k < 1 ∨ 23 < k) ∨ k = 1 ∨ k = 2 ∨ k = 3 ∨ k = 4 ∨ k = 5 ∨ k = 6 ∨ k = 7 ∨ k = 8 ∨ k = 9 ∨ k = 10 ∨ k = 11 ∨ k = 12 ∨ k = 13 ∨ k = 14 ∨ k = 15 ∨ k = 16 ∨ k = 17 ∨ k = 18 ∨ k = 19 ∨ k = 20 ∨ k = 21 ∨ k = 22 ∨ k = 23 := by omega
theorem dec_out {k c : Int} (hk : k < 1 ∨ 23 < k) (h1 : 1 ≤ c) (h2 : c ≤ 23) : decide (k = c) = false := by simp; omega
def rwAt (w : WorldD) (o : Int) : Bool := (w.locks.getD o.toNat default).rw
def allowedS (w : WorldD) (k o : Int) : Bool :=
  if k = 1 ∨ k = 2 ∨ k = 5 ∨ k = 12 ∨ k = 13 ∨ k = 14 ∨ k = 15 then decide (o = -1)
  else if k = 3 ∨ k = 4 then inB o w.cells.length
  else if k = 6 ∨ k = 7 then inB o w.locks.length && !rwAt w o
  else if k = 8 ∨ k = 9 ∨ k = 10 ∨ k = 11 then inB o w.locks.length && rwAt w o
  else if k = 16 ∨ k = 17 ∨ k = 18 ∨ k = 19 then inB o w.conds.length
  else if k = 20 ∨ k = 21 then inB o w.threads.length
  else if k = 22 ∨ k = 23 then inB o w.futures.length
  else false
set_option maxHeartbeats 4000000 in
theorem allowed_w (w : WorldD) (k o : Int) (Q : AV → SH → Prop) (hq : Q (.bool (allowedS w k o)) []) : object_allowed_w (.agg w.enc) (.int .i64 k) (.int .i64 o) [] Q := by
  unfold object_allowed_w
  rcases kinds k with hk | rfl | rfl | rfl | rfl | rfl | rfl | rfl | rfl | rfl | rfl | rfl | rfl | rfl | rfl | rfl | rfl | rfl | rfl | rfl | rfl | rfl | rfl | rfl
  · skip
    have hs : allowedS w k o = false := by simp only [allowedS]; repeat (rw [if_neg (by omega)])
    rw [hs] at hq
    repeat' (first | (refine h_bin ?_; refine a_eql ?_) | refine a_cond_f (dec_out hk (by decide) (by decide)) ?_ | (refine h_box ?_; refine b_box (fun nb_ hnb_ => ?_)) | (refine h_frz1 ?_; refine b_frz_p ?_) | refine a_join ?_)
    exact hq
  all_goals
    repeat' (first | (refine h_load1 ?_; first | refine b_load_q ?_ | refine b_load_i ?_) | (refine h_faddr ?_; refine a_faddr_q ?_) | (refine h_bin ?_; refine a_eql ?_) | (refine h_cond ?_; first | refine b_cond_t ?_ | refine b_cond_f ?_) | (refine h_idx ?_; refine b_idx_i ?_) | (refine h_len ?_; refine a_len_m ?_) | (refine h_pick ?_; first | refine b_pick_t ?_ | refine b_pick_f ?_) | (refine h_grd ?_; first | refine b_grd_y ?_ | refine b_grd_n ?_ | refine a_grd_t (fun h => ?_) (fun h => ?_)) | refine a_mark ?_ | ((with_reducible refine h_fn 52 ?_); refine m_call (within_ok _ _) ?_) | (refine h_un ?_; refine a_not ?_) | (refine h_box ?_; refine b_box (fun nb_ hnb_ => ?_)) | (refine h_frz1 ?_; refine b_frz_p ?_) | refine a_join ?_)
    all_goals (refine Eq.mp (congrArg (fun b => Q (AV.bool b) []) ?_) hq; clear hq; simp_all [allowedS, rwAt])
theorem allowed_ok (w : WorldD) (k o : Int) : PureA Try.prog 53 [.agg w.enc, .int .i64 k, .int .i64 o] (.bool (allowedS w k o)) := object_allowed_ok _ _ _ _ _ (allowed_w w k o _ ⟨rfl, rfl⟩)
set_option maxHeartbeats 4000000 in
theorem named_w (w : WorldD) (k o : Int) (Q : AV → SH → Prop) (hq : Q (.bool (allowedS w k o)) []) : ref08_named_w (.agg w.enc) (.int .i64 k) (.int .i64 o) [] Q := by
  unfold ref08_named_w
  rcases kinds k with hk | rfl | rfl | rfl | rfl | rfl | rfl | rfl | rfl | rfl | rfl | rfl | rfl | rfl | rfl | rfl | rfl | rfl | rfl | rfl | rfl | rfl | rfl | rfl
  · skip
    have hs : allowedS w k o = false := by simp only [allowedS]; repeat (rw [if_neg (by omega)])
    rw [hs] at hq
    repeat' (first | (refine h_bin ?_; refine a_eql ?_) | refine a_cond_f (dec_out hk (by decide) (by decide)) ?_ | (refine h_box ?_; refine b_box (fun nb_ hnb_ => ?_)) | (refine h_frz1 ?_; refine b_frz_p ?_) | refine a_join ?_)
    exact hq
  all_goals
    repeat' (first | (refine h_load1 ?_; first | refine b_load_q ?_ | refine b_load_i ?_) | (refine h_faddr ?_; refine a_faddr_q ?_) | (refine h_bin ?_; refine a_eql ?_) | (refine h_cond ?_; first | refine b_cond_t ?_ | refine b_cond_f ?_) | (refine h_idx ?_; refine b_idx_i ?_) | (refine h_len ?_; refine a_len_m ?_) | (refine h_pick ?_; first | refine b_pick_t ?_ | refine b_pick_f ?_) | (refine h_grd ?_; first | refine b_grd_y ?_ | refine b_grd_n ?_ | refine a_grd_t (fun h => ?_) (fun h => ?_)) | refine a_mark ?_ | ((with_reducible refine h_fn 61 ?_); refine m_call (in_ok _ _) ?_) | (refine h_un ?_; refine a_not ?_) | (refine h_box ?_; refine b_box (fun nb_ hnb_ => ?_)) | (refine h_frz1 ?_; refine b_frz_p ?_) | refine a_join ?_)
    all_goals (refine Eq.mp (congrArg (fun b => Q (AV.bool b) []) ?_) hq; clear hq; simp_all [allowedS, rwAt])
theorem named_ok (w : WorldD) (k o : Int) : PureA Try.prog 63 [.agg w.enc, .int .i64 k, .int .i64 o] (.bool (allowedS w k o)) := ref08_named_ok _ _ _ _ _ (named_w w k o _ ⟨rfl, rfl⟩)
end Go.Proofs.Ytadjimfkfmojkaa.Am

end
section
namespace Go.Proofs.Ytadjimfkfmojkaa.Am
set_option maxRecDepth 100000
set_option linter.unusedSimpArgs false
set_option linter.unusedVariables false
def lockAt (s : SyncD) (o : Int) : LockD := s.locks.getD o.toNat default
def thrAt (s : SyncD) (o : Int) : ThrD := s.threads.getD o.toNat default
def doneAt (s : SyncD) (o : Int) : Bool := s.done.getD o.toNat default
def mxAt (w : WorldD) (o : Int) : Int := (w.conds.getD o.toNat default).mutex
def readyS (w : WorldD) (s : SyncD) (t k o : Int) : Bool :=
  if k = 6 then decide ((lockAt s o).owner = -1)
  else if k = 10 then decide ((lockAt s o).owner = -1) && decide ((lockAt s o).readers.length = 0)
  else if k = 8 then decide ((lockAt s o).owner = -1) && !(lockAt s o).readers.contains t
  else if k = 7 ∨ k = 11 then decide ((lockAt s o).owner = t)
  else if k = 9 then (lockAt s o).readers.contains t
  else if k = 12 then decide (s.tx = -1)
  else if k = 13 then decide (s.tx = t)
  else if k = 14 then !(thrAt s t).atomic
  else if k = 15 then (thrAt s t).atomic
  else if k = 16 ∨ k = 18 ∨ k = 19 then decide ((lockAt s (mxAt w o)).owner = t)
  else if k = 20 then decide (o ≠ t) && decide ((thrAt s o).status = 0)
  else if k = 21 then decide (o ≠ t) && decide ((thrAt s o).status = 5)
  else if k = 22 then !doneAt s o
  else if k = 23 then doneAt s o
  else true
def enabledS (w : WorldD) (s : SyncD) (t k o : Int) : Bool :=
  fitsS w s && inB t w.threads.length && allowedS w k o &&
    (if k = 1 then decide ((thrAt s t).status = 1)
     else if k = 17 then decide ((thrAt s t).status = 4) && decide ((thrAt s t).cond = o) && decide ((lockAt s (mxAt w o)).owner = -1)
     else decide ((thrAt s t).status = 2) && readyS w s t k o)
/-- what a state that fits gives -/
structure FitD (w : WorldD) (s : SyncD) : Prop where
  locks : s.locks.length = w.locks.length
  done : s.done.length = w.futures.length
  threads : s.threads.length = w.threads.length
  conds : ∀ c ∈ w.conds, inB c.mutex w.locks.length = true
theorem fitsS_iff {w : WorldD} {s : SyncD} : fitsS w s = true ↔ FitD w s := by
  simp only [fitsS, Bool.and_eq_true, decide_eq_true_eq, List.all_eq_true]
  exact ⟨fun ⟨⟨⟨h1, h2⟩, h3⟩, h4⟩ => ⟨h1, h2, h3, h4⟩, fun ⟨h1, h2, h3, h4⟩ => ⟨⟨⟨h1, h2⟩, h3⟩, h4⟩⟩
theorem mx_in {w : WorldD} {s : SyncD} (h : FitD w s) {o : Int} (ho : inB o w.conds.length = true) : inB (mxAt w o) s.locks.length = true := by
  obtain ⟨h1, h2⟩ := inB_iff.1 ho
  have hlt : o.toNat < w.conds.length := by omega
  rw [h.locks]
  have : w.conds.getD o.toNat default = w.conds[o.toNat] := by simp [hlt]
  unfold mxAt
  rw [this]
  exact h.conds _ (List.getElem_mem hlt)
theorem rd_small {s : SyncD} (hr : ∀ l ∈ s.locks, l.readers.length < 2 ^ 40) (o : Int) : (lockAt s o).readers.length < 2 ^ 62 := by
  unfold lockAt
  rcases Nat.lt_or_ge o.toNat s.locks.length with h | h
  · have := hr _ (List.getElem_mem h)
    simp [h]; omega
  · simp [List.getD, List.getElem?_eq_none h]; decide
theorem ready_1 (w : WorldD) (s : SyncD) (t o : Int) (hf : FitD w s) (ht : inB t w.threads.length = true) (hr : ∀ l ∈ s.locks, l.readers.length < 2 ^ 40) (ha : allowedS w 1 o = true) (Q : AV → SH → Prop) (hq : Q (.bool (readyS w s t 1 o)) []) : object_ready_w (.agg w.enc) (.agg s.enc) (.int .i64 t) (.int .i64 1) (.int .i64 o) [] Q := by
  unfold object_ready_w
  have ht' : inB t s.threads.length = true := by rw [hf.threads]; exact ht
  have hrd := rd_small hr
  simp only [readyS, lockAt, thrAt, doneAt, mxAt, Int.reduceEq, Int.reduceNeg, if_true, if_false, or_self, or_true, true_or, or_false, false_or, reduceIte, reduceCtorEq] at hq
  repeat' (first | (refine h_bin ?_; refine a_eql ?_) | (refine h_cond ?_; refine b_cond_f ?_) | (refine h_box ?_; refine b_box (fun nb_ hnb_ => ?_)) | (refine h_frz1 ?_; refine b_frz_p ?_) | refine a_join ?_)
  all_goals first | exact hq | (refine Eq.mp (congrArg (fun b => Q (AV.bool b) []) ?_) hq; clear hq; first | (have h' := of_decide_eq_true h; simp [h']; done) | (have h' := of_decide_eq_false h; simp [h']; done) | (simp [h]; done) | (simp_all; done))
theorem ready_2 (w : WorldD) (s : SyncD) (t o : Int) (hf : FitD w s) (ht : inB t w.threads.length = true) (hr : ∀ l ∈ s.locks, l.readers.length < 2 ^ 40) (ha : allowedS w 2 o = true) (Q : AV → SH → Prop) (hq : Q (.bool (readyS w s t 2 o)) []) : object_ready_w (.agg w.enc) (.agg s.enc) (.int .i64 t) (.int .i64 2) (.int .i64 o) [] Q := by
  unfold object_ready_w
  have ht' : inB t s.threads.length = true := by rw [hf.threads]; exact ht
  have hrd := rd_small hr
  simp only [readyS, lockAt, thrAt, doneAt, mxAt, Int.reduceEq, Int.reduceNeg, if_true, if_false, or_self, or_true, true_or, or_false, false_or, reduceIte, reduceCtorEq] at hq
  repeat' (first | (refine h_bin ?_; refine a_eql ?_) | (refine h_cond ?_; refine b_cond_f ?_) | (refine h_box ?_; refine b_box (fun nb_ hnb_ => ?_)) | (refine h_frz1 ?_; refine b_frz_p ?_) | refine a_join ?_)
  all_goals first | exact hq | (refine Eq.mp (congrArg (fun b => Q (AV.bool b) []) ?_) hq; clear hq; first | (have h' := of_decide_eq_true h; simp [h']; done) | (have h' := of_decide_eq_false h; simp [h']; done) | (simp [h]; done) | (simp_all; done))
theorem ready_3 (w : WorldD) (s : SyncD) (t o : Int) (hf : FitD w s) (ht : inB t w.threads.length = true) (hr : ∀ l ∈ s.locks, l.readers.length < 2 ^ 40) (ha : allowedS w 3 o = true) (Q : AV → SH → Prop) (hq : Q (.bool (readyS w s t 3 o)) []) : object_ready_w (.agg w.enc) (.agg s.enc) (.int .i64 t) (.int .i64 3) (.int .i64 o) [] Q := by
  unfold object_ready_w
  have ht' : inB t s.threads.length = true := by rw [hf.threads]; exact ht
  have hrd := rd_small hr
  simp only [readyS, lockAt, thrAt, doneAt, mxAt, Int.reduceEq, Int.reduceNeg, if_true, if_false, or_self, or_true, true_or, or_false, false_or, reduceIte, reduceCtorEq] at hq
  repeat' (first | (refine h_bin ?_; refine a_eql ?_) | (refine h_cond ?_; refine b_cond_f ?_) | (refine h_box ?_; refine b_box (fun nb_ hnb_ => ?_)) | (refine h_frz1 ?_; refine b_frz_p ?_) | refine a_join ?_)
  all_goals first | exact hq | (refine Eq.mp (congrArg (fun b => Q (AV.bool b) []) ?_) hq; clear hq; first | (have h' := of_decide_eq_true h; simp [h']; done) | (have h' := of_decide_eq_false h; simp [h']; done) | (simp [h]; done) | (simp_all; done))
theorem ready_4 (w : WorldD) (s : SyncD) (t o : Int) (hf : FitD w s) (ht : inB t w.threads.length = true) (hr : ∀ l ∈ s.locks, l.readers.length < 2 ^ 40) (ha : allowedS w 4 o = true) (Q : AV → SH → Prop) (hq : Q (.bool (readyS w s t 4 o)) []) : object_ready_w (.agg w.enc) (.agg s.enc) (.int .i64 t) (.int .i64 4) (.int .i64 o) [] Q := by
  unfold object_ready_w
  have ht' : inB t s.threads.length = true := by rw [hf.threads]; exact ht
  have hrd := rd_small hr
  simp only [readyS, lockAt, thrAt, doneAt, mxAt, Int.reduceEq, Int.reduceNeg, if_true, if_false, or_self, or_true, true_or, or_false, false_or, reduceIte, reduceCtorEq] at hq
  repeat' (first | (refine h_bin ?_; refine a_eql ?_) | (refine h_cond ?_; refine b_cond_f ?_) | (refine h_box ?_; refine b_box (fun nb_ hnb_ => ?_)) | (refine h_frz1 ?_; refine b_frz_p ?_) | refine a_join ?_)
  all_goals first | exact hq | (refine Eq.mp (congrArg (fun b => Q (AV.bool b) []) ?_) hq; clear hq; first | (have h' := of_decide_eq_true h; simp [h']; done) | (have h' := of_decide_eq_false h; simp [h']; done) | (simp [h]; done) | (simp_all; done))
theorem ready_5 (w : WorldD) (s : SyncD) (t o : Int) (hf : FitD w s) (ht : inB t w.threads.length = true) (hr : ∀ l ∈ s.locks, l.readers.length < 2 ^ 40) (ha : allowedS w 5 o = true) (Q : AV → SH → Prop) (hq : Q (.bool (readyS w s t 5 o)) []) : object_ready_w (.agg w.enc) (.agg s.enc) (.int .i64 t) (.int .i64 5) (.int .i64 o) [] Q := by
  unfold object_ready_w
  have ht' : inB t s.threads.length = true := by rw [hf.threads]; exact ht
  have hrd := rd_small hr
  simp only [readyS, lockAt, thrAt, doneAt, mxAt, Int.reduceEq, Int.reduceNeg, if_true, if_false, or_self, or_true, true_or, or_false, false_or, reduceIte, reduceCtorEq] at hq
  repeat' (first | (refine h_bin ?_; refine a_eql ?_) | (refine h_cond ?_; refine b_cond_f ?_) | (refine h_box ?_; refine b_box (fun nb_ hnb_ => ?_)) | (refine h_frz1 ?_; refine b_frz_p ?_) | refine a_join ?_)
  all_goals first | exact hq | (refine Eq.mp (congrArg (fun b => Q (AV.bool b) []) ?_) hq; clear hq; first | (have h' := of_decide_eq_true h; simp [h']; done) | (have h' := of_decide_eq_false h; simp [h']; done) | (simp [h]; done) | (simp_all; done))
theorem ready_6 (w : WorldD) (s : SyncD) (t o : Int) (hf : FitD w s) (ht : inB t w.threads.length = true) (hr : ∀ l ∈ s.locks, l.readers.length < 2 ^ 40) (ha : allowedS w 6 o = true) (Q : AV → SH → Prop) (hq : Q (.bool (readyS w s t 6 o)) []) : object_ready_w (.agg w.enc) (.agg s.enc) (.int .i64 t) (.int .i64 6) (.int .i64 o) [] Q := by
  unfold object_ready_w
  have ht' : inB t s.threads.length = true := by rw [hf.threads]; exact ht
  have hrd := rd_small hr
  have hl : inB o s.locks.length = true := by rw [hf.locks]; simp [allowedS] at ha; exact ha.1
  simp only [readyS, lockAt, thrAt, doneAt, mxAt, Int.reduceEq, Int.reduceNeg, if_true, if_false, or_self, or_true, true_or, or_false, false_or, reduceIte, reduceCtorEq] at hq
  repeat' (first | (refine h_load1 ?_; first | refine b_load_q ?_ | refine b_load_i ?_) | (refine h_faddr ?_; refine a_faddr_q ?_) | (refine h_bin ?_; refine a_eql ?_) | (refine h_cond ?_; refine b_cond_t ?_) | (refine h_idx ?_; refine b_idx_i ?_) | (refine h_box ?_; refine b_box (fun nb_ hnb_ => ?_)) | (refine h_frz1 ?_; refine b_frz_p ?_))
  all_goals first | exact hq | (refine Eq.mp (congrArg (fun b => Q (AV.bool b) []) ?_) hq; clear hq; first | (have h' := of_decide_eq_true h; simp [h']; done) | (have h' := of_decide_eq_false h; simp [h']; done) | (simp [h]; done) | (simp_all; done))
theorem ready_7 (w : WorldD) (s : SyncD) (t o : Int) (hf : FitD w s) (ht : inB t w.threads.length = true) (hr : ∀ l ∈ s.locks, l.readers.length < 2 ^ 40) (ha : allowedS w 7 o = true) (Q : AV → SH → Prop) (hq : Q (.bool (readyS w s t 7 o)) []) : object_ready_w (.agg w.enc) (.agg s.enc) (.int .i64 t) (.int .i64 7) (.int .i64 o) [] Q := by
  unfold object_ready_w
  have ht' : inB t s.threads.length = true := by rw [hf.threads]; exact ht
  have hrd := rd_small hr
  have hl : inB o s.locks.length = true := by rw [hf.locks]; simp [allowedS] at ha; exact ha.1
  simp only [readyS, lockAt, thrAt, doneAt, mxAt, Int.reduceEq, Int.reduceNeg, if_true, if_false, or_self, or_true, true_or, or_false, false_or, reduceIte, reduceCtorEq] at hq
  repeat' (first | (refine h_load1 ?_; first | refine b_load_q ?_ | refine b_load_i ?_) | (refine h_faddr ?_; refine a_faddr_q ?_) | (refine h_bin ?_; refine a_eql ?_) | (refine h_cond ?_; first | refine b_cond_t ?_ | refine b_cond_f ?_) | (refine h_idx ?_; refine b_idx_i ?_) | (refine h_box ?_; refine b_box (fun nb_ hnb_ => ?_)) | (refine h_frz1 ?_; refine b_frz_p ?_) | refine a_join ?_)
  all_goals first | exact hq | (refine Eq.mp (congrArg (fun b => Q (AV.bool b) []) ?_) hq; clear hq; first | (have h' := of_decide_eq_true h; simp [h']; done) | (have h' := of_decide_eq_false h; simp [h']; done) | (simp [h]; done) | (simp_all; done))
theorem ready_8 (w : WorldD) (s : SyncD) (t o : Int) (hf : FitD w s) (ht : inB t w.threads.length = true) (hr : ∀ l ∈ s.locks, l.readers.length < 2 ^ 40) (ha : allowedS w 8 o = true) (Q : AV → SH → Prop) (hq : Q (.bool (readyS w s t 8 o)) []) : object_ready_w (.agg w.enc) (.agg s.enc) (.int .i64 t) (.int .i64 8) (.int .i64 o) [] Q := by
  unfold object_ready_w
  have ht' : inB t s.threads.length = true := by rw [hf.threads]; exact ht
  have hrd := rd_small hr
  have hl : inB o s.locks.length = true := by rw [hf.locks]; simp [allowedS] at ha; exact ha.1
  simp only [readyS, lockAt, thrAt, doneAt, mxAt, Int.reduceEq, Int.reduceNeg, if_true, if_false, or_self, or_true, true_or, or_false, false_or, reduceIte, reduceCtorEq] at hq
  repeat' (first | (refine h_load1 ?_; first | refine b_load_q ?_ | refine b_load_i ?_) | (refine h_faddr ?_; refine a_faddr_q ?_) | (refine h_bin ?_; refine a_eql ?_) | (refine h_cond ?_; first | refine b_cond_t ?_ | refine b_cond_f ?_) | (refine h_idx ?_; refine b_idx_i ?_) | (refine h_pick ?_; first | refine b_pick_t ?_ | refine b_pick_f ?_) | (refine h_grd ?_; first | refine b_grd_y ?_ | refine b_grd_n ?_ | refine a_grd_t (fun h => ?_) (fun h => ?_)) | refine a_mark ?_ | ((with_reducible refine h_fn 60 ?_); refine m_call (contains_ok _ _ (hrd _)) ?_) | (refine h_un ?_; refine a_not ?_) | (refine h_box ?_; refine b_box (fun nb_ hnb_ => ?_)) | (refine h_frz1 ?_; refine b_frz_p ?_))
  all_goals first | exact hq | (refine Eq.mp (congrArg (fun b => Q (AV.bool b) []) ?_) hq; clear hq; first | (have h' := of_decide_eq_true h; simp [h']; done) | (have h' := of_decide_eq_false h; simp [h']; done) | (simp [h]; done) | (simp_all; done))
theorem ready_9 (w : WorldD) (s : SyncD) (t o : Int) (hf : FitD w s) (ht : inB t w.threads.length = true) (hr : ∀ l ∈ s.locks, l.readers.length < 2 ^ 40) (ha : allowedS w 9 o = true) (Q : AV → SH → Prop) (hq : Q (.bool (readyS w s t 9 o)) []) : object_ready_w (.agg w.enc) (.agg s.enc) (.int .i64 t) (.int .i64 9) (.int .i64 o) [] Q := by
  unfold object_ready_w
  have ht' : inB t s.threads.length = true := by rw [hf.threads]; exact ht
  have hrd := rd_small hr
  have hl : inB o s.locks.length = true := by rw [hf.locks]; simp [allowedS] at ha; exact ha.1
  simp only [readyS, lockAt, thrAt, doneAt, mxAt, Int.reduceEq, Int.reduceNeg, if_true, if_false, or_self, or_true, true_or, or_false, false_or, reduceIte, reduceCtorEq] at hq
  repeat' (first | (refine h_load1 ?_; first | refine b_load_q ?_ | refine b_load_i ?_) | (refine h_faddr ?_; refine a_faddr_q ?_) | (refine h_bin ?_; refine a_eql ?_) | (refine h_cond ?_; first | refine b_cond_t ?_ | refine b_cond_f ?_) | (refine h_idx ?_; refine b_idx_i ?_) | refine a_mark ?_ | ((with_reducible refine h_fn 60 ?_); refine m_call (contains_ok _ _ (hrd _)) ?_) | (refine h_box ?_; refine b_box (fun nb_ hnb_ => ?_)) | (refine h_frz1 ?_; refine b_frz_p ?_) | refine a_join ?_)
  all_goals first | exact hq | (refine Eq.mp (congrArg (fun b => Q (AV.bool b) []) ?_) hq; clear hq; first | (have h' := of_decide_eq_true h; simp [h']; done) | (have h' := of_decide_eq_false h; simp [h']; done) | (simp [h]; done) | (simp_all; done))
theorem ready_10 (w : WorldD) (s : SyncD) (t o : Int) (hf : FitD w s) (ht : inB t w.threads.length = true) (hr : ∀ l ∈ s.locks, l.readers.length < 2 ^ 40) (ha : allowedS w 10 o = true) (Q : AV → SH → Prop) (hq : Q (.bool (readyS w s t 10 o)) []) : object_ready_w (.agg w.enc) (.agg s.enc) (.int .i64 t) (.int .i64 10) (.int .i64 o) [] Q := by
  unfold object_ready_w
  have ht' : inB t s.threads.length = true := by rw [hf.threads]; exact ht
  have hrd := rd_small hr
  have hl : inB o s.locks.length = true := by rw [hf.locks]; simp [allowedS] at ha; exact ha.1
  simp only [readyS, lockAt, thrAt, doneAt, mxAt, Int.reduceEq, Int.reduceNeg, if_true, if_false, or_self, or_true, true_or, or_false, false_or, reduceIte, reduceCtorEq] at hq
  repeat' (first | (refine h_load1 ?_; first | refine b_load_q ?_ | refine b_load_i ?_) | (refine h_faddr ?_; refine a_faddr_q ?_) | (refine h_bin ?_; refine a_eql ?_) | (refine h_cond ?_; first | refine b_cond_t ?_ | refine b_cond_f ?_) | (refine h_idx ?_; refine b_idx_i ?_) | (refine h_len ?_; refine a_len_m ?_) | (refine h_pick ?_; first | refine b_pick_t ?_ | refine b_pick_f ?_) | (refine h_grd ?_; first | refine b_grd_y ?_ | refine b_grd_n ?_ | refine a_grd_t (fun h => ?_) (fun h => ?_)) | (refine h_box ?_; refine b_box (fun nb_ hnb_ => ?_)) | (refine h_frz1 ?_; refine b_frz_p ?_))
  all_goals first | exact hq | (refine Eq.mp (congrArg (fun b => Q (AV.bool b) []) ?_) hq; clear hq; first | (have h' := of_decide_eq_true h; simp [h']; done) | (have h' := of_decide_eq_false h; simp [h']; done) | (simp [h]; done) | (simp_all; done))
theorem ready_11 (w : WorldD) (s : SyncD) (t o : Int) (hf : FitD w s) (ht : inB t w.threads.length = true) (hr : ∀ l ∈ s.locks, l.readers.length < 2 ^ 40) (ha : allowedS w 11 o = true) (Q : AV → SH → Prop) (hq : Q (.bool (readyS w s t 11 o)) []) : object_ready_w (.agg w.enc) (.agg s.enc) (.int .i64 t) (.int .i64 11) (.int .i64 o) [] Q := by
  unfold object_ready_w
  have ht' : inB t s.threads.length = true := by rw [hf.threads]; exact ht
  have hrd := rd_small hr
  have hl : inB o s.locks.length = true := by rw [hf.locks]; simp [allowedS] at ha; exact ha.1
  simp only [readyS, lockAt, thrAt, doneAt, mxAt, Int.reduceEq, Int.reduceNeg, if_true, if_false, or_self, or_true, true_or, or_false, false_or, reduceIte, reduceCtorEq] at hq
  repeat' (first | (refine h_load1 ?_; first | refine b_load_q ?_ | refine b_load_i ?_) | (refine h_faddr ?_; refine a_faddr_q ?_) | (refine h_bin ?_; refine a_eql ?_) | (refine h_cond ?_; first | refine b_cond_t ?_ | refine b_cond_f ?_) | (refine h_idx ?_; refine b_idx_i ?_) | (refine h_box ?_; refine b_box (fun nb_ hnb_ => ?_)) | (refine h_frz1 ?_; refine b_frz_p ?_) | refine a_join ?_)
  all_goals first | exact hq | (refine Eq.mp (congrArg (fun b => Q (AV.bool b) []) ?_) hq; clear hq; first | (have h' := of_decide_eq_true h; simp [h']; done) | (have h' := of_decide_eq_false h; simp [h']; done) | (simp [h]; done) | (simp_all; done))
theorem ready_12 (w : WorldD) (s : SyncD) (t o : Int) (hf : FitD w s) (ht : inB t w.threads.length = true) (hr : ∀ l ∈ s.locks, l.readers.length < 2 ^ 40) (ha : allowedS w 12 o = true) (Q : AV → SH → Prop) (hq : Q (.bool (readyS w s t 12 o)) []) : object_ready_w (.agg w.enc) (.agg s.enc) (.int .i64 t) (.int .i64 12) (.int .i64 o) [] Q := by
  unfold object_ready_w
  have ht' : inB t s.threads.length = true := by rw [hf.threads]; exact ht
  have hrd := rd_small hr
  simp only [readyS, lockAt, thrAt, doneAt, mxAt, Int.reduceEq, Int.reduceNeg, if_true, if_false, or_self, or_true, true_or, or_false, false_or, reduceIte, reduceCtorEq] at hq
  repeat' (first | (refine h_load1 ?_; refine b_load_q ?_) | (refine h_faddr ?_; refine a_faddr_q ?_) | (refine h_bin ?_; refine a_eql ?_) | (refine h_cond ?_; first | refine b_cond_t ?_ | refine b_cond_f ?_) | (refine h_box ?_; refine b_box (fun nb_ hnb_ => ?_)) | (refine h_frz1 ?_; refine b_frz_p ?_) | refine a_join ?_)
  all_goals first | exact hq | (refine Eq.mp (congrArg (fun b => Q (AV.bool b) []) ?_) hq; clear hq; first | (have h' := of_decide_eq_true h; simp [h']; done) | (have h' := of_decide_eq_false h; simp [h']; done) | (simp [h]; done) | (simp_all; done))
theorem ready_13 (w : WorldD) (s : SyncD) (t o : Int) (hf : FitD w s) (ht : inB t w.threads.length = true) (hr : ∀ l ∈ s.locks, l.readers.length < 2 ^ 40) (ha : allowedS w 13 o = true) (Q : AV → SH → Prop) (hq : Q (.bool (readyS w s t 13 o)) []) : object_ready_w (.agg w.enc) (.agg s.enc) (.int .i64 t) (.int .i64 13) (.int .i64 o) [] Q := by
  unfold object_ready_w
  have ht' : inB t s.threads.length = true := by rw [hf.threads]; exact ht
  have hrd := rd_small hr
  simp only [readyS, lockAt, thrAt, doneAt, mxAt, Int.reduceEq, Int.reduceNeg, if_true, if_false, or_self, or_true, true_or, or_false, false_or, reduceIte, reduceCtorEq] at hq
  repeat' (first | (refine h_load1 ?_; refine b_load_q ?_) | (refine h_faddr ?_; refine a_faddr_q ?_) | (refine h_bin ?_; refine a_eql ?_) | (refine h_cond ?_; first | refine b_cond_t ?_ | refine b_cond_f ?_) | (refine h_box ?_; refine b_box (fun nb_ hnb_ => ?_)) | (refine h_frz1 ?_; refine b_frz_p ?_) | refine a_join ?_)
  all_goals first | exact hq | (refine Eq.mp (congrArg (fun b => Q (AV.bool b) []) ?_) hq; clear hq; first | (have h' := of_decide_eq_true h; simp [h']; done) | (have h' := of_decide_eq_false h; simp [h']; done) | (simp [h]; done) | (simp_all; done))
theorem ready_14 (w : WorldD) (s : SyncD) (t o : Int) (hf : FitD w s) (ht : inB t w.threads.length = true) (hr : ∀ l ∈ s.locks, l.readers.length < 2 ^ 40) (ha : allowedS w 14 o = true) (Q : AV → SH → Prop) (hq : Q (.bool (readyS w s t 14 o)) []) : object_ready_w (.agg w.enc) (.agg s.enc) (.int .i64 t) (.int .i64 14) (.int .i64 o) [] Q := by
  unfold object_ready_w
  have ht' : inB t s.threads.length = true := by rw [hf.threads]; exact ht
  have hrd := rd_small hr
  simp only [readyS, lockAt, thrAt, doneAt, mxAt, Int.reduceEq, Int.reduceNeg, if_true, if_false, or_self, or_true, true_or, or_false, false_or, reduceIte, reduceCtorEq] at hq
  repeat' (first | (refine h_load1 ?_; first | refine b_load_q ?_ | refine b_load_i ?_) | (refine h_faddr ?_; refine a_faddr_q ?_) | (refine h_bin ?_; refine a_eql ?_) | (refine h_cond ?_; first | refine b_cond_t ?_ | refine b_cond_f ?_) | (refine h_idx ?_; refine b_idx_i ?_) | (refine h_un ?_; refine a_not ?_) | (refine h_box ?_; refine b_box (fun nb_ hnb_ => ?_)) | (refine h_frz1 ?_; refine b_frz_p ?_) | refine a_join ?_)
  all_goals first | exact hq | (refine Eq.mp (congrArg (fun b => Q (AV.bool b) []) ?_) hq; clear hq; first | (have h' := of_decide_eq_true h; simp [h']; done) | (have h' := of_decide_eq_false h; simp [h']; done) | (simp [h]; done) | (simp_all; done))
theorem ready_15 (w : WorldD) (s : SyncD) (t o : Int) (hf : FitD w s) (ht : inB t w.threads.length = true) (hr : ∀ l ∈ s.locks, l.readers.length < 2 ^ 40) (ha : allowedS w 15 o = true) (Q : AV → SH → Prop) (hq : Q (.bool (readyS w s t 15 o)) []) : object_ready_w (.agg w.enc) (.agg s.enc) (.int .i64 t) (.int .i64 15) (.int .i64 o) [] Q := by
  unfold object_ready_w
  have ht' : inB t s.threads.length = true := by rw [hf.threads]; exact ht
  have hrd := rd_small hr
  simp only [readyS, lockAt, thrAt, doneAt, mxAt, Int.reduceEq, Int.reduceNeg, if_true, if_false, or_self, or_true, true_or, or_false, false_or, reduceIte, reduceCtorEq] at hq
  repeat' (first | (refine h_load1 ?_; first | refine b_load_q ?_ | refine b_load_i ?_) | (refine h_faddr ?_; refine a_faddr_q ?_) | (refine h_bin ?_; refine a_eql ?_) | (refine h_cond ?_; first | refine b_cond_t ?_ | refine b_cond_f ?_) | (refine h_idx ?_; refine b_idx_i ?_) | (refine h_box ?_; refine b_box (fun nb_ hnb_ => ?_)) | (refine h_frz1 ?_; refine b_frz_p ?_) | refine a_join ?_)
  all_goals first | exact hq | (refine Eq.mp (congrArg (fun b => Q (AV.bool b) []) ?_) hq; clear hq; first | (have h' := of_decide_eq_true h; simp [h']; done) | (have h' := of_decide_eq_false h; simp [h']; done) | (simp [h]; done) | (simp_all; done))
theorem ready_16 (w : WorldD) (s : SyncD) (t o : Int) (hf : FitD w s) (ht : inB t w.threads.length = true) (hr : ∀ l ∈ s.locks, l.readers.length < 2 ^ 40) (ha : allowedS w 16 o = true) (Q : AV → SH → Prop) (hq : Q (.bool (readyS w s t 16 o)) []) : object_ready_w (.agg w.enc) (.agg s.enc) (.int .i64 t) (.int .i64 16) (.int .i64 o) [] Q := by
  unfold object_ready_w
  have ht' : inB t s.threads.length = true := by rw [hf.threads]; exact ht
  have hrd := rd_small hr
  have hc : inB o w.conds.length = true := by simpa [allowedS] using ha
  have hl := mx_in hf hc
  simp only [readyS, lockAt, thrAt, doneAt, mxAt, Int.reduceEq, Int.reduceNeg, if_true, if_false, or_self, or_true, true_or, or_false, false_or, reduceIte, reduceCtorEq] at hq
  repeat' (first | (refine h_load1 ?_; first | refine b_load_q ?_ | refine b_load_i ?_) | (refine h_faddr ?_; refine a_faddr_q ?_) | (refine h_bin ?_; refine a_eql ?_) | (refine h_cond ?_; first | refine b_cond_t ?_ | refine b_cond_f ?_) | (refine h_idx ?_; refine b_idx_i ?_) | (refine h_calm ?_; refine b_calm ?_) | (refine h_note ?_; refine a_note ?_) | (refine h_box ?_; refine b_box (fun nb_ hnb_ => ?_)) | (refine h_frz1 ?_; refine b_frz_p ?_) | refine a_join ?_ | refine a_tt ?_)
  all_goals first | exact hq | (refine Eq.mp (congrArg (fun b => Q (AV.bool b) []) ?_) hq; clear hq; first | (have h' := of_decide_eq_true h; simp [h']; done) | (have h' := of_decide_eq_false h; simp [h']; done) | (simp [h]; done) | (simp_all; done))
theorem ready_17 (w : WorldD) (s : SyncD) (t o : Int) (hf : FitD w s) (ht : inB t w.threads.length = true) (hr : ∀ l ∈ s.locks, l.readers.length < 2 ^ 40) (ha : allowedS w 17 o = true) (Q : AV → SH → Prop) (hq : Q (.bool (readyS w s t 17 o)) []) : object_ready_w (.agg w.enc) (.agg s.enc) (.int .i64 t) (.int .i64 17) (.int .i64 o) [] Q := by
  unfold object_ready_w
  have ht' : inB t s.threads.length = true := by rw [hf.threads]; exact ht
  have hrd := rd_small hr
  have hc : inB o w.conds.length = true := by simpa [allowedS] using ha
  have hl := mx_in hf hc
  simp only [readyS, lockAt, thrAt, doneAt, mxAt, Int.reduceEq, Int.reduceNeg, if_true, if_false, or_self, or_true, true_or, or_false, false_or, reduceIte, reduceCtorEq] at hq
  repeat' (first | (refine h_bin ?_; refine a_eql ?_) | (refine h_cond ?_; refine b_cond_f ?_) | (refine h_box ?_; refine b_box (fun nb_ hnb_ => ?_)) | (refine h_frz1 ?_; refine b_frz_p ?_) | refine a_join ?_)
  all_goals first | exact hq | (refine Eq.mp (congrArg (fun b => Q (AV.bool b) []) ?_) hq; clear hq; first | (have h' := of_decide_eq_true h; simp [h']; done) | (have h' := of_decide_eq_false h; simp [h']; done) | (simp [h]; done) | (simp_all; done))
theorem ready_18 (w : WorldD) (s : SyncD) (t o : Int) (hf : FitD w s) (ht : inB t w.threads.length = true) (hr : ∀ l ∈ s.locks, l.readers.length < 2 ^ 40) (ha : allowedS w 18 o = true) (Q : AV → SH → Prop) (hq : Q (.bool (readyS w s t 18 o)) []) : object_ready_w (.agg w.enc) (.agg s.enc) (.int .i64 t) (.int .i64 18) (.int .i64 o) [] Q := by
  unfold object_ready_w
  have ht' : inB t s.threads.length = true := by rw [hf.threads]; exact ht
  have hrd := rd_small hr
  have hc : inB o w.conds.length = true := by simpa [allowedS] using ha
  have hl := mx_in hf hc
  simp only [readyS, lockAt, thrAt, doneAt, mxAt, Int.reduceEq, Int.reduceNeg, if_true, if_false, or_self, or_true, true_or, or_false, false_or, reduceIte, reduceCtorEq] at hq
  repeat' (first | (refine h_load1 ?_; first | refine b_load_q ?_ | refine b_load_i ?_) | (refine h_faddr ?_; refine a_faddr_q ?_) | (refine h_bin ?_; refine a_eql ?_) | (refine h_cond ?_; first | refine b_cond_t ?_ | refine b_cond_f ?_) | (refine h_idx ?_; refine b_idx_i ?_) | (refine h_calm ?_; refine b_calm ?_) | (refine h_note ?_; refine a_note ?_) | (refine h_box ?_; refine b_box (fun nb_ hnb_ => ?_)) | (refine h_frz1 ?_; refine b_frz_p ?_) | refine a_join ?_ | refine a_tt ?_)
  all_goals first | exact hq | (refine Eq.mp (congrArg (fun b => Q (AV.bool b) []) ?_) hq; clear hq; first | (have h' := of_decide_eq_true h; simp [h']; done) | (have h' := of_decide_eq_false h; simp [h']; done) | (simp [h]; done) | (simp_all; done))
theorem ready_19 (w : WorldD) (s : SyncD) (t o : Int) (hf : FitD w s) (ht : inB t w.threads.length = true) (hr : ∀ l ∈ s.locks, l.readers.length < 2 ^ 40) (ha : allowedS w 19 o = true) (Q : AV → SH → Prop) (hq : Q (.bool (readyS w s t 19 o)) []) : object_ready_w (.agg w.enc) (.agg s.enc) (.int .i64 t) (.int .i64 19) (.int .i64 o) [] Q := by
  unfold object_ready_w
  have ht' : inB t s.threads.length = true := by rw [hf.threads]; exact ht
  have hrd := rd_small hr
  have hc : inB o w.conds.length = true := by simpa [allowedS] using ha
  have hl := mx_in hf hc
  simp only [readyS, lockAt, thrAt, doneAt, mxAt, Int.reduceEq, Int.reduceNeg, if_true, if_false, or_self, or_true, true_or, or_false, false_or, reduceIte, reduceCtorEq] at hq
  repeat' (first | (refine h_load1 ?_; first | refine b_load_q ?_ | refine b_load_i ?_) | (refine h_faddr ?_; refine a_faddr_q ?_) | (refine h_bin ?_; refine a_eql ?_) | (refine h_cond ?_; first | refine b_cond_t ?_ | refine b_cond_f ?_) | (refine h_idx ?_; refine b_idx_i ?_) | (refine h_calm ?_; refine b_calm ?_) | (refine h_note ?_; refine a_note ?_) | (refine h_box ?_; refine b_box (fun nb_ hnb_ => ?_)) | (refine h_frz1 ?_; refine b_frz_p ?_) | refine a_join ?_ | refine a_tt ?_)
  all_goals first | exact hq | (refine Eq.mp (congrArg (fun b => Q (AV.bool b) []) ?_) hq; clear hq; first | (have h' := of_decide_eq_true h; simp [h']; done) | (have h' := of_decide_eq_false h; simp [h']; done) | (simp [h]; done) | (simp_all; done))
theorem ready_20 (w : WorldD) (s : SyncD) (t o : Int) (hf : FitD w s) (ht : inB t w.threads.length = true) (hr : ∀ l ∈ s.locks, l.readers.length < 2 ^ 40) (ha : allowedS w 20 o = true) (Q : AV → SH → Prop) (hq : Q (.bool (readyS w s t 20 o)) []) : object_ready_w (.agg w.enc) (.agg s.enc) (.int .i64 t) (.int .i64 20) (.int .i64 o) [] Q := by
  unfold object_ready_w
  have ht' : inB t s.threads.length = true := by rw [hf.threads]; exact ht
  have hrd := rd_small hr
  have hl : inB o s.threads.length = true := by rw [hf.threads]; simpa [allowedS] using ha
  simp only [readyS, lockAt, thrAt, doneAt, mxAt, Int.reduceEq, Int.reduceNeg, if_true, if_false, or_self, or_true, true_or, or_false, false_or, reduceIte, reduceCtorEq] at hq
  repeat' (first | (refine h_load1 ?_; first | refine b_load_q ?_ | refine b_load_i ?_) | (refine h_faddr ?_; refine a_faddr_q ?_) | (refine h_bin ?_; first | refine a_eql ?_ | refine a_neq ?_) | (refine h_cond ?_; first | refine b_cond_t ?_ | refine b_cond_f ?_) | (refine h_idx ?_; refine b_idx_i ?_) | (refine h_pick ?_; first | refine b_pick_t ?_ | refine b_pick_f ?_) | (refine h_grd ?_; first | refine b_grd_y ?_ | refine b_grd_n ?_ | refine a_grd_t (fun h => ?_) (fun h => ?_)) | (refine h_box ?_; refine b_box (fun nb_ hnb_ => ?_)) | (refine h_frz1 ?_; refine b_frz_p ?_) | refine a_join ?_)
  all_goals first | exact hq | (refine Eq.mp (congrArg (fun b => Q (AV.bool b) []) ?_) hq; clear hq; first | (have h' := of_decide_eq_true h; simp [h']; done) | (have h' := of_decide_eq_false h; simp [h']; done) | (simp [h]; done) | (simp_all; done))
theorem ready_21 (w : WorldD) (s : SyncD) (t o : Int) (hf : FitD w s) (ht : inB t w.threads.length = true) (hr : ∀ l ∈ s.locks, l.readers.length < 2 ^ 40) (ha : allowedS w 21 o = true) (Q : AV → SH → Prop) (hq : Q (.bool (readyS w s t 21 o)) []) : object_ready_w (.agg w.enc) (.agg s.enc) (.int .i64 t) (.int .i64 21) (.int .i64 o) [] Q := by
  unfold object_ready_w
  have ht' : inB t s.threads.length = true := by rw [hf.threads]; exact ht
  have hrd := rd_small hr
  have hl : inB o s.threads.length = true := by rw [hf.threads]; simpa [allowedS] using ha
  simp only [readyS, lockAt, thrAt, doneAt, mxAt, Int.reduceEq, Int.reduceNeg, if_true, if_false, or_self, or_true, true_or, or_false, false_or, reduceIte, reduceCtorEq] at hq
  repeat' (first | (refine h_load1 ?_; first | refine b_load_q ?_ | refine b_load_i ?_) | (refine h_faddr ?_; refine a_faddr_q ?_) | (refine h_bin ?_; first | refine a_eql ?_ | refine a_neq ?_) | (refine h_cond ?_; first | refine b_cond_t ?_ | refine b_cond_f ?_) | (refine h_idx ?_; refine b_idx_i ?_) | (refine h_pick ?_; first | refine b_pick_t ?_ | refine b_pick_f ?_) | (refine h_grd ?_; first | refine b_grd_y ?_ | refine b_grd_n ?_ | refine a_grd_t (fun h => ?_) (fun h => ?_)) | (refine h_box ?_; refine b_box (fun nb_ hnb_ => ?_)) | (refine h_frz1 ?_; refine b_frz_p ?_) | refine a_join ?_)
  all_goals first | exact hq | (refine Eq.mp (congrArg (fun b => Q (AV.bool b) []) ?_) hq; clear hq; first | (have h' := of_decide_eq_true h; simp [h']; done) | (have h' := of_decide_eq_false h; simp [h']; done) | (simp [h]; done) | (simp_all; done))
theorem ready_22 (w : WorldD) (s : SyncD) (t o : Int) (hf : FitD w s) (ht : inB t w.threads.length = true) (hr : ∀ l ∈ s.locks, l.readers.length < 2 ^ 40) (ha : allowedS w 22 o = true) (Q : AV → SH → Prop) (hq : Q (.bool (readyS w s t 22 o)) []) : object_ready_w (.agg w.enc) (.agg s.enc) (.int .i64 t) (.int .i64 22) (.int .i64 o) [] Q := by
  unfold object_ready_w
  have ht' : inB t s.threads.length = true := by rw [hf.threads]; exact ht
  have hrd := rd_small hr
  have hl : inB o s.done.length = true := by rw [hf.done]; simpa [allowedS] using ha
  simp only [readyS, lockAt, thrAt, doneAt, mxAt, Int.reduceEq, Int.reduceNeg, if_true, if_false, or_self, or_true, true_or, or_false, false_or, reduceIte, reduceCtorEq] at hq
  repeat' (first | (refine h_load1 ?_; first | refine b_load_q ?_ | refine b_load_i ?_) | (refine h_faddr ?_; refine a_faddr_q ?_) | (refine h_bin ?_; refine a_eql ?_) | (refine h_cond ?_; first | refine b_cond_t ?_ | refine b_cond_f ?_) | (refine h_idx ?_; refine b_idx_i ?_) | (refine h_un ?_; refine a_not ?_) | (refine h_box ?_; refine b_box (fun nb_ hnb_ => ?_)) | (refine h_frz1 ?_; refine b_frz_p ?_) | refine a_join ?_)
  all_goals first | exact hq | (refine Eq.mp (congrArg (fun b => Q (AV.bool b) []) ?_) hq; clear hq; first | (have h' := of_decide_eq_true h; simp [h']; done) | (have h' := of_decide_eq_false h; simp [h']; done) | (simp [h]; done) | (simp_all; done))
theorem ready_23 (w : WorldD) (s : SyncD) (t o : Int) (hf : FitD w s) (ht : inB t w.threads.length = true) (hr : ∀ l ∈ s.locks, l.readers.length < 2 ^ 40) (ha : allowedS w 23 o = true) (Q : AV → SH → Prop) (hq : Q (.bool (readyS w s t 23 o)) []) : object_ready_w (.agg w.enc) (.agg s.enc) (.int .i64 t) (.int .i64 23) (.int .i64 o) [] Q := by
  unfold object_ready_w
  have ht' : inB t s.threads.length = true := by rw [hf.threads]; exact ht
  have hrd := rd_small hr
  have hl : inB o s.done.length = true := by rw [hf.done]; simpa [allowedS] using ha
  simp only [readyS, lockAt, thrAt, doneAt, mxAt, Int.reduceEq, Int.reduceNeg, if_true, if_false, or_self, or_true, true_or, or_false, false_or, reduceIte, reduceCtorEq] at hq
  repeat' (first | (refine h_load1 ?_; first | refine b_load_q ?_ | refine b_load_i ?_) | (refine h_faddr ?_; refine a_faddr_q ?_) | (refine h_bin ?_; refine a_eql ?_) | (refine h_cond ?_; first | refine b_cond_t ?_ | refine b_cond_f ?_) | (refine h_idx ?_; refine b_idx_i ?_) | (refine h_box ?_; refine b_box (fun nb_ hnb_ => ?_)) | (refine h_frz1 ?_; refine b_frz_p ?_) | refine a_join ?_)
  all_goals first | exact hq | (refine Eq.mp (congrArg (fun b => Q (AV.bool b) []) ?_) hq; clear hq; first | (have h' := of_decide_eq_true h; simp [h']; done) | (have h' := of_decide_eq_false h; simp [h']; done) | (simp [h]; done) | (simp_all; done))
theorem ready_w (w : WorldD) (s : SyncD) (t k o : Int) (hf : FitD w s) (ht : inB t w.threads.length = true) (hr : ∀ l ∈ s.locks, l.readers.length < 2 ^ 40) (ha : allowedS w k o = true) (Q : AV → SH → Prop) (hq : Q (.bool (readyS w s t k o)) []) : object_ready_w (.agg w.enc) (.agg s.enc) (.int .i64 t) (.int .i64 k) (.int .i64 o) [] Q := by
  rcases kinds k with hk | rfl | rfl | rfl | rfl | rfl | rfl | rfl | rfl | rfl | rfl | rfl | rfl | rfl | rfl | rfl | rfl | rfl | rfl | rfl | rfl | rfl | rfl | rfl 
  · simp only [allowedS] at ha
    repeat (rw [if_neg (by omega)] at ha)
    cases ha
  · exact ready_1 w s t o hf ht hr ha Q hq
  · exact ready_2 w s t o hf ht hr ha Q hq
  · exact ready_3 w s t o hf ht hr ha Q hq
  · exact ready_4 w s t o hf ht hr ha Q hq
  · exact ready_5 w s t o hf ht hr ha Q hq
  · exact ready_6 w s t o hf ht hr ha Q hq
  · exact ready_7 w s t o hf ht hr ha Q hq
  · exact ready_8 w s t o hf ht hr ha Q hq
  · exact ready_9 w s t o hf ht hr ha Q hq
  · exact ready_10 w s t o hf ht hr ha Q hq
  · exact ready_11 w s t o hf ht hr ha Q hq
  · exact ready_12 w s t o hf ht hr ha Q hq
  · exact ready_13 w s t o hf ht hr ha Q hq
  · exact ready_14 w s t o hf ht hr ha Q hq
  · exact ready_15 w s t o hf ht hr ha Q hq
  · exact ready_16 w s t o hf ht hr ha Q hq
  · exact ready_17 w s t o hf ht hr ha Q hq
  · exact ready_18 w s t o hf ht hr ha Q hq
  · exact ready_19 w s t o hf ht hr ha Q hq
  · exact ready_20 w s t o hf ht hr ha Q hq
  · exact ready_21 w s t o hf ht hr ha Q hq
  · exact ready_22 w s t o hf ht hr ha Q hq
  · exact ready_23 w s t o hf ht hr ha Q hq
theorem ready_ok (w : WorldD) (s : SyncD) (t k o : Int) (hf : FitD w s) (ht : inB t w.threads.length = true) (hr : ∀ l ∈ s.locks, l.readers.length < 2 ^ 40) (ha : allowedS w k o = true) : PureA Try.prog 54 [.agg w.enc, .agg s.enc, .int .i64 t, .int .i64 k, .int .i64 o] (.bool (readyS w s t k o)) := object_ready_ok _ _ _ _ _ _ _ (ready_w w s t k o hf ht hr ha _ ⟨rfl, rfl⟩)
theorem enabled_no (w : WorldD) (s : SyncD) (t k o : Int) (hcn : w.conds.length < 2 ^ 62) (hr : ∀ l ∈ s.locks, l.readers.length < 2 ^ 40) (Q : AV → SH → Prop) (hq : Q (.bool (enabledS w s t k o)) []) (hn : (fitsS w s && inB t w.threads.length && allowedS w k o) = false) : object_Enabled_w (.agg w.enc) (.agg s.enc) (.int .i64 t) (.int .i64 k) (.int .i64 o) [] Q := by
  unfold object_Enabled_w
  have e : enabledS w s t k o = false := by unfold enabledS; rw [hn, Bool.false_and]
  rw [e] at hq
  cases h1 : fitsS w s with
  | false =>
    have nh1 : (!fitsS w s) = true := by rw [h1]; rfl
    repeat' (first | (refine h_cond ?_; refine b_cond_t ?_) | (refine h_row ?_; refine b_row_q ?_) | (refine h_pick ?_; refine b_pick_t ?_) | (refine h_grd ?_; refine b_grd_n ?_) | refine a_mark ?_ | ((with_reducible refine h_fn 37 ?_); refine m_call (fits_ok _ _ hcn) ?_) | (refine h_un ?_; refine a_not ?_) | (refine h_box ?_; refine b_box (fun nb_ hnb_ => ?_)) | (refine h_frz1 ?_; refine b_frz_p ?_))
    all_goals exact hq
  | true =>
    have nh1 : (!fitsS w s) = false := by rw [h1]; rfl
    cases h2 : inB t w.threads.length with
    | false =>
      have nh2 : (!inB t w.threads.length) = true := by rw [h2]; rfl
      repeat' (first | (refine h_load1 ?_; refine b_load_q ?_) | (refine h_faddr ?_; refine a_faddr_q ?_) | (refine h_cond ?_; refine b_cond_t ?_) | (refine h_row ?_; refine b_row_q ?_) | (refine h_len ?_; refine a_len_m ?_) | (refine h_pick ?_; first | refine b_pick_t ?_ | refine b_pick_f ?_) | (refine h_grd ?_; first | refine b_grd_y ?_ | refine b_grd_n ?_) | refine a_mark ?_ | ((with_reducible refine h_fn 37 ?_); refine m_call (fits_ok _ _ hcn) ?_) | ((with_reducible refine h_fn 52 ?_); refine m_call (within_ok _ _) ?_) | (refine h_un ?_; refine a_not ?_) | (refine h_box ?_; refine b_box (fun nb_ hnb_ => ?_)) | (refine h_frz1 ?_; refine b_frz_p ?_))
      all_goals exact hq
    | true =>
      have nh2 : (!inB t w.threads.length) = false := by rw [h2]; rfl
      have h3 : allowedS w k o = false := by rw [h1, h2] at hn; simpa using hn
      have nh3 : (!allowedS w k o) = true := by rw [h3]; rfl
      repeat' (first | (refine h_load1 ?_; refine b_load_q ?_) | (refine h_faddr ?_; refine a_faddr_q ?_) | (refine h_cond ?_; refine b_cond_t ?_) | (refine h_row ?_; refine b_row_q ?_) | (refine h_len ?_; refine a_len_m ?_) | (refine h_pick ?_; refine b_pick_f ?_) | (refine h_grd ?_; refine b_grd_y ?_) | refine a_mark ?_ | ((with_reducible refine h_fn 37 ?_); refine m_call (fits_ok _ _ hcn) ?_) | ((with_reducible refine h_fn 52 ?_); refine m_call (within_ok _ _) ?_) | ((with_reducible refine h_fn 53 ?_); refine m_call (allowed_ok _ _ _) ?_) | (refine h_un ?_; refine a_not ?_) | (refine h_box ?_; refine b_box (fun nb_ hnb_ => ?_)) | (refine h_frz1 ?_; refine b_frz_p ?_))
      all_goals exact hq
theorem enabled_1 (w : WorldD) (s : SyncD) (t o : Int) (hcn : w.conds.length < 2 ^ 62) (hr : ∀ l ∈ s.locks, l.readers.length < 2 ^ 40) (Q : AV → SH → Prop) (hq : Q (.bool (enabledS w s t 1 o)) []) (h1 : fitsS w s = true) (h2 : inB t w.threads.length = true) (ha : allowedS w 1 o = true) : object_Enabled_w (.agg w.enc) (.agg s.enc) (.int .i64 t) (.int .i64 1) (.int .i64 o) [] Q := by
  unfold object_Enabled_w
  have nh1 : (!fitsS w s) = false := by rw [h1]; rfl
  have nh2 : (!inB t w.threads.length) = false := by rw [h2]; rfl
  have hf := fitsS_iff.1 h1
  have ht' : inB t s.threads.length = true := by rw [hf.threads]; exact h2
  have nha : (!allowedS w 1 o) = false := by rw [ha]; rfl
  simp only [enabledS, h1, h2, ha, readyS, lockAt, thrAt, doneAt, mxAt, Bool.true_and, Int.reduceEq, Int.reduceNeg, if_true, if_false, or_self, or_true, true_or, or_false, false_or, reduceIte, reduceCtorEq] at hq
  repeat' (first | (refine h_load1 ?_; refine b_load_q ?_) | (refine h_faddr ?_; refine a_faddr_q ?_) | (refine h_bin ?_; refine a_eql ?_) | (refine h_cond ?_; first | refine b_cond_t ?_ | refine b_cond_f ?_) | (refine h_idx ?_; refine b_idx_i ?_) | (refine h_row ?_; first | refine b_row_q ?_ | refine b_row_i ?_) | (refine h_len ?_; refine a_len_m ?_) | (refine h_pick ?_; refine b_pick_f ?_) | (refine h_grd ?_; refine b_grd_y ?_) | refine a_mark ?_ | ((with_reducible refine h_fn 37 ?_); refine m_call (fits_ok _ _ hcn) ?_) | ((with_reducible refine h_fn 52 ?_); refine m_call (within_ok _ _) ?_) | ((with_reducible refine h_fn 53 ?_); refine m_call (allowed_ok _ _ _) ?_) | (refine h_un ?_; refine a_not ?_) | (refine h_box ?_; refine b_box (fun nb_ hnb_ => ?_)) | (refine h_frz1 ?_; refine b_frz_p ?_) | (refine h_store ?_; refine b_store_box ?_) | refine a_alloc (fun nb_ hnb_ => ?_))
  all_goals first | exact hq | (refine Eq.mp (congrArg (fun b => Q (AV.bool b) []) ?_) hq; clear hq; first | (have h' := of_decide_eq_true h; simp [h']; done) | (have h' := of_decide_eq_false h; simp [h']; done) | (simp [h]; done) | (simp_all; done))
theorem enabled_17 (w : WorldD) (s : SyncD) (t o : Int) (hcn : w.conds.length < 2 ^ 62) (hr : ∀ l ∈ s.locks, l.readers.length < 2 ^ 40) (Q : AV → SH → Prop) (hq : Q (.bool (enabledS w s t 17 o)) []) (h1 : fitsS w s = true) (h2 : inB t w.threads.length = true) (ha : allowedS w 17 o = true) : object_Enabled_w (.agg w.enc) (.agg s.enc) (.int .i64 t) (.int .i64 17) (.int .i64 o) [] Q := by
  unfold object_Enabled_w
  have nh1 : (!fitsS w s) = false := by rw [h1]; rfl
  have nh2 : (!inB t w.threads.length) = false := by rw [h2]; rfl
  have hf := fitsS_iff.1 h1
  have ht' : inB t s.threads.length = true := by rw [hf.threads]; exact h2
  have nha : (!allowedS w 17 o) = false := by rw [ha]; rfl
  have hc : inB o w.conds.length = true := by simpa [allowedS] using ha
  have hl := mx_in hf hc
  simp only [enabledS, h1, h2, ha, readyS, lockAt, thrAt, doneAt, mxAt, Bool.true_and, Int.reduceEq, Int.reduceNeg, if_true, if_false, or_self, or_true, true_or, or_false, false_or, reduceIte, reduceCtorEq] at hq
  repeat' (first | (refine h_load1 ?_; first | refine b_load_q ?_ | refine b_load_i ?_) | (refine h_faddr ?_; refine a_faddr_q ?_) | (refine h_bin ?_; refine a_eql ?_) | (refine h_cond ?_; first | refine b_cond_t ?_ | refine b_cond_f ?_) | (refine h_idx ?_; refine b_idx_i ?_) | (refine h_row ?_; first | refine b_row_q ?_ | refine b_row_i ?_) | (refine h_len ?_; refine a_len_m ?_) | (refine h_calm ?_; refine b_calm ?_) | (refine h_note ?_; refine a_note ?_) | (refine h_pick ?_; first | refine b_pick_t ?_ | refine b_pick_f ?_) | (refine h_grd ?_; refine b_grd_y ?_) | (refine h_dgrd ?_; first | refine b_dgrd_y ?_ | refine b_dgrd_n ?_ | refine a_dgrd_t (fun h => ?_) (fun h => ?_)) | refine a_mark ?_ | ((with_reducible refine h_fn 37 ?_); refine m_call (fits_ok _ _ hcn) ?_) | ((with_reducible refine h_fn 52 ?_); refine m_call (within_ok _ _) ?_) | ((with_reducible refine h_fn 53 ?_); refine m_call (allowed_ok _ _ _) ?_) | (refine h_un ?_; refine a_not ?_) | (refine h_box ?_; refine b_box (fun nb_ hnb_ => ?_)) | (refine h_frz1 ?_; refine b_frz_p ?_) | (refine h_store ?_; refine b_store_box ?_) | refine a_alloc (fun nb_ hnb_ => ?_) | refine a_tt ?_)
  all_goals first | exact hq | (refine Eq.mp (congrArg (fun b => Q (AV.bool b) []) ?_) hq; clear hq; first | (have h' := of_decide_eq_true h; simp [h']; done) | (have h' := of_decide_eq_false h; simp [h']; done) | (simp [h]; done) | (simp_all; done))
theorem enabled_w (w : WorldD) (s : SyncD) (t k o : Int) (hcn : w.conds.length < 2 ^ 62) (hr : ∀ l ∈ s.locks, l.readers.length < 2 ^ 40) (Q : AV → SH → Prop) (hq : Q (.bool (enabledS w s t k o)) []) : object_Enabled_w (.agg w.enc) (.agg s.enc) (.int .i64 t) (.int .i64 k) (.int .i64 o) [] Q := by
  cases hn : (fitsS w s && inB t w.threads.length && allowedS w k o) with
  | false => exact enabled_no w s t k o hcn hr Q hq hn
  | true =>
    simp only [Bool.and_eq_true] at hn
    obtain ⟨⟨h1, h2⟩, ha⟩ := hn
    by_cases k1 : k = 1
    · subst k1; exact enabled_1 w s t o hcn hr Q hq h1 h2 ha
    by_cases k17 : k = 17
    · subst k17; exact enabled_17 w s t o hcn hr Q hq h1 h2 ha
    unfold object_Enabled_w
    have nh1 : (!fitsS w s) = false := by rw [h1]; rfl
    have nh2 : (!inB t w.threads.length) = false := by rw [h2]; rfl
    have hf := fitsS_iff.1 h1
    have ht' : inB t s.threads.length = true := by rw [hf.threads]; exact h2
    have nha : (!allowedS w k o) = false := by rw [ha]; rfl
    have e1 : decide (k = 1) = false := decide_eq_false k1
    have e17 : decide (k = 17) = false := decide_eq_false k17
    have hrk := ready_ok w s t k o hf h2 hr ha
    have e : enabledS w s t k o = (decide ((thrAt s t).status = 2) && readyS w s t k o) := by unfold enabledS; rw [h1, h2, ha, if_neg k1, if_neg k17]; rfl
    rw [e] at hq
    simp only [thrAt] at hq
    generalize readyS w s t k o = rb at *
    repeat' (first | (refine h_load1 ?_; refine b_load_q ?_) | (refine h_faddr ?_; refine a_faddr_q ?_) | (refine h_bin ?_; refine a_eql ?_) | (refine h_cond ?_; refine b_cond_f ?_) | (refine h_idx ?_; refine b_idx_i ?_) | (refine h_row ?_; first | refine b_row_q ?_ | refine b_row_i ?_) | (refine h_len ?_; refine a_len_m ?_) | (refine h_pick ?_; first | refine b_pick_t ?_ | refine b_pick_f ?_) | (refine h_grd ?_; first | refine b_grd_y ?_ | refine b_grd_n ?_ | refine a_grd_t (fun h => ?_) (fun h => ?_)) | refine a_mark ?_ | ((with_reducible refine h_fn 37 ?_); refine m_call (fits_ok _ _ hcn) ?_) | ((with_reducible refine h_fn 52 ?_); refine m_call (within_ok _ _) ?_) | ((with_reducible refine h_fn 53 ?_); refine m_call (allowed_ok _ _ _) ?_) | ((with_reducible refine h_fn 54 ?_); refine m_call (hrk) ?_) | (refine h_un ?_; refine a_not ?_) | (refine h_box ?_; refine b_box (fun nb_ hnb_ => ?_)) | (refine h_frz1 ?_; refine b_frz_p ?_) | (refine h_store ?_; refine b_store_box ?_) | refine a_alloc (fun nb_ hnb_ => ?_))
    all_goals first | exact hq | (refine Eq.mp (congrArg (fun b => Q (AV.bool b) []) ?_) hq; clear hq; first | (have h' := of_decide_eq_true h; simp [h']; done) | (have h' := of_decide_eq_false h; simp [h']; done) | (simp [h]; done) | (simp_all; done))
theorem enabled_ok (w : WorldD) (s : SyncD) (t k o : Int) (hcn : w.conds.length < 2 ^ 62) (hr : ∀ l ∈ s.locks, l.readers.length < 2 ^ 40) : PureA Try.prog 27 [.agg w.enc, .agg s.enc, .int .i64 t, .int .i64 k, .int .i64 o] (.bool (enabledS w s t k o)) := object_Enabled_ok _ _ _ _ _ _ _ (enabled_w w s t k o hcn hr _ ⟨rfl, rfl⟩)
end Go.Proofs.Ytadjimfkfmojkaa.Am

end
section
namespace Go.Proofs.Ytadjimfkfmojkaa
open Go.ChangeShapes Go.WideShapes Go.ChangeAt Go.RowKit

/-- A relation between a datum and the cells that hold it, in a world, over blocks of which F holds. -/
abbrev Rel (α : Type) := World → (Nat → Prop) → α → List Value → Prop

def rInt (k : IntKind) : Rel Int := fun _ _ n cs => cs = [.int k n] ∧ (Lit.int k n).wf = true
def rBool : Rel Bool := fun _ _ b cs => cs = [.bool b]
/-- A slice of elements of 'size' cells. -/
def rSlice {α : Type} (size : Nat) (R : Rel α) : Rel (List α) := fun w F l cs =>
  ∃ A c, cs = [.slice A l.length c] ∧ l.length ≤ c ∧ c ≤ maxLen ∧
    (0 < l.length → ∃ b o, A = some ⟨b, o, none⟩ ∧ F b ∧
      ∀ i x, l[i]? = some x → ∃ cs', cs'.length = size ∧ R w F x cs' ∧ ∀ j u, cs'[j]? = some u → w.cell? ⟨b, o + i * size + j, none⟩ = some u)

/-- What a relation must bear: it stands where the blocks that it lies in are kept. -/
def Rel.Stays {α : Type} (R : Rel α) : Prop := ∀ (w w' : World) (F F' : Nat → Prop) (x : α) (cs : List Value),
  (∀ b, F b → b < w.heap.size → w'.heap[b]? = w.heap[b]?) → (∀ b, F b → b < w.heap.size → F' b) → R w F x cs → R w' F' x cs

theorem lt_of_cell {w : World} {b o : Nat} {u : Value} (h : w.cell? ⟨b, o, none⟩ = some u) : b < w.heap.size := by
  rcases Nat.lt_or_ge b w.heap.size with hlt | hge
  · exact hlt
  · simp [World.cell?, Array.getElem?_eq_none hge] at h

theorem cell_kept {w w' : World} {b o : Nat} {u : Value} (hk : b < w.heap.size → w'.heap[b]? = w.heap[b]?) (h : w.cell? ⟨b, o, none⟩ = some u) : w'.cell? ⟨b, o, none⟩ = some u :=
  (World.cell?_of_block (w := w) (w' := w') (a := ⟨b, o, none⟩) (hk (lt_of_cell h))).trans h

theorem rInt_stays (k : IntKind) : (rInt k).Stays := fun _ _ _ _ _ _ _ _ h => h
theorem rBool_stays : rBool.Stays := fun _ _ _ _ _ _ _ _ h => h
theorem rSlice_stays {α : Type} {size : Nat} {R : Rel α} (hs : 0 < size) (hR : R.Stays) : (rSlice size R).Stays := by
  intro w w' F F' l cs hk hF ⟨A, c, h1, h2, h3, h4⟩
  refine ⟨A, c, h1, h2, h3, fun hn => ?_⟩
  obtain ⟨b, o, hA, hFb, hc⟩ := h4 hn
  have hb : b < w.heap.size := by
    obtain ⟨cs', hl, _, hcell⟩ := hc 0 l[0] (List.getElem?_eq_getElem hn)
    exact lt_of_cell (hcell 0 cs'[0] (List.getElem?_eq_getElem (by omega)))
  refine ⟨b, o, hA, hF b hFb hb, fun i x hx => ?_⟩
  obtain ⟨cs', hl, hr, hcell⟩ := hc i x hx
  exact ⟨cs', hl, hR w w' F F' x cs' hk hF hr, fun j u hu => cell_kept (hk b hFb) (hcell j u hu)⟩

/-- the slice value itself -/
def Sl {α : Type} (size : Nat) (R : Rel α) (w : World) (F : Nat → Prop) (v : Value) (l : List α) : Prop := rSlice size R w F l [v]

section
variable {α : Type} {size : Nat} {R : Rel α} {w w' : World} {F F' : Nat → Prop} {v : Value} {l : List α}
theorem Sl.form (h : Sl size R w F v l) : ∃ A c, v = .slice A l.length c ∧ l.length ≤ c ∧ c ≤ maxLen := by
  obtain ⟨A, c, h1, h2, h3, _⟩ := h
  exact ⟨A, c, by simpa using h1, h2, h3⟩
theorem Sl.at_ {A : Option Addr} {n c : Nat} (h : Sl size R w F (.slice A n c) l) {i : Nat} (hi : i < l.length) :
    ∃ b o cs, A = some ⟨b, o, none⟩ ∧ F b ∧ cs.length = size ∧ R w F l[i] cs ∧ ∀ j u, cs[j]? = some u → w.cell? ⟨b, o + i * size + j, none⟩ = some u := by
  obtain ⟨A', c', h1, h2, h3, h4⟩ := h
  obtain ⟨b, o, hA, hF, hc⟩ := h4 (by omega)
  have e : A = A' := by injection h1 with h1; injection h1
  obtain ⟨cs', hl, hr, hcell⟩ := hc i l[i] (List.getElem?_eq_getElem hi)
  exact ⟨b, o, cs', e.trans hA, hF, hl, hr, hcell⟩
theorem Sl.stays (hs : 0 < size) (hR : R.Stays) (h : Sl size R w F v l) (hk : ∀ b, F b → b < w.heap.size → w'.heap[b]? = w.heap[b]?) (hF : ∀ b, F b → b < w.heap.size → F' b) : Sl size R w' F' v l :=
  rSlice_stays hs hR w w' F F' l [v] hk hF h
theorem Sl.below {B : Nat} (hs : 0 < size) (hR : R.Stays) (h : Sl size R w (· < B) v l) (hb : Below B w w') : Sl size R w' (· < B) v l :=
  h.stays hs hR (fun b hb' _ => hb.block b hb') (fun _ h _ => h)
theorem Sl.nil : Sl size R w F (.slice none 0 0) ([] : List α) := ⟨none, 0, rfl, by simp, by simp [maxLen], fun h => absurd h (by simp)⟩
theorem Sl.empty (A : Option Addr) (c : Nat) (hc : c ≤ maxLen) : Sl size R w F (.slice A 0 c) ([] : List α) := ⟨A, c, rfl, by simp, hc, fun h => absurd h (by simp)⟩
theorem Sl.len {A : Option Addr} {n c : Nat} (h : Sl size R w F (.slice A n c) l) : n = l.length ∧ n ≤ c ∧ c ≤ maxLen := by
  obtain ⟨A', c', h1, h2, h3⟩ := h.form
  injection h1 with e1 e2 e3
  subst e2 e3
  exact ⟨rfl, h2, h3⟩
end

theorem Rel.up {α : Type} {R : Rel α} {w W : World} {x : α} {cs : List Value} (hR : R.Stays) (h : R w (· < w.heap.size) x cs) (hb : Below w.heap.size w W) : R W (· < W.heap.size) x cs :=
  hR w W _ _ x cs (fun b hlt _ => hb.block b hlt) (fun b _ hlt => by have := hb.size; omega) h
theorem Sl.up {α : Type} {size : Nat} {R : Rel α} {w W : World} {v : Value} {l : List α} (hs : 0 < size) (hR : R.Stays) (h : Sl size R w (· < w.heap.size) v l) (hb : Below w.heap.size w W) : Sl size R W (· < W.heap.size) v l :=
  Rel.up (rSlice_stays hs hR) h hb
section
variable {a w : World} {row : Option Nat}
end

def Blk (w : World) (g : Nat) (t : TypeId) (cs : List Value) : Prop := w.heap[g]? = some (.cells cs.toArray t (0, 0))
section
variable {w w' : World} {g : Nat} {t : TypeId} {cs : List Value}
theorem Blk.lt (h : Blk w g t cs) : g < w.heap.size := by
  rcases Nat.lt_or_ge g w.heap.size with hlt | hge
  · exact hlt
  · unfold Blk at h; rw [Array.getElem?_eq_none hge] at h; cases h
theorem Blk.cell (h : Blk w g t cs) {i : Nat} {u : Value} (hi : cs[i]? = some u) : w.cell? ⟨g, i, none⟩ = some u := by
  unfold Blk at h
  simp [World.cell?, h, hi]
theorem Blk.free (h : Blk w g t cs) (i : Nat) : w.frozen? ⟨g, i, none⟩ = false := by
  unfold Blk at h
  simp [World.frozen?, h]
theorem Blk.new (w : World) (t : TypeId) (cs : List Value) {g : Nat} (hg : w.heap.size = g) : Blk (w.alloc (.cells cs.toArray t)) g t cs := by
  subst hg
  exact heap_alloc_new w _
theorem Blk.alloc (h : Blk w g t cs) (o : Obj) : Blk (w.alloc o) g t cs := (Below.heap_alloc w o g h.lt).trans h
theorem Blk.below {B : Nat} (h : Blk w g t cs) (hb : Below B w w') (hg : g < B) : Blk w' g t cs := (hb.block g hg).trans h
theorem Blk.keep (h : Blk w g t cs) (hb : Below w.heap.size w w') : Blk w' g t cs := h.below hb h.lt
theorem Blk.only {g' : Nat} (h : Blk w g t cs) (hb : w.grownBy w' (some g')) (hg : g ≠ g') : Blk w' g t cs := (hb.block g h.lt (fun e => hg (by injection e))).trans h
end

section
variable {H : Type} {enc : TypeId × Value → H} {P : Program} {w : World} {base : Nat} {spare : Nat → Bool} {held : Bool}
/-- every reading of type t is one of R -/
def Opens (H : Type) (enc : TypeId × Value → H) (P : Program) (w : World) (base : Nat) (spare : Nat → Bool) (held : Bool) {α : Type} (t : TypeId) (R : Rel α) : Prop :=
  ∀ (fuel : Nat) (cs : List Value) (x : DataW H × List MemPlace), DataW.trod enc P w base spare held fuel t cs = some x → ∃ d, R w (· < w.heap.size) d cs
theorem opens_int {t : TypeId} {k : IntKind} (ht : P.underlying t = some (.int k)) : Opens H enc P w base spare held t (rInt k) := fun _ _ _ h => by
  obtain ⟨n, h1, _, h3⟩ := DataW.trod_int ht h
  exact ⟨n, h1, h3⟩
theorem opens_slice {α : Type} {t e : TypeId} {size : Nat} {R : Rel α} (ht : P.underlying t = some (.slice e)) (hc : P.cellsOf e = size) (hs : 0 < size) (he : Opens H enc P w base spare held e R) :
    Opens H enc P w base spare held t (rSlice size R) := fun fuel cs x h => by
  rcases Deep.open_slice ht h with ⟨rfl, _⟩ | ⟨a, len, cap, m, n, D, Pl, rfl, hb, hl, hm, hmm, hx, hi⟩
  · exact ⟨[], Sl.nil⟩
  rw [hc] at hi
  have hlm : len ≤ m := by rw [hmm]; split <;> omega
  have hall : ∀ i, i < len → ∃ d cs', R w (· < w.heap.size) d cs' ∧ cs'.length = size ∧ ∀ j u, cs'[j]? = some u → w.cell? (a.add (i * size + j)) = some u := by
    intro i hil
    obtain ⟨cs', h1, h2⟩ := hi i (by omega)
    obtain ⟨d, hd⟩ := he _ _ _ h2
    obtain ⟨_, hcl, hat⟩ := World.cells?_some h1
    refine ⟨d, cs', hd, hcl, fun j u hu => ?_⟩
    have hj : j < size := by rw [← hcl]; exact (List.getElem?_eq_some_iff.1 hu).1
    rw [← Deep.add_add, hat j hj, hu]
  have : ∃ l : List α, l.length = len ∧ ∀ i x, l[i]? = some x → ∃ cs', R w (· < w.heap.size) x cs' ∧ cs'.length = size ∧ ∀ j u, cs'[j]? = some u → w.cell? (a.add (i * size + j)) = some u := by
    clear hx hmm hlm hi hl h
    induction len with
    | zero => exact ⟨[], rfl, fun i x h => by simp at h⟩
    | succ k ih =>
      obtain ⟨l, hl, hl2⟩ := ih (fun i hi => hall i (by omega))
      obtain ⟨d, cs', h1, h2⟩ := hall k (by omega)
      refine ⟨l ++ [d], by simp [hl], fun i x hx => ?_⟩
      rcases Nat.lt_or_ge i l.length with h | h
      · rw [List.getElem?_append_left h] at hx
        exact hl2 i x hx
      · rw [List.getElem?_append_right h] at hx
        have hi0 : i - l.length = 0 := by
          rcases Nat.eq_zero_or_pos (i - l.length) with h0 | h0
          · exact h0
          · rw [List.getElem?_eq_none (by simp only [List.length_singleton]; omega)] at hx
            cases hx
        rw [hi0] at hx
        simp at hx
        subst hx
        obtain rfl : i = k := by omega
        exact ⟨cs', h1, h2⟩
  obtain ⟨l, hll, hel⟩ := this
  subst hll
  refine ⟨l, some a, cap, rfl, hl, hm, fun hn => ?_⟩
  have hsp : a = ⟨a.block, a.off, none⟩ := by
    obtain ⟨cs', _, h2, h3⟩ := hel 0 l[0] (List.getElem?_eq_getElem hn)
    have hc0 := h3 0 cs'[0] (List.getElem?_eq_getElem (by omega))
    rw [show 0 * size + 0 = 0 from by omega, Addr.add_zero'] at hc0
    unfold World.cell? at hc0
    cases hsp : a.spot with
    | none => cases a; simp_all
    | some s => split at hc0 <;> simp [hsp] at hc0
  have hblk : a.block < w.heap.size := by
    obtain ⟨cs', _, h2, h3⟩ := hel 0 l[0] (List.getElem?_eq_getElem hn)
    have hc0 := h3 0 cs'[0] (List.getElem?_eq_getElem (by omega))
    rw [show 0 * size + 0 = 0 from by omega, Addr.add_zero', hsp] at hc0
    exact lt_of_cell hc0
  refine ⟨a.block, a.off, by rw [← hsp], hblk, fun i x hx => ?_⟩
  obtain ⟨cs', h1, h2, h3⟩ := hel i x hx
  refine ⟨cs', h2, h1, fun j u hu => ?_⟩
  have := h3 j u hu
  rw [hsp, Addr.add_lit] at this
  rw [Nat.add_assoc]
  exact this
/-- A struct, field by field: what its fields' cells read as. -/
theorem opens_fields {t : TypeId} {fs : Array Field} {fuel : Nat} {cs : List Value} {x : DataW H × List MemPlace} (ht : P.underlying t = some (.struct fs))
    (h : DataW.trod enc P w base spare held fuel t cs = some x) : cs.length = P.cellsOf t ∧ ∀ (i : Nat) (ty off n : Nat) (cs' : List Value), (fs[i]?).map (fun f => (f.type, f.offset)) = some (ty, off) → P.cellsOf ty = n → (cs.drop off).take n = cs' →
      ∃ m y, DataW.trod enc P w base spare held m ty cs' = some y := by
  obtain ⟨xs, n, _, _, hl, hxl, hf⟩ := DataW.trod_struct ht h
  refine ⟨hl, fun i ty off k cs' hi hk hcs => ?_⟩
  cases hfi : fs[i]? with
  | none => rw [hfi] at hi; cases hi
  | some f =>
    rw [hfi] at hi
    simp only [Option.map_some, Option.some.injEq, Prod.mk.injEq] at hi
    obtain ⟨rfl, rfl⟩ := hi
    refine ⟨n, xs[i]'(by have := (Array.getElem?_eq_some_iff.1 hfi).1; omega), ?_⟩
    have := hf i f hfi
    rw [hk, hcs] at this
    rw [this]
    exact List.getElem?_eq_getElem _
end

section
variable {H : Type} {enc : TypeId × Value → H} {P : Program}
theorem trodAll_below (hl : laidOutB P = true) {W W' : World} (hb : Below W.heap.size W W') {sp : Nat → Bool} : ∀ (ts : List TypeId) (vs : List Value) (ds : List (DataW H)) (ps : List MemPlace),
    (∀ t ∈ ts, P.readableRec t = true ∧ t < P.types.size) → DataW.TrodAll enc P W 0 (fun _ => true) true ts vs ds ps → (∀ x ∈ ps, x.block < W.heap.size) → (∀ x ∈ ps, sp x.block = true) → DataW.TrodAll enc P W' 0 sp true ts vs ds ps
  | [], vs, ds, ps, _, h, _, _ => by
    obtain ⟨rfl, rfl, rfl⟩ := trodAll_nil h
    exact trodAll_mk0
  | t :: ts, vs, ds, ps, hr, h, hlt, hsp => by
    obtain ⟨v, vs', d, ds', p, q, rfl, rfl, rfl, h0, h1⟩ := trodAll_cons h
    refine trodAll_cons_mk ?_ (trodAll_below hl hb ts vs' ds' q (fun t ht => hr t (List.mem_cons_of_mem _ ht)) h1 (fun x hx => hlt x (List.mem_append_right _ hx)) (fun x hx => hsp x (List.mem_append_right _ hx)))
    exact WideElems.Trod_stays hl (hr t List.mem_cons_self).1 (hr t List.mem_cons_self).2 h0 (fun x hx => hb.same (hlt x (List.mem_append_left _ hx))) (fun x hx => hsp x (List.mem_append_left _ hx))

theorem law_post {f : Func} {s : ChangeSpec} {apart fresh handsOn again : Bool} {W W' : World} {args : Array Value} {ds gs : List (DataW H)} {before : List MemPlace} {tb : TypeId}
    (hl : laidOutB P = true) (hr : ∀ t ∈ f.params.toList, P.readableRec t = true ∧ t < P.types.size) (hvars : s.vars = []) (hrt : f.resultTypes = #[tb]) (htb : P.underlying tb = some .bool)
    (hW : DataW.Whole enc P f.params.toList s.vars apart W args.toList ds gs before)
    (hsr : (s.fn H (ds ++ gs)).results = [.lit (.bool true)]) (hsa : (s.fn H (ds ++ gs)).args = ds) (hsv : (s.fn H (ds ++ gs)).vars = []) (hb : Below W.heap.size W W') :
    s.post enc P f apart fresh handsOn again W args (.bool true) W' := by
  have hlt : ∀ p ∈ before, p.block < W.heap.size := fun p hp => hW.lt p hp
  have hold : ∀ p ∈ before, (fun b => decide (b < W.heap.size)) p.block = true := fun p hp => by simpa using hlt p hp
  obtain ⟨pa, pv, hA, hV, rfl, hz, hn⟩ := hW
  have hW : DataW.Whole enc P f.params.toList s.vars apart W args.toList ds gs (pa ++ pv) := ⟨pa, pv, hA, hV, rfl, hz, hn⟩
  rw [hvars] at hV
  obtain ⟨rfl, rfl⟩ := trodVars_none hV
  have hargs : ∀ sp : Nat → Bool, (∀ p ∈ pa, sp p.block = true) → DataW.TrodAll enc P W' 0 sp true f.params.toList args.toList (s.fn H (ds ++ [])).args pa := fun sp hsp => by
    rw [hsa]
    exact trodAll_below hl hb _ _ _ _ hr hA (fun x hx => hlt x (by simpa using hx)) hsp
  have hres : ∀ (b : Nat) (sp : Nat → Bool) (hd : Bool), DataW.TrodAll enc P W' b sp hd f.resultTypes.toList ((Value.bool true).resultList f.resultTypes.size) (s.fn H (ds ++ [])).results [] := fun b sp hd => by
    rw [hsr, hrt]
    exact trodAll_cons_mk (shut_bool htb _) trodAll_mk0
  have hvs : ∀ sp : Nat → Bool, DataW.TrodVars enc P W' sp s.vars (s.fn H (ds ++ [])).vars [] := fun sp => by
    rw [hvars, hsv]; rfl
  refine ⟨ds, [], pa ++ [], [], pa, [], hW, hres _ _ _, hargs _ (fun p hp => hold p (by simpa using hp)), hvs _, World.keptBut_mono (fun p hp => ⟨hp, ?_⟩) (hb.frame (· ∈ pa ++ [])), fun _ => ?_⟩
  · rw [List.mem_append] at hp
    exact Or.inr hp
  · refine ⟨?_, _, _, ([] ++ pa) ++ [], ⟨[] ++ pa, [], trodAll_append (hargs _ (fun _ _ => rfl)) (hres _ _ _), hvs _, rfl, ?_, ?_⟩, ?_⟩
    · intro j t r hj hr'
      rw [hrt] at hj hr'
      match j with
      | 0 =>
        simp at hj
        subst hj
        have : r = .bool true := by simpa [Value.resultList] using hr'.symm
        subst this
        exact okWide_bool_mk htb _
      | j + 1 => simp at hj
    · intro b off hp
      have hin : MemPlace.cell b off ∈ pa ++ [] := by simpa using hp
      rw [hb.frozen (hlt _ hin)]
      exact hz b off hin
    · intro ha
      have := hn ha
      simpa using this
    · intro p hp _
      simpa using hp
end
end Go.Proofs.Ytadjimfkfmojkaa

end
section
namespace Go.Proofs.Ytadjimfkfmojkaa
open Go.ChangeShapes Go.WideShapes Go.ChangeAt Go.RowKit

/-- What is known of a slice type t with elements e: their zero, their cells, their bytes. -/
structure Elem (P : Program) (t e : TypeId) (z : Value) (size bytes : Nat) : Prop where
  ht : P.underlying t = some (.slice e)
  hi : ∃ i, P.info? e = some i ∧ i.zero = some z ∧ i.size = size ∧ i.bytes = bytes
  hz : z.cells.size = size
  hs : 0 < size
theorem elem_mk {P : Program} {t e : TypeId} {z : Value} {size bytes : Nat} (ht : P.underlying t = some (.slice e)) (hi : (P.info? e).map (fun i => (i.zero, i.size, i.bytes)) = some (some z, size, bytes))
    (hz : z.cells.size = size) (hs : 0 < size) : Elem P t e z size bytes :=
  ⟨ht, by obtain ⟨i, h1, h2, h3, h4⟩ := info_parts hi; exact ⟨i, h1, h2, h3, h4⟩, hz, hs⟩

/-- The cells of a slice that may be nil, as one row. -/
def Flat (w : World) (size : Nat) (A : Option Addr) (n : Nat) (xs : List Value) : Prop :=
  xs.length = n * size ∧ (0 < n → ∃ b o, A = some ⟨b, o, none⟩ ∧ ∀ j u, xs[j]? = some u → w.cell? ⟨b, o + j, none⟩ = some u)

theorem run_append_nil_src {P : Program} (w : World) (base : Nat) (t ty e : TypeId) (i : TypeInfo) (size : Nat) (ht : P.underlying t = some (.slice e)) (hi : P.info? e = some i)
    (v : Value) (n : Nat) (xs : List Value) (hown : w.ownsRow base e size v n xs) (c : Nat) : (Builtin.append_ #[t, t] ty #[v, .slice none 0 c]).run P w = .ok v w := by
  rcases hown.2 with ⟨rfl, rfl⟩ | ⟨g, cap, cur, rfl, _, _, hnc, _⟩
  · simp [Builtin.append_, run_underlying ht, sizeOf, typeInfo, hi, Builtin.lenOf, Builtin.firstCells]
  · simp [Builtin.append_, run_underlying ht, sizeOf, typeInfo, hi, Builtin.lenOf, Builtin.firstCells, hnc, storeCells]

section
variable {P : Program} {w : World} {t e : TypeId} {z : Value} {size bytes : Nat}
theorem run_app (E : Elem P t e z size bytes) (ty : TypeId) (base : Nat) (v : Value) (n : Nat) (xs : List Value) (hown : w.ownsRow base e size v n xs)
    (A : Option Addr) (m c : Nat) (news : List Value) (hf : Flat w size A m news) (h1 : ∀ u ∈ news, u.oneCell' = true)
    (h63 : n + m ≤ maxLen) (hbytes : (n + m) * bytes ≤ 140737488355328) (hbase : base ≤ w.heap.size) :
    ∃ v' w', (Builtin.append_ #[t, t] ty #[v, .slice A m c]).run P w = .ok v' w' ∧ w'.ownsRow base e size v' (n + m) (xs ++ news) ∧ w.grownBy w' v.ownBlock := by
  obtain ⟨i, hi, hz0, hsz, hby⟩ := E.hi
  rcases A with _ | ad
  · have hm : m = 0 := by
      rcases Nat.eq_zero_or_pos m with h0 | h0
      · exact h0
      · obtain ⟨b, o, h, _⟩ := hf.2 h0
        cases h
    subst hm
    have hn : news = [] := List.eq_nil_of_length_eq_zero (by simpa using hf.1)
    subst hn
    exact ⟨v, w, run_append_nil_src w base t ty e i size E.ht hi v n xs hown c, by simpa using hown, World.grownBy.refl w _⟩
  · have hcells : ∀ j u, news[j]? = some u → w.cell? (ad.add j) = some u := by
      intro j u hu
      rcases Nat.eq_zero_or_pos m with h0 | h0
      · subst h0
        have hn : news = [] := List.eq_nil_of_length_eq_zero (by simpa using hf.1)
        subst hn
        simp at hu
      · obtain ⟨b, o, h, hc⟩ := hf.2 h0
        injection h with h
        subst h
        rw [Addr.add_lit]
        exact hc j u hu
    obtain ⟨v', w', hrun, h2, h3, _⟩ := run_append_own (P := P) w base t ty e i z size bytes E.ht hi hz0 hsz hby E.hz E.hs v n xs hown ad m c news hf.1 hcells h1 h63 hbytes hbase
    exact ⟨v', w', hrun, h2, h3⟩

theorem wp_app {o : Oper} {a : Act} {K : Act → World → Prop} {Q : Exit → Act → World → Prop} (s x : Operand)
    (ho : o.op = .call { callee := .builtin .append, args := #[s, x], argTypes := #[t, t] }) (E : Elem P t e z size bytes) (base : Nat)
    (v : Value) (n : Nat) (xs : List Value) (hs : a.eval s = v) (hown : w.ownsRow base e size v n xs)
    (A : Option Addr) (m c : Nat) (news : List Value) (hx : a.eval x = .slice A m c) (hf : Flat w size A m news) (h1 : ∀ u ∈ news, u.oneCell' = true)
    (h63 : n + m ≤ maxLen) (hbytes : (n + m) * bytes ≤ 140737488355328) (hbase : base ≤ w.heap.size)
    (h : ∀ v' w', w'.ownsRow base e size v' (n + m) (xs ++ news) → w.grownBy w' v.ownBlock → K (a.put o.dst v') w') : o.wp P a w K Q := by
  obtain ⟨v', w', hrun, h2, h3⟩ := run_app E o.type base v n xs hown A m c news hf h1 h63 hbytes hbase
  unfold Oper.wp execOp
  simp only [ho, resolve, invoke, builtin, Sem.run_bind, Sem.run_pure, Result.andThen_ok, List.map_toArray, List.map_cons, List.map_nil, hs, hx, hrun]
  exact h v' w' h2 h3

theorem wpList_app {ops : Array Oper} {rest : List Oper} {o : Oper} {a : Act} {Q : Exit → Act → World → Prop} (hgd : o.guard = none) (s x : Operand)
    (ho : o.op = .call { callee := .builtin .append, args := #[s, x], argTypes := #[t, t] }) (E : Elem P t e z size bytes) (base : Nat)
    (v : Value) (n : Nat) (xs : List Value) (hs : a.eval s = v) (hown : w.ownsRow base e size v n xs)
    (A : Option Addr) (m c : Nat) (news : List Value) (hx : a.eval x = .slice A m c) (hf : Flat w size A m news) (h1 : ∀ u ∈ news, u.oneCell' = true)
    (h63 : n + m ≤ maxLen) (hbytes : (n + m) * bytes ≤ 140737488355328) (hbase : base ≤ w.heap.size)
    (h : ∀ v' w', w'.ownsRow base e size v' (n + m) (xs ++ news) → w.grownBy w' v.ownBlock → wpList P ops Q rest (a.put o.dst v') w') : wpList P ops Q (o :: rest) a w :=
  wpList_plain hgd fun _ hK => wp_app s x ho E base v n xs hs hown A m c news hx hf h1 h63 hbytes hbase fun v' w' h2 h3 => hK _ _ (h v' w' h2 h3)

end

theorem own_from {w : World} {base : Nat} {e : TypeId} {size n : Nat} {v : Value} {xs : List Value} (h : w.ownsRow base e size v n xs) : ∀ k, v.ownBlock = some k → base ≤ k := fun k hk => (h.lt k hk).1

theorem Flat.kept {w w' : World} {size n : Nat} {A : Option Addr} {xs : List Value} (h : Flat w size A n xs) (hb : Below w.heap.size w w') : Flat w' size A n xs := by
  refine ⟨h.1, fun hn => ?_⟩
  obtain ⟨b, o, hA, hc⟩ := h.2 hn
  exact ⟨b, o, hA, fun j u hu => cell_kept (fun hlt => hb.block b hlt) (hc j u hu)⟩

/-- the cells of one element out of a row -/
def cellsAt (size : Nat) (xs : List Value) (i : Nat) : List Value := (xs.drop (i * size)).take size

/-- A fresh block of one element, read as a list. -/
theorem Sl.one {α : Type} {size : Nat} {R : Rel α} {w : World} {F : Nat → Prop} {b : Nat} {e : TypeId} {cs : List Value} {x : α} (hb : w.heap.size = b) (hl : cs.length = size) (hF : F b)
    (hR : R (w.alloc (.cells cs.toArray e)) F x cs) : Sl size R (w.alloc (.cells cs.toArray e)) F (.slice (some ⟨b, 0, none⟩) 1 1) [x] := by
  subst hb
  refine ⟨_, 1, rfl, by simp, by simp [maxLen], fun _ => ⟨_, 0, rfl, hF, fun i y hy => ?_⟩⟩
  match i with
  | 0 =>
    simp at hy
    subst hy
    refine ⟨cs, hl, hR, fun j u hu => ?_⟩
    rw [cell_of_row _ _ _ cs.toArray e (0, 0) (heap_alloc_new w _)]
    simpa using hu
  | i + 1 => simp at hy

/-- A list that is read gives its cells as one row. -/
theorem Sl.flat {α : Type} {size : Nat} {R : Rel α} {w : World} {F : Nat → Prop} {A : Option Addr} {n c : Nat} {l : List α} (h : Sl size R w F (.slice A n c) l) :
    ∃ xs, Flat w size A n xs ∧ ∀ i x, l[i]? = some x → R w F x (cellsAt size xs i) ∧ (cellsAt size xs i).length = size := by
  obtain ⟨A', c', h1, h2, h3, h4⟩ := h
  injection h1 with h1 _
  injection h1 with e1 e2 e3
  subst e1 e2 e3
  rcases Nat.eq_zero_or_pos l.length with h0 | h0
  · refine ⟨[], ⟨by simp [h0], fun h => by omega⟩, fun i x hx => ?_⟩
    rw [List.eq_nil_of_length_eq_zero h0] at hx
    simp at hx
  obtain ⟨b, o, rfl, hF, hc⟩ := h4 h0
  have key : ∀ m, m ≤ l.length → ∃ xs : List Value, xs.length = m * size ∧ (∀ j u, xs[j]? = some u → w.cell? ⟨b, o + j, none⟩ = some u) ∧
      ∀ i x, i < m → l[i]? = some x → R w F x (cellsAt size xs i) ∧ (cellsAt size xs i).length = size := by
    intro m
    induction m with
    | zero => exact fun _ => ⟨[], by simp, fun j u hu => by simp at hu, fun i x hi => by omega⟩
    | succ m ih =>
      intro hm
      obtain ⟨xs, hl, hcell, hr⟩ := ih (by omega)
      obtain ⟨cs, hcl, hR, hcc⟩ := hc m l[m] (List.getElem?_eq_getElem (by omega))
      refine ⟨xs ++ cs, by rw [List.length_append, hl, hcl, Nat.succ_mul], fun j u hu => ?_, fun i x hi hx => ?_⟩
      · rcases Nat.lt_or_ge j xs.length with hj | hj
        · rw [List.getElem?_append_left hj] at hu
          exact hcell j u hu
        · rw [List.getElem?_append_right hj] at hu
          have := hcc _ u hu
          rw [show o + m * size + (j - xs.length) = o + j from by omega] at this
          exact this
      · have hile : i ≤ m := by omega
        rcases Nat.lt_or_ge i m with him | him
        · have e : cellsAt size (xs ++ cs) i = cellsAt size xs i := by
            have hmul : i * size + size ≤ m * size := by rw [← Nat.succ_mul]; exact Nat.mul_le_mul_right _ him
            unfold cellsAt
            rw [List.drop_append_of_le_length (by omega), List.take_append_of_le_length (by rw [List.length_drop]; omega)]
          rw [e]
          exact hr i x him hx
        · obtain rfl : i = m := by omega
          have e : cellsAt size (xs ++ cs) i = cs := by
            unfold cellsAt
            rw [← hl, List.drop_left, ← hcl, List.take_length]
          rw [List.getElem?_eq_getElem (by omega)] at hx
          injection hx with hx
          subst hx
          rw [e]
          exact ⟨hR, hcl⟩
  obtain ⟨xs, h1, h2, h3⟩ := key l.length (Nat.le_refl _)
  exact ⟨xs, ⟨h1, fun _ => ⟨b, o, rfl, h2⟩⟩, fun i x hx => h3 i x (List.getElem?_eq_some_iff.1 hx).1 hx⟩
end Go.Proofs.Ytadjimfkfmojkaa

end
section
namespace Go.Proofs.Ytadjimfkfmojkaa
open Go.ChangeShapes Go.WideShapes Go.ChangeAt Go.RowKit
abbrev Ints := Sl (α := Int) 1 (rInt .i64)
theorem int_at {A : Option Addr} {n c : Nat} {l : List Int} {w : World} {F : Nat → Prop} (h : Ints w F (.slice A n c) l) {k : Nat} (hk : k < n) :
    ∃ b o x, A = some ⟨b, o, none⟩ ∧ F b ∧ b < w.heap.size ∧ l[k]? = some x ∧ w.cell? ⟨b, o + k, none⟩ = some (.int .i64 x) := by
  have hl := h.len
  obtain ⟨b, o, cs, hA, hb, _, hR, hc⟩ := h.at_ (i := k) (by omega)
  obtain ⟨rfl, _⟩ := hR
  have := hc 0 _ rfl
  rw [Nat.mul_one, Nat.add_zero] at this
  exact ⟨b, o, l[k], hA, hb, lt_of_cell this, List.getElem?_eq_getElem _, this⟩
/-- The numbers fit their kind. -/
def Fit (l : List Int) : Prop := ∀ x ∈ l, (Lit.int .i64 x).wf = true
theorem Ints.fit {A : Option Addr} {n c : Nat} {l : List Int} {w : World} {F : Nat → Prop} (h : Ints w F (.slice A n c) l) : Fit l := by
  intro x hx
  obtain ⟨i, hi, rfl⟩ := List.getElem_of_mem hx
  obtain ⟨b, o, cs, hA, hb, _, hR, hc⟩ := h.at_ hi
  exact hR.2
theorem Ints.flat {A : Option Addr} {n c : Nat} {l : List Int} {w : World} {F : Nat → Prop} (h : Ints w F (.slice A n c) l) : Flat w 1 A n (l.map (Value.int .i64)) := by
  have hl := h.len
  refine ⟨by simp [hl.1], fun hn => ?_⟩
  obtain ⟨b, o, x, hA, _⟩ := int_at h hn
  refine ⟨b, o, hA, fun j u hu => ?_⟩
  have hj : j < n := by have := (List.getElem?_eq_some_iff.1 hu).1; simp at this; omega
  obtain ⟨b', o', y, hA', _, _, hy, hc⟩ := int_at h hj
  rw [hA] at hA'
  obtain ⟨rfl, rfl⟩ : b = b' ∧ o = o' := by simpa using hA'
  rw [List.getElem?_map, hy] at hu
  injection hu with hu
  rw [← hu]
  exact hc
end Go.Proofs.Ytadjimfkfmojkaa

end
section
namespace Go.Proofs.Ytadjimfkfmojkaa
open Go.ChangeShapes Go.WideShapes Go.ChangeAt Go.RowKit
set_option linter.unusedVariables false
/-- What the layer reads of a world: how many cells, futures and threads there are, which locks are rwlocks, the conditions' mutexes. -/
structure WD where
  nc : Nat
  rw : List Bool
  mx : List Int
  nf : Nat
  nt : Nat
structure LockD where
  owner : Int
  readers : List Int
structure ThrD where
  status : Int
  cond : Int
  atomic : Bool
structure SyncD where
  locks : List LockD
  tx : Int
  done : List Bool
  threads : List ThrD
def rLk : Rel Bool := fun _ _ b cs => ∃ s, cs = [.string s, .bool b]
def rCd : Rel Int := fun _ _ m cs => ∃ s, cs = [.string s, .int .i64 m] ∧ (Lit.int .i64 m).wf = true
def rLock : Rel LockD := fun w F l cs => ∃ A n c, cs = [.int .i64 l.owner, .slice A n c] ∧ (Lit.int .i64 l.owner).wf = true ∧ Ints w F (.slice A n c) l.readers
def rThr : Rel ThrD := fun _ _ t cs => cs = [.int .i64 t.status, .int .i64 t.cond, .bool t.atomic] ∧ (Lit.int .i64 t.status).wf = true ∧ (Lit.int .i64 t.cond).wf = true
theorem rLk_stays : rLk.Stays := fun _ _ _ _ _ _ _ _ h => h
theorem rCd_stays : rCd.Stays := fun _ _ _ _ _ _ _ _ h => h
theorem rThr_stays : rThr.Stays := fun _ _ _ _ _ _ _ _ h => h
theorem rLock_stays : rLock.Stays := fun w w' F F' l cs hk hF ⟨A, n, c, h1, h2, h3⟩ => ⟨A, n, c, h1, h2, h3.stays (by decide) (rInt_stays _) hk hF⟩
/-- The slices of a world's value. -/
structure WV where
  cA : Option Addr
  nc : Nat
  cc : Nat
  lA : Option Addr
  nl : Nat
  lc : Nat
  dA : Option Addr
  nd : Nat
  dc : Nat
  fA : Option Addr
  nf : Nat
  fc : Nat
  tA : Option Addr
  nt : Nat
  tc : Nat
  sA : Option Addr
  ns : Nat
  sc : Nat
structure WOk (w : World) (F : Nat → Prop) (v : WV) (d : WD) : Prop where
  nc : v.nc = d.nc ∧ v.nc ≤ maxLen
  nf : v.nf = d.nf ∧ v.nf ≤ maxLen
  nt : v.nt = d.nt ∧ v.nt ≤ maxLen
  locks : Sl 2 rLk w F (.slice v.lA v.nl v.lc) d.rw
  conds : Sl 2 rCd w F (.slice v.dA v.nd v.dc) d.mx
structure SV where
  kA : Option Addr
  nk : Nat
  kc : Nat
  tx : Int
  eA : Option Addr
  ne : Nat
  ec : Nat
  hA : Option Addr
  nh : Nat
  hc : Nat
structure SOk (w : World) (F : Nat → Prop) (v : SV) (d : SyncD) : Prop where
  locks : Sl 2 rLock w F (.slice v.kA v.nk v.kc) d.locks
  done : Sl 1 rBool w F (.slice v.eA v.ne v.ec) d.done
  threads : Sl 3 rThr w F (.slice v.hA v.nh v.hc) d.threads
  tx : v.tx = d.tx
  wf : (Lit.int .i64 d.tx).wf = true
abbrev WV.val (v : WV) : Value := .agg #[.slice v.cA v.nc v.cc, .slice v.lA v.nl v.lc, .slice v.dA v.nd v.dc, .slice v.fA v.nf v.fc, .slice v.tA v.nt v.tc, .slice v.sA v.ns v.sc]
abbrev SV.val (v : SV) : Value := .agg #[.slice v.kA v.nk v.kc, .int .i64 v.tx, .slice v.eA v.ne v.ec, .slice v.hA v.nh v.hc]
theorem WOk.stays {w w' : World} {F F' : Nat → Prop} {v : WV} {d : WD} (h : WOk w F v d) (hk : ∀ b, F b → b < w.heap.size → w'.heap[b]? = w.heap[b]?) (hF : ∀ b, F b → b < w.heap.size → F' b) : WOk w' F' v d :=
  ⟨h.nc, h.nf, h.nt, h.locks.stays (by decide) rLk_stays hk hF, h.conds.stays (by decide) rCd_stays hk hF⟩
theorem SOk.stays {w w' : World} {F F' : Nat → Prop} {v : SV} {d : SyncD} (h : SOk w F v d) (hk : ∀ b, F b → b < w.heap.size → w'.heap[b]? = w.heap[b]?) (hF : ∀ b, F b → b < w.heap.size → F' b) : SOk w' F' v d :=
  ⟨h.locks.stays (by decide) rLock_stays hk hF, h.done.stays (by decide) rBool_stays hk hF, h.threads.stays (by decide) rThr_stays hk hF, h.tx, h.wf⟩
theorem WOk.up {w w' : World} {v : WV} {d : WD} (h : WOk w (· < w.heap.size) v d) (hb : Below w.heap.size w w') : WOk w' (· < w'.heap.size) v d :=
  h.stays (fun b hlt _ => hb.block b hlt) (fun b _ hlt => by have := hb.size; omega)
theorem SOk.up {w w' : World} {v : SV} {d : SyncD} (h : SOk w (· < w.heap.size) v d) (hb : Below w.heap.size w w') : SOk w' (· < w'.heap.size) v d :=
  h.stays (fun b hlt _ => hb.block b hlt) (fun b _ hlt => by have := hb.size; omega)

def inB (i : Int) (n : Nat) : Bool := decide (0 ≤ i) && decide (i < n)
def fitsS (d : WD) (s : SyncD) : Bool := s.locks.length == d.rw.length && (s.done.length == d.nf) && (s.threads.length == d.nt) && d.mx.all (fun m => inB m d.rw.length)
def rwAt (d : WD) (i : Int) : Bool := d.rw.getD i.toNat false
def allowedS (d : WD) (kind obj : Int) : Bool :=
  if kind = 1 ∨ kind = 2 ∨ kind = 5 ∨ kind = 12 ∨ kind = 13 ∨ kind = 14 ∨ kind = 15 then obj == -1
  else if kind = 3 ∨ kind = 4 then inB obj d.nc
  else if kind = 6 ∨ kind = 7 then inB obj d.rw.length && !rwAt d obj
  else if kind = 8 ∨ kind = 9 ∨ kind = 10 ∨ kind = 11 then inB obj d.rw.length && rwAt d obj
  else if kind = 16 ∨ kind = 17 ∨ kind = 18 ∨ kind = 19 then inB obj d.mx.length
  else if kind = 20 ∨ kind = 21 then inB obj d.nt
  else if kind = 22 ∨ kind = 23 then inB obj d.nf
  else false
end Go.Proofs.Ytadjimfkfmojkaa

end
section
namespace Go.Proofs.Ytadjimfkfmojkaa
open Go.ChangeShapes Go.WideShapes Go.ChangeAt Go.RowKit
set_option linter.unusedVariables false
theorem elemI : Elem Try.prog 22 3 (.int .i64 0) 1 8 := elem_mk Try.underlying22 (by kernel_rfl) rfl (by decide)
set_option maxHeartbeats 1000000 in
set_option maxRecDepth 100000 in
theorem cloneI_any (A : Option Addr) (n c : Nat) (xs : List Value) (w : World) (hf : Flat w 1 A n xs) (h1 : ∀ x ∈ xs, x.oneCell' = true) (hn : n * 8 ≤ 140737488355328) (hA : A = none → n = 0) :
    Calls Try.prog 68 #[.slice A n c] w fun e w' => ∃ v, e = .returned v ∧ w'.ownsRow w.heap.size 3 1 v n xs ∧ Below w.heap.size w w' := by
  have HF := Lib.hid hf
  have H1 := Lib.hid h1
  clear hf h1
  have heq := fun (W : World) (a : Option Addr) (l c : Nat) => Lib.run_eql_slice_nil (P := Try.prog) W 22 3 a l c 0 0 Try.underlying22
  cases A with
  | none =>
    obtain rfl : n = 0 := hA rfl
    have hx : xs = [] := List.eq_nil_of_length_eq_zero (by have := HF.out.1; simpa using this)
    have Hx := Lib.hid hx
    clear hx HF H1
    go_enter Try.func68, Try.ntmps68
    go_wp2_with fail
    go_ret
    exact ⟨_, rfl, by rw [Hx.out]; exact World.ownsRow_nil _ _ _ _, Below.refl _ _⟩
  | some a =>
    clear hA
    have M0 : Hid ((w.alloc (.cells #[] 3)).ownsRow w.heap.size 3 1 (.slice (some ⟨w.heap.size, 0, none⟩) 0 0) 0 []) := Lib.hid (World.ownsRow_made w #[] 0 (Nat.le_refl _) (by simp [maxLen]) (by simp))
    go_enter Try.func68, Try.ntmps68
    go_wp2_with (at_builtin; go_must (refine wpList_app rfl (.tmp 5) (.tmp 6) rfl elemI w.heap.size _ 0 [] rfl M0.out (some a) n c xs rfl (HF.out.kept ((Below.refl _ _).alloc (Nat.le_refl _) _)) H1.out (by simp only [maxLen]; omega) (by omega) (by simp) ?_); intro v1 w1 hown1 hg1)
    have hb1 := ((Below.refl w.heap.size w).alloc (Nat.le_refl _) _).grown hg1 (by simp) (own_from M0.out)
    go_wp2_with fail
    go_ret
    exact ⟨_, rfl, by simpa using hown1, hb1⟩
theorem elemB : Elem Try.prog 49 4 (.bool false) 1 1 := elem_mk Try.underlying49 (by kernel_rfl) rfl (by decide)
set_option maxHeartbeats 1000000 in
set_option maxRecDepth 100000 in
theorem cloneB_any (A : Option Addr) (n c : Nat) (xs : List Value) (w : World) (hf : Flat w 1 A n xs) (h1 : ∀ x ∈ xs, x.oneCell' = true) (hn : n * 1 ≤ 140737488355328) (hA : A = none → n = 0) :
    Calls Try.prog 76 #[.slice A n c] w fun e w' => ∃ v, e = .returned v ∧ w'.ownsRow w.heap.size 4 1 v n xs ∧ Below w.heap.size w w' := by
  have HF := Lib.hid hf
  have H1 := Lib.hid h1
  clear hf h1
  have heq := fun (W : World) (a : Option Addr) (l c : Nat) => Lib.run_eql_slice_nil (P := Try.prog) W 49 4 a l c 0 0 Try.underlying49
  cases A with
  | none =>
    obtain rfl : n = 0 := hA rfl
    have hx : xs = [] := List.eq_nil_of_length_eq_zero (by have := HF.out.1; simpa using this)
    have Hx := Lib.hid hx
    clear hx HF H1
    go_enter Try.func76, Try.ntmps76
    go_wp2_with fail
    go_ret
    exact ⟨_, rfl, by rw [Hx.out]; exact World.ownsRow_nil _ _ _ _, Below.refl _ _⟩
  | some a =>
    clear hA
    have M0 : Hid ((w.alloc (.cells #[] 4)).ownsRow w.heap.size 4 1 (.slice (some ⟨w.heap.size, 0, none⟩) 0 0) 0 []) := Lib.hid (World.ownsRow_made w #[] 0 (Nat.le_refl _) (by simp [maxLen]) (by simp))
    go_enter Try.func76, Try.ntmps76
    go_wp2_with (at_builtin; go_must (refine wpList_app rfl (.tmp 5) (.tmp 6) rfl elemB w.heap.size _ 0 [] rfl M0.out (some a) n c xs rfl (HF.out.kept ((Below.refl _ _).alloc (Nat.le_refl _) _)) H1.out (by simp only [maxLen]; omega) (by omega) (by simp) ?_); intro v1 w1 hown1 hg1)
    have hb1 := ((Below.refl w.heap.size w).alloc (Nat.le_refl _) _).grown hg1 (by simp) (own_from M0.out)
    go_wp2_with fail
    go_ret
    exact ⟨_, rfl, by simpa using hown1, hb1⟩
theorem elemT : Elem Try.prog 50 66 (.agg #[.int .i64 0, .int .i64 0, .bool false]) 3 24 := elem_mk Try.underlying50 (by kernel_rfl) rfl (by decide)
set_option maxHeartbeats 1000000 in
set_option maxRecDepth 100000 in
theorem cloneT_any (A : Option Addr) (n c : Nat) (xs : List Value) (w : World) (hf : Flat w 3 A n xs) (h1 : ∀ x ∈ xs, x.oneCell' = true) (hn : n * 24 ≤ 140737488355328) (hA : A = none → n = 0) :
    Calls Try.prog 77 #[.slice A n c] w fun e w' => ∃ v, e = .returned v ∧ w'.ownsRow w.heap.size 66 3 v n xs ∧ Below w.heap.size w w' := by
  have HF := Lib.hid hf
  have H1 := Lib.hid h1
  clear hf h1
  have heq := fun (W : World) (a : Option Addr) (l c : Nat) => Lib.run_eql_slice_nil (P := Try.prog) W 50 66 a l c 0 0 Try.underlying50
  cases A with
  | none =>
    obtain rfl : n = 0 := hA rfl
    have hx : xs = [] := List.eq_nil_of_length_eq_zero (by have := HF.out.1; simpa using this)
    have Hx := Lib.hid hx
    clear hx HF H1
    go_enter Try.func77, Try.ntmps77
    go_wp2_with fail
    go_ret
    exact ⟨_, rfl, by rw [Hx.out]; exact World.ownsRow_nil _ _ _ _, Below.refl _ _⟩
  | some a =>
    clear hA
    have M0 : Hid ((w.alloc (.cells #[] 66)).ownsRow w.heap.size 66 3 (.slice (some ⟨w.heap.size, 0, none⟩) 0 0) 0 []) := Lib.hid (World.ownsRow_made w #[] 0 (Nat.le_refl _) (by simp [maxLen]) (by simp))
    go_enter Try.func77, Try.ntmps77
    go_wp2_with (at_builtin; go_must (refine wpList_app rfl (.tmp 5) (.tmp 6) rfl elemT w.heap.size _ 0 [] rfl M0.out (some a) n c xs rfl (HF.out.kept ((Below.refl _ _).alloc (Nat.le_refl _) _)) H1.out (by simp only [maxLen]; omega) (by omega) (by simp) ?_); intro v1 w1 hown1 hg1)
    have hb1 := ((Below.refl w.heap.size w).alloc (Nat.le_refl _) _).grown hg1 (by simp) (own_from M0.out)
    go_wp2_with fail
    go_ret
    exact ⟨_, rfl, by simpa using hown1, hb1⟩
end Go.Proofs.Ytadjimfkfmojkaa

end
