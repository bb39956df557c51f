/- What the bodies of these functions demand, printed by a program of mine (Gen) from the seat's program; each is checked by the kernel against the body. -/
import Derived.Test.YtadjimfkfmojkaaSlh
namespace Go.Proofs.Ytadjimfkfmojkaa.Am
set_option linter.unusedVariables false
set_option maxRecDepth 100000
/- interleave/object.Start -/
def object_Start_t : Hints := ⟨fun k => none, fun k => if k = 3 then [2, 3, 20, 21] else [], fun k => if k = 0 then [1] else if k = 1 then [3] else [], fun k => if k = 1 then [0, 1, 3, 7, 0, 16, 48, 112, 0, 256, 768, 1792, 4095, 0, 16383] else []⟩
def object_Start_l0 (Q : AV → SH → Prop) (vs_38 : List AV) (L_40 : SH) (nx_39 : W.Kn) : Prop :=
 W.bin Try.prog Fl .lss 3 (slotOf [2, 3, 20, 21] vs_38 21) (slotOf [2, 3, 20, 21] vs_38 20) fun t22_41 =>
 W.cond t22_41 (
 W.faddr 0 (slotOf [2, 3, 20, 21] vs_38 3) fun t24_42 =>
 W.load false 1 t24_42 L_40 fun t25_43 =>
 W.idx 2 t25_43 (slotOf [2, 3, 20, 21] vs_38 21) L_40 fun t27_44 =>
 W.faddr 0 t27_44 fun t28_45 =>
 W.store 1 t28_45 (.int .i64 (-1)) L_40 fun L_46 =>
 W.bin Try.prog Fl .add 3 (slotOf [2, 3, 20, 21] vs_38 21) (.int .i64 1) fun t29_47 =>
 nx_39 [(slotOf [2, 3, 20, 21] vs_38 2), (slotOf [2, 3, 20, 21] vs_38 3), (slotOf [2, 3, 20, 21] vs_38 20), t29_47] L_46) (
 W.faddr 3 (slotOf [2, 3, 20, 21] vs_38 3) fun t30_48 =>
 W.load false 1 t30_48 L_40 fun t31_49 =>
 W.len t31_49 fun t32_50 =>
 W.bin Try.prog Fl .gtr 3 t32_50 (.int .i64 0) fun t33_51 =>
 W.cond t33_51 (
 W.faddr 3 (slotOf [2, 3, 20, 21] vs_38 3) fun t34_52 =>
 W.load false 1 t34_52 L_40 fun t35_53 =>
 W.idx 3 t35_53 (.int .i64 0) L_40 fun t36_54 =>
 W.faddr 0 t36_54 fun t37_55 =>
 W.store 1 t37_55 (.int .i64 1) L_40 fun L_56 =>
 W.load true 4 (slotOf [2, 3, 20, 21] vs_38 3) L_56 fun t38_57 =>
 W.store 4 (slotOf [2, 3, 20, 21] vs_38 2) t38_57 L_56 fun L_58 =>
 W.load true 4 (slotOf [2, 3, 20, 21] vs_38 2) L_58 fun r_59 =>
 Q r_59 L_58) (
 W.load true 4 (slotOf [2, 3, 20, 21] vs_38 3) L_40 fun t38_60 =>
 W.store 4 (slotOf [2, 3, 20, 21] vs_38 2) t38_60 L_40 fun L_61 =>
 W.load true 4 (slotOf [2, 3, 20, 21] vs_38 2) L_61 fun r_62 =>
 Q r_62 L_61))
def object_Start_w (t0 : AV) (L : SH) (Q : AV → SH → Prop) : Prop :=
 W.box t0 L fun t1_0 L_1 =>
 W.alloc [.nils, (.int .i64 0), .nils, .nils] L_1 fun t2_2 L_3 =>
 W.frz1 t1_0 L_3 fun t1_4 L_5 =>
 (true = true) ∧ (
 W.faddr 1 t1_4 fun t5_6 =>
 W.calm [] ⟨1, (blocksOf t5_6), [], [], false, []⟩ (
 W.load false 1 t5_6 L_5 fun t6_7 =>
 W.note ⟨(blocksOf t5_6), [], [], []⟩ fun r_8 =>
 W.len t6_7 fun t7_9 =>
 W.calm [] ⟨3, [], [], [], false, []⟩ (
 W.mslice 2 32 [(.int .i64 0), .nils] t7_9 t7_9 L_5 fun t8_10 L_11 =>
 W.note ⟨[], [], (blocksOf t8_10), []⟩ fun r_12 =>
 W.faddr 3 t1_4 fun t9_13 =>
 W.calm [⟨3, r_12.reads, r_12.writes, r_12.made, false, r_12.old⟩, ⟨1, r_8.reads, r_8.writes, r_8.made, false, r_8.old⟩] ⟨5, (blocksOf t9_13), [], [], false, []⟩ (
 W.load false 1 t9_13 L_11 fun t10_14 =>
 W.note ⟨(blocksOf t9_13), [], [], []⟩ fun r_15 =>
 W.len t10_14 fun t11_16 =>
 W.calm [⟨3, r_12.reads, r_12.writes, r_12.made, false, r_12.old⟩, ⟨1, r_8.reads, r_8.writes, r_8.made, false, r_8.old⟩] ⟨7, [], [], [], false, []⟩ (
 W.mslice 1 1 [(.bool false)] t11_16 t11_16 L_11 fun t12_17 L_18 =>
 W.note ⟨[], [], (blocksOf t12_17), []⟩ fun r_19 =>
 W.faddr 4 t1_4 fun t13_20 =>
 W.calm [⟨7, r_19.reads, r_19.writes, r_19.made, false, r_19.old⟩, ⟨5, r_15.reads, r_15.writes, r_15.made, false, r_15.old⟩, ⟨3, r_12.reads, r_12.writes, r_12.made, false, r_12.old⟩, ⟨1, r_8.reads, r_8.writes, r_8.made, false, r_8.old⟩] ⟨9, (blocksOf t13_20), [], [], false, []⟩ (
 W.load false 1 t13_20 L_18 fun t14_21 =>
 W.note ⟨(blocksOf t13_20), [], [], []⟩ fun r_22 =>
 W.len t14_21 fun t15_23 =>
 W.calm [⟨7, r_19.reads, r_19.writes, r_19.made, false, r_19.old⟩, ⟨5, r_15.reads, r_15.writes, r_15.made, false, r_15.old⟩, ⟨3, r_12.reads, r_12.writes, r_12.made, false, r_12.old⟩, ⟨1, r_8.reads, r_8.writes, r_8.made, false, r_8.old⟩] ⟨11, [], [], [], false, []⟩ (
 W.mslice 3 24 [(.int .i64 0), (.int .i64 0), (.bool false)] t15_23 t15_23 L_18 fun t16_24 L_25 =>
 W.note ⟨[], [], (blocksOf t16_24), []⟩ fun r_26 =>
 W.build [.nils, (.int .i64 0), .nils, .nils] [(0, 1, t8_10), (1, 1, (.int .i64 (-1))), (2, 1, t12_17), (3, 1, t16_24)] fun t17_27 =>
 W.calm [⟨11, r_26.reads, r_26.writes, r_26.made, false, r_26.old⟩, ⟨9, r_22.reads, r_22.writes, r_22.made, false, r_22.old⟩, ⟨7, r_19.reads, r_19.writes, r_19.made, false, r_19.old⟩, ⟨5, r_15.reads, r_15.writes, r_15.made, false, r_15.old⟩, ⟨3, r_12.reads, r_12.writes, r_12.made, false, r_12.old⟩, ⟨1, r_8.reads, r_8.writes, r_8.made, false, r_8.old⟩] ⟨13, [], [], [], false, []⟩ (
 W.alloc [.nils, (.int .i64 0), .nils, .nils] L_25 fun t3_28 L_29 =>
 W.note ⟨[], [], (blocksOf t3_28), []⟩ fun r_30 =>
 W.calm [] ⟨14, (blocksOf t3_28), (blocksOf t3_28), [], false, []⟩ (
 W.store 4 t3_28 t17_27 L_29 fun L_31 =>
 W.note ⟨(blocksOf t3_28), (blocksOf t3_28), [], []⟩ fun r_32 =>
 W.frz1 t3_28 L_31 fun t3_33 L_34 =>
 W.faddr 0 t3_33 fun t18_35 =>
 W.load false 1 t18_35 L_34 fun t19_36 =>
 W.len t19_36 fun t20_37 =>
 W.loop (object_Start_l0 Q) [t2_2, t3_33, t20_37, (.int .i64 0)] L_34)))))))))
theorem object_Start_e (t0 : AV) (L : SH) (Q : AV → SH → Prop) : W.func Try.prog Fl object_Start_t Try.f21 (Try.f21.body.getD .skip) [t0] L Q = object_Start_w t0 L Q := by kernel_rfl
theorem object_Start_ok (t0 : AV) (L : SH) (Q : AV → SH → Prop) (h : object_Start_w t0 L Q) : CallA Try.prog 21 [t0] L Q :=
  func_sound (ht := object_Start_t) fit Try.func21 (show Try.f21.body = some (Try.f21.body.getD .skip) by kernel_rfl) (Eq.mpr (object_Start_e t0 L Q) h)

/- interleave/object.Apply -/
def object_Apply_t : Hints := ⟨fun k => if k = 43 then some [7, 12, 15] else if k = 11 then some [4, 5, 6, 7, 8, 12, 15, 27, 42] else if k = 14 then some [4, 5, 6, 7, 8, 12, 15, 27, 51] else none, fun k => [], fun k => if k = 0 then [6] else [], fun k => if k = 17 then [0, 1, 0, 7, 15, 31, 0, 64, 255, 511] else if k = 19 then [0, 1, 0, 0, 8, 31, 63, 127] else if k = 21 then [0, 1, 0, 0, 8, 0, 56, 120, 248, 0, 1016, 2047, 4095, 8191] else if k = 31 then [0, 1, 0, 4, 0, 28, 60, 124, 255, 511, 1023] else if k = 32 then [0, 1, 0, 0, 8, 0, 0, 7, 135, 391, 1023, 2047, 4095] else if k = 34 then [0, 1, 0, 4, 0, 28, 60, 124, 0, 511, 1023, 2047] else if k = 35 then [0, 1, 0, 0, 8, 0, 7, 71, 199, 511, 1023, 2047] else []⟩
def object_Apply_j0 (Q : AV → SH → Prop) (vs_23 : List AV) (L_25 : SH) : Prop :=
 W.load true 4 (slotOf [7, 12, 15] vs_23 7) L_25 fun t185_26 =>
 W.store 4 (slotOf [7, 12, 15] vs_23 12) t185_26 L_25 fun L_27 =>
 W.load true 4 (slotOf [7, 12, 15] vs_23 12) L_27 fun r_28 =>
 Q (.tup [r_28, (slotOf [7, 12, 15] vs_23 15), (.bool true)]) L_27
def object_Apply_d1 (L_78 : SH) (t73_80 : AV) (vs_52 : List AV) (j_24 : W.Kn) (t76_82 : AV) (L_84 : SH) (ks_83 : List Nat) : Prop :=
 W.note ⟨[], ks_83, [], L_78.names⟩ fun r_85 =>
 W.calm [] ⟨5, (slOf t73_80), [], [], false, []⟩ (
 W.idx 2 t73_80 (slotOf [4, 5, 6, 7, 8, 12, 15, 27, 51] vs_52 4) L_84 fun t77_86 =>
 W.note ⟨(slOf t73_80), [], [], []⟩ fun r_87 =>
 W.faddr 1 t77_86 fun t78_88 =>
 W.calm [] ⟨7, (blocksOf t78_88), (blocksOf t78_88), [], false, []⟩ (
 W.store 1 t78_88 t76_82 L_84 fun L_89 =>
 W.note ⟨(blocksOf t78_88), (blocksOf t78_88), [], []⟩ fun r_90 =>
 j_24 [(slotOf [4, 5, 6, 7, 8, 12, 15, 27, 51] vs_52 7), (slotOf [4, 5, 6, 7, 8, 12, 15, 27, 51] vs_52 12), (slotOf [4, 5, 6, 7, 8, 12, 15, 27, 51] vs_52 15)] L_89))
def object_Apply_c2 (vs_52 : List AV) (t69_74 : AV) (j_24 : W.Kn) (t71_77 : AV) (L_78 : SH) : Prop :=
 (true = true) ∧ (
 W.faddr 0 (slotOf [4, 5, 6, 7, 8, 12, 15, 27, 51] vs_52 7) fun t72_79 =>
 W.calm [] ⟨1, (blocksOf t72_79), [], [], false, []⟩ (
 W.load false 1 t72_79 L_78 fun t73_80 =>
 W.note ⟨(blocksOf t72_79), [], [], []⟩ fun r_81 =>
 W.dcall Try.prog [⟨1, r_81.reads, r_81.writes, r_81.made, false, r_81.old⟩] 4 (.fn 41 []) [t69_74] L_78 (object_Apply_d1 L_78 t73_80 vs_52 j_24)))
def object_Apply_d3 (L_54 : SH) (t82_93 : AV) (vs_52 : List AV) (j_24 : W.Kn) (t91_103 : AV) (L_105 : SH) (ks_104 : List Nat) : Prop :=
 W.note ⟨[], ks_104, [], L_54.names⟩ fun r_106 =>
 W.calm [] ⟨11, (slOf t82_93), [], [], false, []⟩ (
 W.idx 2 t82_93 (slotOf [4, 5, 6, 7, 8, 12, 15, 27, 51] vs_52 4) L_105 fun t92_107 =>
 W.note ⟨(slOf t82_93), [], [], []⟩ fun r_108 =>
 W.faddr 1 t92_107 fun t93_109 =>
 W.calm [] ⟨13, (blocksOf t93_109), (blocksOf t93_109), [], false, []⟩ (
 W.store 1 t93_109 t91_103 L_105 fun L_110 =>
 W.note ⟨(blocksOf t93_109), (blocksOf t93_109), [], []⟩ fun r_111 =>
 j_24 [(slotOf [4, 5, 6, 7, 8, 12, 15, 27, 51] vs_52 7), (slotOf [4, 5, 6, 7, 8, 12, 15, 27, 51] vs_52 12), (slotOf [4, 5, 6, 7, 8, 12, 15, 27, 51] vs_52 15)] L_110))
def object_Apply_c4 (j_24 : W.Kn) (vs_52 : List AV) (t166_211 : AV) (L_212 : SH) : Prop :=
 j_24 [(slotOf [4, 5, 6, 7, 8, 12, 15, 27, 51] vs_52 7), (slotOf [4, 5, 6, 7, 8, 12, 15, 27, 51] vs_52 12), t166_211] L_212
def object_Apply_c5 (j_24 : W.Kn) (vs_52 : List AV) (t171_215 : AV) (L_216 : SH) : Prop :=
 j_24 [(slotOf [4, 5, 6, 7, 8, 12, 15, 27, 51] vs_52 7), (slotOf [4, 5, 6, 7, 8, 12, 15, 27, 51] vs_52 12), t171_215] L_216
def object_Apply_j6 (j_24 : W.Kn) (vs_52 : List AV) (L_54 : SH) : Prop :=
 W.cond (slotOf [4, 5, 6, 7, 8, 12, 15, 27, 51] vs_52 51) (
 W.faddr 0 (slotOf [4, 5, 6, 7, 8, 12, 15, 27, 51] vs_52 7) fun t54_55 =>
 W.load false 1 t54_55 L_54 fun t55_56 =>
 W.idx 2 t55_56 (slotOf [4, 5, 6, 7, 8, 12, 15, 27, 51] vs_52 4) L_54 fun t57_57 =>
 W.faddr 0 t57_57 fun t58_58 =>
 W.store 1 t58_58 (.int .i64 (-1)) L_54 fun L_59 =>
 j_24 [(slotOf [4, 5, 6, 7, 8, 12, 15, 27, 51] vs_52 7), (slotOf [4, 5, 6, 7, 8, 12, 15, 27, 51] vs_52 12), (slotOf [4, 5, 6, 7, 8, 12, 15, 27, 51] vs_52 15)] L_59) (
 W.bin Try.prog Fl .eql 3 (slotOf [4, 5, 6, 7, 8, 12, 15, 27, 51] vs_52 27) (.int .i64 8) fun t60_60 =>
 W.cond t60_60 (
 (true = true) ∧ (
 W.faddr 0 (slotOf [4, 5, 6, 7, 8, 12, 15, 27, 51] vs_52 7) fun t61_61 =>
 W.calm [] ⟨1, (blocksOf t61_61), [], [], false, []⟩ (
 W.load false 1 t61_61 L_54 fun t62_62 =>
 W.note ⟨(blocksOf t61_61), [], [], []⟩ fun r_63 =>
 W.calm [] ⟨3, (slOf t62_62), [], [], false, []⟩ (
 W.idx 2 t62_62 (slotOf [4, 5, 6, 7, 8, 12, 15, 27, 51] vs_52 4) L_54 fun t64_64 =>
 W.note ⟨(slOf t62_62), [], [], []⟩ fun r_65 =>
 W.faddr 1 t64_64 fun t65_66 =>
 W.calm [] ⟨5, (blocksOf t65_66), [], [], false, []⟩ (
 W.load false 1 t65_66 L_54 fun t66_67 =>
 W.note ⟨(blocksOf t65_66), [], [], []⟩ fun r_68 =>
 W.calm [⟨5, r_68.reads, r_68.writes, r_68.made, false, r_68.old⟩, ⟨3, r_65.reads, r_65.writes, r_65.made, false, r_65.old⟩, ⟨1, r_63.reads, r_63.writes, r_63.made, false, r_63.old⟩] ⟨6, (blocksOf (slotOf [4, 5, 6, 7, 8, 12, 15, 27, 51] vs_52 8)), [], [], false, []⟩ (
 W.load false 1 (slotOf [4, 5, 6, 7, 8, 12, 15, 27, 51] vs_52 8) L_54 fun t67_69 =>
 W.note ⟨(blocksOf (slotOf [4, 5, 6, 7, 8, 12, 15, 27, 51] vs_52 8)), [], [], []⟩ fun r_70 =>
 W.calm [⟨5, r_68.reads, r_68.writes, r_68.made, false, r_68.old⟩, ⟨3, r_65.reads, r_65.writes, r_65.made, false, r_65.old⟩, ⟨1, r_63.reads, r_63.writes, r_63.made, false, r_63.old⟩] ⟨7, [], [], [], false, []⟩ (
 W.bslice 1 [(.int .i64 0)] 1 [(0, t67_69)] L_54 fun t68_71 L_72 =>
 W.note ⟨[], [], (blocksOf t68_71), []⟩ fun r_73 =>
 W.calm [] ⟨8, (blocksOf t66_67 ++ blocksOf t68_71), (blocksOf t66_67), [], false, []⟩ (
 W.append 1 8 t66_67 t68_71 L_72 fun t69_74 L_75 =>
 W.note ⟨(blocksOf t66_67 ++ blocksOf t68_71), (blocksOf t66_67), (blocksOf t69_74), []⟩ fun r_76 =>
 W.call Try.prog (.fn 40 []) [t69_74] L_75 (object_Apply_c2 vs_52 t69_74 j_24))))))))) (
 W.bin Try.prog Fl .eql 3 (slotOf [4, 5, 6, 7, 8, 12, 15, 27, 51] vs_52 27) (.int .i64 9) fun t80_91 =>
 W.cond t80_91 (
 (true = true) ∧ (
 W.faddr 0 (slotOf [4, 5, 6, 7, 8, 12, 15, 27, 51] vs_52 7) fun t81_92 =>
 W.calm [] ⟨1, (blocksOf t81_92), [], [], false, []⟩ (
 W.load false 1 t81_92 L_54 fun t82_93 =>
 W.note ⟨(blocksOf t81_92), [], [], []⟩ fun r_94 =>
 W.faddr 0 (slotOf [4, 5, 6, 7, 8, 12, 15, 27, 51] vs_52 7) fun t84_95 =>
 W.calm [⟨1, r_94.reads, r_94.writes, r_94.made, false, r_94.old⟩] ⟨4, (blocksOf t84_95), [], [], false, []⟩ (
 W.load false 1 t84_95 L_54 fun t85_96 =>
 W.note ⟨(blocksOf t84_95), [], [], []⟩ fun r_97 =>
 W.calm [⟨1, r_94.reads, r_94.writes, r_94.made, false, r_94.old⟩] ⟨6, (slOf t85_96), [], [], false, []⟩ (
 W.idx 2 t85_96 (slotOf [4, 5, 6, 7, 8, 12, 15, 27, 51] vs_52 4) L_54 fun t87_98 =>
 W.note ⟨(slOf t85_96), [], [], []⟩ fun r_99 =>
 W.faddr 1 t87_98 fun t88_100 =>
 W.calm [⟨1, r_94.reads, r_94.writes, r_94.made, false, r_94.old⟩] ⟨8, (blocksOf t88_100), [], [], false, []⟩ (
 W.load false 1 t88_100 L_54 fun t89_101 =>
 W.note ⟨(blocksOf t88_100), [], [], []⟩ fun r_102 =>
 W.dcall Try.prog [⟨1, r_94.reads, r_94.writes, r_94.made, false, r_94.old⟩] 10 (.fn 48 []) [t89_101, (.fn 49 [(slotOf [4, 5, 6, 7, 8, 12, 15, 27, 51] vs_52 8)])] L_54 (object_Apply_d3 L_54 t82_93 vs_52 j_24))))))) (
 W.bin Try.prog Fl .eql 3 (slotOf [4, 5, 6, 7, 8, 12, 15, 27, 51] vs_52 27) (.int .i64 12) fun t95_112 =>
 W.cond t95_112 (
 W.load false 1 (slotOf [4, 5, 6, 7, 8, 12, 15, 27, 51] vs_52 8) L_54 fun t96_113 =>
 W.faddr 1 (slotOf [4, 5, 6, 7, 8, 12, 15, 27, 51] vs_52 7) fun t97_114 =>
 W.store 1 t97_114 t96_113 L_54 fun L_115 =>
 j_24 [(slotOf [4, 5, 6, 7, 8, 12, 15, 27, 51] vs_52 7), (slotOf [4, 5, 6, 7, 8, 12, 15, 27, 51] vs_52 12), (slotOf [4, 5, 6, 7, 8, 12, 15, 27, 51] vs_52 15)] L_115) (
 W.bin Try.prog Fl .eql 3 (slotOf [4, 5, 6, 7, 8, 12, 15, 27, 51] vs_52 27) (.int .i64 13) fun t99_116 =>
 W.cond t99_116 (
 W.faddr 1 (slotOf [4, 5, 6, 7, 8, 12, 15, 27, 51] vs_52 7) fun t100_117 =>
 W.store 1 t100_117 (.int .i64 (-1)) L_54 fun L_118 =>
 j_24 [(slotOf [4, 5, 6, 7, 8, 12, 15, 27, 51] vs_52 7), (slotOf [4, 5, 6, 7, 8, 12, 15, 27, 51] vs_52 12), (slotOf [4, 5, 6, 7, 8, 12, 15, 27, 51] vs_52 15)] L_118) (
 W.bin Try.prog Fl .eql 3 (slotOf [4, 5, 6, 7, 8, 12, 15, 27, 51] vs_52 27) (.int .i64 14) fun t102_119 =>
 W.cond t102_119 (
 W.faddr 3 (slotOf [4, 5, 6, 7, 8, 12, 15, 27, 51] vs_52 7) fun t103_120 =>
 W.load false 1 t103_120 L_54 fun t104_121 =>
 W.load false 1 (slotOf [4, 5, 6, 7, 8, 12, 15, 27, 51] vs_52 8) L_54 fun t105_122 =>
 W.idx 3 t104_121 t105_122 L_54 fun t106_123 =>
 W.faddr 2 t106_123 fun t107_124 =>
 W.store 1 t107_124 (.bool true) L_54 fun L_125 =>
 j_24 [(slotOf [4, 5, 6, 7, 8, 12, 15, 27, 51] vs_52 7), (slotOf [4, 5, 6, 7, 8, 12, 15, 27, 51] vs_52 12), (slotOf [4, 5, 6, 7, 8, 12, 15, 27, 51] vs_52 15)] L_125) (
 W.bin Try.prog Fl .eql 3 (slotOf [4, 5, 6, 7, 8, 12, 15, 27, 51] vs_52 27) (.int .i64 15) fun t109_126 =>
 W.cond t109_126 (
 W.faddr 3 (slotOf [4, 5, 6, 7, 8, 12, 15, 27, 51] vs_52 7) fun t110_127 =>
 W.load false 1 t110_127 L_54 fun t111_128 =>
 W.load false 1 (slotOf [4, 5, 6, 7, 8, 12, 15, 27, 51] vs_52 8) L_54 fun t112_129 =>
 W.idx 3 t111_128 t112_129 L_54 fun t113_130 =>
 W.faddr 2 t113_130 fun t114_131 =>
 W.store 1 t114_131 (.bool false) L_54 fun L_132 =>
 j_24 [(slotOf [4, 5, 6, 7, 8, 12, 15, 27, 51] vs_52 7), (slotOf [4, 5, 6, 7, 8, 12, 15, 27, 51] vs_52 12), (slotOf [4, 5, 6, 7, 8, 12, 15, 27, 51] vs_52 15)] L_132) (
 W.bin Try.prog Fl .eql 3 (slotOf [4, 5, 6, 7, 8, 12, 15, 27, 51] vs_52 27) (.int .i64 16) fun t116_133 =>
 W.cond t116_133 (
 (true = true) ∧ (
 W.faddr 0 (slotOf [4, 5, 6, 7, 8, 12, 15, 27, 51] vs_52 7) fun t117_134 =>
 W.calm [] ⟨1, (blocksOf t117_134), [], [], false, []⟩ (
 W.load false 1 t117_134 L_54 fun t118_135 =>
 W.note ⟨(blocksOf t117_134), [], [], []⟩ fun r_136 =>
 W.faddr 2 (slotOf [4, 5, 6, 7, 8, 12, 15, 27, 51] vs_52 6) fun t119_137 =>
 W.calm [⟨1, r_136.reads, r_136.writes, r_136.made, false, r_136.old⟩] ⟨3, (blocksOf t119_137), [], [], false, []⟩ (
 W.load false 1 t119_137 L_54 fun t120_138 =>
 W.note ⟨(blocksOf t119_137), [], [], []⟩ fun r_139 =>
 W.calm [⟨1, r_136.reads, r_136.writes, r_136.made, false, r_136.old⟩] ⟨5, (slOf t120_138), [], [], false, []⟩ (
 W.idx 2 t120_138 (slotOf [4, 5, 6, 7, 8, 12, 15, 27, 51] vs_52 4) L_54 fun t122_140 =>
 W.note ⟨(slOf t120_138), [], [], []⟩ fun r_141 =>
 W.faddr 1 t122_140 fun t123_142 =>
 W.calm [⟨1, r_136.reads, r_136.writes, r_136.made, false, r_136.old⟩] ⟨7, (blocksOf t123_142), [], [], false, []⟩ (
 W.load false 1 t123_142 L_54 fun t124_143 =>
 W.note ⟨(blocksOf t123_142), [], [], []⟩ fun r_144 =>
 W.calm [] ⟨8, (slOf t118_135), [], [], false, []⟩ (
 W.idx 2 t118_135 t124_143 L_54 fun t125_145 =>
 W.note ⟨(slOf t118_135), [], [], []⟩ fun r_146 =>
 W.faddr 0 t125_145 fun t126_147 =>
 W.calm [] ⟨10, (blocksOf t126_147), (blocksOf t126_147), [], false, []⟩ (
 W.store 1 t126_147 (.int .i64 (-1)) L_54 fun L_148 =>
 W.note ⟨(blocksOf t126_147), (blocksOf t126_147), [], []⟩ fun r_149 =>
 (true = true) ∧ (
 W.faddr 3 (slotOf [4, 5, 6, 7, 8, 12, 15, 27, 51] vs_52 7) fun t127_150 =>
 W.calm [] ⟨1, (blocksOf t127_150), [], [], false, []⟩ (
 W.load false 1 t127_150 L_148 fun t128_151 =>
 W.note ⟨(blocksOf t127_150), [], [], []⟩ fun r_152 =>
 W.calm [⟨1, r_152.reads, r_152.writes, r_152.made, false, r_152.old⟩] ⟨2, (blocksOf (slotOf [4, 5, 6, 7, 8, 12, 15, 27, 51] vs_52 8)), [], [], false, []⟩ (
 W.load false 1 (slotOf [4, 5, 6, 7, 8, 12, 15, 27, 51] vs_52 8) L_148 fun t129_153 =>
 W.note ⟨(blocksOf (slotOf [4, 5, 6, 7, 8, 12, 15, 27, 51] vs_52 8)), [], [], []⟩ fun r_154 =>
 W.faddr 3 (slotOf [4, 5, 6, 7, 8, 12, 15, 27, 51] vs_52 7) fun t130_155 =>
 W.calm [⟨2, r_154.reads, r_154.writes, r_154.made, false, r_154.old⟩, ⟨1, r_152.reads, r_152.writes, r_152.made, false, r_152.old⟩] ⟨4, (blocksOf t130_155), [], [], false, []⟩ (
 W.load false 1 t130_155 L_148 fun t131_156 =>
 W.note ⟨(blocksOf t130_155), [], [], []⟩ fun r_157 =>
 W.calm [⟨4, r_157.reads, r_157.writes, r_157.made, false, r_157.old⟩, ⟨2, r_154.reads, r_154.writes, r_154.made, false, r_154.old⟩, ⟨1, r_152.reads, r_152.writes, r_152.made, false, r_152.old⟩] ⟨5, (blocksOf (slotOf [4, 5, 6, 7, 8, 12, 15, 27, 51] vs_52 8)), [], [], false, []⟩ (
 W.load false 1 (slotOf [4, 5, 6, 7, 8, 12, 15, 27, 51] vs_52 8) L_148 fun t132_158 =>
 W.note ⟨(blocksOf (slotOf [4, 5, 6, 7, 8, 12, 15, 27, 51] vs_52 8)), [], [], []⟩ fun r_159 =>
 W.calm [⟨5, r_159.reads, r_159.writes, r_159.made, false, r_159.old⟩, ⟨4, r_157.reads, r_157.writes, r_157.made, false, r_157.old⟩] ⟨7, (slOf t128_151), [], [], false, []⟩ (
 W.idx 3 t128_151 t129_153 L_148 fun t134_160 =>
 W.note ⟨(slOf t128_151), [], [], []⟩ fun r_161 =>
 W.faddr 0 t134_160 fun t135_162 =>
 W.calm [⟨5, r_159.reads, r_159.writes, r_159.made, false, r_159.old⟩, ⟨4, r_157.reads, r_157.writes, r_157.made, false, r_157.old⟩] ⟨9, (blocksOf t135_162), (blocksOf t135_162), [], false, []⟩ (
 W.store 1 t135_162 (.int .i64 3) L_148 fun L_163 =>
 W.note ⟨(blocksOf t135_162), (blocksOf t135_162), [], []⟩ fun r_164 =>
 W.calm [] ⟨10, (slOf t131_156), [], [], false, []⟩ (
 W.idx 3 t131_156 t132_158 L_163 fun t136_165 =>
 W.note ⟨(slOf t131_156), [], [], []⟩ fun r_166 =>
 W.faddr 1 t136_165 fun t137_167 =>
 W.calm [] ⟨12, (blocksOf t137_167), (blocksOf t137_167), [], false, []⟩ (
 W.store 1 t137_167 (slotOf [4, 5, 6, 7, 8, 12, 15, 27, 51] vs_52 4) L_163 fun L_168 =>
 W.note ⟨(blocksOf t137_167), (blocksOf t137_167), [], []⟩ fun r_169 =>
 j_24 [(slotOf [4, 5, 6, 7, 8, 12, 15, 27, 51] vs_52 7), (slotOf [4, 5, 6, 7, 8, 12, 15, 27, 51] vs_52 12), (slotOf [4, 5, 6, 7, 8, 12, 15, 27, 51] vs_52 15)] L_168))))))))))))))))) (
 W.bin Try.prog Fl .eql 3 (slotOf [4, 5, 6, 7, 8, 12, 15, 27, 51] vs_52 27) (.int .i64 17) fun t139_170 =>
 W.cond t139_170 (
 (true = true) ∧ (
 W.faddr 0 (slotOf [4, 5, 6, 7, 8, 12, 15, 27, 51] vs_52 7) fun t140_171 =>
 W.calm [] ⟨1, (blocksOf t140_171), [], [], false, []⟩ (
 W.load false 1 t140_171 L_54 fun t141_172 =>
 W.note ⟨(blocksOf t140_171), [], [], []⟩ fun r_173 =>
 W.faddr 2 (slotOf [4, 5, 6, 7, 8, 12, 15, 27, 51] vs_52 6) fun t142_174 =>
 W.calm [⟨1, r_173.reads, r_173.writes, r_173.made, false, r_173.old⟩] ⟨3, (blocksOf t142_174), [], [], false, []⟩ (
 W.load false 1 t142_174 L_54 fun t143_175 =>
 W.note ⟨(blocksOf t142_174), [], [], []⟩ fun r_176 =>
 W.calm [⟨1, r_173.reads, r_173.writes, r_173.made, false, r_173.old⟩] ⟨5, (slOf t143_175), [], [], false, []⟩ (
 W.idx 2 t143_175 (slotOf [4, 5, 6, 7, 8, 12, 15, 27, 51] vs_52 4) L_54 fun t145_177 =>
 W.note ⟨(slOf t143_175), [], [], []⟩ fun r_178 =>
 W.faddr 1 t145_177 fun t146_179 =>
 W.calm [⟨1, r_173.reads, r_173.writes, r_173.made, false, r_173.old⟩] ⟨7, (blocksOf t146_179), [], [], false, []⟩ (
 W.load false 1 t146_179 L_54 fun t147_180 =>
 W.note ⟨(blocksOf t146_179), [], [], []⟩ fun r_181 =>
 W.calm [⟨7, r_181.reads, r_181.writes, r_181.made, false, r_181.old⟩, ⟨5, r_178.reads, r_178.writes, r_178.made, false, r_178.old⟩, ⟨3, r_176.reads, r_176.writes, r_176.made, false, r_176.old⟩, ⟨1, r_173.reads, r_173.writes, r_173.made, false, r_173.old⟩] ⟨8, (blocksOf (slotOf [4, 5, 6, 7, 8, 12, 15, 27, 51] vs_52 8)), [], [], false, []⟩ (
 W.load false 1 (slotOf [4, 5, 6, 7, 8, 12, 15, 27, 51] vs_52 8) L_54 fun t148_182 =>
 W.note ⟨(blocksOf (slotOf [4, 5, 6, 7, 8, 12, 15, 27, 51] vs_52 8)), [], [], []⟩ fun r_183 =>
 W.calm [] ⟨9, (slOf t141_172), [], [], false, []⟩ (
 W.idx 2 t141_172 t147_180 L_54 fun t149_184 =>
 W.note ⟨(slOf t141_172), [], [], []⟩ fun r_185 =>
 W.faddr 0 t149_184 fun t150_186 =>
 W.calm [] ⟨11, (blocksOf t150_186), (blocksOf t150_186), [], false, []⟩ (
 W.store 1 t150_186 t148_182 L_54 fun L_187 =>
 W.note ⟨(blocksOf t150_186), (blocksOf t150_186), [], []⟩ fun r_188 =>
 (true = true) ∧ (
 W.faddr 3 (slotOf [4, 5, 6, 7, 8, 12, 15, 27, 51] vs_52 7) fun t151_189 =>
 W.calm [] ⟨1, (blocksOf t151_189), [], [], false, []⟩ (
 W.load false 1 t151_189 L_187 fun t152_190 =>
 W.note ⟨(blocksOf t151_189), [], [], []⟩ fun r_191 =>
 W.calm [⟨1, r_191.reads, r_191.writes, r_191.made, false, r_191.old⟩] ⟨2, (blocksOf (slotOf [4, 5, 6, 7, 8, 12, 15, 27, 51] vs_52 8)), [], [], false, []⟩ (
 W.load false 1 (slotOf [4, 5, 6, 7, 8, 12, 15, 27, 51] vs_52 8) L_187 fun t153_192 =>
 W.note ⟨(blocksOf (slotOf [4, 5, 6, 7, 8, 12, 15, 27, 51] vs_52 8)), [], [], []⟩ fun r_193 =>
 W.faddr 3 (slotOf [4, 5, 6, 7, 8, 12, 15, 27, 51] vs_52 7) fun t154_194 =>
 W.calm [⟨2, r_193.reads, r_193.writes, r_193.made, false, r_193.old⟩, ⟨1, r_191.reads, r_191.writes, r_191.made, false, r_191.old⟩] ⟨4, (blocksOf t154_194), [], [], false, []⟩ (
 W.load false 1 t154_194 L_187 fun t155_195 =>
 W.note ⟨(blocksOf t154_194), [], [], []⟩ fun r_196 =>
 W.calm [⟨4, r_196.reads, r_196.writes, r_196.made, false, r_196.old⟩, ⟨2, r_193.reads, r_193.writes, r_193.made, false, r_193.old⟩, ⟨1, r_191.reads, r_191.writes, r_191.made, false, r_191.old⟩] ⟨5, (blocksOf (slotOf [4, 5, 6, 7, 8, 12, 15, 27, 51] vs_52 8)), [], [], false, []⟩ (
 W.load false 1 (slotOf [4, 5, 6, 7, 8, 12, 15, 27, 51] vs_52 8) L_187 fun t156_197 =>
 W.note ⟨(blocksOf (slotOf [4, 5, 6, 7, 8, 12, 15, 27, 51] vs_52 8)), [], [], []⟩ fun r_198 =>
 W.calm [⟨5, r_198.reads, r_198.writes, r_198.made, false, r_198.old⟩, ⟨4, r_196.reads, r_196.writes, r_196.made, false, r_196.old⟩] ⟨6, (slOf t152_190), [], [], false, []⟩ (
 W.idx 3 t152_190 t153_192 L_187 fun t157_199 =>
 W.note ⟨(slOf t152_190), [], [], []⟩ fun r_200 =>
 W.faddr 0 t157_199 fun t158_201 =>
 W.calm [⟨5, r_198.reads, r_198.writes, r_198.made, false, r_198.old⟩, ⟨4, r_196.reads, r_196.writes, r_196.made, false, r_196.old⟩] ⟨8, (blocksOf t158_201), (blocksOf t158_201), [], false, []⟩ (
 W.store 1 t158_201 (.int .i64 2) L_187 fun L_202 =>
 W.note ⟨(blocksOf t158_201), (blocksOf t158_201), [], []⟩ fun r_203 =>
 W.calm [] ⟨9, (slOf t155_195), [], [], false, []⟩ (
 W.idx 3 t155_195 t156_197 L_202 fun t159_204 =>
 W.note ⟨(slOf t155_195), [], [], []⟩ fun r_205 =>
 W.faddr 1 t159_204 fun t160_206 =>
 W.calm [] ⟨11, (blocksOf t160_206), (blocksOf t160_206), [], false, []⟩ (
 W.store 1 t160_206 (.int .i64 0) L_202 fun L_207 =>
 W.note ⟨(blocksOf t160_206), (blocksOf t160_206), [], []⟩ fun r_208 =>
 j_24 [(slotOf [4, 5, 6, 7, 8, 12, 15, 27, 51] vs_52 7), (slotOf [4, 5, 6, 7, 8, 12, 15, 27, 51] vs_52 12), (slotOf [4, 5, 6, 7, 8, 12, 15, 27, 51] vs_52 15)] L_207)))))))))))))))))) (
 W.bin Try.prog Fl .eql 3 (slotOf [4, 5, 6, 7, 8, 12, 15, 27, 51] vs_52 27) (.int .i64 18) fun t162_209 =>
 W.cond t162_209 (
 W.load true 4 (slotOf [4, 5, 6, 7, 8, 12, 15, 27, 51] vs_52 7) L_54 fun t163_210 =>
 W.call Try.prog (.fn 50 []) [t163_210, (slotOf [4, 5, 6, 7, 8, 12, 15, 27, 51] vs_52 4), (slotOf [4, 5, 6, 7, 8, 12, 15, 27, 51] vs_52 5)] L_54 (object_Apply_c4 j_24 vs_52)) (
 W.bin Try.prog Fl .eql 3 (slotOf [4, 5, 6, 7, 8, 12, 15, 27, 51] vs_52 27) (.int .i64 19) fun t168_213 =>
 W.cond t168_213 (
 W.load true 4 (slotOf [4, 5, 6, 7, 8, 12, 15, 27, 51] vs_52 7) L_54 fun t169_214 =>
 W.call Try.prog (.fn 51 []) [t169_214, (slotOf [4, 5, 6, 7, 8, 12, 15, 27, 51] vs_52 4)] L_54 (object_Apply_c5 j_24 vs_52)) (
 W.bin Try.prog Fl .eql 3 (slotOf [4, 5, 6, 7, 8, 12, 15, 27, 51] vs_52 27) (.int .i64 20) fun t173_217 =>
 W.cond t173_217 (
 W.faddr 3 (slotOf [4, 5, 6, 7, 8, 12, 15, 27, 51] vs_52 7) fun t174_218 =>
 W.load false 1 t174_218 L_54 fun t175_219 =>
 W.idx 3 t175_219 (slotOf [4, 5, 6, 7, 8, 12, 15, 27, 51] vs_52 4) L_54 fun t177_220 =>
 W.faddr 0 t177_220 fun t178_221 =>
 W.store 1 t178_221 (.int .i64 1) L_54 fun L_222 =>
 j_24 [(slotOf [4, 5, 6, 7, 8, 12, 15, 27, 51] vs_52 7), (slotOf [4, 5, 6, 7, 8, 12, 15, 27, 51] vs_52 12), (slotOf [4, 5, 6, 7, 8, 12, 15, 27, 51] vs_52 15)] L_222) (
 W.bin Try.prog Fl .eql 3 (slotOf [4, 5, 6, 7, 8, 12, 15, 27, 51] vs_52 27) (.int .i64 22) fun t180_223 =>
 W.cond t180_223 (
 W.faddr 2 (slotOf [4, 5, 6, 7, 8, 12, 15, 27, 51] vs_52 7) fun t181_224 =>
 W.load false 1 t181_224 L_54 fun t182_225 =>
 W.idx 1 t182_225 (slotOf [4, 5, 6, 7, 8, 12, 15, 27, 51] vs_52 4) L_54 fun t184_226 =>
 W.store 1 t184_226 (.bool true) L_54 fun L_227 =>
 j_24 [(slotOf [4, 5, 6, 7, 8, 12, 15, 27, 51] vs_52 7), (slotOf [4, 5, 6, 7, 8, 12, 15, 27, 51] vs_52 12), (slotOf [4, 5, 6, 7, 8, 12, 15, 27, 51] vs_52 15)] L_227) (
 j_24 [(slotOf [4, 5, 6, 7, 8, 12, 15, 27, 51] vs_52 7), (slotOf [4, 5, 6, 7, 8, 12, 15, 27, 51] vs_52 12), (slotOf [4, 5, 6, 7, 8, 12, 15, 27, 51] vs_52 15)] L_54)))))))))))))
def object_Apply_j7 (j_24 : W.Kn) (vs_43 : List AV) (L_45 : SH) : Prop :=
 W.cond (slotOf [4, 5, 6, 7, 8, 12, 15, 27, 42] vs_43 42) (
 W.faddr 0 (slotOf [4, 5, 6, 7, 8, 12, 15, 27, 42] vs_43 7) fun t45_46 =>
 W.load false 1 t45_46 L_45 fun t46_47 =>
 W.load false 1 (slotOf [4, 5, 6, 7, 8, 12, 15, 27, 42] vs_43 8) L_45 fun t48_48 =>
 W.idx 2 t46_47 (slotOf [4, 5, 6, 7, 8, 12, 15, 27, 42] vs_43 4) L_45 fun t49_49 =>
 W.faddr 0 t49_49 fun t50_50 =>
 W.store 1 t50_50 t48_48 L_45 fun L_51 =>
 j_24 [(slotOf [4, 5, 6, 7, 8, 12, 15, 27, 42] vs_43 7), (slotOf [4, 5, 6, 7, 8, 12, 15, 27, 42] vs_43 12), (slotOf [4, 5, 6, 7, 8, 12, 15, 27, 42] vs_43 15)] L_51) (
 W.join (object_Apply_j6 j_24) fun j_53 =>
 W.bin Try.prog Fl .eql 3 (slotOf [4, 5, 6, 7, 8, 12, 15, 27, 42] vs_43 27) (.int .i64 7) fun t52_228 =>
 W.cond t52_228 (
 j_53 [(slotOf [4, 5, 6, 7, 8, 12, 15, 27, 42] vs_43 4), (slotOf [4, 5, 6, 7, 8, 12, 15, 27, 42] vs_43 5), (slotOf [4, 5, 6, 7, 8, 12, 15, 27, 42] vs_43 6), (slotOf [4, 5, 6, 7, 8, 12, 15, 27, 42] vs_43 7), (slotOf [4, 5, 6, 7, 8, 12, 15, 27, 42] vs_43 8), (slotOf [4, 5, 6, 7, 8, 12, 15, 27, 42] vs_43 12), (slotOf [4, 5, 6, 7, 8, 12, 15, 27, 42] vs_43 15), (slotOf [4, 5, 6, 7, 8, 12, 15, 27, 42] vs_43 27), t52_228] L_45) (
 W.bin Try.prog Fl .eql 3 (slotOf [4, 5, 6, 7, 8, 12, 15, 27, 42] vs_43 27) (.int .i64 11) fun t53_229 =>
 j_53 [(slotOf [4, 5, 6, 7, 8, 12, 15, 27, 42] vs_43 4), (slotOf [4, 5, 6, 7, 8, 12, 15, 27, 42] vs_43 5), (slotOf [4, 5, 6, 7, 8, 12, 15, 27, 42] vs_43 6), (slotOf [4, 5, 6, 7, 8, 12, 15, 27, 42] vs_43 7), (slotOf [4, 5, 6, 7, 8, 12, 15, 27, 42] vs_43 8), (slotOf [4, 5, 6, 7, 8, 12, 15, 27, 42] vs_43 12), (slotOf [4, 5, 6, 7, 8, 12, 15, 27, 42] vs_43 15), (slotOf [4, 5, 6, 7, 8, 12, 15, 27, 42] vs_43 27), t53_229] L_45))
def object_Apply_c8 (t7_2 : AV) (Q : AV → SH → Prop) (t3 : AV) (t8_4 : AV) (t12_6 : AV) (t4 : AV) (t5 : AV) (t6_8 : AV) (t26_20 : AV) (L_21 : SH) : Prop :=
 W.store 4 t7_2 t26_20 L_21 fun L_22 =>
 W.join (object_Apply_j0 Q) fun j_24 =>
 W.bin Try.prog Fl .eql 3 t3 (.int .i64 1) fun t29_29 =>
 W.cond t29_29 (
 W.faddr 3 t7_2 fun t30_30 =>
 W.load false 1 t30_30 L_22 fun t31_31 =>
 W.load false 1 t8_4 L_22 fun t32_32 =>
 W.idx 3 t31_31 t32_32 L_22 fun t33_33 =>
 W.faddr 0 t33_33 fun t34_34 =>
 W.store 1 t34_34 (.int .i64 2) L_22 fun L_35 =>
 j_24 [t7_2, t12_6, (.int .i64 0)] L_35) (
 W.bin Try.prog Fl .eql 3 t3 (.int .i64 2) fun t36_36 =>
 W.cond t36_36 (
 W.faddr 3 t7_2 fun t37_37 =>
 W.load false 1 t37_37 L_22 fun t38_38 =>
 W.load false 1 t8_4 L_22 fun t39_39 =>
 W.idx 3 t38_38 t39_39 L_22 fun t40_40 =>
 W.faddr 0 t40_40 fun t41_41 =>
 W.store 1 t41_41 (.int .i64 5) L_22 fun L_42 =>
 j_24 [t7_2, t12_6, (.int .i64 0)] L_42) (
 W.join (object_Apply_j7 j_24) fun j_44 =>
 W.bin Try.prog Fl .eql 3 t3 (.int .i64 6) fun t43_230 =>
 W.cond t43_230 (
 j_44 [t4, t5, t6_8, t7_2, t8_4, t12_6, (.int .i64 0), t3, t43_230] L_22) (
 W.bin Try.prog Fl .eql 3 t3 (.int .i64 10) fun t44_231 =>
 j_44 [t4, t5, t6_8, t7_2, t8_4, t12_6, (.int .i64 0), t3, t44_231] L_22)))
def object_Apply_c9 (t12_6 : AV) (Q : AV → SH → Prop) (t7_2 : AV) (t3 : AV) (t8_4 : AV) (t4 : AV) (t5 : AV) (t6_8 : AV) (t22_13 : AV) (L_14 : SH) : Prop :=
 W.un .not t22_13 fun t23_15 =>
 W.cond t23_15 (
 W.build [.nils, (.int .i64 0), .nils, .nils] [] fun t24_16 =>
 W.store 4 t12_6 t24_16 L_14 fun L_17 =>
 W.load true 4 t12_6 L_17 fun r_18 =>
 Q (.tup [r_18, (.int .i64 0), (.bool false)]) L_17) (
 W.load true 4 t7_2 L_14 fun t25_19 =>
 W.call Try.prog (.fn 47 []) [t25_19] L_14 (object_Apply_c8 t7_2 Q t3 t8_4 t12_6 t4 t5 t6_8))
def object_Apply_w (t0 t1 t2 t3 t4 t5 : AV) (L : SH) (Q : AV → SH → Prop) : Prop :=
 W.box t0 L fun t6_0 L_1 =>
 W.box t1 L_1 fun t7_2 L_3 =>
 W.box t2 L_3 fun t8_4 L_5 =>
 W.alloc [.nils, (.int .i64 0), .nils, .nils] L_5 fun t12_6 L_7 =>
 W.frz1 t6_0 L_7 fun t6_8 L_9 =>
 W.load true 6 t6_8 L_9 fun t17_10 =>
 W.load true 4 t7_2 L_9 fun t18_11 =>
 W.load false 1 t8_4 L_9 fun t19_12 =>
 W.call Try.prog (.fn 27 []) [t17_10, t18_11, t19_12, t3, t4] L_9 (object_Apply_c9 t12_6 Q t7_2 t3 t8_4 t4 t5 t6_8)
theorem object_Apply_e (t0 t1 t2 t3 t4 t5 : AV) (L : SH) (Q : AV → SH → Prop) : W.func Try.prog Fl object_Apply_t Try.f26 (Try.f26.body.getD .skip) [t0, t1, t2, t3, t4, t5] L Q = object_Apply_w t0 t1 t2 t3 t4 t5 L Q := by kernel_rfl
theorem object_Apply_ok (t0 t1 t2 t3 t4 t5 : AV) (L : SH) (Q : AV → SH → Prop) (h : object_Apply_w t0 t1 t2 t3 t4 t5 L Q) : CallA Try.prog 26 [t0, t1, t2, t3, t4, t5] L Q :=
  func_sound (ht := object_Apply_t) fit Try.func26 (show Try.f26.body = some (Try.f26.body.getD .skip) by kernel_rfl) (Eq.mpr (object_Apply_e t0 t1 t2 t3 t4 t5 L Q) h)

/- interleave/object.Enabled -/
def object_Enabled_t : Hints := ⟨fun k => none, fun k => [], fun k => if k = 0 then [5, 6] else if k = 3 then [11] else [], fun k => if k = 8 then [0, 1, 3, 7, 15, 31, 15, 127, 255, 511, 1023, 2047, 1023, 5119, 1023, 29695, 62463, 127999, 262143, 524287, 1048575, 2097151, 4194303, 8388607] else []⟩
def object_Enabled_c0 (t2 : AV) (t5_4 : AV) (t3 : AV) (t4 : AV) (Q : AV → SH → Prop) (t6_6 : AV) (t14_10 : AV) (L_11 : SH) : Prop :=
 W.un .not t14_10 fun t15_12 =>
 W.grd t15_12 false (fun k_14 => k_14 t2 L_11) L_11 fun t17_13 L_15 =>
 W.grd t15_12 false (fun k_17 => W.faddr 4 t5_4 fun v_19 =>
 k_17 v_19 L_15) L_15 fun t18_16 L_18 =>
 W.grd t15_12 false (fun k_21 => W.load false 1 t18_16 L_18 fun v_23 =>
 k_21 v_23 L_18) L_18 fun t19_20 L_22 =>
 W.grd t15_12 false (fun k_25 => W.len t19_20 fun v_27 =>
 k_25 v_27 L_22) L_22 fun t20_24 L_26 =>
 W.grd t15_12 false (fun k_29 => W.call Try.prog (.fn 52 []) [t17_13, t20_24] L_26 fun v_31 L_32 =>
 k_29 v_31 L_32) L_26 fun t21_28 L_30 =>
 W.grd t15_12 false (fun k_34 => W.un .not t21_28 fun v_36 =>
 k_34 v_36 L_30) L_30 fun t22_33 L_35 =>
 W.pick t15_12 (.bool true) t22_33 fun t23_37 =>
 W.grd t23_37 false (fun k_39 => W.load true 6 t5_4 L_35 fun v_41 =>
 k_39 v_41 L_35) L_35 fun t25_38 L_40 =>
 W.grd t23_37 false (fun k_43 => k_43 t3 L_40) L_40 fun t26_42 L_44 =>
 W.grd t23_37 false (fun k_46 => k_46 t4 L_44) L_44 fun t27_45 L_47 =>
 W.grd t23_37 false (fun k_49 => W.call Try.prog (.fn 53 []) [t25_38, t26_42, t27_45] L_47 fun v_51 L_52 =>
 k_49 v_51 L_52) L_47 fun t28_48 L_50 =>
 W.grd t23_37 false (fun k_54 => W.un .not t28_48 fun v_56 =>
 k_54 v_56 L_50) L_50 fun t29_53 L_55 =>
 W.pick t23_37 (.bool true) t29_53 fun t30_57 =>
 W.cond t30_57 (
 Q (.bool false) L_55) (
 W.faddr 3 t6_6 fun t31_58 =>
 W.load false 1 t31_58 L_55 fun t32_59 =>
 W.idx 3 t32_59 t2 L_55 fun t34_60 =>
 W.load true 3 t34_60 L_55 fun t35_61 =>
 W.alloc [(.int .i64 0), (.int .i64 0), (.bool false)] L_55 fun t11_62 L_63 =>
 W.store 3 t11_62 t35_61 L_63 fun L_64 =>
 W.frz1 t11_62 L_64 fun t11_65 L_66 =>
 W.bin Try.prog Fl .eql 3 t3 (.int .i64 1) fun t38_67 =>
 W.cond t38_67 (
 W.faddr 0 t11_65 fun t39_68 =>
 W.load false 1 t39_68 L_66 fun t40_69 =>
 W.bin Try.prog Fl .eql 3 t40_69 (.int .i64 1) fun t41_70 =>
 Q t41_70 L_66) (
 W.bin Try.prog Fl .eql 3 t3 (.int .i64 17) fun t43_71 =>
 W.cond t43_71 (
 (true = true) ∧ (
 W.faddr 0 t11_65 fun t44_72 =>
 W.calm [] ⟨1, (blocksOf t44_72), [], [], false, []⟩ (
 W.load false 1 t44_72 L_66 fun t45_73 =>
 W.note ⟨(blocksOf t44_72), [], [], []⟩ fun r_74 =>
 W.bin Try.prog Fl .eql 3 t45_73 (.int .i64 4) fun t46_75 =>
 W.dgrd t46_75 true (fun k_77 => W.faddr 1 t11_65 fun v_80 =>
 k_77 v_80 L_66 ⟨[], [], [], []⟩) L_66 fun t48_76 L_79 r_78 =>
 W.dgrd t46_75 true (fun k_82 => W.calm [] ⟨5, (blocksOf t48_76), [], [], false, []⟩ (
 W.load false 1 t48_76 L_79 fun v_85 =>
 W.note ⟨(blocksOf t48_76), [], [], []⟩ fun r_86 =>
 k_82 v_85 L_79 r_86)) L_79 fun t49_81 L_84 r_83 =>
 W.dgrd t46_75 true (fun k_88 => k_88 t4 L_84 ⟨[], [], [], []⟩) L_84 fun t50_87 L_90 r_89 =>
 W.dgrd t46_75 true (fun k_92 => W.bin Try.prog Fl .eql 3 t49_81 t50_87 fun v_95 =>
 k_92 v_95 L_90 ⟨[], [], [], []⟩) L_90 fun t51_91 L_94 r_93 =>
 W.pick t46_75 t51_91 (.bool false) fun t52_96 =>
 W.dgrd t52_96 true (fun k_98 => W.faddr 0 t6_6 fun v_101 =>
 k_98 v_101 L_94 ⟨[], [], [], []⟩) L_94 fun t54_97 L_100 r_99 =>
 W.dgrd t52_96 true (fun k_103 => W.calm [] ⟨11, (blocksOf t54_97), [], [], false, []⟩ (
 W.load false 1 t54_97 L_100 fun v_106 =>
 W.note ⟨(blocksOf t54_97), [], [], []⟩ fun r_107 =>
 k_103 v_106 L_100 r_107)) L_100 fun t55_102 L_105 r_104 =>
 W.dgrd t52_96 true (fun k_109 => W.faddr 2 t5_4 fun v_112 =>
 k_109 v_112 L_105 ⟨[], [], [], []⟩) L_105 fun t56_108 L_111 r_110 =>
 W.dgrd t52_96 true (fun k_114 => W.calm [⟨11, r_104.reads, r_104.writes, r_104.made, false, r_104.old⟩] ⟨13, (blocksOf t56_108), [], [], false, []⟩ (
 W.load false 1 t56_108 L_111 fun v_117 =>
 W.note ⟨(blocksOf t56_108), [], [], []⟩ fun r_118 =>
 k_114 v_117 L_111 r_118)) L_111 fun t57_113 L_116 r_115 =>
 W.dgrd t52_96 true (fun k_120 => k_120 t4 L_116 ⟨[], [], [], []⟩) L_116 fun t58_119 L_122 r_121 =>
 W.dgrd t52_96 true (fun k_124 => W.calm [⟨11, r_104.reads, r_104.writes, r_104.made, false, r_104.old⟩] ⟨15, (slOf t57_113), [], [], false, []⟩ (
 W.idx 2 t57_113 t58_119 L_122 fun v_127 =>
 W.note ⟨(slOf t57_113), [], [], []⟩ fun r_128 =>
 k_124 v_127 L_122 r_128)) L_122 fun t59_123 L_126 r_125 =>
 W.dgrd t52_96 true (fun k_130 => W.faddr 1 t59_123 fun v_133 =>
 k_130 v_133 L_126 ⟨[], [], [], []⟩) L_126 fun t60_129 L_132 r_131 =>
 W.dgrd t52_96 true (fun k_135 => W.calm [⟨11, r_104.reads, r_104.writes, r_104.made, false, r_104.old⟩] ⟨17, (blocksOf t60_129), [], [], false, []⟩ (
 W.load false 1 t60_129 L_132 fun v_138 =>
 W.note ⟨(blocksOf t60_129), [], [], []⟩ fun r_139 =>
 k_135 v_138 L_132 r_139)) L_132 fun t61_134 L_137 r_136 =>
 W.dgrd t52_96 true (fun k_141 => W.calm [] ⟨18, (slOf t55_102), [], [], false, []⟩ (
 W.idx 2 t55_102 t61_134 L_137 fun v_144 =>
 W.note ⟨(slOf t55_102), [], [], []⟩ fun r_145 =>
 k_141 v_144 L_137 r_145)) L_137 fun t62_140 L_143 r_142 =>
 W.dgrd t52_96 true (fun k_147 => W.faddr 0 t62_140 fun v_150 =>
 k_147 v_150 L_143 ⟨[], [], [], []⟩) L_143 fun t63_146 L_149 r_148 =>
 W.dgrd t52_96 true (fun k_152 => W.calm [] ⟨20, (blocksOf t63_146), [], [], false, []⟩ (
 W.load false 1 t63_146 L_149 fun v_155 =>
 W.note ⟨(blocksOf t63_146), [], [], []⟩ fun r_156 =>
 k_152 v_155 L_149 r_156)) L_149 fun t64_151 L_154 r_153 =>
 W.dgrd t52_96 true (fun k_158 => W.bin Try.prog Fl .eql 3 t64_151 (.int .i64 (-1)) fun v_161 =>
 k_158 v_161 L_154 ⟨[], [], [], []⟩) L_154 fun t65_157 L_160 r_159 =>
 W.pick t52_96 t65_157 (.bool false) fun t66_162 =>
 Q t66_162 L_160))) (
 W.faddr 0 t11_65 fun t67_163 =>
 W.load false 1 t67_163 L_66 fun t68_164 =>
 W.bin Try.prog Fl .eql 3 t68_164 (.int .i64 2) fun t69_165 =>
 W.grd t69_165 true (fun k_167 => W.load true 6 t5_4 L_66 fun v_169 =>
 k_167 v_169 L_66) L_66 fun t71_166 L_168 =>
 W.grd t69_165 true (fun k_171 => W.load true 4 t6_6 L_168 fun v_173 =>
 k_171 v_173 L_168) L_168 fun t72_170 L_172 =>
 W.grd t69_165 true (fun k_175 => k_175 t2 L_172) L_172 fun t73_174 L_176 =>
 W.grd t69_165 true (fun k_178 => k_178 t3 L_176) L_176 fun t74_177 L_179 =>
 W.grd t69_165 true (fun k_181 => k_181 t4 L_179) L_179 fun t75_180 L_182 =>
 W.grd t69_165 true (fun k_184 => W.call Try.prog (.fn 54 []) [t71_166, t72_170, t73_174, t74_177, t75_180] L_182 fun v_186 L_187 =>
 k_184 v_186 L_187) L_182 fun t76_183 L_185 =>
 W.pick t69_165 t76_183 (.bool false) fun t77_188 =>
 Q t77_188 L_185)))
def object_Enabled_w (t0 t1 t2 t3 t4 : AV) (L : SH) (Q : AV → SH → Prop) : Prop :=
 W.box t0 L fun t5_0 L_1 =>
 W.box t1 L_1 fun t6_2 L_3 =>
 W.frz1 t5_0 L_3 fun t5_4 L_5 =>
 W.frz1 t6_2 L_5 fun t6_6 L_7 =>
 W.load true 6 t5_4 L_7 fun t12_8 =>
 W.load true 4 t6_6 L_7 fun t13_9 =>
 W.call Try.prog (.fn 37 []) [t12_8, t13_9] L_7 (object_Enabled_c0 t2 t5_4 t3 t4 Q t6_6)
theorem object_Enabled_e (t0 t1 t2 t3 t4 : AV) (L : SH) (Q : AV → SH → Prop) : W.func Try.prog Fl object_Enabled_t Try.f27 (Try.f27.body.getD .skip) [t0, t1, t2, t3, t4] L Q = object_Enabled_w t0 t1 t2 t3 t4 L Q := by kernel_rfl
theorem object_Enabled_ok (t0 t1 t2 t3 t4 : AV) (L : SH) (Q : AV → SH → Prop) (h : object_Enabled_w t0 t1 t2 t3 t4 L Q) : CallA Try.prog 27 [t0, t1, t2, t3, t4] L Q :=
  func_sound (ht := object_Enabled_t) fit Try.func27 (show Try.f27.body = some (Try.f27.body.getD .skip) by kernel_rfl) (Eq.mpr (object_Enabled_e t0 t1 t2 t3 t4 L Q) h)

/- interleave/object.Holds -/
def object_Holds_t : Hints := ⟨fun k => if k = 8 then some [2, 8, 9, 10, 11, 25, 26, 27] else none, fun k => if k = 5 then [2, 8, 9, 25, 26, 27] else [], fun k => if k = 0 then [3, 4] else if k = 6 then [11] else [], fun k => []⟩
def object_Holds_c0 (vs_52 : List AV) (nx_42 : W.Kn) (t43_57 : AV) (L_58 : SH) : Prop :=
 W.cond t43_57 (
 W.bslice 1 [(.int .i64 0)] 1 [(0, (slotOf [2, 8, 9, 10, 11, 25, 26, 27] vs_52 10))] L_58 fun t46_59 L_60 =>
 W.append 1 8 (slotOf [2, 8, 9, 10, 11, 25, 26, 27] vs_52 9) t46_59 L_60 fun t47_61 L_62 =>
 W.bin Try.prog Fl .add 3 (slotOf [2, 8, 9, 10, 11, 25, 26, 27] vs_52 27) (.int .i64 1) fun t48_63 =>
 nx_42 [(slotOf [2, 8, 9, 10, 11, 25, 26, 27] vs_52 2), (slotOf [2, 8, 9, 10, 11, 25, 26, 27] vs_52 8), t47_61, (slotOf [2, 8, 9, 10, 11, 25, 26, 27] vs_52 25), (slotOf [2, 8, 9, 10, 11, 25, 26, 27] vs_52 26), t48_63] L_62) (
 W.bin Try.prog Fl .add 3 (slotOf [2, 8, 9, 10, 11, 25, 26, 27] vs_52 27) (.int .i64 1) fun t48_64 =>
 nx_42 [(slotOf [2, 8, 9, 10, 11, 25, 26, 27] vs_52 2), (slotOf [2, 8, 9, 10, 11, 25, 26, 27] vs_52 8), (slotOf [2, 8, 9, 10, 11, 25, 26, 27] vs_52 9), (slotOf [2, 8, 9, 10, 11, 25, 26, 27] vs_52 25), (slotOf [2, 8, 9, 10, 11, 25, 26, 27] vs_52 26), t48_64] L_58)
def object_Holds_j1 (nx_42 : W.Kn) (vs_52 : List AV) (L_54 : SH) : Prop :=
 W.faddr 1 (slotOf [2, 8, 9, 10, 11, 25, 26, 27] vs_52 11) fun t40_55 =>
 W.load false 1 t40_55 L_54 fun t41_56 =>
 W.call Try.prog (.fn 60 []) [t41_56, (slotOf [2, 8, 9, 10, 11, 25, 26, 27] vs_52 2)] L_54 (object_Holds_c0 vs_52 nx_42)
def object_Holds_l2 (Q : AV → SH → Prop) (vs_41 : List AV) (L_43 : SH) (nx_42 : W.Kn) : Prop :=
 W.bin Try.prog Fl .lss 3 (slotOf [2, 8, 9, 25, 26, 27] vs_41 27) (slotOf [2, 8, 9, 25, 26, 27] vs_41 26) fun t28_44 =>
 W.cond t28_44 (
 W.idx 2 (slotOf [2, 8, 9, 25, 26, 27] vs_41 25) (slotOf [2, 8, 9, 25, 26, 27] vs_41 27) L_43 fun t30_45 =>
 W.load true 2 t30_45 L_43 fun t31_46 =>
 W.alloc [(.int .i64 0), .nils] L_43 fun t11_47 L_48 =>
 W.store 2 t11_47 t31_46 L_48 fun L_49 =>
 W.frz1 t11_47 L_49 fun t11_50 L_51 =>
 W.join (object_Holds_j1 nx_42) fun j_53 =>
 W.faddr 0 t11_50 fun t32_65 =>
 W.load false 1 t32_65 L_51 fun t33_66 =>
 W.bin Try.prog Fl .eql 3 t33_66 (slotOf [2, 8, 9, 25, 26, 27] vs_41 2) fun t35_67 =>
 W.cond t35_67 (
 W.bslice 1 [(.int .i64 0)] 1 [(0, (slotOf [2, 8, 9, 25, 26, 27] vs_41 27))] L_51 fun t38_68 L_69 =>
 W.append 1 8 (slotOf [2, 8, 9, 25, 26, 27] vs_41 8) t38_68 L_69 fun t39_70 L_71 =>
 j_53 [(slotOf [2, 8, 9, 25, 26, 27] vs_41 2), t39_70, (slotOf [2, 8, 9, 25, 26, 27] vs_41 9), (slotOf [2, 8, 9, 25, 26, 27] vs_41 27), t11_50, (slotOf [2, 8, 9, 25, 26, 27] vs_41 25), (slotOf [2, 8, 9, 25, 26, 27] vs_41 26), (slotOf [2, 8, 9, 25, 26, 27] vs_41 27)] L_71) (
 j_53 [(slotOf [2, 8, 9, 25, 26, 27] vs_41 2), (slotOf [2, 8, 9, 25, 26, 27] vs_41 8), (slotOf [2, 8, 9, 25, 26, 27] vs_41 9), (slotOf [2, 8, 9, 25, 26, 27] vs_41 27), t11_50, (slotOf [2, 8, 9, 25, 26, 27] vs_41 25), (slotOf [2, 8, 9, 25, 26, 27] vs_41 26), (slotOf [2, 8, 9, 25, 26, 27] vs_41 27)] L_51)) (
 Q (.tup [(slotOf [2, 8, 9, 25, 26, 27] vs_41 8), (slotOf [2, 8, 9, 25, 26, 27] vs_41 9)]) L_43)
def object_Holds_c3 (t2 : AV) (t3_4 : AV) (Q : AV → SH → Prop) (t4_6 : AV) (t14_10 : AV) (L_11 : SH) : Prop :=
 W.un .not t14_10 fun t15_12 =>
 W.grd t15_12 false (fun k_14 => k_14 t2 L_11) L_11 fun t17_13 L_15 =>
 W.grd t15_12 false (fun k_17 => W.faddr 4 t3_4 fun v_19 =>
 k_17 v_19 L_15) L_15 fun t18_16 L_18 =>
 W.grd t15_12 false (fun k_21 => W.load false 1 t18_16 L_18 fun v_23 =>
 k_21 v_23 L_18) L_18 fun t19_20 L_22 =>
 W.grd t15_12 false (fun k_25 => W.len t19_20 fun v_27 =>
 k_25 v_27 L_22) L_22 fun t20_24 L_26 =>
 W.grd t15_12 false (fun k_29 => W.call Try.prog (.fn 52 []) [t17_13, t20_24] L_26 fun v_31 L_32 =>
 k_29 v_31 L_32) L_26 fun t21_28 L_30 =>
 W.grd t15_12 false (fun k_34 => W.un .not t21_28 fun v_36 =>
 k_34 v_36 L_30) L_30 fun t22_33 L_35 =>
 W.pick t15_12 (.bool true) t22_33 fun t23_37 =>
 W.cond t23_37 (
 Q (.tup [.nils, .nils]) L_35) (
 W.faddr 0 t4_6 fun t24_38 =>
 W.load false 1 t24_38 L_35 fun t25_39 =>
 W.len t25_39 fun t26_40 =>
 W.loop (object_Holds_l2 Q) [t2, .nils, .nils, t25_39, t26_40, (.int .i64 0)] L_35)
def object_Holds_w (t0 t1 t2 : AV) (L : SH) (Q : AV → SH → Prop) : Prop :=
 W.box t0 L fun t3_0 L_1 =>
 W.box t1 L_1 fun t4_2 L_3 =>
 W.frz1 t3_0 L_3 fun t3_4 L_5 =>
 W.frz1 t4_2 L_5 fun t4_6 L_7 =>
 W.load true 6 t3_4 L_7 fun t12_8 =>
 W.load true 4 t4_6 L_7 fun t13_9 =>
 W.call Try.prog (.fn 37 []) [t12_8, t13_9] L_7 (object_Holds_c3 t2 t3_4 Q t4_6)
theorem object_Holds_e (t0 t1 t2 : AV) (L : SH) (Q : AV → SH → Prop) : W.func Try.prog Fl object_Holds_t Try.f32 (Try.f32.body.getD .skip) [t0, t1, t2] L Q = object_Holds_w t0 t1 t2 L Q := by kernel_rfl
theorem object_Holds_ok (t0 t1 t2 : AV) (L : SH) (Q : AV → SH → Prop) (h : object_Holds_w t0 t1 t2 L Q) : CallA Try.prog 32 [t0, t1, t2] L Q :=
  func_sound (ht := object_Holds_t) fit Try.func32 (show Try.f32.body = some (Try.f32.body.getD .skip) by kernel_rfl) (Eq.mpr (object_Holds_e t0 t1 t2 L Q) h)

/- interleave/object.Blockers -/
def object_Blockers_t : Hints := ⟨fun k => if k = 15 then some [5, 11] else if k = 6 then some [2, 4, 5, 6, 11, 31, 32] else none, fun k => [], fun k => if k = 0 then [6] else [], fun k => if k = 12 then [0, 0, 2, 0, 8, 0, 56, 120, 248, 510, 1022, 2046, 4094, 8191, 16383] else []⟩
def object_Blockers_c0 (t99_59 : AV) (Q : AV → SH → Prop) (t101_61 : AV) (L_62 : SH) : Prop :=
 W.call Try.prog (.fn 41 []) [t99_59] L_62 fun t103_63 L_64 =>
 Q t103_63 L_64
def object_Blockers_c1 (Q : AV → SH → Prop) (t99_59 : AV) (L_60 : SH) : Prop :=
 W.call Try.prog (.fn 40 []) [t99_59] L_60 (object_Blockers_c0 t99_59 Q)
def object_Blockers_j2 (Q : AV → SH → Prop) (vs_56 : List AV) (L_58 : SH) : Prop :=
 W.call Try.prog (.fn 48 []) [(slotOf [5, 11] vs_56 11), (.fn 62 [(slotOf [5, 11] vs_56 5)])] L_58 (object_Blockers_c1 Q)
def object_Blockers_j3 (j_57 : W.Kn) (vs_65 : List AV) (L_67 : SH) : Prop :=
 W.cond (slotOf [2, 4, 5, 6, 11, 31, 32] vs_65 32) (
 W.faddr 0 (slotOf [2, 4, 5, 6, 11, 31, 32] vs_65 6) fun t36_68 =>
 W.load false 1 t36_68 L_67 fun t37_69 =>
 W.idx 2 t37_69 (slotOf [2, 4, 5, 6, 11, 31, 32] vs_65 4) L_67 fun t39_70 =>
 W.faddr 0 t39_70 fun t40_71 =>
 W.load false 1 t40_71 L_67 fun t41_72 =>
 W.bslice 1 [(.int .i64 0)] 1 [(0, t41_72)] L_67 fun t42_73 L_74 =>
 W.append 1 8 (slotOf [2, 4, 5, 6, 11, 31, 32] vs_65 11) t42_73 L_74 fun t43_75 L_76 =>
 j_57 [(slotOf [2, 4, 5, 6, 11, 31, 32] vs_65 5), t43_75] L_76) (
 W.bin Try.prog Fl .eql 3 (slotOf [2, 4, 5, 6, 11, 31, 32] vs_65 31) (.int .i64 10) fun t45_77 =>
 W.cond t45_77 (
 W.faddr 0 (slotOf [2, 4, 5, 6, 11, 31, 32] vs_65 6) fun t47_78 =>
 W.load false 1 t47_78 L_67 fun t48_79 =>
 W.idx 2 t48_79 (slotOf [2, 4, 5, 6, 11, 31, 32] vs_65 4) L_67 fun t50_80 =>
 W.faddr 0 t50_80 fun t51_81 =>
 W.load false 1 t51_81 L_67 fun t52_82 =>
 W.bslice 1 [(.int .i64 0)] 1 [(0, t52_82)] L_67 fun t53_83 L_84 =>
 W.append 1 8 (slotOf [2, 4, 5, 6, 11, 31, 32] vs_65 11) t53_83 L_84 fun t54_85 L_86 =>
 W.faddr 0 (slotOf [2, 4, 5, 6, 11, 31, 32] vs_65 6) fun t56_87 =>
 W.load false 1 t56_87 L_86 fun t57_88 =>
 W.idx 2 t57_88 (slotOf [2, 4, 5, 6, 11, 31, 32] vs_65 4) L_86 fun t59_89 =>
 W.faddr 1 t59_89 fun t60_90 =>
 W.load false 1 t60_90 L_86 fun t61_91 =>
 W.append 1 8 t54_85 t61_91 L_86 fun t62_92 L_93 =>
 j_57 [(slotOf [2, 4, 5, 6, 11, 31, 32] vs_65 5), t62_92] L_93) (
 W.bin Try.prog Fl .eql 3 (slotOf [2, 4, 5, 6, 11, 31, 32] vs_65 31) (.int .i64 17) fun t64_94 =>
 W.cond t64_94 (
 (true = true) ∧ (
 W.faddr 0 (slotOf [2, 4, 5, 6, 11, 31, 32] vs_65 6) fun t66_95 =>
 W.calm [] ⟨2, (blocksOf t66_95), [], [], false, []⟩ (
 W.load false 1 t66_95 L_67 fun t67_96 =>
 W.note ⟨(blocksOf t66_95), [], [], []⟩ fun r_97 =>
 W.faddr 2 (slotOf [2, 4, 5, 6, 11, 31, 32] vs_65 5) fun t68_98 =>
 W.calm [⟨2, r_97.reads, r_97.writes, r_97.made, false, r_97.old⟩] ⟨4, (blocksOf t68_98), [], [], false, []⟩ (
 W.load false 1 t68_98 L_67 fun t69_99 =>
 W.note ⟨(blocksOf t68_98), [], [], []⟩ fun r_100 =>
 W.calm [⟨2, r_97.reads, r_97.writes, r_97.made, false, r_97.old⟩] ⟨6, (slOf t69_99), [], [], false, []⟩ (
 W.idx 2 t69_99 (slotOf [2, 4, 5, 6, 11, 31, 32] vs_65 4) L_67 fun t71_101 =>
 W.note ⟨(slOf t69_99), [], [], []⟩ fun r_102 =>
 W.faddr 1 t71_101 fun t72_103 =>
 W.calm [⟨2, r_97.reads, r_97.writes, r_97.made, false, r_97.old⟩] ⟨8, (blocksOf t72_103), [], [], false, []⟩ (
 W.load false 1 t72_103 L_67 fun t73_104 =>
 W.note ⟨(blocksOf t72_103), [], [], []⟩ fun r_105 =>
 W.calm [] ⟨9, (slOf t67_96), [], [], false, []⟩ (
 W.idx 2 t67_96 t73_104 L_67 fun t74_106 =>
 W.note ⟨(slOf t67_96), [], [], []⟩ fun r_107 =>
 W.faddr 0 t74_106 fun t75_108 =>
 W.calm [] ⟨11, (blocksOf t75_108), [], [], false, []⟩ (
 W.load false 1 t75_108 L_67 fun t76_109 =>
 W.note ⟨(blocksOf t75_108), [], [], []⟩ fun r_110 =>
 W.calm [] ⟨12, [], [], [], false, []⟩ (
 W.bslice 1 [(.int .i64 0)] 1 [(0, t76_109)] L_67 fun t77_111 L_112 =>
 W.note ⟨[], [], (blocksOf t77_111), []⟩ fun r_113 =>
 W.calm [] ⟨13, (blocksOf (slotOf [2, 4, 5, 6, 11, 31, 32] vs_65 11) ++ blocksOf t77_111), (blocksOf (slotOf [2, 4, 5, 6, 11, 31, 32] vs_65 11)), [], false, []⟩ (
 W.append 1 8 (slotOf [2, 4, 5, 6, 11, 31, 32] vs_65 11) t77_111 L_112 fun t78_114 L_115 =>
 W.note ⟨(blocksOf (slotOf [2, 4, 5, 6, 11, 31, 32] vs_65 11) ++ blocksOf t77_111), (blocksOf (slotOf [2, 4, 5, 6, 11, 31, 32] vs_65 11)), (blocksOf t78_114), []⟩ fun r_116 =>
 j_57 [(slotOf [2, 4, 5, 6, 11, 31, 32] vs_65 5), t78_114] L_115)))))))))) (
 W.bin Try.prog Fl .eql 3 (slotOf [2, 4, 5, 6, 11, 31, 32] vs_65 31) (.int .i64 21) fun t80_117 =>
 W.cond t80_117 (
 W.bin Try.prog Fl .neq 3 (slotOf [2, 4, 5, 6, 11, 31, 32] vs_65 4) (slotOf [2, 4, 5, 6, 11, 31, 32] vs_65 2) fun t83_118 =>
 W.grd t83_118 true (fun k_120 => W.faddr 3 (slotOf [2, 4, 5, 6, 11, 31, 32] vs_65 6) fun v_122 =>
 k_120 v_122 L_67) L_67 fun t85_119 L_121 =>
 W.grd t83_118 true (fun k_124 => W.load false 1 t85_119 L_121 fun v_126 =>
 k_124 v_126 L_121) L_121 fun t86_123 L_125 =>
 W.grd t83_118 true (fun k_128 => k_128 (slotOf [2, 4, 5, 6, 11, 31, 32] vs_65 4) L_125) L_125 fun t87_127 L_129 =>
 W.grd t83_118 true (fun k_131 => W.idx 3 t86_123 t87_127 L_129 fun v_133 =>
 k_131 v_133 L_129) L_129 fun t88_130 L_132 =>
 W.grd t83_118 true (fun k_135 => W.faddr 0 t88_130 fun v_137 =>
 k_135 v_137 L_132) L_132 fun t89_134 L_136 =>
 W.grd t83_118 true (fun k_139 => W.load false 1 t89_134 L_136 fun v_141 =>
 k_139 v_141 L_136) L_136 fun t90_138 L_140 =>
 W.grd t83_118 true (fun k_143 => W.bin Try.prog Fl .neq 3 t90_138 (.int .i64 5) fun v_145 =>
 k_143 v_145 L_140) L_140 fun t91_142 L_144 =>
 W.pick t83_118 t91_142 (.bool false) fun t92_146 =>
 W.cond t92_146 (
 W.bslice 1 [(.int .i64 0)] 1 [(0, (slotOf [2, 4, 5, 6, 11, 31, 32] vs_65 4))] L_144 fun t95_147 L_148 =>
 W.append 1 8 (slotOf [2, 4, 5, 6, 11, 31, 32] vs_65 11) t95_147 L_148 fun t96_149 L_150 =>
 j_57 [(slotOf [2, 4, 5, 6, 11, 31, 32] vs_65 5), t96_149] L_150) (
 j_57 [(slotOf [2, 4, 5, 6, 11, 31, 32] vs_65 5), (slotOf [2, 4, 5, 6, 11, 31, 32] vs_65 11)] L_144)) (
 j_57 [(slotOf [2, 4, 5, 6, 11, 31, 32] vs_65 5), (slotOf [2, 4, 5, 6, 11, 31, 32] vs_65 11)] L_67))))
def object_Blockers_c4 (t2 : AV) (t5_0 : AV) (t3 : AV) (t4 : AV) (Q : AV → SH → Prop) (t6_4 : AV) (t14_8 : AV) (L_9 : SH) : Prop :=
 W.un .not t14_8 fun t15_10 =>
 W.grd t15_10 false (fun k_12 => k_12 t2 L_9) L_9 fun t17_11 L_13 =>
 W.grd t15_10 false (fun k_15 => W.faddr 4 t5_0 fun v_17 =>
 k_15 v_17 L_13) L_13 fun t18_14 L_16 =>
 W.grd t15_10 false (fun k_19 => W.load false 1 t18_14 L_16 fun v_21 =>
 k_19 v_21 L_16) L_16 fun t19_18 L_20 =>
 W.grd t15_10 false (fun k_23 => W.len t19_18 fun v_25 =>
 k_23 v_25 L_20) L_20 fun t20_22 L_24 =>
 W.grd t15_10 false (fun k_27 => W.call Try.prog (.fn 52 []) [t17_11, t20_22] L_24 fun v_29 L_30 =>
 k_27 v_29 L_30) L_24 fun t21_26 L_28 =>
 W.grd t15_10 false (fun k_32 => W.un .not t21_26 fun v_34 =>
 k_32 v_34 L_28) L_28 fun t22_31 L_33 =>
 W.pick t15_10 (.bool true) t22_31 fun t23_35 =>
 W.grd t23_35 false (fun k_37 => W.load true 6 t5_0 L_33 fun v_39 =>
 k_37 v_39 L_33) L_33 fun t25_36 L_38 =>
 W.grd t23_35 false (fun k_41 => k_41 t3 L_38) L_38 fun t26_40 L_42 =>
 W.grd t23_35 false (fun k_44 => k_44 t4 L_42) L_42 fun t27_43 L_45 =>
 W.grd t23_35 false (fun k_47 => W.call Try.prog (.fn 53 []) [t25_36, t26_40, t27_43] L_45 fun v_49 L_50 =>
 k_47 v_49 L_50) L_45 fun t28_46 L_48 =>
 W.grd t23_35 false (fun k_52 => W.un .not t28_46 fun v_54 =>
 k_52 v_54 L_48) L_48 fun t29_51 L_53 =>
 W.pick t23_35 (.bool true) t29_51 fun t30_55 =>
 W.cond t30_55 (
 Q .nils L_53) (
 W.join (object_Blockers_j2 Q) fun j_57 =>
 W.join (object_Blockers_j3 j_57) fun j_66 =>
 W.bin Try.prog Fl .eql 3 t3 (.int .i64 6) fun t33_151 =>
 W.cond t33_151 (
 j_66 [t2, t4, t5_0, t6_4, .nils, t3, t33_151] L_53) (
 W.bin Try.prog Fl .eql 3 t3 (.int .i64 8) fun t34_152 =>
 j_66 [t2, t4, t5_0, t6_4, .nils, t3, t34_152] L_53))
def object_Blockers_w (t0 t1 t2 t3 t4 : AV) (L : SH) (Q : AV → SH → Prop) : Prop :=
 W.box t0 L fun t5_0 L_1 =>
 W.box t1 L_1 fun t6_2 L_3 =>
 W.frz1 t6_2 L_3 fun t6_4 L_5 =>
 W.load true 6 t5_0 L_5 fun t12_6 =>
 W.load true 4 t6_4 L_5 fun t13_7 =>
 W.call Try.prog (.fn 37 []) [t12_6, t13_7] L_5 (object_Blockers_c4 t2 t5_0 t3 t4 Q t6_4)
theorem object_Blockers_e (t0 t1 t2 t3 t4 : AV) (L : SH) (Q : AV → SH → Prop) : W.func Try.prog Fl object_Blockers_t Try.f35 (Try.f35.body.getD .skip) [t0, t1, t2, t3, t4] L Q = object_Blockers_w t0 t1 t2 t3 t4 L Q := by kernel_rfl
theorem object_Blockers_ok (t0 t1 t2 t3 t4 : AV) (L : SH) (Q : AV → SH → Prop) (h : object_Blockers_w t0 t1 t2 t3 t4 L Q) : CallA Try.prog 35 [t0, t1, t2, t3, t4] L Q :=
  func_sound (ht := object_Blockers_t) fit Try.func35 (show Try.f35.body = some (Try.f35.body.getD .skip) by kernel_rfl) (Eq.mpr (object_Blockers_e t0 t1 t2 t3 t4 L Q) h)

/- interleave/object.Fits -/
def object_Fits_t : Hints := ⟨fun k => none, fun k => if k = 4 then [2, 33, 34, 35] else [], fun k => if k = 0 then [2, 3] else if k = 5 then [6] else [], fun k => []⟩
def object_Fits_c0 (Q : AV → SH → Prop) (vs_76 : List AV) (nx_77 : W.Kn) (t44_92 : AV) (L_93 : SH) : Prop :=
 W.un .not t44_92 fun t45_94 =>
 W.cond t45_94 (
 Q (.bool false) L_93) (
 W.bin Try.prog Fl .add 3 (slotOf [2, 33, 34, 35] vs_76 35) (.int .i64 1) fun t46_95 =>
 nx_77 [(slotOf [2, 33, 34, 35] vs_76 2), (slotOf [2, 33, 34, 35] vs_76 33), (slotOf [2, 33, 34, 35] vs_76 34), t46_95] L_93)
def object_Fits_l1 (Q : AV → SH → Prop) (vs_76 : List AV) (L_78 : SH) (nx_77 : W.Kn) : Prop :=
 W.bin Try.prog Fl .lss 3 (slotOf [2, 33, 34, 35] vs_76 35) (slotOf [2, 33, 34, 35] vs_76 34) fun t36_79 =>
 W.cond t36_79 (
 W.idx 2 (slotOf [2, 33, 34, 35] vs_76 33) (slotOf [2, 33, 34, 35] vs_76 35) L_78 fun t37_80 =>
 W.load true 2 t37_80 L_78 fun t38_81 =>
 W.alloc [(.str []), (.int .i64 0)] L_78 fun t6_82 L_83 =>
 W.store 2 t6_82 t38_81 L_83 fun L_84 =>
 W.frz1 t6_82 L_84 fun t6_85 L_86 =>
 W.faddr 1 t6_85 fun t39_87 =>
 W.load false 1 t39_87 L_86 fun t40_88 =>
 W.faddr 1 (slotOf [2, 33, 34, 35] vs_76 2) fun t41_89 =>
 W.load false 1 t41_89 L_86 fun t42_90 =>
 W.len t42_90 fun t43_91 =>
 W.call Try.prog (.fn 52 []) [t40_88, t43_91] L_86 (object_Fits_c0 Q vs_76 nx_77)) (
 Q (.bool true) L_78)
def object_Fits_w (t0 t1 : AV) (L : SH) (Q : AV → SH → Prop) : Prop :=
 W.box t0 L fun t2_0 L_1 =>
 W.box t1 L_1 fun t3_2 L_3 =>
 W.frz1 t2_0 L_3 fun t2_4 L_5 =>
 W.frz1 t3_2 L_5 fun t3_6 L_7 =>
 W.faddr 0 t3_6 fun t7_8 =>
 W.load false 1 t7_8 L_7 fun t8_9 =>
 W.len t8_9 fun t9_10 =>
 W.faddr 1 t2_4 fun t10_11 =>
 W.load false 1 t10_11 L_7 fun t11_12 =>
 W.len t11_12 fun t12_13 =>
 W.bin Try.prog Fl .neq 3 t9_10 t12_13 fun t13_14 =>
 W.grd t13_14 false (fun k_16 => W.faddr 2 t3_6 fun v_18 =>
 k_16 v_18 L_7) L_7 fun t15_15 L_17 =>
 W.grd t13_14 false (fun k_20 => W.load false 1 t15_15 L_17 fun v_22 =>
 k_20 v_22 L_17) L_17 fun t16_19 L_21 =>
 W.grd t13_14 false (fun k_24 => W.len t16_19 fun v_26 =>
 k_24 v_26 L_21) L_21 fun t17_23 L_25 =>
 W.grd t13_14 false (fun k_28 => W.faddr 3 t2_4 fun v_30 =>
 k_28 v_30 L_25) L_25 fun t18_27 L_29 =>
 W.grd t13_14 false (fun k_32 => W.load false 1 t18_27 L_29 fun v_34 =>
 k_32 v_34 L_29) L_29 fun t19_31 L_33 =>
 W.grd t13_14 false (fun k_36 => W.len t19_31 fun v_38 =>
 k_36 v_38 L_33) L_33 fun t20_35 L_37 =>
 W.grd t13_14 false (fun k_40 => W.bin Try.prog Fl .neq 3 t17_23 t20_35 fun v_42 =>
 k_40 v_42 L_37) L_37 fun t21_39 L_41 =>
 W.pick t13_14 (.bool true) t21_39 fun t22_43 =>
 W.grd t22_43 false (fun k_45 => W.faddr 3 t3_6 fun v_47 =>
 k_45 v_47 L_41) L_41 fun t24_44 L_46 =>
 W.grd t22_43 false (fun k_49 => W.load false 1 t24_44 L_46 fun v_51 =>
 k_49 v_51 L_46) L_46 fun t25_48 L_50 =>
 W.grd t22_43 false (fun k_53 => W.len t25_48 fun v_55 =>
 k_53 v_55 L_50) L_50 fun t26_52 L_54 =>
 W.grd t22_43 false (fun k_57 => W.faddr 4 t2_4 fun v_59 =>
 k_57 v_59 L_54) L_54 fun t27_56 L_58 =>
 W.grd t22_43 false (fun k_61 => W.load false 1 t27_56 L_58 fun v_63 =>
 k_61 v_63 L_58) L_58 fun t28_60 L_62 =>
 W.grd t22_43 false (fun k_65 => W.len t28_60 fun v_67 =>
 k_65 v_67 L_62) L_62 fun t29_64 L_66 =>
 W.grd t22_43 false (fun k_69 => W.bin Try.prog Fl .neq 3 t26_52 t29_64 fun v_71 =>
 k_69 v_71 L_66) L_66 fun t30_68 L_70 =>
 W.pick t22_43 (.bool true) t30_68 fun t31_72 =>
 W.cond t31_72 (
 Q (.bool false) L_70) (
 W.faddr 2 t2_4 fun t32_73 =>
 W.load false 1 t32_73 L_70 fun t33_74 =>
 W.len t33_74 fun t34_75 =>
 W.loop (object_Fits_l1 Q) [t2_4, t33_74, t34_75, (.int .i64 0)] L_70)
theorem object_Fits_e (t0 t1 : AV) (L : SH) (Q : AV → SH → Prop) : W.func Try.prog Fl object_Fits_t Try.f37 (Try.f37.body.getD .skip) [t0, t1] L Q = object_Fits_w t0 t1 L Q := by kernel_rfl
theorem object_Fits_ok (t0 t1 : AV) (L : SH) (Q : AV → SH → Prop) (h : object_Fits_w t0 t1 L Q) : CallA Try.prog 37 [t0, t1] L Q :=
  func_sound (ht := object_Fits_t) fit Try.func37 (show Try.f37.body = some (Try.f37.body.getD .skip) by kernel_rfl) (Eq.mpr (object_Fits_e t0 t1 L Q) h)

/- interleave/object.clone -/
def object_clone_t : Hints := ⟨fun k => none, fun k => if k = 3 then [1, 2, 3, 11, 12, 13] else [], fun k => if k = 4 then [5] else [], fun k => if k = 5 then [0, 0, 0, 4, 0, 16, 48, 124, 255, 511] else []⟩
def object_clone_d0 (L_22 : SH) (t21_24 : AV) (vs_12 : List AV) (nx_13 : W.Kn) (t24_29 : AV) (L_31 : SH) (ks_30 : List Nat) : Prop :=
 W.note ⟨[], ks_30, [], L_22.names⟩ fun r_32 =>
 W.build [(.int .i64 0), .nils] [(0, 1, t21_24), (1, 1, t24_29)] fun t25_33 =>
 W.calm [] ⟨8, (slOf (slotOf [1, 2, 3, 11, 12, 13] vs_12 3)), [], [], false, []⟩ (
 W.idx 2 (slotOf [1, 2, 3, 11, 12, 13] vs_12 3) (slotOf [1, 2, 3, 11, 12, 13] vs_12 13) L_31 fun t26_34 =>
 W.note ⟨(slOf (slotOf [1, 2, 3, 11, 12, 13] vs_12 3)), [], [], []⟩ fun r_35 =>
 W.calm [] ⟨9, (blocksOf t26_34), (blocksOf t26_34), [], false, []⟩ (
 W.store 2 t26_34 t25_33 L_31 fun L_36 =>
 W.note ⟨(blocksOf t26_34), (blocksOf t26_34), [], []⟩ fun r_37 =>
 W.bin Try.prog Fl .add 3 (slotOf [1, 2, 3, 11, 12, 13] vs_12 13) (.int .i64 1) fun t27_38 =>
 nx_13 [(slotOf [1, 2, 3, 11, 12, 13] vs_12 1), (slotOf [1, 2, 3, 11, 12, 13] vs_12 2), (slotOf [1, 2, 3, 11, 12, 13] vs_12 3), (slotOf [1, 2, 3, 11, 12, 13] vs_12 11), (slotOf [1, 2, 3, 11, 12, 13] vs_12 12), t27_38] L_36))
def object_clone_c1 (vs_12 : List AV) (Q : AV → SH → Prop) (t36_49 : AV) (L_50 : SH) : Prop :=
 W.faddr 3 (slotOf [1, 2, 3, 11, 12, 13] vs_12 1) fun t37_51 =>
 W.store 1 t37_51 t36_49 L_50 fun L_52 =>
 W.load true 4 (slotOf [1, 2, 3, 11, 12, 13] vs_12 1) L_52 fun t38_53 =>
 W.store 4 (slotOf [1, 2, 3, 11, 12, 13] vs_12 2) t38_53 L_52 fun L_54 =>
 W.load true 4 (slotOf [1, 2, 3, 11, 12, 13] vs_12 2) L_54 fun r_55 =>
 Q r_55 L_54
def object_clone_c2 (vs_12 : List AV) (Q : AV → SH → Prop) (t32_43 : AV) (L_44 : SH) : Prop :=
 W.faddr 2 (slotOf [1, 2, 3, 11, 12, 13] vs_12 1) fun t33_45 =>
 W.store 1 t33_45 t32_43 L_44 fun L_46 =>
 W.faddr 3 (slotOf [1, 2, 3, 11, 12, 13] vs_12 1) fun t34_47 =>
 W.load false 1 t34_47 L_46 fun t35_48 =>
 W.call Try.prog (.fn 77 []) [t35_48] L_46 (object_clone_c1 vs_12 Q)
def object_clone_l3 (Q : AV → SH → Prop) (vs_12 : List AV) (L_14 : SH) (nx_13 : W.Kn) : Prop :=
 W.bin Try.prog Fl .lss 3 (slotOf [1, 2, 3, 11, 12, 13] vs_12 13) (slotOf [1, 2, 3, 11, 12, 13] vs_12 12) fun t14_15 =>
 W.cond t14_15 (
 W.idx 2 (slotOf [1, 2, 3, 11, 12, 13] vs_12 11) (slotOf [1, 2, 3, 11, 12, 13] vs_12 13) L_14 fun t16_16 =>
 W.load true 2 t16_16 L_14 fun t17_17 =>
 W.alloc [(.int .i64 0), .nils] L_14 fun t5_18 L_19 =>
 W.store 2 t5_18 t17_17 L_19 fun L_20 =>
 W.frz1 t5_18 L_20 fun t5_21 L_22 =>
 (true = true) ∧ (
 W.faddr 0 t5_21 fun t20_23 =>
 W.calm [] ⟨3, (blocksOf t20_23), [], [], false, []⟩ (
 W.load false 1 t20_23 L_22 fun t21_24 =>
 W.note ⟨(blocksOf t20_23), [], [], []⟩ fun r_25 =>
 W.faddr 1 t5_21 fun t22_26 =>
 W.calm [⟨3, r_25.reads, r_25.writes, r_25.made, false, r_25.old⟩] ⟨5, (blocksOf t22_26), [], [], false, []⟩ (
 W.load false 1 t22_26 L_22 fun t23_27 =>
 W.note ⟨(blocksOf t22_26), [], [], []⟩ fun r_28 =>
 W.dcall Try.prog [⟨3, r_25.reads, r_25.writes, r_25.made, false, r_25.old⟩] 6 (.fn 68 []) [t23_27] L_22 (object_clone_d0 L_22 t21_24 vs_12 nx_13))))) (
 W.faddr 0 (slotOf [1, 2, 3, 11, 12, 13] vs_12 1) fun t29_39 =>
 W.store 1 t29_39 (slotOf [1, 2, 3, 11, 12, 13] vs_12 3) L_14 fun L_40 =>
 W.faddr 2 (slotOf [1, 2, 3, 11, 12, 13] vs_12 1) fun t30_41 =>
 W.load false 1 t30_41 L_40 fun t31_42 =>
 W.call Try.prog (.fn 76 []) [t31_42] L_40 (object_clone_c2 vs_12 Q))
def object_clone_w (t0 : AV) (L : SH) (Q : AV → SH → Prop) : Prop :=
 W.box t0 L fun t1_0 L_1 =>
 W.alloc [.nils, (.int .i64 0), .nils, .nils] L_1 fun t2_2 L_3 =>
 W.faddr 0 t1_0 fun t6_4 =>
 W.load false 1 t6_4 L_3 fun t7_5 =>
 W.len t7_5 fun t8_6 =>
 W.mslice 2 32 [(.int .i64 0), .nils] t8_6 t8_6 L_3 fun t9_7 L_8 =>
 W.faddr 0 t1_0 fun t10_9 =>
 W.load false 1 t10_9 L_8 fun t11_10 =>
 W.len t11_10 fun t12_11 =>
 W.loop (object_clone_l3 Q) [t1_0, t2_2, t9_7, t11_10, t12_11, (.int .i64 0)] L_8
theorem object_clone_e (t0 : AV) (L : SH) (Q : AV → SH → Prop) : W.func Try.prog Fl object_clone_t Try.f47 (Try.f47.body.getD .skip) [t0] L Q = object_clone_w t0 L Q := by kernel_rfl
theorem object_clone_ok (t0 : AV) (L : SH) (Q : AV → SH → Prop) (h : object_clone_w t0 L Q) : CallA Try.prog 47 [t0] L Q :=
  func_sound (ht := object_clone_t) fit Try.func47 (show Try.f47.body = some (Try.f47.body.getD .skip) by kernel_rfl) (Eq.mpr (object_clone_e t0 L Q) h)

/- interleave/object.Apply$1 -/
def object_Apply_1_t : Hints := ⟨fun k => none, fun k => [], fun k => [], fun k => []⟩
def object_Apply_1_w (t0 t1 : AV) (L : SH) (Q : AV → SH → Prop) : Prop :=
 W.load false 1 t1 L fun t5_0 =>
 W.bin Try.prog Fl .eql 3 t0 t5_0 fun t6_1 =>
 Q t6_1 L
theorem object_Apply_1_e (t0 t1 : AV) (L : SH) (Q : AV → SH → Prop) : W.func Try.prog Fl object_Apply_1_t Try.f49 (Try.f49.body.getD .skip) [t0, t1] L Q = object_Apply_1_w t0 t1 L Q := by kernel_rfl
theorem object_Apply_1_ok (t0 t1 : AV) (L : SH) (Q : AV → SH → Prop) (h : object_Apply_1_w t0 t1 L Q) : CallA Try.prog 49 [t0, t1] L Q :=
  func_sound (ht := object_Apply_1_t) fit Try.func49 (show Try.f49.body = some (Try.f49.body.getD .skip) by kernel_rfl) (Eq.mpr (object_Apply_1_e t0 t1 L Q) h)

/- interleave/object.notify -/
def object_notify_t : Hints := ⟨fun k => none, fun k => if k = 3 then [1, 2, 3, 7, 11, 12, 13] else [], fun k => if k = 0 then [3] else if k = 4 then [9] else [], fun k => []⟩
def object_notify_c0 (vs_7 : List AV) (nx_8 : W.Kn) (t20_19 : AV) (L_20 : SH) : Prop :=
 W.grd t20_19 true (fun k_22 => k_22 (slotOf [1, 2, 3, 7, 11, 12, 13] vs_7 7) L_20) L_20 fun t22_21 L_23 =>
 W.grd t20_19 true (fun k_25 => W.bin Try.prog Fl .lss 3 t22_21 (.int .i64 0) fun v_27 =>
 k_25 v_27 L_23) L_23 fun t23_24 L_26 =>
 W.grd t20_19 true (fun k_29 => k_29 t23_24 L_26) L_26 fun t24_28 L_30 =>
 W.grd t24_28 false (fun k_32 => k_32 (slotOf [1, 2, 3, 7, 11, 12, 13] vs_7 13) L_30) L_30 fun t25_31 L_33 =>
 W.grd t24_28 false (fun k_35 => k_35 (slotOf [1, 2, 3, 7, 11, 12, 13] vs_7 2) L_33) L_33 fun t26_34 L_36 =>
 W.grd t24_28 false (fun k_38 => W.bin Try.prog Fl .eql 3 t25_31 t26_34 fun v_40 =>
 k_38 v_40 L_36) L_36 fun t27_37 L_39 =>
 W.grd t20_19 true (fun k_42 => W.pick t24_28 (.bool true) t27_37 fun v_44 =>
 k_42 v_44 L_39) L_39 fun t28_41 L_43 =>
 W.pick t20_19 t28_41 (.bool false) fun t29_45 =>
 W.cond t29_45 (
 W.bin Try.prog Fl .add 3 (slotOf [1, 2, 3, 7, 11, 12, 13] vs_7 13) (.int .i64 1) fun t31_46 =>
 nx_8 [(slotOf [1, 2, 3, 7, 11, 12, 13] vs_7 1), (slotOf [1, 2, 3, 7, 11, 12, 13] vs_7 2), (slotOf [1, 2, 3, 7, 11, 12, 13] vs_7 3), (slotOf [1, 2, 3, 7, 11, 12, 13] vs_7 13), (slotOf [1, 2, 3, 7, 11, 12, 13] vs_7 11), (slotOf [1, 2, 3, 7, 11, 12, 13] vs_7 12), t31_46] L_43) (
 W.bin Try.prog Fl .add 3 (slotOf [1, 2, 3, 7, 11, 12, 13] vs_7 13) (.int .i64 1) fun t31_47 =>
 nx_8 [(slotOf [1, 2, 3, 7, 11, 12, 13] vs_7 1), (slotOf [1, 2, 3, 7, 11, 12, 13] vs_7 2), (slotOf [1, 2, 3, 7, 11, 12, 13] vs_7 3), (slotOf [1, 2, 3, 7, 11, 12, 13] vs_7 7), (slotOf [1, 2, 3, 7, 11, 12, 13] vs_7 11), (slotOf [1, 2, 3, 7, 11, 12, 13] vs_7 12), t31_47] L_43)
def object_notify_l1 (Q : AV → SH → Prop) (vs_7 : List AV) (L_9 : SH) (nx_8 : W.Kn) : Prop :=
 W.bin Try.prog Fl .lss 3 (slotOf [1, 2, 3, 7, 11, 12, 13] vs_7 13) (slotOf [1, 2, 3, 7, 11, 12, 13] vs_7 12) fun t14_10 =>
 W.cond t14_10 (
 W.idx 3 (slotOf [1, 2, 3, 7, 11, 12, 13] vs_7 11) (slotOf [1, 2, 3, 7, 11, 12, 13] vs_7 13) L_9 fun t16_11 =>
 W.load true 3 t16_11 L_9 fun t17_12 =>
 W.alloc [(.int .i64 0), (.int .i64 0), (.bool false)] L_9 fun t9_13 L_14 =>
 W.store 3 t9_13 t17_12 L_14 fun L_15 =>
 W.frz1 t9_13 L_15 fun t9_16 L_17 =>
 W.load true 3 t9_16 L_17 fun t18_18 =>
 W.call Try.prog (.fn 79 []) [t18_18, (slotOf [1, 2, 3, 7, 11, 12, 13] vs_7 1)] L_17 (object_notify_c0 vs_7 nx_8)) (
 W.bin Try.prog Fl .geq 3 (slotOf [1, 2, 3, 7, 11, 12, 13] vs_7 7) (.int .i64 0) fun t33_48 =>
 W.cond t33_48 (
 W.faddr 3 (slotOf [1, 2, 3, 7, 11, 12, 13] vs_7 3) fun t34_49 =>
 W.load false 1 t34_49 L_9 fun t35_50 =>
 W.idx 3 t35_50 (slotOf [1, 2, 3, 7, 11, 12, 13] vs_7 7) L_9 fun t37_51 =>
 W.faddr 0 t37_51 fun t38_52 =>
 W.store 1 t38_52 (.int .i64 4) L_9 fun L_53 =>
 Q (slotOf [1, 2, 3, 7, 11, 12, 13] vs_7 7) L_53) (
 Q (slotOf [1, 2, 3, 7, 11, 12, 13] vs_7 7) L_9))
def object_notify_w (t0 t1 t2 : AV) (L : SH) (Q : AV → SH → Prop) : Prop :=
 W.box t0 L fun t3_0 L_1 =>
 W.frz1 t3_0 L_1 fun t3_2 L_3 =>
 W.faddr 3 t3_2 fun t10_4 =>
 W.load false 1 t10_4 L_3 fun t11_5 =>
 W.len t11_5 fun t12_6 =>
 W.loop (object_notify_l1 Q) [t1, t2, t3_2, (.int .i64 (-1)), t11_5, t12_6, (.int .i64 0)] L_3
theorem object_notify_e (t0 t1 t2 : AV) (L : SH) (Q : AV → SH → Prop) : W.func Try.prog Fl object_notify_t Try.f50 (Try.f50.body.getD .skip) [t0, t1, t2] L Q = object_notify_w t0 t1 t2 L Q := by kernel_rfl
theorem object_notify_ok (t0 t1 t2 : AV) (L : SH) (Q : AV → SH → Prop) (h : object_notify_w t0 t1 t2 L Q) : CallA Try.prog 50 [t0, t1, t2] L Q :=
  func_sound (ht := object_notify_t) fit Try.func50 (show Try.f50.body = some (Try.f50.body.getD .skip) by kernel_rfl) (Eq.mpr (object_notify_e t0 t1 t2 L Q) h)

/- interleave/object.notifyAll -/
def object_notifyAll_t : Hints := ⟨fun k => none, fun k => if k = 3 then [1, 2, 5, 9, 10, 11] else [], fun k => if k = 0 then [2] else if k = 4 then [7] else [], fun k => []⟩
def object_notifyAll_c0 (vs_7 : List AV) (nx_8 : W.Kn) (t18_19 : AV) (L_20 : SH) : Prop :=
 W.cond t18_19 (
 W.faddr 3 (slotOf [1, 2, 5, 9, 10, 11] vs_7 2) fun t19_21 =>
 W.load false 1 t19_21 L_20 fun t20_22 =>
 W.idx 3 t20_22 (slotOf [1, 2, 5, 9, 10, 11] vs_7 11) L_20 fun t22_23 =>
 W.faddr 0 t22_23 fun t23_24 =>
 W.store 1 t23_24 (.int .i64 4) L_20 fun L_25 =>
 W.bin Try.prog Fl .add 3 (slotOf [1, 2, 5, 9, 10, 11] vs_7 5) (.int .i64 1) fun t25_26 =>
 W.bin Try.prog Fl .add 3 (slotOf [1, 2, 5, 9, 10, 11] vs_7 11) (.int .i64 1) fun t26_27 =>
 nx_8 [(slotOf [1, 2, 5, 9, 10, 11] vs_7 1), (slotOf [1, 2, 5, 9, 10, 11] vs_7 2), t25_26, (slotOf [1, 2, 5, 9, 10, 11] vs_7 9), (slotOf [1, 2, 5, 9, 10, 11] vs_7 10), t26_27] L_25) (
 W.bin Try.prog Fl .add 3 (slotOf [1, 2, 5, 9, 10, 11] vs_7 11) (.int .i64 1) fun t26_28 =>
 nx_8 [(slotOf [1, 2, 5, 9, 10, 11] vs_7 1), (slotOf [1, 2, 5, 9, 10, 11] vs_7 2), (slotOf [1, 2, 5, 9, 10, 11] vs_7 5), (slotOf [1, 2, 5, 9, 10, 11] vs_7 9), (slotOf [1, 2, 5, 9, 10, 11] vs_7 10), t26_28] L_20)
def object_notifyAll_l1 (Q : AV → SH → Prop) (vs_7 : List AV) (L_9 : SH) (nx_8 : W.Kn) : Prop :=
 W.bin Try.prog Fl .lss 3 (slotOf [1, 2, 5, 9, 10, 11] vs_7 11) (slotOf [1, 2, 5, 9, 10, 11] vs_7 10) fun t12_10 =>
 W.cond t12_10 (
 W.idx 3 (slotOf [1, 2, 5, 9, 10, 11] vs_7 9) (slotOf [1, 2, 5, 9, 10, 11] vs_7 11) L_9 fun t14_11 =>
 W.load true 3 t14_11 L_9 fun t15_12 =>
 W.alloc [(.int .i64 0), (.int .i64 0), (.bool false)] L_9 fun t7_13 L_14 =>
 W.store 3 t7_13 t15_12 L_14 fun L_15 =>
 W.frz1 t7_13 L_15 fun t7_16 L_17 =>
 W.load true 3 t7_16 L_17 fun t16_18 =>
 W.call Try.prog (.fn 79 []) [t16_18, (slotOf [1, 2, 5, 9, 10, 11] vs_7 1)] L_17 (object_notifyAll_c0 vs_7 nx_8)) (
 Q (slotOf [1, 2, 5, 9, 10, 11] vs_7 5) L_9)
def object_notifyAll_w (t0 t1 : AV) (L : SH) (Q : AV → SH → Prop) : Prop :=
 W.box t0 L fun t2_0 L_1 =>
 W.frz1 t2_0 L_1 fun t2_2 L_3 =>
 W.faddr 3 t2_2 fun t8_4 =>
 W.load false 1 t8_4 L_3 fun t9_5 =>
 W.len t9_5 fun t10_6 =>
 W.loop (object_notifyAll_l1 Q) [t1, t2_2, (.int .i64 0), t9_5, t10_6, (.int .i64 0)] L_3
theorem object_notifyAll_e (t0 t1 : AV) (L : SH) (Q : AV → SH → Prop) : W.func Try.prog Fl object_notifyAll_t Try.f51 (Try.f51.body.getD .skip) [t0, t1] L Q = object_notifyAll_w t0 t1 L Q := by kernel_rfl
theorem object_notifyAll_ok (t0 t1 : AV) (L : SH) (Q : AV → SH → Prop) (h : object_notifyAll_w t0 t1 L Q) : CallA Try.prog 51 [t0, t1] L Q :=
  func_sound (ht := object_notifyAll_t) fit Try.func51 (show Try.f51.body = some (Try.f51.body.getD .skip) by kernel_rfl) (Eq.mpr (object_notifyAll_e t0 t1 L Q) h)

/- interleave/object.within -/
def object_within_t : Hints := ⟨fun k => none, fun k => [], fun k => [], fun k => []⟩
def object_within_w (t0 t1 : AV) (L : SH) (Q : AV → SH → Prop) : Prop :=
 W.bin Try.prog Fl .geq 3 t0 (.int .i64 0) fun t6_0 =>
 W.grd t6_0 true (fun k_2 => k_2 t0 L) L fun t8_1 L_3 =>
 W.grd t6_0 true (fun k_5 => k_5 t1 L_3) L_3 fun t9_4 L_6 =>
 W.grd t6_0 true (fun k_8 => W.bin Try.prog Fl .lss 3 t8_1 t9_4 fun v_10 =>
 k_8 v_10 L_6) L_6 fun t10_7 L_9 =>
 W.pick t6_0 t10_7 (.bool false) fun t11_11 =>
 Q t11_11 L_9
theorem object_within_e (t0 t1 : AV) (L : SH) (Q : AV → SH → Prop) : W.func Try.prog Fl object_within_t Try.f52 (Try.f52.body.getD .skip) [t0, t1] L Q = object_within_w t0 t1 L Q := by kernel_rfl
theorem object_within_ok (t0 t1 : AV) (L : SH) (Q : AV → SH → Prop) (h : object_within_w t0 t1 L Q) : CallA Try.prog 52 [t0, t1] L Q :=
  func_sound (ht := object_within_t) fit Try.func52 (show Try.f52.body = some (Try.f52.body.getD .skip) by kernel_rfl) (Eq.mpr (object_within_e t0 t1 L Q) h)

/- interleave/object.allowed -/
def object_allowed_t : Hints := ⟨fun k => if k = 8 then some [2, 3, 7, 8] else if k = 11 then some [2, 3, 7, 18] else if k = 14 then some [2, 3, 7, 26] else if k = 19 then some [2, 3, 7, 43] else if k = 24 then some [2, 3, 7, 61] else if k = 27 then some [2, 3, 7, 71] else if k = 30 then some [2, 3, 79] else none, fun k => [], fun k => if k = 0 then [3] else [], fun k => []⟩
def object_allowed_c0 (vs_16 : List AV) (Q : AV → SH → Prop) (t33_22 : AV) (L_23 : SH) : Prop :=
 W.grd t33_22 true (fun k_25 => W.faddr 1 (slotOf [2, 3, 7, 26] vs_16 3) fun v_27 =>
 k_25 v_27 L_23) L_23 fun t35_24 L_26 =>
 W.grd t33_22 true (fun k_29 => W.load false 1 t35_24 L_26 fun v_31 =>
 k_29 v_31 L_26) L_26 fun t36_28 L_30 =>
 W.grd t33_22 true (fun k_33 => k_33 (slotOf [2, 3, 7, 26] vs_16 2) L_30) L_30 fun t37_32 L_34 =>
 W.grd t33_22 true (fun k_36 => W.idx 2 t36_28 t37_32 L_34 fun v_38 =>
 k_36 v_38 L_34) L_34 fun t38_35 L_37 =>
 W.grd t33_22 true (fun k_40 => W.faddr 1 t38_35 fun v_42 =>
 k_40 v_42 L_37) L_37 fun t39_39 L_41 =>
 W.grd t33_22 true (fun k_44 => W.load false 1 t39_39 L_41 fun v_46 =>
 k_44 v_46 L_41) L_41 fun t40_43 L_45 =>
 W.grd t33_22 true (fun k_48 => W.un .not t40_43 fun v_50 =>
 k_48 v_50 L_45) L_45 fun t41_47 L_49 =>
 W.pick t33_22 t41_47 (.bool false) fun t42_51 =>
 Q t42_51 L_49
def object_allowed_c1 (vs_52 : List AV) (Q : AV → SH → Prop) (t52_58 : AV) (L_59 : SH) : Prop :=
 W.grd t52_58 true (fun k_61 => W.faddr 1 (slotOf [2, 3, 7, 43] vs_52 3) fun v_63 =>
 k_61 v_63 L_59) L_59 fun t54_60 L_62 =>
 W.grd t52_58 true (fun k_65 => W.load false 1 t54_60 L_62 fun v_67 =>
 k_65 v_67 L_62) L_62 fun t55_64 L_66 =>
 W.grd t52_58 true (fun k_69 => k_69 (slotOf [2, 3, 7, 43] vs_52 2) L_66) L_66 fun t56_68 L_70 =>
 W.grd t52_58 true (fun k_72 => W.idx 2 t55_64 t56_68 L_70 fun v_74 =>
 k_72 v_74 L_70) L_70 fun t57_71 L_73 =>
 W.grd t52_58 true (fun k_76 => W.faddr 1 t57_71 fun v_78 =>
 k_76 v_78 L_73) L_73 fun t58_75 L_77 =>
 W.grd t52_58 true (fun k_80 => W.load false 1 t58_75 L_77 fun v_82 =>
 k_80 v_82 L_77) L_77 fun t59_79 L_81 =>
 W.pick t52_58 t59_79 (.bool false) fun t60_83 =>
 Q t60_83 L_81
def object_allowed_j2 (Q : AV → SH → Prop) (vs_100 : List AV) (L_102 : SH) : Prop :=
 W.cond (slotOf [2, 3, 79] vs_100 79) (
 W.faddr 3 (slotOf [2, 3, 79] vs_100 3) fun t83_103 =>
 W.load false 1 t83_103 L_102 fun t84_104 =>
 W.len t84_104 fun t85_105 =>
 W.call Try.prog (.fn 52 []) [(slotOf [2, 3, 79] vs_100 2), t85_105] L_102 fun t86_106 L_107 =>
 Q t86_106 L_107) (
 Q (.bool false) L_102)
def object_allowed_j3 (Q : AV → SH → Prop) (vs_92 : List AV) (L_94 : SH) : Prop :=
 W.cond (slotOf [2, 3, 7, 71] vs_92 71) (
 W.faddr 4 (slotOf [2, 3, 7, 71] vs_92 3) fun t75_95 =>
 W.load false 1 t75_95 L_94 fun t76_96 =>
 W.len t76_96 fun t77_97 =>
 W.call Try.prog (.fn 52 []) [(slotOf [2, 3, 7, 71] vs_92 2), t77_97] L_94 fun t78_98 L_99 =>
 Q t78_98 L_99) (
 W.join (object_allowed_j2 Q) fun j_101 =>
 W.bin Try.prog Fl .eql 3 (slotOf [2, 3, 7, 71] vs_92 7) (.int .i64 22) fun t80_108 =>
 W.cond t80_108 (
 j_101 [(slotOf [2, 3, 7, 71] vs_92 2), (slotOf [2, 3, 7, 71] vs_92 3), t80_108] L_94) (
 W.bin Try.prog Fl .eql 3 (slotOf [2, 3, 7, 71] vs_92 7) (.int .i64 23) fun t81_109 =>
 j_101 [(slotOf [2, 3, 7, 71] vs_92 2), (slotOf [2, 3, 7, 71] vs_92 3), t81_109] L_94))
def object_allowed_j4 (Q : AV → SH → Prop) (vs_84 : List AV) (L_86 : SH) : Prop :=
 W.cond (slotOf [2, 3, 7, 61] vs_84 61) (
 W.faddr 2 (slotOf [2, 3, 7, 61] vs_84 3) fun t67_87 =>
 W.load false 1 t67_87 L_86 fun t68_88 =>
 W.len t68_88 fun t69_89 =>
 W.call Try.prog (.fn 52 []) [(slotOf [2, 3, 7, 61] vs_84 2), t69_89] L_86 fun t70_90 L_91 =>
 Q t70_90 L_91) (
 W.join (object_allowed_j3 Q) fun j_93 =>
 W.bin Try.prog Fl .eql 3 (slotOf [2, 3, 7, 61] vs_84 7) (.int .i64 20) fun t72_110 =>
 W.cond t72_110 (
 j_93 [(slotOf [2, 3, 7, 61] vs_84 2), (slotOf [2, 3, 7, 61] vs_84 3), (slotOf [2, 3, 7, 61] vs_84 7), t72_110] L_86) (
 W.bin Try.prog Fl .eql 3 (slotOf [2, 3, 7, 61] vs_84 7) (.int .i64 21) fun t73_111 =>
 j_93 [(slotOf [2, 3, 7, 61] vs_84 2), (slotOf [2, 3, 7, 61] vs_84 3), (slotOf [2, 3, 7, 61] vs_84 7), t73_111] L_86))
def object_allowed_j5 (Q : AV → SH → Prop) (vs_52 : List AV) (L_54 : SH) : Prop :=
 W.cond (slotOf [2, 3, 7, 43] vs_52 43) (
 W.faddr 1 (slotOf [2, 3, 7, 43] vs_52 3) fun t49_55 =>
 W.load false 1 t49_55 L_54 fun t50_56 =>
 W.len t50_56 fun t51_57 =>
 W.call Try.prog (.fn 52 []) [(slotOf [2, 3, 7, 43] vs_52 2), t51_57] L_54 (object_allowed_c1 vs_52 Q)) (
 W.join (object_allowed_j4 Q) fun j_85 =>
 W.bin Try.prog Fl .eql 3 (slotOf [2, 3, 7, 43] vs_52 7) (.int .i64 16) fun t62_112 =>
 W.cond t62_112 (
 j_85 [(slotOf [2, 3, 7, 43] vs_52 2), (slotOf [2, 3, 7, 43] vs_52 3), (slotOf [2, 3, 7, 43] vs_52 7), t62_112] L_54) (
 W.bin Try.prog Fl .eql 3 (slotOf [2, 3, 7, 43] vs_52 7) (.int .i64 17) fun t63_113 =>
 W.cond t63_113 (
 j_85 [(slotOf [2, 3, 7, 43] vs_52 2), (slotOf [2, 3, 7, 43] vs_52 3), (slotOf [2, 3, 7, 43] vs_52 7), t63_113] L_54) (
 W.bin Try.prog Fl .eql 3 (slotOf [2, 3, 7, 43] vs_52 7) (.int .i64 18) fun t64_114 =>
 W.cond t64_114 (
 j_85 [(slotOf [2, 3, 7, 43] vs_52 2), (slotOf [2, 3, 7, 43] vs_52 3), (slotOf [2, 3, 7, 43] vs_52 7), t64_114] L_54) (
 W.bin Try.prog Fl .eql 3 (slotOf [2, 3, 7, 43] vs_52 7) (.int .i64 19) fun t65_115 =>
 j_85 [(slotOf [2, 3, 7, 43] vs_52 2), (slotOf [2, 3, 7, 43] vs_52 3), (slotOf [2, 3, 7, 43] vs_52 7), t65_115] L_54))))
def object_allowed_j6 (Q : AV → SH → Prop) (vs_16 : List AV) (L_18 : SH) : Prop :=
 W.cond (slotOf [2, 3, 7, 26] vs_16 26) (
 W.faddr 1 (slotOf [2, 3, 7, 26] vs_16 3) fun t30_19 =>
 W.load false 1 t30_19 L_18 fun t31_20 =>
 W.len t31_20 fun t32_21 =>
 W.call Try.prog (.fn 52 []) [(slotOf [2, 3, 7, 26] vs_16 2), t32_21] L_18 (object_allowed_c0 vs_16 Q)) (
 W.join (object_allowed_j5 Q) fun j_53 =>
 W.bin Try.prog Fl .eql 3 (slotOf [2, 3, 7, 26] vs_16 7) (.int .i64 8) fun t44_116 =>
 W.cond t44_116 (
 j_53 [(slotOf [2, 3, 7, 26] vs_16 2), (slotOf [2, 3, 7, 26] vs_16 3), (slotOf [2, 3, 7, 26] vs_16 7), t44_116] L_18) (
 W.bin Try.prog Fl .eql 3 (slotOf [2, 3, 7, 26] vs_16 7) (.int .i64 9) fun t45_117 =>
 W.cond t45_117 (
 j_53 [(slotOf [2, 3, 7, 26] vs_16 2), (slotOf [2, 3, 7, 26] vs_16 3), (slotOf [2, 3, 7, 26] vs_16 7), t45_117] L_18) (
 W.bin Try.prog Fl .eql 3 (slotOf [2, 3, 7, 26] vs_16 7) (.int .i64 10) fun t46_118 =>
 W.cond t46_118 (
 j_53 [(slotOf [2, 3, 7, 26] vs_16 2), (slotOf [2, 3, 7, 26] vs_16 3), (slotOf [2, 3, 7, 26] vs_16 7), t46_118] L_18) (
 W.bin Try.prog Fl .eql 3 (slotOf [2, 3, 7, 26] vs_16 7) (.int .i64 11) fun t47_119 =>
 j_53 [(slotOf [2, 3, 7, 26] vs_16 2), (slotOf [2, 3, 7, 26] vs_16 3), (slotOf [2, 3, 7, 26] vs_16 7), t47_119] L_18))))
def object_allowed_j7 (Q : AV → SH → Prop) (vs_8 : List AV) (L_10 : SH) : Prop :=
 W.cond (slotOf [2, 3, 7, 18] vs_8 18) (
 W.faddr 0 (slotOf [2, 3, 7, 18] vs_8 3) fun t22_11 =>
 W.load false 1 t22_11 L_10 fun t23_12 =>
 W.len t23_12 fun t24_13 =>
 W.call Try.prog (.fn 52 []) [(slotOf [2, 3, 7, 18] vs_8 2), t24_13] L_10 fun t25_14 L_15 =>
 Q t25_14 L_15) (
 W.join (object_allowed_j6 Q) fun j_17 =>
 W.bin Try.prog Fl .eql 3 (slotOf [2, 3, 7, 18] vs_8 7) (.int .i64 6) fun t27_120 =>
 W.cond t27_120 (
 j_17 [(slotOf [2, 3, 7, 18] vs_8 2), (slotOf [2, 3, 7, 18] vs_8 3), (slotOf [2, 3, 7, 18] vs_8 7), t27_120] L_10) (
 W.bin Try.prog Fl .eql 3 (slotOf [2, 3, 7, 18] vs_8 7) (.int .i64 7) fun t28_121 =>
 j_17 [(slotOf [2, 3, 7, 18] vs_8 2), (slotOf [2, 3, 7, 18] vs_8 3), (slotOf [2, 3, 7, 18] vs_8 7), t28_121] L_10))
def object_allowed_j8 (Q : AV → SH → Prop) (vs_4 : List AV) (L_6 : SH) : Prop :=
 W.cond (slotOf [2, 3, 7, 8] vs_4 8) (
 W.bin Try.prog Fl .eql 3 (slotOf [2, 3, 7, 8] vs_4 2) (.int .i64 (-1)) fun t17_7 =>
 Q t17_7 L_6) (
 W.join (object_allowed_j7 Q) fun j_9 =>
 W.bin Try.prog Fl .eql 3 (slotOf [2, 3, 7, 8] vs_4 7) (.int .i64 3) fun t19_122 =>
 W.cond t19_122 (
 j_9 [(slotOf [2, 3, 7, 8] vs_4 2), (slotOf [2, 3, 7, 8] vs_4 3), (slotOf [2, 3, 7, 8] vs_4 7), t19_122] L_6) (
 W.bin Try.prog Fl .eql 3 (slotOf [2, 3, 7, 8] vs_4 7) (.int .i64 4) fun t20_123 =>
 j_9 [(slotOf [2, 3, 7, 8] vs_4 2), (slotOf [2, 3, 7, 8] vs_4 3), (slotOf [2, 3, 7, 8] vs_4 7), t20_123] L_6))
def object_allowed_w (t0 t1 t2 : AV) (L : SH) (Q : AV → SH → Prop) : Prop :=
 W.box t0 L fun t3_0 L_1 =>
 W.frz1 t3_0 L_1 fun t3_2 L_3 =>
 W.join (object_allowed_j8 Q) fun j_5 =>
 W.bin Try.prog Fl .eql 3 t1 (.int .i64 1) fun t9_124 =>
 W.cond t9_124 (
 j_5 [t2, t3_2, t1, t9_124] L_3) (
 W.bin Try.prog Fl .eql 3 t1 (.int .i64 2) fun t10_125 =>
 W.cond t10_125 (
 j_5 [t2, t3_2, t1, t10_125] L_3) (
 W.bin Try.prog Fl .eql 3 t1 (.int .i64 5) fun t11_126 =>
 W.cond t11_126 (
 j_5 [t2, t3_2, t1, t11_126] L_3) (
 W.bin Try.prog Fl .eql 3 t1 (.int .i64 12) fun t12_127 =>
 W.cond t12_127 (
 j_5 [t2, t3_2, t1, t12_127] L_3) (
 W.bin Try.prog Fl .eql 3 t1 (.int .i64 13) fun t13_128 =>
 W.cond t13_128 (
 j_5 [t2, t3_2, t1, t13_128] L_3) (
 W.bin Try.prog Fl .eql 3 t1 (.int .i64 14) fun t14_129 =>
 W.cond t14_129 (
 j_5 [t2, t3_2, t1, t14_129] L_3) (
 W.bin Try.prog Fl .eql 3 t1 (.int .i64 15) fun t15_130 =>
 j_5 [t2, t3_2, t1, t15_130] L_3))))))
theorem object_allowed_e (t0 t1 t2 : AV) (L : SH) (Q : AV → SH → Prop) : W.func Try.prog Fl object_allowed_t Try.f53 (Try.f53.body.getD .skip) [t0, t1, t2] L Q = object_allowed_w t0 t1 t2 L Q := by kernel_rfl
theorem object_allowed_ok (t0 t1 t2 : AV) (L : SH) (Q : AV → SH → Prop) (h : object_allowed_w t0 t1 t2 L Q) : CallA Try.prog 53 [t0, t1, t2] L Q :=
  func_sound (ht := object_allowed_t) fit Try.func53 (show Try.f53.body = some (Try.f53.body.getD .skip) by kernel_rfl) (Eq.mpr (object_allowed_e t0 t1 t2 L Q) h)

/- interleave/object.ready -/
def object_ready_t : Hints := ⟨fun k => if k = 9 then some [2, 4, 5, 6, 11, 60] else if k = 23 then some [2, 4, 5, 6, 11, 109] else none, fun k => [], fun k => if k = 0 then [5, 6] else [], fun k => if k = 24 then [0, 1, 0, 4, 0, 28, 60, 124, 255, 511, 1023, 0, 4095, 8191] else []⟩
def object_ready_j0 (Q : AV → SH → Prop) (vs_135 : List AV) (L_137 : SH) : Prop :=
 W.cond (slotOf [2, 4, 5, 6, 11, 109] vs_135 109) (
 (true = true) ∧ (
 W.faddr 0 (slotOf [2, 4, 5, 6, 11, 109] vs_135 6) fun t113_138 =>
 W.calm [] ⟨1, (blocksOf t113_138), [], [], false, []⟩ (
 W.load false 1 t113_138 L_137 fun t114_139 =>
 W.note ⟨(blocksOf t113_138), [], [], []⟩ fun r_140 =>
 W.faddr 2 (slotOf [2, 4, 5, 6, 11, 109] vs_135 5) fun t115_141 =>
 W.calm [⟨1, r_140.reads, r_140.writes, r_140.made, false, r_140.old⟩] ⟨3, (blocksOf t115_141), [], [], false, []⟩ (
 W.load false 1 t115_141 L_137 fun t116_142 =>
 W.note ⟨(blocksOf t115_141), [], [], []⟩ fun r_143 =>
 W.calm [⟨1, r_140.reads, r_140.writes, r_140.made, false, r_140.old⟩] ⟨5, (slOf t116_142), [], [], false, []⟩ (
 W.idx 2 t116_142 (slotOf [2, 4, 5, 6, 11, 109] vs_135 4) L_137 fun t118_144 =>
 W.note ⟨(slOf t116_142), [], [], []⟩ fun r_145 =>
 W.faddr 1 t118_144 fun t119_146 =>
 W.calm [⟨1, r_140.reads, r_140.writes, r_140.made, false, r_140.old⟩] ⟨7, (blocksOf t119_146), [], [], false, []⟩ (
 W.load false 1 t119_146 L_137 fun t120_147 =>
 W.note ⟨(blocksOf t119_146), [], [], []⟩ fun r_148 =>
 W.calm [] ⟨8, (slOf t114_139), [], [], false, []⟩ (
 W.idx 2 t114_139 t120_147 L_137 fun t121_149 =>
 W.note ⟨(slOf t114_139), [], [], []⟩ fun r_150 =>
 W.faddr 0 t121_149 fun t122_151 =>
 W.calm [] ⟨10, (blocksOf t122_151), [], [], false, []⟩ (
 W.load false 1 t122_151 L_137 fun t123_152 =>
 W.note ⟨(blocksOf t122_151), [], [], []⟩ fun r_153 =>
 W.bin Try.prog Fl .eql 3 t123_152 (slotOf [2, 4, 5, 6, 11, 109] vs_135 2) fun t125_154 =>
 Q t125_154 L_137)))))))) (
 W.bin Try.prog Fl .eql 3 (slotOf [2, 4, 5, 6, 11, 109] vs_135 11) (.int .i64 20) fun t127_155 =>
 W.cond t127_155 (
 W.bin Try.prog Fl .neq 3 (slotOf [2, 4, 5, 6, 11, 109] vs_135 4) (slotOf [2, 4, 5, 6, 11, 109] vs_135 2) fun t130_156 =>
 W.grd t130_156 true (fun k_158 => W.faddr 3 (slotOf [2, 4, 5, 6, 11, 109] vs_135 6) fun v_160 =>
 k_158 v_160 L_137) L_137 fun t132_157 L_159 =>
 W.grd t130_156 true (fun k_162 => W.load false 1 t132_157 L_159 fun v_164 =>
 k_162 v_164 L_159) L_159 fun t133_161 L_163 =>
 W.grd t130_156 true (fun k_166 => k_166 (slotOf [2, 4, 5, 6, 11, 109] vs_135 4) L_163) L_163 fun t134_165 L_167 =>
 W.grd t130_156 true (fun k_169 => W.idx 3 t133_161 t134_165 L_167 fun v_171 =>
 k_169 v_171 L_167) L_167 fun t135_168 L_170 =>
 W.grd t130_156 true (fun k_173 => W.faddr 0 t135_168 fun v_175 =>
 k_173 v_175 L_170) L_170 fun t136_172 L_174 =>
 W.grd t130_156 true (fun k_177 => W.load false 1 t136_172 L_174 fun v_179 =>
 k_177 v_179 L_174) L_174 fun t137_176 L_178 =>
 W.grd t130_156 true (fun k_181 => W.bin Try.prog Fl .eql 3 t137_176 (.int .i64 0) fun v_183 =>
 k_181 v_183 L_178) L_178 fun t138_180 L_182 =>
 W.pick t130_156 t138_180 (.bool false) fun t139_184 =>
 Q t139_184 L_182) (
 W.bin Try.prog Fl .eql 3 (slotOf [2, 4, 5, 6, 11, 109] vs_135 11) (.int .i64 21) fun t141_185 =>
 W.cond t141_185 (
 W.bin Try.prog Fl .neq 3 (slotOf [2, 4, 5, 6, 11, 109] vs_135 4) (slotOf [2, 4, 5, 6, 11, 109] vs_135 2) fun t144_186 =>
 W.grd t144_186 true (fun k_188 => W.faddr 3 (slotOf [2, 4, 5, 6, 11, 109] vs_135 6) fun v_190 =>
 k_188 v_190 L_137) L_137 fun t146_187 L_189 =>
 W.grd t144_186 true (fun k_192 => W.load false 1 t146_187 L_189 fun v_194 =>
 k_192 v_194 L_189) L_189 fun t147_191 L_193 =>
 W.grd t144_186 true (fun k_196 => k_196 (slotOf [2, 4, 5, 6, 11, 109] vs_135 4) L_193) L_193 fun t148_195 L_197 =>
 W.grd t144_186 true (fun k_199 => W.idx 3 t147_191 t148_195 L_197 fun v_201 =>
 k_199 v_201 L_197) L_197 fun t149_198 L_200 =>
 W.grd t144_186 true (fun k_203 => W.faddr 0 t149_198 fun v_205 =>
 k_203 v_205 L_200) L_200 fun t150_202 L_204 =>
 W.grd t144_186 true (fun k_207 => W.load false 1 t150_202 L_204 fun v_209 =>
 k_207 v_209 L_204) L_204 fun t151_206 L_208 =>
 W.grd t144_186 true (fun k_211 => W.bin Try.prog Fl .eql 3 t151_206 (.int .i64 5) fun v_213 =>
 k_211 v_213 L_208) L_208 fun t152_210 L_212 =>
 W.pick t144_186 t152_210 (.bool false) fun t153_214 =>
 Q t153_214 L_212) (
 W.bin Try.prog Fl .eql 3 (slotOf [2, 4, 5, 6, 11, 109] vs_135 11) (.int .i64 22) fun t155_215 =>
 W.cond t155_215 (
 W.faddr 2 (slotOf [2, 4, 5, 6, 11, 109] vs_135 6) fun t156_216 =>
 W.load false 1 t156_216 L_137 fun t157_217 =>
 W.idx 1 t157_217 (slotOf [2, 4, 5, 6, 11, 109] vs_135 4) L_137 fun t159_218 =>
 W.load false 1 t159_218 L_137 fun t160_219 =>
 W.un .not t160_219 fun t161_220 =>
 Q t161_220 L_137) (
 W.bin Try.prog Fl .eql 3 (slotOf [2, 4, 5, 6, 11, 109] vs_135 11) (.int .i64 23) fun t163_221 =>
 W.cond t163_221 (
 W.faddr 2 (slotOf [2, 4, 5, 6, 11, 109] vs_135 6) fun t164_222 =>
 W.load false 1 t164_222 L_137 fun t165_223 =>
 W.idx 1 t165_223 (slotOf [2, 4, 5, 6, 11, 109] vs_135 4) L_137 fun t167_224 =>
 W.load false 1 t167_224 L_137 fun t168_225 =>
 Q t168_225 L_137) (
 Q (.bool true) L_137)))))
def object_ready_j1 (Q : AV → SH → Prop) (vs_97 : List AV) (L_99 : SH) : Prop :=
 W.cond (slotOf [2, 4, 5, 6, 11, 60] vs_97 60) (
 W.faddr 0 (slotOf [2, 4, 5, 6, 11, 60] vs_97 6) fun t63_100 =>
 W.load false 1 t63_100 L_99 fun t64_101 =>
 W.idx 2 t64_101 (slotOf [2, 4, 5, 6, 11, 60] vs_97 4) L_99 fun t66_102 =>
 W.faddr 0 t66_102 fun t67_103 =>
 W.load false 1 t67_103 L_99 fun t68_104 =>
 W.bin Try.prog Fl .eql 3 t68_104 (slotOf [2, 4, 5, 6, 11, 60] vs_97 2) fun t70_105 =>
 Q t70_105 L_99) (
 W.bin Try.prog Fl .eql 3 (slotOf [2, 4, 5, 6, 11, 60] vs_97 11) (.int .i64 9) fun t72_106 =>
 W.cond t72_106 (
 W.faddr 0 (slotOf [2, 4, 5, 6, 11, 60] vs_97 6) fun t73_107 =>
 W.load false 1 t73_107 L_99 fun t74_108 =>
 W.idx 2 t74_108 (slotOf [2, 4, 5, 6, 11, 60] vs_97 4) L_99 fun t76_109 =>
 W.faddr 1 t76_109 fun t77_110 =>
 W.load false 1 t77_110 L_99 fun t78_111 =>
 W.call Try.prog (.fn 60 []) [t78_111, (slotOf [2, 4, 5, 6, 11, 60] vs_97 2)] L_99 fun t80_112 L_113 =>
 Q t80_112 L_113) (
 W.bin Try.prog Fl .eql 3 (slotOf [2, 4, 5, 6, 11, 60] vs_97 11) (.int .i64 12) fun t82_114 =>
 W.cond t82_114 (
 W.faddr 1 (slotOf [2, 4, 5, 6, 11, 60] vs_97 6) fun t83_115 =>
 W.load false 1 t83_115 L_99 fun t84_116 =>
 W.bin Try.prog Fl .eql 3 t84_116 (.int .i64 (-1)) fun t85_117 =>
 Q t85_117 L_99) (
 W.bin Try.prog Fl .eql 3 (slotOf [2, 4, 5, 6, 11, 60] vs_97 11) (.int .i64 13) fun t87_118 =>
 W.cond t87_118 (
 W.faddr 1 (slotOf [2, 4, 5, 6, 11, 60] vs_97 6) fun t88_119 =>
 W.load false 1 t88_119 L_99 fun t89_120 =>
 W.bin Try.prog Fl .eql 3 t89_120 (slotOf [2, 4, 5, 6, 11, 60] vs_97 2) fun t91_121 =>
 Q t91_121 L_99) (
 W.bin Try.prog Fl .eql 3 (slotOf [2, 4, 5, 6, 11, 60] vs_97 11) (.int .i64 14) fun t93_122 =>
 W.cond t93_122 (
 W.faddr 3 (slotOf [2, 4, 5, 6, 11, 60] vs_97 6) fun t94_123 =>
 W.load false 1 t94_123 L_99 fun t95_124 =>
 W.idx 3 t95_124 (slotOf [2, 4, 5, 6, 11, 60] vs_97 2) L_99 fun t97_125 =>
 W.faddr 2 t97_125 fun t98_126 =>
 W.load false 1 t98_126 L_99 fun t99_127 =>
 W.un .not t99_127 fun t100_128 =>
 Q t100_128 L_99) (
 W.bin Try.prog Fl .eql 3 (slotOf [2, 4, 5, 6, 11, 60] vs_97 11) (.int .i64 15) fun t102_129 =>
 W.cond t102_129 (
 W.faddr 3 (slotOf [2, 4, 5, 6, 11, 60] vs_97 6) fun t103_130 =>
 W.load false 1 t103_130 L_99 fun t104_131 =>
 W.idx 3 t104_131 (slotOf [2, 4, 5, 6, 11, 60] vs_97 2) L_99 fun t106_132 =>
 W.faddr 2 t106_132 fun t107_133 =>
 W.load false 1 t107_133 L_99 fun t108_134 =>
 Q t108_134 L_99) (
 W.join (object_ready_j0 Q) fun j_136 =>
 W.bin Try.prog Fl .eql 3 (slotOf [2, 4, 5, 6, 11, 60] vs_97 11) (.int .i64 16) fun t110_226 =>
 W.cond t110_226 (
 j_136 [(slotOf [2, 4, 5, 6, 11, 60] vs_97 2), (slotOf [2, 4, 5, 6, 11, 60] vs_97 4), (slotOf [2, 4, 5, 6, 11, 60] vs_97 5), (slotOf [2, 4, 5, 6, 11, 60] vs_97 6), (slotOf [2, 4, 5, 6, 11, 60] vs_97 11), t110_226] L_99) (
 W.bin Try.prog Fl .eql 3 (slotOf [2, 4, 5, 6, 11, 60] vs_97 11) (.int .i64 18) fun t111_227 =>
 W.cond t111_227 (
 j_136 [(slotOf [2, 4, 5, 6, 11, 60] vs_97 2), (slotOf [2, 4, 5, 6, 11, 60] vs_97 4), (slotOf [2, 4, 5, 6, 11, 60] vs_97 5), (slotOf [2, 4, 5, 6, 11, 60] vs_97 6), (slotOf [2, 4, 5, 6, 11, 60] vs_97 11), t111_227] L_99) (
 W.bin Try.prog Fl .eql 3 (slotOf [2, 4, 5, 6, 11, 60] vs_97 11) (.int .i64 19) fun t112_228 =>
 j_136 [(slotOf [2, 4, 5, 6, 11, 60] vs_97 2), (slotOf [2, 4, 5, 6, 11, 60] vs_97 4), (slotOf [2, 4, 5, 6, 11, 60] vs_97 5), (slotOf [2, 4, 5, 6, 11, 60] vs_97 6), (slotOf [2, 4, 5, 6, 11, 60] vs_97 11), t112_228] L_99))))))))
def object_ready_w (t0 t1 t2 t3 t4 : AV) (L : SH) (Q : AV → SH → Prop) : Prop :=
 W.box t0 L fun t5_0 L_1 =>
 W.box t1 L_1 fun t6_2 L_3 =>
 W.frz1 t5_0 L_3 fun t5_4 L_5 =>
 W.frz1 t6_2 L_5 fun t6_6 L_7 =>
 W.bin Try.prog Fl .eql 3 t3 (.int .i64 6) fun t13_8 =>
 W.cond t13_8 (
 W.faddr 0 t6_6 fun t14_9 =>
 W.load false 1 t14_9 L_7 fun t15_10 =>
 W.idx 2 t15_10 t4 L_7 fun t17_11 =>
 W.faddr 0 t17_11 fun t18_12 =>
 W.load false 1 t18_12 L_7 fun t19_13 =>
 W.bin Try.prog Fl .eql 3 t19_13 (.int .i64 (-1)) fun t20_14 =>
 Q t20_14 L_7) (
 W.bin Try.prog Fl .eql 3 t3 (.int .i64 10) fun t22_15 =>
 W.cond t22_15 (
 W.faddr 0 t6_6 fun t23_16 =>
 W.load false 1 t23_16 L_7 fun t24_17 =>
 W.idx 2 t24_17 t4 L_7 fun t26_18 =>
 W.faddr 0 t26_18 fun t27_19 =>
 W.load false 1 t27_19 L_7 fun t28_20 =>
 W.bin Try.prog Fl .eql 3 t28_20 (.int .i64 (-1)) fun t29_21 =>
 W.grd t29_21 true (fun k_23 => W.faddr 0 t6_6 fun v_25 =>
 k_23 v_25 L_7) L_7 fun t31_22 L_24 =>
 W.grd t29_21 true (fun k_27 => W.load false 1 t31_22 L_24 fun v_29 =>
 k_27 v_29 L_24) L_24 fun t32_26 L_28 =>
 W.grd t29_21 true (fun k_31 => k_31 t4 L_28) L_28 fun t33_30 L_32 =>
 W.grd t29_21 true (fun k_34 => W.idx 2 t32_26 t33_30 L_32 fun v_36 =>
 k_34 v_36 L_32) L_32 fun t34_33 L_35 =>
 W.grd t29_21 true (fun k_38 => W.faddr 1 t34_33 fun v_40 =>
 k_38 v_40 L_35) L_35 fun t35_37 L_39 =>
 W.grd t29_21 true (fun k_42 => W.load false 1 t35_37 L_39 fun v_44 =>
 k_42 v_44 L_39) L_39 fun t36_41 L_43 =>
 W.grd t29_21 true (fun k_46 => W.len t36_41 fun v_48 =>
 k_46 v_48 L_43) L_43 fun t37_45 L_47 =>
 W.grd t29_21 true (fun k_50 => W.bin Try.prog Fl .eql 3 t37_45 (.int .i64 0) fun v_52 =>
 k_50 v_52 L_47) L_47 fun t38_49 L_51 =>
 W.pick t29_21 t38_49 (.bool false) fun t39_53 =>
 Q t39_53 L_51) (
 W.bin Try.prog Fl .eql 3 t3 (.int .i64 8) fun t41_54 =>
 W.cond t41_54 (
 W.faddr 0 t6_6 fun t42_55 =>
 W.load false 1 t42_55 L_7 fun t43_56 =>
 W.idx 2 t43_56 t4 L_7 fun t45_57 =>
 W.faddr 0 t45_57 fun t46_58 =>
 W.load false 1 t46_58 L_7 fun t47_59 =>
 W.bin Try.prog Fl .eql 3 t47_59 (.int .i64 (-1)) fun t48_60 =>
 W.grd t48_60 true (fun k_62 => W.faddr 0 t6_6 fun v_64 =>
 k_62 v_64 L_7) L_7 fun t50_61 L_63 =>
 W.grd t48_60 true (fun k_66 => W.load false 1 t50_61 L_63 fun v_68 =>
 k_66 v_68 L_63) L_63 fun t51_65 L_67 =>
 W.grd t48_60 true (fun k_70 => k_70 t4 L_67) L_67 fun t52_69 L_71 =>
 W.grd t48_60 true (fun k_73 => W.idx 2 t51_65 t52_69 L_71 fun v_75 =>
 k_73 v_75 L_71) L_71 fun t53_72 L_74 =>
 W.grd t48_60 true (fun k_77 => W.faddr 1 t53_72 fun v_79 =>
 k_77 v_79 L_74) L_74 fun t54_76 L_78 =>
 W.grd t48_60 true (fun k_81 => W.load false 1 t54_76 L_78 fun v_83 =>
 k_81 v_83 L_78) L_78 fun t55_80 L_82 =>
 W.grd t48_60 true (fun k_85 => k_85 t2 L_82) L_82 fun t56_84 L_86 =>
 W.grd t48_60 true (fun k_88 => W.call Try.prog (.fn 60 []) [t55_80, t56_84] L_86 fun v_90 L_91 =>
 k_88 v_90 L_91) L_86 fun t57_87 L_89 =>
 W.grd t48_60 true (fun k_93 => W.un .not t57_87 fun v_95 =>
 k_93 v_95 L_89) L_89 fun t58_92 L_94 =>
 W.pick t48_60 t58_92 (.bool false) fun t59_96 =>
 Q t59_96 L_94) (
 W.join (object_ready_j1 Q) fun j_98 =>
 W.bin Try.prog Fl .eql 3 t3 (.int .i64 7) fun t61_229 =>
 W.cond t61_229 (
 j_98 [t2, t4, t5_4, t6_6, t3, t61_229] L_7) (
 W.bin Try.prog Fl .eql 3 t3 (.int .i64 11) fun t62_230 =>
 j_98 [t2, t4, t5_4, t6_6, t3, t62_230] L_7))))
theorem object_ready_e (t0 t1 t2 t3 t4 : AV) (L : SH) (Q : AV → SH → Prop) : W.func Try.prog Fl object_ready_t Try.f54 (Try.f54.body.getD .skip) [t0, t1, t2, t3, t4] L Q = object_ready_w t0 t1 t2 t3 t4 L Q := by kernel_rfl
theorem object_ready_ok (t0 t1 t2 t3 t4 : AV) (L : SH) (Q : AV → SH → Prop) (h : object_ready_w t0 t1 t2 t3 t4 L Q) : CallA Try.prog 54 [t0, t1, t2, t3, t4] L Q :=
  func_sound (ht := object_ready_t) fit Try.func54 (show Try.f54.body = some (Try.f54.body.getD .skip) by kernel_rfl) (Eq.mpr (object_ready_e t0 t1 t2 t3 t4 L Q) h)

/- slices.Contains[[]int,int] -/
def slices_Contains___int_int__t : Hints := ⟨fun k => none, fun k => [], fun k => [], fun k => []⟩
def slices_Contains___int_int__c0 (Q : AV → SH → Prop) (t7_0 : AV) (L_1 : SH) : Prop :=
 W.bin Try.prog Fl .geq 3 t7_0 (.int .i64 0) fun t8_2 =>
 Q t8_2 L_1
def slices_Contains___int_int__w (t0 t1 : AV) (L : SH) (Q : AV → SH → Prop) : Prop :=
 W.call Try.prog (.fn 80 []) [t0, t1] L (slices_Contains___int_int__c0 Q)
theorem slices_Contains___int_int__e (t0 t1 : AV) (L : SH) (Q : AV → SH → Prop) : W.func Try.prog Fl slices_Contains___int_int__t Try.f60 (Try.f60.body.getD .skip) [t0, t1] L Q = slices_Contains___int_int__w t0 t1 L Q := by kernel_rfl
theorem slices_Contains___int_int__ok (t0 t1 : AV) (L : SH) (Q : AV → SH → Prop) (h : slices_Contains___int_int__w t0 t1 L Q) : CallA Try.prog 60 [t0, t1] L Q :=
  func_sound (ht := slices_Contains___int_int__t) fit Try.func60 (show Try.f60.body = some (Try.f60.body.getD .skip) by kernel_rfl) (Eq.mpr (slices_Contains___int_int__e t0 t1 L Q) h)

/- interleave/object.Blockers$1 -/
def object_Blockers_1_t : Hints := ⟨fun k => none, fun k => [], fun k => [], fun k => []⟩
def object_Blockers_1_w (t0 t1 : AV) (L : SH) (Q : AV → SH → Prop) : Prop :=
 W.faddr 4 t1 fun t5_0 =>
 W.load false 1 t5_0 L fun t6_1 =>
 W.len t6_1 fun t7_2 =>
 W.call Try.prog (.fn 52 []) [t0, t7_2] L fun t8_3 L_4 =>
 W.un .not t8_3 fun t9_5 =>
 Q t9_5 L_4
theorem object_Blockers_1_e (t0 t1 : AV) (L : SH) (Q : AV → SH → Prop) : W.func Try.prog Fl object_Blockers_1_t Try.f62 (Try.f62.body.getD .skip) [t0, t1] L Q = object_Blockers_1_w t0 t1 L Q := by kernel_rfl
theorem object_Blockers_1_ok (t0 t1 : AV) (L : SH) (Q : AV → SH → Prop) (h : object_Blockers_1_w t0 t1 L Q) : CallA Try.prog 62 [t0, t1] L Q :=
  func_sound (ht := object_Blockers_1_t) fit Try.func62 (show Try.f62.body = some (Try.f62.body.getD .skip) by kernel_rfl) (Eq.mpr (object_Blockers_1_e t0 t1 L Q) h)

/- interleave/object.waits -/
def object_waits_t : Hints := ⟨fun k => none, fun k => [], fun k => if k = 0 then [2] else [], fun k => []⟩
def object_waits_w (t0 t1 : AV) (L : SH) (Q : AV → SH → Prop) : Prop :=
 W.box t0 L fun t2_0 L_1 =>
 W.frz1 t2_0 L_1 fun t2_2 L_3 =>
 W.faddr 0 t2_2 fun t5_4 =>
 W.load false 1 t5_4 L_3 fun t6_5 =>
 W.bin Try.prog Fl .eql 3 t6_5 (.int .i64 3) fun t7_6 =>
 W.grd t7_6 true (fun k_8 => W.faddr 1 t2_2 fun v_10 =>
 k_8 v_10 L_3) L_3 fun t9_7 L_9 =>
 W.grd t7_6 true (fun k_12 => W.load false 1 t9_7 L_9 fun v_14 =>
 k_12 v_14 L_9) L_9 fun t10_11 L_13 =>
 W.grd t7_6 true (fun k_16 => k_16 t1 L_13) L_13 fun t11_15 L_17 =>
 W.grd t7_6 true (fun k_19 => W.bin Try.prog Fl .eql 3 t10_11 t11_15 fun v_21 =>
 k_19 v_21 L_17) L_17 fun t12_18 L_20 =>
 W.pick t7_6 t12_18 (.bool false) fun t13_22 =>
 Q t13_22 L_20
theorem object_waits_e (t0 t1 : AV) (L : SH) (Q : AV → SH → Prop) : W.func Try.prog Fl object_waits_t Try.f79 (Try.f79.body.getD .skip) [t0, t1] L Q = object_waits_w t0 t1 L Q := by kernel_rfl
theorem object_waits_ok (t0 t1 : AV) (L : SH) (Q : AV → SH → Prop) (h : object_waits_w t0 t1 L Q) : CallA Try.prog 79 [t0, t1] L Q :=
  func_sound (ht := object_waits_t) fit Try.func79 (show Try.f79.body = some (Try.f79.body.getD .skip) by kernel_rfl) (Eq.mpr (object_waits_e t0 t1 L Q) h)

/- slices.Index[[]int,int] -/
def slices_Index___int_int__t : Hints := ⟨fun k => none, fun k => if k = 2 then [0, 1, 7, 8] else [], fun k => [], fun k => []⟩
def slices_Index___int_int__l0 (Q : AV → SH → Prop) (vs_1 : List AV) (L_3 : SH) (nx_2 : W.Kn) : Prop :=
 W.bin Try.prog Fl .lss 3 (slotOf [0, 1, 7, 8] vs_1 8) (slotOf [0, 1, 7, 8] vs_1 7) fun t9_4 =>
 W.cond t9_4 (
 W.idx 1 (slotOf [0, 1, 7, 8] vs_1 0) (slotOf [0, 1, 7, 8] vs_1 8) L_3 fun t14_5 =>
 W.load false 1 t14_5 L_3 fun t15_6 =>
 W.bin Try.prog Fl .eql 3 (slotOf [0, 1, 7, 8] vs_1 1) t15_6 fun t16_7 =>
 W.cond t16_7 (
 Q (slotOf [0, 1, 7, 8] vs_1 8) L_3) (
 W.bin Try.prog Fl .add 3 (slotOf [0, 1, 7, 8] vs_1 8) (.int .i64 1) fun t18_8 =>
 nx_2 [(slotOf [0, 1, 7, 8] vs_1 0), (slotOf [0, 1, 7, 8] vs_1 1), (slotOf [0, 1, 7, 8] vs_1 7), t18_8] L_3)) (
 Q (.int .i64 (-1)) L_3)
def slices_Index___int_int__w (t0 t1 : AV) (L : SH) (Q : AV → SH → Prop) : Prop :=
 W.len t0 fun t7_0 =>
 W.loop (slices_Index___int_int__l0 Q) [t0, t1, t7_0, (.int .i64 0)] L
theorem slices_Index___int_int__e (t0 t1 : AV) (L : SH) (Q : AV → SH → Prop) : W.func Try.prog Fl slices_Index___int_int__t Try.f80 (Try.f80.body.getD .skip) [t0, t1] L Q = slices_Index___int_int__w t0 t1 L Q := by kernel_rfl
theorem slices_Index___int_int__ok (t0 t1 : AV) (L : SH) (Q : AV → SH → Prop) (h : slices_Index___int_int__w t0 t1 L Q) : CallA Try.prog 80 [t0, t1] L Q :=
  func_sound (ht := slices_Index___int_int__t) fit Try.func80 (show Try.f80.body = some (Try.f80.body.getD .skip) by kernel_rfl) (Eq.mpr (slices_Index___int_int__e t0 t1 L Q) h)

/- slices.Clone[[]bool,bool] -/
def slices_Clone___bool_bool__t : Hints := ⟨fun k => none, fun k => [], fun k => [], fun k => []⟩
def slices_Clone___bool_bool__w (t0 : AV) (L : SH) (Q : AV → SH → Prop) : Prop :=
 W.bin Try.prog Fl .eql 49 t0 .nils fun t4_0 =>
 W.cond t4_0 (
 Q .nils L) (
 W.bslice 1 [(.bool false)] 0 [] L fun t5_1 L_2 =>
 W.append 1 1 t5_1 t0 L_2 fun t7_3 L_4 =>
 Q t7_3 L_4)
theorem slices_Clone___bool_bool__e (t0 : AV) (L : SH) (Q : AV → SH → Prop) : W.func Try.prog Fl slices_Clone___bool_bool__t Try.f76 (Try.f76.body.getD .skip) [t0] L Q = slices_Clone___bool_bool__w t0 L Q := by kernel_rfl
theorem slices_Clone___bool_bool__ok (t0 : AV) (L : SH) (Q : AV → SH → Prop) (h : slices_Clone___bool_bool__w t0 L Q) : CallA Try.prog 76 [t0] L Q :=
  func_sound (ht := slices_Clone___bool_bool__t) fit Try.func76 (show Try.f76.body = some (Try.f76.body.getD .skip) by kernel_rfl) (Eq.mpr (slices_Clone___bool_bool__e t0 L Q) h)

/- slices.Clone[[]interleave/api.ThreadSync,interleave/api.ThreadSync] -/
def slices_Clone___api_ThreadSync_api_ThreadSync__t : Hints := ⟨fun k => none, fun k => [], fun k => [], fun k => []⟩
def slices_Clone___api_ThreadSync_api_ThreadSync__w (t0 : AV) (L : SH) (Q : AV → SH → Prop) : Prop :=
 W.bin Try.prog Fl .eql 50 t0 .nils fun t4_0 =>
 W.cond t4_0 (
 Q .nils L) (
 W.bslice 3 [(.int .i64 0), (.int .i64 0), (.bool false)] 0 [] L fun t5_1 L_2 =>
 W.append 3 24 t5_1 t0 L_2 fun t7_3 L_4 =>
 Q t7_3 L_4)
theorem slices_Clone___api_ThreadSync_api_ThreadSync__e (t0 : AV) (L : SH) (Q : AV → SH → Prop) : W.func Try.prog Fl slices_Clone___api_ThreadSync_api_ThreadSync__t Try.f77 (Try.f77.body.getD .skip) [t0] L Q = slices_Clone___api_ThreadSync_api_ThreadSync__w t0 L Q := by kernel_rfl
theorem slices_Clone___api_ThreadSync_api_ThreadSync__ok (t0 : AV) (L : SH) (Q : AV → SH → Prop) (h : slices_Clone___api_ThreadSync_api_ThreadSync__w t0 L Q) : CallA Try.prog 77 [t0] L Q :=
  func_sound (ht := slices_Clone___api_ThreadSync_api_ThreadSync__t) fit Try.func77 (show Try.f77.body = some (Try.f77.body.getD .skip) by kernel_rfl) (Eq.mpr (slices_Clone___api_ThreadSync_api_ThreadSync__e t0 L Q) h)

/- slices.DeleteFunc[[]int,int] -/
def slices_DeleteFunc___int_int__t : Hints := ⟨fun k => none, fun k => if k = 5 then [0, 1, 5, 6] else [], fun k => [], fun k => []⟩
def slices_DeleteFunc___int_int__c0 (vs_4 : List AV) (t25_10 : AV) (nx_5 : W.Kn) (t28_11 : AV) (L_12 : SH) : Prop :=
 W.un .not t28_11 fun t29_13 =>
 W.cond t29_13 (
 W.idx 1 (slotOf [0, 1, 5, 6] vs_4 0) (slotOf [0, 1, 5, 6] vs_4 5) L_12 fun t33_14 =>
 W.store 1 t33_14 t25_10 L_12 fun L_15 =>
 W.bin Try.prog Fl .add 3 (slotOf [0, 1, 5, 6] vs_4 5) (.int .i64 1) fun t35_16 =>
 W.bin Try.prog Fl .add 3 (slotOf [0, 1, 5, 6] vs_4 6) (.int .i64 1) fun t21_17 =>
 nx_5 [(slotOf [0, 1, 5, 6] vs_4 0), (slotOf [0, 1, 5, 6] vs_4 1), t35_16, t21_17] L_15) (
 W.bin Try.prog Fl .add 3 (slotOf [0, 1, 5, 6] vs_4 6) (.int .i64 1) fun t21_18 =>
 nx_5 [(slotOf [0, 1, 5, 6] vs_4 0), (slotOf [0, 1, 5, 6] vs_4 1), (slotOf [0, 1, 5, 6] vs_4 5), t21_18] L_12)
def slices_DeleteFunc___int_int__l1  (vs_4 : List AV) (L_6 : SH) (nx_5 : W.Kn) : Prop :=
 W.len (slotOf [0, 1, 5, 6] vs_4 0) fun t18_7 =>
 W.bin Try.prog Fl .lss 3 (slotOf [0, 1, 5, 6] vs_4 6) t18_7 fun t19_8 =>
 W.cond t19_8 (
 W.idx 1 (slotOf [0, 1, 5, 6] vs_4 0) (slotOf [0, 1, 5, 6] vs_4 6) L_6 fun t24_9 =>
 W.load false 1 t24_9 L_6 fun t25_10 =>
 W.call Try.prog (slotOf [0, 1, 5, 6] vs_4 1) [t25_10] L_6 (slices_DeleteFunc___int_int__c0 vs_4 t25_10 nx_5)) (
 W.slice 1 (slotOf [0, 1, 5, 6] vs_4 0) (some (slotOf [0, 1, 5, 6] vs_4 5)) none none L_6 fun t38_19 =>
 False)
def slices_DeleteFunc___int_int__c2 (Q : AV → SH → Prop) (t0 : AV) (t1 : AV) (t10_0 : AV) (L_1 : SH) : Prop :=
 W.bin Try.prog Fl .eql 3 t10_0 (.int .i64 (-1)) fun t12_2 =>
 W.cond t12_2 (
 Q t0 L_1) (
 W.bin Try.prog Fl .add 3 t10_0 (.int .i64 1) fun t15_3 =>
 W.loop slices_DeleteFunc___int_int__l1 [t0, t1, t10_0, t15_3] L_1)
def slices_DeleteFunc___int_int__w (t0 t1 : AV) (L : SH) (Q : AV → SH → Prop) : Prop :=
 W.call Try.prog (.fn 78 []) [t0, t1] L (slices_DeleteFunc___int_int__c2 Q t0 t1)
theorem slices_DeleteFunc___int_int__e (t0 t1 : AV) (L : SH) (Q : AV → SH → Prop) : W.func Try.prog Fl slices_DeleteFunc___int_int__t Try.f48 (Try.f48.body.getD .skip) [t0, t1] L Q = slices_DeleteFunc___int_int__w t0 t1 L Q := by kernel_rfl
theorem slices_DeleteFunc___int_int__ok (t0 t1 : AV) (L : SH) (Q : AV → SH → Prop) (h : slices_DeleteFunc___int_int__w t0 t1 L Q) : CallA Try.prog 48 [t0, t1] L Q :=
  func_sound (ht := slices_DeleteFunc___int_int__t) fit Try.func48 (show Try.f48.body = some (Try.f48.body.getD .skip) by kernel_rfl) (Eq.mpr (slices_DeleteFunc___int_int__e t0 t1 L Q) h)

/- slices.IndexFunc[[]int,int] -/
def slices_IndexFunc___int_int__t : Hints := ⟨fun k => none, fun k => if k = 2 then [0, 1, 7, 8] else [], fun k => [], fun k => []⟩
def slices_IndexFunc___int_int__c0 (Q : AV → SH → Prop) (vs_1 : List AV) (nx_2 : W.Kn) (t16_7 : AV) (L_8 : SH) : Prop :=
 W.cond t16_7 (
 Q (slotOf [0, 1, 7, 8] vs_1 8) L_8) (
 W.bin Try.prog Fl .add 3 (slotOf [0, 1, 7, 8] vs_1 8) (.int .i64 1) fun t18_9 =>
 nx_2 [(slotOf [0, 1, 7, 8] vs_1 0), (slotOf [0, 1, 7, 8] vs_1 1), (slotOf [0, 1, 7, 8] vs_1 7), t18_9] L_8)
def slices_IndexFunc___int_int__l1 (Q : AV → SH → Prop) (vs_1 : List AV) (L_3 : SH) (nx_2 : W.Kn) : Prop :=
 W.bin Try.prog Fl .lss 3 (slotOf [0, 1, 7, 8] vs_1 8) (slotOf [0, 1, 7, 8] vs_1 7) fun t9_4 =>
 W.cond t9_4 (
 W.idx 1 (slotOf [0, 1, 7, 8] vs_1 0) (slotOf [0, 1, 7, 8] vs_1 8) L_3 fun t14_5 =>
 W.load false 1 t14_5 L_3 fun t15_6 =>
 W.call Try.prog (slotOf [0, 1, 7, 8] vs_1 1) [t15_6] L_3 (slices_IndexFunc___int_int__c0 Q vs_1 nx_2)) (
 Q (.int .i64 (-1)) L_3)
def slices_IndexFunc___int_int__w (t0 t1 : AV) (L : SH) (Q : AV → SH → Prop) : Prop :=
 W.len t0 fun t7_0 =>
 W.loop (slices_IndexFunc___int_int__l1 Q) [t0, t1, t7_0, (.int .i64 0)] L
theorem slices_IndexFunc___int_int__e (t0 t1 : AV) (L : SH) (Q : AV → SH → Prop) : W.func Try.prog Fl slices_IndexFunc___int_int__t Try.f78 (Try.f78.body.getD .skip) [t0, t1] L Q = slices_IndexFunc___int_int__w t0 t1 L Q := by kernel_rfl
theorem slices_IndexFunc___int_int__ok (t0 t1 : AV) (L : SH) (Q : AV → SH → Prop) (h : slices_IndexFunc___int_int__w t0 t1 L Q) : CallA Try.prog 78 [t0, t1] L Q :=
  func_sound (ht := slices_IndexFunc___int_int__t) fit Try.func78 (show Try.f78.body = some (Try.f78.body.getD .skip) by kernel_rfl) (Eq.mpr (slices_IndexFunc___int_int__e t0 t1 L Q) h)

/- slices.Compact[[]int,int] -/
def slices_Compact___int_int__t : Hints := ⟨fun k => none, fun k => if k = 9 then [0, 3, 4, 5] else if k = 4 then [0, 3] else [], fun k => [], fun k => if k = 6 then [0, 0, 3, 7, 0, 0, 32, 112, 240, 511] else if k = 11 then [0, 0, 3, 7, 0, 0, 32, 112, 240, 511] else []⟩
def slices_Compact___int_int__l0  (vs_18 : List AV) (L_20 : SH) (nx_19 : W.Kn) : Prop :=
 W.len (slotOf [0, 3, 4, 5] vs_18 4) fun t31_21 =>
 W.bin Try.prog Fl .lss 3 (slotOf [0, 3, 4, 5] vs_18 5) t31_21 fun t32_22 =>
 W.cond t32_22 (
 (true = true) ∧ (
 W.calm [] ⟨2, (slOf (slotOf [0, 3, 4, 5] vs_18 4)), [], [], false, []⟩ (
 W.idx 1 (slotOf [0, 3, 4, 5] vs_18 4) (slotOf [0, 3, 4, 5] vs_18 5) L_20 fun t37_23 =>
 W.note ⟨(slOf (slotOf [0, 3, 4, 5] vs_18 4)), [], [], []⟩ fun r_24 =>
 W.calm [] ⟨3, (blocksOf t37_23), [], [], false, []⟩ (
 W.load false 1 t37_23 L_20 fun t38_25 =>
 W.note ⟨(blocksOf t37_23), [], [], []⟩ fun r_26 =>
 W.bin Try.prog Fl .sub 3 (slotOf [0, 3, 4, 5] vs_18 5) (.int .i64 1) fun t41_27 =>
 W.calm [⟨3, r_26.reads, r_26.writes, r_26.made, false, r_26.old⟩, ⟨2, r_24.reads, r_24.writes, r_24.made, false, r_24.old⟩] ⟨7, (slOf (slotOf [0, 3, 4, 5] vs_18 4)), [], [], false, []⟩ (
 W.idx 1 (slotOf [0, 3, 4, 5] vs_18 4) t41_27 L_20 fun t42_28 =>
 W.note ⟨(slOf (slotOf [0, 3, 4, 5] vs_18 4)), [], [], []⟩ fun r_29 =>
 W.calm [⟨3, r_26.reads, r_26.writes, r_26.made, false, r_26.old⟩, ⟨2, r_24.reads, r_24.writes, r_24.made, false, r_24.old⟩] ⟨8, (blocksOf t42_28), [], [], false, []⟩ (
 W.load false 1 t42_28 L_20 fun t43_30 =>
 W.note ⟨(blocksOf t42_28), [], [], []⟩ fun r_31 =>
 W.bin Try.prog Fl .neq 3 t38_25 t43_30 fun t44_32 =>
 W.cond t44_32 (
 W.idx 1 (slotOf [0, 3, 4, 5] vs_18 4) (slotOf [0, 3, 4, 5] vs_18 5) L_20 fun t49_33 =>
 W.load false 1 t49_33 L_20 fun t50_34 =>
 W.idx 1 (slotOf [0, 3, 4, 5] vs_18 0) (slotOf [0, 3, 4, 5] vs_18 3) L_20 fun t51_35 =>
 W.store 1 t51_35 t50_34 L_20 fun L_36 =>
 W.bin Try.prog Fl .add 3 (slotOf [0, 3, 4, 5] vs_18 3) (.int .i64 1) fun t53_37 =>
 W.bin Try.prog Fl .add 3 (slotOf [0, 3, 4, 5] vs_18 5) (.int .i64 1) fun t34_38 =>
 nx_19 [(slotOf [0, 3, 4, 5] vs_18 0), t53_37, (slotOf [0, 3, 4, 5] vs_18 4), t34_38] L_36) (
 W.bin Try.prog Fl .add 3 (slotOf [0, 3, 4, 5] vs_18 5) (.int .i64 1) fun t34_39 =>
 nx_19 [(slotOf [0, 3, 4, 5] vs_18 0), (slotOf [0, 3, 4, 5] vs_18 3), (slotOf [0, 3, 4, 5] vs_18 4), t34_39] L_20))))))) (
 W.slice 1 (slotOf [0, 3, 4, 5] vs_18 0) (some (slotOf [0, 3, 4, 5] vs_18 3)) none none L_20 fun t56_40 =>
 False)
def slices_Compact___int_int__l1 (Q : AV → SH → Prop) (vs_2 : List AV) (L_4 : SH) (nx_3 : W.Kn) : Prop :=
 W.len (slotOf [0, 3] vs_2 0) fun t12_5 =>
 W.bin Try.prog Fl .lss 3 (slotOf [0, 3] vs_2 3) t12_5 fun t13_6 =>
 W.cond t13_6 (
 (true = true) ∧ (
 W.calm [] ⟨2, (slOf (slotOf [0, 3] vs_2 0)), [], [], false, []⟩ (
 W.idx 1 (slotOf [0, 3] vs_2 0) (slotOf [0, 3] vs_2 3) L_4 fun t18_7 =>
 W.note ⟨(slOf (slotOf [0, 3] vs_2 0)), [], [], []⟩ fun r_8 =>
 W.calm [] ⟨3, (blocksOf t18_7), [], [], false, []⟩ (
 W.load false 1 t18_7 L_4 fun t19_9 =>
 W.note ⟨(blocksOf t18_7), [], [], []⟩ fun r_10 =>
 W.bin Try.prog Fl .sub 3 (slotOf [0, 3] vs_2 3) (.int .i64 1) fun t22_11 =>
 W.calm [⟨3, r_10.reads, r_10.writes, r_10.made, false, r_10.old⟩, ⟨2, r_8.reads, r_8.writes, r_8.made, false, r_8.old⟩] ⟨7, (slOf (slotOf [0, 3] vs_2 0)), [], [], false, []⟩ (
 W.idx 1 (slotOf [0, 3] vs_2 0) t22_11 L_4 fun t23_12 =>
 W.note ⟨(slOf (slotOf [0, 3] vs_2 0)), [], [], []⟩ fun r_13 =>
 W.calm [⟨3, r_10.reads, r_10.writes, r_10.made, false, r_10.old⟩, ⟨2, r_8.reads, r_8.writes, r_8.made, false, r_8.old⟩] ⟨8, (blocksOf t23_12), [], [], false, []⟩ (
 W.load false 1 t23_12 L_4 fun t24_14 =>
 W.note ⟨(blocksOf t23_12), [], [], []⟩ fun r_15 =>
 W.bin Try.prog Fl .eql 3 t19_9 t24_14 fun t25_16 =>
 W.cond t25_16 (
 W.slice 1 (slotOf [0, 3] vs_2 0) (some (slotOf [0, 3] vs_2 3)) none none L_4 fun t28_17 =>
 W.loop slices_Compact___int_int__l0 [(slotOf [0, 3] vs_2 0), (slotOf [0, 3] vs_2 3), t28_17, (.int .i64 1)] L_4) (
 W.bin Try.prog Fl .add 3 (slotOf [0, 3] vs_2 3) (.int .i64 1) fun t15_41 =>
 nx_3 [(slotOf [0, 3] vs_2 0), t15_41] L_4))))))) (
 Q (slotOf [0, 3] vs_2 0) L_4)
def slices_Compact___int_int__w (t0 : AV) (L : SH) (Q : AV → SH → Prop) : Prop :=
 W.len t0 fun t7_0 =>
 W.bin Try.prog Fl .lss 3 t7_0 (.int .i64 2) fun t8_1 =>
 W.cond t8_1 (
 Q t0 L) (
 W.loop (slices_Compact___int_int__l1 Q) [t0, (.int .i64 1)] L)
theorem slices_Compact___int_int__e (t0 : AV) (L : SH) (Q : AV → SH → Prop) : W.func Try.prog Fl slices_Compact___int_int__t Try.f41 (Try.f41.body.getD .skip) [t0] L Q = slices_Compact___int_int__w t0 L Q := by kernel_rfl
theorem slices_Compact___int_int__ok (t0 : AV) (L : SH) (Q : AV → SH → Prop) (h : slices_Compact___int_int__w t0 L Q) : CallA Try.prog 41 [t0] L Q :=
  func_sound (ht := slices_Compact___int_int__t) fit Try.func41 (show Try.f41.body = some (Try.f41.body.getD .skip) by kernel_rfl) (Eq.mpr (slices_Compact___int_int__e t0 L Q) h)

end Go.Proofs.Ytadjimfkfmojkaa.Am
