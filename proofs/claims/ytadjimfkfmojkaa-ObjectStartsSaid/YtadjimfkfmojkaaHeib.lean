/- What the bodies of these functions demand, printed by a program of mine (Gen) from the seat's program; each is checked by the kernel against the body. -/
import Derived.Test.YtadjimfkfmojkaaSlh
namespace Go.Proofs.Ytadjimfkfmojkaa.Am
set_option linter.unusedVariables false
set_option maxRecDepth 100000
/- interleave/interleaveref08.Same -/
def ref08_Same_t : Hints := ⟨fun k => none, fun k => if k = 4 then [2, 3, 5] else if k = 9 then [2, 3, 6] else if k = 14 then [2, 3, 7] else [], fun k => if k = 0 then [2, 3] else [], fun k => if k = 6 then [0, 1, 0, 7, 15, 31, 0, 64, 0, 448, 960, 1984, 4095, 8191, 16383, 32767, 16383, 131071, 262143, 524287, 16383, 1064959, 16383, 7356415, 15745023, 32522239, 67108863, 134217727, 268435455] else if k = 11 then [0, 1, 0, 7, 15, 0, 32, 0, 224, 480, 1023] else if k = 16 then [0, 1, 0, 7, 15, 0, 32, 0, 224, 480, 1023] else []⟩
def ref08_Same_l0 (Q : AV → SH → Prop) (vs_226 : List AV) (L_228 : SH) (nx_227 : W.Kn) : Prop :=
 W.faddr 3 (slotOf [2, 3, 7] vs_226 2) fun t95_229 =>
 W.load false 1 t95_229 L_228 fun t96_230 =>
 W.len t96_230 fun t97_231 =>
 W.bin Try.prog Fl .lss 3 (slotOf [2, 3, 7] vs_226 7) t97_231 fun t98_232 =>
 W.cond t98_232 (
 (true = true) ∧ (
 W.faddr 3 (slotOf [2, 3, 7] vs_226 2) fun t101_233 =>
 W.calm [] ⟨1, (blocksOf t101_233), [], [], false, []⟩ (
 W.load false 1 t101_233 L_228 fun t102_234 =>
 W.note ⟨(blocksOf t101_233), [], [], []⟩ fun r_235 =>
 W.calm [] ⟨3, (slOf t102_234), [], [], false, []⟩ (
 W.idx 3 t102_234 (slotOf [2, 3, 7] vs_226 7) L_228 fun t104_236 =>
 W.note ⟨(slOf t102_234), [], [], []⟩ fun r_237 =>
 W.calm [] ⟨4, (blocksOf t104_236), [], [], false, []⟩ (
 W.load true 3 t104_236 L_228 fun t105_238 =>
 W.note ⟨(blocksOf t104_236), [], [], []⟩ fun r_239 =>
 W.faddr 3 (slotOf [2, 3, 7] vs_226 3) fun t106_240 =>
 W.calm [⟨4, r_239.reads, r_239.writes, r_239.made, false, r_239.old⟩, ⟨3, r_237.reads, r_237.writes, r_237.made, false, r_237.old⟩, ⟨1, r_235.reads, r_235.writes, r_235.made, false, r_235.old⟩] ⟨6, (blocksOf t106_240), [], [], false, []⟩ (
 W.load false 1 t106_240 L_228 fun t107_241 =>
 W.note ⟨(blocksOf t106_240), [], [], []⟩ fun r_242 =>
 W.calm [⟨4, r_239.reads, r_239.writes, r_239.made, false, r_239.old⟩, ⟨3, r_237.reads, r_237.writes, r_237.made, false, r_237.old⟩, ⟨1, r_235.reads, r_235.writes, r_235.made, false, r_235.old⟩] ⟨8, (slOf t107_241), [], [], false, []⟩ (
 W.idx 3 t107_241 (slotOf [2, 3, 7] vs_226 7) L_228 fun t109_243 =>
 W.note ⟨(slOf t107_241), [], [], []⟩ fun r_244 =>
 W.calm [⟨4, r_239.reads, r_239.writes, r_239.made, false, r_239.old⟩, ⟨3, r_237.reads, r_237.writes, r_237.made, false, r_237.old⟩, ⟨1, r_235.reads, r_235.writes, r_235.made, false, r_235.old⟩] ⟨9, (blocksOf t109_243), [], [], false, []⟩ (
 W.load true 3 t109_243 L_228 fun t110_245 =>
 W.note ⟨(blocksOf t109_243), [], [], []⟩ fun r_246 =>
 W.bin Try.prog Fl .neq 66 t105_238 t110_245 fun t111_247 =>
 W.cond t111_247 (
 Q (.bool false) L_228) (
 W.bin Try.prog Fl .add 3 (slotOf [2, 3, 7] vs_226 7) (.int .i64 1) fun t100_248 =>
 nx_227 [(slotOf [2, 3, 7] vs_226 2), (slotOf [2, 3, 7] vs_226 3), t100_248] L_228))))))))) (
 Q (.bool true) L_228)
def ref08_Same_l1 (Q : AV → SH → Prop) (vs_203 : List AV) (L_205 : SH) (nx_204 : W.Kn) : Prop :=
 W.faddr 2 (slotOf [2, 3, 6] vs_203 2) fun t77_206 =>
 W.load false 1 t77_206 L_205 fun t78_207 =>
 W.len t78_207 fun t79_208 =>
 W.bin Try.prog Fl .lss 3 (slotOf [2, 3, 6] vs_203 6) t79_208 fun t80_209 =>
 W.cond t80_209 (
 (true = true) ∧ (
 W.faddr 2 (slotOf [2, 3, 6] vs_203 2) fun t83_210 =>
 W.calm [] ⟨1, (blocksOf t83_210), [], [], false, []⟩ (
 W.load false 1 t83_210 L_205 fun t84_211 =>
 W.note ⟨(blocksOf t83_210), [], [], []⟩ fun r_212 =>
 W.calm [] ⟨3, (slOf t84_211), [], [], false, []⟩ (
 W.idx 1 t84_211 (slotOf [2, 3, 6] vs_203 6) L_205 fun t86_213 =>
 W.note ⟨(slOf t84_211), [], [], []⟩ fun r_214 =>
 W.calm [] ⟨4, (blocksOf t86_213), [], [], false, []⟩ (
 W.load false 1 t86_213 L_205 fun t87_215 =>
 W.note ⟨(blocksOf t86_213), [], [], []⟩ fun r_216 =>
 W.faddr 2 (slotOf [2, 3, 6] vs_203 3) fun t88_217 =>
 W.calm [⟨4, r_216.reads, r_216.writes, r_216.made, false, r_216.old⟩, ⟨3, r_214.reads, r_214.writes, r_214.made, false, r_214.old⟩, ⟨1, r_212.reads, r_212.writes, r_212.made, false, r_212.old⟩] ⟨6, (blocksOf t88_217), [], [], false, []⟩ (
 W.load false 1 t88_217 L_205 fun t89_218 =>
 W.note ⟨(blocksOf t88_217), [], [], []⟩ fun r_219 =>
 W.calm [⟨4, r_216.reads, r_216.writes, r_216.made, false, r_216.old⟩, ⟨3, r_214.reads, r_214.writes, r_214.made, false, r_214.old⟩, ⟨1, r_212.reads, r_212.writes, r_212.made, false, r_212.old⟩] ⟨8, (slOf t89_218), [], [], false, []⟩ (
 W.idx 1 t89_218 (slotOf [2, 3, 6] vs_203 6) L_205 fun t91_220 =>
 W.note ⟨(slOf t89_218), [], [], []⟩ fun r_221 =>
 W.calm [⟨4, r_216.reads, r_216.writes, r_216.made, false, r_216.old⟩, ⟨3, r_214.reads, r_214.writes, r_214.made, false, r_214.old⟩, ⟨1, r_212.reads, r_212.writes, r_212.made, false, r_212.old⟩] ⟨9, (blocksOf t91_220), [], [], false, []⟩ (
 W.load false 1 t91_220 L_205 fun t92_222 =>
 W.note ⟨(blocksOf t91_220), [], [], []⟩ fun r_223 =>
 W.bin Try.prog Fl .neq 4 t87_215 t92_222 fun t93_224 =>
 W.cond t93_224 (
 Q (.bool false) L_205) (
 W.bin Try.prog Fl .add 3 (slotOf [2, 3, 6] vs_203 6) (.int .i64 1) fun t82_225 =>
 nx_204 [(slotOf [2, 3, 6] vs_203 2), (slotOf [2, 3, 6] vs_203 3), t82_225] L_205))))))))) (
 W.loop (ref08_Same_l0 Q) [(slotOf [2, 3, 6] vs_203 2), (slotOf [2, 3, 6] vs_203 3), (.int .i64 0)] L_205)
def ref08_Same_l2 (Q : AV → SH → Prop) (vs_100 : List AV) (L_102 : SH) (nx_101 : W.Kn) : Prop :=
 W.faddr 0 (slotOf [2, 3, 5] vs_100 2) fun t41_103 =>
 W.load false 1 t41_103 L_102 fun t42_104 =>
 W.len t42_104 fun t43_105 =>
 W.bin Try.prog Fl .lss 3 (slotOf [2, 3, 5] vs_100 5) t43_105 fun t44_106 =>
 W.cond t44_106 (
 (true = true) ∧ (
 W.faddr 0 (slotOf [2, 3, 5] vs_100 2) fun t47_107 =>
 W.calm [] ⟨1, (blocksOf t47_107), [], [], false, []⟩ (
 W.load false 1 t47_107 L_102 fun t48_108 =>
 W.note ⟨(blocksOf t47_107), [], [], []⟩ fun r_109 =>
 W.calm [] ⟨3, (slOf t48_108), [], [], false, []⟩ (
 W.idx 2 t48_108 (slotOf [2, 3, 5] vs_100 5) L_102 fun t50_110 =>
 W.note ⟨(slOf t48_108), [], [], []⟩ fun r_111 =>
 W.faddr 0 t50_110 fun t51_112 =>
 W.calm [] ⟨5, (blocksOf t51_112), [], [], false, []⟩ (
 W.load false 1 t51_112 L_102 fun t52_113 =>
 W.note ⟨(blocksOf t51_112), [], [], []⟩ fun r_114 =>
 W.faddr 0 (slotOf [2, 3, 5] vs_100 3) fun t53_115 =>
 W.calm [⟨5, r_114.reads, r_114.writes, r_114.made, false, r_114.old⟩, ⟨3, r_111.reads, r_111.writes, r_111.made, false, r_111.old⟩, ⟨1, r_109.reads, r_109.writes, r_109.made, false, r_109.old⟩] ⟨7, (blocksOf t53_115), [], [], false, []⟩ (
 W.load false 1 t53_115 L_102 fun t54_116 =>
 W.note ⟨(blocksOf t53_115), [], [], []⟩ fun r_117 =>
 W.calm [⟨5, r_114.reads, r_114.writes, r_114.made, false, r_114.old⟩, ⟨3, r_111.reads, r_111.writes, r_111.made, false, r_111.old⟩, ⟨1, r_109.reads, r_109.writes, r_109.made, false, r_109.old⟩] ⟨9, (slOf t54_116), [], [], false, []⟩ (
 W.idx 2 t54_116 (slotOf [2, 3, 5] vs_100 5) L_102 fun t56_118 =>
 W.note ⟨(slOf t54_116), [], [], []⟩ fun r_119 =>
 W.faddr 0 t56_118 fun t57_120 =>
 W.calm [⟨5, r_114.reads, r_114.writes, r_114.made, false, r_114.old⟩, ⟨3, r_111.reads, r_111.writes, r_111.made, false, r_111.old⟩, ⟨1, r_109.reads, r_109.writes, r_109.made, false, r_109.old⟩] ⟨11, (blocksOf t57_120), [], [], false, []⟩ (
 W.load false 1 t57_120 L_102 fun t58_121 =>
 W.note ⟨(blocksOf t57_120), [], [], []⟩ fun r_122 =>
 W.bin Try.prog Fl .neq 3 t52_113 t58_121 fun t59_123 =>
 W.dgrd t59_123 false (fun k_125 => W.faddr 0 (slotOf [2, 3, 5] vs_100 2) fun v_128 =>
 k_125 v_128 L_102 ⟨[], [], [], []⟩) L_102 fun t61_124 L_127 r_126 =>
 W.dgrd t59_123 false (fun k_130 => W.calm [] ⟨15, (blocksOf t61_124), [], [], false, []⟩ (
 W.load false 1 t61_124 L_127 fun v_133 =>
 W.note ⟨(blocksOf t61_124), [], [], []⟩ fun r_134 =>
 k_130 v_133 L_127 r_134)) L_127 fun t62_129 L_132 r_131 =>
 W.dgrd t59_123 false (fun k_136 => k_136 (slotOf [2, 3, 5] vs_100 5) L_132 ⟨[], [], [], []⟩) L_132 fun t63_135 L_138 r_137 =>
 W.dgrd t59_123 false (fun k_140 => W.calm [] ⟨17, (slOf t62_129), [], [], false, []⟩ (
 W.idx 2 t62_129 t63_135 L_138 fun v_143 =>
 W.note ⟨(slOf t62_129), [], [], []⟩ fun r_144 =>
 k_140 v_143 L_138 r_144)) L_138 fun t64_139 L_142 r_141 =>
 W.dgrd t59_123 false (fun k_146 => W.faddr 1 t64_139 fun v_149 =>
 k_146 v_149 L_142 ⟨[], [], [], []⟩) L_142 fun t65_145 L_148 r_147 =>
 W.dgrd t59_123 false (fun k_151 => W.calm [] ⟨19, (blocksOf t65_145), [], [], false, []⟩ (
 W.load false 1 t65_145 L_148 fun v_154 =>
 W.note ⟨(blocksOf t65_145), [], [], []⟩ fun r_155 =>
 k_151 v_154 L_148 r_155)) L_148 fun t66_150 L_153 r_152 =>
 W.dgrd t59_123 false (fun k_157 => W.faddr 0 (slotOf [2, 3, 5] vs_100 3) fun v_160 =>
 k_157 v_160 L_153 ⟨[], [], [], []⟩) L_153 fun t67_156 L_159 r_158 =>
 W.dgrd t59_123 false (fun k_162 => W.calm [⟨19, r_152.reads, r_152.writes, r_152.made, false, r_152.old⟩, ⟨17, r_141.reads, r_141.writes, r_141.made, false, r_141.old⟩, ⟨15, r_131.reads, r_131.writes, r_131.made, false, r_131.old⟩] ⟨21, (blocksOf t67_156), [], [], false, []⟩ (
 W.load false 1 t67_156 L_159 fun v_165 =>
 W.note ⟨(blocksOf t67_156), [], [], []⟩ fun r_166 =>
 k_162 v_165 L_159 r_166)) L_159 fun t68_161 L_164 r_163 =>
 W.dgrd t59_123 false (fun k_168 => k_168 (slotOf [2, 3, 5] vs_100 5) L_164 ⟨[], [], [], []⟩) L_164 fun t69_167 L_170 r_169 =>
 W.dgrd t59_123 false (fun k_172 => W.calm [⟨19, r_152.reads, r_152.writes, r_152.made, false, r_152.old⟩, ⟨17, r_141.reads, r_141.writes, r_141.made, false, r_141.old⟩, ⟨15, r_131.reads, r_131.writes, r_131.made, false, r_131.old⟩] ⟨23, (slOf t68_161), [], [], false, []⟩ (
 W.idx 2 t68_161 t69_167 L_170 fun v_175 =>
 W.note ⟨(slOf t68_161), [], [], []⟩ fun r_176 =>
 k_172 v_175 L_170 r_176)) L_170 fun t70_171 L_174 r_173 =>
 W.dgrd t59_123 false (fun k_178 => W.faddr 1 t70_171 fun v_181 =>
 k_178 v_181 L_174 ⟨[], [], [], []⟩) L_174 fun t71_177 L_180 r_179 =>
 W.dgrd t59_123 false (fun k_183 => W.calm [⟨19, r_152.reads, r_152.writes, r_152.made, false, r_152.old⟩, ⟨17, r_141.reads, r_141.writes, r_141.made, false, r_141.old⟩, ⟨15, r_131.reads, r_131.writes, r_131.made, false, r_131.old⟩] ⟨25, (blocksOf t71_177), [], [], false, []⟩ (
 W.load false 1 t71_177 L_180 fun v_186 =>
 W.note ⟨(blocksOf t71_177), [], [], []⟩ fun r_187 =>
 k_183 v_186 L_180 r_187)) L_180 fun t72_182 L_185 r_184 =>
 W.dgrd t59_123 false (fun k_189 => W.dcall Try.prog [] 26 (.fn 34 []) [t66_150, t72_182] L_185 fun v_192 L_194 ks_193 =>
 W.note ⟨[], ks_193, [], L_185.names⟩ fun r_195 =>
 k_189 v_192 L_194 r_195) L_185 fun t73_188 L_191 r_190 =>
 W.dgrd t59_123 false (fun k_197 => W.un .not t73_188 fun v_200 =>
 k_197 v_200 L_191 ⟨[], [], [], []⟩) L_191 fun t74_196 L_199 r_198 =>
 W.pick t59_123 (.bool true) t74_196 fun t75_201 =>
 W.cond t75_201 (
 Q (.bool false) L_199) (
 W.bin Try.prog Fl .add 3 (slotOf [2, 3, 5] vs_100 5) (.int .i64 1) fun t46_202 =>
 nx_101 [(slotOf [2, 3, 5] vs_100 2), (slotOf [2, 3, 5] vs_100 3), t46_202] L_199))))))))) (
 W.loop (ref08_Same_l1 Q) [(slotOf [2, 3, 5] vs_100 2), (slotOf [2, 3, 5] vs_100 3), (.int .i64 0)] L_102)
def ref08_Same_w (t0 t1 : AV) (L : SH) (Q : AV → SH → Prop) : Prop :=
 W.box t0 L fun t2_0 L_1 =>
 W.box t1 L_1 fun t3_2 L_3 =>
 W.frz1 t2_0 L_3 fun t2_4 L_5 =>
 W.frz1 t3_2 L_5 fun t3_6 L_7 =>
 W.faddr 1 t2_4 fun t8_8 =>
 W.load false 1 t8_8 L_7 fun t9_9 =>
 W.faddr 1 t3_6 fun t10_10 =>
 W.load false 1 t10_10 L_7 fun t11_11 =>
 W.bin Try.prog Fl .neq 3 t9_9 t11_11 fun t12_12 =>
 W.grd t12_12 false (fun k_14 => W.faddr 0 t2_4 fun v_16 =>
 k_14 v_16 L_7) L_7 fun t14_13 L_15 =>
 W.grd t12_12 false (fun k_18 => W.load false 1 t14_13 L_15 fun v_20 =>
 k_18 v_20 L_15) L_15 fun t15_17 L_19 =>
 W.grd t12_12 false (fun k_22 => W.len t15_17 fun v_24 =>
 k_22 v_24 L_19) L_19 fun t16_21 L_23 =>
 W.grd t12_12 false (fun k_26 => W.faddr 0 t3_6 fun v_28 =>
 k_26 v_28 L_23) L_23 fun t17_25 L_27 =>
 W.grd t12_12 false (fun k_30 => W.load false 1 t17_25 L_27 fun v_32 =>
 k_30 v_32 L_27) L_27 fun t18_29 L_31 =>
 W.grd t12_12 false (fun k_34 => W.len t18_29 fun v_36 =>
 k_34 v_36 L_31) L_31 fun t19_33 L_35 =>
 W.grd t12_12 false (fun k_38 => W.bin Try.prog Fl .neq 3 t16_21 t19_33 fun v_40 =>
 k_38 v_40 L_35) L_35 fun t20_37 L_39 =>
 W.pick t12_12 (.bool true) t20_37 fun t21_41 =>
 W.grd t21_41 false (fun k_43 => W.faddr 2 t2_4 fun v_45 =>
 k_43 v_45 L_39) L_39 fun t23_42 L_44 =>
 W.grd t21_41 false (fun k_47 => W.load false 1 t23_42 L_44 fun v_49 =>
 k_47 v_49 L_44) L_44 fun t24_46 L_48 =>
 W.grd t21_41 false (fun k_51 => W.len t24_46 fun v_53 =>
 k_51 v_53 L_48) L_48 fun t25_50 L_52 =>
 W.grd t21_41 false (fun k_55 => W.faddr 2 t3_6 fun v_57 =>
 k_55 v_57 L_52) L_52 fun t26_54 L_56 =>
 W.grd t21_41 false (fun k_59 => W.load false 1 t26_54 L_56 fun v_61 =>
 k_59 v_61 L_56) L_56 fun t27_58 L_60 =>
 W.grd t21_41 false (fun k_63 => W.len t27_58 fun v_65 =>
 k_63 v_65 L_60) L_60 fun t28_62 L_64 =>
 W.grd t21_41 false (fun k_67 => W.bin Try.prog Fl .neq 3 t25_50 t28_62 fun v_69 =>
 k_67 v_69 L_64) L_64 fun t29_66 L_68 =>
 W.pick t21_41 (.bool true) t29_66 fun t30_70 =>
 W.grd t30_70 false (fun k_72 => W.faddr 3 t2_4 fun v_74 =>
 k_72 v_74 L_68) L_68 fun t32_71 L_73 =>
 W.grd t30_70 false (fun k_76 => W.load false 1 t32_71 L_73 fun v_78 =>
 k_76 v_78 L_73) L_73 fun t33_75 L_77 =>
 W.grd t30_70 false (fun k_80 => W.len t33_75 fun v_82 =>
 k_80 v_82 L_77) L_77 fun t34_79 L_81 =>
 W.grd t30_70 false (fun k_84 => W.faddr 3 t3_6 fun v_86 =>
 k_84 v_86 L_81) L_81 fun t35_83 L_85 =>
 W.grd t30_70 false (fun k_88 => W.load false 1 t35_83 L_85 fun v_90 =>
 k_88 v_90 L_85) L_85 fun t36_87 L_89 =>
 W.grd t30_70 false (fun k_92 => W.len t36_87 fun v_94 =>
 k_92 v_94 L_89) L_89 fun t37_91 L_93 =>
 W.grd t30_70 false (fun k_96 => W.bin Try.prog Fl .neq 3 t34_79 t37_91 fun v_98 =>
 k_96 v_98 L_93) L_93 fun t38_95 L_97 =>
 W.pick t30_70 (.bool true) t38_95 fun t39_99 =>
 W.cond t39_99 (
 Q (.bool false) L_97) (
 W.loop (ref08_Same_l2 Q) [t2_4, t3_6, (.int .i64 0)] L_97)
theorem ref08_Same_e (t0 t1 : AV) (L : SH) (Q : AV → SH → Prop) : W.func Try.prog Fl ref08_Same_t Try.f20 (Try.f20.body.getD .skip) [t0, t1] L Q = ref08_Same_w t0 t1 L Q := by kernel_rfl
theorem ref08_Same_ok (t0 t1 : AV) (L : SH) (Q : AV → SH → Prop) (h : ref08_Same_w t0 t1 L Q) : CallA Try.prog 20 [t0, t1] L Q :=
  func_sound (ht := ref08_Same_t) fit Try.func20 (show Try.f20.body = some (Try.f20.body.getD .skip) by kernel_rfl) (Eq.mpr (ref08_Same_e t0 t1 L Q) h)

/- interleave/interleaveref08.Start -/
def ref08_Start_t : Hints := ⟨fun k => if k = 15 then some [1, 2, 3, 6, 7] else none, fun k => if k = 3 then [1, 2, 3, 4] else if k = 7 then [1, 2, 3, 5] else if k = 11 then [1, 2, 3, 6] else [], fun k => if k = 0 then [1] else [], fun k => []⟩
def ref08_Start_j0 (nx_44 : W.Kn) (vs_54 : List AV) (L_56 : SH) : Prop :=
 W.faddr 3 (slotOf [1, 2, 3, 6, 7] vs_54 3) fun t45_57 =>
 W.load false 1 t45_57 L_56 fun t46_58 =>
 W.load true 3 (slotOf [1, 2, 3, 6, 7] vs_54 7) L_56 fun t47_59 =>
 W.bslice 3 [(.int .i64 0), (.int .i64 0), (.bool false)] 1 [(0, t47_59)] L_56 fun t48_60 L_61 =>
 W.append 3 24 t46_58 t48_60 L_61 fun t49_62 L_63 =>
 W.faddr 3 (slotOf [1, 2, 3, 6, 7] vs_54 3) fun t50_64 =>
 W.store 1 t50_64 t49_62 L_63 fun L_65 =>
 W.bin Try.prog Fl .add 3 (slotOf [1, 2, 3, 6, 7] vs_54 6) (.int .i64 1) fun t40_66 =>
 nx_44 [(slotOf [1, 2, 3, 6, 7] vs_54 1), (slotOf [1, 2, 3, 6, 7] vs_54 2), (slotOf [1, 2, 3, 6, 7] vs_54 3), t40_66] L_65
def ref08_Start_l1 (Q : AV → SH → Prop) (vs_43 : List AV) (L_45 : SH) (nx_44 : W.Kn) : Prop :=
 W.faddr 4 (slotOf [1, 2, 3, 6] vs_43 1) fun t35_46 =>
 W.load false 1 t35_46 L_45 fun t36_47 =>
 W.len t36_47 fun t37_48 =>
 W.bin Try.prog Fl .lss 3 (slotOf [1, 2, 3, 6] vs_43 6) t37_48 fun t38_49 =>
 W.cond t38_49 (
 W.build [(.int .i64 0), (.int .i64 0), (.bool false)] [(0, 1, (.int .i64 0))] fun t41_50 =>
 W.alloc [(.int .i64 0), (.int .i64 0), (.bool false)] L_45 fun t7_51 L_52 =>
 W.store 3 t7_51 t41_50 L_52 fun L_53 =>
 W.join (ref08_Start_j0 nx_44) fun j_55 =>
 W.bin Try.prog Fl .eql 3 (slotOf [1, 2, 3, 6] vs_43 6) (.int .i64 0) fun t43_67 =>
 W.cond t43_67 (
 W.faddr 0 t7_51 fun t44_68 =>
 W.store 1 t44_68 (.int .i64 1) L_53 fun L_69 =>
 j_55 [(slotOf [1, 2, 3, 6] vs_43 1), (slotOf [1, 2, 3, 6] vs_43 2), (slotOf [1, 2, 3, 6] vs_43 3), (slotOf [1, 2, 3, 6] vs_43 6), t7_51] L_69) (
 j_55 [(slotOf [1, 2, 3, 6] vs_43 1), (slotOf [1, 2, 3, 6] vs_43 2), (slotOf [1, 2, 3, 6] vs_43 3), (slotOf [1, 2, 3, 6] vs_43 6), t7_51] L_53)) (
 W.load true 4 (slotOf [1, 2, 3, 6] vs_43 3) L_45 fun t51_70 =>
 W.store 4 (slotOf [1, 2, 3, 6] vs_43 2) t51_70 L_45 fun L_71 =>
 W.load true 4 (slotOf [1, 2, 3, 6] vs_43 2) L_71 fun r_72 =>
 Q r_72 L_71)
def ref08_Start_l2 (Q : AV → SH → Prop) (vs_27 : List AV) (L_29 : SH) (nx_28 : W.Kn) : Prop :=
 W.faddr 3 (slotOf [1, 2, 3, 5] vs_27 1) fun t23_30 =>
 W.load false 1 t23_30 L_29 fun t24_31 =>
 W.len t24_31 fun t25_32 =>
 W.bin Try.prog Fl .lss 3 (slotOf [1, 2, 3, 5] vs_27 5) t25_32 fun t26_33 =>
 W.cond t26_33 (
 W.faddr 2 (slotOf [1, 2, 3, 5] vs_27 3) fun t29_34 =>
 W.load false 1 t29_34 L_29 fun t30_35 =>
 W.bslice 1 [(.bool false)] 1 [(0, (.bool false))] L_29 fun t31_36 L_37 =>
 W.append 1 1 t30_35 t31_36 L_37 fun t32_38 L_39 =>
 W.faddr 2 (slotOf [1, 2, 3, 5] vs_27 3) fun t33_40 =>
 W.store 1 t33_40 t32_38 L_39 fun L_41 =>
 W.bin Try.prog Fl .add 3 (slotOf [1, 2, 3, 5] vs_27 5) (.int .i64 1) fun t28_42 =>
 nx_28 [(slotOf [1, 2, 3, 5] vs_27 1), (slotOf [1, 2, 3, 5] vs_27 2), (slotOf [1, 2, 3, 5] vs_27 3), t28_42] L_41) (
 W.loop (ref08_Start_l1 Q) [(slotOf [1, 2, 3, 5] vs_27 1), (slotOf [1, 2, 3, 5] vs_27 2), (slotOf [1, 2, 3, 5] vs_27 3), (.int .i64 0)] L_29)
def ref08_Start_l3 (Q : AV → SH → Prop) (vs_10 : List AV) (L_12 : SH) (nx_11 : W.Kn) : Prop :=
 W.faddr 1 (slotOf [1, 2, 3, 4] vs_10 1) fun t10_13 =>
 W.load false 1 t10_13 L_12 fun t11_14 =>
 W.len t11_14 fun t12_15 =>
 W.bin Try.prog Fl .lss 3 (slotOf [1, 2, 3, 4] vs_10 4) t12_15 fun t13_16 =>
 W.cond t13_16 (
 W.faddr 0 (slotOf [1, 2, 3, 4] vs_10 3) fun t16_17 =>
 W.load false 1 t16_17 L_12 fun t17_18 =>
 W.build [(.int .i64 0), .nils] [(0, 1, (.int .i64 (-1)))] fun t18_19 =>
 W.bslice 2 [(.int .i64 0), .nils] 1 [(0, t18_19)] L_12 fun t19_20 L_21 =>
 W.append 2 32 t17_18 t19_20 L_21 fun t20_22 L_23 =>
 W.faddr 0 (slotOf [1, 2, 3, 4] vs_10 3) fun t21_24 =>
 W.store 1 t21_24 t20_22 L_23 fun L_25 =>
 W.bin Try.prog Fl .add 3 (slotOf [1, 2, 3, 4] vs_10 4) (.int .i64 1) fun t15_26 =>
 nx_11 [(slotOf [1, 2, 3, 4] vs_10 1), (slotOf [1, 2, 3, 4] vs_10 2), (slotOf [1, 2, 3, 4] vs_10 3), t15_26] L_25) (
 W.loop (ref08_Start_l2 Q) [(slotOf [1, 2, 3, 4] vs_10 1), (slotOf [1, 2, 3, 4] vs_10 2), (slotOf [1, 2, 3, 4] vs_10 3), (.int .i64 0)] L_12)
def ref08_Start_w (t0 : AV) (L : SH) (Q : AV → SH → Prop) : Prop :=
 W.box t0 L fun t1_0 L_1 =>
 W.alloc [.nils, (.int .i64 0), .nils, .nils] L_1 fun t2_2 L_3 =>
 W.frz1 t1_0 L_3 fun t1_4 L_5 =>
 W.build [.nils, (.int .i64 0), .nils, .nils] [(1, 1, (.int .i64 (-1)))] fun t8_6 =>
 W.alloc [.nils, (.int .i64 0), .nils, .nils] L_5 fun t3_7 L_8 =>
 W.store 4 t3_7 t8_6 L_8 fun L_9 =>
 W.loop (ref08_Start_l3 Q) [t1_4, t2_2, t3_7, (.int .i64 0)] L_9
theorem ref08_Start_e (t0 : AV) (L : SH) (Q : AV → SH → Prop) : W.func Try.prog Fl ref08_Start_t Try.f22 (Try.f22.body.getD .skip) [t0] L Q = ref08_Start_w t0 L Q := by kernel_rfl
theorem ref08_Start_ok (t0 : AV) (L : SH) (Q : AV → SH → Prop) (h : ref08_Start_w t0 L Q) : CallA Try.prog 22 [t0] L Q :=
  func_sound (ht := ref08_Start_t) fit Try.func22 (show Try.f22.body = some (Try.f22.body.getD .skip) by kernel_rfl) (Eq.mpr (ref08_Start_e t0 L Q) h)

/- interleave/interleaveref08.Apply -/
def ref08_Apply_t : Hints := ⟨fun k => if k = 53 then some [7, 12, 15] else if k = 11 then some [2, 4, 5, 6, 7, 12, 15, 30, 45] else if k = 14 then some [2, 4, 5, 6, 7, 12, 15, 30, 54] else if k = 40 then some [7, 12, 17] else none, fun k => if k = 46 then [7, 12, 18, 19] else [], fun k => if k = 0 then [6] else [], fun k => if k = 17 then [0, 1, 0, 0, 8, 0, 56, 120, 248, 0, 512, 2040, 4095, 8191, 16383] else if k = 19 then [0, 1, 0, 0, 8, 0, 56, 120, 248, 0, 1016, 2047, 4095, 8191] else if k = 29 then [0, 1, 0, 4, 0, 28, 60, 124, 255, 511, 1023] else if k = 30 then [0, 1, 0, 0, 8, 0, 0, 7, 135, 391, 1023, 2047, 4095] else if k = 32 then [0, 1, 0, 4, 0, 28, 60, 124, 0, 511, 1023, 2047] else if k = 33 then [0, 1, 0, 0, 8, 0, 7, 71, 199, 511, 1023, 2047] else if k = 48 then [0, 1, 0, 0, 12, 28, 63, 127, 255] else []⟩
def ref08_Apply_j0 (Q : AV → SH → Prop) (vs_20 : List AV) (L_22 : SH) : Prop :=
 W.load true 4 (slotOf [7, 12, 15] vs_20 7) L_22 fun t215_23 =>
 W.store 4 (slotOf [7, 12, 15] vs_20 12) t215_23 L_22 fun L_24 =>
 W.load true 4 (slotOf [7, 12, 15] vs_20 12) L_24 fun r_25 =>
 Q (.tup [r_25, (slotOf [7, 12, 15] vs_20 15), (.bool true)]) L_24
def ref08_Apply_d1 (L_67 : SH) (t65_56 : AV) (vs_46 : List AV) (j_21 : W.Kn) (t75_69 : AV) (L_71 : SH) (ks_70 : List Nat) : Prop :=
 W.note ⟨[], ks_70, [], L_67.names⟩ fun r_72 =>
 W.calm [] ⟨12, (slOf t65_56), [], [], false, []⟩ (
 W.idx 2 t65_56 (slotOf [2, 4, 5, 6, 7, 12, 15, 30, 54] vs_46 4) L_71 fun t76_73 =>
 W.note ⟨(slOf t65_56), [], [], []⟩ fun r_74 =>
 W.faddr 1 t76_73 fun t77_75 =>
 W.calm [] ⟨14, (blocksOf t77_75), (blocksOf t77_75), [], false, []⟩ (
 W.store 1 t77_75 t75_69 L_71 fun L_76 =>
 W.note ⟨(blocksOf t77_75), (blocksOf t77_75), [], []⟩ fun r_77 =>
 j_21 [(slotOf [2, 4, 5, 6, 7, 12, 15, 30, 54] vs_46 7), (slotOf [2, 4, 5, 6, 7, 12, 15, 30, 54] vs_46 12), (slotOf [2, 4, 5, 6, 7, 12, 15, 30, 54] vs_46 15)] L_76))
def ref08_Apply_d2 (L_48 : SH) (t81_80 : AV) (vs_46 : List AV) (j_21 : W.Kn) (t90_90 : AV) (L_92 : SH) (ks_91 : List Nat) : Prop :=
 W.note ⟨[], ks_91, [], L_48.names⟩ fun r_93 =>
 W.calm [] ⟨11, (slOf t81_80), [], [], false, []⟩ (
 W.idx 2 t81_80 (slotOf [2, 4, 5, 6, 7, 12, 15, 30, 54] vs_46 4) L_92 fun t91_94 =>
 W.note ⟨(slOf t81_80), [], [], []⟩ fun r_95 =>
 W.faddr 1 t91_94 fun t92_96 =>
 W.calm [] ⟨13, (blocksOf t92_96), (blocksOf t92_96), [], false, []⟩ (
 W.store 1 t92_96 t90_90 L_92 fun L_97 =>
 W.note ⟨(blocksOf t92_96), (blocksOf t92_96), [], []⟩ fun r_98 =>
 j_21 [(slotOf [2, 4, 5, 6, 7, 12, 15, 30, 54] vs_46 7), (slotOf [2, 4, 5, 6, 7, 12, 15, 30, 54] vs_46 12), (slotOf [2, 4, 5, 6, 7, 12, 15, 30, 54] vs_46 15)] L_97))
def ref08_Apply_j3 (j_21 : W.Kn) (vs_191 : List AV) (L_193 : SH) : Prop :=
 W.faddr 3 (slotOf [7, 12, 17] vs_191 7) fun t175_194 =>
 W.load false 1 t175_194 L_193 fun t176_195 =>
 W.idx 3 t176_195 (slotOf [7, 12, 17] vs_191 17) L_193 fun t178_196 =>
 W.faddr 0 t178_196 fun t179_197 =>
 W.store 1 t179_197 (.int .i64 4) L_193 fun L_198 =>
 j_21 [(slotOf [7, 12, 17] vs_191 7), (slotOf [7, 12, 17] vs_191 12), (slotOf [7, 12, 17] vs_191 17)] L_198
def ref08_Apply_c4 (j_192 : W.Kn) (vs_46 : List AV) (t170_190 : AV) (t173_199 : AV) (L_200 : SH) : Prop :=
 W.cond t173_199 (
 j_192 [(slotOf [2, 4, 5, 6, 7, 12, 15, 30, 54] vs_46 7), (slotOf [2, 4, 5, 6, 7, 12, 15, 30, 54] vs_46 12), (slotOf [2, 4, 5, 6, 7, 12, 15, 30, 54] vs_46 5)] L_200) (
 j_192 [(slotOf [2, 4, 5, 6, 7, 12, 15, 30, 54] vs_46 7), (slotOf [2, 4, 5, 6, 7, 12, 15, 30, 54] vs_46 12), t170_190] L_200)
def ref08_Apply_c5 (j_21 : W.Kn) (vs_46 : List AV) (t164_185 : AV) (L_186 : SH) : Prop :=
 W.len t164_185 fun t166_187 =>
 W.bin Try.prog Fl .gtr 3 t166_187 (.int .i64 0) fun t167_188 =>
 W.cond t167_188 (
 W.idx 1 t164_185 (.int .i64 0) L_186 fun t169_189 =>
 W.load false 1 t169_189 L_186 fun t170_190 =>
 W.join (ref08_Apply_j3 j_21) fun j_192 =>
 W.call Try.prog (.fn 15 []) [t164_185, (slotOf [2, 4, 5, 6, 7, 12, 15, 30, 54] vs_46 5)] L_186 (ref08_Apply_c4 j_192 vs_46 t170_190)) (
 j_21 [(slotOf [2, 4, 5, 6, 7, 12, 15, 30, 54] vs_46 7), (slotOf [2, 4, 5, 6, 7, 12, 15, 30, 54] vs_46 12), (.int .i64 (-1))] L_186)
def ref08_Apply_l6 (j_21 : W.Kn) (vs_205 : List AV) (L_207 : SH) (nx_206 : W.Kn) : Prop :=
 W.len (slotOf [7, 12, 18, 19] vs_205 18) fun t188_208 =>
 W.bin Try.prog Fl .lss 3 (slotOf [7, 12, 18, 19] vs_205 19) t188_208 fun t189_209 =>
 W.cond t189_209 (
 (true = true) ∧ (
 W.faddr 3 (slotOf [7, 12, 18, 19] vs_205 7) fun t192_210 =>
 W.calm [] ⟨1, (blocksOf t192_210), [], [], false, []⟩ (
 W.load false 1 t192_210 L_207 fun t193_211 =>
 W.note ⟨(blocksOf t192_210), [], [], []⟩ fun r_212 =>
 W.calm [⟨1, r_212.reads, r_212.writes, r_212.made, false, r_212.old⟩] ⟨4, (slOf (slotOf [7, 12, 18, 19] vs_205 18)), [], [], false, []⟩ (
 W.idx 1 (slotOf [7, 12, 18, 19] vs_205 18) (slotOf [7, 12, 18, 19] vs_205 19) L_207 fun t196_213 =>
 W.note ⟨(slOf (slotOf [7, 12, 18, 19] vs_205 18)), [], [], []⟩ fun r_214 =>
 W.calm [⟨1, r_212.reads, r_212.writes, r_212.made, false, r_212.old⟩] ⟨5, (blocksOf t196_213), [], [], false, []⟩ (
 W.load false 1 t196_213 L_207 fun t197_215 =>
 W.note ⟨(blocksOf t196_213), [], [], []⟩ fun r_216 =>
 W.calm [] ⟨6, (slOf t193_211), [], [], false, []⟩ (
 W.idx 3 t193_211 t197_215 L_207 fun t198_217 =>
 W.note ⟨(slOf t193_211), [], [], []⟩ fun r_218 =>
 W.faddr 0 t198_217 fun t199_219 =>
 W.calm [] ⟨8, (blocksOf t199_219), (blocksOf t199_219), [], false, []⟩ (
 W.store 1 t199_219 (.int .i64 4) L_207 fun L_220 =>
 W.note ⟨(blocksOf t199_219), (blocksOf t199_219), [], []⟩ fun r_221 =>
 W.bin Try.prog Fl .add 3 (slotOf [7, 12, 18, 19] vs_205 19) (.int .i64 1) fun t191_222 =>
 nx_206 [(slotOf [7, 12, 18, 19] vs_205 7), (slotOf [7, 12, 18, 19] vs_205 12), (slotOf [7, 12, 18, 19] vs_205 18), t191_222] L_220))))))) (
 W.len (slotOf [7, 12, 18, 19] vs_205 18) fun t201_223 =>
 j_21 [(slotOf [7, 12, 18, 19] vs_205 7), (slotOf [7, 12, 18, 19] vs_205 12), t201_223] L_207)
def ref08_Apply_c7 (j_21 : W.Kn) (vs_46 : List AV) (t185_203 : AV) (L_204 : SH) : Prop :=
 W.loop (ref08_Apply_l6 j_21) [(slotOf [2, 4, 5, 6, 7, 12, 15, 30, 54] vs_46 7), (slotOf [2, 4, 5, 6, 7, 12, 15, 30, 54] vs_46 12), t185_203, (.int .i64 0)] L_204
def ref08_Apply_j8 (j_21 : W.Kn) (vs_46 : List AV) (L_48 : SH) : Prop :=
 W.cond (slotOf [2, 4, 5, 6, 7, 12, 15, 30, 54] vs_46 54) (
 W.faddr 0 (slotOf [2, 4, 5, 6, 7, 12, 15, 30, 54] vs_46 7) fun t57_49 =>
 W.load false 1 t57_49 L_48 fun t58_50 =>
 W.idx 2 t58_50 (slotOf [2, 4, 5, 6, 7, 12, 15, 30, 54] vs_46 4) L_48 fun t60_51 =>
 W.faddr 0 t60_51 fun t61_52 =>
 W.store 1 t61_52 (.int .i64 (-1)) L_48 fun L_53 =>
 j_21 [(slotOf [2, 4, 5, 6, 7, 12, 15, 30, 54] vs_46 7), (slotOf [2, 4, 5, 6, 7, 12, 15, 30, 54] vs_46 12), (slotOf [2, 4, 5, 6, 7, 12, 15, 30, 54] vs_46 15)] L_53) (
 W.bin Try.prog Fl .eql 3 (slotOf [2, 4, 5, 6, 7, 12, 15, 30, 54] vs_46 30) (.int .i64 8) fun t63_54 =>
 W.cond t63_54 (
 (true = true) ∧ (
 W.faddr 0 (slotOf [2, 4, 5, 6, 7, 12, 15, 30, 54] vs_46 7) fun t64_55 =>
 W.calm [] ⟨1, (blocksOf t64_55), [], [], false, []⟩ (
 W.load false 1 t64_55 L_48 fun t65_56 =>
 W.note ⟨(blocksOf t64_55), [], [], []⟩ fun r_57 =>
 W.faddr 0 (slotOf [2, 4, 5, 6, 7, 12, 15, 30, 54] vs_46 7) fun t67_58 =>
 W.calm [⟨1, r_57.reads, r_57.writes, r_57.made, false, r_57.old⟩] ⟨4, (blocksOf t67_58), [], [], false, []⟩ (
 W.load false 1 t67_58 L_48 fun t68_59 =>
 W.note ⟨(blocksOf t67_58), [], [], []⟩ fun r_60 =>
 W.calm [⟨1, r_57.reads, r_57.writes, r_57.made, false, r_57.old⟩] ⟨6, (slOf t68_59), [], [], false, []⟩ (
 W.idx 2 t68_59 (slotOf [2, 4, 5, 6, 7, 12, 15, 30, 54] vs_46 4) L_48 fun t70_61 =>
 W.note ⟨(slOf t68_59), [], [], []⟩ fun r_62 =>
 W.faddr 1 t70_61 fun t71_63 =>
 W.calm [⟨1, r_57.reads, r_57.writes, r_57.made, false, r_57.old⟩] ⟨8, (blocksOf t71_63), [], [], false, []⟩ (
 W.load false 1 t71_63 L_48 fun t72_64 =>
 W.note ⟨(blocksOf t71_63), [], [], []⟩ fun r_65 =>
 W.calm [⟨8, r_65.reads, r_65.writes, r_65.made, false, r_65.old⟩, ⟨6, r_62.reads, r_62.writes, r_62.made, false, r_62.old⟩, ⟨4, r_60.reads, r_60.writes, r_60.made, false, r_60.old⟩, ⟨1, r_57.reads, r_57.writes, r_57.made, false, r_57.old⟩] ⟨10, [], [], [], false, []⟩ (
 W.bslice 1 [(.int .i64 0)] 1 [(0, (slotOf [2, 4, 5, 6, 7, 12, 15, 30, 54] vs_46 2))] L_48 fun t74_66 L_67 =>
 W.note ⟨[], [], (blocksOf t74_66), []⟩ fun r_68 =>
 W.dcall Try.prog [⟨1, r_57.reads, r_57.writes, r_57.made, false, r_57.old⟩] 11 (.fn 57 []) [t72_64, t74_66] L_67 (ref08_Apply_d1 L_67 t65_56 vs_46 j_21)))))))) (
 W.bin Try.prog Fl .eql 3 (slotOf [2, 4, 5, 6, 7, 12, 15, 30, 54] vs_46 30) (.int .i64 9) fun t79_78 =>
 W.cond t79_78 (
 (true = true) ∧ (
 W.faddr 0 (slotOf [2, 4, 5, 6, 7, 12, 15, 30, 54] vs_46 7) fun t80_79 =>
 W.calm [] ⟨1, (blocksOf t80_79), [], [], false, []⟩ (
 W.load false 1 t80_79 L_48 fun t81_80 =>
 W.note ⟨(blocksOf t80_79), [], [], []⟩ fun r_81 =>
 W.faddr 0 (slotOf [2, 4, 5, 6, 7, 12, 15, 30, 54] vs_46 7) fun t83_82 =>
 W.calm [⟨1, r_81.reads, r_81.writes, r_81.made, false, r_81.old⟩] ⟨4, (blocksOf t83_82), [], [], false, []⟩ (
 W.load false 1 t83_82 L_48 fun t84_83 =>
 W.note ⟨(blocksOf t83_82), [], [], []⟩ fun r_84 =>
 W.calm [⟨1, r_81.reads, r_81.writes, r_81.made, false, r_81.old⟩] ⟨6, (slOf t84_83), [], [], false, []⟩ (
 W.idx 2 t84_83 (slotOf [2, 4, 5, 6, 7, 12, 15, 30, 54] vs_46 4) L_48 fun t86_85 =>
 W.note ⟨(slOf t84_83), [], [], []⟩ fun r_86 =>
 W.faddr 1 t86_85 fun t87_87 =>
 W.calm [⟨1, r_81.reads, r_81.writes, r_81.made, false, r_81.old⟩] ⟨8, (blocksOf t87_87), [], [], false, []⟩ (
 W.load false 1 t87_87 L_48 fun t88_88 =>
 W.note ⟨(blocksOf t87_87), [], [], []⟩ fun r_89 =>
 W.dcall Try.prog [⟨1, r_81.reads, r_81.writes, r_81.made, false, r_81.old⟩] 10 (.fn 58 []) [t88_88, (slotOf [2, 4, 5, 6, 7, 12, 15, 30, 54] vs_46 2)] L_48 (ref08_Apply_d2 L_48 t81_80 vs_46 j_21))))))) (
 W.bin Try.prog Fl .eql 3 (slotOf [2, 4, 5, 6, 7, 12, 15, 30, 54] vs_46 30) (.int .i64 12) fun t94_99 =>
 W.cond t94_99 (
 W.faddr 1 (slotOf [2, 4, 5, 6, 7, 12, 15, 30, 54] vs_46 7) fun t96_100 =>
 W.store 1 t96_100 (slotOf [2, 4, 5, 6, 7, 12, 15, 30, 54] vs_46 2) L_48 fun L_101 =>
 j_21 [(slotOf [2, 4, 5, 6, 7, 12, 15, 30, 54] vs_46 7), (slotOf [2, 4, 5, 6, 7, 12, 15, 30, 54] vs_46 12), (slotOf [2, 4, 5, 6, 7, 12, 15, 30, 54] vs_46 15)] L_101) (
 W.bin Try.prog Fl .eql 3 (slotOf [2, 4, 5, 6, 7, 12, 15, 30, 54] vs_46 30) (.int .i64 13) fun t98_102 =>
 W.cond t98_102 (
 W.faddr 1 (slotOf [2, 4, 5, 6, 7, 12, 15, 30, 54] vs_46 7) fun t99_103 =>
 W.store 1 t99_103 (.int .i64 (-1)) L_48 fun L_104 =>
 j_21 [(slotOf [2, 4, 5, 6, 7, 12, 15, 30, 54] vs_46 7), (slotOf [2, 4, 5, 6, 7, 12, 15, 30, 54] vs_46 12), (slotOf [2, 4, 5, 6, 7, 12, 15, 30, 54] vs_46 15)] L_104) (
 W.bin Try.prog Fl .eql 3 (slotOf [2, 4, 5, 6, 7, 12, 15, 30, 54] vs_46 30) (.int .i64 14) fun t101_105 =>
 W.cond t101_105 (
 W.faddr 3 (slotOf [2, 4, 5, 6, 7, 12, 15, 30, 54] vs_46 7) fun t102_106 =>
 W.load false 1 t102_106 L_48 fun t103_107 =>
 W.idx 3 t103_107 (slotOf [2, 4, 5, 6, 7, 12, 15, 30, 54] vs_46 2) L_48 fun t105_108 =>
 W.faddr 2 t105_108 fun t106_109 =>
 W.store 1 t106_109 (.bool true) L_48 fun L_110 =>
 j_21 [(slotOf [2, 4, 5, 6, 7, 12, 15, 30, 54] vs_46 7), (slotOf [2, 4, 5, 6, 7, 12, 15, 30, 54] vs_46 12), (slotOf [2, 4, 5, 6, 7, 12, 15, 30, 54] vs_46 15)] L_110) (
 W.bin Try.prog Fl .eql 3 (slotOf [2, 4, 5, 6, 7, 12, 15, 30, 54] vs_46 30) (.int .i64 15) fun t108_111 =>
 W.cond t108_111 (
 W.faddr 3 (slotOf [2, 4, 5, 6, 7, 12, 15, 30, 54] vs_46 7) fun t109_112 =>
 W.load false 1 t109_112 L_48 fun t110_113 =>
 W.idx 3 t110_113 (slotOf [2, 4, 5, 6, 7, 12, 15, 30, 54] vs_46 2) L_48 fun t112_114 =>
 W.faddr 2 t112_114 fun t113_115 =>
 W.store 1 t113_115 (.bool false) L_48 fun L_116 =>
 j_21 [(slotOf [2, 4, 5, 6, 7, 12, 15, 30, 54] vs_46 7), (slotOf [2, 4, 5, 6, 7, 12, 15, 30, 54] vs_46 12), (slotOf [2, 4, 5, 6, 7, 12, 15, 30, 54] vs_46 15)] L_116) (
 W.bin Try.prog Fl .eql 3 (slotOf [2, 4, 5, 6, 7, 12, 15, 30, 54] vs_46 30) (.int .i64 16) fun t115_117 =>
 W.cond t115_117 (
 (true = true) ∧ (
 W.faddr 0 (slotOf [2, 4, 5, 6, 7, 12, 15, 30, 54] vs_46 7) fun t116_118 =>
 W.calm [] ⟨1, (blocksOf t116_118), [], [], false, []⟩ (
 W.load false 1 t116_118 L_48 fun t117_119 =>
 W.note ⟨(blocksOf t116_118), [], [], []⟩ fun r_120 =>
 W.faddr 2 (slotOf [2, 4, 5, 6, 7, 12, 15, 30, 54] vs_46 6) fun t118_121 =>
 W.calm [⟨1, r_120.reads, r_120.writes, r_120.made, false, r_120.old⟩] ⟨3, (blocksOf t118_121), [], [], false, []⟩ (
 W.load false 1 t118_121 L_48 fun t119_122 =>
 W.note ⟨(blocksOf t118_121), [], [], []⟩ fun r_123 =>
 W.calm [⟨1, r_120.reads, r_120.writes, r_120.made, false, r_120.old⟩] ⟨5, (slOf t119_122), [], [], false, []⟩ (
 W.idx 2 t119_122 (slotOf [2, 4, 5, 6, 7, 12, 15, 30, 54] vs_46 4) L_48 fun t121_124 =>
 W.note ⟨(slOf t119_122), [], [], []⟩ fun r_125 =>
 W.faddr 1 t121_124 fun t122_126 =>
 W.calm [⟨1, r_120.reads, r_120.writes, r_120.made, false, r_120.old⟩] ⟨7, (blocksOf t122_126), [], [], false, []⟩ (
 W.load false 1 t122_126 L_48 fun t123_127 =>
 W.note ⟨(blocksOf t122_126), [], [], []⟩ fun r_128 =>
 W.calm [] ⟨8, (slOf t117_119), [], [], false, []⟩ (
 W.idx 2 t117_119 t123_127 L_48 fun t124_129 =>
 W.note ⟨(slOf t117_119), [], [], []⟩ fun r_130 =>
 W.faddr 0 t124_129 fun t125_131 =>
 W.calm [] ⟨10, (blocksOf t125_131), (blocksOf t125_131), [], false, []⟩ (
 W.store 1 t125_131 (.int .i64 (-1)) L_48 fun L_132 =>
 W.note ⟨(blocksOf t125_131), (blocksOf t125_131), [], []⟩ fun r_133 =>
 (true = true) ∧ (
 W.faddr 3 (slotOf [2, 4, 5, 6, 7, 12, 15, 30, 54] vs_46 7) fun t126_134 =>
 W.calm [] ⟨1, (blocksOf t126_134), [], [], false, []⟩ (
 W.load false 1 t126_134 L_132 fun t127_135 =>
 W.note ⟨(blocksOf t126_134), [], [], []⟩ fun r_136 =>
 W.faddr 3 (slotOf [2, 4, 5, 6, 7, 12, 15, 30, 54] vs_46 7) fun t129_137 =>
 W.calm [⟨1, r_136.reads, r_136.writes, r_136.made, false, r_136.old⟩] ⟨4, (blocksOf t129_137), [], [], false, []⟩ (
 W.load false 1 t129_137 L_132 fun t130_138 =>
 W.note ⟨(blocksOf t129_137), [], [], []⟩ fun r_139 =>
 W.calm [⟨4, r_139.reads, r_139.writes, r_139.made, false, r_139.old⟩] ⟨7, (slOf t127_135), [], [], false, []⟩ (
 W.idx 3 t127_135 (slotOf [2, 4, 5, 6, 7, 12, 15, 30, 54] vs_46 2) L_132 fun t133_140 =>
 W.note ⟨(slOf t127_135), [], [], []⟩ fun r_141 =>
 W.faddr 0 t133_140 fun t134_142 =>
 W.calm [⟨4, r_139.reads, r_139.writes, r_139.made, false, r_139.old⟩] ⟨9, (blocksOf t134_142), (blocksOf t134_142), [], false, []⟩ (
 W.store 1 t134_142 (.int .i64 3) L_132 fun L_143 =>
 W.note ⟨(blocksOf t134_142), (blocksOf t134_142), [], []⟩ fun r_144 =>
 W.calm [] ⟨10, (slOf t130_138), [], [], false, []⟩ (
 W.idx 3 t130_138 (slotOf [2, 4, 5, 6, 7, 12, 15, 30, 54] vs_46 2) L_143 fun t135_145 =>
 W.note ⟨(slOf t130_138), [], [], []⟩ fun r_146 =>
 W.faddr 1 t135_145 fun t136_147 =>
 W.calm [] ⟨12, (blocksOf t136_147), (blocksOf t136_147), [], false, []⟩ (
 W.store 1 t136_147 (slotOf [2, 4, 5, 6, 7, 12, 15, 30, 54] vs_46 4) L_143 fun L_148 =>
 W.note ⟨(blocksOf t136_147), (blocksOf t136_147), [], []⟩ fun r_149 =>
 j_21 [(slotOf [2, 4, 5, 6, 7, 12, 15, 30, 54] vs_46 7), (slotOf [2, 4, 5, 6, 7, 12, 15, 30, 54] vs_46 12), (slotOf [2, 4, 5, 6, 7, 12, 15, 30, 54] vs_46 15)] L_148))))))))))))))) (
 W.bin Try.prog Fl .eql 3 (slotOf [2, 4, 5, 6, 7, 12, 15, 30, 54] vs_46 30) (.int .i64 17) fun t138_150 =>
 W.cond t138_150 (
 (true = true) ∧ (
 W.faddr 0 (slotOf [2, 4, 5, 6, 7, 12, 15, 30, 54] vs_46 7) fun t139_151 =>
 W.calm [] ⟨1, (blocksOf t139_151), [], [], false, []⟩ (
 W.load false 1 t139_151 L_48 fun t140_152 =>
 W.note ⟨(blocksOf t139_151), [], [], []⟩ fun r_153 =>
 W.faddr 2 (slotOf [2, 4, 5, 6, 7, 12, 15, 30, 54] vs_46 6) fun t141_154 =>
 W.calm [⟨1, r_153.reads, r_153.writes, r_153.made, false, r_153.old⟩] ⟨3, (blocksOf t141_154), [], [], false, []⟩ (
 W.load false 1 t141_154 L_48 fun t142_155 =>
 W.note ⟨(blocksOf t141_154), [], [], []⟩ fun r_156 =>
 W.calm [⟨1, r_153.reads, r_153.writes, r_153.made, false, r_153.old⟩] ⟨5, (slOf t142_155), [], [], false, []⟩ (
 W.idx 2 t142_155 (slotOf [2, 4, 5, 6, 7, 12, 15, 30, 54] vs_46 4) L_48 fun t144_157 =>
 W.note ⟨(slOf t142_155), [], [], []⟩ fun r_158 =>
 W.faddr 1 t144_157 fun t145_159 =>
 W.calm [⟨1, r_153.reads, r_153.writes, r_153.made, false, r_153.old⟩] ⟨7, (blocksOf t145_159), [], [], false, []⟩ (
 W.load false 1 t145_159 L_48 fun t146_160 =>
 W.note ⟨(blocksOf t145_159), [], [], []⟩ fun r_161 =>
 W.calm [] ⟨9, (slOf t140_152), [], [], false, []⟩ (
 W.idx 2 t140_152 t146_160 L_48 fun t148_162 =>
 W.note ⟨(slOf t140_152), [], [], []⟩ fun r_163 =>
 W.faddr 0 t148_162 fun t149_164 =>
 W.calm [] ⟨11, (blocksOf t149_164), (blocksOf t149_164), [], false, []⟩ (
 W.store 1 t149_164 (slotOf [2, 4, 5, 6, 7, 12, 15, 30, 54] vs_46 2) L_48 fun L_165 =>
 W.note ⟨(blocksOf t149_164), (blocksOf t149_164), [], []⟩ fun r_166 =>
 (true = true) ∧ (
 W.faddr 3 (slotOf [2, 4, 5, 6, 7, 12, 15, 30, 54] vs_46 7) fun t150_167 =>
 W.calm [] ⟨1, (blocksOf t150_167), [], [], false, []⟩ (
 W.load false 1 t150_167 L_165 fun t151_168 =>
 W.note ⟨(blocksOf t150_167), [], [], []⟩ fun r_169 =>
 W.faddr 3 (slotOf [2, 4, 5, 6, 7, 12, 15, 30, 54] vs_46 7) fun t153_170 =>
 W.calm [⟨1, r_169.reads, r_169.writes, r_169.made, false, r_169.old⟩] ⟨4, (blocksOf t153_170), [], [], false, []⟩ (
 W.load false 1 t153_170 L_165 fun t154_171 =>
 W.note ⟨(blocksOf t153_170), [], [], []⟩ fun r_172 =>
 W.calm [⟨4, r_172.reads, r_172.writes, r_172.made, false, r_172.old⟩] ⟨6, (slOf t151_168), [], [], false, []⟩ (
 W.idx 3 t151_168 (slotOf [2, 4, 5, 6, 7, 12, 15, 30, 54] vs_46 2) L_165 fun t156_173 =>
 W.note ⟨(slOf t151_168), [], [], []⟩ fun r_174 =>
 W.faddr 0 t156_173 fun t157_175 =>
 W.calm [⟨4, r_172.reads, r_172.writes, r_172.made, false, r_172.old⟩] ⟨8, (blocksOf t157_175), (blocksOf t157_175), [], false, []⟩ (
 W.store 1 t157_175 (.int .i64 2) L_165 fun L_176 =>
 W.note ⟨(blocksOf t157_175), (blocksOf t157_175), [], []⟩ fun r_177 =>
 W.calm [] ⟨9, (slOf t154_171), [], [], false, []⟩ (
 W.idx 3 t154_171 (slotOf [2, 4, 5, 6, 7, 12, 15, 30, 54] vs_46 2) L_176 fun t158_178 =>
 W.note ⟨(slOf t154_171), [], [], []⟩ fun r_179 =>
 W.faddr 1 t158_178 fun t159_180 =>
 W.calm [] ⟨11, (blocksOf t159_180), (blocksOf t159_180), [], false, []⟩ (
 W.store 1 t159_180 (.int .i64 0) L_176 fun L_181 =>
 W.note ⟨(blocksOf t159_180), (blocksOf t159_180), [], []⟩ fun r_182 =>
 j_21 [(slotOf [2, 4, 5, 6, 7, 12, 15, 30, 54] vs_46 7), (slotOf [2, 4, 5, 6, 7, 12, 15, 30, 54] vs_46 12), (slotOf [2, 4, 5, 6, 7, 12, 15, 30, 54] vs_46 15)] L_181))))))))))))))) (
 W.bin Try.prog Fl .eql 3 (slotOf [2, 4, 5, 6, 7, 12, 15, 30, 54] vs_46 30) (.int .i64 18) fun t161_183 =>
 W.cond t161_183 (
 W.load true 4 (slotOf [2, 4, 5, 6, 7, 12, 15, 30, 54] vs_46 7) L_48 fun t162_184 =>
 W.call Try.prog (.fn 59 []) [t162_184, (slotOf [2, 4, 5, 6, 7, 12, 15, 30, 54] vs_46 4)] L_48 (ref08_Apply_c5 j_21 vs_46)) (
 W.bin Try.prog Fl .eql 3 (slotOf [2, 4, 5, 6, 7, 12, 15, 30, 54] vs_46 30) (.int .i64 19) fun t182_201 =>
 W.cond t182_201 (
 W.load true 4 (slotOf [2, 4, 5, 6, 7, 12, 15, 30, 54] vs_46 7) L_48 fun t183_202 =>
 W.call Try.prog (.fn 59 []) [t183_202, (slotOf [2, 4, 5, 6, 7, 12, 15, 30, 54] vs_46 4)] L_48 (ref08_Apply_c7 j_21 vs_46)) (
 W.bin Try.prog Fl .eql 3 (slotOf [2, 4, 5, 6, 7, 12, 15, 30, 54] vs_46 30) (.int .i64 20) fun t203_224 =>
 W.cond t203_224 (
 W.faddr 3 (slotOf [2, 4, 5, 6, 7, 12, 15, 30, 54] vs_46 7) fun t204_225 =>
 W.load false 1 t204_225 L_48 fun t205_226 =>
 W.idx 3 t205_226 (slotOf [2, 4, 5, 6, 7, 12, 15, 30, 54] vs_46 4) L_48 fun t207_227 =>
 W.faddr 0 t207_227 fun t208_228 =>
 W.store 1 t208_228 (.int .i64 1) L_48 fun L_229 =>
 j_21 [(slotOf [2, 4, 5, 6, 7, 12, 15, 30, 54] vs_46 7), (slotOf [2, 4, 5, 6, 7, 12, 15, 30, 54] vs_46 12), (slotOf [2, 4, 5, 6, 7, 12, 15, 30, 54] vs_46 15)] L_229) (
 W.bin Try.prog Fl .eql 3 (slotOf [2, 4, 5, 6, 7, 12, 15, 30, 54] vs_46 30) (.int .i64 22) fun t210_230 =>
 W.cond t210_230 (
 W.faddr 2 (slotOf [2, 4, 5, 6, 7, 12, 15, 30, 54] vs_46 7) fun t211_231 =>
 W.load false 1 t211_231 L_48 fun t212_232 =>
 W.idx 1 t212_232 (slotOf [2, 4, 5, 6, 7, 12, 15, 30, 54] vs_46 4) L_48 fun t214_233 =>
 W.store 1 t214_233 (.bool true) L_48 fun L_234 =>
 j_21 [(slotOf [2, 4, 5, 6, 7, 12, 15, 30, 54] vs_46 7), (slotOf [2, 4, 5, 6, 7, 12, 15, 30, 54] vs_46 12), (slotOf [2, 4, 5, 6, 7, 12, 15, 30, 54] vs_46 15)] L_234) (
 j_21 [(slotOf [2, 4, 5, 6, 7, 12, 15, 30, 54] vs_46 7), (slotOf [2, 4, 5, 6, 7, 12, 15, 30, 54] vs_46 12), (slotOf [2, 4, 5, 6, 7, 12, 15, 30, 54] vs_46 15)] L_48)))))))))))))
def ref08_Apply_j9 (j_21 : W.Kn) (vs_38 : List AV) (L_40 : SH) : Prop :=
 W.cond (slotOf [2, 4, 5, 6, 7, 12, 15, 30, 45] vs_38 45) (
 W.faddr 0 (slotOf [2, 4, 5, 6, 7, 12, 15, 30, 45] vs_38 7) fun t48_41 =>
 W.load false 1 t48_41 L_40 fun t49_42 =>
 W.idx 2 t49_42 (slotOf [2, 4, 5, 6, 7, 12, 15, 30, 45] vs_38 4) L_40 fun t52_43 =>
 W.faddr 0 t52_43 fun t53_44 =>
 W.store 1 t53_44 (slotOf [2, 4, 5, 6, 7, 12, 15, 30, 45] vs_38 2) L_40 fun L_45 =>
 j_21 [(slotOf [2, 4, 5, 6, 7, 12, 15, 30, 45] vs_38 7), (slotOf [2, 4, 5, 6, 7, 12, 15, 30, 45] vs_38 12), (slotOf [2, 4, 5, 6, 7, 12, 15, 30, 45] vs_38 15)] L_45) (
 W.join (ref08_Apply_j8 j_21) fun j_47 =>
 W.bin Try.prog Fl .eql 3 (slotOf [2, 4, 5, 6, 7, 12, 15, 30, 45] vs_38 30) (.int .i64 7) fun t55_235 =>
 W.cond t55_235 (
 j_47 [(slotOf [2, 4, 5, 6, 7, 12, 15, 30, 45] vs_38 2), (slotOf [2, 4, 5, 6, 7, 12, 15, 30, 45] vs_38 4), (slotOf [2, 4, 5, 6, 7, 12, 15, 30, 45] vs_38 5), (slotOf [2, 4, 5, 6, 7, 12, 15, 30, 45] vs_38 6), (slotOf [2, 4, 5, 6, 7, 12, 15, 30, 45] vs_38 7), (slotOf [2, 4, 5, 6, 7, 12, 15, 30, 45] vs_38 12), (slotOf [2, 4, 5, 6, 7, 12, 15, 30, 45] vs_38 15), (slotOf [2, 4, 5, 6, 7, 12, 15, 30, 45] vs_38 30), t55_235] L_40) (
 W.bin Try.prog Fl .eql 3 (slotOf [2, 4, 5, 6, 7, 12, 15, 30, 45] vs_38 30) (.int .i64 11) fun t56_236 =>
 j_47 [(slotOf [2, 4, 5, 6, 7, 12, 15, 30, 45] vs_38 2), (slotOf [2, 4, 5, 6, 7, 12, 15, 30, 45] vs_38 4), (slotOf [2, 4, 5, 6, 7, 12, 15, 30, 45] vs_38 5), (slotOf [2, 4, 5, 6, 7, 12, 15, 30, 45] vs_38 6), (slotOf [2, 4, 5, 6, 7, 12, 15, 30, 45] vs_38 7), (slotOf [2, 4, 5, 6, 7, 12, 15, 30, 45] vs_38 12), (slotOf [2, 4, 5, 6, 7, 12, 15, 30, 45] vs_38 15), (slotOf [2, 4, 5, 6, 7, 12, 15, 30, 45] vs_38 30), t56_236] L_40))
def ref08_Apply_c10 (t7_2 : AV) (Q : AV → SH → Prop) (t3 : AV) (t2 : AV) (t12_4 : AV) (t4 : AV) (t5 : AV) (t6_6 : AV) (t29_17 : AV) (L_18 : SH) : Prop :=
 W.store 4 t7_2 t29_17 L_18 fun L_19 =>
 W.join (ref08_Apply_j0 Q) fun j_21 =>
 W.bin Try.prog Fl .eql 3 t3 (.int .i64 1) fun t32_26 =>
 W.cond t32_26 (
 W.faddr 3 t7_2 fun t33_27 =>
 W.load false 1 t33_27 L_19 fun t34_28 =>
 W.idx 3 t34_28 t2 L_19 fun t36_29 =>
 W.faddr 0 t36_29 fun t37_30 =>
 W.store 1 t37_30 (.int .i64 2) L_19 fun L_31 =>
 j_21 [t7_2, t12_4, (.int .i64 0)] L_31) (
 W.bin Try.prog Fl .eql 3 t3 (.int .i64 2) fun t39_32 =>
 W.cond t39_32 (
 W.faddr 3 t7_2 fun t40_33 =>
 W.load false 1 t40_33 L_19 fun t41_34 =>
 W.idx 3 t41_34 t2 L_19 fun t43_35 =>
 W.faddr 0 t43_35 fun t44_36 =>
 W.store 1 t44_36 (.int .i64 5) L_19 fun L_37 =>
 j_21 [t7_2, t12_4, (.int .i64 0)] L_37) (
 W.join (ref08_Apply_j9 j_21) fun j_39 =>
 W.bin Try.prog Fl .eql 3 t3 (.int .i64 6) fun t46_237 =>
 W.cond t46_237 (
 j_39 [t2, t4, t5, t6_6, t7_2, t12_4, (.int .i64 0), t3, t46_237] L_19) (
 W.bin Try.prog Fl .eql 3 t3 (.int .i64 10) fun t47_238 =>
 j_39 [t2, t4, t5, t6_6, t7_2, t12_4, (.int .i64 0), t3, t47_238] L_19)))
def ref08_Apply_c11 (t12_4 : AV) (Q : AV → SH → Prop) (t7_2 : AV) (t3 : AV) (t2 : AV) (t4 : AV) (t5 : AV) (t6_6 : AV) (t25_10 : AV) (L_11 : SH) : Prop :=
 W.un .not t25_10 fun t26_12 =>
 W.cond t26_12 (
 W.build [.nils, (.int .i64 0), .nils, .nils] [] fun t27_13 =>
 W.store 4 t12_4 t27_13 L_11 fun L_14 =>
 W.load true 4 t12_4 L_14 fun r_15 =>
 Q (.tup [r_15, (.int .i64 0), (.bool false)]) L_14) (
 W.load true 4 t7_2 L_11 fun t28_16 =>
 W.call Try.prog (.fn 56 []) [t28_16] L_11 (ref08_Apply_c10 t7_2 Q t3 t2 t12_4 t4 t5 t6_6))
def ref08_Apply_w (t0 t1 t2 t3 t4 t5 : AV) (L : SH) (Q : AV → SH → Prop) : Prop :=
 W.box t0 L fun t6_0 L_1 =>
 W.box t1 L_1 fun t7_2 L_3 =>
 W.alloc [.nils, (.int .i64 0), .nils, .nils] L_3 fun t12_4 L_5 =>
 W.frz1 t6_0 L_5 fun t6_6 L_7 =>
 W.load true 6 t6_6 L_7 fun t20_8 =>
 W.load true 4 t7_2 L_7 fun t21_9 =>
 W.call Try.prog (.fn 55 []) [t20_8, t21_9, t2, t3, t4] L_7 (ref08_Apply_c11 t12_4 Q t7_2 t3 t2 t4 t5 t6_6)
theorem ref08_Apply_e (t0 t1 t2 t3 t4 t5 : AV) (L : SH) (Q : AV → SH → Prop) : W.func Try.prog Fl ref08_Apply_t Try.f29 (Try.f29.body.getD .skip) [t0, t1, t2, t3, t4, t5] L Q = ref08_Apply_w t0 t1 t2 t3 t4 t5 L Q := by kernel_rfl
theorem ref08_Apply_ok (t0 t1 t2 t3 t4 t5 : AV) (L : SH) (Q : AV → SH → Prop) (h : ref08_Apply_w t0 t1 t2 t3 t4 t5 L Q) : CallA Try.prog 29 [t0, t1, t2, t3, t4, t5] L Q :=
  func_sound (ht := ref08_Apply_t) fit Try.func29 (show Try.f29.body = some (Try.f29.body.getD .skip) by kernel_rfl) (Eq.mpr (ref08_Apply_e t0 t1 t2 t3 t4 t5 L Q) h)

/- interleave/interleaveref08.Holds -/
def ref08_Holds_t : Hints := ⟨fun k => if k = 8 then some [2, 4, 8, 9, 10] else none, fun k => if k = 5 then [2, 4, 8, 9, 10] else [], fun k => if k = 0 then [3, 4] else [], fun k => []⟩
def ref08_Holds_c0 (vs_45 : List AV) (nx_39 : W.Kn) (t51_53 : AV) (L_54 : SH) : Prop :=
 W.cond t51_53 (
 W.bslice 1 [(.int .i64 0)] 1 [(0, (slotOf [2, 4, 8, 9, 10] vs_45 10))] L_54 fun t54_55 L_56 =>
 W.append 1 8 (slotOf [2, 4, 8, 9, 10] vs_45 9) t54_55 L_56 fun t55_57 L_58 =>
 W.bin Try.prog Fl .add 3 (slotOf [2, 4, 8, 9, 10] vs_45 10) (.int .i64 1) fun t31_59 =>
 nx_39 [(slotOf [2, 4, 8, 9, 10] vs_45 2), (slotOf [2, 4, 8, 9, 10] vs_45 4), (slotOf [2, 4, 8, 9, 10] vs_45 8), t55_57, t31_59] L_58) (
 W.bin Try.prog Fl .add 3 (slotOf [2, 4, 8, 9, 10] vs_45 10) (.int .i64 1) fun t31_60 =>
 nx_39 [(slotOf [2, 4, 8, 9, 10] vs_45 2), (slotOf [2, 4, 8, 9, 10] vs_45 4), (slotOf [2, 4, 8, 9, 10] vs_45 8), (slotOf [2, 4, 8, 9, 10] vs_45 9), t31_60] L_54)
def ref08_Holds_j1 (nx_39 : W.Kn) (vs_45 : List AV) (L_47 : SH) : Prop :=
 W.faddr 0 (slotOf [2, 4, 8, 9, 10] vs_45 4) fun t44_48 =>
 W.load false 1 t44_48 L_47 fun t45_49 =>
 W.idx 2 t45_49 (slotOf [2, 4, 8, 9, 10] vs_45 10) L_47 fun t47_50 =>
 W.faddr 1 t47_50 fun t48_51 =>
 W.load false 1 t48_51 L_47 fun t49_52 =>
 W.call Try.prog (.fn 15 []) [t49_52, (slotOf [2, 4, 8, 9, 10] vs_45 2)] L_47 (ref08_Holds_c0 vs_45 nx_39)
def ref08_Holds_l2 (Q : AV → SH → Prop) (vs_38 : List AV) (L_40 : SH) (nx_39 : W.Kn) : Prop :=
 W.faddr 0 (slotOf [2, 4, 8, 9, 10] vs_38 4) fun t26_41 =>
 W.load false 1 t26_41 L_40 fun t27_42 =>
 W.len t27_42 fun t28_43 =>
 W.bin Try.prog Fl .lss 3 (slotOf [2, 4, 8, 9, 10] vs_38 10) t28_43 fun t29_44 =>
 W.cond t29_44 (
 W.join (ref08_Holds_j1 nx_39) fun j_46 =>
 W.faddr 0 (slotOf [2, 4, 8, 9, 10] vs_38 4) fun t32_61 =>
 W.load false 1 t32_61 L_40 fun t33_62 =>
 W.idx 2 t33_62 (slotOf [2, 4, 8, 9, 10] vs_38 10) L_40 fun t35_63 =>
 W.faddr 0 t35_63 fun t36_64 =>
 W.load false 1 t36_64 L_40 fun t37_65 =>
 W.bin Try.prog Fl .eql 3 t37_65 (slotOf [2, 4, 8, 9, 10] vs_38 2) fun t39_66 =>
 W.cond t39_66 (
 W.bslice 1 [(.int .i64 0)] 1 [(0, (slotOf [2, 4, 8, 9, 10] vs_38 10))] L_40 fun t42_67 L_68 =>
 W.append 1 8 (slotOf [2, 4, 8, 9, 10] vs_38 8) t42_67 L_68 fun t43_69 L_70 =>
 j_46 [(slotOf [2, 4, 8, 9, 10] vs_38 2), (slotOf [2, 4, 8, 9, 10] vs_38 4), t43_69, (slotOf [2, 4, 8, 9, 10] vs_38 9), (slotOf [2, 4, 8, 9, 10] vs_38 10)] L_70) (
 j_46 [(slotOf [2, 4, 8, 9, 10] vs_38 2), (slotOf [2, 4, 8, 9, 10] vs_38 4), (slotOf [2, 4, 8, 9, 10] vs_38 8), (slotOf [2, 4, 8, 9, 10] vs_38 9), (slotOf [2, 4, 8, 9, 10] vs_38 10)] L_40)) (
 Q (.tup [(slotOf [2, 4, 8, 9, 10] vs_38 8), (slotOf [2, 4, 8, 9, 10] vs_38 9)]) L_40)
def ref08_Holds_c3 (t2 : AV) (t3_4 : AV) (Q : AV → SH → Prop) (t4_6 : AV) (t13_10 : AV) (L_11 : SH) : Prop :=
 W.un .not t13_10 fun t14_12 =>
 W.grd t14_12 false (fun k_14 => k_14 t2 L_11) L_11 fun t16_13 L_15 =>
 W.grd t14_12 false (fun k_17 => W.faddr 4 t3_4 fun v_19 =>
 k_17 v_19 L_15) L_15 fun t17_16 L_18 =>
 W.grd t14_12 false (fun k_21 => W.load false 1 t17_16 L_18 fun v_23 =>
 k_21 v_23 L_18) L_18 fun t18_20 L_22 =>
 W.grd t14_12 false (fun k_25 => W.len t18_20 fun v_27 =>
 k_25 v_27 L_22) L_22 fun t19_24 L_26 =>
 W.grd t14_12 false (fun k_29 => W.call Try.prog (.fn 61 []) [t16_13, t19_24] L_26 fun v_31 L_32 =>
 k_29 v_31 L_32) L_26 fun t20_28 L_30 =>
 W.grd t14_12 false (fun k_34 => W.un .not t20_28 fun v_36 =>
 k_34 v_36 L_30) L_30 fun t21_33 L_35 =>
 W.pick t14_12 (.bool true) t21_33 fun t22_37 =>
 W.cond t22_37 (
 Q (.tup [.nils, .nils]) L_35) (
 W.loop (ref08_Holds_l2 Q) [t2, t4_6, .nils, .nils, (.int .i64 0)] L_35)
def ref08_Holds_w (t0 t1 t2 : AV) (L : SH) (Q : AV → SH → Prop) : Prop :=
 W.box t0 L fun t3_0 L_1 =>
 W.box t1 L_1 fun t4_2 L_3 =>
 W.frz1 t3_0 L_3 fun t3_4 L_5 =>
 W.frz1 t4_2 L_5 fun t4_6 L_7 =>
 W.load true 6 t3_4 L_7 fun t11_8 =>
 W.load true 4 t4_6 L_7 fun t12_9 =>
 W.call Try.prog (.fn 38 []) [t11_8, t12_9] L_7 (ref08_Holds_c3 t2 t3_4 Q t4_6)
theorem ref08_Holds_e (t0 t1 t2 : AV) (L : SH) (Q : AV → SH → Prop) : W.func Try.prog Fl ref08_Holds_t Try.f33 (Try.f33.body.getD .skip) [t0, t1, t2] L Q = ref08_Holds_w t0 t1 t2 L Q := by kernel_rfl
theorem ref08_Holds_ok (t0 t1 t2 : AV) (L : SH) (Q : AV → SH → Prop) (h : ref08_Holds_w t0 t1 t2 L Q) : CallA Try.prog 33 [t0, t1, t2] L Q :=
  func_sound (ht := ref08_Holds_t) fit Try.func33 (show Try.f33.body = some (Try.f33.body.getD .skip) by kernel_rfl) (Eq.mpr (ref08_Holds_e t0 t1 t2 L Q) h)

/- interleave/interleaveref08.Blockers -/
def ref08_Blockers_t : Hints := ⟨fun k => if k = 14 then some [5, 11] else if k = 6 then some [2, 4, 5, 6, 11, 33, 34] else none, fun k => if k = 17 then [5, 11, 12, 13] else [], fun k => if k = 0 then [5, 6] else [], fun k => if k = 9 then [0, 1, 0, 7, 15, 31, 63, 0, 128, 0, 896, 1920, 3968, 8191, 16383] else if k = 11 then [0, 1, 0, 4, 0, 28, 60, 124, 255, 511, 1023, 2047, 4095] else if k = 19 then [0, 0, 3, 7, 0, 16, 48, 127] else []⟩
def ref08_Blockers_c0 (vs_61 : List AV) (nx_62 : W.Kn) (t109_80 : AV) (L_81 : SH) : Prop :=
 W.bin Try.prog Fl .add 3 (slotOf [5, 11, 12, 13] vs_61 13) (.int .i64 1) fun t95_82 =>
 nx_62 [(slotOf [5, 11, 12, 13] vs_61 5), (slotOf [5, 11, 12, 13] vs_61 11), t109_80, t95_82] L_81
def ref08_Blockers_d1 (L_63 : SH) (vs_61 : List AV) (nx_62 : W.Kn) (t103_74 : AV) (L_76 : SH) (ks_75 : List Nat) : Prop :=
 W.note ⟨[], ks_75, [], L_63.names⟩ fun r_77 =>
 W.cond t103_74 (
 W.idx 1 (slotOf [5, 11, 12, 13] vs_61 11) (slotOf [5, 11, 12, 13] vs_61 13) L_76 fun t107_78 =>
 W.load false 1 t107_78 L_76 fun t108_79 =>
 W.call Try.prog (.fn 64 []) [(slotOf [5, 11, 12, 13] vs_61 12), t108_79] L_76 (ref08_Blockers_c0 vs_61 nx_62)) (
 W.bin Try.prog Fl .add 3 (slotOf [5, 11, 12, 13] vs_61 13) (.int .i64 1) fun t95_83 =>
 nx_62 [(slotOf [5, 11, 12, 13] vs_61 5), (slotOf [5, 11, 12, 13] vs_61 11), (slotOf [5, 11, 12, 13] vs_61 12), t95_83] L_76)
def ref08_Blockers_l2 (Q : AV → SH → Prop) (vs_61 : List AV) (L_63 : SH) (nx_62 : W.Kn) : Prop :=
 W.len (slotOf [5, 11, 12, 13] vs_61 11) fun t92_64 =>
 W.bin Try.prog Fl .lss 3 (slotOf [5, 11, 12, 13] vs_61 13) t92_64 fun t93_65 =>
 W.cond t93_65 (
 (true = true) ∧ (
 W.calm [] ⟨2, (slOf (slotOf [5, 11, 12, 13] vs_61 11)), [], [], false, []⟩ (
 W.idx 1 (slotOf [5, 11, 12, 13] vs_61 11) (slotOf [5, 11, 12, 13] vs_61 13) L_63 fun t98_66 =>
 W.note ⟨(slOf (slotOf [5, 11, 12, 13] vs_61 11)), [], [], []⟩ fun r_67 =>
 W.calm [] ⟨3, (blocksOf t98_66), [], [], false, []⟩ (
 W.load false 1 t98_66 L_63 fun t99_68 =>
 W.note ⟨(blocksOf t98_66), [], [], []⟩ fun r_69 =>
 W.faddr 4 (slotOf [5, 11, 12, 13] vs_61 5) fun t100_70 =>
 W.calm [⟨3, r_69.reads, r_69.writes, r_69.made, false, r_69.old⟩, ⟨2, r_67.reads, r_67.writes, r_67.made, false, r_67.old⟩] ⟨5, (blocksOf t100_70), [], [], false, []⟩ (
 W.load false 1 t100_70 L_63 fun t101_71 =>
 W.note ⟨(blocksOf t100_70), [], [], []⟩ fun r_72 =>
 W.len t101_71 fun t102_73 =>
 W.dcall Try.prog [] 7 (.fn 61 []) [t99_68, t102_73] L_63 (ref08_Blockers_d1 L_63 vs_61 nx_62)))))) (
 Q (slotOf [5, 11, 12, 13] vs_61 12) L_63)
def ref08_Blockers_j3 (Q : AV → SH → Prop) (vs_58 : List AV) (L_60 : SH) : Prop :=
 W.loop (ref08_Blockers_l2 Q) [(slotOf [5, 11] vs_58 5), (slotOf [5, 11] vs_58 11), .nils, (.int .i64 0)] L_60
def ref08_Blockers_j4 (j_59 : W.Kn) (vs_84 : List AV) (L_86 : SH) : Prop :=
 W.cond (slotOf [2, 4, 5, 6, 11, 33, 34] vs_84 34) (
 W.faddr 0 (slotOf [2, 4, 5, 6, 11, 33, 34] vs_84 6) fun t37_87 =>
 W.load false 1 t37_87 L_86 fun t38_88 =>
 W.idx 2 t38_88 (slotOf [2, 4, 5, 6, 11, 33, 34] vs_84 4) L_86 fun t40_89 =>
 W.faddr 0 t40_89 fun t41_90 =>
 W.load false 1 t41_90 L_86 fun t42_91 =>
 W.bslice 1 [(.int .i64 0)] 1 [(0, t42_91)] L_86 fun t43_92 L_93 =>
 j_59 [(slotOf [2, 4, 5, 6, 11, 33, 34] vs_84 5), t43_92] L_93) (
 W.bin Try.prog Fl .eql 3 (slotOf [2, 4, 5, 6, 11, 33, 34] vs_84 33) (.int .i64 10) fun t45_94 =>
 W.cond t45_94 (
 (true = true) ∧ (
 W.faddr 0 (slotOf [2, 4, 5, 6, 11, 33, 34] vs_84 6) fun t46_95 =>
 W.calm [] ⟨1, (blocksOf t46_95), [], [], false, []⟩ (
 W.load false 1 t46_95 L_86 fun t47_96 =>
 W.note ⟨(blocksOf t46_95), [], [], []⟩ fun r_97 =>
 W.calm [] ⟨3, (slOf t47_96), [], [], false, []⟩ (
 W.idx 2 t47_96 (slotOf [2, 4, 5, 6, 11, 33, 34] vs_84 4) L_86 fun t49_98 =>
 W.note ⟨(slOf t47_96), [], [], []⟩ fun r_99 =>
 W.faddr 0 t49_98 fun t50_100 =>
 W.calm [] ⟨5, (blocksOf t50_100), [], [], false, []⟩ (
 W.load false 1 t50_100 L_86 fun t51_101 =>
 W.note ⟨(blocksOf t50_100), [], [], []⟩ fun r_102 =>
 W.calm [] ⟨6, [], [], [], false, []⟩ (
 W.bslice 1 [(.int .i64 0)] 1 [(0, t51_101)] L_86 fun t52_103 L_104 =>
 W.note ⟨[], [], (blocksOf t52_103), []⟩ fun r_105 =>
 W.faddr 0 (slotOf [2, 4, 5, 6, 11, 33, 34] vs_84 6) fun t53_106 =>
 W.calm [⟨6, r_105.reads, r_105.writes, r_105.made, false, r_105.old⟩, ⟨5, r_102.reads, r_102.writes, r_102.made, false, r_102.old⟩, ⟨3, r_99.reads, r_99.writes, r_99.made, false, r_99.old⟩, ⟨1, r_97.reads, r_97.writes, r_97.made, false, r_97.old⟩] ⟨8, (blocksOf t53_106), [], [], false, []⟩ (
 W.load false 1 t53_106 L_104 fun t54_107 =>
 W.note ⟨(blocksOf t53_106), [], [], []⟩ fun r_108 =>
 W.calm [⟨6, r_105.reads, r_105.writes, r_105.made, false, r_105.old⟩, ⟨5, r_102.reads, r_102.writes, r_102.made, false, r_102.old⟩, ⟨3, r_99.reads, r_99.writes, r_99.made, false, r_99.old⟩, ⟨1, r_97.reads, r_97.writes, r_97.made, false, r_97.old⟩] ⟨10, (slOf t54_107), [], [], false, []⟩ (
 W.idx 2 t54_107 (slotOf [2, 4, 5, 6, 11, 33, 34] vs_84 4) L_104 fun t56_109 =>
 W.note ⟨(slOf t54_107), [], [], []⟩ fun r_110 =>
 W.faddr 1 t56_109 fun t57_111 =>
 W.calm [⟨6, r_105.reads, r_105.writes, r_105.made, false, r_105.old⟩, ⟨5, r_102.reads, r_102.writes, r_102.made, false, r_102.old⟩, ⟨3, r_99.reads, r_99.writes, r_99.made, false, r_99.old⟩, ⟨1, r_97.reads, r_97.writes, r_97.made, false, r_97.old⟩] ⟨12, (blocksOf t57_111), [], [], false, []⟩ (
 W.load false 1 t57_111 L_104 fun t58_112 =>
 W.note ⟨(blocksOf t57_111), [], [], []⟩ fun r_113 =>
 W.calm [] ⟨13, (blocksOf t52_103 ++ blocksOf t58_112), (blocksOf t52_103), [], false, []⟩ (
 W.append 1 8 t52_103 t58_112 L_104 fun t59_114 L_115 =>
 W.note ⟨(blocksOf t52_103 ++ blocksOf t58_112), (blocksOf t52_103), (blocksOf t59_114), []⟩ fun r_116 =>
 j_59 [(slotOf [2, 4, 5, 6, 11, 33, 34] vs_84 5), t59_114] L_115)))))))))) (
 W.bin Try.prog Fl .eql 3 (slotOf [2, 4, 5, 6, 11, 33, 34] vs_84 33) (.int .i64 17) fun t61_117 =>
 W.cond t61_117 (
 (true = true) ∧ (
 W.faddr 0 (slotOf [2, 4, 5, 6, 11, 33, 34] vs_84 6) fun t62_118 =>
 W.calm [] ⟨1, (blocksOf t62_118), [], [], false, []⟩ (
 W.load false 1 t62_118 L_86 fun t63_119 =>
 W.note ⟨(blocksOf t62_118), [], [], []⟩ fun r_120 =>
 W.faddr 2 (slotOf [2, 4, 5, 6, 11, 33, 34] vs_84 5) fun t64_121 =>
 W.calm [⟨1, r_120.reads, r_120.writes, r_120.made, false, r_120.old⟩] ⟨3, (blocksOf t64_121), [], [], false, []⟩ (
 W.load false 1 t64_121 L_86 fun t65_122 =>
 W.note ⟨(blocksOf t64_121), [], [], []⟩ fun r_123 =>
 W.calm [⟨1, r_120.reads, r_120.writes, r_120.made, false, r_120.old⟩] ⟨5, (slOf t65_122), [], [], false, []⟩ (
 W.idx 2 t65_122 (slotOf [2, 4, 5, 6, 11, 33, 34] vs_84 4) L_86 fun t67_124 =>
 W.note ⟨(slOf t65_122), [], [], []⟩ fun r_125 =>
 W.faddr 1 t67_124 fun t68_126 =>
 W.calm [⟨1, r_120.reads, r_120.writes, r_120.made, false, r_120.old⟩] ⟨7, (blocksOf t68_126), [], [], false, []⟩ (
 W.load false 1 t68_126 L_86 fun t69_127 =>
 W.note ⟨(blocksOf t68_126), [], [], []⟩ fun r_128 =>
 W.calm [] ⟨8, (slOf t63_119), [], [], false, []⟩ (
 W.idx 2 t63_119 t69_127 L_86 fun t70_129 =>
 W.note ⟨(slOf t63_119), [], [], []⟩ fun r_130 =>
 W.faddr 0 t70_129 fun t71_131 =>
 W.calm [] ⟨10, (blocksOf t71_131), [], [], false, []⟩ (
 W.load false 1 t71_131 L_86 fun t72_132 =>
 W.note ⟨(blocksOf t71_131), [], [], []⟩ fun r_133 =>
 W.calm [] ⟨11, [], [], [], false, []⟩ (
 W.bslice 1 [(.int .i64 0)] 1 [(0, t72_132)] L_86 fun t73_134 L_135 =>
 W.note ⟨[], [], (blocksOf t73_134), []⟩ fun r_136 =>
 j_59 [(slotOf [2, 4, 5, 6, 11, 33, 34] vs_84 5), t73_134] L_135))))))))) (
 W.bin Try.prog Fl .eql 3 (slotOf [2, 4, 5, 6, 11, 33, 34] vs_84 33) (.int .i64 21) fun t75_137 =>
 W.cond t75_137 (
 W.bin Try.prog Fl .neq 3 (slotOf [2, 4, 5, 6, 11, 33, 34] vs_84 4) (slotOf [2, 4, 5, 6, 11, 33, 34] vs_84 2) fun t78_138 =>
 W.grd t78_138 true (fun k_140 => W.faddr 3 (slotOf [2, 4, 5, 6, 11, 33, 34] vs_84 6) fun v_142 =>
 k_140 v_142 L_86) L_86 fun t80_139 L_141 =>
 W.grd t78_138 true (fun k_144 => W.load false 1 t80_139 L_141 fun v_146 =>
 k_144 v_146 L_141) L_141 fun t81_143 L_145 =>
 W.grd t78_138 true (fun k_148 => k_148 (slotOf [2, 4, 5, 6, 11, 33, 34] vs_84 4) L_145) L_145 fun t82_147 L_149 =>
 W.grd t78_138 true (fun k_151 => W.idx 3 t81_143 t82_147 L_149 fun v_153 =>
 k_151 v_153 L_149) L_149 fun t83_150 L_152 =>
 W.grd t78_138 true (fun k_155 => W.faddr 0 t83_150 fun v_157 =>
 k_155 v_157 L_152) L_152 fun t84_154 L_156 =>
 W.grd t78_138 true (fun k_159 => W.load false 1 t84_154 L_156 fun v_161 =>
 k_159 v_161 L_156) L_156 fun t85_158 L_160 =>
 W.grd t78_138 true (fun k_163 => W.bin Try.prog Fl .neq 3 t85_158 (.int .i64 5) fun v_165 =>
 k_163 v_165 L_160) L_160 fun t86_162 L_164 =>
 W.pick t78_138 t86_162 (.bool false) fun t87_166 =>
 W.cond t87_166 (
 W.bslice 1 [(.int .i64 0)] 1 [(0, (slotOf [2, 4, 5, 6, 11, 33, 34] vs_84 4))] L_164 fun t89_167 L_168 =>
 j_59 [(slotOf [2, 4, 5, 6, 11, 33, 34] vs_84 5), t89_167] L_168) (
 j_59 [(slotOf [2, 4, 5, 6, 11, 33, 34] vs_84 5), (slotOf [2, 4, 5, 6, 11, 33, 34] vs_84 11)] L_164)) (
 j_59 [(slotOf [2, 4, 5, 6, 11, 33, 34] vs_84 5), (slotOf [2, 4, 5, 6, 11, 33, 34] vs_84 11)] L_86))))
def ref08_Blockers_c5 (t2 : AV) (t5_4 : AV) (t3 : AV) (t4 : AV) (Q : AV → SH → Prop) (t6_6 : AV) (t16_10 : AV) (L_11 : SH) : Prop :=
 W.un .not t16_10 fun t17_12 =>
 W.grd t17_12 false (fun k_14 => k_14 t2 L_11) L_11 fun t19_13 L_15 =>
 W.grd t17_12 false (fun k_17 => W.faddr 4 t5_4 fun v_19 =>
 k_17 v_19 L_15) L_15 fun t20_16 L_18 =>
 W.grd t17_12 false (fun k_21 => W.load false 1 t20_16 L_18 fun v_23 =>
 k_21 v_23 L_18) L_18 fun t21_20 L_22 =>
 W.grd t17_12 false (fun k_25 => W.len t21_20 fun v_27 =>
 k_25 v_27 L_22) L_22 fun t22_24 L_26 =>
 W.grd t17_12 false (fun k_29 => W.call Try.prog (.fn 61 []) [t19_13, t22_24] L_26 fun v_31 L_32 =>
 k_29 v_31 L_32) L_26 fun t23_28 L_30 =>
 W.grd t17_12 false (fun k_34 => W.un .not t23_28 fun v_36 =>
 k_34 v_36 L_30) L_30 fun t24_33 L_35 =>
 W.pick t17_12 (.bool true) t24_33 fun t25_37 =>
 W.grd t25_37 false (fun k_39 => W.load true 6 t5_4 L_35 fun v_41 =>
 k_39 v_41 L_35) L_35 fun t27_38 L_40 =>
 W.grd t25_37 false (fun k_43 => k_43 t3 L_40) L_40 fun t28_42 L_44 =>
 W.grd t25_37 false (fun k_46 => k_46 t4 L_44) L_44 fun t29_45 L_47 =>
 W.grd t25_37 false (fun k_49 => W.call Try.prog (.fn 63 []) [t27_38, t28_42, t29_45] L_47 fun v_51 L_52 =>
 k_49 v_51 L_52) L_47 fun t30_48 L_50 =>
 W.grd t25_37 false (fun k_54 => W.un .not t30_48 fun v_56 =>
 k_54 v_56 L_50) L_50 fun t31_53 L_55 =>
 W.pick t25_37 (.bool true) t31_53 fun t32_57 =>
 W.cond t32_57 (
 Q .nils L_55) (
 W.join (ref08_Blockers_j3 Q) fun j_59 =>
 W.join (ref08_Blockers_j4 j_59) fun j_85 =>
 W.bin Try.prog Fl .eql 3 t3 (.int .i64 6) fun t35_169 =>
 W.cond t35_169 (
 j_85 [t2, t4, t5_4, t6_6, .nils, t3, t35_169] L_55) (
 W.bin Try.prog Fl .eql 3 t3 (.int .i64 8) fun t36_170 =>
 j_85 [t2, t4, t5_4, t6_6, .nils, t3, t36_170] L_55))
def ref08_Blockers_w (t0 t1 t2 t3 t4 : AV) (L : SH) (Q : AV → SH → Prop) : Prop :=
 W.box t0 L fun t5_0 L_1 =>
 W.box t1 L_1 fun t6_2 L_3 =>
 W.frz1 t5_0 L_3 fun t5_4 L_5 =>
 W.frz1 t6_2 L_5 fun t6_6 L_7 =>
 W.load true 6 t5_4 L_7 fun t14_8 =>
 W.load true 4 t6_6 L_7 fun t15_9 =>
 W.call Try.prog (.fn 38 []) [t14_8, t15_9] L_7 (ref08_Blockers_c5 t2 t5_4 t3 t4 Q t6_6)
theorem ref08_Blockers_e (t0 t1 t2 t3 t4 : AV) (L : SH) (Q : AV → SH → Prop) : W.func Try.prog Fl ref08_Blockers_t Try.f36 (Try.f36.body.getD .skip) [t0, t1, t2, t3, t4] L Q = ref08_Blockers_w t0 t1 t2 t3 t4 L Q := by kernel_rfl
theorem ref08_Blockers_ok (t0 t1 t2 t3 t4 : AV) (L : SH) (Q : AV → SH → Prop) (h : ref08_Blockers_w t0 t1 t2 t3 t4 L Q) : CallA Try.prog 36 [t0, t1, t2, t3, t4] L Q :=
  func_sound (ht := ref08_Blockers_t) fit Try.func36 (show Try.f36.body = some (Try.f36.body.getD .skip) by kernel_rfl) (Eq.mpr (ref08_Blockers_e t0 t1 t2 t3 t4 L Q) h)

/- interleave/interleaveref08.Fits -/
def ref08_Fits_t : Hints := ⟨fun k => none, fun k => if k = 2 then [2, 3, 5] else [], fun k => if k = 0 then [2, 3] else [], fun k => if k = 4 then [0, 1, 0, 7, 15, 31, 63, 127, 255, 511, 255, 2047, 4095, 8191, 255, 16639, 49407, 131071, 262143] else []⟩
def ref08_Fits_l0 (Q : AV → SH → Prop) (vs_8 : List AV) (L_10 : SH) (nx_9 : W.Kn) : Prop :=
 W.faddr 2 (slotOf [2, 3, 5] vs_8 2) fun t7_11 =>
 W.load false 1 t7_11 L_10 fun t8_12 =>
 W.len t8_12 fun t9_13 =>
 W.bin Try.prog Fl .lss 3 (slotOf [2, 3, 5] vs_8 5) t9_13 fun t10_14 =>
 W.cond t10_14 (
 (true = true) ∧ (
 W.faddr 2 (slotOf [2, 3, 5] vs_8 2) fun t13_15 =>
 W.calm [] ⟨1, (blocksOf t13_15), [], [], false, []⟩ (
 W.load false 1 t13_15 L_10 fun t14_16 =>
 W.note ⟨(blocksOf t13_15), [], [], []⟩ fun r_17 =>
 W.calm [] ⟨3, (slOf t14_16), [], [], false, []⟩ (
 W.idx 2 t14_16 (slotOf [2, 3, 5] vs_8 5) L_10 fun t16_18 =>
 W.note ⟨(slOf t14_16), [], [], []⟩ fun r_19 =>
 W.faddr 1 t16_18 fun t17_20 =>
 W.calm [] ⟨5, (blocksOf t17_20), [], [], false, []⟩ (
 W.load false 1 t17_20 L_10 fun t18_21 =>
 W.note ⟨(blocksOf t17_20), [], [], []⟩ fun r_22 =>
 W.bin Try.prog Fl .lss 3 t18_21 (.int .i64 0) fun t19_23 =>
 W.dgrd t19_23 false (fun k_25 => W.faddr 2 (slotOf [2, 3, 5] vs_8 2) fun v_28 =>
 k_25 v_28 L_10 ⟨[], [], [], []⟩) L_10 fun t21_24 L_27 r_26 =>
 W.dgrd t19_23 false (fun k_30 => W.calm [] ⟨9, (blocksOf t21_24), [], [], false, []⟩ (
 W.load false 1 t21_24 L_27 fun v_33 =>
 W.note ⟨(blocksOf t21_24), [], [], []⟩ fun r_34 =>
 k_30 v_33 L_27 r_34)) L_27 fun t22_29 L_32 r_31 =>
 W.dgrd t19_23 false (fun k_36 => k_36 (slotOf [2, 3, 5] vs_8 5) L_32 ⟨[], [], [], []⟩) L_32 fun t23_35 L_38 r_37 =>
 W.dgrd t19_23 false (fun k_40 => W.calm [] ⟨11, (slOf t22_29), [], [], false, []⟩ (
 W.idx 2 t22_29 t23_35 L_38 fun v_43 =>
 W.note ⟨(slOf t22_29), [], [], []⟩ fun r_44 =>
 k_40 v_43 L_38 r_44)) L_38 fun t24_39 L_42 r_41 =>
 W.dgrd t19_23 false (fun k_46 => W.faddr 1 t24_39 fun v_49 =>
 k_46 v_49 L_42 ⟨[], [], [], []⟩) L_42 fun t25_45 L_48 r_47 =>
 W.dgrd t19_23 false (fun k_51 => W.calm [] ⟨13, (blocksOf t25_45), [], [], false, []⟩ (
 W.load false 1 t25_45 L_48 fun v_54 =>
 W.note ⟨(blocksOf t25_45), [], [], []⟩ fun r_55 =>
 k_51 v_54 L_48 r_55)) L_48 fun t26_50 L_53 r_52 =>
 W.dgrd t19_23 false (fun k_57 => W.faddr 1 (slotOf [2, 3, 5] vs_8 2) fun v_60 =>
 k_57 v_60 L_53 ⟨[], [], [], []⟩) L_53 fun t27_56 L_59 r_58 =>
 W.dgrd t19_23 false (fun k_62 => W.calm [⟨13, r_52.reads, r_52.writes, r_52.made, false, r_52.old⟩, ⟨11, r_41.reads, r_41.writes, r_41.made, false, r_41.old⟩, ⟨9, r_31.reads, r_31.writes, r_31.made, false, r_31.old⟩] ⟨15, (blocksOf t27_56), [], [], false, []⟩ (
 W.load false 1 t27_56 L_59 fun v_65 =>
 W.note ⟨(blocksOf t27_56), [], [], []⟩ fun r_66 =>
 k_62 v_65 L_59 r_66)) L_59 fun t28_61 L_64 r_63 =>
 W.dgrd t19_23 false (fun k_68 => W.len t28_61 fun v_71 =>
 k_68 v_71 L_64 ⟨[], [], [], []⟩) L_64 fun t29_67 L_70 r_69 =>
 W.dgrd t19_23 false (fun k_73 => W.bin Try.prog Fl .geq 3 t26_50 t29_67 fun v_76 =>
 k_73 v_76 L_70 ⟨[], [], [], []⟩) L_70 fun t30_72 L_75 r_74 =>
 W.pick t19_23 (.bool true) t30_72 fun t31_77 =>
 W.cond t31_77 (
 Q (.bool false) L_75) (
 W.bin Try.prog Fl .add 3 (slotOf [2, 3, 5] vs_8 5) (.int .i64 1) fun t12_78 =>
 nx_9 [(slotOf [2, 3, 5] vs_8 2), (slotOf [2, 3, 5] vs_8 3), t12_78] L_75)))))) (
 W.faddr 0 (slotOf [2, 3, 5] vs_8 3) fun t32_79 =>
 W.load false 1 t32_79 L_10 fun t33_80 =>
 W.len t33_80 fun t34_81 =>
 W.faddr 1 (slotOf [2, 3, 5] vs_8 2) fun t35_82 =>
 W.load false 1 t35_82 L_10 fun t36_83 =>
 W.len t36_83 fun t37_84 =>
 W.bin Try.prog Fl .eql 3 t34_81 t37_84 fun t38_85 =>
 W.grd t38_85 true (fun k_87 => W.faddr 2 (slotOf [2, 3, 5] vs_8 3) fun v_89 =>
 k_87 v_89 L_10) L_10 fun t40_86 L_88 =>
 W.grd t38_85 true (fun k_91 => W.load false 1 t40_86 L_88 fun v_93 =>
 k_91 v_93 L_88) L_88 fun t41_90 L_92 =>
 W.grd t38_85 true (fun k_95 => W.len t41_90 fun v_97 =>
 k_95 v_97 L_92) L_92 fun t42_94 L_96 =>
 W.grd t38_85 true (fun k_99 => W.faddr 3 (slotOf [2, 3, 5] vs_8 2) fun v_101 =>
 k_99 v_101 L_96) L_96 fun t43_98 L_100 =>
 W.grd t38_85 true (fun k_103 => W.load false 1 t43_98 L_100 fun v_105 =>
 k_103 v_105 L_100) L_100 fun t44_102 L_104 =>
 W.grd t38_85 true (fun k_107 => W.len t44_102 fun v_109 =>
 k_107 v_109 L_104) L_104 fun t45_106 L_108 =>
 W.grd t38_85 true (fun k_111 => W.bin Try.prog Fl .eql 3 t42_94 t45_106 fun v_113 =>
 k_111 v_113 L_108) L_108 fun t46_110 L_112 =>
 W.pick t38_85 t46_110 (.bool false) fun t47_114 =>
 W.grd t47_114 true (fun k_116 => W.faddr 3 (slotOf [2, 3, 5] vs_8 3) fun v_118 =>
 k_116 v_118 L_112) L_112 fun t49_115 L_117 =>
 W.grd t47_114 true (fun k_120 => W.load false 1 t49_115 L_117 fun v_122 =>
 k_120 v_122 L_117) L_117 fun t50_119 L_121 =>
 W.grd t47_114 true (fun k_124 => W.len t50_119 fun v_126 =>
 k_124 v_126 L_121) L_121 fun t51_123 L_125 =>
 W.grd t47_114 true (fun k_128 => W.faddr 4 (slotOf [2, 3, 5] vs_8 2) fun v_130 =>
 k_128 v_130 L_125) L_125 fun t52_127 L_129 =>
 W.grd t47_114 true (fun k_132 => W.load false 1 t52_127 L_129 fun v_134 =>
 k_132 v_134 L_129) L_129 fun t53_131 L_133 =>
 W.grd t47_114 true (fun k_136 => W.len t53_131 fun v_138 =>
 k_136 v_138 L_133) L_133 fun t54_135 L_137 =>
 W.grd t47_114 true (fun k_140 => W.bin Try.prog Fl .eql 3 t51_123 t54_135 fun v_142 =>
 k_140 v_142 L_137) L_137 fun t55_139 L_141 =>
 W.pick t47_114 t55_139 (.bool false) fun t56_143 =>
 Q t56_143 L_141)
def ref08_Fits_w (t0 t1 : AV) (L : SH) (Q : AV → SH → Prop) : Prop :=
 W.box t0 L fun t2_0 L_1 =>
 W.box t1 L_1 fun t3_2 L_3 =>
 W.frz1 t2_0 L_3 fun t2_4 L_5 =>
 W.frz1 t3_2 L_5 fun t3_6 L_7 =>
 W.loop (ref08_Fits_l0 Q) [t2_4, t3_6, (.int .i64 0)] L_7
theorem ref08_Fits_e (t0 t1 : AV) (L : SH) (Q : AV → SH → Prop) : W.func Try.prog Fl ref08_Fits_t Try.f38 (Try.f38.body.getD .skip) [t0, t1] L Q = ref08_Fits_w t0 t1 L Q := by kernel_rfl
theorem ref08_Fits_ok (t0 t1 : AV) (L : SH) (Q : AV → SH → Prop) (h : ref08_Fits_w t0 t1 L Q) : CallA Try.prog 38 [t0, t1] L Q :=
  func_sound (ht := ref08_Fits_t) fit Try.func38 (show Try.f38.body = some (Try.f38.body.getD .skip) by kernel_rfl) (Eq.mpr (ref08_Fits_e t0 t1 L Q) h)

/- interleave/interleaveref08.Enabled -/
def ref08_Enabled_t : Hints := ⟨fun k => if k = 19 then some [2, 4, 5, 6, 11, 70, 119] else if k = 33 then some [2, 4, 5, 6, 70, 160] else none, fun k => [], fun k => if k = 0 then [5, 6] else if k = 3 then [11] else [], fun k => if k = 8 then [0, 1, 3, 7, 15, 31, 15, 127, 255, 511, 1023, 2047, 1023, 5119, 1023, 29695, 62463, 127999, 262143, 524287, 1048575, 2097151, 4194303, 8388607] else if k = 34 then [0, 1, 0, 4, 0, 28, 60, 124, 255, 511, 1023, 0, 4095, 8191] else []⟩
def ref08_Enabled_j0 (Q : AV → SH → Prop) (vs_287 : List AV) (L_289 : SH) : Prop :=
 W.cond (slotOf [2, 4, 5, 6, 70, 160] vs_287 160) (
 (true = true) ∧ (
 W.faddr 0 (slotOf [2, 4, 5, 6, 70, 160] vs_287 6) fun t164_290 =>
 W.calm [] ⟨1, (blocksOf t164_290), [], [], false, []⟩ (
 W.load false 1 t164_290 L_289 fun t165_291 =>
 W.note ⟨(blocksOf t164_290), [], [], []⟩ fun r_292 =>
 W.faddr 2 (slotOf [2, 4, 5, 6, 70, 160] vs_287 5) fun t166_293 =>
 W.calm [⟨1, r_292.reads, r_292.writes, r_292.made, false, r_292.old⟩] ⟨3, (blocksOf t166_293), [], [], false, []⟩ (
 W.load false 1 t166_293 L_289 fun t167_294 =>
 W.note ⟨(blocksOf t166_293), [], [], []⟩ fun r_295 =>
 W.calm [⟨1, r_292.reads, r_292.writes, r_292.made, false, r_292.old⟩] ⟨5, (slOf t167_294), [], [], false, []⟩ (
 W.idx 2 t167_294 (slotOf [2, 4, 5, 6, 70, 160] vs_287 4) L_289 fun t169_296 =>
 W.note ⟨(slOf t167_294), [], [], []⟩ fun r_297 =>
 W.faddr 1 t169_296 fun t170_298 =>
 W.calm [⟨1, r_292.reads, r_292.writes, r_292.made, false, r_292.old⟩] ⟨7, (blocksOf t170_298), [], [], false, []⟩ (
 W.load false 1 t170_298 L_289 fun t171_299 =>
 W.note ⟨(blocksOf t170_298), [], [], []⟩ fun r_300 =>
 W.calm [] ⟨8, (slOf t165_291), [], [], false, []⟩ (
 W.idx 2 t165_291 t171_299 L_289 fun t172_301 =>
 W.note ⟨(slOf t165_291), [], [], []⟩ fun r_302 =>
 W.faddr 0 t172_301 fun t173_303 =>
 W.calm [] ⟨10, (blocksOf t173_303), [], [], false, []⟩ (
 W.load false 1 t173_303 L_289 fun t174_304 =>
 W.note ⟨(blocksOf t173_303), [], [], []⟩ fun r_305 =>
 W.bin Try.prog Fl .eql 3 t174_304 (slotOf [2, 4, 5, 6, 70, 160] vs_287 2) fun t176_306 =>
 Q t176_306 L_289)))))))) (
 W.bin Try.prog Fl .eql 3 (slotOf [2, 4, 5, 6, 70, 160] vs_287 70) (.int .i64 20) fun t178_307 =>
 W.cond t178_307 (
 W.bin Try.prog Fl .neq 3 (slotOf [2, 4, 5, 6, 70, 160] vs_287 4) (slotOf [2, 4, 5, 6, 70, 160] vs_287 2) fun t181_308 =>
 W.grd t181_308 true (fun k_310 => W.faddr 3 (slotOf [2, 4, 5, 6, 70, 160] vs_287 6) fun v_312 =>
 k_310 v_312 L_289) L_289 fun t183_309 L_311 =>
 W.grd t181_308 true (fun k_314 => W.load false 1 t183_309 L_311 fun v_316 =>
 k_314 v_316 L_311) L_311 fun t184_313 L_315 =>
 W.grd t181_308 true (fun k_318 => k_318 (slotOf [2, 4, 5, 6, 70, 160] vs_287 4) L_315) L_315 fun t185_317 L_319 =>
 W.grd t181_308 true (fun k_321 => W.idx 3 t184_313 t185_317 L_319 fun v_323 =>
 k_321 v_323 L_319) L_319 fun t186_320 L_322 =>
 W.grd t181_308 true (fun k_325 => W.faddr 0 t186_320 fun v_327 =>
 k_325 v_327 L_322) L_322 fun t187_324 L_326 =>
 W.grd t181_308 true (fun k_329 => W.load false 1 t187_324 L_326 fun v_331 =>
 k_329 v_331 L_326) L_326 fun t188_328 L_330 =>
 W.grd t181_308 true (fun k_333 => W.bin Try.prog Fl .eql 3 t188_328 (.int .i64 0) fun v_335 =>
 k_333 v_335 L_330) L_330 fun t189_332 L_334 =>
 W.pick t181_308 t189_332 (.bool false) fun t190_336 =>
 Q t190_336 L_334) (
 W.bin Try.prog Fl .eql 3 (slotOf [2, 4, 5, 6, 70, 160] vs_287 70) (.int .i64 21) fun t192_337 =>
 W.cond t192_337 (
 W.bin Try.prog Fl .neq 3 (slotOf [2, 4, 5, 6, 70, 160] vs_287 4) (slotOf [2, 4, 5, 6, 70, 160] vs_287 2) fun t195_338 =>
 W.grd t195_338 true (fun k_340 => W.faddr 3 (slotOf [2, 4, 5, 6, 70, 160] vs_287 6) fun v_342 =>
 k_340 v_342 L_289) L_289 fun t197_339 L_341 =>
 W.grd t195_338 true (fun k_344 => W.load false 1 t197_339 L_341 fun v_346 =>
 k_344 v_346 L_341) L_341 fun t198_343 L_345 =>
 W.grd t195_338 true (fun k_348 => k_348 (slotOf [2, 4, 5, 6, 70, 160] vs_287 4) L_345) L_345 fun t199_347 L_349 =>
 W.grd t195_338 true (fun k_351 => W.idx 3 t198_343 t199_347 L_349 fun v_353 =>
 k_351 v_353 L_349) L_349 fun t200_350 L_352 =>
 W.grd t195_338 true (fun k_355 => W.faddr 0 t200_350 fun v_357 =>
 k_355 v_357 L_352) L_352 fun t201_354 L_356 =>
 W.grd t195_338 true (fun k_359 => W.load false 1 t201_354 L_356 fun v_361 =>
 k_359 v_361 L_356) L_356 fun t202_358 L_360 =>
 W.grd t195_338 true (fun k_363 => W.bin Try.prog Fl .eql 3 t202_358 (.int .i64 5) fun v_365 =>
 k_363 v_365 L_360) L_360 fun t203_362 L_364 =>
 W.pick t195_338 t203_362 (.bool false) fun t204_366 =>
 Q t204_366 L_364) (
 W.bin Try.prog Fl .eql 3 (slotOf [2, 4, 5, 6, 70, 160] vs_287 70) (.int .i64 22) fun t206_367 =>
 W.cond t206_367 (
 W.faddr 2 (slotOf [2, 4, 5, 6, 70, 160] vs_287 6) fun t207_368 =>
 W.load false 1 t207_368 L_289 fun t208_369 =>
 W.idx 1 t208_369 (slotOf [2, 4, 5, 6, 70, 160] vs_287 4) L_289 fun t210_370 =>
 W.load false 1 t210_370 L_289 fun t211_371 =>
 W.un .not t211_371 fun t212_372 =>
 Q t212_372 L_289) (
 W.bin Try.prog Fl .eql 3 (slotOf [2, 4, 5, 6, 70, 160] vs_287 70) (.int .i64 23) fun t214_373 =>
 W.cond t214_373 (
 W.faddr 2 (slotOf [2, 4, 5, 6, 70, 160] vs_287 6) fun t215_374 =>
 W.load false 1 t215_374 L_289 fun t216_375 =>
 W.idx 1 t216_375 (slotOf [2, 4, 5, 6, 70, 160] vs_287 4) L_289 fun t218_376 =>
 W.load false 1 t218_376 L_289 fun t219_377 =>
 Q t219_377 L_289) (
 Q (.bool true) L_289)))))
def ref08_Enabled_j1 (Q : AV → SH → Prop) (vs_255 : List AV) (L_257 : SH) : Prop :=
 W.cond (slotOf [2, 4, 5, 6, 11, 70, 119] vs_255 119) (
 W.faddr 0 (slotOf [2, 4, 5, 6, 11, 70, 119] vs_255 6) fun t122_258 =>
 W.load false 1 t122_258 L_257 fun t123_259 =>
 W.idx 2 t123_259 (slotOf [2, 4, 5, 6, 11, 70, 119] vs_255 4) L_257 fun t125_260 =>
 W.faddr 0 t125_260 fun t126_261 =>
 W.load false 1 t126_261 L_257 fun t127_262 =>
 W.bin Try.prog Fl .eql 3 t127_262 (slotOf [2, 4, 5, 6, 11, 70, 119] vs_255 2) fun t129_263 =>
 Q t129_263 L_257) (
 W.bin Try.prog Fl .eql 3 (slotOf [2, 4, 5, 6, 11, 70, 119] vs_255 70) (.int .i64 9) fun t131_264 =>
 W.cond t131_264 (
 W.faddr 0 (slotOf [2, 4, 5, 6, 11, 70, 119] vs_255 6) fun t132_265 =>
 W.load false 1 t132_265 L_257 fun t133_266 =>
 W.idx 2 t133_266 (slotOf [2, 4, 5, 6, 11, 70, 119] vs_255 4) L_257 fun t135_267 =>
 W.faddr 1 t135_267 fun t136_268 =>
 W.load false 1 t136_268 L_257 fun t137_269 =>
 W.call Try.prog (.fn 15 []) [t137_269, (slotOf [2, 4, 5, 6, 11, 70, 119] vs_255 2)] L_257 fun t139_270 L_271 =>
 Q t139_270 L_271) (
 W.bin Try.prog Fl .eql 3 (slotOf [2, 4, 5, 6, 11, 70, 119] vs_255 70) (.int .i64 12) fun t141_272 =>
 W.cond t141_272 (
 W.faddr 1 (slotOf [2, 4, 5, 6, 11, 70, 119] vs_255 6) fun t142_273 =>
 W.load false 1 t142_273 L_257 fun t143_274 =>
 W.bin Try.prog Fl .eql 3 t143_274 (.int .i64 (-1)) fun t144_275 =>
 Q t144_275 L_257) (
 W.bin Try.prog Fl .eql 3 (slotOf [2, 4, 5, 6, 11, 70, 119] vs_255 70) (.int .i64 13) fun t146_276 =>
 W.cond t146_276 (
 W.faddr 1 (slotOf [2, 4, 5, 6, 11, 70, 119] vs_255 6) fun t147_277 =>
 W.load false 1 t147_277 L_257 fun t148_278 =>
 W.bin Try.prog Fl .eql 3 t148_278 (slotOf [2, 4, 5, 6, 11, 70, 119] vs_255 2) fun t150_279 =>
 Q t150_279 L_257) (
 W.bin Try.prog Fl .eql 3 (slotOf [2, 4, 5, 6, 11, 70, 119] vs_255 70) (.int .i64 14) fun t152_280 =>
 W.cond t152_280 (
 W.faddr 2 (slotOf [2, 4, 5, 6, 11, 70, 119] vs_255 11) fun t153_281 =>
 W.load false 1 t153_281 L_257 fun t154_282 =>
 W.un .not t154_282 fun t155_283 =>
 Q t155_283 L_257) (
 W.bin Try.prog Fl .eql 3 (slotOf [2, 4, 5, 6, 11, 70, 119] vs_255 70) (.int .i64 15) fun t157_284 =>
 W.cond t157_284 (
 W.faddr 2 (slotOf [2, 4, 5, 6, 11, 70, 119] vs_255 11) fun t158_285 =>
 W.load false 1 t158_285 L_257 fun t159_286 =>
 Q t159_286 L_257) (
 W.join (ref08_Enabled_j0 Q) fun j_288 =>
 W.bin Try.prog Fl .eql 3 (slotOf [2, 4, 5, 6, 11, 70, 119] vs_255 70) (.int .i64 16) fun t161_378 =>
 W.cond t161_378 (
 j_288 [(slotOf [2, 4, 5, 6, 11, 70, 119] vs_255 2), (slotOf [2, 4, 5, 6, 11, 70, 119] vs_255 4), (slotOf [2, 4, 5, 6, 11, 70, 119] vs_255 5), (slotOf [2, 4, 5, 6, 11, 70, 119] vs_255 6), (slotOf [2, 4, 5, 6, 11, 70, 119] vs_255 70), t161_378] L_257) (
 W.bin Try.prog Fl .eql 3 (slotOf [2, 4, 5, 6, 11, 70, 119] vs_255 70) (.int .i64 18) fun t162_379 =>
 W.cond t162_379 (
 j_288 [(slotOf [2, 4, 5, 6, 11, 70, 119] vs_255 2), (slotOf [2, 4, 5, 6, 11, 70, 119] vs_255 4), (slotOf [2, 4, 5, 6, 11, 70, 119] vs_255 5), (slotOf [2, 4, 5, 6, 11, 70, 119] vs_255 6), (slotOf [2, 4, 5, 6, 11, 70, 119] vs_255 70), t162_379] L_257) (
 W.bin Try.prog Fl .eql 3 (slotOf [2, 4, 5, 6, 11, 70, 119] vs_255 70) (.int .i64 19) fun t163_380 =>
 j_288 [(slotOf [2, 4, 5, 6, 11, 70, 119] vs_255 2), (slotOf [2, 4, 5, 6, 11, 70, 119] vs_255 4), (slotOf [2, 4, 5, 6, 11, 70, 119] vs_255 5), (slotOf [2, 4, 5, 6, 11, 70, 119] vs_255 6), (slotOf [2, 4, 5, 6, 11, 70, 119] vs_255 70), t163_380] L_257))))))))
def ref08_Enabled_c2 (t2 : AV) (t5_4 : AV) (t3 : AV) (t4 : AV) (Q : AV → SH → Prop) (t6_6 : AV) (t14_10 : AV) (L_11 : SH) : Prop :=
 W.un .not t14_10 fun t15_12 =>
 W.grd t15_12 false (fun k_14 => k_14 t2 L_11) L_11 fun t17_13 L_15 =>
 W.grd t15_12 false (fun k_17 => W.faddr 4 t5_4 fun v_19 =>
 k_17 v_19 L_15) L_15 fun t18_16 L_18 =>
 W.grd t15_12 false (fun k_21 => W.load false 1 t18_16 L_18 fun v_23 =>
 k_21 v_23 L_18) L_18 fun t19_20 L_22 =>
 W.grd t15_12 false (fun k_25 => W.len t19_20 fun v_27 =>
 k_25 v_27 L_22) L_22 fun t20_24 L_26 =>
 W.grd t15_12 false (fun k_29 => W.call Try.prog (.fn 61 []) [t17_13, t20_24] L_26 fun v_31 L_32 =>
 k_29 v_31 L_32) L_26 fun t21_28 L_30 =>
 W.grd t15_12 false (fun k_34 => W.un .not t21_28 fun v_36 =>
 k_34 v_36 L_30) L_30 fun t22_33 L_35 =>
 W.pick t15_12 (.bool true) t22_33 fun t23_37 =>
 W.grd t23_37 false (fun k_39 => W.load true 6 t5_4 L_35 fun v_41 =>
 k_39 v_41 L_35) L_35 fun t25_38 L_40 =>
 W.grd t23_37 false (fun k_43 => k_43 t3 L_40) L_40 fun t26_42 L_44 =>
 W.grd t23_37 false (fun k_46 => k_46 t4 L_44) L_44 fun t27_45 L_47 =>
 W.grd t23_37 false (fun k_49 => W.call Try.prog (.fn 63 []) [t25_38, t26_42, t27_45] L_47 fun v_51 L_52 =>
 k_49 v_51 L_52) L_47 fun t28_48 L_50 =>
 W.grd t23_37 false (fun k_54 => W.un .not t28_48 fun v_56 =>
 k_54 v_56 L_50) L_50 fun t29_53 L_55 =>
 W.pick t23_37 (.bool true) t29_53 fun t30_57 =>
 W.cond t30_57 (
 Q (.bool false) L_55) (
 W.faddr 3 t6_6 fun t31_58 =>
 W.load false 1 t31_58 L_55 fun t32_59 =>
 W.idx 3 t32_59 t2 L_55 fun t34_60 =>
 W.load true 3 t34_60 L_55 fun t35_61 =>
 W.alloc [(.int .i64 0), (.int .i64 0), (.bool false)] L_55 fun t11_62 L_63 =>
 W.store 3 t11_62 t35_61 L_63 fun L_64 =>
 W.frz1 t11_62 L_64 fun t11_65 L_66 =>
 W.bin Try.prog Fl .eql 3 t3 (.int .i64 1) fun t38_67 =>
 W.cond t38_67 (
 W.faddr 0 t11_65 fun t39_68 =>
 W.load false 1 t39_68 L_66 fun t40_69 =>
 W.bin Try.prog Fl .eql 3 t40_69 (.int .i64 1) fun t41_70 =>
 Q t41_70 L_66) (
 W.bin Try.prog Fl .eql 3 t3 (.int .i64 17) fun t43_71 =>
 W.cond t43_71 (
 (true = true) ∧ (
 W.faddr 0 t11_65 fun t44_72 =>
 W.calm [] ⟨1, (blocksOf t44_72), [], [], false, []⟩ (
 W.load false 1 t44_72 L_66 fun t45_73 =>
 W.note ⟨(blocksOf t44_72), [], [], []⟩ fun r_74 =>
 W.bin Try.prog Fl .eql 3 t45_73 (.int .i64 4) fun t46_75 =>
 W.dgrd t46_75 true (fun k_77 => W.faddr 1 t11_65 fun v_80 =>
 k_77 v_80 L_66 ⟨[], [], [], []⟩) L_66 fun t48_76 L_79 r_78 =>
 W.dgrd t46_75 true (fun k_82 => W.calm [] ⟨5, (blocksOf t48_76), [], [], false, []⟩ (
 W.load false 1 t48_76 L_79 fun v_85 =>
 W.note ⟨(blocksOf t48_76), [], [], []⟩ fun r_86 =>
 k_82 v_85 L_79 r_86)) L_79 fun t49_81 L_84 r_83 =>
 W.dgrd t46_75 true (fun k_88 => k_88 t4 L_84 ⟨[], [], [], []⟩) L_84 fun t50_87 L_90 r_89 =>
 W.dgrd t46_75 true (fun k_92 => W.bin Try.prog Fl .eql 3 t49_81 t50_87 fun v_95 =>
 k_92 v_95 L_90 ⟨[], [], [], []⟩) L_90 fun t51_91 L_94 r_93 =>
 W.pick t46_75 t51_91 (.bool false) fun t52_96 =>
 W.dgrd t52_96 true (fun k_98 => W.faddr 0 t6_6 fun v_101 =>
 k_98 v_101 L_94 ⟨[], [], [], []⟩) L_94 fun t54_97 L_100 r_99 =>
 W.dgrd t52_96 true (fun k_103 => W.calm [] ⟨11, (blocksOf t54_97), [], [], false, []⟩ (
 W.load false 1 t54_97 L_100 fun v_106 =>
 W.note ⟨(blocksOf t54_97), [], [], []⟩ fun r_107 =>
 k_103 v_106 L_100 r_107)) L_100 fun t55_102 L_105 r_104 =>
 W.dgrd t52_96 true (fun k_109 => W.faddr 2 t5_4 fun v_112 =>
 k_109 v_112 L_105 ⟨[], [], [], []⟩) L_105 fun t56_108 L_111 r_110 =>
 W.dgrd t52_96 true (fun k_114 => W.calm [⟨11, r_104.reads, r_104.writes, r_104.made, false, r_104.old⟩] ⟨13, (blocksOf t56_108), [], [], false, []⟩ (
 W.load false 1 t56_108 L_111 fun v_117 =>
 W.note ⟨(blocksOf t56_108), [], [], []⟩ fun r_118 =>
 k_114 v_117 L_111 r_118)) L_111 fun t57_113 L_116 r_115 =>
 W.dgrd t52_96 true (fun k_120 => k_120 t4 L_116 ⟨[], [], [], []⟩) L_116 fun t58_119 L_122 r_121 =>
 W.dgrd t52_96 true (fun k_124 => W.calm [⟨11, r_104.reads, r_104.writes, r_104.made, false, r_104.old⟩] ⟨15, (slOf t57_113), [], [], false, []⟩ (
 W.idx 2 t57_113 t58_119 L_122 fun v_127 =>
 W.note ⟨(slOf t57_113), [], [], []⟩ fun r_128 =>
 k_124 v_127 L_122 r_128)) L_122 fun t59_123 L_126 r_125 =>
 W.dgrd t52_96 true (fun k_130 => W.faddr 1 t59_123 fun v_133 =>
 k_130 v_133 L_126 ⟨[], [], [], []⟩) L_126 fun t60_129 L_132 r_131 =>
 W.dgrd t52_96 true (fun k_135 => W.calm [⟨11, r_104.reads, r_104.writes, r_104.made, false, r_104.old⟩] ⟨17, (blocksOf t60_129), [], [], false, []⟩ (
 W.load false 1 t60_129 L_132 fun v_138 =>
 W.note ⟨(blocksOf t60_129), [], [], []⟩ fun r_139 =>
 k_135 v_138 L_132 r_139)) L_132 fun t61_134 L_137 r_136 =>
 W.dgrd t52_96 true (fun k_141 => W.calm [] ⟨18, (slOf t55_102), [], [], false, []⟩ (
 W.idx 2 t55_102 t61_134 L_137 fun v_144 =>
 W.note ⟨(slOf t55_102), [], [], []⟩ fun r_145 =>
 k_141 v_144 L_137 r_145)) L_137 fun t62_140 L_143 r_142 =>
 W.dgrd t52_96 true (fun k_147 => W.faddr 0 t62_140 fun v_150 =>
 k_147 v_150 L_143 ⟨[], [], [], []⟩) L_143 fun t63_146 L_149 r_148 =>
 W.dgrd t52_96 true (fun k_152 => W.calm [] ⟨20, (blocksOf t63_146), [], [], false, []⟩ (
 W.load false 1 t63_146 L_149 fun v_155 =>
 W.note ⟨(blocksOf t63_146), [], [], []⟩ fun r_156 =>
 k_152 v_155 L_149 r_156)) L_149 fun t64_151 L_154 r_153 =>
 W.dgrd t52_96 true (fun k_158 => W.bin Try.prog Fl .eql 3 t64_151 (.int .i64 (-1)) fun v_161 =>
 k_158 v_161 L_154 ⟨[], [], [], []⟩) L_154 fun t65_157 L_160 r_159 =>
 W.pick t52_96 t65_157 (.bool false) fun t66_162 =>
 Q t66_162 L_160))) (
 W.faddr 0 t11_65 fun t67_163 =>
 W.load false 1 t67_163 L_66 fun t68_164 =>
 W.bin Try.prog Fl .neq 3 t68_164 (.int .i64 2) fun t69_165 =>
 W.cond t69_165 (
 Q (.bool false) L_66) (
 W.bin Try.prog Fl .eql 3 t3 (.int .i64 6) fun t72_166 =>
 W.cond t72_166 (
 W.faddr 0 t6_6 fun t73_167 =>
 W.load false 1 t73_167 L_66 fun t74_168 =>
 W.idx 2 t74_168 t4 L_66 fun t76_169 =>
 W.faddr 0 t76_169 fun t77_170 =>
 W.load false 1 t77_170 L_66 fun t78_171 =>
 W.bin Try.prog Fl .eql 3 t78_171 (.int .i64 (-1)) fun t79_172 =>
 Q t79_172 L_66) (
 W.bin Try.prog Fl .eql 3 t3 (.int .i64 10) fun t81_173 =>
 W.cond t81_173 (
 W.faddr 0 t6_6 fun t82_174 =>
 W.load false 1 t82_174 L_66 fun t83_175 =>
 W.idx 2 t83_175 t4 L_66 fun t85_176 =>
 W.faddr 0 t85_176 fun t86_177 =>
 W.load false 1 t86_177 L_66 fun t87_178 =>
 W.bin Try.prog Fl .eql 3 t87_178 (.int .i64 (-1)) fun t88_179 =>
 W.grd t88_179 true (fun k_181 => W.faddr 0 t6_6 fun v_183 =>
 k_181 v_183 L_66) L_66 fun t90_180 L_182 =>
 W.grd t88_179 true (fun k_185 => W.load false 1 t90_180 L_182 fun v_187 =>
 k_185 v_187 L_182) L_182 fun t91_184 L_186 =>
 W.grd t88_179 true (fun k_189 => k_189 t4 L_186) L_186 fun t92_188 L_190 =>
 W.grd t88_179 true (fun k_192 => W.idx 2 t91_184 t92_188 L_190 fun v_194 =>
 k_192 v_194 L_190) L_190 fun t93_191 L_193 =>
 W.grd t88_179 true (fun k_196 => W.faddr 1 t93_191 fun v_198 =>
 k_196 v_198 L_193) L_193 fun t94_195 L_197 =>
 W.grd t88_179 true (fun k_200 => W.load false 1 t94_195 L_197 fun v_202 =>
 k_200 v_202 L_197) L_197 fun t95_199 L_201 =>
 W.grd t88_179 true (fun k_204 => W.len t95_199 fun v_206 =>
 k_204 v_206 L_201) L_201 fun t96_203 L_205 =>
 W.grd t88_179 true (fun k_208 => W.bin Try.prog Fl .eql 3 t96_203 (.int .i64 0) fun v_210 =>
 k_208 v_210 L_205) L_205 fun t97_207 L_209 =>
 W.pick t88_179 t97_207 (.bool false) fun t98_211 =>
 Q t98_211 L_209) (
 W.bin Try.prog Fl .eql 3 t3 (.int .i64 8) fun t100_212 =>
 W.cond t100_212 (
 W.faddr 0 t6_6 fun t101_213 =>
 W.load false 1 t101_213 L_66 fun t102_214 =>
 W.idx 2 t102_214 t4 L_66 fun t104_215 =>
 W.faddr 0 t104_215 fun t105_216 =>
 W.load false 1 t105_216 L_66 fun t106_217 =>
 W.bin Try.prog Fl .eql 3 t106_217 (.int .i64 (-1)) fun t107_218 =>
 W.grd t107_218 true (fun k_220 => W.faddr 0 t6_6 fun v_222 =>
 k_220 v_222 L_66) L_66 fun t109_219 L_221 =>
 W.grd t107_218 true (fun k_224 => W.load false 1 t109_219 L_221 fun v_226 =>
 k_224 v_226 L_221) L_221 fun t110_223 L_225 =>
 W.grd t107_218 true (fun k_228 => k_228 t4 L_225) L_225 fun t111_227 L_229 =>
 W.grd t107_218 true (fun k_231 => W.idx 2 t110_223 t111_227 L_229 fun v_233 =>
 k_231 v_233 L_229) L_229 fun t112_230 L_232 =>
 W.grd t107_218 true (fun k_235 => W.faddr 1 t112_230 fun v_237 =>
 k_235 v_237 L_232) L_232 fun t113_234 L_236 =>
 W.grd t107_218 true (fun k_239 => W.load false 1 t113_234 L_236 fun v_241 =>
 k_239 v_241 L_236) L_236 fun t114_238 L_240 =>
 W.grd t107_218 true (fun k_243 => k_243 t2 L_240) L_240 fun t115_242 L_244 =>
 W.grd t107_218 true (fun k_246 => W.call Try.prog (.fn 15 []) [t114_238, t115_242] L_244 fun v_248 L_249 =>
 k_246 v_248 L_249) L_244 fun t116_245 L_247 =>
 W.grd t107_218 true (fun k_251 => W.un .not t116_245 fun v_253 =>
 k_251 v_253 L_247) L_247 fun t117_250 L_252 =>
 W.pick t107_218 t117_250 (.bool false) fun t118_254 =>
 Q t118_254 L_252) (
 W.join (ref08_Enabled_j1 Q) fun j_256 =>
 W.bin Try.prog Fl .eql 3 t3 (.int .i64 7) fun t120_381 =>
 W.cond t120_381 (
 j_256 [t2, t4, t5_4, t6_6, t11_65, t3, t120_381] L_66) (
 W.bin Try.prog Fl .eql 3 t3 (.int .i64 11) fun t121_382 =>
 j_256 [t2, t4, t5_4, t6_6, t11_65, t3, t121_382] L_66))))))))
def ref08_Enabled_w (t0 t1 t2 t3 t4 : AV) (L : SH) (Q : AV → SH → Prop) : Prop :=
 W.box t0 L fun t5_0 L_1 =>
 W.box t1 L_1 fun t6_2 L_3 =>
 W.frz1 t5_0 L_3 fun t5_4 L_5 =>
 W.frz1 t6_2 L_5 fun t6_6 L_7 =>
 W.load true 6 t5_4 L_7 fun t12_8 =>
 W.load true 4 t6_6 L_7 fun t13_9 =>
 W.call Try.prog (.fn 38 []) [t12_8, t13_9] L_7 (ref08_Enabled_c2 t2 t5_4 t3 t4 Q t6_6)
theorem ref08_Enabled_e (t0 t1 t2 t3 t4 : AV) (L : SH) (Q : AV → SH → Prop) : W.func Try.prog Fl ref08_Enabled_t Try.f55 (Try.f55.body.getD .skip) [t0, t1, t2, t3, t4] L Q = ref08_Enabled_w t0 t1 t2 t3 t4 L Q := by kernel_rfl
theorem ref08_Enabled_ok (t0 t1 t2 t3 t4 : AV) (L : SH) (Q : AV → SH → Prop) (h : ref08_Enabled_w t0 t1 t2 t3 t4 L Q) : CallA Try.prog 55 [t0, t1, t2, t3, t4] L Q :=
  func_sound (ht := ref08_Enabled_t) fit Try.func55 (show Try.f55.body = some (Try.f55.body.getD .skip) by kernel_rfl) (Eq.mpr (ref08_Enabled_e t0 t1 t2 t3 t4 L Q) h)

/- interleave/interleaveref08.Copy -/
def ref08_Copy_t : Hints := ⟨fun k => none, fun k => if k = 3 then [1, 2, 3, 4] else [], fun k => if k = 0 then [1] else [], fun k => if k = 1 then [0, 1, 0, 0, 8, 28, 0, 0, 128, 508, 1023, 0, 4095] else if k = 5 then [0, 1, 0, 4, 0, 28, 60, 124, 0, 0, 512, 0, 3584, 7680, 15872, 32512, 65532, 131068, 262143, 524287, 1048575] else []⟩
def ref08_Copy_l0 (Q : AV → SH → Prop) (vs_33 : List AV) (L_35 : SH) (nx_34 : W.Kn) : Prop :=
 W.faddr 0 (slotOf [1, 2, 3, 4] vs_33 1) fun t17_36 =>
 W.load false 1 t17_36 L_35 fun t18_37 =>
 W.len t18_37 fun t19_38 =>
 W.bin Try.prog Fl .lss 3 (slotOf [1, 2, 3, 4] vs_33 4) t19_38 fun t20_39 =>
 W.cond t20_39 (
 (true = true) ∧ (
 W.faddr 0 (slotOf [1, 2, 3, 4] vs_33 3) fun t23_40 =>
 W.calm [] ⟨1, (blocksOf t23_40), [], [], false, []⟩ (
 W.load false 1 t23_40 L_35 fun t24_41 =>
 W.note ⟨(blocksOf t23_40), [], [], []⟩ fun r_42 =>
 W.faddr 0 (slotOf [1, 2, 3, 4] vs_33 1) fun t25_43 =>
 W.calm [⟨1, r_42.reads, r_42.writes, r_42.made, false, r_42.old⟩] ⟨3, (blocksOf t25_43), [], [], false, []⟩ (
 W.load false 1 t25_43 L_35 fun t26_44 =>
 W.note ⟨(blocksOf t25_43), [], [], []⟩ fun r_45 =>
 W.calm [⟨1, r_42.reads, r_42.writes, r_42.made, false, r_42.old⟩] ⟨5, (slOf t26_44), [], [], false, []⟩ (
 W.idx 2 t26_44 (slotOf [1, 2, 3, 4] vs_33 4) L_35 fun t28_46 =>
 W.note ⟨(slOf t26_44), [], [], []⟩ fun r_47 =>
 W.faddr 0 t28_46 fun t29_48 =>
 W.calm [⟨1, r_42.reads, r_42.writes, r_42.made, false, r_42.old⟩] ⟨7, (blocksOf t29_48), [], [], false, []⟩ (
 W.load false 1 t29_48 L_35 fun t30_49 =>
 W.note ⟨(blocksOf t29_48), [], [], []⟩ fun r_50 =>
 W.calm [⟨7, r_50.reads, r_50.writes, r_50.made, false, r_50.old⟩, ⟨5, r_47.reads, r_47.writes, r_47.made, false, r_47.old⟩, ⟨3, r_45.reads, r_45.writes, r_45.made, false, r_45.old⟩, ⟨1, r_42.reads, r_42.writes, r_42.made, false, r_42.old⟩] ⟨8, [], [], [], false, []⟩ (
 W.bslice 1 [(.int .i64 0)] 0 [] L_35 fun t31_51 L_52 =>
 W.note ⟨[], [], (blocksOf t31_51), []⟩ fun r_53 =>
 W.faddr 0 (slotOf [1, 2, 3, 4] vs_33 1) fun t32_54 =>
 W.calm [⟨8, r_53.reads, r_53.writes, r_53.made, false, r_53.old⟩, ⟨7, r_50.reads, r_50.writes, r_50.made, false, r_50.old⟩, ⟨5, r_47.reads, r_47.writes, r_47.made, false, r_47.old⟩, ⟨3, r_45.reads, r_45.writes, r_45.made, false, r_45.old⟩, ⟨1, r_42.reads, r_42.writes, r_42.made, false, r_42.old⟩] ⟨10, (blocksOf t32_54), [], [], false, []⟩ (
 W.load false 1 t32_54 L_52 fun t33_55 =>
 W.note ⟨(blocksOf t32_54), [], [], []⟩ fun r_56 =>
 W.calm [⟨8, r_53.reads, r_53.writes, r_53.made, false, r_53.old⟩, ⟨7, r_50.reads, r_50.writes, r_50.made, false, r_50.old⟩, ⟨5, r_47.reads, r_47.writes, r_47.made, false, r_47.old⟩, ⟨3, r_45.reads, r_45.writes, r_45.made, false, r_45.old⟩, ⟨1, r_42.reads, r_42.writes, r_42.made, false, r_42.old⟩] ⟨12, (slOf t33_55), [], [], false, []⟩ (
 W.idx 2 t33_55 (slotOf [1, 2, 3, 4] vs_33 4) L_52 fun t35_57 =>
 W.note ⟨(slOf t33_55), [], [], []⟩ fun r_58 =>
 W.faddr 1 t35_57 fun t36_59 =>
 W.calm [⟨8, r_53.reads, r_53.writes, r_53.made, false, r_53.old⟩, ⟨7, r_50.reads, r_50.writes, r_50.made, false, r_50.old⟩, ⟨5, r_47.reads, r_47.writes, r_47.made, false, r_47.old⟩, ⟨3, r_45.reads, r_45.writes, r_45.made, false, r_45.old⟩, ⟨1, r_42.reads, r_42.writes, r_42.made, false, r_42.old⟩] ⟨14, (blocksOf t36_59), [], [], false, []⟩ (
 W.load false 1 t36_59 L_52 fun t37_60 =>
 W.note ⟨(blocksOf t36_59), [], [], []⟩ fun r_61 =>
 W.calm [⟨7, r_50.reads, r_50.writes, r_50.made, false, r_50.old⟩, ⟨5, r_47.reads, r_47.writes, r_47.made, false, r_47.old⟩, ⟨3, r_45.reads, r_45.writes, r_45.made, false, r_45.old⟩, ⟨1, r_42.reads, r_42.writes, r_42.made, false, r_42.old⟩] ⟨15, (blocksOf t31_51 ++ blocksOf t37_60), (blocksOf t31_51), [], false, []⟩ (
 W.append 1 8 t31_51 t37_60 L_52 fun t38_62 L_63 =>
 W.note ⟨(blocksOf t31_51 ++ blocksOf t37_60), (blocksOf t31_51), (blocksOf t38_62), []⟩ fun r_64 =>
 W.build [(.int .i64 0), .nils] [(0, 1, t30_49), (1, 1, t38_62)] fun t39_65 =>
 W.calm [⟨1, r_42.reads, r_42.writes, r_42.made, false, r_42.old⟩] ⟨17, [], [], [], false, []⟩ (
 W.bslice 2 [(.int .i64 0), .nils] 1 [(0, t39_65)] L_63 fun t40_66 L_67 =>
 W.note ⟨[], [], (blocksOf t40_66), []⟩ fun r_68 =>
 W.calm [] ⟨18, (blocksOf t24_41 ++ blocksOf t40_66), (blocksOf t24_41), [], false, []⟩ (
 W.append 2 32 t24_41 t40_66 L_67 fun t41_69 L_70 =>
 W.note ⟨(blocksOf t24_41 ++ blocksOf t40_66), (blocksOf t24_41), (blocksOf t41_69), []⟩ fun r_71 =>
 W.faddr 0 (slotOf [1, 2, 3, 4] vs_33 3) fun t42_72 =>
 W.calm [] ⟨20, (blocksOf t42_72), (blocksOf t42_72), [], false, []⟩ (
 W.store 1 t42_72 t41_69 L_70 fun L_73 =>
 W.note ⟨(blocksOf t42_72), (blocksOf t42_72), [], []⟩ fun r_74 =>
 W.bin Try.prog Fl .add 3 (slotOf [1, 2, 3, 4] vs_33 4) (.int .i64 1) fun t22_75 =>
 nx_34 [(slotOf [1, 2, 3, 4] vs_33 1), (slotOf [1, 2, 3, 4] vs_33 2), (slotOf [1, 2, 3, 4] vs_33 3), t22_75] L_73)))))))))))))) (
 W.load true 4 (slotOf [1, 2, 3, 4] vs_33 3) L_35 fun t43_76 =>
 W.store 4 (slotOf [1, 2, 3, 4] vs_33 2) t43_76 L_35 fun L_77 =>
 W.load true 4 (slotOf [1, 2, 3, 4] vs_33 2) L_77 fun r_78 =>
 Q r_78 L_77)
def ref08_Copy_w (t0 : AV) (L : SH) (Q : AV → SH → Prop) : Prop :=
 W.box t0 L fun t1_0 L_1 =>
 W.alloc [.nils, (.int .i64 0), .nils, .nils] L_1 fun t2_2 L_3 =>
 W.frz1 t1_0 L_3 fun t1_4 L_5 =>
 (true = true) ∧ (
 W.faddr 1 t1_4 fun t5_6 =>
 W.calm [] ⟨1, (blocksOf t5_6), [], [], false, []⟩ (
 W.load false 1 t5_6 L_5 fun t6_7 =>
 W.note ⟨(blocksOf t5_6), [], [], []⟩ fun r_8 =>
 W.calm [⟨1, r_8.reads, r_8.writes, r_8.made, false, r_8.old⟩] ⟨2, [], [], [], false, []⟩ (
 W.bslice 1 [(.bool false)] 0 [] L_5 fun t7_9 L_10 =>
 W.note ⟨[], [], (blocksOf t7_9), []⟩ fun r_11 =>
 W.faddr 2 t1_4 fun t8_12 =>
 W.calm [⟨2, r_11.reads, r_11.writes, r_11.made, false, r_11.old⟩, ⟨1, r_8.reads, r_8.writes, r_8.made, false, r_8.old⟩] ⟨4, (blocksOf t8_12), [], [], false, []⟩ (
 W.load false 1 t8_12 L_10 fun t9_13 =>
 W.note ⟨(blocksOf t8_12), [], [], []⟩ fun r_14 =>
 W.calm [⟨1, r_8.reads, r_8.writes, r_8.made, false, r_8.old⟩] ⟨5, (blocksOf t7_9 ++ blocksOf t9_13), (blocksOf t7_9), [], false, []⟩ (
 W.append 1 1 t7_9 t9_13 L_10 fun t10_15 L_16 =>
 W.note ⟨(blocksOf t7_9 ++ blocksOf t9_13), (blocksOf t7_9), (blocksOf t10_15), []⟩ fun r_17 =>
 W.calm [⟨5, r_17.reads, r_17.writes, r_17.made, false, r_17.old⟩, ⟨4, r_14.reads, r_14.writes, r_14.made, false, r_14.old⟩, ⟨2, r_11.reads, r_11.writes, r_11.made, false, r_11.old⟩, ⟨1, r_8.reads, r_8.writes, r_8.made, false, r_8.old⟩] ⟨6, [], [], [], false, []⟩ (
 W.bslice 3 [(.int .i64 0), (.int .i64 0), (.bool false)] 0 [] L_16 fun t11_18 L_19 =>
 W.note ⟨[], [], (blocksOf t11_18), []⟩ fun r_20 =>
 W.faddr 3 t1_4 fun t12_21 =>
 W.calm [⟨6, r_20.reads, r_20.writes, r_20.made, false, r_20.old⟩, ⟨5, r_17.reads, r_17.writes, r_17.made, false, r_17.old⟩, ⟨4, r_14.reads, r_14.writes, r_14.made, false, r_14.old⟩, ⟨2, r_11.reads, r_11.writes, r_11.made, false, r_11.old⟩, ⟨1, r_8.reads, r_8.writes, r_8.made, false, r_8.old⟩] ⟨8, (blocksOf t12_21), [], [], false, []⟩ (
 W.load false 1 t12_21 L_19 fun t13_22 =>
 W.note ⟨(blocksOf t12_21), [], [], []⟩ fun r_23 =>
 W.calm [⟨1, r_8.reads, r_8.writes, r_8.made, false, r_8.old⟩] ⟨9, (blocksOf t11_18 ++ blocksOf t13_22), (blocksOf t11_18), [], false, []⟩ (
 W.append 3 24 t11_18 t13_22 L_19 fun t14_24 L_25 =>
 W.note ⟨(blocksOf t11_18 ++ blocksOf t13_22), (blocksOf t11_18), (blocksOf t14_24), []⟩ fun r_26 =>
 W.build [.nils, (.int .i64 0), .nils, .nils] [(1, 1, t6_7), (2, 1, t10_15), (3, 1, t14_24)] fun t15_27 =>
 W.calm [⟨9, r_26.reads, r_26.writes, r_26.made, false, r_26.old⟩, ⟨8, r_23.reads, r_23.writes, r_23.made, false, r_23.old⟩, ⟨6, r_20.reads, r_20.writes, r_20.made, false, r_20.old⟩, ⟨5, r_17.reads, r_17.writes, r_17.made, false, r_17.old⟩, ⟨4, r_14.reads, r_14.writes, r_14.made, false, r_14.old⟩, ⟨2, r_11.reads, r_11.writes, r_11.made, false, r_11.old⟩, ⟨1, r_8.reads, r_8.writes, r_8.made, false, r_8.old⟩] ⟨11, [], [], [], false, []⟩ (
 W.alloc [.nils, (.int .i64 0), .nils, .nils] L_25 fun t3_28 L_29 =>
 W.note ⟨[], [], (blocksOf t3_28), []⟩ fun r_30 =>
 W.calm [] ⟨12, (blocksOf t3_28), (blocksOf t3_28), [], false, []⟩ (
 W.store 4 t3_28 t15_27 L_29 fun L_31 =>
 W.note ⟨(blocksOf t3_28), (blocksOf t3_28), [], []⟩ fun r_32 =>
 W.loop (ref08_Copy_l0 Q) [t1_4, t2_2, t3_28, (.int .i64 0)] L_31))))))))))
theorem ref08_Copy_e (t0 : AV) (L : SH) (Q : AV → SH → Prop) : W.func Try.prog Fl ref08_Copy_t Try.f56 (Try.f56.body.getD .skip) [t0] L Q = ref08_Copy_w t0 L Q := by kernel_rfl
theorem ref08_Copy_ok (t0 : AV) (L : SH) (Q : AV → SH → Prop) (h : ref08_Copy_w t0 L Q) : CallA Try.prog 56 [t0] L Q :=
  func_sound (ht := ref08_Copy_t) fit Try.func56 (show Try.f56.body = some (Try.f56.body.getD .skip) by kernel_rfl) (Eq.mpr (ref08_Copy_e t0 L Q) h)

/- interleave/interleaveref08.without -/
def ref08_without_t : Hints := ⟨fun k => none, fun k => if k = 3 then [0, 1, 5, 6] else [], fun k => [], fun k => []⟩
def ref08_without_l0 (Q : AV → SH → Prop) (vs_0 : List AV) (L_2 : SH) (nx_1 : W.Kn) : Prop :=
 W.len (slotOf [0, 1, 5, 6] vs_0 0) fun t9_3 =>
 W.bin Try.prog Fl .lss 3 (slotOf [0, 1, 5, 6] vs_0 6) t9_3 fun t10_4 =>
 W.cond t10_4 (
 W.idx 1 (slotOf [0, 1, 5, 6] vs_0 0) (slotOf [0, 1, 5, 6] vs_0 6) L_2 fun t15_5 =>
 W.load false 1 t15_5 L_2 fun t16_6 =>
 W.bin Try.prog Fl .neq 3 t16_6 (slotOf [0, 1, 5, 6] vs_0 1) fun t18_7 =>
 W.cond t18_7 (
 W.idx 1 (slotOf [0, 1, 5, 6] vs_0 0) (slotOf [0, 1, 5, 6] vs_0 6) L_2 fun t22_8 =>
 W.load false 1 t22_8 L_2 fun t23_9 =>
 W.bslice 1 [(.int .i64 0)] 1 [(0, t23_9)] L_2 fun t24_10 L_11 =>
 W.append 1 8 (slotOf [0, 1, 5, 6] vs_0 5) t24_10 L_11 fun t25_12 L_13 =>
 W.bin Try.prog Fl .add 3 (slotOf [0, 1, 5, 6] vs_0 6) (.int .i64 1) fun t12_14 =>
 nx_1 [(slotOf [0, 1, 5, 6] vs_0 0), (slotOf [0, 1, 5, 6] vs_0 1), t25_12, t12_14] L_13) (
 W.bin Try.prog Fl .add 3 (slotOf [0, 1, 5, 6] vs_0 6) (.int .i64 1) fun t12_15 =>
 nx_1 [(slotOf [0, 1, 5, 6] vs_0 0), (slotOf [0, 1, 5, 6] vs_0 1), (slotOf [0, 1, 5, 6] vs_0 5), t12_15] L_2)) (
 Q (slotOf [0, 1, 5, 6] vs_0 5) L_2)
def ref08_without_w (t0 t1 : AV) (L : SH) (Q : AV → SH → Prop) : Prop :=
 W.loop (ref08_without_l0 Q) [t0, t1, .nils, (.int .i64 0)] L
theorem ref08_without_e (t0 t1 : AV) (L : SH) (Q : AV → SH → Prop) : W.func Try.prog Fl ref08_without_t Try.f58 (Try.f58.body.getD .skip) [t0, t1] L Q = ref08_without_w t0 t1 L Q := by kernel_rfl
theorem ref08_without_ok (t0 t1 : AV) (L : SH) (Q : AV → SH → Prop) (h : ref08_without_w t0 t1 L Q) : CallA Try.prog 58 [t0, t1] L Q :=
  func_sound (ht := ref08_without_t) fit Try.func58 (show Try.f58.body = some (Try.f58.body.getD .skip) by kernel_rfl) (Eq.mpr (ref08_without_e t0 t1 L Q) h)

/- interleave/interleaveref08.Waiting -/
def ref08_Waiting_t : Hints := ⟨fun k => none, fun k => if k = 3 then [1, 2, 5, 6] else [], fun k => if k = 0 then [2] else [], fun k => []⟩
def ref08_Waiting_l0 (Q : AV → SH → Prop) (vs_4 : List AV) (L_6 : SH) (nx_5 : W.Kn) : Prop :=
 W.faddr 3 (slotOf [1, 2, 5, 6] vs_4 2) fun t8_7 =>
 W.load false 1 t8_7 L_6 fun t9_8 =>
 W.len t9_8 fun t10_9 =>
 W.bin Try.prog Fl .lss 3 (slotOf [1, 2, 5, 6] vs_4 6) t10_9 fun t11_10 =>
 W.cond t11_10 (
 W.faddr 3 (slotOf [1, 2, 5, 6] vs_4 2) fun t14_11 =>
 W.load false 1 t14_11 L_6 fun t15_12 =>
 W.idx 3 t15_12 (slotOf [1, 2, 5, 6] vs_4 6) L_6 fun t17_13 =>
 W.faddr 0 t17_13 fun t18_14 =>
 W.load false 1 t18_14 L_6 fun t19_15 =>
 W.bin Try.prog Fl .eql 3 t19_15 (.int .i64 3) fun t20_16 =>
 W.grd t20_16 true (fun k_18 => W.faddr 3 (slotOf [1, 2, 5, 6] vs_4 2) fun v_20 =>
 k_18 v_20 L_6) L_6 fun t22_17 L_19 =>
 W.grd t20_16 true (fun k_22 => W.load false 1 t22_17 L_19 fun v_24 =>
 k_22 v_24 L_19) L_19 fun t23_21 L_23 =>
 W.grd t20_16 true (fun k_26 => k_26 (slotOf [1, 2, 5, 6] vs_4 6) L_23) L_23 fun t24_25 L_27 =>
 W.grd t20_16 true (fun k_29 => W.idx 3 t23_21 t24_25 L_27 fun v_31 =>
 k_29 v_31 L_27) L_27 fun t25_28 L_30 =>
 W.grd t20_16 true (fun k_33 => W.faddr 1 t25_28 fun v_35 =>
 k_33 v_35 L_30) L_30 fun t26_32 L_34 =>
 W.grd t20_16 true (fun k_37 => W.load false 1 t26_32 L_34 fun v_39 =>
 k_37 v_39 L_34) L_34 fun t27_36 L_38 =>
 W.grd t20_16 true (fun k_41 => k_41 (slotOf [1, 2, 5, 6] vs_4 1) L_38) L_38 fun t28_40 L_42 =>
 W.grd t20_16 true (fun k_44 => W.bin Try.prog Fl .eql 3 t27_36 t28_40 fun v_46 =>
 k_44 v_46 L_42) L_42 fun t29_43 L_45 =>
 W.pick t20_16 t29_43 (.bool false) fun t30_47 =>
 W.cond t30_47 (
 W.bslice 1 [(.int .i64 0)] 1 [(0, (slotOf [1, 2, 5, 6] vs_4 6))] L_45 fun t33_48 L_49 =>
 W.append 1 8 (slotOf [1, 2, 5, 6] vs_4 5) t33_48 L_49 fun t34_50 L_51 =>
 W.bin Try.prog Fl .add 3 (slotOf [1, 2, 5, 6] vs_4 6) (.int .i64 1) fun t13_52 =>
 nx_5 [(slotOf [1, 2, 5, 6] vs_4 1), (slotOf [1, 2, 5, 6] vs_4 2), t34_50, t13_52] L_51) (
 W.bin Try.prog Fl .add 3 (slotOf [1, 2, 5, 6] vs_4 6) (.int .i64 1) fun t13_53 =>
 nx_5 [(slotOf [1, 2, 5, 6] vs_4 1), (slotOf [1, 2, 5, 6] vs_4 2), (slotOf [1, 2, 5, 6] vs_4 5), t13_53] L_45)) (
 Q (slotOf [1, 2, 5, 6] vs_4 5) L_6)
def ref08_Waiting_w (t0 t1 : AV) (L : SH) (Q : AV → SH → Prop) : Prop :=
 W.box t0 L fun t2_0 L_1 =>
 W.frz1 t2_0 L_1 fun t2_2 L_3 =>
 W.loop (ref08_Waiting_l0 Q) [t1, t2_2, .nils, (.int .i64 0)] L_3
theorem ref08_Waiting_e (t0 t1 : AV) (L : SH) (Q : AV → SH → Prop) : W.func Try.prog Fl ref08_Waiting_t Try.f59 (Try.f59.body.getD .skip) [t0, t1] L Q = ref08_Waiting_w t0 t1 L Q := by kernel_rfl
theorem ref08_Waiting_ok (t0 t1 : AV) (L : SH) (Q : AV → SH → Prop) (h : ref08_Waiting_w t0 t1 L Q) : CallA Try.prog 59 [t0, t1] L Q :=
  func_sound (ht := ref08_Waiting_t) fit Try.func59 (show Try.f59.body = some (Try.f59.body.getD .skip) by kernel_rfl) (Eq.mpr (ref08_Waiting_e t0 t1 L Q) h)

/- interleave/interleaveref08.in -/
def ref08_in_t : Hints := ⟨fun k => none, fun k => [], fun k => [], fun k => []⟩
def ref08_in_w (t0 t1 : AV) (L : SH) (Q : AV → SH → Prop) : Prop :=
 W.bin Try.prog Fl .geq 3 t0 (.int .i64 0) fun t6_0 =>
 W.grd t6_0 true (fun k_2 => k_2 t0 L) L fun t8_1 L_3 =>
 W.grd t6_0 true (fun k_5 => k_5 t1 L_3) L_3 fun t9_4 L_6 =>
 W.grd t6_0 true (fun k_8 => W.bin Try.prog Fl .lss 3 t8_1 t9_4 fun v_10 =>
 k_8 v_10 L_6) L_6 fun t10_7 L_9 =>
 W.pick t6_0 t10_7 (.bool false) fun t11_11 =>
 Q t11_11 L_9
theorem ref08_in_e (t0 t1 : AV) (L : SH) (Q : AV → SH → Prop) : W.func Try.prog Fl ref08_in_t Try.f61 (Try.f61.body.getD .skip) [t0, t1] L Q = ref08_in_w t0 t1 L Q := by kernel_rfl
theorem ref08_in_ok (t0 t1 : AV) (L : SH) (Q : AV → SH → Prop) (h : ref08_in_w t0 t1 L Q) : CallA Try.prog 61 [t0, t1] L Q :=
  func_sound (ht := ref08_in_t) fit Try.func61 (show Try.f61.body = some (Try.f61.body.getD .skip) by kernel_rfl) (Eq.mpr (ref08_in_e t0 t1 L Q) h)

/- interleave/interleaveref08.named -/
def ref08_named_t : Hints := ⟨fun k => if k = 8 then some [2, 3, 7, 8] else if k = 11 then some [2, 3, 7, 18] else if k = 14 then some [2, 3, 7, 26] else if k = 19 then some [2, 3, 7, 43] else if k = 24 then some [2, 3, 7, 61] else if k = 27 then some [2, 3, 7, 71] else if k = 30 then some [2, 3, 79] else none, fun k => [], fun k => if k = 0 then [3] else [], fun k => []⟩
def ref08_named_c0 (vs_16 : List AV) (Q : AV → SH → Prop) (t33_22 : AV) (L_23 : SH) : Prop :=
 W.grd t33_22 true (fun k_25 => W.faddr 1 (slotOf [2, 3, 7, 26] vs_16 3) fun v_27 =>
 k_25 v_27 L_23) L_23 fun t35_24 L_26 =>
 W.grd t33_22 true (fun k_29 => W.load false 1 t35_24 L_26 fun v_31 =>
 k_29 v_31 L_26) L_26 fun t36_28 L_30 =>
 W.grd t33_22 true (fun k_33 => k_33 (slotOf [2, 3, 7, 26] vs_16 2) L_30) L_30 fun t37_32 L_34 =>
 W.grd t33_22 true (fun k_36 => W.idx 2 t36_28 t37_32 L_34 fun v_38 =>
 k_36 v_38 L_34) L_34 fun t38_35 L_37 =>
 W.grd t33_22 true (fun k_40 => W.faddr 1 t38_35 fun v_42 =>
 k_40 v_42 L_37) L_37 fun t39_39 L_41 =>
 W.grd t33_22 true (fun k_44 => W.load false 1 t39_39 L_41 fun v_46 =>
 k_44 v_46 L_41) L_41 fun t40_43 L_45 =>
 W.grd t33_22 true (fun k_48 => W.un .not t40_43 fun v_50 =>
 k_48 v_50 L_45) L_45 fun t41_47 L_49 =>
 W.pick t33_22 t41_47 (.bool false) fun t42_51 =>
 Q t42_51 L_49
def ref08_named_c1 (vs_52 : List AV) (Q : AV → SH → Prop) (t52_58 : AV) (L_59 : SH) : Prop :=
 W.grd t52_58 true (fun k_61 => W.faddr 1 (slotOf [2, 3, 7, 43] vs_52 3) fun v_63 =>
 k_61 v_63 L_59) L_59 fun t54_60 L_62 =>
 W.grd t52_58 true (fun k_65 => W.load false 1 t54_60 L_62 fun v_67 =>
 k_65 v_67 L_62) L_62 fun t55_64 L_66 =>
 W.grd t52_58 true (fun k_69 => k_69 (slotOf [2, 3, 7, 43] vs_52 2) L_66) L_66 fun t56_68 L_70 =>
 W.grd t52_58 true (fun k_72 => W.idx 2 t55_64 t56_68 L_70 fun v_74 =>
 k_72 v_74 L_70) L_70 fun t57_71 L_73 =>
 W.grd t52_58 true (fun k_76 => W.faddr 1 t57_71 fun v_78 =>
 k_76 v_78 L_73) L_73 fun t58_75 L_77 =>
 W.grd t52_58 true (fun k_80 => W.load false 1 t58_75 L_77 fun v_82 =>
 k_80 v_82 L_77) L_77 fun t59_79 L_81 =>
 W.pick t52_58 t59_79 (.bool false) fun t60_83 =>
 Q t60_83 L_81
def ref08_named_j2 (Q : AV → SH → Prop) (vs_100 : List AV) (L_102 : SH) : Prop :=
 W.cond (slotOf [2, 3, 79] vs_100 79) (
 W.faddr 3 (slotOf [2, 3, 79] vs_100 3) fun t83_103 =>
 W.load false 1 t83_103 L_102 fun t84_104 =>
 W.len t84_104 fun t85_105 =>
 W.call Try.prog (.fn 61 []) [(slotOf [2, 3, 79] vs_100 2), t85_105] L_102 fun t86_106 L_107 =>
 Q t86_106 L_107) (
 Q (.bool false) L_102)
def ref08_named_j3 (Q : AV → SH → Prop) (vs_92 : List AV) (L_94 : SH) : Prop :=
 W.cond (slotOf [2, 3, 7, 71] vs_92 71) (
 W.faddr 4 (slotOf [2, 3, 7, 71] vs_92 3) fun t75_95 =>
 W.load false 1 t75_95 L_94 fun t76_96 =>
 W.len t76_96 fun t77_97 =>
 W.call Try.prog (.fn 61 []) [(slotOf [2, 3, 7, 71] vs_92 2), t77_97] L_94 fun t78_98 L_99 =>
 Q t78_98 L_99) (
 W.join (ref08_named_j2 Q) fun j_101 =>
 W.bin Try.prog Fl .eql 3 (slotOf [2, 3, 7, 71] vs_92 7) (.int .i64 22) fun t80_108 =>
 W.cond t80_108 (
 j_101 [(slotOf [2, 3, 7, 71] vs_92 2), (slotOf [2, 3, 7, 71] vs_92 3), t80_108] L_94) (
 W.bin Try.prog Fl .eql 3 (slotOf [2, 3, 7, 71] vs_92 7) (.int .i64 23) fun t81_109 =>
 j_101 [(slotOf [2, 3, 7, 71] vs_92 2), (slotOf [2, 3, 7, 71] vs_92 3), t81_109] L_94))
def ref08_named_j4 (Q : AV → SH → Prop) (vs_84 : List AV) (L_86 : SH) : Prop :=
 W.cond (slotOf [2, 3, 7, 61] vs_84 61) (
 W.faddr 2 (slotOf [2, 3, 7, 61] vs_84 3) fun t67_87 =>
 W.load false 1 t67_87 L_86 fun t68_88 =>
 W.len t68_88 fun t69_89 =>
 W.call Try.prog (.fn 61 []) [(slotOf [2, 3, 7, 61] vs_84 2), t69_89] L_86 fun t70_90 L_91 =>
 Q t70_90 L_91) (
 W.join (ref08_named_j3 Q) fun j_93 =>
 W.bin Try.prog Fl .eql 3 (slotOf [2, 3, 7, 61] vs_84 7) (.int .i64 20) fun t72_110 =>
 W.cond t72_110 (
 j_93 [(slotOf [2, 3, 7, 61] vs_84 2), (slotOf [2, 3, 7, 61] vs_84 3), (slotOf [2, 3, 7, 61] vs_84 7), t72_110] L_86) (
 W.bin Try.prog Fl .eql 3 (slotOf [2, 3, 7, 61] vs_84 7) (.int .i64 21) fun t73_111 =>
 j_93 [(slotOf [2, 3, 7, 61] vs_84 2), (slotOf [2, 3, 7, 61] vs_84 3), (slotOf [2, 3, 7, 61] vs_84 7), t73_111] L_86))
def ref08_named_j5 (Q : AV → SH → Prop) (vs_52 : List AV) (L_54 : SH) : Prop :=
 W.cond (slotOf [2, 3, 7, 43] vs_52 43) (
 W.faddr 1 (slotOf [2, 3, 7, 43] vs_52 3) fun t49_55 =>
 W.load false 1 t49_55 L_54 fun t50_56 =>
 W.len t50_56 fun t51_57 =>
 W.call Try.prog (.fn 61 []) [(slotOf [2, 3, 7, 43] vs_52 2), t51_57] L_54 (ref08_named_c1 vs_52 Q)) (
 W.join (ref08_named_j4 Q) fun j_85 =>
 W.bin Try.prog Fl .eql 3 (slotOf [2, 3, 7, 43] vs_52 7) (.int .i64 16) fun t62_112 =>
 W.cond t62_112 (
 j_85 [(slotOf [2, 3, 7, 43] vs_52 2), (slotOf [2, 3, 7, 43] vs_52 3), (slotOf [2, 3, 7, 43] vs_52 7), t62_112] L_54) (
 W.bin Try.prog Fl .eql 3 (slotOf [2, 3, 7, 43] vs_52 7) (.int .i64 17) fun t63_113 =>
 W.cond t63_113 (
 j_85 [(slotOf [2, 3, 7, 43] vs_52 2), (slotOf [2, 3, 7, 43] vs_52 3), (slotOf [2, 3, 7, 43] vs_52 7), t63_113] L_54) (
 W.bin Try.prog Fl .eql 3 (slotOf [2, 3, 7, 43] vs_52 7) (.int .i64 18) fun t64_114 =>
 W.cond t64_114 (
 j_85 [(slotOf [2, 3, 7, 43] vs_52 2), (slotOf [2, 3, 7, 43] vs_52 3), (slotOf [2, 3, 7, 43] vs_52 7), t64_114] L_54) (
 W.bin Try.prog Fl .eql 3 (slotOf [2, 3, 7, 43] vs_52 7) (.int .i64 19) fun t65_115 =>
 j_85 [(slotOf [2, 3, 7, 43] vs_52 2), (slotOf [2, 3, 7, 43] vs_52 3), (slotOf [2, 3, 7, 43] vs_52 7), t65_115] L_54))))
def ref08_named_j6 (Q : AV → SH → Prop) (vs_16 : List AV) (L_18 : SH) : Prop :=
 W.cond (slotOf [2, 3, 7, 26] vs_16 26) (
 W.faddr 1 (slotOf [2, 3, 7, 26] vs_16 3) fun t30_19 =>
 W.load false 1 t30_19 L_18 fun t31_20 =>
 W.len t31_20 fun t32_21 =>
 W.call Try.prog (.fn 61 []) [(slotOf [2, 3, 7, 26] vs_16 2), t32_21] L_18 (ref08_named_c0 vs_16 Q)) (
 W.join (ref08_named_j5 Q) fun j_53 =>
 W.bin Try.prog Fl .eql 3 (slotOf [2, 3, 7, 26] vs_16 7) (.int .i64 8) fun t44_116 =>
 W.cond t44_116 (
 j_53 [(slotOf [2, 3, 7, 26] vs_16 2), (slotOf [2, 3, 7, 26] vs_16 3), (slotOf [2, 3, 7, 26] vs_16 7), t44_116] L_18) (
 W.bin Try.prog Fl .eql 3 (slotOf [2, 3, 7, 26] vs_16 7) (.int .i64 9) fun t45_117 =>
 W.cond t45_117 (
 j_53 [(slotOf [2, 3, 7, 26] vs_16 2), (slotOf [2, 3, 7, 26] vs_16 3), (slotOf [2, 3, 7, 26] vs_16 7), t45_117] L_18) (
 W.bin Try.prog Fl .eql 3 (slotOf [2, 3, 7, 26] vs_16 7) (.int .i64 10) fun t46_118 =>
 W.cond t46_118 (
 j_53 [(slotOf [2, 3, 7, 26] vs_16 2), (slotOf [2, 3, 7, 26] vs_16 3), (slotOf [2, 3, 7, 26] vs_16 7), t46_118] L_18) (
 W.bin Try.prog Fl .eql 3 (slotOf [2, 3, 7, 26] vs_16 7) (.int .i64 11) fun t47_119 =>
 j_53 [(slotOf [2, 3, 7, 26] vs_16 2), (slotOf [2, 3, 7, 26] vs_16 3), (slotOf [2, 3, 7, 26] vs_16 7), t47_119] L_18))))
def ref08_named_j7 (Q : AV → SH → Prop) (vs_8 : List AV) (L_10 : SH) : Prop :=
 W.cond (slotOf [2, 3, 7, 18] vs_8 18) (
 W.faddr 0 (slotOf [2, 3, 7, 18] vs_8 3) fun t22_11 =>
 W.load false 1 t22_11 L_10 fun t23_12 =>
 W.len t23_12 fun t24_13 =>
 W.call Try.prog (.fn 61 []) [(slotOf [2, 3, 7, 18] vs_8 2), t24_13] L_10 fun t25_14 L_15 =>
 Q t25_14 L_15) (
 W.join (ref08_named_j6 Q) fun j_17 =>
 W.bin Try.prog Fl .eql 3 (slotOf [2, 3, 7, 18] vs_8 7) (.int .i64 6) fun t27_120 =>
 W.cond t27_120 (
 j_17 [(slotOf [2, 3, 7, 18] vs_8 2), (slotOf [2, 3, 7, 18] vs_8 3), (slotOf [2, 3, 7, 18] vs_8 7), t27_120] L_10) (
 W.bin Try.prog Fl .eql 3 (slotOf [2, 3, 7, 18] vs_8 7) (.int .i64 7) fun t28_121 =>
 j_17 [(slotOf [2, 3, 7, 18] vs_8 2), (slotOf [2, 3, 7, 18] vs_8 3), (slotOf [2, 3, 7, 18] vs_8 7), t28_121] L_10))
def ref08_named_j8 (Q : AV → SH → Prop) (vs_4 : List AV) (L_6 : SH) : Prop :=
 W.cond (slotOf [2, 3, 7, 8] vs_4 8) (
 W.bin Try.prog Fl .eql 3 (slotOf [2, 3, 7, 8] vs_4 2) (.int .i64 (-1)) fun t17_7 =>
 Q t17_7 L_6) (
 W.join (ref08_named_j7 Q) fun j_9 =>
 W.bin Try.prog Fl .eql 3 (slotOf [2, 3, 7, 8] vs_4 7) (.int .i64 3) fun t19_122 =>
 W.cond t19_122 (
 j_9 [(slotOf [2, 3, 7, 8] vs_4 2), (slotOf [2, 3, 7, 8] vs_4 3), (slotOf [2, 3, 7, 8] vs_4 7), t19_122] L_6) (
 W.bin Try.prog Fl .eql 3 (slotOf [2, 3, 7, 8] vs_4 7) (.int .i64 4) fun t20_123 =>
 j_9 [(slotOf [2, 3, 7, 8] vs_4 2), (slotOf [2, 3, 7, 8] vs_4 3), (slotOf [2, 3, 7, 8] vs_4 7), t20_123] L_6))
def ref08_named_w (t0 t1 t2 : AV) (L : SH) (Q : AV → SH → Prop) : Prop :=
 W.box t0 L fun t3_0 L_1 =>
 W.frz1 t3_0 L_1 fun t3_2 L_3 =>
 W.join (ref08_named_j8 Q) fun j_5 =>
 W.bin Try.prog Fl .eql 3 t1 (.int .i64 1) fun t9_124 =>
 W.cond t9_124 (
 j_5 [t2, t3_2, t1, t9_124] L_3) (
 W.bin Try.prog Fl .eql 3 t1 (.int .i64 2) fun t10_125 =>
 W.cond t10_125 (
 j_5 [t2, t3_2, t1, t10_125] L_3) (
 W.bin Try.prog Fl .eql 3 t1 (.int .i64 5) fun t11_126 =>
 W.cond t11_126 (
 j_5 [t2, t3_2, t1, t11_126] L_3) (
 W.bin Try.prog Fl .eql 3 t1 (.int .i64 12) fun t12_127 =>
 W.cond t12_127 (
 j_5 [t2, t3_2, t1, t12_127] L_3) (
 W.bin Try.prog Fl .eql 3 t1 (.int .i64 13) fun t13_128 =>
 W.cond t13_128 (
 j_5 [t2, t3_2, t1, t13_128] L_3) (
 W.bin Try.prog Fl .eql 3 t1 (.int .i64 14) fun t14_129 =>
 W.cond t14_129 (
 j_5 [t2, t3_2, t1, t14_129] L_3) (
 W.bin Try.prog Fl .eql 3 t1 (.int .i64 15) fun t15_130 =>
 j_5 [t2, t3_2, t1, t15_130] L_3))))))
theorem ref08_named_e (t0 t1 t2 : AV) (L : SH) (Q : AV → SH → Prop) : W.func Try.prog Fl ref08_named_t Try.f63 (Try.f63.body.getD .skip) [t0, t1, t2] L Q = ref08_named_w t0 t1 t2 L Q := by kernel_rfl
theorem ref08_named_ok (t0 t1 t2 : AV) (L : SH) (Q : AV → SH → Prop) (h : ref08_named_w t0 t1 t2 L Q) : CallA Try.prog 63 [t0, t1, t2] L Q :=
  func_sound (ht := ref08_named_t) fit Try.func63 (show Try.f63.body = some (Try.f63.body.getD .skip) by kernel_rfl) (Eq.mpr (ref08_named_e t0 t1 t2 L Q) h)

end Go.Proofs.Ytadjimfkfmojkaa.Am
