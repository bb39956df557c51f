/- ObjectNotifies: a notification wakes one thread that waits, the chosen one if it waits, and notifying all wakes every one; nobody else changes: the law returns true for every list of events, thread and number. -/
import Derived.Test.YtadjimfkfmojkaaQ2e
import Derived.Test.YtadjimfkfmojkaaChecked
set_option linter.unusedSimpArgs false
set_option linter.unusedVariables false
section
namespace Go.Proofs.Ytadjimfkfmojkaa.Am
set_option linter.unusedVariables false
set_option maxRecDepth 100000
def law08_ObjectNotifies_t : Hints := ⟨fun k => if k = 18 then some [2, 8, 10, 11, 13, 14, 16, 17, 18] else none, fun k => if k = 14 then [2, 8, 10, 11, 13, 14, 16, 17] else [], fun k => if k = 3 then [7] else if k = 4 then [8] else if k = 6 then [10] else if k = 7 then [13] else [], fun k => if k = 22 then [0, 1, 0, 7, 15, 31, 0, 64, 0, 448, 960, 1984, 4095, 0, 16383, 32767, 65535, 131071, 65535, 524287, 1048575, 2097151, 65535, 4259839, 65535, 29425663, 62980095, 130088959, 268435455, 65535, 1073741823, 2147483647] else []⟩
def law08_ObjectNotifies_zt0 (vs_62 : List AV) (nx_50 : W.Kn) (L_265 : SH)  : Prop :=
 W.bin Try.prog Fl .add 3 (slotOf [2, 8, 10, 11, 13, 14, 16, 17, 18] vs_62 17) (.int .i64 1) fun t62_268 =>
 nx_50 [(slotOf [2, 8, 10, 11, 13, 14, 16, 17, 18] vs_62 2), (slotOf [2, 8, 10, 11, 13, 14, 16, 17, 18] vs_62 8), (slotOf [2, 8, 10, 11, 13, 14, 16, 17, 18] vs_62 10), (slotOf [2, 8, 10, 11, 13, 14, 16, 17, 18] vs_62 11), (slotOf [2, 8, 10, 11, 13, 14, 16, 17, 18] vs_62 13), (slotOf [2, 8, 10, 11, 13, 14, 16, 17, 18] vs_62 14), (slotOf [2, 8, 10, 11, 13, 14, 16, 17, 18] vs_62 16), t62_268] L_265
def law08_ObjectNotifies_zt1 (vs_62 : List AV) (L_168 : SH) (t75_65 : AV) (Q : AV → SH → Prop) (nx_50 : W.Kn)  : Prop :=
 (true = true) ∧ (
 W.faddr 3 (slotOf [2, 8, 10, 11, 13, 14, 16, 17, 18] vs_62 10) fun t112_171 =>
 W.calm [] ⟨1, (blocksOf t112_171), [], [], false, []⟩ (
 W.load false 1 t112_171 L_168 fun t113_172 =>
 W.note ⟨(blocksOf t112_171), [], [], []⟩ fun r_173 =>
 W.calm [] ⟨3, (slOf t113_172), [], [], false, []⟩ (
 W.idx 3 t113_172 (slotOf [2, 8, 10, 11, 13, 14, 16, 17, 18] vs_62 17) L_168 fun t115_174 =>
 W.note ⟨(slOf t113_172), [], [], []⟩ fun r_175 =>
 W.faddr 0 t115_174 fun t116_176 =>
 W.calm [] ⟨5, (blocksOf t116_176), [], [], false, []⟩ (
 W.load false 1 t116_176 L_168 fun t117_177 =>
 W.note ⟨(blocksOf t116_176), [], [], []⟩ fun r_178 =>
 W.faddr 3 (slotOf [2, 8, 10, 11, 13, 14, 16, 17, 18] vs_62 8) fun t118_179 =>
 W.calm [⟨5, r_178.reads, r_178.writes, r_178.made, false, r_178.old⟩, ⟨3, r_175.reads, r_175.writes, r_175.made, false, r_175.old⟩, ⟨1, r_173.reads, r_173.writes, r_173.made, false, r_173.old⟩] ⟨7, (blocksOf t118_179), [], [], false, []⟩ (
 W.load false 1 t118_179 L_168 fun t119_180 =>
 W.note ⟨(blocksOf t118_179), [], [], []⟩ fun r_181 =>
 W.calm [⟨5, r_178.reads, r_178.writes, r_178.made, false, r_178.old⟩, ⟨3, r_175.reads, r_175.writes, r_175.made, false, r_175.old⟩, ⟨1, r_173.reads, r_173.writes, r_173.made, false, r_173.old⟩] ⟨9, (slOf t119_180), [], [], false, []⟩ (
 W.idx 3 t119_180 (slotOf [2, 8, 10, 11, 13, 14, 16, 17, 18] vs_62 17) L_168 fun t121_182 =>
 W.note ⟨(slOf t119_180), [], [], []⟩ fun r_183 =>
 W.faddr 0 t121_182 fun t122_184 =>
 W.calm [⟨5, r_178.reads, r_178.writes, r_178.made, false, r_178.old⟩, ⟨3, r_175.reads, r_175.writes, r_175.made, false, r_175.old⟩, ⟨1, r_173.reads, r_173.writes, r_173.made, false, r_173.old⟩] ⟨11, (blocksOf t122_184), [], [], false, []⟩ (
 W.load false 1 t122_184 L_168 fun t123_185 =>
 W.note ⟨(blocksOf t122_184), [], [], []⟩ fun r_186 =>
 W.bin Try.prog Fl .neq 3 t117_177 t123_185 fun t124_187 =>
 W.bin Try.prog Fl .neq 4 t124_187 t75_65 fun t126_188 =>
 W.dgrd t126_188 false (fun k_190 => W.faddr 3 (slotOf [2, 8, 10, 11, 13, 14, 16, 17, 18] vs_62 13) fun v_193 =>
 k_190 v_193 L_168 ⟨[], [], [], []⟩) L_168 fun t128_189 L_192 r_191 =>
 W.dgrd t126_188 false (fun k_195 => W.calm [] ⟨17, (blocksOf t128_189), [], [], false, []⟩ (
 W.load false 1 t128_189 L_192 fun v_198 =>
 W.note ⟨(blocksOf t128_189), [], [], []⟩ fun r_199 =>
 k_195 v_198 L_192 r_199)) L_192 fun t129_194 L_197 r_196 =>
 W.dgrd t126_188 false (fun k_201 => k_201 (slotOf [2, 8, 10, 11, 13, 14, 16, 17, 18] vs_62 17) L_197 ⟨[], [], [], []⟩) L_197 fun t130_200 L_203 r_202 =>
 W.dgrd t126_188 false (fun k_205 => W.calm [] ⟨19, (slOf t129_194), [], [], false, []⟩ (
 W.idx 3 t129_194 t130_200 L_203 fun v_208 =>
 W.note ⟨(slOf t129_194), [], [], []⟩ fun r_209 =>
 k_205 v_208 L_203 r_209)) L_203 fun t131_204 L_207 r_206 =>
 W.dgrd t126_188 false (fun k_211 => W.faddr 0 t131_204 fun v_214 =>
 k_211 v_214 L_207 ⟨[], [], [], []⟩) L_207 fun t132_210 L_213 r_212 =>
 W.dgrd t126_188 false (fun k_216 => W.calm [] ⟨21, (blocksOf t132_210), [], [], false, []⟩ (
 W.load false 1 t132_210 L_213 fun v_219 =>
 W.note ⟨(blocksOf t132_210), [], [], []⟩ fun r_220 =>
 k_216 v_219 L_213 r_220)) L_213 fun t133_215 L_218 r_217 =>
 W.dgrd t126_188 false (fun k_222 => W.faddr 3 (slotOf [2, 8, 10, 11, 13, 14, 16, 17, 18] vs_62 8) fun v_225 =>
 k_222 v_225 L_218 ⟨[], [], [], []⟩) L_218 fun t134_221 L_224 r_223 =>
 W.dgrd t126_188 false (fun k_227 => W.calm [⟨21, r_217.reads, r_217.writes, r_217.made, false, r_217.old⟩, ⟨19, r_206.reads, r_206.writes, r_206.made, false, r_206.old⟩, ⟨17, r_196.reads, r_196.writes, r_196.made, false, r_196.old⟩] ⟨23, (blocksOf t134_221), [], [], false, []⟩ (
 W.load false 1 t134_221 L_224 fun v_230 =>
 W.note ⟨(blocksOf t134_221), [], [], []⟩ fun r_231 =>
 k_227 v_230 L_224 r_231)) L_224 fun t135_226 L_229 r_228 =>
 W.dgrd t126_188 false (fun k_233 => k_233 (slotOf [2, 8, 10, 11, 13, 14, 16, 17, 18] vs_62 17) L_229 ⟨[], [], [], []⟩) L_229 fun t136_232 L_235 r_234 =>
 W.dgrd t126_188 false (fun k_237 => W.calm [⟨21, r_217.reads, r_217.writes, r_217.made, false, r_217.old⟩, ⟨19, r_206.reads, r_206.writes, r_206.made, false, r_206.old⟩, ⟨17, r_196.reads, r_196.writes, r_196.made, false, r_196.old⟩] ⟨25, (slOf t135_226), [], [], false, []⟩ (
 W.idx 3 t135_226 t136_232 L_235 fun v_240 =>
 W.note ⟨(slOf t135_226), [], [], []⟩ fun r_241 =>
 k_237 v_240 L_235 r_241)) L_235 fun t137_236 L_239 r_238 =>
 W.dgrd t126_188 false (fun k_243 => W.faddr 0 t137_236 fun v_246 =>
 k_243 v_246 L_239 ⟨[], [], [], []⟩) L_239 fun t138_242 L_245 r_244 =>
 W.dgrd t126_188 false (fun k_248 => W.calm [⟨21, r_217.reads, r_217.writes, r_217.made, false, r_217.old⟩, ⟨19, r_206.reads, r_206.writes, r_206.made, false, r_206.old⟩, ⟨17, r_196.reads, r_196.writes, r_196.made, false, r_196.old⟩] ⟨27, (blocksOf t138_242), [], [], false, []⟩ (
 W.load false 1 t138_242 L_245 fun v_251 =>
 W.note ⟨(blocksOf t138_242), [], [], []⟩ fun r_252 =>
 k_248 v_251 L_245 r_252)) L_245 fun t139_247 L_250 r_249 =>
 W.dgrd t126_188 false (fun k_254 => W.bin Try.prog Fl .neq 3 t133_215 t139_247 fun v_257 =>
 k_254 v_257 L_250 ⟨[], [], [], []⟩) L_250 fun t140_253 L_256 r_255 =>
 W.dgrd t126_188 false (fun k_259 => k_259 (slotOf [2, 8, 10, 11, 13, 14, 16, 17, 18] vs_62 18) L_256 ⟨[], [], [], []⟩) L_256 fun t141_258 L_261 r_260 =>
 W.dgrd t126_188 false (fun k_263 => W.bin Try.prog Fl .neq 4 t140_253 t141_258 fun v_266 =>
 k_263 v_266 L_261 ⟨[], [], [], []⟩) L_261 fun t142_262 L_265 r_264 =>
 W.pick t126_188 (.bool true) t142_262 fun t143_267 =>
 W.cond t143_267 (
 Q (.bool false) L_265) (
 (law08_ObjectNotifies_zt0 vs_62 nx_50 L_265)))))))))
def law08_ObjectNotifies_j0 (Q : AV → SH → Prop) (nx_50 : W.Kn) (vs_62 : List AV) (L_64 : SH) : Prop :=
 W.bin Try.prog Fl .eql 2 (slotOf [2, 8, 10, 11, 13, 14, 16, 17, 18] vs_62 11) (slotOf [2, 8, 10, 11, 13, 14, 16, 17, 18] vs_62 17) fun t75_65 =>
 W.grd t75_65 true (fun k_67 => k_67 (slotOf [2, 8, 10, 11, 13, 14, 16, 17, 18] vs_62 18) L_64) L_64 fun t78_66 L_68 =>
 W.grd t75_65 true (fun k_70 => W.un .not t78_66 fun v_72 =>
 k_70 v_72 L_68) L_68 fun t79_69 L_71 =>
 W.pick t75_65 t79_69 (.bool false) fun t80_73 =>
 W.grd t80_73 false (fun k_75 => k_75 (slotOf [2, 8, 10, 11, 13, 14, 16, 17, 18] vs_62 2) L_71) L_71 fun t82_74 L_76 =>
 W.grd t80_73 false (fun k_78 => W.conv .i64 t82_74 fun v_80 =>
 k_78 v_80 L_76) L_76 fun t83_77 L_79 =>
 W.grd t80_73 false (fun k_82 => k_82 (slotOf [2, 8, 10, 11, 13, 14, 16, 17, 18] vs_62 17) L_79) L_79 fun t84_81 L_83 =>
 W.grd t80_73 false (fun k_85 => W.bin Try.prog Fl .eql 3 t83_77 t84_81 fun v_87 =>
 k_85 v_87 L_83) L_83 fun t85_84 L_86 =>
 W.grd t80_73 false (fun k_89 => k_89 t85_84 L_86) L_86 fun t86_88 L_90 =>
 W.grd t86_88 true (fun k_92 => k_92 (slotOf [2, 8, 10, 11, 13, 14, 16, 17, 18] vs_62 18) L_90) L_90 fun t87_91 L_93 =>
 W.grd t80_73 false (fun k_95 => W.pick t86_88 t87_91 (.bool false) fun v_97 =>
 k_95 v_97 L_93) L_93 fun t88_94 L_96 =>
 W.grd t80_73 false (fun k_99 => k_99 t88_94 L_96) L_96 fun t89_98 L_100 =>
 W.grd t89_98 true (fun k_102 => k_102 t75_65 L_100) L_100 fun t90_101 L_103 =>
 W.grd t89_98 true (fun k_105 => W.un .not t90_101 fun v_107 =>
 k_105 v_107 L_103) L_103 fun t91_104 L_106 =>
 W.grd t80_73 false (fun k_109 => W.pick t89_98 t91_104 (.bool false) fun v_111 =>
 k_109 v_111 L_106) L_106 fun t92_108 L_110 =>
 W.pick t80_73 (.bool true) t92_108 fun t93_112 =>
 W.grd t93_112 false (fun k_114 => W.faddr 3 (slotOf [2, 8, 10, 11, 13, 14, 16, 17, 18] vs_62 10) fun v_116 =>
 k_114 v_116 L_110) L_110 fun t95_113 L_115 =>
 W.grd t93_112 false (fun k_118 => W.load false 1 t95_113 L_115 fun v_120 =>
 k_118 v_120 L_115) L_115 fun t96_117 L_119 =>
 W.grd t93_112 false (fun k_122 => W.len t96_117 fun v_124 =>
 k_122 v_124 L_119) L_119 fun t97_121 L_123 =>
 W.grd t93_112 false (fun k_126 => W.faddr 3 (slotOf [2, 8, 10, 11, 13, 14, 16, 17, 18] vs_62 8) fun v_128 =>
 k_126 v_128 L_123) L_123 fun t98_125 L_127 =>
 W.grd t93_112 false (fun k_130 => W.load false 1 t98_125 L_127 fun v_132 =>
 k_130 v_132 L_127) L_127 fun t99_129 L_131 =>
 W.grd t93_112 false (fun k_134 => W.len t99_129 fun v_136 =>
 k_134 v_136 L_131) L_131 fun t100_133 L_135 =>
 W.grd t93_112 false (fun k_138 => W.bin Try.prog Fl .neq 3 t97_121 t100_133 fun v_140 =>
 k_138 v_140 L_135) L_135 fun t101_137 L_139 =>
 W.pick t93_112 (.bool true) t101_137 fun t102_141 =>
 W.grd t102_141 false (fun k_143 => W.faddr 3 (slotOf [2, 8, 10, 11, 13, 14, 16, 17, 18] vs_62 13) fun v_145 =>
 k_143 v_145 L_139) L_139 fun t104_142 L_144 =>
 W.grd t102_141 false (fun k_147 => W.load false 1 t104_142 L_144 fun v_149 =>
 k_147 v_149 L_144) L_144 fun t105_146 L_148 =>
 W.grd t102_141 false (fun k_151 => W.len t105_146 fun v_153 =>
 k_151 v_153 L_148) L_148 fun t106_150 L_152 =>
 W.grd t102_141 false (fun k_155 => W.faddr 3 (slotOf [2, 8, 10, 11, 13, 14, 16, 17, 18] vs_62 8) fun v_157 =>
 k_155 v_157 L_152) L_152 fun t107_154 L_156 =>
 W.grd t102_141 false (fun k_159 => W.load false 1 t107_154 L_156 fun v_161 =>
 k_159 v_161 L_156) L_156 fun t108_158 L_160 =>
 W.grd t102_141 false (fun k_163 => W.len t108_158 fun v_165 =>
 k_163 v_165 L_160) L_160 fun t109_162 L_164 =>
 W.grd t102_141 false (fun k_167 => W.bin Try.prog Fl .neq 3 t106_150 t109_162 fun v_169 =>
 k_167 v_169 L_164) L_164 fun t110_166 L_168 =>
 W.pick t102_141 (.bool true) t110_166 fun t111_170 =>
 W.cond t111_170 (
 Q (.bool false) L_168) (
 (law08_ObjectNotifies_zt1 vs_62 L_168 t75_65 Q nx_50))
def law08_ObjectNotifies_zt2 (vs_49 : List AV) (j_63 : W.Kn) (t69_61 : AV) (L_51 : SH)  : Prop :=
 W.bin Try.prog Fl .add 2 (slotOf [2, 8, 10, 11, 13, 14, 16, 17] vs_49 16) (.int .i64 1) fun t72_269 =>
 j_63 [(slotOf [2, 8, 10, 11, 13, 14, 16, 17] vs_49 2), (slotOf [2, 8, 10, 11, 13, 14, 16, 17] vs_49 8), (slotOf [2, 8, 10, 11, 13, 14, 16, 17] vs_49 10), (slotOf [2, 8, 10, 11, 13, 14, 16, 17] vs_49 11), (slotOf [2, 8, 10, 11, 13, 14, 16, 17] vs_49 13), (slotOf [2, 8, 10, 11, 13, 14, 16, 17] vs_49 14), t72_269, (slotOf [2, 8, 10, 11, 13, 14, 16, 17] vs_49 17), t69_61] L_51
def law08_ObjectNotifies_zt3 (j_63 : W.Kn) (vs_49 : List AV) (t69_61 : AV) (L_51 : SH)  : Prop :=
 j_63 [(slotOf [2, 8, 10, 11, 13, 14, 16, 17] vs_49 2), (slotOf [2, 8, 10, 11, 13, 14, 16, 17] vs_49 8), (slotOf [2, 8, 10, 11, 13, 14, 16, 17] vs_49 10), (slotOf [2, 8, 10, 11, 13, 14, 16, 17] vs_49 11), (slotOf [2, 8, 10, 11, 13, 14, 16, 17] vs_49 13), (slotOf [2, 8, 10, 11, 13, 14, 16, 17] vs_49 14), (slotOf [2, 8, 10, 11, 13, 14, 16, 17] vs_49 16), (slotOf [2, 8, 10, 11, 13, 14, 16, 17] vs_49 17), t69_61] L_51
def law08_ObjectNotifies_zt4 (vs_49 : List AV) (L_51 : SH) (Q : AV → SH → Prop) (nx_50 : W.Kn)  : Prop :=
 W.faddr 3 (slotOf [2, 8, 10, 11, 13, 14, 16, 17] vs_49 8) fun t63_56 =>
 W.load false 1 t63_56 L_51 fun t64_57 =>
 W.idx 3 t64_57 (slotOf [2, 8, 10, 11, 13, 14, 16, 17] vs_49 17) L_51 fun t66_58 =>
 W.faddr 0 t66_58 fun t67_59 =>
 W.load false 1 t67_59 L_51 fun t68_60 =>
 W.bin Try.prog Fl .eql 3 t68_60 (.int .i64 3) fun t69_61 =>
 W.join (law08_ObjectNotifies_j0 Q nx_50) fun j_63 =>
 W.cond t69_61 (
 (law08_ObjectNotifies_zt2 vs_49 j_63 t69_61 L_51)) (
 (law08_ObjectNotifies_zt3 j_63 vs_49 t69_61 L_51))
def law08_ObjectNotifies_zt5 (vs_49 : List AV) (L_51 : SH) (Q : AV → SH → Prop)  : Prop :=
 W.bin Try.prog Fl .eql 2 (slotOf [2, 8, 10, 11, 13, 14, 16, 17] vs_49 14) (slotOf [2, 8, 10, 11, 13, 14, 16, 17] vs_49 16) fun t146_270 =>
 W.grd t146_270 true (fun k_272 => k_272 (slotOf [2, 8, 10, 11, 13, 14, 16, 17] vs_49 11) L_51) L_51 fun t148_271 L_273 =>
 W.grd t146_270 true (fun k_275 => W.bin Try.prog Fl .eql 2 t148_271 (.int .i64 (-1)) fun v_277 =>
 k_275 v_277 L_273) L_273 fun t149_274 L_276 =>
 W.grd t146_270 true (fun k_279 => k_279 (slotOf [2, 8, 10, 11, 13, 14, 16, 17] vs_49 16) L_276) L_276 fun t150_278 L_280 =>
 W.grd t146_270 true (fun k_282 => W.bin Try.prog Fl .eql 2 t150_278 (.int .i64 0) fun v_284 =>
 k_282 v_284 L_280) L_280 fun t151_281 L_283 =>
 W.grd t146_270 true (fun k_286 => W.bin Try.prog Fl .eql 4 t149_274 t151_281 fun v_288 =>
 k_286 v_288 L_283) L_283 fun t152_285 L_287 =>
 W.pick t146_270 t152_285 (.bool false) fun t153_289 =>
 W.grd t153_289 true (fun k_291 => W.call Try.prog (.fn 23 []) [] L_287 fun v_293 L_294 =>
 k_291 v_293 L_294) L_287 fun t155_290 L_292 =>
 W.pick t153_289 t155_290 (.bool false) fun t156_295 =>
 Q t156_295 L_292
def law08_ObjectNotifies_l1 (Q : AV → SH → Prop) (vs_49 : List AV) (L_51 : SH) (nx_50 : W.Kn) : Prop :=
 W.faddr 3 (slotOf [2, 8, 10, 11, 13, 14, 16, 17] vs_49 8) fun t57_52 =>
 W.load false 1 t57_52 L_51 fun t58_53 =>
 W.len t58_53 fun t59_54 =>
 W.bin Try.prog Fl .lss 3 (slotOf [2, 8, 10, 11, 13, 14, 16, 17] vs_49 17) t59_54 fun t60_55 =>
 W.cond t60_55 (
 (law08_ObjectNotifies_zt4 vs_49 L_51 Q nx_50)) (
 (law08_ObjectNotifies_zt5 vs_49 L_51 Q))
def law08_ObjectNotifies_zt6 (t39_26 : AV) (L_44 : SH) (Q : AV → SH → Prop) (t2 : AV) (t8_15 : AV) (t10_30 : AV) (t38_25 : AV) (t13_43 : AV) (t48_38 : AV)  : Prop :=
 W.un .not t39_26 fun t54_46 =>
 W.cond t54_46 (
 W.call Try.prog (.fn 23 []) [] L_44 fun t55_47 L_48 =>
 Q t55_47 L_48) (
 W.loop (law08_ObjectNotifies_l1 Q) [t2, t8_15, t10_30, t38_25, t13_43, t48_38, (.int .i64 0), (.int .i64 0)] L_44)
def law08_ObjectNotifies_c2 (t39_26 : AV) (Q : AV → SH → Prop) (t2 : AV) (t8_15 : AV) (t10_30 : AV) (t38_25 : AV) (t46_35 : AV) (L_36 : SH) : Prop :=
 W.ext 0 t46_35 fun t47_37 =>
 W.ext 1 t46_35 fun t48_38 =>
 W.ext 2 t46_35 fun t49_39 =>
 W.alloc [.nils, (.int .i64 0), .nils, .nils] L_36 fun t13_40 L_41 =>
 W.store 4 t13_40 t47_37 L_41 fun L_42 =>
 W.frz1 t13_40 L_42 fun t13_43 L_44 =>
 W.bin Try.prog Fl .neq 4 t39_26 t49_39 fun t52_45 =>
 W.cond t52_45 (
 Q (.bool false) L_44) (
 (law08_ObjectNotifies_zt6 t39_26 L_44 Q t2 t8_15 t10_30 t38_25 t13_43 t48_38))
def law08_ObjectNotifies_c3 (t7_7 : AV) (t8_15 : AV) (t2 : AV) (t29_18 : AV) (Q : AV → SH → Prop) (t36_22 : AV) (L_23 : SH) : Prop :=
 W.ext 0 t36_22 fun t37_24 =>
 W.ext 1 t36_22 fun t38_25 =>
 W.ext 2 t36_22 fun t39_26 =>
 W.alloc [.nils, (.int .i64 0), .nils, .nils] L_23 fun t10_27 L_28 =>
 W.store 4 t10_27 t37_24 L_28 fun L_29 =>
 W.frz1 t10_27 L_29 fun t10_30 L_31 =>
 W.load true 6 t7_7 L_31 fun t41_32 =>
 W.load true 4 t8_15 L_31 fun t42_33 =>
 W.conv .i64 t2 fun t45_34 =>
 W.call Try.prog (.fn 26 []) [t41_32, t42_33, t29_18, (.int .i64 19), (.int .i64 0), t45_34] L_31 (law08_ObjectNotifies_c2 t39_26 Q t2 t8_15 t10_30 t38_25)
def law08_ObjectNotifies_c4 (t1 : AV) (t7_7 : AV) (t2 : AV) (Q : AV → SH → Prop) (t26_10 : AV) (L_11 : SH) : Prop :=
 W.alloc [.nils, (.int .i64 0), .nils, .nils] L_11 fun t8_12 L_13 =>
 W.store 4 t8_12 t26_10 L_13 fun L_14 =>
 W.frz1 t8_12 L_14 fun t8_15 L_16 =>
 W.conv .i64 t1 fun t28_17 =>
 W.bin Try.prog Fl .rem 3 t28_17 (.int .i64 3) fun t29_18 =>
 W.load true 6 t7_7 L_16 fun t31_19 =>
 W.load true 4 t8_15 L_16 fun t32_20 =>
 W.conv .i64 t2 fun t35_21 =>
 W.call Try.prog (.fn 26 []) [t31_19, t32_20, t29_18, (.int .i64 18), (.int .i64 0), t35_21] L_16 (law08_ObjectNotifies_c3 t7_7 t8_15 t2 t29_18 Q)
def law08_ObjectNotifies_c5 (t0 : AV) (t1 : AV) (t2 : AV) (Q : AV → SH → Prop) (t23_2 : AV) (L_3 : SH) : Prop :=
 W.alloc [.nils, .nils, .nils, .nils, .nils, .nils] L_3 fun t7_4 L_5 =>
 W.store 6 t7_4 t23_2 L_5 fun L_6 =>
 W.frz1 t7_4 L_6 fun t7_7 L_8 =>
 W.load true 6 t7_7 L_8 fun t24_9 =>
 W.call Try.prog (.fn 25 []) [t24_9, t0] L_8 (law08_ObjectNotifies_c4 t1 t7_7 t2 Q)
def law08_ObjectNotifies_w (t0 t1 t2 : AV) (L : SH) (Q : AV → SH → Prop) : Prop :=
 W.len t0 fun t21_0 =>
 W.bin Try.prog Fl .gtr 3 t21_0 (.int .i64 100) fun t22_1 =>
 W.cond t22_1 (
 Q (.bool true) L) (
 W.call Try.prog (.fn 24 []) [] L (law08_ObjectNotifies_c5 t0 t1 t2 Q))
theorem law08_ObjectNotifies_e (t0 t1 t2 : AV) (L : SH) (Q : AV → SH → Prop) : W.func Try.prog Fl law08_ObjectNotifies_t Try.f8 (Try.f8.body.getD .skip) [t0, t1, t2] L Q = law08_ObjectNotifies_w t0 t1 t2 L Q := by kernel_rfl
theorem law08_ObjectNotifies_ok (t0 t1 t2 : AV) (L : SH) (Q : AV → SH → Prop) (h : law08_ObjectNotifies_w t0 t1 t2 L Q) : CallA Try.prog 8 [t0, t1, t2] L Q :=
  func_sound (ht := law08_ObjectNotifies_t) fit Try.func8 (show Try.f8.body = some (Try.f8.body.getD .skip) by kernel_rfl) (Eq.mpr (law08_ObjectNotifies_e t0 t1 t2 L Q) h)

def law08_world_t : Hints := ⟨fun k => none, fun k => [], fun k => [], fun k => []⟩
def law08_world_w (L : SH) (Q : AV → SH → Prop) : Prop :=
 W.alloc [.nils, .nils, .nils, .nils, .nils, .nils] L fun t0_0 L_1 =>
 W.build [(.str []), (.int .i64 0), (.int .i64 0), (.bool false), (.int .i64 0)] [(0, 1, (.str [120]))] fun t1_2 =>
 W.bslice 5 [(.str []), (.int .i64 0), (.int .i64 0), (.bool false), (.int .i64 0)] 1 [(0, t1_2)] L_1 fun t2_3 L_4 =>
 W.build [(.str []), (.bool false)] [(0, 1, (.str [109]))] fun t3_5 =>
 W.build [(.str []), (.bool false)] [(0, 1, (.str [110]))] fun t4_6 =>
 W.build [(.str []), (.bool false)] [(0, 1, (.str [114])), (1, 1, (.bool true))] fun t5_7 =>
 W.bslice 2 [(.str []), (.bool false)] 3 [(0, t3_5), (1, t4_6), (2, t5_7)] L_4 fun t6_8 L_9 =>
 W.build [(.str []), (.int .i64 0)] [(0, 1, (.str [99]))] fun t7_10 =>
 W.bslice 2 [(.str []), (.int .i64 0)] 1 [(0, t7_10)] L_9 fun t8_11 L_12 =>
 W.bslice 1 [(.str [])] 1 [(0, (.str [102]))] L_12 fun t9_13 L_14 =>
 W.bslice 1 [(.str [])] 3 [(0, (.str [116])), (1, (.str [117])), (2, (.str [119]))] L_14 fun t10_15 L_16 =>
 W.build [.nils, .nils, .nils, .nils, .nils, .nils] [(0, 1, t2_3), (1, 1, t6_8), (2, 1, t8_11), (3, 1, t9_13), (4, 1, t10_15)] fun t11_17 =>
 W.store 6 t0_0 t11_17 L_16 fun L_18 =>
 W.load true 6 t0_0 L_18 fun r_19 =>
 Q r_19 L_18
theorem law08_world_e (L : SH) (Q : AV → SH → Prop) : W.func Try.prog Fl law08_world_t Try.f24 (Try.f24.body.getD .skip) [] L Q = law08_world_w  L Q := by kernel_rfl
theorem law08_world_ok (L : SH) (Q : AV → SH → Prop) (h : law08_world_w  L Q) : CallA Try.prog 24 [] L Q :=
  func_sound (ht := law08_world_t) fit Try.func24 (show Try.f24.body = some (Try.f24.body.getD .skip) by kernel_rfl) (Eq.mpr (law08_world_e  L Q) h)

def law08_reach_t : Hints := ⟨fun k => none, fun k => if k = 3 then [1, 2, 4, 5, 6] else [], fun k => if k = 0 then [2] else if k = 6 then [11] else [], fun k => []⟩
def law08_reach_zt0 (t11_35 : AV) (L_36 : SH) (vs_12 : List AV) (nx_13 : W.Kn)  : Prop :=
 W.load true 4 t11_35 L_36 fun t44_37 =>
 W.store 4 (slotOf [1, 2, 4, 5, 6] vs_12 5) t44_37 L_36 fun L_38 =>
 W.bin Try.prog Fl .add 3 (slotOf [1, 2, 4, 5, 6] vs_12 6) (.int .i64 1) fun t21_39 =>
 nx_13 [(slotOf [1, 2, 4, 5, 6] vs_12 1), (slotOf [1, 2, 4, 5, 6] vs_12 2), (slotOf [1, 2, 4, 5, 6] vs_12 4), (slotOf [1, 2, 4, 5, 6] vs_12 5), t21_39] L_38
def law08_reach_zt1 (vs_12 : List AV) (nx_13 : W.Kn) (L_36 : SH)  : Prop :=
 W.bin Try.prog Fl .add 3 (slotOf [1, 2, 4, 5, 6] vs_12 6) (.int .i64 1) fun t21_40 =>
 nx_13 [(slotOf [1, 2, 4, 5, 6] vs_12 1), (slotOf [1, 2, 4, 5, 6] vs_12 2), (slotOf [1, 2, 4, 5, 6] vs_12 4), (slotOf [1, 2, 4, 5, 6] vs_12 5), t21_40] L_36
def law08_reach_c0 (vs_12 : List AV) (nx_13 : W.Kn) (t39_27 : AV) (L_28 : SH) : Prop :=
 W.ext 0 t39_27 fun t40_29 =>
 W.ext 1 t39_27 fun t41_30 =>
 W.ext 2 t39_27 fun t42_31 =>
 W.alloc [.nils, (.int .i64 0), .nils, .nils] L_28 fun t11_32 L_33 =>
 W.store 4 t11_32 t40_29 L_33 fun L_34 =>
 W.frz1 t11_32 L_34 fun t11_35 L_36 =>
 W.cond t42_31 (
 (law08_reach_zt0 t11_35 L_36 vs_12 nx_13)) (
 (law08_reach_zt1 vs_12 nx_13 L_36))
def law08_reach_c1 (vs_12 : List AV) (nx_13 : W.Kn) (t27_19 : AV) (L_20 : SH) : Prop :=
 W.ext 0 t27_19 fun t28_21 =>
 W.ext 1 t27_19 fun t29_22 =>
 W.ext 2 t27_19 fun t30_23 =>
 W.ext 3 t27_19 fun t31_24 =>
 W.load true 6 (slotOf [1, 2, 4, 5, 6] vs_12 2) L_20 fun t33_25 =>
 W.load true 4 (slotOf [1, 2, 4, 5, 6] vs_12 5) L_20 fun t34_26 =>
 W.call Try.prog (.fn 26 []) [t33_25, t34_26, t28_21, t29_22, t30_23, t31_24] L_20 (law08_reach_c0 vs_12 nx_13)
def law08_reach_zt2 (vs_12 : List AV) (L_14 : SH) (nx_13 : W.Kn)  : Prop :=
 W.idx 4 (slotOf [1, 2, 4, 5, 6] vs_12 1) (slotOf [1, 2, 4, 5, 6] vs_12 6) L_14 fun t25_17 =>
 W.load true 4 t25_17 L_14 fun t26_18 =>
 W.call Try.prog (.fn 28 []) [t26_18] L_14 (law08_reach_c1 vs_12 nx_13)
def law08_reach_zt3 (vs_12 : List AV) (L_14 : SH) (Q : AV → SH → Prop)  : Prop :=
 W.load true 4 (slotOf [1, 2, 4, 5, 6] vs_12 5) L_14 fun t45_41 =>
 W.store 4 (slotOf [1, 2, 4, 5, 6] vs_12 4) t45_41 L_14 fun L_42 =>
 W.load true 4 (slotOf [1, 2, 4, 5, 6] vs_12 4) L_42 fun r_43 =>
 Q r_43 L_42
def law08_reach_l2 (Q : AV → SH → Prop) (vs_12 : List AV) (L_14 : SH) (nx_13 : W.Kn) : Prop :=
 W.len (slotOf [1, 2, 4, 5, 6] vs_12 1) fun t18_15 =>
 W.bin Try.prog Fl .lss 3 (slotOf [1, 2, 4, 5, 6] vs_12 6) t18_15 fun t19_16 =>
 W.cond t19_16 (
 (law08_reach_zt2 vs_12 L_14 nx_13)) (
 (law08_reach_zt3 vs_12 L_14 Q))
def law08_reach_c3 (Q : AV → SH → Prop) (t1 : AV) (t2_4 : AV) (t4_2 : AV) (t15_7 : AV) (L_8 : SH) : Prop :=
 W.alloc [.nils, (.int .i64 0), .nils, .nils] L_8 fun t5_9 L_10 =>
 W.store 4 t5_9 t15_7 L_10 fun L_11 =>
 W.loop (law08_reach_l2 Q) [t1, t2_4, t4_2, t5_9, (.int .i64 0)] L_11
def law08_reach_w (t0 t1 : AV) (L : SH) (Q : AV → SH → Prop) : Prop :=
 W.box t0 L fun t2_0 L_1 =>
 W.alloc [.nils, (.int .i64 0), .nils, .nils] L_1 fun t4_2 L_3 =>
 W.frz1 t2_0 L_3 fun t2_4 L_5 =>
 W.load true 6 t2_4 L_5 fun t14_6 =>
 W.call Try.prog (.fn 21 []) [t14_6] L_5 (law08_reach_c3 Q t1 t2_4 t4_2)
theorem law08_reach_e (t0 t1 : AV) (L : SH) (Q : AV → SH → Prop) : W.func Try.prog Fl law08_reach_t Try.f25 (Try.f25.body.getD .skip) [t0, t1] L Q = law08_reach_w t0 t1 L Q := by kernel_rfl
theorem law08_reach_ok (t0 t1 : AV) (L : SH) (Q : AV → SH → Prop) (h : law08_reach_w t0 t1 L Q) : CallA Try.prog 25 [t0, t1] L Q :=
  func_sound (ht := law08_reach_t) fit Try.func25 (show Try.f25.body = some (Try.f25.body.getD .skip) by kernel_rfl) (Eq.mpr (law08_reach_e t0 t1 L Q) h)

def law08_Event_try_t : Hints := ⟨fun k => if k = 20 then some [1, 6, 7] else if k = 10 then some [1, 6, 7, 19, 20] else none, fun k => [], fun k => if k = 0 then [1] else [], fun k => if k = 21 then [0, 1, 3, 7, 15, 0, 0, 0, 128, 384, 896, 1920, 3968, 31, 8255, 24703, 65535] else []⟩
def law08_Event_try_j0 (Q : AV → SH → Prop) (vs_15 : List AV) (L_17 : SH) : Prop :=
 (true = true) ∧ (
 W.faddr 0 (slotOf [1, 6, 7] vs_15 1) fun t37_18 =>
 W.calm [] ⟨1, (blocksOf t37_18), [], [], false, []⟩ (
 W.load false 1 t37_18 L_17 fun t38_19 =>
 W.note ⟨(blocksOf t37_18), [], [], []⟩ fun r_20 =>
 W.conv .u8 t38_19 fun t39_21 =>
 W.conv .i64 t39_21 fun t40_22 =>
 W.bin Try.prog Fl .rem 3 t40_22 (.int .i64 3) fun t41_23 =>
 W.faddr 3 (slotOf [1, 6, 7] vs_15 1) fun t44_24 =>
 W.calm [⟨1, r_20.reads, r_20.writes, r_20.made, false, r_20.old⟩] ⟨8, (blocksOf t44_24), [], [], false, []⟩ (
 W.load false 1 t44_24 L_17 fun t45_25 =>
 W.note ⟨(blocksOf t44_24), [], [], []⟩ fun r_26 =>
 W.conv .u8 t45_25 fun t46_27 =>
 W.conv .i64 t46_27 fun t47_28 =>
 W.bin Try.prog Fl .rem 3 t47_28 (.int .i64 4) fun t48_29 =>
 W.bin Try.prog Fl .sub 3 t48_29 (.int .i64 1) fun t49_30 =>
 Q (.tup [t41_23, (slotOf [1, 6, 7] vs_15 6), (slotOf [1, 6, 7] vs_15 7), t49_30]) L_17)))
def law08_Event_try_zt0 (t29_34 : AV) (j_16 : W.Kn) (vs_31 : List AV) (L_33 : SH)  : Prop :=
 W.cond t29_34 (
 j_16 [(slotOf [1, 6, 7, 19, 20] vs_31 1), (slotOf [1, 6, 7, 19, 20] vs_31 6), (.int .i64 0)] L_33) (
 j_16 [(slotOf [1, 6, 7, 19, 20] vs_31 1), (slotOf [1, 6, 7, 19, 20] vs_31 6), (slotOf [1, 6, 7, 19, 20] vs_31 7)] L_33)
def law08_Event_try_zt1 (t30_35 : AV) (j_16 : W.Kn) (vs_31 : List AV) (L_33 : SH)  : Prop :=
 W.cond t30_35 (
 j_16 [(slotOf [1, 6, 7, 19, 20] vs_31 1), (slotOf [1, 6, 7, 19, 20] vs_31 6), (.int .i64 0)] L_33) (
 j_16 [(slotOf [1, 6, 7, 19, 20] vs_31 1), (slotOf [1, 6, 7, 19, 20] vs_31 6), (slotOf [1, 6, 7, 19, 20] vs_31 7)] L_33)
def law08_Event_try_zt2 (t31_36 : AV) (j_16 : W.Kn) (vs_31 : List AV) (L_33 : SH)  : Prop :=
 W.cond t31_36 (
 j_16 [(slotOf [1, 6, 7, 19, 20] vs_31 1), (slotOf [1, 6, 7, 19, 20] vs_31 6), (.int .i64 0)] L_33) (
 j_16 [(slotOf [1, 6, 7, 19, 20] vs_31 1), (slotOf [1, 6, 7, 19, 20] vs_31 6), (slotOf [1, 6, 7, 19, 20] vs_31 7)] L_33)
def law08_Event_try_zt3 (t32_37 : AV) (j_16 : W.Kn) (vs_31 : List AV) (L_33 : SH)  : Prop :=
 W.cond t32_37 (
 j_16 [(slotOf [1, 6, 7, 19, 20] vs_31 1), (slotOf [1, 6, 7, 19, 20] vs_31 6), (.int .i64 0)] L_33) (
 j_16 [(slotOf [1, 6, 7, 19, 20] vs_31 1), (slotOf [1, 6, 7, 19, 20] vs_31 6), (slotOf [1, 6, 7, 19, 20] vs_31 7)] L_33)
def law08_Event_try_zt4 (t33_38 : AV) (j_16 : W.Kn) (vs_31 : List AV) (L_33 : SH)  : Prop :=
 W.cond t33_38 (
 j_16 [(slotOf [1, 6, 7, 19, 20] vs_31 1), (slotOf [1, 6, 7, 19, 20] vs_31 6), (.int .i64 0)] L_33) (
 j_16 [(slotOf [1, 6, 7, 19, 20] vs_31 1), (slotOf [1, 6, 7, 19, 20] vs_31 6), (slotOf [1, 6, 7, 19, 20] vs_31 7)] L_33)
def law08_Event_try_zt5 (t34_39 : AV) (j_16 : W.Kn) (vs_31 : List AV) (L_33 : SH)  : Prop :=
 W.cond t34_39 (
 j_16 [(slotOf [1, 6, 7, 19, 20] vs_31 1), (slotOf [1, 6, 7, 19, 20] vs_31 6), (.int .i64 0)] L_33) (
 j_16 [(slotOf [1, 6, 7, 19, 20] vs_31 1), (slotOf [1, 6, 7, 19, 20] vs_31 6), (slotOf [1, 6, 7, 19, 20] vs_31 7)] L_33)
def law08_Event_try_zt6 (t35_40 : AV) (j_16 : W.Kn) (vs_31 : List AV) (L_33 : SH)  : Prop :=
 W.cond t35_40 (
 j_16 [(slotOf [1, 6, 7, 19, 20] vs_31 1), (slotOf [1, 6, 7, 19, 20] vs_31 6), (.int .i64 0)] L_33) (
 j_16 [(slotOf [1, 6, 7, 19, 20] vs_31 1), (slotOf [1, 6, 7, 19, 20] vs_31 6), (slotOf [1, 6, 7, 19, 20] vs_31 7)] L_33)
def law08_Event_try_zt7 (vs_31 : List AV) (j_16 : W.Kn) (L_33 : SH)  : Prop :=
 W.bin Try.prog Fl .eql 3 (slotOf [1, 6, 7, 19, 20] vs_31 19) (.int .i64 23) fun t36_41 =>
 W.cond t36_41 (
 j_16 [(slotOf [1, 6, 7, 19, 20] vs_31 1), (slotOf [1, 6, 7, 19, 20] vs_31 6), (.int .i64 0)] L_33) (
 j_16 [(slotOf [1, 6, 7, 19, 20] vs_31 1), (slotOf [1, 6, 7, 19, 20] vs_31 6), (slotOf [1, 6, 7, 19, 20] vs_31 7)] L_33)
def law08_Event_try_zt8 (vs_31 : List AV) (j_16 : W.Kn) (L_33 : SH)  : Prop :=
 W.bin Try.prog Fl .eql 3 (slotOf [1, 6, 7, 19, 20] vs_31 19) (.int .i64 22) fun t35_40 =>
 W.cond t35_40 (
 (law08_Event_try_zt6 t35_40 j_16 vs_31 L_33)) (
 (law08_Event_try_zt7 vs_31 j_16 L_33))
def law08_Event_try_zt9 (vs_31 : List AV) (j_16 : W.Kn) (L_33 : SH)  : Prop :=
 W.bin Try.prog Fl .eql 3 (slotOf [1, 6, 7, 19, 20] vs_31 19) (.int .i64 19) fun t34_39 =>
 W.cond t34_39 (
 (law08_Event_try_zt5 t34_39 j_16 vs_31 L_33)) (
 (law08_Event_try_zt8 vs_31 j_16 L_33))
def law08_Event_try_zt10 (vs_31 : List AV) (j_16 : W.Kn) (L_33 : SH)  : Prop :=
 W.bin Try.prog Fl .eql 3 (slotOf [1, 6, 7, 19, 20] vs_31 19) (.int .i64 18) fun t33_38 =>
 W.cond t33_38 (
 (law08_Event_try_zt4 t33_38 j_16 vs_31 L_33)) (
 (law08_Event_try_zt9 vs_31 j_16 L_33))
def law08_Event_try_zt11 (vs_31 : List AV) (j_16 : W.Kn) (L_33 : SH)  : Prop :=
 W.bin Try.prog Fl .eql 3 (slotOf [1, 6, 7, 19, 20] vs_31 19) (.int .i64 17) fun t32_37 =>
 W.cond t32_37 (
 (law08_Event_try_zt3 t32_37 j_16 vs_31 L_33)) (
 (law08_Event_try_zt10 vs_31 j_16 L_33))
def law08_Event_try_zt12 (vs_31 : List AV) (j_16 : W.Kn) (L_33 : SH)  : Prop :=
 W.bin Try.prog Fl .eql 3 (slotOf [1, 6, 7, 19, 20] vs_31 19) (.int .i64 16) fun t31_36 =>
 W.cond t31_36 (
 (law08_Event_try_zt2 t31_36 j_16 vs_31 L_33)) (
 (law08_Event_try_zt11 vs_31 j_16 L_33))
def law08_Event_try_zt13 (vs_31 : List AV) (j_16 : W.Kn) (L_33 : SH)  : Prop :=
 W.bin Try.prog Fl .eql 3 (slotOf [1, 6, 7, 19, 20] vs_31 19) (.int .i64 4) fun t30_35 =>
 W.cond t30_35 (
 (law08_Event_try_zt1 t30_35 j_16 vs_31 L_33)) (
 (law08_Event_try_zt12 vs_31 j_16 L_33))
def law08_Event_try_zt14 (vs_31 : List AV) (j_16 : W.Kn) (L_33 : SH)  : Prop :=
 W.bin Try.prog Fl .eql 3 (slotOf [1, 6, 7, 19, 20] vs_31 19) (.int .i64 3) fun t29_34 =>
 W.cond t29_34 (
 (law08_Event_try_zt0 t29_34 j_16 vs_31 L_33)) (
 (law08_Event_try_zt13 vs_31 j_16 L_33))
def law08_Event_try_j1 (j_16 : W.Kn) (vs_31 : List AV) (L_33 : SH) : Prop :=
 W.cond (slotOf [1, 6, 7, 19, 20] vs_31 20) (
 j_16 [(slotOf [1, 6, 7, 19, 20] vs_31 1), (slotOf [1, 6, 7, 19, 20] vs_31 6), (.int .i64 (-1))] L_33) (
 (law08_Event_try_zt14 vs_31 j_16 L_33))
def law08_Event_try_zt15 (t13_9 : AV) (j_32 : W.Kn) (t1_2 : AV) (t18_14 : AV) (L_3 : SH)  : Prop :=
 W.bin Try.prog Fl .eql 3 t13_9 (.int .i64 14) fun t26_47 =>
 W.cond t26_47 (
 j_32 [t1_2, t13_9, t18_14, t13_9, t26_47] L_3) (
 W.bin Try.prog Fl .eql 3 t13_9 (.int .i64 15) fun t27_48 =>
 j_32 [t1_2, t13_9, t18_14, t13_9, t27_48] L_3)
def law08_Event_try_zt16 (t13_9 : AV) (j_32 : W.Kn) (t1_2 : AV) (t18_14 : AV) (L_3 : SH)  : Prop :=
 W.bin Try.prog Fl .eql 3 t13_9 (.int .i64 13) fun t25_46 =>
 W.cond t25_46 (
 j_32 [t1_2, t13_9, t18_14, t13_9, t25_46] L_3) (
 (law08_Event_try_zt15 t13_9 j_32 t1_2 t18_14 L_3))
def law08_Event_try_zt17 (t13_9 : AV) (j_32 : W.Kn) (t1_2 : AV) (t18_14 : AV) (L_3 : SH)  : Prop :=
 W.bin Try.prog Fl .eql 3 t13_9 (.int .i64 12) fun t24_45 =>
 W.cond t24_45 (
 j_32 [t1_2, t13_9, t18_14, t13_9, t24_45] L_3) (
 (law08_Event_try_zt16 t13_9 j_32 t1_2 t18_14 L_3))
def law08_Event_try_zt18 (t13_9 : AV) (j_32 : W.Kn) (t1_2 : AV) (t18_14 : AV) (L_3 : SH)  : Prop :=
 W.bin Try.prog Fl .eql 3 t13_9 (.int .i64 5) fun t23_44 =>
 W.cond t23_44 (
 j_32 [t1_2, t13_9, t18_14, t13_9, t23_44] L_3) (
 (law08_Event_try_zt17 t13_9 j_32 t1_2 t18_14 L_3))
def law08_Event_try_zt19 (t13_9 : AV) (j_32 : W.Kn) (t1_2 : AV) (t18_14 : AV) (L_3 : SH)  : Prop :=
 W.bin Try.prog Fl .eql 3 t13_9 (.int .i64 2) fun t22_43 =>
 W.cond t22_43 (
 j_32 [t1_2, t13_9, t18_14, t13_9, t22_43] L_3) (
 (law08_Event_try_zt18 t13_9 j_32 t1_2 t18_14 L_3))
def law08_Event_try_w (t0 : AV) (L : SH) (Q : AV → SH → Prop) : Prop :=
 W.box t0 L fun t1_0 L_1 =>
 W.frz1 t1_0 L_1 fun t1_2 L_3 =>
 W.faddr 1 t1_2 fun t8_4 =>
 W.load false 1 t8_4 L_3 fun t9_5 =>
 W.conv .u8 t9_5 fun t10_6 =>
 W.conv .i64 t10_6 fun t11_7 =>
 W.bin Try.prog Fl .rem 3 t11_7 (.int .i64 23) fun t12_8 =>
 W.bin Try.prog Fl .add 3 t12_8 (.int .i64 1) fun t13_9 =>
 W.faddr 2 t1_2 fun t14_10 =>
 W.load false 1 t14_10 L_3 fun t15_11 =>
 W.conv .u8 t15_11 fun t16_12 =>
 W.conv .i64 t16_12 fun t17_13 =>
 W.bin Try.prog Fl .rem 3 t17_13 (.int .i64 3) fun t18_14 =>
 W.join (law08_Event_try_j0 Q) fun j_16 =>
 W.join (law08_Event_try_j1 j_16) fun j_32 =>
 W.bin Try.prog Fl .eql 3 t13_9 (.int .i64 1) fun t21_42 =>
 W.cond t21_42 (
 j_32 [t1_2, t13_9, t18_14, t13_9, t21_42] L_3) (
 (law08_Event_try_zt19 t13_9 j_32 t1_2 t18_14 L_3))
theorem law08_Event_try_e (t0 : AV) (L : SH) (Q : AV → SH → Prop) : W.func Try.prog Fl law08_Event_try_t Try.f28 (Try.f28.body.getD .skip) [t0] L Q = law08_Event_try_w t0 L Q := by kernel_rfl
theorem law08_Event_try_ok (t0 : AV) (L : SH) (Q : AV → SH → Prop) (h : law08_Event_try_w t0 L Q) : CallA Try.prog 28 [t0] L Q :=
  func_sound (ht := law08_Event_try_t) fit Try.func28 (show Try.f28.body = some (Try.f28.body.getD .skip) by kernel_rfl) (Eq.mpr (law08_Event_try_e t0 L Q) h)

end Go.Proofs.Ytadjimfkfmojkaa.Am

end
section
namespace Go.Proofs.Ytadjimfkfmojkaa.Am
set_option linter.unusedVariables false
/-- a block that may not be there yet is given up -/
inductive DelO (o : Option Nat) (n : Nat) (rows : List (List AV)) : SH → SH → Prop where
  | here (R : SH) : DelO o n rows (slotB o n rows ++ R) R
  | last : DelO o n rows (slotB o n rows) []
  | there (p : Nat × Blk) {L L' : SH} : DelO o n rows L L' → DelO o n rows (p :: L) (p :: L')
  | skip (o2 : Option Nat) (n2 : Nat) (rows2 : List (List AV)) {L L' : SH} : DelO o n rows L L' → DelO o n rows (slotB o2 n2 rows2 ++ L) (slotB o2 n2 rows2 ++ L')
theorem DelO.some' {b n : Nat} {rows : List (List AV)} {L L' : SH} (h : DelO (some b) n rows L L') : Del b ⟨n, rows⟩ L L' := by
  induction h with
  | here R => exact .here R
  | last => exact .here []
  | there p h ih => exact .there p ih
  | skip o2 n2 rows2 h ih => exact ih.app _
theorem DelO.none' {n : Nat} {rows : List (List AV)} {L L' : SH} (h : DelO none n rows L L') : L = L' := by
  induction h with
  | here R => rfl
  | last => rfl
  | there p h ih => rw [ih]
  | skip o2 n2 rows2 h ih => rw [ih]
theorem DelO.perm {o : Option Nat} {n : Nat} {rows : List (List AV)} {L L' : SH} (h : DelO o n rows L L') : L.Perm (slotB o n rows ++ L') := by
  cases o with
  | none => rw [h.none']; exact .refl _
  | some b => exact h.some'.perm
section
variable {KL : AV → SH → Prop} {L L' : SH}
/-- some blocks are kept, in an order of one's own -/
inductive Pick : SH → SH → Prop where
  | nil (L : SH) : Pick L []
  | one {b : Nat} {x : Blk} {L L' R : SH} : Del b x L L' → Pick L' R → Pick L ((b, x) :: R)
  | slot {o : Option Nat} {n : Nat} {rows : List (List AV)} {L L' R : SH} : DelO o n rows L L' → Pick L' R → Pick L (slotB o n rows ++ R)
  | slotl {o : Option Nat} {n : Nat} {rows : List (List AV)} {L L' : SH} : DelO o n rows L L' → Pick L (slotB o n rows)
theorem Pick.perm {L R : SH} (h : Pick L R) : ∃ K, L.Perm (K ++ R) := by
  induction h with
  | nil L => exact ⟨L, by simp⟩
  | one hd hp ih =>
    obtain ⟨K, hK⟩ := ih
    exact ⟨K, (hd.perm.trans ((hK.cons _).trans List.perm_middle.symm))⟩
  | slot hd hp ih =>
    obtain ⟨K, hK⟩ := ih
    refine ⟨K, hd.perm.trans ((hK.append_left _).trans ?_)⟩
    rw [← List.append_assoc, ← List.append_assoc]
    exact List.perm_append_comm.append_right _
  | slotl hd => exact ⟨_, hd.perm.trans List.perm_append_comm⟩
theorem FzS.pick {vs vs2 : List AV} {R : SH} (h : Pick L R) (hv : vs = vs2) : FzS vs L vs2 R := by
  subst hv
  obtain ⟨K, hK⟩ := h.perm
  exact FzS.forget hK
end
end Go.Proofs.Ytadjimfkfmojkaa.Am

end
section
namespace Go.Proofs.Ytadjimfkfmojkaa.Am
set_option maxRecDepth 100000
set_option linter.unusedSimpArgs false
set_option linter.unusedVariables false
theorem world_ok : PureA Try.prog 24 [] (.agg W0.enc) := by
  refine CallA.fz (law08_world_ok _ _ ?_)
  unfold law08_world_w
  repeat' (first | (refine h_load1 ?_; first | refine b_load_q ?_ | refine b_load_i ?_ | refine b_load_p ?_) | (refine h_faddr ?_; first | refine a_faddr_q ?_ | refine a_faddr_p ?_) | (refine h_bin ?_; first | refine a_eql ?_ | refine a_lss ?_ | refine a_neq ?_ | refine a_geq ?_ | refine a_gtr ?_ | refine a_leq ?_ | refine a_add ?_ | refine a_sub ?_ | refine a_mul ?_ | refine a_eqs ?_ | refine a_nes ?_ | refine b_rem ?_ | refine b_quo ?_) | (refine h_cond ?_; first | refine b_cond_t ?_ | refine b_cond_f ?_ | refine a_cond (fun h => ?_) (fun h => ?_)) | (refine h_idx ?_; first | refine b_idx_n ?_ | refine b_idx_l ?_ | refine b_idx_i ?_ | refine b_idx_sn ?_ | refine b_idx_s ?_) | (refine h_row ?_; first | refine b_row_q ?_ | refine b_row_i ?_ | refine b_row_p ?_) | (refine h_len ?_; first | refine a_len_m ?_ | refine a_len_l ?_ | refine a_len_s ?_ | refine a_len_n ?_ | refine a_len_e ?_) | (refine h_ext ?_; first | refine b_ext ?_) | (refine h_calm ?_; first | refine b_calm ?_) | (refine h_note ?_; first | refine a_note ?_) | (refine h_pick ?_; first | refine b_pick_t ?_ | refine b_pick_f ?_) | (refine h_grd ?_; first | refine b_grd_y ?_ | refine b_grd_n ?_ | refine a_grd_u ?_ | refine a_grd_t (fun h => ?_) (fun h => ?_) | refine a_grd_f (fun h => ?_) (fun h => ?_)) | (refine h_dgrd ?_; first | refine b_dgrd_y ?_ | refine b_dgrd_n ?_ | refine a_dgrd_u ?_ | refine a_dgrd_t (fun h => ?_) (fun h => ?_) | refine a_dgrd_f (fun h => ?_) (fun h => ?_)) | (refine h_nilchk ?_; first | refine a_nil_p ?_ | refine a_nil_q ?_ | refine a_nil_f ?_) | refine a_mark ?_ | refine a_dmark ?_ | (refine h_un ?_; first | refine a_not ?_ | refine a_neg ?_) | (refine h_box ?_; first | refine b_box (fun nb_ hnb_ => ?_)) | (refine h_frz1 ?_; first | refine b_frz_p ?_ | refine b_frz_s ?_) | (refine h_store ?_; first | refine b_store_box ?_ | refine b_store_one ?_ | refine b_store_row ?_) | (refine h_idxP ?_; first | refine b_idxP_p ?_ | refine b_idxP_q ?_) | (refine h_mslice ?_; first | refine b_mslice (fun nb_ hnb_ => ?_)) | (refine h_bslice ?_; first | refine b_bslice (fun nb_ hnb_ => ?_)) | refine a_conv ?_ | refine a_convS ?_ | refine a_alloc (fun nb_ hnb_ => ?_) | refine b_build ?_ | refine b_fld ?_ | refine a_join ?_ | refine a_lenS ?_ | refine a_tt ?_)
  exact ⟨_, [], FzS.all (Fz.aggs (.cons (Fz.sls (l := W0.cells) (f := CellD.enc) (by repeat constructor) rfl (by decide) rfl) (.cons (Fz.sls (l := W0.locks) (f := LockI.enc) (by repeat constructor) rfl (by decide) rfl) (.cons (Fz.sls (l := W0.conds) (f := CondI.enc) (by repeat constructor) rfl (by decide) rfl) (.cons (Fz.sls (l := W0.futures) (f := strE) (by repeat constructor) rfl (by decide) rfl) (.cons (Fz.sls (l := W0.threads) (f := strE) (by repeat constructor) rfl (by decide) rfl) (.cons .nils .nil))))))), rfl, rfl⟩
structure EvD where
  thread : Int
  kind : Int
  obj : Int
  wake : Int
def EvD.enc (e : EvD) : List AV := [.int .i8 e.thread, .int .i8 e.kind, .int .i8 e.obj, .int .i8 e.wake]
theorem try_ok (e : EvD) : CallA Try.prog 28 [.agg e.enc] [] fun v L => ∃ t k o wake : Int, v = .tup [.int .i64 t, .int .i64 k, .int .i64 o, .int .i64 wake] ∧ L = [] := by
  refine law08_Event_try_ok _ _ _ ?_
  unfold law08_Event_try_w
  generalize hQ : (fun (v : AV) (L : SH) => ∃ t k o wake : Int, v = .tup [.int .i64 t, .int .i64 k, .int .i64 o, .int .i64 wake] ∧ L = []) = Q
  have hj : ∀ k o : Int, law08_Event_try_j0 Q [.pptr [e.enc] 0 0, .int .i64 k, .int .i64 o] [] := fun k o => by
    unfold law08_Event_try_j0
    repeat' (first | (refine h_load1 ?_; first | refine b_load_q ?_ | refine b_load_i ?_ | refine b_load_p ?_) | (refine h_faddr ?_; first | refine a_faddr_q ?_ | refine a_faddr_p ?_) | (refine h_bin ?_; first | refine a_eql ?_ | refine a_lss ?_ | refine a_neq ?_ | refine a_geq ?_ | refine a_gtr ?_ | refine a_leq ?_ | refine a_add ?_ | refine a_sub ?_ | refine a_mul ?_ | refine a_eqs ?_ | refine a_nes ?_ | refine b_rem ?_ | refine b_quo ?_) | (refine h_cond ?_; first | refine b_cond_t ?_ | refine b_cond_f ?_ | refine a_cond (fun h => ?_) (fun h => ?_)) | (refine h_idx ?_; first | refine b_idx_n ?_ | refine b_idx_l ?_ | refine b_idx_i ?_ | refine b_idx_sn ?_ | refine b_idx_s ?_) | (refine h_row ?_; first | refine b_row_q ?_ | refine b_row_i ?_ | refine b_row_p ?_) | (refine h_len ?_; first | refine a_len_m ?_ | refine a_len_l ?_ | refine a_len_s ?_ | refine a_len_n ?_ | refine a_len_e ?_) | (refine h_ext ?_; first | refine b_ext ?_) | (refine h_calm ?_; first | refine b_calm ?_) | (refine h_note ?_; first | refine a_note ?_) | (refine h_pick ?_; first | refine b_pick_t ?_ | refine b_pick_f ?_) | (refine h_grd ?_; first | refine b_grd_y ?_ | refine b_grd_n ?_ | refine a_grd_u ?_ | refine a_grd_t (fun h => ?_) (fun h => ?_) | refine a_grd_f (fun h => ?_) (fun h => ?_)) | (refine h_dgrd ?_; first | refine b_dgrd_y ?_ | refine b_dgrd_n ?_ | refine a_dgrd_u ?_ | refine a_dgrd_t (fun h => ?_) (fun h => ?_) | refine a_dgrd_f (fun h => ?_) (fun h => ?_)) | (refine h_nilchk ?_; first | refine a_nil_p ?_ | refine a_nil_q ?_ | refine a_nil_f ?_) | refine a_mark ?_ | refine a_dmark ?_ | (refine h_un ?_; first | refine a_not ?_ | refine a_neg ?_) | (refine h_box ?_; first | refine b_box (fun nb_ hnb_ => ?_)) | (refine h_frz1 ?_; first | refine b_frz_p ?_ | refine b_frz_s ?_) | (refine h_store ?_; first | refine b_store_box ?_ | refine b_store_one ?_ | refine b_store_row ?_) | (refine h_idxP ?_; first | refine b_idxP_p ?_ | refine b_idxP_q ?_) | (refine h_mslice ?_; first | refine b_mslice (fun nb_ hnb_ => ?_)) | (refine h_bslice ?_; first | refine b_bslice (fun nb_ hnb_ => ?_)) | refine a_conv ?_ | refine a_convS ?_ | refine a_alloc (fun nb_ hnb_ => ?_) | refine b_build ?_ | refine b_fld ?_ | refine a_join ?_ | refine a_lenS ?_ | refine a_tt ?_)
    subst hQ
    exact ⟨_, _, _, _, rfl, rfl⟩
  have hj1 : ∀ (k o : Int) (b : Bool), law08_Event_try_j1 (law08_Event_try_j0 Q) [.pptr [e.enc] 0 0, .int .i64 k, .int .i64 o, .int .i64 k, .bool b] [] := fun k o b => by
    unfold law08_Event_try_j1
    repeat' (first | exact hj _ _ | (refine h_load1 ?_; first | refine b_load_q ?_ | refine b_load_i ?_ | refine b_load_p ?_) | (refine h_faddr ?_; first | refine a_faddr_q ?_ | refine a_faddr_p ?_) | (refine h_bin ?_; first | refine a_eql ?_ | refine a_lss ?_ | refine a_neq ?_ | refine a_geq ?_ | refine a_gtr ?_ | refine a_leq ?_ | refine a_add ?_ | refine a_sub ?_ | refine a_mul ?_ | refine a_eqs ?_ | refine a_nes ?_ | refine b_rem ?_ | refine b_quo ?_) | (refine h_cond ?_; first | refine b_cond_t ?_ | refine b_cond_f ?_ | refine a_cond (fun h => ?_) (fun h => ?_)) | (refine h_idx ?_; first | refine b_idx_n ?_ | refine b_idx_l ?_ | refine b_idx_i ?_ | refine b_idx_sn ?_ | refine b_idx_s ?_) | (refine h_row ?_; first | refine b_row_q ?_ | refine b_row_i ?_ | refine b_row_p ?_) | (refine h_len ?_; first | refine a_len_m ?_ | refine a_len_l ?_ | refine a_len_s ?_ | refine a_len_n ?_ | refine a_len_e ?_) | (refine h_ext ?_; first | refine b_ext ?_) | (refine h_calm ?_; first | refine b_calm ?_) | (refine h_note ?_; first | refine a_note ?_) | (refine h_pick ?_; first | refine b_pick_t ?_ | refine b_pick_f ?_) | (refine h_grd ?_; first | refine b_grd_y ?_ | refine b_grd_n ?_ | refine a_grd_u ?_ | refine a_grd_t (fun h => ?_) (fun h => ?_) | refine a_grd_f (fun h => ?_) (fun h => ?_)) | (refine h_dgrd ?_; first | refine b_dgrd_y ?_ | refine b_dgrd_n ?_ | refine a_dgrd_u ?_ | refine a_dgrd_t (fun h => ?_) (fun h => ?_) | refine a_dgrd_f (fun h => ?_) (fun h => ?_)) | (refine h_nilchk ?_; first | refine a_nil_p ?_ | refine a_nil_q ?_ | refine a_nil_f ?_) | refine a_mark ?_ | refine a_dmark ?_ | (refine h_un ?_; first | refine a_not ?_ | refine a_neg ?_) | (refine h_box ?_; first | refine b_box (fun nb_ hnb_ => ?_)) | (refine h_frz1 ?_; first | refine b_frz_p ?_ | refine b_frz_s ?_) | (refine h_store ?_; first | refine b_store_box ?_ | refine b_store_one ?_ | refine b_store_row ?_) | (refine h_idxP ?_; first | refine b_idxP_p ?_ | refine b_idxP_q ?_) | (refine h_mslice ?_; first | refine b_mslice (fun nb_ hnb_ => ?_)) | (refine h_bslice ?_; first | refine b_bslice (fun nb_ hnb_ => ?_)) | refine a_conv ?_ | refine a_convS ?_ | refine a_alloc (fun nb_ hnb_ => ?_) | refine b_build ?_ | refine b_fld ?_ | refine a_join ?_ | refine a_lenS ?_ | refine a_tt ?_)
  repeat' (first | exact hj _ _ | exact hj1 _ _ _ | (refine h_load1 ?_; first | refine b_load_q ?_ | refine b_load_i ?_ | refine b_load_p ?_) | (refine h_faddr ?_; first | refine a_faddr_q ?_ | refine a_faddr_p ?_) | (refine h_bin ?_; first | refine a_eql ?_ | refine a_lss ?_ | refine a_neq ?_ | refine a_geq ?_ | refine a_gtr ?_ | refine a_leq ?_ | refine a_add ?_ | refine a_sub ?_ | refine a_mul ?_ | refine a_eqs ?_ | refine a_nes ?_ | refine b_rem ?_ | refine b_quo ?_) | (refine h_cond ?_; first | refine b_cond_t ?_ | refine b_cond_f ?_ | refine a_cond (fun h => ?_) (fun h => ?_)) | (refine h_idx ?_; first | refine b_idx_n ?_ | refine b_idx_l ?_ | refine b_idx_i ?_ | refine b_idx_sn ?_ | refine b_idx_s ?_) | (refine h_row ?_; first | refine b_row_q ?_ | refine b_row_i ?_ | refine b_row_p ?_) | (refine h_len ?_; first | refine a_len_m ?_ | refine a_len_l ?_ | refine a_len_s ?_ | refine a_len_n ?_ | refine a_len_e ?_) | (refine h_ext ?_; first | refine b_ext ?_) | (refine h_calm ?_; first | refine b_calm ?_) | (refine h_note ?_; first | refine a_note ?_) | (refine h_pick ?_; first | refine b_pick_t ?_ | refine b_pick_f ?_) | (refine h_grd ?_; first | refine b_grd_y ?_ | refine b_grd_n ?_ | refine a_grd_u ?_ | refine a_grd_t (fun h => ?_) (fun h => ?_) | refine a_grd_f (fun h => ?_) (fun h => ?_)) | (refine h_dgrd ?_; first | refine b_dgrd_y ?_ | refine b_dgrd_n ?_ | refine a_dgrd_u ?_ | refine a_dgrd_t (fun h => ?_) (fun h => ?_) | refine a_dgrd_f (fun h => ?_) (fun h => ?_)) | (refine h_nilchk ?_; first | refine a_nil_p ?_ | refine a_nil_q ?_ | refine a_nil_f ?_) | refine a_mark ?_ | refine a_dmark ?_ | (refine h_un ?_; first | refine a_not ?_ | refine a_neg ?_) | (refine h_box ?_; first | refine b_box (fun nb_ hnb_ => ?_)) | (refine h_frz1 ?_; first | refine b_frz_p ?_ | refine b_frz_s ?_) | (refine h_store ?_; first | refine b_store_box ?_ | refine b_store_one ?_ | refine b_store_row ?_) | (refine h_idxP ?_; first | refine b_idxP_p ?_ | refine b_idxP_q ?_) | (refine h_mslice ?_; first | refine b_mslice (fun nb_ hnb_ => ?_)) | (refine h_bslice ?_; first | refine b_bslice (fun nb_ hnb_ => ?_)) | refine a_conv ?_ | refine a_convS ?_ | refine a_alloc (fun nb_ hnb_ => ?_) | refine b_build ?_ | refine b_fld ?_ | refine a_join ?_ | refine a_lenS ?_ | refine a_tt ?_)
theorem reach_ok (J : SyncD → Prop) (hsm : ∀ s, J s → Small W0 s) (h0 : J (startS W0)) (hst : ∀ s t k o wake, J s → enabledS W0 s t k o = true → J (applyS W0 s t k o wake).1) (l : List EvD) (hl : l.length ≤ 200) :
    CallA Try.prog 25 [.agg W0.enc, .lst (l.map EvD.enc)] [] fun v L => ∃ s, v = .agg s.enc ∧ J s ∧ L = [] := by
  refine CallA.fz (law08_reach_ok _ _ _ _ ?_)
  unfold law08_reach_w
  generalize hQ : (fun (v : AV) (L : SH) => ∃ v2 L2, FzS [v] L [v2] L2 ∧ ∃ s, v2 = .agg s.enc ∧ J s ∧ L2 = []) = Q
  have hs := start_ok W0 (by decide) (by decide) (by decide)
  repeat' (first | (refine h_load1 ?_; first | refine b_load_q ?_ | refine b_load_i ?_ | refine b_load_p ?_) | (refine h_faddr ?_; first | refine a_faddr_q ?_ | refine a_faddr_p ?_) | (refine h_bin ?_; first | refine a_eql ?_ | refine a_lss ?_ | refine a_neq ?_ | refine a_geq ?_ | refine a_gtr ?_ | refine a_leq ?_ | refine a_add ?_ | refine a_sub ?_ | refine a_mul ?_ | refine a_eqs ?_ | refine a_nes ?_ | refine b_rem ?_ | refine b_quo ?_) | (refine h_cond ?_; first | refine b_cond_t ?_ | refine b_cond_f ?_ | refine a_cond (fun h => ?_) (fun h => ?_)) | (refine h_idx ?_; first | refine b_idx_n ?_ | refine b_idx_l ?_ | refine b_idx_i ?_ | refine b_idx_sn ?_ | refine b_idx_s ?_) | (refine h_row ?_; first | refine b_row_q ?_ | refine b_row_i ?_ | refine b_row_p ?_) | (refine h_len ?_; first | refine a_len_m ?_ | refine a_len_l ?_ | refine a_len_s ?_ | refine a_len_n ?_ | refine a_len_e ?_) | (refine h_ext ?_; first | refine b_ext ?_) | (refine h_calm ?_; first | refine b_calm ?_) | (refine h_note ?_; first | refine a_note ?_) | (refine h_pick ?_; first | refine b_pick_t ?_ | refine b_pick_f ?_) | (refine h_grd ?_; first | refine b_grd_y ?_ | refine b_grd_n ?_ | refine a_grd_u ?_ | refine a_grd_t (fun h => ?_) (fun h => ?_) | refine a_grd_f (fun h => ?_) (fun h => ?_)) | (refine h_dgrd ?_; first | refine b_dgrd_y ?_ | refine b_dgrd_n ?_ | refine a_dgrd_u ?_ | refine a_dgrd_t (fun h => ?_) (fun h => ?_) | refine a_dgrd_f (fun h => ?_) (fun h => ?_)) | (refine h_nilchk ?_; first | refine a_nil_p ?_ | refine a_nil_q ?_ | refine a_nil_f ?_) | refine a_mark ?_ | refine a_dmark ?_ | ((with_reducible refine h_fn 21 ?_); refine m_call (hs) ?_) | ((with_reducible refine h_dfn 21 ?_); refine b_dcall (hs) ?_) | (refine h_un ?_; first | refine a_not ?_ | refine a_neg ?_) | (refine h_box ?_; first | refine b_box (fun nb_ hnb_ => ?_)) | (refine h_frz1 ?_; first | refine b_frz_p ?_ | refine b_frz_s ?_) | (refine h_store ?_; first | refine b_store_box ?_ | refine b_store_one ?_ | refine b_store_row ?_) | (refine h_idxP ?_; first | refine b_idxP_p ?_ | refine b_idxP_q ?_) | (refine h_mslice ?_; first | refine b_mslice (fun nb_ hnb_ => ?_)) | (refine h_bslice ?_; first | refine b_bslice (fun nb_ hnb_ => ?_)) | refine a_conv ?_ | refine a_convS ?_ | refine a_alloc (fun nb_ hnb_ => ?_) | refine b_build ?_ | refine b_fld ?_ | refine a_join ?_ | refine a_lenS ?_ | refine a_tt ?_)
  rename_i b4 _
  revert nb_
  intro b5 _
  refine loop_ex l.length (fun i (s : SyncD) => ([.lst (l.map EvD.enc), .pptr [W0.enc] 0 0, .ptr b4 0 0, .ptr b5 0 0, .int .i64 i], [(b5, ⟨4, [s.enc]⟩), (b4, ⟨4, [[.nils, .int .i64 0, .nils, .nils]]⟩)])) (fun _ s => J s) (startS W0) h0 (fzs_eq rfl rfl) ?_
  intro i s hi hJ
  dsimp only
  unfold law08_reach_l2
  rcases Nat.lt_or_ge i l.length with g1 | g1
  · have hd := dec_lt g1
    have hx := map_at (f := EvD.enc) g1
    have hap := fun t k o wake => apply_ok W0 s t k o wake (hsm s hJ)
    have htry := try_ok l[i]
    repeat' (first | (refine h_load1 ?_; first | refine b_load_q ?_ | refine b_load_i ?_ | refine b_load_p ?_) | (refine h_faddr ?_; first | refine a_faddr_q ?_ | refine a_faddr_p ?_) | (refine h_bin ?_; first | refine a_eql ?_ | refine a_lss ?_ | refine a_neq ?_ | refine a_geq ?_ | refine a_gtr ?_ | refine a_leq ?_ | refine a_add ?_ | refine a_sub ?_ | refine a_mul ?_ | refine a_eqs ?_ | refine a_nes ?_ | refine b_rem ?_ | refine b_quo ?_) | (refine h_cond ?_; first | refine b_cond_t ?_ | refine b_cond_f ?_ | refine a_cond (fun h => ?_) (fun h => ?_)) | (refine h_idx ?_; first | refine b_idx_n ?_ | refine b_idx_l ?_ | refine b_idx_i ?_ | refine b_idx_sn ?_ | refine b_idx_s ?_) | (refine h_row ?_; first | refine b_row_q ?_ | refine b_row_i ?_ | refine b_row_p ?_) | (refine h_len ?_; first | refine a_len_m ?_ | refine a_len_l ?_ | refine a_len_s ?_ | refine a_len_n ?_ | refine a_len_e ?_) | (refine h_ext ?_; first | refine b_ext ?_) | (refine h_calm ?_; first | refine b_calm ?_) | (refine h_note ?_; first | refine a_note ?_) | (refine h_pick ?_; first | refine b_pick_t ?_ | refine b_pick_f ?_) | (refine h_grd ?_; first | refine b_grd_y ?_ | refine b_grd_n ?_ | refine a_grd_u ?_ | refine a_grd_t (fun h => ?_) (fun h => ?_) | refine a_grd_f (fun h => ?_) (fun h => ?_)) | (refine h_dgrd ?_; first | refine b_dgrd_y ?_ | refine b_dgrd_n ?_ | refine a_dgrd_u ?_ | refine a_dgrd_t (fun h => ?_) (fun h => ?_) | refine a_dgrd_f (fun h => ?_) (fun h => ?_)) | (refine h_nilchk ?_; first | refine a_nil_p ?_ | refine a_nil_q ?_ | refine a_nil_f ?_) | refine a_mark ?_ | refine a_dmark ?_ | ((with_reducible refine h_fn 28 ?_); (refine m_callF (K := []) htry (.refl _) ?_; rintro _ _ ⟨t, k, o, wake, rfl, rfl⟩)) | (refine h_un ?_; first | refine a_not ?_ | refine a_neg ?_) | (refine h_box ?_; first | refine b_box (fun nb_ hnb_ => ?_)) | (refine h_frz1 ?_; first | refine b_frz_p ?_ | refine b_frz_s ?_) | (refine h_store ?_; first | refine b_store_box ?_ | refine b_store_one ?_ | refine b_store_row ?_) | (refine h_idxP ?_; first | refine b_idxP_p ?_ | refine b_idxP_q ?_) | (refine h_mslice ?_; first | refine b_mslice (fun nb_ hnb_ => ?_)) | (refine h_bslice ?_; first | refine b_bslice (fun nb_ hnb_ => ?_)) | refine a_conv ?_ | refine a_convS ?_ | refine a_alloc (fun nb_ hnb_ => ?_) | refine b_build ?_ | refine b_fld ?_ | refine a_join ?_ | refine a_lenS ?_ | refine a_tt ?_)
    refine m_call (hap t k o wake) ?_
    cases hen : enabledS W0 s t k o with
    | false =>
      have e : resS W0 s t k o wake = (zeroS, 0, false) := by unfold resS; rw [hen]; rfl
      rw [e]
      unfold law08_reach_c0
      repeat' (first | (refine h_load1 ?_; first | refine b_load_q ?_ | refine b_load_i ?_ | refine b_load_p ?_) | (refine h_faddr ?_; first | refine a_faddr_q ?_ | refine a_faddr_p ?_) | (refine h_bin ?_; first | refine a_eql ?_ | refine a_lss ?_ | refine a_neq ?_ | refine a_geq ?_ | refine a_gtr ?_ | refine a_leq ?_ | refine a_add ?_ | refine a_sub ?_ | refine a_mul ?_ | refine a_eqs ?_ | refine a_nes ?_ | refine b_rem ?_ | refine b_quo ?_) | (refine h_cond ?_; first | refine b_cond_t ?_ | refine b_cond_f ?_ | refine a_cond (fun h => ?_) (fun h => ?_)) | (refine h_idx ?_; first | refine b_idx_n ?_ | refine b_idx_l ?_ | refine b_idx_i ?_ | refine b_idx_sn ?_ | refine b_idx_s ?_) | (refine h_row ?_; first | refine b_row_q ?_ | refine b_row_i ?_ | refine b_row_p ?_) | (refine h_len ?_; first | refine a_len_m ?_ | refine a_len_l ?_ | refine a_len_s ?_ | refine a_len_n ?_ | refine a_len_e ?_) | (refine h_ext ?_; first | refine b_ext ?_) | (refine h_calm ?_; first | refine b_calm ?_) | (refine h_note ?_; first | refine a_note ?_) | (refine h_pick ?_; first | refine b_pick_t ?_ | refine b_pick_f ?_) | (refine h_grd ?_; first | refine b_grd_y ?_ | refine b_grd_n ?_ | refine a_grd_u ?_ | refine a_grd_t (fun h => ?_) (fun h => ?_) | refine a_grd_f (fun h => ?_) (fun h => ?_)) | (refine h_dgrd ?_; first | refine b_dgrd_y ?_ | refine b_dgrd_n ?_ | refine a_dgrd_u ?_ | refine a_dgrd_t (fun h => ?_) (fun h => ?_) | refine a_dgrd_f (fun h => ?_) (fun h => ?_)) | (refine h_nilchk ?_; first | refine a_nil_p ?_ | refine a_nil_q ?_ | refine a_nil_f ?_) | refine a_mark ?_ | refine a_dmark ?_ | (refine h_un ?_; first | refine a_not ?_ | refine a_neg ?_) | (refine h_box ?_; first | refine b_box (fun nb_ hnb_ => ?_)) | (refine h_frz1 ?_; first | refine b_frz_p ?_ | refine b_frz_s ?_) | (refine h_store ?_; first | refine b_store_box ?_ | refine b_store_one ?_ | refine b_store_row ?_) | (refine h_idxP ?_; first | refine b_idxP_p ?_ | refine b_idxP_q ?_) | (refine h_mslice ?_; first | refine b_mslice (fun nb_ hnb_ => ?_)) | (refine h_bslice ?_; first | refine b_bslice (fun nb_ hnb_ => ?_)) | refine a_conv ?_ | refine a_convS ?_ | refine a_alloc (fun nb_ hnb_ => ?_) | refine b_build ?_ | refine b_fld ?_ | refine a_join ?_ | refine a_lenS ?_ | refine a_tt ?_)
      exact ⟨i + 1, s, by omega, by omega, hJ, FzS.pick (by repeat constructor) (by rw [i64_succ g1 (by omega)]; rfl)⟩
    | true =>
      have e : resS W0 s t k o wake = ((applyS W0 s t k o wake).1, (applyS W0 s t k o wake).2, true) := by unfold resS; rw [hen]; rfl
      have hJ' := hst s t k o wake hJ hen
      rw [e]
      generalize (applyS W0 s t k o wake).1 = s' at *
      generalize (applyS W0 s t k o wake).2 = v' at *
      unfold law08_reach_c0
      repeat' (first | (refine h_load1 ?_; first | refine b_load_q ?_ | refine b_load_i ?_ | refine b_load_p ?_) | (refine h_faddr ?_; first | refine a_faddr_q ?_ | refine a_faddr_p ?_) | (refine h_bin ?_; first | refine a_eql ?_ | refine a_lss ?_ | refine a_neq ?_ | refine a_geq ?_ | refine a_gtr ?_ | refine a_leq ?_ | refine a_add ?_ | refine a_sub ?_ | refine a_mul ?_ | refine a_eqs ?_ | refine a_nes ?_ | refine b_rem ?_ | refine b_quo ?_) | (refine h_cond ?_; first | refine b_cond_t ?_ | refine b_cond_f ?_ | refine a_cond (fun h => ?_) (fun h => ?_)) | (refine h_idx ?_; first | refine b_idx_n ?_ | refine b_idx_l ?_ | refine b_idx_i ?_ | refine b_idx_sn ?_ | refine b_idx_s ?_) | (refine h_row ?_; first | refine b_row_q ?_ | refine b_row_i ?_ | refine b_row_p ?_) | (refine h_len ?_; first | refine a_len_m ?_ | refine a_len_l ?_ | refine a_len_s ?_ | refine a_len_n ?_ | refine a_len_e ?_) | (refine h_ext ?_; first | refine b_ext ?_) | (refine h_calm ?_; first | refine b_calm ?_) | (refine h_note ?_; first | refine a_note ?_) | (refine h_pick ?_; first | refine b_pick_t ?_ | refine b_pick_f ?_) | (refine h_grd ?_; first | refine b_grd_y ?_ | refine b_grd_n ?_ | refine a_grd_u ?_ | refine a_grd_t (fun h => ?_) (fun h => ?_) | refine a_grd_f (fun h => ?_) (fun h => ?_)) | (refine h_dgrd ?_; first | refine b_dgrd_y ?_ | refine b_dgrd_n ?_ | refine a_dgrd_u ?_ | refine a_dgrd_t (fun h => ?_) (fun h => ?_) | refine a_dgrd_f (fun h => ?_) (fun h => ?_)) | (refine h_nilchk ?_; first | refine a_nil_p ?_ | refine a_nil_q ?_ | refine a_nil_f ?_) | refine a_mark ?_ | refine a_dmark ?_ | (refine h_un ?_; first | refine a_not ?_ | refine a_neg ?_) | (refine h_box ?_; first | refine b_box (fun nb_ hnb_ => ?_)) | (refine h_frz1 ?_; first | refine b_frz_p ?_ | refine b_frz_s ?_) | (refine h_store ?_; first | refine b_store_box ?_ | refine b_store_one ?_ | refine b_store_row ?_) | (refine h_idxP ?_; first | refine b_idxP_p ?_ | refine b_idxP_q ?_) | (refine h_mslice ?_; first | refine b_mslice (fun nb_ hnb_ => ?_)) | (refine h_bslice ?_; first | refine b_bslice (fun nb_ hnb_ => ?_)) | refine a_conv ?_ | refine a_convS ?_ | refine a_alloc (fun nb_ hnb_ => ?_) | refine b_build ?_ | refine b_fld ?_ | refine a_join ?_ | refine a_lenS ?_ | refine a_tt ?_)
      exact ⟨i + 1, s', by omega, by omega, hJ', FzS.pick (by repeat constructor) (by rw [i64_succ g1 (by omega)]; rfl)⟩
  · have hd := dec_ge g1
    repeat' (first | (refine h_load1 ?_; first | refine b_load_q ?_ | refine b_load_i ?_ | refine b_load_p ?_) | (refine h_faddr ?_; first | refine a_faddr_q ?_ | refine a_faddr_p ?_) | (refine h_bin ?_; first | refine a_eql ?_ | refine a_lss ?_ | refine a_neq ?_ | refine a_geq ?_ | refine a_gtr ?_ | refine a_leq ?_ | refine a_add ?_ | refine a_sub ?_ | refine a_mul ?_ | refine a_eqs ?_ | refine a_nes ?_ | refine b_rem ?_ | refine b_quo ?_) | (refine h_cond ?_; first | refine b_cond_t ?_ | refine b_cond_f ?_ | refine a_cond (fun h => ?_) (fun h => ?_)) | (refine h_idx ?_; first | refine b_idx_n ?_ | refine b_idx_l ?_ | refine b_idx_i ?_ | refine b_idx_sn ?_ | refine b_idx_s ?_) | (refine h_row ?_; first | refine b_row_q ?_ | refine b_row_i ?_ | refine b_row_p ?_) | (refine h_len ?_; first | refine a_len_m ?_ | refine a_len_l ?_ | refine a_len_s ?_ | refine a_len_n ?_ | refine a_len_e ?_) | (refine h_ext ?_; first | refine b_ext ?_) | (refine h_calm ?_; first | refine b_calm ?_) | (refine h_note ?_; first | refine a_note ?_) | (refine h_pick ?_; first | refine b_pick_t ?_ | refine b_pick_f ?_) | (refine h_grd ?_; first | refine b_grd_y ?_ | refine b_grd_n ?_ | refine a_grd_u ?_ | refine a_grd_t (fun h => ?_) (fun h => ?_) | refine a_grd_f (fun h => ?_) (fun h => ?_)) | (refine h_dgrd ?_; first | refine b_dgrd_y ?_ | refine b_dgrd_n ?_ | refine a_dgrd_u ?_ | refine a_dgrd_t (fun h => ?_) (fun h => ?_) | refine a_dgrd_f (fun h => ?_) (fun h => ?_)) | (refine h_nilchk ?_; first | refine a_nil_p ?_ | refine a_nil_q ?_ | refine a_nil_f ?_) | refine a_mark ?_ | refine a_dmark ?_ | (refine h_un ?_; first | refine a_not ?_ | refine a_neg ?_) | (refine h_box ?_; first | refine b_box (fun nb_ hnb_ => ?_)) | (refine h_frz1 ?_; first | refine b_frz_p ?_ | refine b_frz_s ?_) | (refine h_store ?_; first | refine b_store_box ?_ | refine b_store_one ?_ | refine b_store_row ?_) | (refine h_idxP ?_; first | refine b_idxP_p ?_ | refine b_idxP_q ?_) | (refine h_mslice ?_; first | refine b_mslice (fun nb_ hnb_ => ?_)) | (refine h_bslice ?_; first | refine b_bslice (fun nb_ hnb_ => ?_)) | refine a_conv ?_ | refine a_convS ?_ | refine a_alloc (fun nb_ hnb_ => ?_) | refine b_build ?_ | refine b_fld ?_ | refine a_join ?_ | refine a_lenS ?_ | refine a_tt ?_)
    subst hQ
    exact ⟨_, [], FzS.all (.refl _), s, rfl, hJ, rfl⟩
end Go.Proofs.Ytadjimfkfmojkaa.Am

end
section
namespace Go.Proofs.Ytadjimfkfmojkaa.Am
set_option maxRecDepth 100000
set_option linter.unusedSimpArgs false
set_option linter.unusedVariables false
section
variable {w : WorldD} {s : SyncD} {t o : Int}
theorem lockAt_set {f : LockD → LockD} (h : inB o s.locks.length = true) {tx : Int} {d : List Bool} {th : List ThrD} : lockAt ⟨setLock s o f, tx, d, th⟩ o = f (lockAt s o) := by
  obtain ⟨o0, o1⟩ := inB_iff.1 h
  have hlt : o.toNat < s.locks.length := by omega
  unfold lockAt setLock
  simp [List.getD, hlt, lockAt]
theorem setLock_twice {f g : LockD → LockD} (h : inB o s.locks.length = true) {tx : Int} {d : List Bool} {th : List ThrD} : setLock ⟨setLock s o f, tx, d, th⟩ o g = setLock s o (fun x => g (f x)) := by
  have e := lockAt_set (s := s) (f := f) h (tx := tx) (d := d) (th := th)
  unfold setLock at e ⊢
  rw [e]
  simp
theorem setLock_same {f : LockD → LockD} (h : inB o s.locks.length = true) (hf : f (lockAt s o) = lockAt s o) : setLock s o f = s.locks := by
  obtain ⟨o0, o1⟩ := inB_iff.1 h
  have hlt : o.toNat < s.locks.length := by omega
  unfold setLock
  rw [hf]
  unfold lockAt
  rw [show s.locks.getD o.toNat default = s.locks[o.toNat] by simp [hlt]]
  simp
theorem fits_eq {a : SyncD} (h1 : a.locks.length = s.locks.length) (h2 : a.done.length = s.done.length) (h3 : a.threads.length = s.threads.length) : fitsS w a = fitsS w s := by
  unfold fitsS; rw [h1, h2, h3]
theorem setLock_len {f : LockD → LockD} : (setLock s o f).length = s.locks.length := by simp [setLock]
end
/-- what a lock event of a running thread wants -/
theorem en_lock {w : WorldD} {s : SyncD} {t k o : Int} (hk : k = 6 ∨ k = 7 ∨ k = 8 ∨ k = 9 ∨ k = 10 ∨ k = 11) : enabledS w s t k o = true ↔ fitsS w s = true ∧ inB t w.threads.length = true ∧ allowedS w k o = true ∧ (thrAt s t).status = 2 ∧ readyS w s t k o = true := by
  unfold enabledS
  rw [if_neg (by omega), if_neg (by omega)]
  simp only [Bool.and_eq_true, decide_eq_true_eq]
  constructor
  · rintro ⟨⟨⟨a, b⟩, c⟩, d, e⟩; exact ⟨a, b, c, d, e⟩
  · rintro ⟨a, b, c, d, e⟩; exact ⟨⟨⟨a, b⟩, c⟩, d, e⟩
theorem al_lock {w : WorldD} {k o : Int} (hk : k = 6 ∨ k = 7 ∨ k = 8 ∨ k = 9 ∨ k = 10 ∨ k = 11) (h : allowedS w k o = true) : inB o w.locks.length = true := by
  rcases hk with rfl | rfl | rfl | rfl | rfl | rfl <;> (simp [allowedS] at h; exact h.1)
theorem readers_back {l : List Int} {t : Int} (h : l.Pairwise (· < ·)) (hn : l.contains t = false) : (addRd l t).filter (fun y => !decide (y = t)) = l := by
  refine asc_ext ((addRd_asc l t).filter _) h fun x => ?_
  rw [List.mem_filter, addRd_mem]
  have : x = t → x ∉ l := fun e hm => by subst e; simp at hn; exact hn hm
  constructor
  · rintro ⟨h1 | h1, h2⟩
    · exact h1
    · simp [h1] at h2
  · intro hx
    refine ⟨.inl hx, ?_⟩
    simp
    exact fun e => this e hx
/-- taking and giving back -/
theorem back {s : SyncD} (hs : OInv s) {t k j o wk : Int} (hk : (k = 6 ∧ j = 7) ∨ (k = 8 ∧ j = 9) ∨ (k = 10 ∧ j = 11)) (hen : enabledS W0 s t k o = true) :
    enabledS W0 (applyS W0 s t k o wk).1 t k o = false ∧ enabledS W0 (applyS W0 s t k o wk).1 t j o = true ∧ applyS W0 (applyS W0 s t k o wk).1 t j o wk = (s, 0) := by
  obtain ⟨h1, h2, h3, h4, h5⟩ := (en_lock (by omega)).1 hen
  have hl : inB o s.locks.length = true := by rw [(fitsS_iff.1 h1).locks]; exact al_lock (by omega) h3
  obtain ⟨t0, t1⟩ := inB_iff.1 h2
  have hrd := lock_rd hs o
  have hal : allowedS W0 j o = true := by
    rcases hk with ⟨rfl, rfl⟩ | ⟨rfl, rfl⟩ | ⟨rfl, rfl⟩ <;> exact h3
  have fin : ∀ f : LockD → LockD, (applyS W0 s t k o wk).1 = { s with locks := setLock s o f } → readyS W0 { s with locks := setLock s o f } t k o = false → readyS W0 { s with locks := setLock s o f } t j o = true → applyS W0 { s with locks := setLock s o f } t j o wk = (s, 0) →
      enabledS W0 (applyS W0 s t k o wk).1 t k o = false ∧ enabledS W0 (applyS W0 s t k o wk).1 t j o = true ∧ applyS W0 (applyS W0 s t k o wk).1 t j o wk = (s, 0) := fun f e r1 r2 r3 => by
    rw [e]
    have hft : fitsS W0 { s with locks := setLock s o f } = true := (fits_eq (w := W0) (s := s) (a := { s with locks := setLock s o f }) setLock_len rfl rfl).trans h1
    refine ⟨?_, (en_lock (by omega)).2 ⟨hft, h2, hal, h4, r2⟩, r3⟩
    cases hx : enabledS W0 { s with locks := setLock s o f } t k o with
    | false => rfl
    | true =>
      have := ((en_lock (by omega)).1 hx).2.2.2.2
      rw [r1] at this; cases this
  rcases hk with ⟨rfl, rfl⟩ | ⟨rfl, rfl⟩ | ⟨rfl, rfl⟩
  · have ho : (lockAt s o).owner = -1 := by simpa [readyS] using h5
    refine fin (fun x => { x with owner := t }) (by simp [applyS]) ?_ ?_ ?_
    · simp [readyS, lockAt_set hl]; omega
    · simp [readyS, lockAt_set hl]
    · simp only [applyS, Int.reduceEq, if_true, if_false, or_self, or_true, true_or, reduceIte]
      rw [setLock_twice hl, setLock_same hl (by rw [show ({ owner := -1, readers := (lockAt s o).readers } : LockD) = lockAt s o by rw [← ho]])]
  · have hn : (lockAt s o).readers.contains t = false := by simp [readyS] at h5; simpa using h5.2
    refine fin (fun x => { x with readers := addRd x.readers t }) (by simp [applyS]) ?_ ?_ ?_
    · have : t ∈ addRd (lockAt s o).readers t := (addRd_mem _ _ _).2 (.inr rfl)
      simp [readyS, lockAt_set hl, this]
    · have : t ∈ addRd (lockAt s o).readers t := (addRd_mem _ _ _).2 (.inr rfl)
      simp [readyS, lockAt_set hl, this]
    · simp only [applyS, Int.reduceEq, if_true, if_false, or_self, or_true, true_or, reduceIte]
      rw [setLock_twice hl, setLock_same hl (by dsimp only; rw [readers_back hrd.1 hn])]
  · have ho : (lockAt s o).owner = -1 := by simp [readyS] at h5; exact h5.1
    refine fin (fun x => { x with owner := t }) (by simp [applyS]) ?_ ?_ ?_
    · simp [readyS, lockAt_set hl]; omega
    · simp [readyS, lockAt_set hl]
    · simp only [applyS, Int.reduceEq, if_true, if_false, or_self, or_true, true_or, reduceIte]
      rw [setLock_twice hl, setLock_same hl (by rw [show ({ owner := -1, readers := (lockAt s o).readers } : LockD) = lockAt s o by rw [← ho]])]
end Go.Proofs.Ytadjimfkfmojkaa.Am

end
section
namespace Go.Proofs.Ytadjimfkfmojkaa.Am
set_option linter.unusedVariables false
theorem fit0 : Fit Try.prog (fun _ => none) := ⟨fun t ts h => (by cases h), fit.names, fit.order⟩
theorem closed_pure {f : FuncId} {n : Nat} (hrun : isTrue (callBy Try.prog (exec Try.prog (fun _ => none) n) f [] Heap.empty) = true) : PureA Try.prog f [] (.bool true) := by
  have hd := (goods checkedAll).2
  have hs := callBy_sound (P := Try.prog) hd (fun c τ H e τ' H' dr hx => exec_sound fit0 hd n c τ H e τ' H' dr hx)
  cases hc : callBy Try.prog (exec Try.prog (fun _ => none) n) f [] Heap.empty with
  | none => rw [hc] at hrun; cases hrun
  | some r =>
    obtain ⟨v, H'⟩ := r
    rw [hc] at hrun
    have hv : v = .bool true := by
      unfold isTrue at hrun
      split at hrun
      · rename_i heq; cases heq; rfl
      · cases hrun
    subst hv
    have hV : CallV Try.prog f [] (.bool true) := fun w σ vs hW hvs => (hs.ok _ _ _ _ _ hc w σ vs hW hvs).mono fun e w' ⟨v', σ', he, k1, k2, k3, k4⟩ => ⟨v', σ', H', he, k1, k3⟩
    exact ⟨hs.body _ _ _ _ _ hc, fun H hb hS => ⟨.bool true, H, [], lift (.bool true) (fun i a h => by simp at h) hV H, .refl hb hS, rfl, rfl⟩⟩
set_option maxRecDepth 1000000 in
theorem awake08 : PureA Try.prog 23 [] (.bool true) := closed_pure (n := 1000) (by kernel_rfl)
end Go.Proofs.Ytadjimfkfmojkaa.Am

end
section
namespace Go.Proofs.Ytadjimfkfmojkaa.Am
open Go.ChangeShapes Go.WideShapes Go.ChangeAt Go.RowKit
set_option linter.unusedVariables false
def sig0 : Sig := ⟨fun _ => none, fun _ => False⟩
def tok0 : Nat → Prop := fun _ => False
/-- cells that read as the cells of a datum -/
def rAM {α : Type} (e : α → List AV) (G : α → Prop) : Rel α := fun w _ x cs => G x ∧ Reps w sig0 tok0 (e x) cs
theorem reps_one {w : World} {σ : Sig} {T : Nat → Prop} {a : AV} {v : Value} (h : Rep w σ T a v) : Reps w σ T [a] [v] := ⟨rfl, fun i x u h1 h2 => by
  match i with
  | 0 => cases h1; cases h2; exact h
  | i + 1 => simp at h1⟩
theorem reps_cons {w : World} {σ : Sig} {T : Nat → Prop} {a : AV} {v : Value} {l : List AV} {m : List Value} (h : Reps w σ T [a] [v]) (hl : Reps w σ T l m) : Reps w σ T (a :: l) (v :: m) := ⟨by simp [hl.1], fun i x u h1 h2 => by
  match i with
  | 0 => exact h.2 0 x u h1 h2
  | i + 1 => exact hl.2 i x u (by simpa using h1) (by simpa using h2)⟩
theorem reps_nil {w : World} {σ : Sig} {T : Nat → Prop} : Reps w σ T [] [] := ⟨rfl, fun i x u h1 h2 => by simp at h1⟩
section
variable {H : Type} {enc : TypeId × Value → H} {P : Program} {w : World} {base : Nat} {spare : Nat → Bool} {held : Bool}
theorem am_int {t : TypeId} {k : IntKind} (ht : P.underlying t = some (.int k)) : Opens H enc P w base spare held t (rAM (fun n : Int => [.int k n]) fun n => (Lit.int k n).wf = true) := fun fuel cs x h => by
  obtain ⟨n, rfl, hn⟩ := opens_int ht fuel cs x h
  exact ⟨n, hn, reps_one (.int k n)⟩
theorem am_slice {α : Type} {t e : TypeId} {size : Nat} {f : α → List AV} {G : α → Prop} (ht : P.underlying t = some (.slice e)) (hc : P.cellsOf e = size) (hs : 0 < size) (he : Opens H enc P w base spare held e (rAM f G)) :
    Opens H enc P w base spare held t (rAM (fun l : List α => [.lst (l.map f)]) fun l => l.length ≤ maxLen ∧ ∀ x ∈ l, G x) := fun fuel cs x h => by
  obtain ⟨l, A, c, rfl, h1, h2, h3⟩ := opens_slice ht hc hs he fuel cs x h
  refine ⟨l, ⟨by omega, fun x hx => ?_⟩, reps_one ?_⟩
  · obtain ⟨i, hi, rfl⟩ := List.getElem_of_mem hx
    obtain ⟨b, o, _, _, hall⟩ := h3 (by omega)
    obtain ⟨cs', _, hR, _⟩ := hall i l[i] (List.getElem?_eq_getElem hi)
    exact hR.1
  · rcases Nat.eq_zero_or_pos l.length with h0 | h0
    · have : l = [] := List.length_eq_zero_iff.1 h0
      subst this
      exact .lst0 A c h2
    · obtain ⟨b, o, rfl, hb, hall⟩ := h3 h0
      have := Rep.lst (w := w) (σ := sig0) (T := tok0) (l.map f) b o size c ⟨fun h => h, fun i r hr => ?_, fun i j hi hj => ?_, hs, by simpa using h0⟩ (by simpa using h1) h2 (fun i r j a u hr ha hu => ?_)
      · simpa using this
      · rw [List.getElem?_map] at hr
        cases hx : l[i]? with
        | none => rw [hx] at hr; cases hr
        | some y =>
          rw [hx] at hr; cases hr
          obtain ⟨cs', k1, k2, _⟩ := hall i y hx
          rw [k2.2.1, k1]
      · have hi' : i < l.length := by simpa using hi
        obtain ⟨cs', k1, k2, k3⟩ := hall i l[i] (List.getElem?_eq_getElem hi')
        exact ⟨cs'[j], k3 j _ (List.getElem?_eq_getElem (by omega))⟩
      · rw [List.getElem?_map] at hr
        cases hx : l[i]? with
        | none => rw [hx] at hr; cases hr
        | some y =>
          rw [hx] at hr; cases hr
          obtain ⟨cs', k1, k2, k3⟩ := hall i y hx
          have hj : j < cs'.length := by rw [← k2.2.1]; exact lt_of_some ha
          have hu' := k3 j _ (List.getElem?_eq_getElem hj)
          rw [hu] at hu'
          cases hu'
          exact k2.2.2 j a _ ha (List.getElem?_eq_getElem hj)
/-- a struct of single cells -/
theorem am_cells {t : TypeId} {fs : Array Field} (tys : List TypeId) {fuel : Nat} {cs : List Value} {x : DataW H × List MemPlace} (ht : P.underlying t = some (.struct fs)) (h : DataW.trod enc P w base spare held fuel t cs = some x)
    (hf : fs.toList.map (fun f => (f.type, f.offset)) = tys.zipIdx) (hc : tys.all (fun ty => P.cellsOf ty == 1) = true) (hn : P.cellsOf t = tys.length) :
    cs.length = tys.length ∧ ∀ (i : Nat) (ty : TypeId), tys[i]? = some ty → ∃ c m y, cs[i]? = some c ∧ DataW.trod enc P w base spare held m ty [c] = some y := by
  obtain ⟨hl, hall⟩ := opens_fields ht h
  rw [hn] at hl
  refine ⟨hl, fun i ty hi => ?_⟩
  have hlt := lt_of_some hi
  have hci : i < cs.length := by omega
  obtain ⟨m, y, hy⟩ := hall i ty i 1 [cs[i]] (by
    have := congrArg (fun l => l[i]?) hf
    simp only [List.getElem?_map, List.getElem?_zipIdx, hi, Array.getElem?_toList] at this
    simpa using this) (by rw [List.all_eq_true] at hc; simpa using hc ty (List.mem_of_getElem? hi)) (by rw [List.drop_eq_getElem_cons hci]; rfl)
  exact ⟨cs[i], m, y, List.getElem?_eq_getElem hci, hy⟩
end
/-- A law that is true over the empty heap, in the model. -/
theorem law_calls {P : Program} {f : FuncId} {args : List AV} {vs : List Value} (h : PureA P f args (.bool true)) (w : World) (hv : Reps w sig0 tok0 args vs) : Calls P f vs.toArray w fun e w' => e = .returned (.bool true) ∧ Below w.heap.size w w' := by
  obtain ⟨v, H', L', h1, h2, rfl, rfl⟩ := h.2 Heap.empty (fun b _ => empty_get b) ⟨List.nodup_nil, fun p hp => by simp at hp⟩
  have hown : Own sig0 Heap.empty = tok0 := by
    funext c
    apply propext
    constructor
    · rintro (h | ⟨b, x, pl, h4, _, _⟩)
      · exact h
      · rw [empty_get] at h4; cases h4
    · exact fun h => h.elim
  have hW : WRel w sig0 Heap.empty := ⟨fun b pl hb => (by cases hb), fun b pl hb => (by cases hb), fun b x hb => (by rw [empty_get] at hb; cases hb), fun c hc => hc.elim, fun b b' x x' pl pl' hb => (by rw [empty_get] at hb; cases hb)⟩
  refine (h1 w sig0 vs hW (by rw [hown]; exact hv)).mono ?_
  rintro e w' ⟨v', σ', rfl, k1, k2, k3, _⟩
  cases k1
  rw [hown] at k3
  exact ⟨rfl, k3.os, k3.tape, k3.output, k3.size, fun k hk => k3.keep k hk fun h => h⟩
end Go.Proofs.Ytadjimfkfmojkaa.Am

end
section
namespace Go.Proofs.Ytadjimfkfmojkaa.Am
set_option linter.unusedVariables false
set_option linter.unusedSimpArgs false
set_option maxRecDepth 100000
theorem a_convE {k k' : IntKind} {n m : Int} {K : AV → Prop} (e : k.wrap n = m) (h : K (.int k m)) : W.conv k (.int k' n) K := a_conv (by rw [e]; exact h)
theorem u8_nn {x : Int} (h : (Lit.int .u8 x).wf = true) : 0 ≤ x ∧ x < 256 := by
  simp only [Lit.wf, Bool.and_eq_true, decide_eq_true_eq] at h
  have h1 : IntKind.u8.min = 0 := by decide
  have h2 : IntKind.u8.max = 255 := by decide
  omega
theorem reach0 (l : List EvD) (hl : l.length ≤ 200) : CallA Try.prog 25 [.agg W0.enc, .lst (l.map EvD.enc)] [] fun v L => ∃ s, v = .agg s.enc ∧ OInv s ∧ L = [] :=
  reach_ok OInv (fun s h => h.small) inv_start (fun s t k o wake h hen => oinv_step h hen) l hl
end Go.Proofs.Ytadjimfkfmojkaa.Am

end
section
namespace Go.Proofs.Ytadjimfkfmojkaa.Am
set_option maxRecDepth 100000
set_option linter.unusedSimpArgs false
set_option linter.unusedVariables false
theorem waits_iff {T : List ThrD} (hc : ∀ x ∈ T, x.cond = 0) {i : Nat} (hi : i < T.length) : waitsAt T 0 i = decide (T[i].status = 3) := by
  unfold waitsAt waitsS
  have : T.getD i default = T[i] := by simp [hi]
  rw [this, hc _ (List.getElem_mem hi)]
  simp
theorem mem_waiting {T : List ThrD} {c : Int} {n i : Nat} : i ∈ waiting T c n ↔ i < n ∧ waitsAt T c i = true := by simp [waiting]
/-- the thread that is woken waits -/
theorem notify_waits {T : List ThrD} {wake : Int} {i : Nat} (h : notifyS T 0 wake = (i : Int)) : i < T.length ∧ waitsAt T 0 i = true := by
  have h0 : 0 ≤ chosenOf (waiting T 0 T.length) wake := by unfold notifyS at h; omega
  have := chosen_mem h0
  unfold notifyS at h
  rw [h] at this
  exact mem_waiting.1 (by simpa using this)
/-- the chosen one is woken if it waits -/
theorem notify_wake {T : List ThrD} {i : Nat} (hi : i < T.length) (h : waitsAt T 0 i = true) : notifyS T 0 (i : Int) = (i : Int) := by
  have hm : i ∈ waiting T 0 T.length := mem_waiting.2 ⟨hi, h⟩
  unfold notifyS
  cases hl : waiting T 0 T.length with
  | nil => rw [hl] at hm; cases hm
  | cons u l =>
    rw [hl] at hm
    simp only [chosenOf]
    rw [if_pos (List.any_eq_true.2 ⟨i, hm, by simp⟩)]
theorem notify_none (T : List ThrD) (wake : Int) : decide (notifyS T 0 wake = -1) = decide (((waiting T 0 T.length).length : Int) = 0) := by
  unfold notifyS
  cases hl : waiting T 0 T.length with
  | nil => simp [chosenOf]
  | cons u l =>
    have : chosenOf (u :: l) wake ≠ -1 := by
      simp only [chosenOf]
      split
      · rename_i h
        obtain ⟨x, _, hx⟩ := List.any_eq_true.1 h
        have := of_decide_eq_true hx
        omega
      · omega
    have h2 : ((u :: l).length : Int) ≠ 0 := by simp; omega
    rw [decide_eq_false this, decide_eq_false h2]
theorem woken_st {T : List ThrD} {wake : Int} (hc : ∀ x ∈ T, x.cond = 0) {i : Nat} (hi : i < T.length) (hi2 : i < (wokenS T 0 wake).length) :
    decide ((wokenS T 0 wake)[i].status ≠ T[i].status) = decide (notifyS T 0 wake = (i : Int)) := by
  unfold wokenS at hi2 ⊢
  by_cases h : 0 ≤ notifyS T 0 wake
  · have hn : notifyS T 0 wake = ((notifyS T 0 wake).toNat : Int) := (Int.toNat_of_nonneg h).symm
    obtain ⟨h1, h2⟩ := notify_waits hn
    rw [waits_iff hc h1] at h2
    have h3 := of_decide_eq_true h2
    simp only [if_pos h]
    unfold setSt
    by_cases hk : (notifyS T 0 wake).toNat = i
    · subst hk
      rw [List.getElem_set_self, h3, decide_eq_true hn]
      rfl
    · have hne : ¬ notifyS T 0 wake = (i : Int) := by omega
      rw [List.getElem_set_ne hk, decide_eq_false hne]
      simp
  · simp only [if_neg h]
    rw [decide_eq_false (p := notifyS T 0 wake = (i : Int)) (by omega)]
    simp
theorem wake_st {T : List ThrD} (hc : ∀ x ∈ T, x.cond = 0) {i : Nat} (hi : i < T.length) (hi2 : i < (wakeAll T 0 T.length).length) :
    decide ((wakeAll T 0 T.length)[i].status ≠ T[i].status) = decide (T[i].status = 3) := by
  have h := wakeAll_at T 0 T.length i hi
  rw [List.getElem?_eq_getElem hi2] at h
  have h := Option.some.inj h
  rw [h]
  have hw := waits_iff hc hi
  have : waitsS T[i] 0 = decide (T[i].status = 3) := by rw [← hw]; simp [waitsAt, hi]
  rw [this]
  by_cases h3 : T[i].status = 3
  · simp [h3, hi]
  · simp [h3]
theorem en_same (s : SyncD) (t : Int) : enabledS W0 s t 19 0 = enabledS W0 s t 18 0 := by
  unfold enabledS
  simp [readyS, allowedS]
theorem wait_len (T : List ThrD) (n : Nat) : (waiting T 0 n).length ≤ n := Nat.le_trans (List.length_filter_le _ _) (by simp)
end Go.Proofs.Ytadjimfkfmojkaa.Am

end
section
namespace Go.Proofs.Ytadjimfkfmojkaa.Am
set_option linter.unusedVariables false
set_option linter.unusedSimpArgs false
set_option maxRecDepth 100000
theorem eq_bool2 {x y : Bool} {K : AV → Prop} (e : x = y) (h : K (.bool true)) : W.bin Try.prog Fl .eql 4 (.bool x) (.bool y) K := by
  rw [eql_b _ (show Try.prog.underlying 4 = some .bool by kernel_rfl)]
  subst e
  cases x <;> exact h
/-- the loop over the threads -/
theorem not_loop (s a b : SyncD) (hs : OInv s) (wake : Int) (ha : a.threads = wokenS s.threads 0 wake) (hb : b.threads = wakeAll s.threads 0 s.threads.length) (Q : AV → SH → Prop) (hq : Q (.bool true) []) (hw0 : IntKind.i64.wrap wake = wake) :
    W.loop (law08_ObjectNotifies_l1 Q) [.int .i8 wake, .pptr [s.enc] 0 0, .pptr [a.enc] 0 0, .int .i64 (notifyS s.threads 0 wake), .pptr [b.enc] 0 0, .int .i64 ((waiting s.threads 0 s.threads.length).length : Nat), .int .i64 0, .int .i64 (0 : Nat)] [] := by
  refine for_by s.threads.length (fun i => ([.int .i8 wake, .pptr [s.enc] 0 0, .pptr [a.enc] 0 0, .int .i64 (notifyS s.threads 0 wake), .pptr [b.enc] 0 0, .int .i64 ((waiting s.threads 0 s.threads.length).length : Nat), .int .i64 ((waiting s.threads 0 i).length : Nat), .int .i64 i], [])) (fun _ => True) trivial (by simp [waiting]) rfl ?_
  intro i hi _
  dsimp only
  unfold law08_ObjectNotifies_l1
  have h3 := hs.nt
  rcases Nat.lt_or_ge i s.threads.length with g1 | g1
  · have hd := dec_lt g1
    have hx := map_at (f := ThrD.enc) g1
    have g2 : i < a.threads.length := by rw [ha, woken_len]; exact g1
    have g3 : i < b.threads.length := by rw [hb, wakeAll_len]; exact g1
    have hxa := map_at (f := ThrD.enc) g2
    have hxb := map_at (f := ThrD.enc) g3
    have la : a.threads.length = s.threads.length := by rw [ha, woken_len]
    have lb : b.threads.length = s.threads.length := by rw [hb, wakeAll_len]
    have sa : decide (a.threads[i].status ≠ s.threads[i].status) = decide (notifyS s.threads 0 wake = (i : Int)) := by
      have := woken_st (wake := wake) hs.cond g1 (by rw [← ha]; exact g2)
      simp only [← ha] at this
      exact this
    have sb : decide (b.threads[i].status ≠ s.threads[i].status) = decide (s.threads[i].status = 3) := by
      have := wake_st hs.cond g1 (by rw [← hb]; exact g3)
      simp only [← hb] at this
      exact this
    have dla : decide ((a.threads.length : Int) ≠ (s.threads.length : Int)) = false := by rw [la]; simp
    have dlb : decide ((b.threads.length : Int) ≠ (s.threads.length : Int)) = false := by rw [lb]; simp
    have da : decide (decide (a.threads[i].status ≠ s.threads[i].status) ≠ decide (notifyS s.threads 0 wake = (i : Int))) = false := by rw [sa]; simp
    have db : decide (decide (b.threads[i].status ≠ s.threads[i].status) ≠ decide (s.threads[i].status = 3)) = false := by rw [sb]; simp
    have hws := waiting_succ s.threads 0 i
    have hwt := waits_iff hs.cond g1
    rw [hwt] at hws
    have hnw := fun h => notify_waits (T := s.threads) (wake := wake) (i := i) h
    rw [hwt] at hnw
    have hnk : s.threads[i].status = 3 → wake = (i : Int) → notifyS s.threads 0 wake = (i : Int) := fun h1 h2 => by
      subst h2
      exact notify_wake g1 (by rw [hwt]; exact decide_eq_true h1)
    have hwl := wait_len s.threads i
    have fin : ∀ n : Int, n = ((waiting s.threads 0 (i + 1)).length : Nat) → ∃ j, i < j ∧ j ≤ s.threads.length ∧ True ∧ FzS [.int .i8 wake, .pptr [s.enc] 0 0, .pptr [a.enc] 0 0, .int .i64 (notifyS s.threads 0 wake), .pptr [b.enc] 0 0, .int .i64 ((waiting s.threads 0 s.threads.length).length : Nat), .int .i64 n, .int .i64 (IntKind.i64.wrap ((i : Int) + 1))] []
        [.int .i8 wake, .pptr [s.enc] 0 0, .pptr [a.enc] 0 0, .int .i64 (notifyS s.threads 0 wake), .pptr [b.enc] 0 0, .int .i64 ((waiting s.threads 0 s.threads.length).length : Nat), .int .i64 ((waiting s.threads 0 j).length : Nat), .int .i64 j] [] :=
      fun n hn => ⟨i + 1, by omega, by omega, trivial, fzs_eq (by rw [i64_succ g1 (by omega), hn]) rfl⟩
    cases hc : decide (s.threads[i].status = 3) with
    | false =>
      have nc : (!decide (s.threads[i].status = 3)) = true := by rw [hc]; rfl
      rw [hc] at hws hnw
      have hn : decide (notifyS s.threads 0 wake = (i : Int)) = false := decide_eq_false fun h => by have := (hnw h).2; cases this
      cases he : decide (wake = (i : Int)) <;>
      · repeat' (first | refine a_convE hw0 ?_ | refine neq_bool _ _ ?_ | (refine h_load1 ?_; first | refine b_load_q ?_ | refine b_load_i ?_ | refine b_load_p ?_) | (refine h_faddr ?_; first | refine a_faddr_q ?_ | refine a_faddr_p ?_) | (refine h_bin ?_; first | refine a_eql ?_ | refine a_lss ?_ | refine a_neq ?_ | refine a_geq ?_ | refine a_gtr ?_ | refine a_leq ?_ | refine a_add ?_ | refine a_sub ?_ | refine a_mul ?_ | refine a_eqs ?_ | refine a_nes ?_ | refine b_rem ?_ | refine b_quo ?_) | (refine h_cond ?_; first | refine b_cond_t ?_ | refine b_cond_f ?_ | refine a_cond (fun h => ?_) (fun h => ?_)) | (refine h_idx ?_; first | refine b_idx_n ?_ | refine b_idx_l ?_ | refine b_idx_i ?_ | refine b_idx_sn ?_ | refine b_idx_s ?_) | (refine h_row ?_; first | refine b_row_q ?_ | refine b_row_i ?_ | refine b_row_p ?_) | (refine h_len ?_; first | refine a_len_m ?_ | refine a_len_l ?_ | refine a_len_s ?_ | refine a_len_n ?_ | refine a_len_e ?_) | (refine h_ext ?_; first | refine b_ext ?_) | (refine h_calm ?_; first | refine b_calm ?_) | (refine h_note ?_; first | refine a_note ?_) | (refine h_pick ?_; first | refine b_pick_t ?_ | refine b_pick_f ?_) | (refine h_grd ?_; first | refine b_grd_y ?_ | refine b_grd_n ?_ | refine a_grd_u ?_ | refine a_grd_t (fun h => ?_) (fun h => ?_) | refine a_grd_f (fun h => ?_) (fun h => ?_)) | (refine h_dgrd ?_; first | refine b_dgrd_y ?_ | refine b_dgrd_n ?_ | refine a_dgrd_u ?_ | refine a_dgrd_t (fun h => ?_) (fun h => ?_) | refine a_dgrd_f (fun h => ?_) (fun h => ?_)) | (refine h_nilchk ?_; first | refine a_nil_p ?_ | refine a_nil_q ?_ | refine a_nil_f ?_) | refine a_mark ?_ | refine a_dmark ?_ | (refine h_un ?_; first | refine a_not ?_ | refine a_neg ?_) | (refine h_box ?_; first | refine b_box (fun nb_ hnb_ => ?_)) | (refine h_frz1 ?_; first | refine b_frz_p ?_ | refine b_frz_s ?_) | (refine h_store ?_; first | refine b_store_box ?_ | refine b_store_one ?_ | refine b_store_row ?_) | (refine h_idxP ?_; first | refine b_idxP_p ?_ | refine b_idxP_q ?_) | (refine h_mslice ?_; first | refine b_mslice (fun nb_ hnb_ => ?_)) | (refine h_bslice ?_; first | refine b_bslice (fun nb_ hnb_ => ?_)) | refine a_conv ?_ | refine a_convS ?_ | refine a_alloc (fun nb_ hnb_ => ?_) | refine b_build ?_ | refine b_fld ?_ | refine a_join ?_ | refine a_lenS ?_ | refine a_tt ?_)
        exact fin _ (by rw [hws]; simp [slotOf])
    | true =>
      have nc : (!decide (s.threads[i].status = 3)) = false := by rw [hc]; rfl
      rw [hc] at hws
      have c3 := of_decide_eq_true hc
      have e1 : IntKind.i64.wrap (((waiting s.threads 0 i).length : Nat) + 1 : Int) = ((waiting s.threads 0 (i + 1)).length : Nat) := by
        rw [i64_succ (Nat.lt_of_le_of_lt hwl g1) (by omega), hws]; simp
      cases hn : decide (notifyS s.threads 0 wake = (i : Int)) with
      | false =>
        have nn : (!decide (notifyS s.threads 0 wake = (i : Int))) = true := by rw [hn]; rfl
        have he : decide (wake = (i : Int)) = false := decide_eq_false fun h => of_decide_eq_false hn (hnk c3 h)
        repeat' (first | refine a_convE hw0 ?_ | refine neq_bool _ _ ?_ | (refine h_load1 ?_; first | refine b_load_q ?_ | refine b_load_i ?_ | refine b_load_p ?_) | (refine h_faddr ?_; first | refine a_faddr_q ?_ | refine a_faddr_p ?_) | (refine h_bin ?_; first | refine a_eql ?_ | refine a_lss ?_ | refine a_neq ?_ | refine a_geq ?_ | refine a_gtr ?_ | refine a_leq ?_ | refine a_add ?_ | refine a_sub ?_ | refine a_mul ?_ | refine a_eqs ?_ | refine a_nes ?_ | refine b_rem ?_ | refine b_quo ?_) | (refine h_cond ?_; first | refine b_cond_t ?_ | refine b_cond_f ?_ | refine a_cond (fun h => ?_) (fun h => ?_)) | (refine h_idx ?_; first | refine b_idx_n ?_ | refine b_idx_l ?_ | refine b_idx_i ?_ | refine b_idx_sn ?_ | refine b_idx_s ?_) | (refine h_row ?_; first | refine b_row_q ?_ | refine b_row_i ?_ | refine b_row_p ?_) | (refine h_len ?_; first | refine a_len_m ?_ | refine a_len_l ?_ | refine a_len_s ?_ | refine a_len_n ?_ | refine a_len_e ?_) | (refine h_ext ?_; first | refine b_ext ?_) | (refine h_calm ?_; first | refine b_calm ?_) | (refine h_note ?_; first | refine a_note ?_) | (refine h_pick ?_; first | refine b_pick_t ?_ | refine b_pick_f ?_) | (refine h_grd ?_; first | refine b_grd_y ?_ | refine b_grd_n ?_ | refine a_grd_u ?_ | refine a_grd_t (fun h => ?_) (fun h => ?_) | refine a_grd_f (fun h => ?_) (fun h => ?_)) | (refine h_dgrd ?_; first | refine b_dgrd_y ?_ | refine b_dgrd_n ?_ | refine a_dgrd_u ?_ | refine a_dgrd_t (fun h => ?_) (fun h => ?_) | refine a_dgrd_f (fun h => ?_) (fun h => ?_)) | (refine h_nilchk ?_; first | refine a_nil_p ?_ | refine a_nil_q ?_ | refine a_nil_f ?_) | refine a_mark ?_ | refine a_dmark ?_ | (refine h_un ?_; first | refine a_not ?_ | refine a_neg ?_) | (refine h_box ?_; first | refine b_box (fun nb_ hnb_ => ?_)) | (refine h_frz1 ?_; first | refine b_frz_p ?_ | refine b_frz_s ?_) | (refine h_store ?_; first | refine b_store_box ?_ | refine b_store_one ?_ | refine b_store_row ?_) | (refine h_idxP ?_; first | refine b_idxP_p ?_ | refine b_idxP_q ?_) | (refine h_mslice ?_; first | refine b_mslice (fun nb_ hnb_ => ?_)) | (refine h_bslice ?_; first | refine b_bslice (fun nb_ hnb_ => ?_)) | refine a_conv ?_ | refine a_convS ?_ | refine a_alloc (fun nb_ hnb_ => ?_) | refine b_build ?_ | refine b_fld ?_ | refine a_join ?_ | refine a_lenS ?_ | refine a_tt ?_)
        exact fin _ e1
      | true =>
        have nn : (!decide (notifyS s.threads 0 wake = (i : Int))) = false := by rw [hn]; rfl
        cases he : decide (wake = (i : Int)) <;>
        · repeat' (first | refine a_convE hw0 ?_ | refine neq_bool _ _ ?_ | (refine h_load1 ?_; first | refine b_load_q ?_ | refine b_load_i ?_ | refine b_load_p ?_) | (refine h_faddr ?_; first | refine a_faddr_q ?_ | refine a_faddr_p ?_) | (refine h_bin ?_; first | refine a_eql ?_ | refine a_lss ?_ | refine a_neq ?_ | refine a_geq ?_ | refine a_gtr ?_ | refine a_leq ?_ | refine a_add ?_ | refine a_sub ?_ | refine a_mul ?_ | refine a_eqs ?_ | refine a_nes ?_ | refine b_rem ?_ | refine b_quo ?_) | (refine h_cond ?_; first | refine b_cond_t ?_ | refine b_cond_f ?_ | refine a_cond (fun h => ?_) (fun h => ?_)) | (refine h_idx ?_; first | refine b_idx_n ?_ | refine b_idx_l ?_ | refine b_idx_i ?_ | refine b_idx_sn ?_ | refine b_idx_s ?_) | (refine h_row ?_; first | refine b_row_q ?_ | refine b_row_i ?_ | refine b_row_p ?_) | (refine h_len ?_; first | refine a_len_m ?_ | refine a_len_l ?_ | refine a_len_s ?_ | refine a_len_n ?_ | refine a_len_e ?_) | (refine h_ext ?_; first | refine b_ext ?_) | (refine h_calm ?_; first | refine b_calm ?_) | (refine h_note ?_; first | refine a_note ?_) | (refine h_pick ?_; first | refine b_pick_t ?_ | refine b_pick_f ?_) | (refine h_grd ?_; first | refine b_grd_y ?_ | refine b_grd_n ?_ | refine a_grd_u ?_ | refine a_grd_t (fun h => ?_) (fun h => ?_) | refine a_grd_f (fun h => ?_) (fun h => ?_)) | (refine h_dgrd ?_; first | refine b_dgrd_y ?_ | refine b_dgrd_n ?_ | refine a_dgrd_u ?_ | refine a_dgrd_t (fun h => ?_) (fun h => ?_) | refine a_dgrd_f (fun h => ?_) (fun h => ?_)) | (refine h_nilchk ?_; first | refine a_nil_p ?_ | refine a_nil_q ?_ | refine a_nil_f ?_) | refine a_mark ?_ | refine a_dmark ?_ | (refine h_un ?_; first | refine a_not ?_ | refine a_neg ?_) | (refine h_box ?_; first | refine b_box (fun nb_ hnb_ => ?_)) | (refine h_frz1 ?_; first | refine b_frz_p ?_ | refine b_frz_s ?_) | (refine h_store ?_; first | refine b_store_box ?_ | refine b_store_one ?_ | refine b_store_row ?_) | (refine h_idxP ?_; first | refine b_idxP_p ?_ | refine b_idxP_q ?_) | (refine h_mslice ?_; first | refine b_mslice (fun nb_ hnb_ => ?_)) | (refine h_bslice ?_; first | refine b_bslice (fun nb_ hnb_ => ?_)) | refine a_conv ?_ | refine a_convS ?_ | refine a_alloc (fun nb_ hnb_ => ?_) | refine b_build ?_ | refine b_fld ?_ | refine a_join ?_ | refine a_lenS ?_ | refine a_tt ?_)
          exact fin _ e1
  · have hd := dec_ge g1
    have hi0 : i = s.threads.length := by omega
    subst hi0
    have h1 : decide (((waiting s.threads 0 s.threads.length).length : Int) = ((waiting s.threads 0 s.threads.length).length : Int)) = true := decide_eq_true rfl
    have h2 := notify_none s.threads wake
    repeat' (first | refine eq_bool2 h2 ?_ | (refine h_load1 ?_; first | refine b_load_q ?_ | refine b_load_i ?_ | refine b_load_p ?_) | (refine h_faddr ?_; first | refine a_faddr_q ?_ | refine a_faddr_p ?_) | (refine h_bin ?_; first | refine a_eql ?_ | refine a_lss ?_ | refine a_neq ?_ | refine a_geq ?_ | refine a_gtr ?_ | refine a_leq ?_ | refine a_add ?_ | refine a_sub ?_ | refine a_mul ?_ | refine a_eqs ?_ | refine a_nes ?_ | refine b_rem ?_ | refine b_quo ?_) | (refine h_cond ?_; first | refine b_cond_t ?_ | refine b_cond_f ?_ | refine a_cond (fun h => ?_) (fun h => ?_)) | (refine h_idx ?_; first | refine b_idx_n ?_ | refine b_idx_l ?_ | refine b_idx_i ?_ | refine b_idx_sn ?_ | refine b_idx_s ?_) | (refine h_row ?_; first | refine b_row_q ?_ | refine b_row_i ?_ | refine b_row_p ?_) | (refine h_len ?_; first | refine a_len_m ?_ | refine a_len_l ?_ | refine a_len_s ?_ | refine a_len_n ?_ | refine a_len_e ?_) | (refine h_ext ?_; first | refine b_ext ?_) | (refine h_calm ?_; first | refine b_calm ?_) | (refine h_note ?_; first | refine a_note ?_) | (refine h_pick ?_; first | refine b_pick_t ?_ | refine b_pick_f ?_) | (refine h_grd ?_; first | refine b_grd_y ?_ | refine b_grd_n ?_ | refine a_grd_u ?_ | refine a_grd_t (fun h => ?_) (fun h => ?_) | refine a_grd_f (fun h => ?_) (fun h => ?_)) | (refine h_dgrd ?_; first | refine b_dgrd_y ?_ | refine b_dgrd_n ?_ | refine a_dgrd_u ?_ | refine a_dgrd_t (fun h => ?_) (fun h => ?_) | refine a_dgrd_f (fun h => ?_) (fun h => ?_)) | (refine h_nilchk ?_; first | refine a_nil_p ?_ | refine a_nil_q ?_ | refine a_nil_f ?_) | refine a_mark ?_ | refine a_dmark ?_ | ((with_reducible refine h_fn 23 ?_); refine m_call (awake08) ?_) | ((with_reducible refine h_dfn 23 ?_); refine b_dcall (awake08) ?_) | (refine h_un ?_; first | refine a_not ?_ | refine a_neg ?_) | (refine h_box ?_; first | refine b_box (fun nb_ hnb_ => ?_)) | (refine h_frz1 ?_; first | refine b_frz_p ?_ | refine b_frz_s ?_) | (refine h_store ?_; first | refine b_store_box ?_ | refine b_store_one ?_ | refine b_store_row ?_) | (refine h_idxP ?_; first | refine b_idxP_p ?_ | refine b_idxP_q ?_) | (refine h_mslice ?_; first | refine b_mslice (fun nb_ hnb_ => ?_)) | (refine h_bslice ?_; first | refine b_bslice (fun nb_ hnb_ => ?_)) | refine a_conv ?_ | refine a_convS ?_ | refine a_alloc (fun nb_ hnb_ => ?_) | refine b_build ?_ | refine b_fld ?_ | refine a_join ?_ | refine a_lenS ?_ | refine a_tt ?_)
    all_goals exact hq
theorem i8_nn {x : Int} (h : (Lit.int .i8 x).wf = true) : -128 ≤ x ∧ x < 128 := by
  simp only [Lit.wf, Bool.and_eq_true, decide_eq_true_eq] at h
  have h1 : IntKind.i8.min = -128 := by decide
  have h2 : IntKind.i8.max = 127 := by decide
  omega
end Go.Proofs.Ytadjimfkfmojkaa.Am

end
section
namespace Go.Proofs.Ytadjimfkfmojkaa.Am
set_option linter.unusedVariables false
set_option linter.unusedSimpArgs false
set_option maxRecDepth 100000
theorem not_c4 (s : SyncD) (hs : OInv s) (t wake : Int) (ht : 0 ≤ t ∧ t < 256) (hw : -128 ≤ wake ∧ wake < 128) (Q : AV → SH → Prop) (hq : Q (.bool true) []) :
    law08_ObjectNotifies_c4 (.int .u8 t) (.pptr [W0.enc] 0 0) (.int .i8 wake) Q (.agg s.enc) [] := by
  have ht0 : IntKind.i64.wrap t = t := IntWalk.i64_in _ (by omega)
  have hw0 : IntKind.i64.wrap wake = wake := IntWalk.i64_in _ (by omega)
  have hes := en_same s (t.tmod 3)
  have hap1 := apply_ok W0 s (t.tmod 3) 18 0 wake hs.small
  have hap2 := apply_ok W0 s (t.tmod 3) 19 0 wake hs.small
  unfold law08_ObjectNotifies_c4
  cases hen : enabledS W0 s (t.tmod 3) 18 0 with
  | false =>
    have e1 : resS W0 s (t.tmod 3) 18 0 wake = (zeroS, 0, false) := by unfold resS; rw [hen]; rfl
    have e2 : resS W0 s (t.tmod 3) 19 0 wake = (zeroS, 0, false) := by unfold resS; rw [hes, hen]; rfl
    rw [e1] at hap1
    rw [e2] at hap2
    unfold encR at hap1 hap2
    repeat' (first | refine a_convE ht0 ?_ | refine a_convE hw0 ?_ | refine neq_bool _ _ ?_ | (refine h_load1 ?_; first | refine b_load_q ?_ | refine b_load_i ?_ | refine b_load_p ?_) | (refine h_faddr ?_; first | refine a_faddr_q ?_ | refine a_faddr_p ?_) | (refine h_bin ?_; first | refine a_eql ?_ | refine a_lss ?_ | refine a_neq ?_ | refine a_geq ?_ | refine a_gtr ?_ | refine a_leq ?_ | refine a_add ?_ | refine a_sub ?_ | refine a_mul ?_ | refine a_eqs ?_ | refine a_nes ?_ | refine b_rem ?_ | refine b_quo ?_) | (refine h_cond ?_; first | refine b_cond_t ?_ | refine b_cond_f ?_ | refine a_cond (fun h => ?_) (fun h => ?_)) | (refine h_idx ?_; first | refine b_idx_n ?_ | refine b_idx_l ?_ | refine b_idx_i ?_ | refine b_idx_sn ?_ | refine b_idx_s ?_) | (refine h_row ?_; first | refine b_row_q ?_ | refine b_row_i ?_ | refine b_row_p ?_) | (refine h_len ?_; first | refine a_len_m ?_ | refine a_len_l ?_ | refine a_len_s ?_ | refine a_len_n ?_ | refine a_len_e ?_) | (refine h_ext ?_; first | refine b_ext ?_) | (refine h_calm ?_; first | refine b_calm ?_) | (refine h_note ?_; first | refine a_note ?_) | (refine h_pick ?_; first | refine b_pick_t ?_ | refine b_pick_f ?_) | (refine h_grd ?_; first | refine b_grd_y ?_ | refine b_grd_n ?_ | refine a_grd_u ?_ | refine a_grd_t (fun h => ?_) (fun h => ?_) | refine a_grd_f (fun h => ?_) (fun h => ?_)) | (refine h_dgrd ?_; first | refine b_dgrd_y ?_ | refine b_dgrd_n ?_ | refine a_dgrd_u ?_ | refine a_dgrd_t (fun h => ?_) (fun h => ?_) | refine a_dgrd_f (fun h => ?_) (fun h => ?_)) | (refine h_nilchk ?_; first | refine a_nil_p ?_ | refine a_nil_q ?_ | refine a_nil_f ?_) | refine a_mark ?_ | refine a_dmark ?_ | ((with_reducible refine h_fn 26 ?_); refine m_call (hap1) ?_) | ((with_reducible refine h_dfn 26 ?_); refine b_dcall (hap1) ?_) | ((with_reducible refine h_fn 26 ?_); refine m_call (hap2) ?_) | ((with_reducible refine h_dfn 26 ?_); refine b_dcall (hap2) ?_) | ((with_reducible refine h_fn 23 ?_); refine m_call (awake08) ?_) | ((with_reducible refine h_dfn 23 ?_); refine b_dcall (awake08) ?_) | (refine h_un ?_; first | refine a_not ?_ | refine a_neg ?_) | (refine h_box ?_; first | refine b_box (fun nb_ hnb_ => ?_)) | (refine h_frz1 ?_; first | refine b_frz_p ?_ | refine b_frz_s ?_) | (refine h_store ?_; first | refine b_store_box ?_ | refine b_store_one ?_ | refine b_store_row ?_) | (refine h_idxP ?_; first | refine b_idxP_p ?_ | refine b_idxP_q ?_) | (refine h_mslice ?_; first | refine b_mslice (fun nb_ hnb_ => ?_)) | (refine h_bslice ?_; first | refine b_bslice (fun nb_ hnb_ => ?_)) | refine a_conv ?_ | refine a_convS ?_ | refine a_alloc (fun nb_ hnb_ => ?_) | refine b_build ?_ | refine b_fld ?_ | refine a_join ?_ | refine a_lenS ?_ | refine a_tt ?_)
    exact hq
  | true =>
    have ea1 : applyS W0 s (t.tmod 3) 18 0 wake = ({ s with threads := wokenS s.threads 0 wake }, notifyS s.threads 0 wake) := by
      simp only [applyS, Int.reduceEq, if_true, if_false, or_self, or_true, true_or, reduceIte]
    have ea2 : applyS W0 s (t.tmod 3) 19 0 wake = ({ s with threads := wakeS s 0 }, (((waiting s.threads 0 s.threads.length).length : Nat) : Int)) := by
      simp only [applyS, Int.reduceEq, if_true, if_false, or_self, or_true, true_or, reduceIte]
    have e1 : resS W0 s (t.tmod 3) 18 0 wake = ({ s with threads := wokenS s.threads 0 wake }, notifyS s.threads 0 wake, true) := by unfold resS; rw [hen, ea1]; rfl
    have e2 : resS W0 s (t.tmod 3) 19 0 wake = ({ s with threads := wakeS s 0 }, (((waiting s.threads 0 s.threads.length).length : Nat) : Int), true) := by unfold resS; rw [hes, hen, ea2]; rfl
    rw [e1] at hap1
    rw [e2] at hap2
    unfold encR at hap1 hap2
    obtain ⟨a, ha⟩ : ∃ a : SyncD, a = { s with threads := wokenS s.threads 0 wake } := ⟨_, rfl⟩
    obtain ⟨b, hb⟩ : ∃ b : SyncD, b = { s with threads := wakeS s 0 } := ⟨_, rfl⟩
    rw [← ha] at hap1
    rw [← hb] at hap2
    have hl := not_loop s a b hs wake (by rw [ha]) (by rw [hb]; rfl) Q hq hw0
    repeat' (first | refine a_convE ht0 ?_ | refine a_convE hw0 ?_ | refine neq_bool _ _ ?_ | (refine h_load1 ?_; first | refine b_load_q ?_ | refine b_load_i ?_ | refine b_load_p ?_) | (refine h_faddr ?_; first | refine a_faddr_q ?_ | refine a_faddr_p ?_) | (refine h_bin ?_; first | refine a_eql ?_ | refine a_lss ?_ | refine a_neq ?_ | refine a_geq ?_ | refine a_gtr ?_ | refine a_leq ?_ | refine a_add ?_ | refine a_sub ?_ | refine a_mul ?_ | refine a_eqs ?_ | refine a_nes ?_ | refine b_rem ?_ | refine b_quo ?_) | (refine h_cond ?_; first | refine b_cond_t ?_ | refine b_cond_f ?_ | refine a_cond (fun h => ?_) (fun h => ?_)) | (refine h_idx ?_; first | refine b_idx_n ?_ | refine b_idx_l ?_ | refine b_idx_i ?_ | refine b_idx_sn ?_ | refine b_idx_s ?_) | (refine h_row ?_; first | refine b_row_q ?_ | refine b_row_i ?_ | refine b_row_p ?_) | (refine h_len ?_; first | refine a_len_m ?_ | refine a_len_l ?_ | refine a_len_s ?_ | refine a_len_n ?_ | refine a_len_e ?_) | (refine h_ext ?_; first | refine b_ext ?_) | (refine h_calm ?_; first | refine b_calm ?_) | (refine h_note ?_; first | refine a_note ?_) | (refine h_pick ?_; first | refine b_pick_t ?_ | refine b_pick_f ?_) | (refine h_grd ?_; first | refine b_grd_y ?_ | refine b_grd_n ?_ | refine a_grd_u ?_ | refine a_grd_t (fun h => ?_) (fun h => ?_) | refine a_grd_f (fun h => ?_) (fun h => ?_)) | (refine h_dgrd ?_; first | refine b_dgrd_y ?_ | refine b_dgrd_n ?_ | refine a_dgrd_u ?_ | refine a_dgrd_t (fun h => ?_) (fun h => ?_) | refine a_dgrd_f (fun h => ?_) (fun h => ?_)) | (refine h_nilchk ?_; first | refine a_nil_p ?_ | refine a_nil_q ?_ | refine a_nil_f ?_) | refine a_mark ?_ | refine a_dmark ?_ | ((with_reducible refine h_fn 26 ?_); refine m_call (hap1) ?_) | ((with_reducible refine h_dfn 26 ?_); refine b_dcall (hap1) ?_) | ((with_reducible refine h_fn 26 ?_); refine m_call (hap2) ?_) | ((with_reducible refine h_dfn 26 ?_); refine b_dcall (hap2) ?_) | ((with_reducible refine h_fn 23 ?_); refine m_call (awake08) ?_) | ((with_reducible refine h_dfn 23 ?_); refine b_dcall (awake08) ?_) | (refine h_un ?_; first | refine a_not ?_ | refine a_neg ?_) | (refine h_box ?_; first | refine b_box (fun nb_ hnb_ => ?_)) | (refine h_frz1 ?_; first | refine b_frz_p ?_ | refine b_frz_s ?_) | (refine h_store ?_; first | refine b_store_box ?_ | refine b_store_one ?_ | refine b_store_row ?_) | (refine h_idxP ?_; first | refine b_idxP_p ?_ | refine b_idxP_q ?_) | (refine h_mslice ?_; first | refine b_mslice (fun nb_ hnb_ => ?_)) | (refine h_bslice ?_; first | refine b_bslice (fun nb_ hnb_ => ?_)) | refine a_conv ?_ | refine a_convS ?_ | refine a_alloc (fun nb_ hnb_ => ?_) | refine b_build ?_ | refine b_fld ?_ | refine a_join ?_ | refine a_lenS ?_ | refine a_tt ?_)
    exact hl
theorem h_notc4 {t1 t7 t2 v : AV} {Q : AV → SH → Prop} {L : SH} (h : law08_ObjectNotifies_c4 t1 t7 t2 Q v L) : law08_ObjectNotifies_c4 t1 t7 t2 Q v L := h
theorem notifies (l : List EvD) (t wake : Int) (ht : 0 ≤ t ∧ t < 256) (hw : -128 ≤ wake ∧ wake < 128) : PureA Try.prog 8 [.lst (l.map EvD.enc), .int .u8 t, .int .i8 wake] (.bool true) := by
  refine law08_ObjectNotifies_ok _ _ _ _ _ ?_
  unfold law08_ObjectNotifies_w
  rcases Nat.lt_or_ge 100 l.length with h1 | h1
  · have hd : decide ((100 : Int) < (l.length : Int)) = true := decide_eq_true (by omega)
    repeat' (first | (refine h_load1 ?_; first | refine b_load_q ?_ | refine b_load_i ?_ | refine b_load_p ?_) | (refine h_faddr ?_; first | refine a_faddr_q ?_ | refine a_faddr_p ?_) | (refine h_bin ?_; first | refine a_eql ?_ | refine a_lss ?_ | refine a_neq ?_ | refine a_geq ?_ | refine a_gtr ?_ | refine a_leq ?_ | refine a_add ?_ | refine a_sub ?_ | refine a_mul ?_ | refine a_eqs ?_ | refine a_nes ?_ | refine b_rem ?_ | refine b_quo ?_) | (refine h_cond ?_; first | refine b_cond_t ?_ | refine b_cond_f ?_ | refine a_cond (fun h => ?_) (fun h => ?_)) | (refine h_idx ?_; first | refine b_idx_n ?_ | refine b_idx_l ?_ | refine b_idx_i ?_ | refine b_idx_sn ?_ | refine b_idx_s ?_) | (refine h_row ?_; first | refine b_row_q ?_ | refine b_row_i ?_ | refine b_row_p ?_) | (refine h_len ?_; first | refine a_len_m ?_ | refine a_len_l ?_ | refine a_len_s ?_ | refine a_len_n ?_ | refine a_len_e ?_) | (refine h_ext ?_; first | refine b_ext ?_) | (refine h_calm ?_; first | refine b_calm ?_) | (refine h_note ?_; first | refine a_note ?_) | (refine h_pick ?_; first | refine b_pick_t ?_ | refine b_pick_f ?_) | (refine h_grd ?_; first | refine b_grd_y ?_ | refine b_grd_n ?_ | refine a_grd_u ?_ | refine a_grd_t (fun h => ?_) (fun h => ?_) | refine a_grd_f (fun h => ?_) (fun h => ?_)) | (refine h_dgrd ?_; first | refine b_dgrd_y ?_ | refine b_dgrd_n ?_ | refine a_dgrd_u ?_ | refine a_dgrd_t (fun h => ?_) (fun h => ?_) | refine a_dgrd_f (fun h => ?_) (fun h => ?_)) | (refine h_nilchk ?_; first | refine a_nil_p ?_ | refine a_nil_q ?_ | refine a_nil_f ?_) | refine a_mark ?_ | refine a_dmark ?_ | (refine h_un ?_; first | refine a_not ?_ | refine a_neg ?_) | (refine h_box ?_; first | refine b_box (fun nb_ hnb_ => ?_)) | (refine h_frz1 ?_; first | refine b_frz_p ?_ | refine b_frz_s ?_) | (refine h_store ?_; first | refine b_store_box ?_ | refine b_store_one ?_ | refine b_store_row ?_) | (refine h_idxP ?_; first | refine b_idxP_p ?_ | refine b_idxP_q ?_) | (refine h_mslice ?_; first | refine b_mslice (fun nb_ hnb_ => ?_)) | (refine h_bslice ?_; first | refine b_bslice (fun nb_ hnb_ => ?_)) | refine a_conv ?_ | refine a_convS ?_ | refine a_alloc (fun nb_ hnb_ => ?_) | refine b_build ?_ | refine b_fld ?_ | refine a_join ?_ | refine a_lenS ?_ | refine a_tt ?_)
    exact ⟨rfl, rfl⟩
  · have hd : decide ((100 : Int) < (l.length : Int)) = false := decide_eq_false (by omega)
    have hre := reach0 l (by omega)
    generalize hQ : (fun (u : AV) (K : SH) => u = AV.bool true ∧ K = []) = Q
    have hq : Q (.bool true) [] := by subst hQ; exact ⟨rfl, rfl⟩
    repeat' (first | ((with_reducible refine h_notc4 ?_); exact not_c4 s hs t wake ht hw Q hq) | (refine h_load1 ?_; first | refine b_load_q ?_ | refine b_load_i ?_ | refine b_load_p ?_) | (refine h_faddr ?_; first | refine a_faddr_q ?_ | refine a_faddr_p ?_) | (refine h_bin ?_; first | refine a_eql ?_ | refine a_lss ?_ | refine a_neq ?_ | refine a_geq ?_ | refine a_gtr ?_ | refine a_leq ?_ | refine a_add ?_ | refine a_sub ?_ | refine a_mul ?_ | refine a_eqs ?_ | refine a_nes ?_ | refine b_rem ?_ | refine b_quo ?_) | (refine h_cond ?_; first | refine b_cond_t ?_ | refine b_cond_f ?_ | refine a_cond (fun h => ?_) (fun h => ?_)) | (refine h_idx ?_; first | refine b_idx_n ?_ | refine b_idx_l ?_ | refine b_idx_i ?_ | refine b_idx_sn ?_ | refine b_idx_s ?_) | (refine h_row ?_; first | refine b_row_q ?_ | refine b_row_i ?_ | refine b_row_p ?_) | (refine h_len ?_; first | refine a_len_m ?_ | refine a_len_l ?_ | refine a_len_s ?_ | refine a_len_n ?_ | refine a_len_e ?_) | (refine h_ext ?_; first | refine b_ext ?_) | (refine h_calm ?_; first | refine b_calm ?_) | (refine h_note ?_; first | refine a_note ?_) | (refine h_pick ?_; first | refine b_pick_t ?_ | refine b_pick_f ?_) | (refine h_grd ?_; first | refine b_grd_y ?_ | refine b_grd_n ?_ | refine a_grd_u ?_ | refine a_grd_t (fun h => ?_) (fun h => ?_) | refine a_grd_f (fun h => ?_) (fun h => ?_)) | (refine h_dgrd ?_; first | refine b_dgrd_y ?_ | refine b_dgrd_n ?_ | refine a_dgrd_u ?_ | refine a_dgrd_t (fun h => ?_) (fun h => ?_) | refine a_dgrd_f (fun h => ?_) (fun h => ?_)) | (refine h_nilchk ?_; first | refine a_nil_p ?_ | refine a_nil_q ?_ | refine a_nil_f ?_) | refine a_mark ?_ | refine a_dmark ?_ | ((with_reducible refine h_fn 24 ?_); refine m_call (world_ok) ?_) | ((with_reducible refine h_dfn 24 ?_); refine b_dcall (world_ok) ?_) | ((with_reducible refine h_fn 25 ?_); (refine m_callF (K := []) hre (.refl _) ?_; rintro _ _ ⟨s, rfl, hs, rfl⟩)) | (refine h_un ?_; first | refine a_not ?_ | refine a_neg ?_) | (refine h_box ?_; first | refine b_box (fun nb_ hnb_ => ?_)) | (refine h_frz1 ?_; first | refine b_frz_p ?_ | refine b_frz_s ?_) | (refine h_store ?_; first | refine b_store_box ?_ | refine b_store_one ?_ | refine b_store_row ?_) | (refine h_idxP ?_; first | refine b_idxP_p ?_ | refine b_idxP_q ?_) | (refine h_mslice ?_; first | refine b_mslice (fun nb_ hnb_ => ?_)) | (refine h_bslice ?_; first | refine b_bslice (fun nb_ hnb_ => ?_)) | refine a_conv ?_ | refine a_convS ?_ | refine a_alloc (fun nb_ hnb_ => ?_) | refine b_build ?_ | refine b_fld ?_ | refine a_join ?_ | refine a_lenS ?_ | refine a_tt ?_)
end Go.Proofs.Ytadjimfkfmojkaa.Am

end
section
namespace Go.Proofs.Ytadjimfkfmojkaa.Am
open Go.ChangeShapes Go.WideShapes Go.ChangeAt Go.RowKit
set_option linter.unusedVariables false
section
variable {H : Type} {enc : TypeId × Value → H} {w : World} {base : Nat} {spare : Nat → Bool} {held : Bool}
theorem u_i8 : Try.prog.underlying 64 = some (.int .i8) := by kernel_rfl
theorem am_event : Opens H enc Try.prog w base spare held 70 (rAM EvD.enc fun _ => True) := fun fuel cs x h => by
  obtain ⟨hl, hall⟩ := am_cells [64, 64, 64, 64] Try.underlying70 h rfl (by kernel_rfl) (by kernel_rfl)
  obtain ⟨c0, m0, y0, e0, k0⟩ := hall 0 _ rfl
  obtain ⟨d0, _, r0⟩ := am_int u_i8 _ _ _ k0
  obtain ⟨c1, m1, y1, e1, k1⟩ := hall 1 _ rfl
  obtain ⟨d1, _, r1⟩ := am_int u_i8 _ _ _ k1
  obtain ⟨c2, m2, y2, e2, k2⟩ := hall 2 _ rfl
  obtain ⟨d2, _, r2⟩ := am_int u_i8 _ _ _ k2
  obtain ⟨c3, m3, y3, e3, k3⟩ := hall 3 _ rfl
  obtain ⟨d3, _, r3⟩ := am_int u_i8 _ _ _ k3
  have hcs : cs = [c0, c1, c2, c3] := by
    match cs, hl with
    | [a0, a1, a2, a3], _ => simp only [List.getElem?_cons_zero, List.getElem?_cons_succ, Option.some.injEq] at e0 e1 e2 e3; rw [e0, e1, e2, e3]
  subst hcs
  exact ⟨⟨d0, d1, d2, d3⟩, trivial, (reps_cons r0 (reps_cons r1 (reps_cons r2 (reps_cons r3 reps_nil))))⟩
theorem am_events : Opens H enc Try.prog w base spare held 55 (rAM (fun l : List EvD => [.lst (l.map EvD.enc)]) fun l => l.length ≤ maxLen ∧ ∀ x ∈ l, True) :=
  am_slice (size := 4) Try.underlying55 (by kernel_rfl) (by decide) am_event
end
end Go.Proofs.Ytadjimfkfmojkaa.Am

end
section
namespace Go.Proofs.Ytadjimfkfmojkaa.objectNotifies
open Go.ChangeShapes Go.WideShapes Go.ChangeAt Go.RowKit Am
set_option linter.unusedVariables false
set_option linter.unusedSimpArgs false
theorem law (l : List EvD) (_ : l.length ≤ maxLen ∧ ∀ x ∈ l, True) (t : Int) (ht : (Lit.int .u8 t).wf = true) (k : Int) (hk : (Lit.int .i8 k).wf = true) : PureA Try.prog 8 [.lst (l.map EvD.enc), .int .u8 t, .int .i8 k] (.bool true) :=
  notifies l t k (u8_nn ht) (i8_nn hk)
theorem own : ownKnob Try.prog.godebug = none := by kernel_rfl
theorem laidOut : laidOutB Try.prog = true := by kernel_rfl
theorem agg_of {n : Nat} (hn : n ≠ 1) {v : Value} (h : v.cells.toList.length = n) : ∃ cs : List Value, v = .agg cs.toArray ∧ v.cells.toList = cs := by
  cases v with
  | agg a => exact ⟨a.toList, by simp, rfl⟩
  | _ => simp [Value.cells] at h; omega
set_option maxRecDepth 100000 in
theorem lifted (os : Os) (started : os.Started) (H : Type) (enc : TypeId × Value → H) :
    ReturnsInHanded {} Try.checked os 8 .any (Rows.objectNotifiesSpec.pre6 enc Try.prog Try.f8 Rows.objectNotifiesRow.domain false) (Rows.objectNotifiesSpec.post enc Try.prog Try.f8 false true false false) := by
  refine returnsInHanded_of_change (C := Try.checked) own started (by kernel_rfl) Try.func8
    (ChangeSpec.witness6 (enc := enc) (C := Try.checked) false ⟨#[], #[.slice none 0 0, .int .u8 0, .int .i8 0], []⟩ 8 (by kernel_rfl) (by kernel_rfl) (by kernel_rfl) (by kernel_rfl)) ?_
  intro W base args ds gs before hval0 hW hcnd _
  have hval : ∀ (j : Nat) t v, Try.f8.params[j]? = some t → args[j]? = some v → Value.okWide Try.prog W .any base t v := hval0
  have hW' := hW
  obtain ⟨p, q, hA0, hV, rfl, hfz, hnd⟩ := hW
  have hA : DataW.TrodAll enc Try.prog W 0 (fun _ => true) true Try.f8.params.toList args.toList ds p := hA0
  rw [Try.params8] at hA hval
  obtain ⟨v0, vs0, d0, ds0, p0, q0, hargs, rfl, rfl, h0, r0⟩ := trodAll_cons hA
  obtain ⟨v1, vs1, d1, ds1, p1, q1, rfl, rfl, rfl, h1, r1⟩ := trodAll_cons r0
  obtain ⟨v2, vs2, d2, ds2, p2, q2, rfl, rfl, rfl, h2, r2⟩ := trodAll_cons r1
  obtain ⟨rfl, rfl, rfl⟩ := trodAll_nil r2
  obtain rfl : args = #[v0, v1, v2] := by cases args; simp_all
  obtain ⟨rfl, rfl⟩ := trodVars_none hV
  obtain ⟨fuel0, hf0⟩ := h0
  obtain ⟨a0, n0, c0, rfl⟩ := okWide_slice Try.underlying55 (hval 0 55 v0 rfl rfl)
  obtain ⟨x0, g0, k0⟩ := am_events _ _ _ hf0
  obtain ⟨fuel1, hf1⟩ := h1
  obtain ⟨x1, rfl, _, _, g1⟩ := open_int Try.underlying5 (hval 1 5 v1 rfl rfl) ⟨fuel1, hf1⟩
  have k1 := reps_one (Rep.int (w := W) (σ := sig0) (T := tok0) .u8 x1)
  obtain ⟨fuel2, hf2⟩ := h2
  obtain ⟨x2, rfl, _, _, g2⟩ := open_int Try.underlying64 (hval 2 64 v2 rfl rfl) ⟨fuel2, hf2⟩
  have k2 := reps_one (Rep.int (w := W) (σ := sig0) (T := tok0) .i8 x2)
  refine (law_calls (law x0 g0 x1 g1 x2 g2) W (reps_cons k0 (reps_cons k1 (reps_cons k2 reps_nil)))).mono fun e W' ⟨he, hb⟩ => ⟨.bool true, he, ?_⟩
  exact law_post laidOut (of_decide_eq_true (by kernel_rfl)) rfl rfl Try.underlying4 hW' rfl rfl rfl hb
theorem over : Rows.objectNotifiesRow.holds Try.pinned (OpenSpec.ofChange Rows.objectNotifiesSpec) :=
  OpenClaim.holds_of_wide 8 Try.f8 rfl rfl rfl rfl rfl rfl rfl ⟨rfl, rfl, rfl, rfl, rfl⟩ rfl rfl rfl rfl rfl (by kernel_rfl) Try.func8 (by kernel_rfl)
    (of_decide_eq_true (by kernel_rfl)) (by unfold Func.isWrapper; first | (rw [if_pos (by decide +kernel)]; kernel_rfl) | (rw [if_neg (by decide +kernel)]; exact ⟨rfl, rfl⟩))
    (fun os started H enc _ => lifted os started H enc)
theorem proved : Rows.ObjectNotifiesSaid :=
  over
#print axioms proved
end Go.Proofs.Ytadjimfkfmojkaa.objectNotifies

end
