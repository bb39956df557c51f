/- What the bodies of these functions demand, printed by a program of mine (Gen) from the seat's program; each is checked by the kernel against the body. -/
import Derived.Test.YtadjimfkfmojkaaSlh
namespace Go.Proofs.Ytadjimfkfmojkaa.Am
set_option linter.unusedVariables false
set_option maxRecDepth 100000
/- interleave/interleavelaw08.ObjectStarts -/
def law08_ObjectStarts_t : Hints := ⟨fun k => none, fun k => [], fun k => if k = 0 then [1] else [], fun k => if k = 3 then [0, 1, 0, 7, 15, 31, 63, 127, 255] else []⟩
def law08_ObjectStarts_d0 (L_52 : SH) (Q : AV → SH → Prop) (t23_54 : AV) (L_56 : SH) (ks_55 : List Nat) : Prop :=
 W.note ⟨[], ks_55, [], L_52.names⟩ fun r_57 =>
 W.dgrd t23_54 true (fun k_59 => W.dcall Try.prog [] 6 (.fn 23 []) [] L_56 fun v_62 L_64 ks_63 =>
 W.note ⟨[], ks_63, [], L_56.names⟩ fun r_65 =>
 k_59 v_62 L_64 r_65) L_56 fun t25_58 L_61 r_60 =>
 W.pick t23_54 t25_58 (.bool false) fun t26_66 =>
 Q t26_66 L_61
def law08_ObjectStarts_d1 (L_46 : SH) (t20_44 : AV) (Q : AV → SH → Prop) (t22_50 : AV) (L_52 : SH) (ks_51 : List Nat) : Prop :=
 W.note ⟨[], ks_51, [], L_46.names⟩ fun r_53 =>
 W.dcall Try.prog [] 4 (.fn 20 []) [t20_44, t22_50] L_52 (law08_ObjectStarts_d0 L_52 Q)
def law08_ObjectStarts_d2 (L_39 : SH) (r_43 : W.Fp) (t1_2 : AV) (Q : AV → SH → Prop) (t20_44 : AV) (L_46 : SH) (ks_45 : List Nat) : Prop :=
 W.note ⟨[], ks_45, [], L_39.names⟩ fun r_47 =>
 W.calm [⟨1, r_47.reads, r_47.writes, r_47.made, true, r_47.old⟩, ⟨0, r_43.reads, r_43.writes, r_43.made, false, r_43.old⟩] ⟨2, (blocksOf t1_2), [], [], false, []⟩ (
 W.load true 6 t1_2 L_46 fun t21_48 =>
 W.note ⟨(blocksOf t1_2), [], [], []⟩ fun r_49 =>
 W.dcall Try.prog [] 3 (.fn 22 []) [t21_48] L_46 (law08_ObjectStarts_d1 L_46 t20_44 Q))
def law08_ObjectStarts_w (t0 : AV) (L : SH) (Q : AV → SH → Prop) : Prop :=
 W.box t0 L fun t1_0 L_1 =>
 W.frz1 t1_0 L_1 fun t1_2 L_3 =>
 W.faddr 1 t1_2 fun t3_4 =>
 W.load false 1 t3_4 L_3 fun t4_5 =>
 W.len t4_5 fun t5_6 =>
 W.bin Try.prog Fl .gtr 3 t5_6 (.int .i64 100) fun t6_7 =>
 W.grd t6_7 false (fun k_9 => W.faddr 4 t1_2 fun v_11 =>
 k_9 v_11 L_3) L_3 fun t8_8 L_10 =>
 W.grd t6_7 false (fun k_13 => W.load false 1 t8_8 L_10 fun v_15 =>
 k_13 v_15 L_10) L_10 fun t9_12 L_14 =>
 W.grd t6_7 false (fun k_17 => W.len t9_12 fun v_19 =>
 k_17 v_19 L_14) L_14 fun t10_16 L_18 =>
 W.grd t6_7 false (fun k_21 => W.bin Try.prog Fl .gtr 3 t10_16 (.int .i64 100) fun v_23 =>
 k_21 v_23 L_18) L_18 fun t11_20 L_22 =>
 W.pick t6_7 (.bool true) t11_20 fun t12_24 =>
 W.grd t12_24 false (fun k_26 => W.faddr 3 t1_2 fun v_28 =>
 k_26 v_28 L_22) L_22 fun t14_25 L_27 =>
 W.grd t12_24 false (fun k_30 => W.load false 1 t14_25 L_27 fun v_32 =>
 k_30 v_32 L_27) L_27 fun t15_29 L_31 =>
 W.grd t12_24 false (fun k_34 => W.len t15_29 fun v_36 =>
 k_34 v_36 L_31) L_31 fun t16_33 L_35 =>
 W.grd t12_24 false (fun k_38 => W.bin Try.prog Fl .gtr 3 t16_33 (.int .i64 100) fun v_40 =>
 k_38 v_40 L_35) L_35 fun t17_37 L_39 =>
 W.pick t12_24 (.bool true) t17_37 fun t18_41 =>
 W.cond t18_41 (
 Q (.bool true) L_39) (
 (true = true) ∧ (
 W.calm [] ⟨0, (blocksOf t1_2), [], [], false, []⟩ (
 W.load true 6 t1_2 L_39 fun t19_42 =>
 W.note ⟨(blocksOf t1_2), [], [], []⟩ fun r_43 =>
 W.dcall Try.prog [] 1 (.fn 21 []) [t19_42] L_39 (law08_ObjectStarts_d2 L_39 r_43 t1_2 Q))))
theorem law08_ObjectStarts_e (t0 : AV) (L : SH) (Q : AV → SH → Prop) : W.func Try.prog Fl law08_ObjectStarts_t Try.f6 (Try.f6.body.getD .skip) [t0] L Q = law08_ObjectStarts_w t0 L Q := by kernel_rfl
theorem law08_ObjectStarts_ok (t0 : AV) (L : SH) (Q : AV → SH → Prop) (h : law08_ObjectStarts_w t0 L Q) : CallA Try.prog 6 [t0] L Q :=
  func_sound (ht := law08_ObjectStarts_t) fit Try.func6 (show Try.f6.body = some (Try.f6.body.getD .skip) by kernel_rfl) (Eq.mpr (law08_ObjectStarts_e t0 L Q) h)

end Go.Proofs.Ytadjimfkfmojkaa.Am
