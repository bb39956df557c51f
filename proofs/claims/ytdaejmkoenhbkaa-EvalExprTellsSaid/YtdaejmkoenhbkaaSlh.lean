/- AM, part 36: the conditions, where the values are known. -/
import Derived.Test.YtdaejmkoenhbkaaFit
import Derived.IntWalk
namespace Go.Proofs.Ytdaejmkoenhbkaa.Am
set_option linter.unusedVariables false
section
variable {P : Program} {F : TypeId → Option (List TypeId)} {K : AV → Prop} {KL : AV → SH → Prop} {L : SH}
theorem opt_some (v : AV) : W0.opt (some v) K = K v := propext ⟨fun ⟨u, h1, h2⟩ => by cases h1; exact h2, fun h => ⟨v, rfl, h⟩⟩
theorem opt_none : W0.opt none K = False := propext ⟨fun ⟨u, h1, h2⟩ => (by cases h1), fun h => h.elim⟩
theorem ld_f (n : Nat) (row : List AV) (off : Nat) : W0.rowLd false n row off = row[off]? := rfl
theorem ld_t (n : Nat) (row : List AV) (off : Nat) : W0.rowLd true n row off = if off + n ≤ row.length then some (.agg ((row.drop off).take n)) else none := rfl
theorem pick_t (x y : AV) : W.pick (.bool true) x y K = K x := propext ⟨fun ⟨t, h1, h2⟩ => by cases h1; exact h2, fun h => ⟨true, rfl, h⟩⟩
theorem pick_f (x y : AV) : W.pick (.bool false) x y K = K y := propext ⟨fun ⟨t, h1, h2⟩ => by cases h1; exact h2, fun h => ⟨false, rfl, h⟩⟩
theorem pick_and (p q : Bool) : W.pick (.bool p) (.bool q) (.bool false) K = K (.bool (p && q)) := by cases p <;> simp [pick_t, pick_f]
theorem pick_or (p q : Bool) : W.pick (.bool p) (.bool true) (.bool q) K = K (.bool (p || q)) := by cases p <;> simp [pick_t, pick_f]
theorem grd_t (p : Bool) (A : (AV → SH → Prop) → Prop) : W.grd (.bool p) true A L KL = ((p = true → A KL) ∧ (p = false → KL undefA L)) := propext ⟨fun ⟨h⟩ => by
    rcases h with ⟨h1, h2⟩ | ⟨h1 | h1, h2⟩
    · cases h1; exact ⟨fun _ => h2, fun h => (by cases h)⟩
    · cases h1; exact ⟨fun h => (by cases h), fun _ => h2⟩
    · (cases h1), fun ⟨h1, h2⟩ => by
    cases p with
    | true => exact ⟨.inl ⟨rfl, h1 rfl⟩⟩
    | false => exact ⟨.inr ⟨.inl rfl, h2 rfl⟩⟩⟩
theorem grd_f (p : Bool) (A : (AV → SH → Prop) → Prop) : W.grd (.bool p) false A L KL = ((p = false → A KL) ∧ (p = true → KL undefA L)) := propext ⟨fun ⟨h⟩ => by
    rcases h with ⟨h1, h2⟩ | ⟨h1 | h1, h2⟩
    · cases h1; exact ⟨fun _ => h2, fun h => (by cases h)⟩
    · cases h1; exact ⟨fun h => (by cases h), fun _ => h2⟩
    · (cases h1), fun ⟨h1, h2⟩ => by
    cases p with
    | false => exact ⟨.inl ⟨rfl, h1 rfl⟩⟩
    | true => exact ⟨.inr ⟨.inl rfl, h2 rfl⟩⟩⟩
theorem grd_u (want : Bool) (A : (AV → SH → Prop) → Prop) : W.grd undefA want A L KL = KL undefA L := propext ⟨fun ⟨h⟩ => by
    rcases h with ⟨h1, h2⟩ | ⟨h1, h2⟩
    · cases h1
    · exact h2, fun h => ⟨.inr ⟨.inr rfl, h⟩⟩⟩
theorem dgrd_t {KF : AV → SH → W.Fp → Prop} (p : Bool) (A : (AV → SH → W.Fp → Prop) → Prop) : W.dgrd (.bool p) true A L KF = ((p = true → A KF) ∧ (p = false → KF undefA L ⟨[], [], [], L.names⟩)) := propext ⟨fun ⟨h⟩ => by
    rcases h with ⟨h1, h2⟩ | ⟨h1 | h1, h2⟩
    · cases h1; exact ⟨fun _ => h2, fun h => (by cases h)⟩
    · cases h1; exact ⟨fun h => (by cases h), fun _ => h2⟩
    · (cases h1), fun ⟨h1, h2⟩ => by
    cases p with
    | true => exact ⟨.inl ⟨rfl, h1 rfl⟩⟩
    | false => exact ⟨.inr ⟨.inl rfl, h2 rfl⟩⟩⟩
theorem dgrd_f {KF : AV → SH → W.Fp → Prop} (p : Bool) (A : (AV → SH → W.Fp → Prop) → Prop) : W.dgrd (.bool p) false A L KF = ((p = false → A KF) ∧ (p = true → KF undefA L ⟨[], [], [], L.names⟩)) := propext ⟨fun ⟨h⟩ => by
    rcases h with ⟨h1, h2⟩ | ⟨h1 | h1, h2⟩
    · cases h1; exact ⟨fun _ => h2, fun h => (by cases h)⟩
    · cases h1; exact ⟨fun h => (by cases h), fun _ => h2⟩
    · (cases h1), fun ⟨h1, h2⟩ => by
    cases p with
    | false => exact ⟨.inl ⟨rfl, h1 rfl⟩⟩
    | true => exact ⟨.inr ⟨.inl rfl, h2 rfl⟩⟩⟩
theorem dgrd_u {KF : AV → SH → W.Fp → Prop} (want : Bool) (A : (AV → SH → W.Fp → Prop) → Prop) : W.dgrd undefA want A L KF = KF undefA L ⟨[], [], [], L.names⟩ := propext ⟨fun ⟨h⟩ => by
    rcases h with ⟨h1, h2⟩ | ⟨h1, h2⟩
    · cases h1
    · exact h2, fun h => ⟨.inr ⟨.inr rfl, h⟩⟩⟩
theorem cond_b (p : Bool) (A B : Prop) : W.cond (.bool p) A B = ((p = true → A) ∧ (p = false → B)) := propext ⟨fun ⟨h⟩ => by
    rcases h with ⟨h1, h2⟩ | ⟨h1, h2⟩
    · cases h1; exact ⟨fun _ => h2, fun h => (by cases h)⟩
    · cases h1; exact ⟨fun h => (by cases h), fun _ => h2⟩, fun ⟨h1, h2⟩ => by
    cases p with
    | true => exact ⟨.inl ⟨rfl, h1 rfl⟩⟩
    | false => exact ⟨.inr ⟨rfl, h2 rfl⟩⟩⟩
theorem bin_eq (op : BinOp) (t : TypeId) (x y : AV) : W.bin P F op t x y K = W0.opt (binA P F op t x y) K := propext ⟨fun h => h.h, fun h => ⟨h⟩⟩
theorem lss_i (t : TypeId) (k : IntKind) (a b : Int) : W.bin P F .lss t (.int k a) (.int k b) K = K (.bool (decide (a < b))) := by rw [bin_eq]; simp [binA, opt_some]
theorem leq_i (t : TypeId) (k : IntKind) (a b : Int) : W.bin P F .leq t (.int k a) (.int k b) K = K (.bool (decide (a ≤ b))) := by rw [bin_eq]; simp [binA, opt_some]
theorem gtr_i (t : TypeId) (k : IntKind) (a b : Int) : W.bin P F .gtr t (.int k a) (.int k b) K = K (.bool (decide (b < a))) := by rw [bin_eq]; simp [binA, opt_some]
theorem geq_i (t : TypeId) (k : IntKind) (a b : Int) : W.bin P F .geq t (.int k a) (.int k b) K = K (.bool (decide (b ≤ a))) := by rw [bin_eq]; simp [binA, opt_some]
theorem eql_i (t : TypeId) (k : IntKind) (a b : Int) : W.bin P F .eql t (.int k a) (.int k b) K = K (.bool (decide (a = b))) := by
  rw [bin_eq]; simp only [binA, ne_eq, not_true_eq_false, if_false, opt_some]; rw [show (a == b) = decide (a = b) from by cases h : (a == b) <;> simp_all]
theorem neq_i (t : TypeId) (k : IntKind) (a b : Int) : W.bin P F .neq t (.int k a) (.int k b) K = K (.bool (decide (a ≠ b))) := by
  rw [bin_eq]; simp only [binA, ne_eq, not_true_eq_false, if_false, opt_some]; rw [show (a != b) = decide (¬ a = b) from by cases h : (a != b) <;> simp_all]
theorem add_i (t : TypeId) (k : IntKind) (a b : Int) : W.bin P F .add t (.int k a) (.int k b) K = K (.int k (k.wrap (a + b))) := by rw [bin_eq]; simp [binA, opt_some]
theorem sub_i (t : TypeId) (k : IntKind) (a b : Int) : W.bin P F .sub t (.int k a) (.int k b) K = K (.int k (k.wrap (a - b))) := by rw [bin_eq]; simp [binA, opt_some]
theorem mul_i (t : TypeId) (k : IntKind) (a b : Int) : W.bin P F .mul t (.int k a) (.int k b) K = K (.int k (k.wrap (a * b))) := by rw [bin_eq]; simp [binA, opt_some]
theorem quo_i (t : TypeId) (k : IntKind) (a b : Int) : W.bin P F .quo t (.int k a) (.int k b) K = (b ≠ 0 ∧ K (.int k (k.wrap (a.tdiv b)))) := by
  rw [bin_eq]; by_cases h : b = 0 <;> simp [binA, opt_some, opt_none, h]
theorem rem_i (t : TypeId) (k : IntKind) (a b : Int) : W.bin P F .rem t (.int k a) (.int k b) K = (b ≠ 0 ∧ K (.int k (a.tmod b))) := by
  rw [bin_eq]; by_cases h : b = 0 <;> simp [binA, opt_some, opt_none, h]
theorem eql_s (t : TypeId) (a b : List UInt8) : W.bin P F .eql t (.str a) (.str b) K = K (.bool (decide (a = b))) := by
  rw [bin_eq]; simp only [binA, opt_some]; rw [show (a == b) = decide (a = b) from by cases h : (a == b) <;> simp_all]
theorem neq_s (t : TypeId) (a b : List UInt8) : W.bin P F .neq t (.str a) (.str b) K = K (.bool (decide (a ≠ b))) := by
  rw [bin_eq]; simp only [binA, opt_some]; rw [show (!(a == b)) = decide (a ≠ b) from by cases h : (a == b) <;> simp_all]
theorem eql_b (t : TypeId) (h : P.underlying t = some .bool) (a b : Bool) : W.bin P F .eql t (.bool a) (.bool b) K = K (.bool (a == b)) := by rw [bin_eq]; simp [binA, eqA, h, opt_some]
theorem neq_b (t : TypeId) (h : P.underlying t = some .bool) (a b : Bool) : W.bin P F .neq t (.bool a) (.bool b) K = K (.bool (!(a == b))) := by rw [bin_eq]; simp [binA, eqA, h, opt_some]
theorem un_not (b : Bool) : W.un .not (.bool b) K = K (.bool !b) := propext ⟨fun ⟨v, h1, h2⟩ => by cases h1; exact h2, fun h => ⟨_, rfl, h⟩⟩
theorem un_neg (k : IntKind) (n : Int) : W.un .neg (.int k n) K = K (.int k (k.wrap (0 - n))) := propext ⟨fun ⟨v, h1, h2⟩ => by cases h1; exact h2, fun h => ⟨_, rfl, h⟩⟩
theorem conv_i (k k' : IntKind) (n : Int) : W.conv k (.int k' n) K = K (.int k (k.wrap n)) := propext ⟨fun ⟨k2, m, h1, h2⟩ => by cases h1; exact h2, fun h => ⟨_, _, rfl, h⟩⟩
theorem convS_s (s : List UInt8) : W.convS (.str s) K = K (.str s) := propext ⟨fun ⟨s, h1, h2⟩ => by cases h1; exact h2, fun h => ⟨_, rfl, h⟩⟩
theorem faddr_p (off b i o : Nat) : W.faddr off (.ptr b i o) K = K (.ptr b i (o + off)) := propext ⟨fun h => h.h, fun h => ⟨h⟩⟩
theorem faddr_q (off : Nat) (rows : List (List AV)) (i o : Nat) : W.faddr off (.pptr rows i o) K = K (.pptr rows i (o + off)) := propext ⟨fun h => h.h, fun h => ⟨h⟩⟩
theorem fld_a (ag : Bool) (n off : Nat) (cs : List AV) : W.fld ag n off (.agg cs) K = W0.opt (W0.rowLd ag n cs off) K := propext ⟨fun ⟨cs', v, h1, h2, h3⟩ => by cases h1; exact ⟨v, h2, h3⟩, fun ⟨v, h1, h2⟩ => ⟨cs, v, rfl, h1, h2⟩⟩
theorem load_q (ag : Bool) (n : Nat) (rows : List (List AV)) (i off : Nat) : W.load ag n (.pptr rows i off) L K = W0.opt ((rows[i]?).bind fun r => W0.rowLd ag n r off) K := propext ⟨fun ⟨r, v, h1, h2, h3⟩ => ⟨v, by rw [h1]; exact h2, h3⟩, fun ⟨v, h1, h2⟩ => by
  obtain ⟨r, h3, h4⟩ := Option.bind_eq_some_iff.1 h1
  exact ⟨r, v, h3, h4, h2⟩⟩
theorem idxP_p (len n b j off : Nat) (k : IntKind) (i : Int) : W.idxP len n (.ptr b j off) (.int k i) K = ((0 ≤ i ∧ i.toNat < len) ∧ K (.ptr b j (off + i.toNat * n))) := propext ⟨fun ⟨k', i', h1, h2, h3, h4⟩ => by cases h1; exact ⟨⟨h2, h3⟩, h4⟩, fun ⟨⟨h2, h3⟩, h4⟩ => ⟨_, _, rfl, h2, h3, h4⟩⟩
theorem idxP_q (len n : Nat) (rows : List (List AV)) (j off : Nat) (k : IntKind) (i : Int) : W.idxP len n (.pptr rows j off) (.int k i) K = ((0 ≤ i ∧ i.toNat < len) ∧ K (.pptr rows j (off + i.toNat * n))) := propext ⟨fun ⟨k', i', h1, h2, h3, h4⟩ => by cases h1; exact ⟨⟨h2, h3⟩, h4⟩, fun ⟨⟨h2, h3⟩, h4⟩ => ⟨_, _, rfl, h2, h3, h4⟩⟩
theorem ixA_a (ag : Bool) (len n : Nat) (cs : List AV) (k : IntKind) (i : Int) : W.ixA ag len n (.agg cs) (.int k i) K = ((0 ≤ i ∧ i.toNat < len) ∧ W0.opt (W0.rowLd ag n cs (i.toNat * n)) K) := propext ⟨fun ⟨cs', k', i', v, h1, h2, h3, h4, h5, h6⟩ => by cases h1; cases h2; exact ⟨⟨h3, h4⟩, v, h5, h6⟩, fun ⟨⟨h3, h4⟩, v, h5, h6⟩ => ⟨_, _, _, v, rfl, rfl, h3, h4, h5, h6⟩⟩
theorem ext_t (i : Nat) (vs : List AV) : W.ext i (.tup vs) K = W0.opt vs[i]? K := propext ⟨fun ⟨vs', v, h1, h2, h3⟩ => by cases h1; exact ⟨v, h2, h3⟩, fun ⟨v, h1, h2⟩ => ⟨_, v, rfl, h1, h2⟩⟩
theorem nilchk_p (b i off : Nat) : W.nilchk (.ptr b i off) K = K (.ptr b i off) := propext ⟨fun h => h.h, fun h => ⟨h⟩⟩
theorem nilchk_q (rows : List (List AV)) (i off : Nat) : W.nilchk (.pptr rows i off) K = K (.pptr rows i off) := propext ⟨fun h => h.h, fun h => ⟨h⟩⟩
theorem nilchk_f (f : FuncId) (cs : List AV) : W.nilchk (.fn f cs) K = K (.fn f cs) := propext ⟨fun h => h.h, fun h => ⟨h⟩⟩
theorem build_eq (z : List AV) (ps : List (Nat × Nat × AV)) : W.build z ps K = (match W0.fillR z ps with | some cs => K (.agg cs) | none => False) := by
  refine propext ⟨fun ⟨cs, h1, h2⟩ => by rw [h1]; exact h2, fun h => ?_⟩
  split at h
  · rename_i cs hc; exact ⟨cs, hc, h⟩
  · exact h.elim
theorem alloc_eq (cs : List AV) : W.alloc cs L KL = ∀ b, b ∉ L.names → KL (.ptr b 0 0) ((b, ⟨cs.length, [cs]⟩) :: L) := propext ⟨fun h => h.h, fun h => ⟨h⟩⟩
theorem box_a (cs : List AV) : W.box (.agg cs) L KL = (cs.all AV.one = true ∧ ∀ b, b ∉ L.names → KL (.ptr b 0 0) ((b, ⟨cs.length, [cs]⟩) :: L)) := propext ⟨fun ⟨cs', h1, h2, h3⟩ => by cases h1; exact ⟨h2, h3⟩, fun ⟨h2, h3⟩ => ⟨cs, rfl, h2, h3⟩⟩
theorem box_1 (v : AV) (h1 : v.cells? = some [v]) (h2 : v.one = true) : W.box v L KL = ∀ b, b ∉ L.names → KL (.ptr b 0 0) ((b, ⟨1, [[v]]⟩) :: L) := propext ⟨fun ⟨cs', g1, g2, g3⟩ => by rw [h1] at g1; cases g1; exact g3, fun g3 => ⟨[v], h1, by simp [h2], g3⟩⟩
theorem bslice_eq (n : Nat) (z : List AV) (len : Nat) (parts : List (Nat × AV)) : W.bslice n z len parts L KL = (len * n ≤ 2 ^ 24 ∧ (match fillRows n (List.replicate len z) parts with | some rows => ∀ b, b ∉ L.names → KL (.sl b 0 len) ((b, ⟨n, rows⟩) :: L) | none => False)) := by
  refine propext ⟨fun ⟨h1, rows, h2, h3⟩ => ⟨h1, by rw [h2]; exact h3⟩, fun ⟨h1, h⟩ => ⟨h1, ?_⟩⟩
  split at h
  · rename_i rows hr; exact ⟨rows, hr, h⟩
  · exact h.elim
theorem mslice_eq (n by_ : Nat) (z : List AV) (k k' : IntKind) (i j : Int) : W.mslice n by_ z (.int k i) (.int k' j) L KL = ((0 ≤ i ∧ i ≤ j ∧ j ≤ 2 ^ 62 ∧ j.toNat * by_ ≤ 2 ^ 48) ∧ ∀ b, b ∉ L.names → KL (.sl b 0 i.toNat) ((b, ⟨n, List.replicate i.toNat z⟩) :: L)) := by
  refine propext ⟨fun ⟨k1, k2, i', j', h1, h2, h3, h4, h5, h6⟩ => by cases h1; cases h2; exact ⟨⟨by omega, by omega, by omega, by simpa using h5⟩, by simpa using h6⟩, fun ⟨⟨h1, h2, h3, h4⟩, h5⟩ => ⟨k, k', i.toNat, j.toNat, by rw [Int.toNat_of_nonneg h1], by rw [Int.toNat_of_nonneg (by omega)], by omega, by omega, h4, h5⟩⟩
theorem len_l (rows : List (List AV)) : W.len (.lst rows) K = K (.int .i64 (rows.length : Int)) := propext ⟨fun ⟨n, h1, h2⟩ => by cases h1; exact h2, fun h => ⟨_, rfl, h⟩⟩
theorem len_s (b i n : Nat) : W.len (.sl b i n) K = K (.int .i64 (n : Int)) := propext ⟨fun ⟨n, h1, h2⟩ => by cases h1; exact h2, fun h => ⟨_, rfl, h⟩⟩
theorem len_n : W.len .nils K = K (.int .i64 0) := propext ⟨fun ⟨n, h1, h2⟩ => by cases h1; exact h2, fun h => ⟨_, rfl, h⟩⟩
theorem lenS_s (s : List UInt8) : W.lenS (.str s) K = K (.int .i64 (s.length : Int)) := propext ⟨fun ⟨n, h1, h2⟩ => by cases h1; exact h2, fun h => ⟨_, rfl, h⟩⟩
theorem mnx_f (k : IntKind) (a c : Int) : W.mnx false (.int k a) (.int k c) K = K (.int k (if c < a then c else a)) := propext ⟨fun ⟨k', a', c', h1, h2, h3⟩ => by cases h1; cases h2; exact h3, fun h => ⟨_, _, _, rfl, rfl, h⟩⟩
theorem mnx_t (k : IntKind) (a c : Int) : W.mnx true (.int k a) (.int k c) K = K (.int k (if c > a then c else a)) := propext ⟨fun ⟨k', a', c', h1, h2, h3⟩ => by cases h1; cases h2; exact h3, fun h => ⟨_, _, _, rfl, rfl, h⟩⟩
theorem call_eq (g : FuncId) (cs args : List AV) : W.call P (.fn g cs) args L KL = CallA P g (args ++ cs) L KL := propext ⟨fun h => h.h, fun h => ⟨h⟩⟩
theorem dcall_eq {KN : AV → SH → List Nat → Prop} (us : List W.WR) (i : Nat) (g : FuncId) (cs args : List AV) : W.dcall P us i (.fn g cs) args L KN = ∃ Kc R : SH, L.Perm (Kc ++ R) ∧ (∀ x ∈ us, W.free x ⟨i, [], Kc.names, [], true, []⟩) ∧ CallA P g (args ++ cs) Kc fun v K' => KN v (K' ++ R) Kc.names := propext ⟨fun h => h.h, fun h => ⟨h⟩⟩
theorem note_eq {KF : W.Fp → Prop} (r : W.Fp) : W.note r KF = KF r := propext ⟨fun h => h.h r rfl, fun h => ⟨fun r' e => e ▸ h⟩⟩
theorem calm_eq (us : List W.WR) (y : W.WR) (A : Prop) : W.calm us y A = ((∀ x ∈ us, W.free x y) ∧ A) := propext ⟨fun h => h.h, fun h => ⟨h⟩⟩
/-- a pure call -/
def PureA (P : Program) (f : FuncId) (args : List AV) (v : AV) : Prop := CallA P f args [] fun u K => u = v ∧ K = []
theorem PureA.call {f : FuncId} {args : List AV} {v : AV} (h : PureA P f args v) (hk : KL v L) : CallA P f args L KL :=
  CallA.frame h (K := []) (R := L) (.refl _) fun u K ⟨h1, h2⟩ => by subst h1; subst h2; exact hk
theorem PureA.dcall {KN : AV → SH → List Nat → Prop} {us : List W.WR} {i : Nat} {g : FuncId} {cs args : List AV} {v : AV} (h : PureA P g (args ++ cs) v) (hf : ∀ x ∈ us, W.free x ⟨i, [], [], [], true, []⟩) (hk : KN v L []) : W.dcall P us i (.fn g cs) args L KN :=
  ⟨[], L, .refl _, hf, CallA.mono h fun u K ⟨h1, h2⟩ => by subst h1; subst h2; exact hk⟩
/-- a loop, by a family of states -/
theorem loop_by {α : Type} (S : α → List AV × SH) (m : α → Nat) (G : α → Prop) {B : List AV → SH → W.Kn → Prop} {vs : List AV} (a0 : α) (h0 : G a0) (hv : vs = (S a0).1) (hL : L = (S a0).2)
    (h : ∀ a, G a → B (S a).1 (S a).2 fun vs' L' => ∃ a', G a' ∧ m a' < m a ∧ FzS vs' L' (S a').1 (S a').2) : W.loop B vs L := by
  refine ⟨fun n vs L => ∃ a, G a ∧ m a = n ∧ vs = (S a).1 ∧ L = (S a).2, ⟨m a0, _, _, .refl _ _, a0, h0, rfl, hv, hL⟩, ?_⟩
  rintro n vs L ⟨a, ha, rfl, rfl, rfl⟩
  have e : (fun vs' L' => ∃ a', G a' ∧ m a' < m a ∧ FzS vs' L' (S a').1 (S a').2) = (fun vs' L' => ∃ m_1 vs2 L2, m_1 < m a ∧ FzS vs' L' vs2 L2 ∧ ∃ a, G a ∧ m a = m_1 ∧ vs2 = (S a).1 ∧ L2 = (S a).2) := by
    funext vs' L'
    apply propext
    constructor
    · rintro ⟨a', g1, g2, g3⟩; exact ⟨m a', _, _, g2, g3, a', g1, rfl, rfl, rfl⟩
    · rintro ⟨n, vs2, L2, g1, g2, a', g3, rfl, rfl, rfl⟩; exact ⟨a', g3, g1, g2⟩
  rw [← e]
  exact h a ha
theorem join_eq (J : W.Kn) (B : W.Kn → Prop) : W.join J B = B J := propext ⟨fun h => h.h, fun h => ⟨h⟩⟩
end
end Go.Proofs.Ytdaejmkoenhbkaa.Am
