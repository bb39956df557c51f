/- AM, part 37: the conditions, operation by operation. -/
import Derived.Test.YtdaejmkoenhbkaaSlh
namespace Go.Proofs.Ytdaejmkoenhbkaa.Am
set_option linter.unusedVariables false
section
variable {P : Program} {F : TypeId → Option (List TypeId)} {K : AV → Prop} {KL : AV → SH → Prop} {L : SH}
theorem a_pick_t {p : Bool} {x y : AV} (hp : p = true) (h : K x) : W.pick (.bool p) x y K := by subst hp; rw [pick_t]; exact h
theorem a_pick_f {p : Bool} {x y : AV} (hp : p = false) (h : K y) : W.pick (.bool p) x y K := by subst hp; rw [pick_f]; exact h
theorem a_grd_y {p want : Bool} {A : (AV → SH → Prop) → Prop} (hp : p = want) (h : A KL) : W.grd (.bool p) want A L KL := ⟨.inl ⟨by rw [hp], h⟩⟩
theorem a_grd_n {p want : Bool} {A : (AV → SH → Prop) → Prop} (hp : p = !want) (h : KL undefA L) : W.grd (.bool p) want A L KL := ⟨.inr ⟨.inl (by rw [hp]), h⟩⟩
theorem a_grd_u {want : Bool} {A : (AV → SH → Prop) → Prop} (h : KL undefA L) : W.grd undefA want A L KL := ⟨.inr ⟨.inr rfl, h⟩⟩
theorem a_grd_t {p : Bool} {A : (AV → SH → Prop) → Prop} (h1 : p = true → A KL) (h2 : p = false → KL undefA L) : W.grd (.bool p) true A L KL := by rw [grd_t]; exact ⟨h1, h2⟩
theorem a_grd_f {p : Bool} {A : (AV → SH → Prop) → Prop} (h1 : p = false → A KL) (h2 : p = true → KL undefA L) : W.grd (.bool p) false A L KL := by rw [grd_f]; exact ⟨h1, h2⟩
theorem a_dgrd_y {KF : AV → SH → W.Fp → Prop} {p want : Bool} {A : (AV → SH → W.Fp → Prop) → Prop} (hp : p = want) (h : A KF) : W.dgrd (.bool p) want A L KF := ⟨.inl ⟨by rw [hp], h⟩⟩
theorem a_dgrd_n {KF : AV → SH → W.Fp → Prop} {p want : Bool} {A : (AV → SH → W.Fp → Prop) → Prop} (hp : p = !want) (h : KF undefA L ⟨[], [], [], L.names⟩) : W.dgrd (.bool p) want A L KF := ⟨.inr ⟨.inl (by rw [hp]), h⟩⟩
theorem a_dgrd_u {KF : AV → SH → W.Fp → Prop} {want : Bool} {A : (AV → SH → W.Fp → Prop) → Prop} (h : KF undefA L ⟨[], [], [], L.names⟩) : W.dgrd undefA want A L KF := ⟨.inr ⟨.inr rfl, h⟩⟩
theorem a_dgrd_t {KF : AV → SH → W.Fp → Prop} {p : Bool} {A : (AV → SH → W.Fp → Prop) → Prop} (h1 : p = true → A KF) (h2 : p = false → KF undefA L ⟨[], [], [], L.names⟩) : W.dgrd (.bool p) true A L KF := by rw [dgrd_t]; exact ⟨h1, h2⟩
theorem a_dgrd_f {KF : AV → SH → W.Fp → Prop} {p : Bool} {A : (AV → SH → W.Fp → Prop) → Prop} (h1 : p = false → A KF) (h2 : p = true → KF undefA L ⟨[], [], [], L.names⟩) : W.dgrd (.bool p) false A L KF := by rw [dgrd_f]; exact ⟨h1, h2⟩
theorem a_cond_t {p : Bool} {A B : Prop} (hp : p = true) (h : A) : W.cond (.bool p) A B := ⟨.inl ⟨by rw [hp], h⟩⟩
theorem a_cond_f {p : Bool} {A B : Prop} (hp : p = false) (h : B) : W.cond (.bool p) A B := ⟨.inr ⟨by rw [hp], h⟩⟩
theorem a_cond {p : Bool} {A B : Prop} (h1 : p = true → A) (h2 : p = false → B) : W.cond (.bool p) A B := by rw [cond_b]; exact ⟨h1, h2⟩
theorem a_lss {t : TypeId} {k : IntKind} {a b : Int} (h : K (.bool (decide (a < b)))) : W.bin P F .lss t (.int k a) (.int k b) K := by rw [lss_i]; exact h
theorem a_leq {t : TypeId} {k : IntKind} {a b : Int} (h : K (.bool (decide (a ≤ b)))) : W.bin P F .leq t (.int k a) (.int k b) K := by rw [leq_i]; exact h
theorem a_gtr {t : TypeId} {k : IntKind} {a b : Int} (h : K (.bool (decide (b < a)))) : W.bin P F .gtr t (.int k a) (.int k b) K := by rw [gtr_i]; exact h
theorem a_geq {t : TypeId} {k : IntKind} {a b : Int} (h : K (.bool (decide (b ≤ a)))) : W.bin P F .geq t (.int k a) (.int k b) K := by rw [geq_i]; exact h
theorem a_eql {t : TypeId} {k : IntKind} {a b : Int} (h : K (.bool (decide (a = b)))) : W.bin P F .eql t (.int k a) (.int k b) K := by rw [eql_i]; exact h
theorem a_neq {t : TypeId} {k : IntKind} {a b : Int} (h : K (.bool (decide (a ≠ b)))) : W.bin P F .neq t (.int k a) (.int k b) K := by rw [neq_i]; exact h
theorem a_add {t : TypeId} {k : IntKind} {a b : Int} (h : K (.int k (k.wrap (a + b)))) : W.bin P F .add t (.int k a) (.int k b) K := by rw [add_i]; exact h
theorem a_sub {t : TypeId} {k : IntKind} {a b : Int} (h : K (.int k (k.wrap (a - b)))) : W.bin P F .sub t (.int k a) (.int k b) K := by rw [sub_i]; exact h
theorem a_mul {t : TypeId} {k : IntKind} {a b : Int} (h : K (.int k (k.wrap (a * b)))) : W.bin P F .mul t (.int k a) (.int k b) K := by rw [mul_i]; exact h
theorem a_quo {t : TypeId} {k : IntKind} {a b : Int} (hb : b ≠ 0) (h : K (.int k (k.wrap (a.tdiv b)))) : W.bin P F .quo t (.int k a) (.int k b) K := by rw [quo_i]; exact ⟨hb, h⟩
theorem a_rem {t : TypeId} {k : IntKind} {a b : Int} (hb : b ≠ 0) (h : K (.int k (a.tmod b))) : W.bin P F .rem t (.int k a) (.int k b) K := by rw [rem_i]; exact ⟨hb, h⟩
theorem a_eqs {t : TypeId} {a b : List UInt8} (h : K (.bool (decide (a = b)))) : W.bin P F .eql t (.str a) (.str b) K := by rw [eql_s]; exact h
theorem a_nes {t : TypeId} {a b : List UInt8} (h : K (.bool (decide (a ≠ b)))) : W.bin P F .neq t (.str a) (.str b) K := by rw [neq_s]; exact h
theorem a_not {b : Bool} (h : K (.bool !b)) : W.un .not (.bool b) K := by rw [un_not]; exact h
theorem a_neg {k : IntKind} {n : Int} (h : K (.int k (k.wrap (0 - n)))) : W.un .neg (.int k n) K := by rw [un_neg]; exact h
theorem a_conv {k k' : IntKind} {n : Int} (h : K (.int k (k.wrap n))) : W.conv k (.int k' n) K := by rw [conv_i]; exact h
theorem a_convS {s : List UInt8} (h : K (.str s)) : W.convS (.str s) K := by rw [convS_s]; exact h
theorem a_faddr_p {off b i o : Nat} (h : K (.ptr b i (o + off))) : W.faddr off (.ptr b i o) K := ⟨h⟩
theorem a_faddr_q {off : Nat} {rows : List (List AV)} {i o : Nat} (h : K (.pptr rows i (o + off))) : W.faddr off (.pptr rows i o) K := ⟨h⟩
theorem a_fld {ag : Bool} {n off : Nat} {cs : List AV} {v : AV} (h1 : W0.rowLd ag n cs off = some v) (h : K v) : W.fld ag n off (.agg cs) K := ⟨cs, v, rfl, h1, h⟩
theorem a_load_q {n : Nat} {rows : List (List AV)} {i off : Nat} {r : List AV} {v : AV} (h1 : rows[i]? = some r) (h2 : r[off]? = some v) (h : K v) : W.load false n (.pptr rows i off) L K := ⟨r, v, h1, h2, h⟩
theorem a_load_p {n b i off : Nat} {x : Blk} {r : List AV} {v : AV} (hm : (b, x) ∈ L) (h1 : x.rows[i]? = some r) (h2 : r[off]? = some v) (h : K v) : W.load false n (.ptr b i off) L K := ⟨x, r, v, hm, h1, h2, h⟩
/-- a whole row -/
theorem a_row_q {n : Nat} {rows : List (List AV)} {i : Nat} {r : List AV} (h1 : rows[i]? = some r) (h2 : r.length = n) (h : K (.agg r)) : W.load true n (.pptr rows i 0) L K :=
  ⟨r, .agg r, h1, by simp [W0.rowLd, ← h2], h⟩
theorem a_row_p {n b i : Nat} {x : Blk} {r : List AV} (hm : (b, x) ∈ L) (h1 : x.rows[i]? = some r) (h2 : r.length = n) (h : K (.agg r)) : W.load true n (.ptr b i 0) L K :=
  ⟨x, r, .agg r, hm, h1, by simp [W0.rowLd, ← h2], h⟩
theorem a_part_q {n : Nat} {rows : List (List AV)} {i off : Nat} {r cs : List AV} (h1 : rows[i]? = some r) (h2 : off + n ≤ r.length) (h3 : (r.drop off).take n = cs) (h : K (.agg cs)) : W.load true n (.pptr rows i off) L K :=
  ⟨r, .agg cs, h1, by simp [W0.rowLd, h2, h3], h⟩
theorem a_part_p {n b i off : Nat} {x : Blk} {r cs : List AV} (hm : (b, x) ∈ L) (h1 : x.rows[i]? = some r) (h2 : off + n ≤ r.length) (h3 : (r.drop off).take n = cs) (h : K (.agg cs)) : W.load true n (.ptr b i off) L K :=
  ⟨x, r, .agg cs, hm, h1, by simp [W0.rowLd, h2, h3], h⟩
/-- a box is written whole -/
theorem a_store_box {KS : SH → Prop} {n b : Nat} {v : AV} {m : Nat} {r cs : List AV} {L' : SH} (hu : Upd b ⟨m, [r]⟩ ⟨m, [cs]⟩ L L') (h2 : v.cells? = some cs) (h3 : cs.length = n) (h4 : cs.all AV.one = true) (h5 : r.length = n) (h : KS L') : W.store n (.ptr b 0 0) v L KS :=
  ⟨⟨m, [r]⟩, r, cs, L', rfl, h2, h3, h4, by omega, by
    have : rowStore r 0 cs = cs := by
      unfold rowStore
      rw [List.take_zero, List.nil_append, List.drop_of_length_le (by omega), List.append_nil]
    rw [this]; exact hu, h⟩
theorem rowStore_one (r : List AV) (off : Nat) (v : AV) (h : off < r.length) : rowStore r off [v] = r.set off v := by
  unfold rowStore
  rw [List.set_eq_take_append_cons_drop, if_pos h]
  simp
/-- one cell is written -/
theorem a_store_one {KS : SH → Prop} {b i off : Nat} {v : AV} {x x' : Blk} {r : List AV} {L' : SH} (hu : Upd b x x' L L') (h1 : x.rows[i]? = some r) (h2 : v.cells? = some [v]) (h4 : v.one = true) (h5 : off < r.length) (h6 : x' = ⟨x.size, x.rows.set i (r.set off v)⟩) (h : KS L') : W.store 1 (.ptr b i off) v L KS :=
  ⟨x, r, [v], L', h1, h2, rfl, by simp [h4], by omega, by rw [rowStore_one r off v h5, ← h6]; exact hu, h⟩
/-- a row is written whole -/
theorem a_store_row {KS : SH → Prop} {n b i : Nat} {v : AV} {x x' : Blk} {r cs : List AV} {L' : SH} (hu : Upd b x x' L L') (h1 : x.rows[i]? = some r) (h2 : v.cells? = some cs) (h3 : cs.length = n) (h4 : cs.all AV.one = true) (h5 : r.length = n) (h6 : x' = ⟨x.size, x.rows.set i cs⟩) (h : KS L') : W.store n (.ptr b i 0) v L KS :=
  ⟨x, r, cs, L', h1, h2, h3, h4, by omega, by
    have : rowStore r 0 cs = cs := by
      unfold rowStore
      rw [List.take_zero, List.nil_append, List.drop_of_length_le (by omega), List.append_nil]
    rw [this, ← h6]; exact hu, h⟩
theorem a_idx_n {n : Nat} {rows : List (List AV)} {k : IntKind} {j : Nat} {r : List AV} (h1 : rows[j]? = some r) (h2 : r.length = n) (h : K (.pptr rows j 0)) : W.idx n (.lst rows) (.int k (j : Int)) L K :=
  ⟨k, j, r, rfl, Int.natCast_nonneg _, by simpa using h1, h2, by simpa using h⟩
theorem a_idx_l {n : Nat} {rows : List (List AV)} {k : IntKind} {i : Int} {r : List AV} (h0 : 0 ≤ i) (h1 : rows[i.toNat]? = some r) (h2 : r.length = n) (h : K (.pptr rows i.toNat 0)) : W.idx n (.lst rows) (.int k i) L K := ⟨k, i, r, rfl, h0, h1, h2, h⟩
theorem a_idx_s {n b j m : Nat} {k : IntKind} {i : Int} {y : Blk} (h0 : 0 ≤ i) (h1 : i.toNat < m) (hm : (b, y) ∈ L) (h2 : y.size = n) (h : K (.ptr b (j + i.toNat) 0)) : W.idx n (.sl b j m) (.int k i) L K := ⟨k, i, y, rfl, h0, h1, hm, h2, h⟩
theorem a_idx_sn {n b m : Nat} {k : IntKind} {i : Nat} {y : Blk} (h1 : i < m) (hm : (b, y) ∈ L) (h2 : y.size = n) (h : K (.ptr b i 0)) : W.idx n (.sl b 0 m) (.int k (i : Int)) L K := ⟨k, i, y, rfl, Int.natCast_nonneg _, by simpa using h1, hm, h2, by simpa using h⟩
theorem a_idxP_q {len n : Nat} {rows : List (List AV)} {j off : Nat} {k : IntKind} {i : Int} (h0 : 0 ≤ i) (h1 : i.toNat < len) (h : K (.pptr rows j (off + i.toNat * n))) : W.idxP len n (.pptr rows j off) (.int k i) K := ⟨k, i, rfl, h0, h1, h⟩
theorem a_idxP_p {len n b j off : Nat} {k : IntKind} {i : Int} (h0 : 0 ≤ i) (h1 : i.toNat < len) (h : K (.ptr b j (off + i.toNat * n))) : W.idxP len n (.ptr b j off) (.int k i) K := ⟨k, i, rfl, h0, h1, h⟩
theorem a_ixA {ag : Bool} {len n : Nat} {cs : List AV} {k : IntKind} {i : Int} {v : AV} (h0 : 0 ≤ i) (h1 : i.toNat < len) (h2 : W0.rowLd ag n cs (i.toNat * n) = some v) (h : K v) : W.ixA ag len n (.agg cs) (.int k i) K := ⟨cs, k, i, v, rfl, rfl, h0, h1, h2, h⟩
theorem a_ext {i : Nat} {vs : List AV} {v : AV} (h1 : vs[i]? = some v) (h : K v) : W.ext i (.tup vs) K := ⟨vs, v, rfl, h1, h⟩
theorem a_nil_p {b i off : Nat} (h : K (.ptr b i off)) : W.nilchk (.ptr b i off) K := ⟨h⟩
theorem a_nil_q {rows : List (List AV)} {i off : Nat} (h : K (.pptr rows i off)) : W.nilchk (.pptr rows i off) K := ⟨h⟩
theorem a_nil_f {f : FuncId} {cs : List AV} (h : K (.fn f cs)) : W.nilchk (.fn f cs) K := ⟨h⟩
theorem a_build {z : List AV} {ps : List (Nat × Nat × AV)} {cs : List AV} (h1 : W0.fillR z ps = some cs) (h : K (.agg cs)) : W.build z ps K := ⟨cs, h1, h⟩
theorem a_alloc {cs : List AV} (h : ∀ b, b ∉ L.names → KL (.ptr b 0 0) ((b, ⟨cs.length, [cs]⟩) :: L)) : W.alloc cs L KL := ⟨h⟩
theorem a_box {x : AV} {cs : List AV} (h1 : x.cells? = some cs) (h2 : cs.all AV.one = true) (h : ∀ b, b ∉ L.names → KL (.ptr b 0 0) ((b, ⟨cs.length, [cs]⟩) :: L)) : W.box x L KL := ⟨cs, h1, h2, h⟩
theorem a_bslice {n : Nat} {z : List AV} {len : Nat} {ps : List (Nat × AV)} {rows : List (List AV)} (h1 : len * n ≤ 2 ^ 24) (h2 : fillRows n (List.replicate len z) ps = some rows) (h : ∀ b, b ∉ L.names → KL (.sl b 0 len) ((b, ⟨n, rows⟩) :: L)) : W.bslice n z len ps L KL := ⟨h1, rows, h2, h⟩
theorem a_mslice {n by_ : Nat} {z : List AV} {k k' : IntKind} {i j : Nat} (h1 : i ≤ j) (h2 : j ≤ 2 ^ 62) (h3 : j * by_ ≤ 2 ^ 48) (h : ∀ b, b ∉ L.names → KL (.sl b 0 i) ((b, ⟨n, List.replicate i z⟩) :: L)) : W.mslice n by_ z (.int k (i : Int)) (.int k' (j : Int)) L KL := ⟨k, k', i, j, rfl, rfl, h1, h2, h3, h⟩
theorem a_len_l {rows : List (List AV)} (h : K (.int .i64 (rows.length : Int))) : W.len (.lst rows) K := ⟨_, rfl, h⟩
theorem a_len_m {α : Type} {f : α → List AV} {l : List α} (h : K (.int .i64 (l.length : Int))) : W.len (.lst (l.map f)) K := ⟨_, rfl, by rw [List.length_map]; exact h⟩
theorem a_len_s {b i n : Nat} (h : K (.int .i64 (n : Int))) : W.len (.sl b i n) K := ⟨_, rfl, h⟩
theorem a_len_n (h : K (.int .i64 (0 : Nat))) : W.len .nils K := ⟨_, rfl, h⟩
theorem a_lenS {s : List UInt8} (h : K (.int .i64 (s.length : Int))) : W.lenS (.str s) K := ⟨_, rfl, h⟩
theorem a_frz_p {b i off : Nat} {x : Blk} {L' : SH} (h1 : Del b x L L') (h2 : 0 < x.size) (h3 : 0 < x.rows.length) (h : KL (.pptr x.rows i off) L') : W.frz1 (.ptr b i off) L KL := ⟨x, L', h1, h2, h3, h⟩
theorem a_frz_s {b n : Nat} {x : Blk} {L' : SH} (h1 : Del b x L L') (h2 : 0 < x.size) (h3 : n = x.rows.length) (h : KL (.lst x.rows) L') : W.frz1 (.sl b 0 n) L KL := ⟨x, L', h1, h2, by omega, by simpa [h3] using h⟩
theorem a_note {KF : W.Fp → Prop} {r : W.Fp} (h : KF r) : W.note r KF := by rw [note_eq]; exact h
theorem a_calm {us : List W.WR} {y : W.WR} {A : Prop} (h1 : ∀ x ∈ us, W.free x y) (h : A) : W.calm us y A := ⟨h1, h⟩
theorem a_tt {A : Prop} (h : A) : (true = true) ∧ A := ⟨rfl, h⟩
theorem a_join {J : W.Kn} {B : W.Kn → Prop} (h : B J) : W.join J B := ⟨h⟩
theorem a_call {g : FuncId} {cs args : List AV} {v : AV} (h1 : PureA P g (args ++ cs) v) (h : KL v L) : W.call P (.fn g cs) args L KL := ⟨h1.call h⟩
theorem a_app_n {n by_ : Nat} {x : AV} {m : List (List AV)} (h1 : W0.rowsR L n x m) (h2 : 2 * m.length * by_ ≤ 2 ^ 48) (h3 : 2 * m.length ≤ 2 ^ 62) (h4 : (m.all fun r => r.all AV.one) = true) (h0 : m.length ≠ 0)
    (h : ∀ b, b ∉ L.names → KL (.sl b 0 m.length) ((b, ⟨n, m⟩) :: L)) : W.append n by_ .nils x L KL :=
  ⟨[], m, rfl, h1, by simpa using h2, by simpa using h3, h4, fun e => absurd e h0, fun _ => h⟩
theorem a_app_s {n by_ b' i k : Nat} {x : AV} {y : Blk} {l m : List (List AV)} {L' : SH} (hm : (b', y) ∈ L) (hs : y.size = n) (hl : i + k ≤ y.rows.length) (he : (y.rows.drop i).take k = l) (h1 : W0.rowsR L n x m)
    (h2 : 2 * (l.length + m.length) * by_ ≤ 2 ^ 48) (h3 : 2 * (l.length + m.length) ≤ 2 ^ 62) (h4 : (m.all fun r => r.all AV.one) = true) (hd : Del b' y L L')
    (h : ∀ b, b ∉ L.names → KL (.sl b 0 (l.length + m.length)) ((b, ⟨n, l ++ m⟩) :: L')) : W.append n by_ (.sl b' i k) x L KL :=
  ⟨l, m, ⟨y, hm, hs, hl, he.symm⟩, h1, h2, h3, h4, y, L', hd, h⟩
theorem a_app_e {n by_ : Nat} {x : AV} {m : List (List AV)} (h1 : W0.rowsR L n x m) (h2 : 2 * m.length * by_ ≤ 2 ^ 48) (h3 : 2 * m.length ≤ 2 ^ 62) (h4 : (m.all fun r => r.all AV.one) = true) (h0 : m.length ≠ 0)
    (h : ∀ b, b ∉ L.names → KL (.sl b 0 m.length) ((b, ⟨n, m⟩) :: L)) : W.append n by_ .emp x L KL :=
  ⟨[], m, rfl, h1, by simpa using h2, by simpa using h3, h4, fun e => absurd e h0, fun _ => h⟩
theorem a_len_e (h : K (.int .i64 (0 : Nat))) : W.len .emp K := ⟨_, rfl, h⟩
theorem a_clear_s {KS : SH → Prop} {n : Nat} {z : List AV} {b i k : Nat} {y y' : Blk} {L' : SH} (hu : Upd b y y' L L') (h1 : y.size = n) (h2 : i + k ≤ y.rows.length) (h3 : y' = ⟨y.size, y.rows.take i ++ List.replicate k z ++ y.rows.drop (i + k)⟩) (h : KS L') : W.clear n z (.sl b i k) L KS :=
  ⟨y, L', h1, h2, h3 ▸ hu, h⟩
theorem a_slice_s {n b i m : Nat} {lo hi : Option AV} {l h : Nat} {y : Blk} (h1 : boundA lo 0 = some l) (h2 : boundA hi m = some h) (hl : l ≤ h) (hh : h ≤ m) (hm : (b, y) ∈ L) (hs : y.size = n) (hk : K (.sl b (i + l) (h - l))) : W.slice n (.sl b i m) lo hi none L K :=
  ⟨m, l, h, m, rfl, h1, h2, rfl, hl, hh, Nat.le_refl _, ⟨y, hm, hs⟩, hk⟩
theorem a_slice_l {n : Nat} {rows : List (List AV)} {lo hi : Option AV} {l h : Nat} (h1 : boundA lo 0 = some l) (h2 : boundA hi rows.length = some h) (hl : l ≤ h) (hh : h ≤ rows.length) (hs : ∀ r, rows.head? = some r → r.length = n) (hk : K (.lst ((rows.drop l).take (h - l)))) : W.slice n (.lst rows) lo hi none L K :=
  ⟨rows.length, l, h, rows.length, rfl, h1, h2, rfl, hl, hh, Nat.le_refl _, hs, hk⟩
theorem rowsR_m {α : Type} {f : α → List AV} {l : List α} {n : Nat} (h : ∀ x, (f x).length = n) : W0.rowsR L n (.lst (l.map f)) (l.map f) := ⟨rfl, fun r hr => by
  cases l with
  | nil => cases hr
  | cons x l => simp at hr; rw [← hr]; exact h x⟩
theorem rowsR_s {n b k : Nat} {x : Blk} (hm : (b, x) ∈ L) (hs : x.size = n) (hk : k = x.rows.length) : W0.rowsR L n (.sl b 0 k) x.rows := ⟨x, hm, hs, by omega, by simp [hk]⟩
end
end Go.Proofs.Ytdaejmkoenhbkaa.Am
