/- AM, part 9: binary operators, slice expressions, struct literals. -/
import Derived.Test.YtdaejmkoenhbkaaOpR
import Derived.Lib.Strings
namespace Go.Proofs.Ytdaejmkoenhbkaa.Am
section
variable {P : Program} {w : World} {σ : Sig} {T : Nat → Prop}

theorem binInt_sound {op : BinOp} {t : TypeId} {k k' : IntKind} {a b : Int} {v : AV} (F : TypeId → Option (List TypeId)) (h : binA P F op t (.int k a) (.int k' b) = some v) :
    ∃ v', (binOp op t (.int k a) (.int k' b)).run P w = .ok v' w ∧ Rep w σ T v v' := by
  by_cases hk : k = k'
  · subst hk
    cases op <;> simp only [binA, ne_eq, not_true_eq_false, if_false, reduceCtorEq, Option.some.injEq] at h
    case shl =>
      split at h
      · rename_i hb; cases h
        exact ⟨_, by simp only [binOp, Op.shift]; rw [if_neg (by omega)]; rfl, .int _ _⟩
      · cases h
    case shr =>
      split at h
      · rename_i hb; cases h
        exact ⟨_, by simp only [binOp, Op.shift]; rw [if_neg (by omega)]; rfl, .int _ _⟩
      · cases h
    case quo =>
      split at h
      · cases h
      · rename_i hb; cases h
        exact ⟨_, by simp only [binOp, Op.intDiv, ne_eq, not_true_eq_false, if_false]; rw [if_neg hb]; rfl, .int _ _⟩
    case rem =>
      split at h
      · cases h
      · rename_i hb; cases h
        exact ⟨_, by simp only [binOp, Op.intDiv, ne_eq, not_true_eq_false, if_false]; rw [if_neg hb]; rfl, .int _ _⟩
    all_goals (subst h; refine ⟨_, by simp only [binOp, ne_eq, not_true_eq_false, if_false]; rfl, ?_⟩; constructor)
  · cases op <;> simp only [binA, ne_eq, hk, not_false_eq_true, if_true, reduceCtorEq] at h
    case shl =>
      split at h
      · rename_i hb; cases h
        exact ⟨_, by simp only [binOp, Op.shift]; rw [if_neg (by omega)]; rfl, .int _ _⟩
      · cases h
    case shr =>
      split at h
      · rename_i hb; cases h
        exact ⟨_, by simp only [binOp, Op.shift]; rw [if_neg (by omega)]; rfl, .int _ _⟩
      · cases h
theorem str_rep {l : List UInt8} {s : ByteArray} (h : s.data.toList = l) : Rep w σ T (.str l) (.string s) := by subst h; exact .str s
theorem binStr_sound {op : BinOp} {t : TypeId} {a b : ByteArray} {v : AV} (F : TypeId → Option (List TypeId)) (h : binA P F op t (.str a.data.toList) (.str b.data.toList) = some v) :
    ∃ v', (binOp op t (.string a) (.string b)).run P w = .ok v' w ∧ Rep w σ T v v' := by
  cases op <;> simp only [binA, reduceCtorEq, Option.some.injEq] at h
  case add =>
    split at h
    · rename_i hl
      cases h
      have hn : ¬ ((a.size + b.size : Nat) : Int) > IntKind.i64.max := by
        have h1 : a.data.toList.length = a.size := Array.length_toList
        have h2 : b.data.toList.length = b.size := Array.length_toList
        rw [h1, h2] at hl
        have : (IntKind.i64.max : Int) = 9223372036854775807 := by decide
        rw [this]; omega
      exact ⟨_, by simp only [binOp, Op.stringOp]; rw [if_neg hn]; rfl, str_rep (by simp)⟩
    · cases h
  case eql => subst h; exact ⟨_, rfl, by rw [bytes_beq]; exact .bool _⟩
  case neq => subst h; exact ⟨_, rfl, by rw [bytes_beq]; exact .bool _⟩
  case lss => subst h; exact ⟨_, rfl, by rw [byteLess_eq, ByteArray.toList_eq, ByteArray.toList_eq]; exact .bool _⟩
theorem eql_run {t : TypeId} {x' y' : Value} {r : Bool} (h : (Op.equalIn 10000 t x' y').run P w = .ok r w)
    (hx : ∀ k n, x' ≠ .int k n) (hs : ∀ s, x' ≠ .string s) (hf : ∀ k n, x' ≠ .float k n) (hc : ∀ k a b, x' ≠ .complex k a b) :
    (binOp .eql t x' y').run P w = .ok (.bool r) w ∧ (binOp .neq t x' y').run P w = .ok (.bool !r) w := by
  constructor
  · cases x' <;> simp_all [binOp, Op.equal, Op.maxDepth]
  · cases x' <;> simp_all [binOp, Op.equal, Op.maxDepth]
theorem eqA_plain {t : TypeId} {x y : AV} {x' : Value} {r : Bool} (h : eqA P t x y = some r) (hx : Rep w σ T x x') (h1 : ∀ k n, x ≠ .int k n) (h2 : ∀ s, x ≠ .str s) :
    (∀ k n, x' ≠ .int k n) ∧ (∀ s, x' ≠ .string s) ∧ (∀ k n, x' ≠ .float k n) ∧ (∀ k a b, x' ≠ .complex k a b) ∧ (∀ cs, x ≠ .agg cs) ∧ x ≠ .junk := by
  have hj : x ≠ .junk ∧ ∀ cs, x ≠ .agg cs := by
    constructor
    · rintro rfl; unfold eqA at h; split at h <;> simp_all
    · rintro cs rfl; unfold eqA at h; split at h <;> simp_all
  cases hx <;> simp_all
theorem eqA_fit {t : TypeId} {x y : AV} {r : Bool} (h : eqA P t x y = some r) (hy : y = .nilp ∨ y = .nils) : (∀ k n, x ≠ .int k n) ∧ (∀ s, x ≠ .str s) := by
  rcases hy with rfl | rfl
  · constructor
    · rintro k n rfl; unfold eqA at h; split at h <;> simp_all
    · rintro s rfl; unfold eqA at h; split at h <;> simp_all
  · constructor
    · rintro k n rfl; unfold eqA at h; split at h <;> simp_all
    · rintro s rfl; unfold eqA at h; split at h <;> simp_all
theorem bin_sound {F : TypeId → Option (List TypeId)} (hF : ∀ t ts, F t = some ts → FlatT P t ts) {op : BinOp} {t : TypeId} {ox oy : Operand} {x y v : AV} {x' y' : Value} (hx : Rep w σ T x x') (hy : Rep w σ T y y')
    (h : binA P F op t x y = some v) : ∃ v', (do eqGuard op t ox oy x' y'; binOp op t x' y' : Sem Value).run P w = .ok v' w ∧ Rep w σ T v v' := by
  have other : (∀ cs, x ≠ .agg cs) → x ≠ .junk → (∃ v', (binOp op t x' y').run P w = .ok v' w ∧ Rep w σ T v v') → ∃ v', (do eqGuard op t ox oy x' y'; binOp op t x' y' : Sem Value).run P w = .ok v' w ∧ Rep w σ T v v' := by
    intro h1 h2 ⟨v', h3, h4⟩
    obtain ⟨h5, h6⟩ := hx.ne_agg h1 h2
    exact ⟨v', by simp only [Sem.run_bind, eqGuard_other h5 h6, Result.andThen_ok, h3], h4⟩
  have eqs : ∀ r, eqA P t x y = some r → (∀ k n, x' ≠ .int k n) → (∀ s, x' ≠ .string s) → (∀ k n, x' ≠ .float k n) → (∀ k a b, x' ≠ .complex k a b) →
      (binOp .eql t x' y').run P w = .ok (.bool r) w ∧ (binOp .neq t x' y').run P w = .ok (.bool !r) w := fun r hr => eql_run (eqA_sound hx hy hr)
  have h0 := h
  unfold binA at h
  split at h
  case h_1 => cases hx; cases hy; exact other (by simp) (by simp) (binInt_sound F h0)
  case h_2 => cases hx; cases hy; exact other (by simp) (by simp) (binInt_sound F h0)
  case h_3 => cases hx; cases hy; exact other (by simp) (by simp) (binInt_sound F h0)
  case h_4 => cases hx; cases hy; exact other (by simp) (by simp) (binStr_sound F h0)
  case h_5 a b =>
    cases hf : F t with
    | none => rw [hf] at h; cases h
    | some ts =>
      rw [hf] at h
      simp only [Option.bind_some] at h
      cases he : eqAs P ts a b with
      | none => rw [he] at h; cases h
      | some r =>
        rw [he] at h
        cases h
        cases hx with
        | agg _ xs hl1 hr1 =>
        cases hy with
        | agg _ ys hl2 hr2 =>
        have fl := hF t ts hf
        have := eqAs_sound (P := P) (w := w) (σ := σ) (T := T) (d := 9998) ⟨hl1, hr1⟩ ⟨hl2, hr2⟩ (P.fieldsOf t).toList 0 r (fun i f hi => by have := fl.fields i f hi; simpa using this) (by rw [fl.types]; simpa using he)
        refine ⟨.bool r, ?_, .bool r⟩
        simp only [Sem.run_bind, run_eqGuard_agg w _ t ox oy _ _ fl.guard, Result.andThen_ok, run_eql_struct]
        rw [run_equalIn_agg w 9999 t _ _ fl.under fl.stood, this]
        rfl
  case h_6 a b =>
    cases hf : F t with
    | none => rw [hf] at h; cases h
    | some ts =>
      rw [hf] at h
      simp only [Option.bind_some] at h
      cases he : eqAs P ts a b with
      | none => rw [he] at h; cases h
      | some r =>
        rw [he] at h
        cases h
        cases hx with
        | agg _ xs hl1 hr1 =>
        cases hy with
        | agg _ ys hl2 hr2 =>
        have fl := hF t ts hf
        have := eqAs_sound (P := P) (w := w) (σ := σ) (T := T) (d := 9998) ⟨hl1, hr1⟩ ⟨hl2, hr2⟩ (P.fieldsOf t).toList 0 r (fun i f hi => by have := fl.fields i f hi; simpa using this) (by rw [fl.types]; simpa using he)
        refine ⟨.bool !r, ?_, .bool !r⟩
        simp only [Sem.run_bind, run_eqGuard_agg w _ t ox oy _ _ fl.guard, Result.andThen_ok, run_neq_struct]
        rw [run_equalIn_agg w 9999 t _ _ fl.under fl.stood, this]
        rfl
  case h_17 => cases h
  all_goals
    cases he : eqA P t _ _ with
    | none => rw [he] at h; cases h
    | some r =>
      rw [he] at h
      cases h
      first
        | (obtain ⟨p1, p2, p3, p4, p5, p6⟩ := eqA_plain he hx (eqA_fit he (.inl rfl)).1 (eqA_fit he (.inl rfl)).2; obtain ⟨e1, e2⟩ := eqs r he p1 p2 p3 p4; first | exact other p5 p6 ⟨_, e1, .bool _⟩ | exact other p5 p6 ⟨_, e2, .bool _⟩)
        | (obtain ⟨p1, p2, p3, p4, p5, p6⟩ := eqA_plain he hx (eqA_fit he (.inr rfl)).1 (eqA_fit he (.inr rfl)).2; obtain ⟨e1, e2⟩ := eqs r he p1 p2 p3 p4; first | exact other p5 p6 ⟨_, e1, .bool _⟩ | exact other p5 p6 ⟨_, e2, .bool _⟩)
        | (obtain ⟨p1, p2, p3, p4, p5, p6⟩ := eqA_plain he hx (by simp) (by simp); obtain ⟨e1, e2⟩ := eqs r he p1 p2 p3 p4; first | exact other p5 p6 ⟨_, e1, .bool _⟩ | exact other p5 p6 ⟨_, e2, .bool _⟩)

theorem sb_sound {a : AV} {v : Value} {n y : Nat} {code : BoundsCode} (hr : Rep w σ T a v) (h : natOf a = some n) (hn : n ≤ y) : (Instr.sliceBound v y code).run P w = .ok n w := by
  obtain ⟨k, i, rfl, h0, rfl⟩ := natOf_sound hr h
  have : 0 ≤ i ∧ i ≤ (y : Int) := by omega
  simp only [Instr.sliceBound, asIntOf, Sem.run_bind, Sem.run_pure, Result.andThen_ok, Sem.run_ite]
  rw [if_pos this]
/-- an operand that may be missing -/
def RepO (w : World) (σ : Sig) (T : Nat → Prop) (x : Option AV) (x' : Option Value) : Prop :=
  match x, x' with
  | none, none => True
  | some a, some v => Rep w σ T a v
  | _, _ => False
theorem bounds_sound {lo hi mx : Option AV} {lo' hi' mx' : Option Value} {n c l h m : Nat} {isS : Bool} (hlo : RepO w σ T lo lo') (hhi : RepO w σ T hi hi') (hmx : RepO w σ T mx mx') (hmh : hi = none → mx = none)
    (h1 : boundA lo 0 = some l) (h2 : boundA hi n = some h) (h3 : boundA mx n = some m) (hc : n ≤ c) (b1 : l ≤ h) (b2 : h ≤ m) (b3 : m ≤ n) :
    ∃ m', (Instr.sliceBounds isS n c lo' hi' mx').run P w = .ok (l, h, m') w ∧ h ≤ m' ∧ m' ≤ c := by
  match mx, mx', hmx with
  | none, none, _ =>
    cases h3
    refine ⟨c, ?_, by omega, Nat.le_refl _⟩
    match hi, hi', hhi with
    | none, none, _ =>
      cases h2
      match lo, lo', hlo with
      | none, none, _ => cases h1; simp [Instr.sliceBounds]
      | some a, some v, hr => simp [Instr.sliceBounds, sb_sound (P := P) hr h1 b1]
    | some a, some v, hr =>
      have e := sb_sound (P := P) (code := if isS = true then .sliceAcap else .sliceAlen) hr h2 (show h ≤ c by omega)
      match lo, lo', hlo with
      | none, none, _ => cases h1; simp [Instr.sliceBounds, e]
      | some a, some v, hr => simp [Instr.sliceBounds, e, sb_sound (P := P) hr h1 b1]
  | some a, some v, hr =>
    have e0 := sb_sound (P := P) (code := if isS = true then .slice3Acap else .slice3Alen) hr h3 (show m ≤ c by omega)
    refine ⟨m, ?_, b2, by omega⟩
    match hi, hi', hhi with
    | none, none, _ => exact absurd (hmh rfl) (by simp)
    | some a, some v, hr =>
      have e := sb_sound (P := P) (code := .slice3B) hr h2 b2
      match lo, lo', hlo with
      | none, none, _ => cases h1; simp [Instr.sliceBounds, e0, e]
      | some a, some v, hr => simp [Instr.sliceBounds, e0, e, sb_sound (P := P) hr h1 b1]
theorem run_sliceAt {t e : TypeId} {A : Option Addr} {n cap l h m sz : Nat} {lo hi mx : Option Value} (hu : P.underlying t = some (.slice e)) (hsz : sizeA P e = some sz)
    (h4 : (Instr.sliceBounds true n cap lo hi mx).run P w = .ok (l, h, m) w) :
    (Instr.sliceAt t (.slice A n cap) lo hi mx).run P w = .ok (.slice (if m = l then A else A.map (·.add (l * sz))) (h - l) (m - l)) w := by
  simp only [Instr.sliceAt, Instr.slice, Sem.run_bind, run_underlying hu, Result.andThen_ok, h4, run_size hsz, Sem.run_pure]
theorem slice_sound {H : Heap} (hW : WRel w σ H) {t : TypeId} {x v : AV} {lo hi mx : Option AV} {x' : Value} {lo' hi' mx' : Option Value} (hx : Rep w σ (Own σ H) x x')
    (hlo : RepO w σ (Own σ H) lo lo') (hhi : RepO w σ (Own σ H) hi hi') (hmx : RepO w σ (Own σ H) mx mx') (hmh : hi = none → mx = none)
    (h : sliceA P (szOf H x) t x lo hi mx = some v) : ∃ v', (Instr.sliceAt t x' lo' hi' mx').run P w = .ok v' w ∧ Rep w σ (Own σ H) v v' := by
  unfold sliceA at h
  split at h
  · rename_i e n hu hlen
    split at h
    · rename_i l hh m h1 h2 h3
      split at h
      · rename_i hb
        obtain ⟨⟨b1, b2, b3⟩, hsome⟩ := hb
        have hes : ∃ sz, sizeA P e = some sz := Option.isSome_iff_exists.1 hsome
        split at h
        · cases h
          cases hx
          cases hlen
          obtain ⟨m', h4, h5, h6⟩ := bounds_sound (P := P) (isS := true) hlo hhi hmx hmh h1 h2 h3 (Nat.le_refl 0) b1 b2 b3
          obtain rfl : m' = 0 := by omega
          obtain rfl : hh = 0 := by omega
          obtain rfl : l = 0 := by omega
          obtain ⟨sz, hsz⟩ : ∃ sz, sizeA P e = some sz := hes
          exact ⟨_, run_sliceAt hu hsz h4, by simpa using Rep.nils⟩
        · rename_i b i k
          cases hlen
          obtain ⟨pl, a, cap, rfl, hs, hn, hm, ha⟩ := hx.sl_inv
          obtain ⟨m', h4, h5, h6⟩ := bounds_sound (P := P) (isS := true) hlo hhi hmx hmh h1 h2 h3 hn b1 b2 b3
          cases hy : H.get b with
          | none => simp [szOf, hy] at h
          | some y =>
            simp only [szOf, hy, Option.map_some, Option.isSome_some, true_and] at h
            split at h
            · rename_i hsz
              cases h
              obtain ⟨pl', cs', e', g1, g2⟩ := hW.live b y hy
              rw [hs] at g1
              cases g1
              by_cases hml : m' = l
              · refine ⟨.slice (some a) (hh - l) (m' - l), by rw [run_sliceAt hu hsz h4, if_pos hml], ?_⟩
                exact .sl b (i + l) (hh - l) pl a (m' - l) hs (by omega) (by omega) (by omega)
              · obtain ⟨rfl, cs, ty, hc, hr⟩ := ha (by omega)
                refine ⟨.slice (some ⟨pl.block, pl.base + i * pl.size + l * y.size, none⟩) (hh - l) (m' - l), by rw [run_sliceAt hu hsz h4, if_neg hml, Option.map_some, addr_add], ?_⟩
                refine .sl b (i + l) (hh - l) pl _ (m' - l) hs (by omega) (by omega) fun _ => ⟨?_, cs, ty, hc, ?_⟩
                · rw [← g2.size, Nat.add_mul, Nat.add_assoc]
                · have : (i + l + (m' - l)) * pl.size ≤ (i + cap) * pl.size := Nat.mul_le_mul_right _ (by omega)
                  omega
            · cases h
        · rename_i rows
          cases hlen
          obtain ⟨A, cap, rfl, hn, hm, ha⟩ := hx.lst_inv
          obtain ⟨m', h4, h5, h6⟩ := bounds_sound (P := P) (isS := true) hlo hhi hmx hmh h1 h2 h3 hn b1 b2 b3
          split at h
          · cases h
            obtain ⟨sz, hsz⟩ : ∃ sz, sizeA P e = some sz := hes
            obtain rfl : hh = 0 := by simp at b3; omega
            obtain rfl : l = 0 := by omega
            exact ⟨_, run_sliceAt hu hsz h4, .lst0 _ _ (by omega)⟩
          · rename_i r rs
            split at h
            · rename_i hsz
              cases h
              obtain ⟨b, o, sz, rfl, hl, hrep⟩ := ha (by simp)
              obtain rfl : r.length = sz := hl.even 0 r rfl
              by_cases hml : m' = l
              · have : hh - l = 0 := by omega
                rw [this, List.take_zero]
                exact ⟨.slice (some ⟨b, o, none⟩) (hh - l) (m' - l), by rw [run_sliceAt hu hsz h4, if_pos hml], by rw [this]; exact .lst0 _ _ (by omega)⟩
              · refine ⟨.slice (some ⟨b, o + l * r.length, none⟩) (hh - l) (m' - l), by rw [run_sliceAt hu hsz h4, if_neg hml, Option.map_some, addr_add], ?_⟩
                by_cases hz : hh - l = 0
                · rw [hz, List.take_zero]; exact .lst0 _ _ (by omega)
                · have hlen : (((r :: rs).drop l).take (hh - l)).length = hh - l := by simp at b3 ⊢; omega
                  have get : ∀ (i : Nat) (q : List AV), (((r :: rs).drop l).take (hh - l))[i]? = some q → i < hh - l ∧ (r :: rs)[l + i]? = some q := fun i q hq => by
                    have hi := lt_of_some hq
                    rw [hlen] at hi
                    rw [List.getElem?_take_of_lt hi, List.getElem?_drop] at hq
                    exact ⟨hi, hq⟩
                  have := Rep.lst (w := w) (σ := σ) (T := Own σ H) (((r :: rs).drop l).take (hh - l)) b (o + l * r.length) r.length (m' - l)
                    ⟨hl.out, fun i q hq => hl.even _ q (get i q hq).2, fun i j hi hj => by
                      rw [hlen] at hi
                      have := hl.cell (l + i) j (by simp at b3 ⊢; omega) hj
                      rwa [Nat.add_mul, ← Nat.add_assoc] at this, hl.pos, by omega⟩ (by omega) (by omega)
                    (fun i q j a u hq hj hu => hrep (l + i) q j a u (get i q hq).2 hj (by rw [Nat.add_mul, ← Nat.add_assoc]; exact hu))
                  rwa [hlen] at this
            · cases h
        · cases h
      · cases h
    · cases h
  · rename_i hu
    split at h
    · split at h
      · rename_i l hh h1 h2
        split at h
        · rename_i hb
          obtain ⟨b1, b2⟩ := hb
          cases h
          cases hx with
          | str ba =>
          have hln : ba.data.toList.length = ba.size := Array.length_toList
          have hmx2 : mx' = none := by
            match mx', hmx with
            | none, _ => rfl
          subst hmx2
          obtain ⟨m', h4, h5, h6⟩ := bounds_sound (P := P) (isS := false) (n := ba.size) (c := ba.size) (m := ba.size) (mx := none) (mx' := none) hlo hhi trivial (fun _ => rfl) h1 (by rw [← hln]; exact h2) rfl (Nat.le_refl _) b1 (by omega) (Nat.le_refl _)
          refine ⟨.string (ba.extract l hh), by simp only [Instr.sliceAt, Instr.slice, Sem.run_bind, run_underlying hu, Result.andThen_ok, h4, Sem.run_pure, Option.isSome_none, Bool.false_eq_true, if_false], str_rep ?_⟩
          rw [Lib.extract_data]
        · cases h
      · cases h
    · cases h
  · cases h
end
end Go.Proofs.Ytdaejmkoenhbkaa.Am
