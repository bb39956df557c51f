/- AM, part 8: operators, slice expressions, tuples. -/
import Derived.Test.YtdaejmkoenhbkaaOpQ
import Derived.Laws.StructEq
namespace Go.Proofs.Ytdaejmkoenhbkaa.Am
/-- a struct type whose fields are cells, one by one, that == may compare -/
structure FlatT (P : Program) (t : TypeId) (ts : List TypeId) : Prop where
  under : P.underlying t = some (.struct (P.fieldsOf t))
  stood : P.stoodInHeld t = false
  guard : P.eqGuardType P.depth t = false
  types : (P.fieldsOf t).toList.map (·.type) = ts
  fields : ∀ (i : Nat) (f : Field), (P.fieldsOf t).toList[i]? = some f → f.name ≠ "_" ∧ f.offset = i ∧ isAggA P f.type = some false
section
variable {P : Program} {w : World} {σ : Sig} {T : Nat → Prop}

theorem bytes_beq (a b : ByteArray) : (a.toList == b.toList) = (a.data.toList == b.data.toList) := by rw [ByteArray.toList_eq, ByteArray.toList_eq]
theorem eqA_sound {t : TypeId} {x y : AV} {x' y' : Value} {r : Bool} {d : Nat} (hx : Rep w σ T x x') (hy : Rep w σ T y y') (h : eqA P t x y = some r) :
    (Op.equalIn (d + 1) t x' y').run P w = .ok r w := by
  unfold eqA at h
  split at h
  case h_1 hu =>
    split at h
    · rename_i hk; subst hk; cases h; cases hx; cases hy; exact run_equalIn_int w d t _ _ _ _ hu
    · cases h
  case h_2 hu => cases h; cases hx; cases hy; exact run_equalIn_bool' w d t _ _ hu
  case h_3 hu => cases h; cases hx; cases hy; rw [run_equalIn_string w d t _ _ hu, bytes_beq]
  case h_4 hu => cases h; cases hx; cases hy; simp [Op.equalIn, run_underlying hu]
  case h_5 hu => cases h; cases hx; cases hy; simp [Op.equalIn, run_underlying hu]
  case h_6 hu => cases h; cases hx; cases hy; simp [Op.equalIn, run_underlying hu]
  case h_7 hu => cases h; cases hx; cases hy; simp [Op.equalIn, run_underlying hu]
  case h_8 hu => cases h; cases hx; cases hy; simp [Op.equalIn, run_underlying hu]
  case h_9 hu => cases h; cases hx; cases hy; simp [Op.equalIn, run_underlying hu]
  case h_10 hu => cases h; cases hx; cases hy; simp [Op.equalIn, run_underlying hu]
  case h_11 hu => cases h; cases hx; cases hy; simp [Op.equalIn, run_underlying hu]
  case h_12 => cases h

theorem part_one {t : TypeId} {cs : List AV} {vs : List Value} {i : Nat} {a : AV} (ht : isAggA P t = some false) (h : Reps w σ T cs vs) (ha : cs[i]? = some a) :
    ∃ v, (part t vs.toArray i).run P w = .ok v w ∧ Rep w σ T a v := by
  have hi := lt_of_some ha
  have hi' : i < vs.length := by rw [← h.1]; exact hi
  exact ⟨vs[i], by simp [part, run_isAgg ht, hi'], h.2 i a _ ha (List.getElem?_eq_getElem hi')⟩
theorem eqAs_sound {d : Nat} {cs ds : List AV} {xs ys : List Value} (hc : Reps w σ T cs xs) (hd : Reps w σ T ds ys) : ∀ (fs : List Field) (k : Nat) (r : Bool),
    (∀ (i : Nat) (f : Field), fs[i]? = some f → f.name ≠ "_" ∧ f.offset = k + i ∧ isAggA P f.type = some false) → eqAs P (fs.map (·.type)) (cs.drop k) (ds.drop k) = some r →
    (Op.eqFields (d + 1) xs.toArray ys.toArray fs).run P w = .ok r w
  | [], k, r, _, h => by
    unfold eqAs at h
    split at h
    · cases h; rfl
    · simp_all
    · cases h
  | f :: fs, k, r, hf, h => by
    unfold eqAs at h
    split at h
    · rename_i e _ _; cases e
    · rename_i t ts a l b m e1 e2 e3
      cases e1
      obtain ⟨h1, h2, h3⟩ := hf 0 f rfl
      have ha : cs[k]? = some a := by have := congrArg (·[0]?) e2; simpa [List.getElem?_drop] using this
      have hb : ds[k]? = some b := by have := congrArg (·[0]?) e3; simpa [List.getElem?_drop] using this
      have hl : l = cs.drop (k + 1) := by have := congrArg List.tail e2; simpa [List.tail_drop] using this.symm
      have hm : m = ds.drop (k + 1) := by have := congrArg List.tail e3; simpa [List.tail_drop] using this.symm
      simp only [Nat.add_zero] at h2
      obtain ⟨u, hu1, hu2⟩ := part_one (P := P) h3 hc ha
      obtain ⟨v, hv1, hv2⟩ := part_one (P := P) h3 hd hb
      rw [← h2] at hu1 hv1
      simp only [Op.eqFields, if_pos h1, Sem.run_bind, hu1, hv1, Result.andThen_ok]
      split at h
      · rename_i he
        rw [eqA_sound hu2 hv2 he]
        simp only [Result.andThen_ok, Bool.not_true, Bool.false_eq_true, if_false]
        exact eqAs_sound hc hd fs (k + 1) r (fun i g hg => by have := hf (i + 1) g (by simpa using hg); refine ⟨this.1, by rw [this.2.1]; omega, this.2.2⟩) (by rw [← hl, ← hm]; exact h)
      · rename_i he
        rw [eqA_sound hu2 hv2 h]
        cases r with
        | true => exact absurd h he
        | false => rfl
    · cases h
theorem eqGuard_other {op : BinOp} {t : TypeId} {x y : Operand} {a b : Value} (h : ∀ xs, a ≠ .agg xs) (h' : a ≠ .nilIface) : (eqGuard op t x y a b).run P w = .ok () w := by
  cases a <;> cases op <;> simp_all [eqGuard]
theorem byteLess_eq : ∀ (a b : List UInt8), byteLess a b = Op.bytesLess a b
  | _, [] => by cases ‹List UInt8› <;> rfl
  | [], _ :: _ => rfl
  | a :: x, b :: y => by simp [byteLess, Op.bytesLess, byteLess_eq x y]
theorem Rep.ne_agg {a : AV} {v : Value} (h : Rep w σ T a v) (hc : ∀ cs, a ≠ .agg cs) (hj : a ≠ .junk) : (∀ xs, v ≠ .agg xs) ∧ v ≠ .nilIface := by
  cases h <;> first | (exact absurd rfl (hc _)) | (exact absurd rfl hj) | (constructor <;> simp)

theorem un_sound {op : UnOp} {x v : AV} {x' : Value} (hx : Rep w σ T x x') (h : unA op x = some v) : ∃ v', (Op.unary op x').run P w = .ok v' w ∧ Rep w σ T v v' := by
  unfold unA at h
  split at h
  · cases h; cases hx; exact ⟨_, rfl, .int _ _⟩
  · cases h; cases hx; exact ⟨_, rfl, .bool _⟩
  · cases h
theorem conv_sound {s d : TypeId} {x v : AV} {x' : Value} (hx : Rep w σ T x x') (h : convA P s d x = some v) : ∃ v', (convert s d x').run P w = .ok v' w ∧ Rep w σ T v v' := by
  unfold convA at h
  split at h
  · rename_i hu hv; cases h; cases hx; exact ⟨_, by simp [convert, run_underlying hu, run_underlying hv, Conv.intToInt], .int _ _⟩
  · rename_i hu hv; cases h; cases hx; exact ⟨_, by simp [convert, run_underlying hu, run_underlying hv], .str _⟩
  · cases h
end
end Go.Proofs.Ytdaejmkoenhbkaa.Am
