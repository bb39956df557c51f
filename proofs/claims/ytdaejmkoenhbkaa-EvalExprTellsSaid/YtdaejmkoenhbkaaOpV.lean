/- AM, part 12: slice literals, make, append. -/
import Derived.Test.YtdaejmkoenhbkaaOpU
import Derived.IntWalk
import Derived.Deep.AppendSrc
namespace Go.Proofs.Ytdaejmkoenhbkaa.Am
section
variable {P : Program} {w : World} {σ : Sig} {T : Nat → Prop} {H : Heap} {b : Nat}

theorem fillRows_sound {n : Nat} {ρ : Operand → AV} {ρ' : Operand → Value} (hρ : ∀ x, Rep w σ T (ρ x) (ρ' x)) : ∀ (ps : List (Nat × Operand)) (rows r : List (List AV)) (cells' : Array Value),
    Flat w σ T rows n cells'.toList → fillRows n rows (ps.map fun p => (p.1, ρ p.2)) = some r →
    ∃ r' : Array Value, Instr.fill (fun i => some (i * n, n)) cells' (ps.map fun p => (p.1, ρ' p.2)) = some r' ∧ Flat w σ T r n r'.toList ∧ r.length = rows.length
  | [], rows, r, cells', hc, h => by cases h; exact ⟨cells', rfl, hc, rfl⟩
  | (i, x) :: ps, rows, r, cells', hc, h => by
    simp only [List.map_cons, fillRows] at h
    split at h
    · rename_i cs hcs
      split at h
      · rename_i hl
        obtain ⟨hl1, hl2, _⟩ := hl
        have hx := (hρ x).cells hcs
        have e1 : (ρ' x).cells.size = n := by rw [← Array.length_toList, ← hx.1, hl1]
        have e2 : cells'.size = rows.length * n := by rw [← Array.length_toList, hc.len]
        have hin : i * n + n ≤ rows.length * n := by
          have : (i + 1) * n ≤ rows.length * n := Nat.mul_le_mul_right _ hl2
          rw [Nat.add_mul] at this
          omega
        have hfold : ((ρ' x).cells.zipIdx.foldl (fun (cs : Array Value) (p : Value × Nat) => cs.setIfInBounds (i * n + p.2) p.1) cells').toList = cells'.toList.take (i * n) ++ (ρ' x).cells.toList ++ cells'.toList.drop (i * n + (ρ' x).cells.toList.length) := by
          have := foldl_set (ρ' x).cells.toList 0 (i * n) cells' (by simp; omega)
          rw [← Array.foldl_toList, Array.toList_zipIdx]
          simpa using this
        obtain ⟨r', h1, h2, h3⟩ := fillRows_sound hρ ps (rows.set i cs) r _ (by rw [hfold]; exact hc.set hl2 hl1 hx) h
        refine ⟨r', ?_, h2, by simpa using h3⟩
        have hcond : (decide ((ρ' x).cells.size ≠ n) || decide (i * n + (ρ' x).cells.size > cells'.size)) = false := by simp [e1, e2]; omega
        simp only [List.map_cons, Instr.fill, hcond, Bool.false_eq_true, if_false]
        exact h1
      · cases h
    · cases h

theorem sl_new {x : Blk} {cs : Array Value} {e : TypeId} {k cap : Nat} (hk : k ≤ cap) (hcap : cap ≤ maxLen) (hs : cap * x.size ≤ cs.size) :
    Rep (World.push w (.cells cs e (0, 0))) (σ.set b ⟨w.heap.size, 0, x.size⟩) (Own (σ.set b ⟨w.heap.size, 0, x.size⟩) (H.new b x)) (.sl b 0 k) (.slice (some ⟨w.heap.size, 0, none⟩) k cap) := by
  refine Rep.sl b 0 k ⟨w.heap.size, 0, x.size⟩ _ cap (Sig.set_eq _ _ _) hk hcap fun _ => ⟨by simp, cs, e, ?_, by simpa using hs⟩
  show (w.heap.push _)[w.heap.size]? = _
  simp
theorem buildSlice_done (hW : WRel w σ H) (hb : σ b = none) (hlt : b < H.next) {t e : TypeId} {len n : Nat} {ps : Array (Nat × Operand)} {ρ : Operand → AV} {ρ' : Operand → Value} (hρ : ∀ x, Rep w σ (Own σ H) (ρ x) (ρ' x))
    {z : List AV} {rows : List (List AV)} (hu : P.underlying t = some (.slice e)) (hn : sizeA P e = some n) (hz : (zeroA P e).bind AV.cells? = some z) (hzn : z.length = n) (h0 : 0 < n) (hl : len * n ≤ 2 ^ 24)
    (h : fillRows n (List.replicate len z) (ps.toList.map fun p => (p.1, ρ p.2)) = some rows) :
    Done P (Instr.buildSlice t len (ps.map fun (i, x) => (i, ρ' x))) w σ H b (.sl b 0 len) (H.new b ⟨n, rows⟩) := by
  have hps : (ps.map fun (i, x) => (i, ρ' x)).toList = ps.toList.map fun p => (p.1, ρ' p.2) := by simp
  cases hza : zeroA P e with
  | none => rw [hza] at hz; cases hz
  | some za =>
    rw [hza] at hz
    simp only [Option.bind_some] at hz
    obtain ⟨z', hz1, hz2⟩ := zero_sound (P := P) (w := w) (σ := σ) (T := Own σ H) hza
    have hzr := hz2.cells hz
    have hlen : len ≤ 2 ^ 24 := Nat.le_trans (Nat.le_mul_of_pos_right len h0) hl
    obtain ⟨l, e1, e2, e3, _⟩ := Flat.zeros hzr hzn h0 len len (Nat.le_refl _)
    have hfl : Flat w σ (Own σ H) (List.replicate len z) n (l.toArray).toList := by
      rw [List.take_of_length_le (by omega)] at e3
      exact e3
    obtain ⟨r', f1, f2, f3⟩ := fillRows_sound hρ ps.toList _ rows l.toArray hfl h
    have hr' : r'.size = len * n := by rw [← Array.length_toList, f2.len, f3]; simp
    have hrl : rows.length = len := by simpa using f3
    refine new_done hW hb hlt (cs := r') (e := e) (v' := .slice (some ⟨w.heap.size, 0, none⟩) len len) (l := r'.toList) ?_ f2 ?_ ?_
    · simp only []
      rw [List.take_of_length_le (by rw [Array.length_toList, hr', hrl]; exact Nat.le_refl _)]
    · have hgt : ¬ len * n > 2 ^ 24 := by omega
      simp only [Instr.buildSlice, Sem.run_bind, run_underlying hu, Result.andThen_ok, run_size hn]
      rw [if_neg hgt]
      by_cases hz0 : len * n = 0
      · have hl0 : len = 0 := by
          rcases Nat.mul_eq_zero.1 hz0 with h1 | h1
          · exact h1
          · omega
        subst hl0
        rw [if_pos hz0]
        have : l = [] := by cases l with
          | nil => rfl
          | cons a l => simp at e2
        subst this
        simp only [Sem.run_bind, Sem.run_pure, Result.andThen_ok, hz0, hps]
        have he : (Array.range 0).map (fun x => (#[] : Array Value)[x % (#[] : Array Value).size]!) = ([] : List Value).toArray := by simp
        rw [he, f1]
        rfl
      · rw [if_neg hz0]
        simp only [Sem.run_bind, hz1, Sem.run_pure, Result.andThen_ok, hps]
        rw [e1, f1]
        rfl
    · exact sl_new (x := ⟨n, rows⟩) (Nat.le_refl _) (by unfold maxLen; omega) (by rw [hr']; exact Nat.le_refl _)
theorem makeSlice_done (hW : WRel w σ H) (hb : σ b = none) (hlt : b < H.next) {t e : TypeId} {n by_ l c : Nat} {x y : AV} {x' y' : Value} (hx : Rep w σ (Own σ H) x x') (hy : Rep w σ (Own σ H) y y')
    {z : List AV} (hu : P.underlying t = some (.slice e)) (hn : sizeA P e = some n) (hby : bytesA P e = some by_) (hz : (zeroA P e).bind AV.cells? = some z) (hl : natOf x = some l) (hc : natOf y = some c)
    (hzn : z.length = n) (h0 : 0 < n) (hlc : l ≤ c) (hcm : c ≤ 2 ^ 62) (hcb : c * by_ ≤ 2 ^ 48) :
    Done P (Instr.makeSlice t x' y') w σ H b (.sl b 0 l) (H.new b ⟨n, List.replicate l z⟩) := by
  obtain ⟨kl, li, rfl, hl0, rfl⟩ := natOf_sound hx hl
  obtain ⟨kc, ci, rfl, hc0, rfl⟩ := natOf_sound hy hc
  cases hza : zeroA P e with
  | none => rw [hza] at hz; cases hz
  | some za =>
    rw [hza] at hz
    simp only [Option.bind_some] at hz
    cases hi : P.info? e with
    | none => simp [bytesA, hi] at hby
    | some i =>
    have hib : i.bytes = by_ := by simpa [bytesA, hi] using hby
    obtain ⟨z', hz1, hz2⟩ := zero_sound (P := P) (w := w) (σ := σ) (T := Own σ H) hza
    have hzr := hz2.cells hz
    obtain ⟨l, e1, e2, e3, _⟩ := Flat.zeros hzr hzn h0 li.toNat ci.toNat hlc
    have wl : IntKind.i64.wrap li = li := IntWalk.i64_in _ (by omega)
    have wc : IntKind.i64.wrap ci = ci := IntWalk.i64_in _ (by omega)
    have hbig : ((decide (ci < 0) || decide ((i.bytes : Int) * ci > 2 ^ 48)) || decide (li < 0) || decide (li > ci)) = false := by
      rw [hib]
      have : ((by_ : Int) * ci) = ((ci.toNat * by_ : Nat) : Int) := by rw [Int.natCast_mul, Int.toNat_of_nonneg hc0, Int.mul_comm]
      have h2 : ((ci.toNat * by_ : Nat) : Int) ≤ 2 ^ 48 := by exact_mod_cast hcb
      simp only [Bool.or_eq_false_iff, decide_eq_false_iff_not]
      refine ⟨⟨⟨by omega, by rw [this]; omega⟩, by omega⟩, by omega⟩
    refine new_done hW hb hlt (x := ⟨n, List.replicate li.toNat z⟩) (cs := l.toArray) (e := e) (v' := .slice (some ⟨w.heap.size, 0, none⟩) li.toNat ci.toNat) (l := l.take (li.toNat * n)) ?_ e3 ?_ ?_
    · simp
    · simp only [Instr.makeSlice, asInt, asIntOf, Sem.run_bind, run_underlying hu, Sem.run_pure, Result.andThen_ok, run_info hi, wl, wc, hbig, Bool.false_eq_true, if_false, run_askRoom, run_size hn]
      by_cases hz0 : ci.toNat * n = 0
      · rw [if_pos hz0]
        have hnil : l = [] := by cases l with
          | nil => rfl
          | cons a l => simp at e2; omega
        subst hnil
        simp only [Sem.run_bind, Sem.run_pure, Result.andThen_ok, hz0]
        have he : (Array.range 0).map (fun x => (#[] : Array Value)[x % (#[] : Array Value).size]!) = ([] : List Value).toArray := by simp
        rw [he]
        rfl
      · rw [if_neg hz0]
        simp only [Sem.run_bind, hz1, Sem.run_pure, Result.andThen_ok]
        rw [e1]
        rfl
    · exact sl_new (x := ⟨n, List.replicate li.toNat z⟩) hlc (by unfold maxLen; omega) (by simp [e2])

/-! ### append -/
theorem cells_flat {m : List (List AV)} {n c o : Nat} (he : ∀ (i : Nat) (r : List AV), m[i]? = some r → r.length = n) (hc : ∀ (i : Nat) (r : List AV), m[i]? = some r → RowAt w σ T r c (o + i * n)) :
    ∃ l : List Value, (∀ w2 : World, w2.heap = w.heap → (loadCells ⟨c, o, none⟩ (m.length * n)).run P w2 = .ok l.toArray w2) ∧ Flat w σ T m n l := by
  have key : ∀ p, ∃ u, p < m.length * n → w.cell? ⟨c, o + p, none⟩ = some u := fun p => by
    by_cases hp : p < m.length * n
    · have hn : 0 < n := by
        rcases Nat.eq_zero_or_pos n with h0 | h0
        · subst h0; simp at hp
        · exact h0
      have hi : p / n < m.length := by rw [Nat.div_lt_iff_lt_mul hn]; exact hp
      have hr : m[p / n]? = some m[p / n] := List.getElem?_eq_getElem hi
      have hj : p % n < m[p / n].length := by rw [he _ _ hr]; exact Nat.mod_lt _ hn
      obtain ⟨u, h1, _⟩ := hc _ _ hr (p % n) _ (List.getElem?_eq_getElem hj)
      refine ⟨u, fun _ => ?_⟩
      rw [Nat.add_assoc, Nat.mul_comm, Nat.div_add_mod] at h1
      exact h1
    · exact ⟨undef, fun h => absurd h hp⟩
  let f := fun p => Classical.choose (key p)
  have hf : ∀ p, p < m.length * n → w.cell? ⟨c, o + p, none⟩ = some (f p) := fun p => Classical.choose_spec (key p)
  refine ⟨(List.range (m.length * n)).map f, fun w2 hw2 => run_loadCells w2 _ _ f (fun j hj => by rw [addr_add]; rw [← hf j hj]; unfold World.cell?; rw [hw2]), ⟨by simp, he, ?_⟩⟩
  intro i r j a u hr ha hu
  have hj : j < n := by rw [← he i r hr]; exact lt_of_some ha
  have hp := lt_mul (lt_of_some hr) hj
  rw [List.getElem?_map, List.getElem?_range hp] at hu
  cases hu
  obtain ⟨u, h1, h2⟩ := hc i r hr j a ha
  rw [Nat.add_assoc, hf _ hp] at h1
  cases h1
  exact h2
theorem rows_flat (hW : WRel w σ H) {n : Nat} {x : AV} {x' : Value} {m : List (List AV)} (hx : Rep w σ (Own σ H) x x') (h : rowsOf H n x = some m) :
    ∃ (A : Option Addr) (cap : Nat) (l : List Value), x' = .slice A m.length cap ∧ (∀ w2 : World, w2.heap = w.heap → (Builtin.firstCells n m.length x').run P w2 = .ok l.toArray w2) ∧ Flat w σ (Own σ H) m n l := by
  unfold rowsOf at h
  split at h
  · cases h; cases hx; exact ⟨none, 0, [], rfl, fun _ _ => rfl, Flat.nil n⟩
  · cases h
    cases hx with
    | emp A => exact ⟨A, 0, [], rfl, fun w2 _ => by cases A <;> simp [Builtin.firstCells, loadCells, loadCellsFrom], Flat.nil n⟩
  · rename_i rows
    split at h
    · cases h
      obtain ⟨A, cap, rfl, _, _, _⟩ := hx.lst_inv
      refine ⟨A, cap, [], rfl, ?_, Flat.nil n⟩
      intro w2 _
      cases A <;> simp [Builtin.firstCells, loadCells, loadCellsFrom]
    · rename_i r rs
      split at h
      · rename_i hr
        cases h
        obtain ⟨A, cap, rfl, hn, hm, ha⟩ := hx.lst_inv
        obtain ⟨b, o, sz, rfl, hl, hrep⟩ := ha (by simp)
        obtain rfl : r.length = sz := hl.even 0 r rfl
        subst hr
        obtain ⟨l, h1, h2⟩ := cells_flat (P := P) (o := o) (c := b) hl.even (fun i q hq => hl.row hrep hq)
        exact ⟨_, cap, l, rfl, fun w2 hw2 => by simp only [Builtin.firstCells]; exact h1 w2 hw2, h2⟩
      · cases h
  · rename_i b' i k
    split at h
    · rename_i y hy
      split at h
      · rename_i hcond
        obtain ⟨hsz, hik⟩ := hcond
        cases h
        obtain ⟨pl, a, cap, rfl, hs, hn, hm, ha⟩ := hx.sl_inv
        obtain ⟨pl', cs', e', g1, g2⟩ := hW.live b' y hy
        rw [hs] at g1
        cases g1
        have hlen : ((y.rows.drop i).take k).length = k := by simp; omega
        rw [hlen]
        have get : ∀ (q : Nat) (r : List AV), ((y.rows.drop i).take k)[q]? = some r → y.rows[i + q]? = some r := fun q r hq => by
          have hi := lt_of_some hq
          rw [hlen] at hi
          rwa [List.getElem?_take_of_lt hi, List.getElem?_drop] at hq
        rcases Nat.eq_zero_or_pos k with hk | hk
        · subst hk
          exact ⟨_, cap, [], rfl, fun w2 _ => by simp [Builtin.firstCells, loadCells, loadCellsFrom], by simpa using Flat.nil n⟩
        · obtain ⟨rfl, cs, ty, hc, hr⟩ := ha (by omega)
          obtain ⟨l, h1, h2⟩ := cells_flat (P := P) (w := w) (σ := σ) (T := Own σ H) (m := (y.rows.drop i).take k) (n := n) (c := pl.block) (o := pl.base + i * pl.size) (fun q r hq => by rw [← hsz]; exact g2.even _ r (get q r hq)) (fun q r hq => by
            have := g2.row (get q r hq)
            rw [Nat.add_mul, ← Nat.add_assoc] at this
            rwa [g2.size, hsz] at this ⊢)
          rw [hlen] at h1
          exact ⟨_, cap, l, rfl, fun w2 hw2 => by simp only [Builtin.firstCells]; exact h1 w2 hw2, h2⟩
      · cases h
    · cases h
  · cases h

theorem Flat.ones {rows : List (List AV)} {n : Nat} {l : List Value} (h : Flat w σ T rows n l) (ho : (rows.all fun r => r.all AV.one) = true) : ∀ u ∈ l, u.oneCell' = true := by
  intro u hu
  obtain ⟨p, hp, rfl⟩ := List.getElem_of_mem hu
  have hlen := h.len
  have hn : 0 < n := by
    rcases Nat.eq_zero_or_pos n with h0 | h0
    · subst h0; rw [Nat.mul_zero] at hlen; omega
    · exact h0
  have hi : p / n < rows.length := by rw [Nat.div_lt_iff_lt_mul hn]; omega
  have hr : rows[p / n]? = some rows[p / n] := List.getElem?_eq_getElem hi
  have hj : p % n < rows[p / n].length := by rw [h.even _ _ hr]; exact Nat.mod_lt _ hn
  have hrep := h.rep (p / n) _ (p % n) _ l[p] hr (List.getElem?_eq_getElem hj) (by rw [Nat.mul_comm, Nat.div_add_mod]; exact List.getElem?_eq_getElem hp)
  refine hrep.one ?_
  rw [List.all_eq_true] at ho
  have := ho _ (List.getElem_mem hi)
  rw [List.all_eq_true] at this
  exact this _ (List.getElem_mem hj)
theorem run_append_fit {t tx ty e e' : TypeId} {n sLen sCap k capx : Nat} {A B : Option Addr} {news : List Value} (ht : P.underlying t = some (.slice e)) (htx : P.underlying tx = some (.slice e')) (hn : sizeA P e = some n)
    (hroom : sLen + k ≤ sCap) (hc : (Builtin.firstCells n k (.slice B k capx)).run P w = .ok news.toArray w) {w' : World} (hst : (match A with | some a => storeCells (a.add (sLen * n)) news | none => Pure.pure ()).run P w = .ok () w') :
    (Builtin.append_ #[t, tx] ty #[.slice A sLen sCap, .slice B k capx]).run P w = .ok (.slice A (sLen + k) sCap) w' := by
  cases A with
  | none =>
    simp only [Sem.run_pure] at hst
    cases hst
    simp [Builtin.append_, run_underlying ht, run_underlying htx, run_size hn, Builtin.lenOf, hroom, hc]
  | some a =>
    simp only [] at hst
    simp [Builtin.append_, run_underlying ht, run_underlying htx, run_size hn, Builtin.lenOf, hroom, hc, hst]
theorem append_done (hW : WRel w σ H) (hb : σ b = none) (hlt : b < H.next) {t tx ty e' : TypeId} {s x v : AV} {s' x' : Value} {H' : Heap} (hx : Rep w σ (Own σ H) x x') (hs : Rep w σ (Own σ H) s s')
    (htx : P.underlying tx = some (.slice e')) (h : appendA P H b t s x = some (v, H')) : Done P (Builtin.append_ #[t, tx] ty #[s', x']) w σ H b v H' := by
  unfold appendA at h
  split at h
  · rename_i e hu
    split at h
    · rename_i n by_ z hn hby hz
      split at h
      · rename_i l m hl hm
        split at h
        · rename_i hc
          obtain ⟨c1, c2, h0, hzn, hone⟩ := hc
          cases hi : P.info? e with
          | none => simp [bytesA, hi] at hby
          | some i =>
          have hib : i.bytes = by_ := by simpa [bytesA, hi] using hby
          have hin : i.size = n := by simpa [sizeA, hi] using hn
          cases hza : zeroA P e with
          | none => rw [hza] at hz; cases hz
          | some za =>
          rw [hza] at hz
          simp only [Option.bind_some] at hz
          obtain ⟨z', hz1, hz2⟩ := zero_sound (P := P) (w := w) (σ := σ) (T := Own σ H) hza
          have hiz : i.zero = some z' := by
            simp only [zeroValue, Sem.run_bind, run_info hi, Result.andThen_ok] at hz1
            split at hz1
            · rename_i q hq; cases hz1; exact hq
            · cases hz1
          have hzr := hz2.cells hz
          obtain ⟨A, cap, olds, rfl, ho1, ho2⟩ := rows_flat (P := P) hW hs hl
          obtain ⟨B, capx, news, rfl, hn1, hn2⟩ := rows_flat (P := P) hW hx hm
          have grow : ∀ {K : Heap}, (hWK : WRel w σ K) → (hext : Ext w σ (Own σ H) w σ (Own σ K)) → b < K.next → cap < l.length + m.length →
              Done P (Builtin.append_ #[t, tx] ty #[.slice A l.length cap, .slice B m.length capx]) w σ H b (.sl b 0 (l.length + m.length)) (K.new b ⟨n, l ++ m⟩) := by
            intro K hWK hext hltK hcap
            have hrun := run_append_grow_src (P := P) w t tx ty e i z' hu hi hiz A l.length cap olds (by rw [hin]; exact ho1 _ rfl) (.slice B m.length capx) m.length news
              ⟨.inl ⟨e', htx⟩, fun _ => rfl, by rw [hin]; exact hn1 w rfl, by rw [hin]; exact hn1 _ rfl, by rw [hin]; exact hn2.len, hn2.ones hone⟩ hcap (by omega)
              (by rw [hib]; have := Nat.mul_le_mul_right by_ (nextslicecap_le hcap); omega)
            generalize hgc : grownCap w (l.length + m.length) cap e = gc at hrun
            have hgc1 : l.length + m.length ≤ gc ∧ gc ≤ maxLen := by
              rw [← hgc]
              have hcut : grownCap w (l.length + m.length) cap e = (l.length + m.length) + w.tape w.drawn (.appendCap (l.length + m.length) cap e) % (2 ^ 63 - (l.length + m.length)) := rfl
              rw [hcut]
              unfold maxLen
              have : w.tape w.drawn (.appendCap (l.length + m.length) cap e) % (2 ^ 63 - (l.length + m.length)) < 2 ^ 63 - (l.length + m.length) := Nat.mod_lt _ (by omega)
              omega
            have hE : Ext w σ (Own σ H) w.drew σ (Own σ K) := hext.trans (Ext.same σ _ rfl rfl rfl rfl)
            have hzs : z'.cells.size = n := by rw [← Array.length_toList, ← hzr.1, hzn]
            have hfl : Flat w σ (Own σ H) (l ++ m) n (olds ++ news) := ho2.append hn2
            generalize hcs : ((olds ++ news).toArray ++ Builtin.zeroCells z'.cells (gc - (l.length + m.length)) : Array Value) = cs at hrun
            have hcl : cs.size = gc * n := by
              rw [← hcs]
              have h1 := hfl.len
              simp only [List.length_append] at h1
              simp only [Array.size_append, List.size_toArray, List.length_append, h1, Builtin.zeroCells, Array.size_map, Array.size_range, hzs]
              rw [← Nat.add_mul]
              congr 1
              omega
            have hcget : ∀ p u, p < (l ++ m).length * n → cs[p]? = some u → (olds ++ news)[p]? = some u := fun p u hp hu => by
              rw [← hcs, Array.getElem?_append_left (by simp only [List.size_toArray]; rw [hfl.len]; exact hp)] at hu
              simpa using hu
            obtain ⟨g1, g2⟩ := (hWK.same (w' := w.drew) rfl rfl rfl rfl).new hb hltK (x := ⟨n, l ++ m⟩) (cs := cs) (e := e) hfl.even (by rw [hcl]; simp only [List.length_append]; exact Nat.mul_le_mul_right _ hgc1.1) (fun i r j a u hr ha hu => by
              have hj : j < n := by rw [← hfl.even i r hr]; exact lt_of_some ha
              exact (hfl.rep i r j a u hr ha (hcget _ u (lt_mul (lt_of_some hr) hj) hu)).mono hE)
            refine ⟨_, _, _, hrun, ?_, g1, hE.trans g2, fun c pl hc => ?_⟩
            · exact sl_new (w := w.drew) (x := ⟨n, l ++ m⟩) hgc1.1 hgc1.2 (by rw [hcl]; exact Nat.le_refl _)
            · by_cases hbc : b = c
              · exact .inr hbc.symm
              · rw [Sig.set_ne _ _ hbc] at hc; exact .inl hc
          split at h
          · -- onto nil
            cases hl
            simp only [List.length_nil] at hs
            cases hs
            split at h
            · rename_i hm0
              cases h
              refine ⟨.slice none 0 0, w, σ, ?_, .nils, hW, Ext.refl _ _ _, fun c pl hc => .inl hc⟩
              have := run_append_fit (P := P) (ty := ty) (A := none) (sLen := 0) (sCap := 0) (k := m.length) hu htx hn (by omega) (hn1 w rfl) (w' := w) rfl
              rw [hm0] at this
              simpa [hm0] using this
            · rename_i hm0
              cases h
              have := grow hW (Ext.refl _ _ _) hlt (by simp; omega)
              simpa using this
          · -- onto an empty one
            cases hl
            simp only [List.length_nil] at hs
            cases hs
            split at h
            · rename_i hm0
              cases h
              refine ⟨.slice A 0 0, w, σ, ?_, .emp A, hW, Ext.refl _ _ _, fun c pl hc => .inl hc⟩
              have hm' : m = [] := by cases m with
                | nil => rfl
                | cons x m => simp at hm0
              have hnews : news = [] := by have := hn2.len; rw [hm'] at this; simpa using this
              have := run_append_fit (P := P) (ty := ty) (A := A) (sLen := 0) (sCap := 0) (k := m.length) hu htx hn (by omega) (hn1 w rfl) (w' := w) (by rw [hnews]; cases A <;> rfl)
              rw [hm0] at this
              simpa [hm0] using this
            · rename_i hm0
              cases h
              have := grow hW (Ext.refl _ _ _) hlt (by simp; omega)
              simpa using this
          · rename_i b' i k
            cases h
            obtain ⟨pl, a, cap', heq, hsig, hk, hcm, ha⟩ := hs.sl_inv
            simp only [Value.slice.injEq] at heq
            obtain ⟨rfl, hkl, rfl⟩ := heq
            simp only [rowsOf] at hl
            split at hl
            · rename_i y hy
              split at hl
              · rename_i hcond
                obtain ⟨hyn, hik⟩ := hcond
                cases hl
                have hlen : ((y.rows.drop i).take k).length = k := by simp; omega
                obtain ⟨pl', ds, e0, q1, q2⟩ := hW.live b' y hy
                rw [hsig] at q1
                cases q1
                have hps : pl.size = n := q2.size.trans hyn
                have hget : ∀ (q : Nat) (r : List AV), ((y.rows.drop i).take k)[q]? = some r → q < k ∧ y.rows[i + q]? = some r := fun q r hq => by
                  have hi := lt_of_some hq
                  rw [hlen] at hi
                  rw [List.getElem?_take_of_lt hi, List.getElem?_drop] at hq
                  exact ⟨hi, hq⟩
                have hfl : Flat w σ (Own σ H) ((y.rows.drop i).take k ++ m) n (olds ++ news) := ho2.append hn2
                by_cases hroom : ((y.rows.drop i).take k).length + m.length ≤ cap
                · -- there is room
                  by_cases hc0 : cap = 0
                  · subst hc0
                    have hm0 : m.length = 0 := by omega
                    have hk0 : k = 0 := by omega
                    have hlk : ((y.rows.drop i).take k) = [] := by rw [hk0]; simp
                    have hm' : m = [] := by cases m with
                      | nil => rfl
                      | cons x m => simp at hm0
                    have hnews : news = [] := by have := hn2.len; rw [hm'] at this; simpa using this
                    have hrun := run_append_fit (P := P) (ty := ty) (A := some a) hu htx hn hroom (hn1 w rfl) (w' := w) (by rw [hnews]; rfl)
                    obtain ⟨o1, o2⟩ := hW.over (k := 0) hy hsig hb hlt (Wrote.refl q2.block) (x' := ⟨n, (y.rows.drop i).take k ++ m⟩) hps.symm hfl.even (by rw [hlk, hm']; have := q2.room; simp; omega) (by rw [hlk, hm']; intro i r j a u hr; simp at hr)
                    refine ⟨_, _, _, hrun, ?_, o1, o2, fun c pl hc => ?_⟩
                    · exact Rep.sl b 0 _ _ a 0 (Sig.set_eq _ _ _) hroom (by omega) (by omega)
                    · by_cases hbc : b = c
                      · exact .inr hbc.symm
                      · rw [Sig.set_ne _ _ hbc] at hc; exact .inl hc
                  · obtain ⟨rfl, cs, ty', hcb, hcr⟩ := ha (by omega)
                    rw [q2.block] at hcb
                    cases hcb
                    have hnl : news.length = m.length * n := hn2.len
                    have hcap : (k + m.length) * n ≤ cap * n := Nat.mul_le_mul_right _ (by omega)
                    have hbound : pl.base + i * pl.size + k * n + news.length ≤ ds.size := by
                      rw [hnl, hps]
                      rw [hps, Nat.add_mul] at hcr
                      rw [Nat.add_mul] at hcap
                      omega
                    have hst := run_storeCells_at (P := P) pl.block (pl.base + i * pl.size + k * n) e0 news 0 ds w q2.block (by simpa using hbound) (hn2.ones hone)
                    simp only [Nat.add_zero] at hst
                    have hw : Wrote w (w.setRow pl.block (ds.toList.take (pl.base + i * pl.size + k * n) ++ news ++ ds.toList.drop (pl.base + i * pl.size + k * n + news.length)).toArray) pl.block ds _ e0 :=
                      ⟨rfl, rfl, rfl, by simp, q2.block, setRow_heap w _ _ _ _ _ q2.block, by
                        simp only [List.size_toArray, List.length_append, List.length_take, List.length_drop, Array.length_toList]
                        rw [Nat.min_eq_left (by omega)]
                        omega, fun d hd => setRow_other w _ d _ hd⟩
                    have hrun := run_append_fit (P := P) (ty := ty) (A := some ⟨pl.block, pl.base + i * pl.size, none⟩) hu htx hn hroom (hn1 w rfl) (by simp only [addr_add]; rw [hlen]; exact hst)
                    have hdl : ds.toList.length = ds.size := Array.length_toList
                    obtain ⟨o1, o2⟩ := hW.over (k := i) hy hsig hb hlt hw (x' := ⟨n, (y.rows.drop i).take k ++ m⟩) hps.symm hfl.even (by
                      simp only [List.length_append, hlen]
                      rw [Nat.add_mul]
                      omega) (fun q r j a u hr hj hu => by
                      simp only [] at hr hu
                      have hjn : j < n := by rw [← hfl.even q r hr]; exact lt_of_some hj
                      rw [List.getElem?_toArray, get_splice ds.toList news _ _ (by omega)] at hu
                      rcases Nat.lt_or_ge q k with hq | hq
                      · rw [List.getElem?_append_left (by omega)] at hr
                        have := lt_mul hq hjn
                        rw [if_pos (by omega), Array.getElem?_toList] at hu
                        refine q2.rep (i + q) r j a u (hget q r hr).2 hj ?_
                        rw [hyn, ← hu, hps]
                        congr 1
                        rw [Nat.add_mul]
                        omega
                      · rw [List.getElem?_append_right (by omega), hlen] at hr
                        have hqm : q - k < m.length := lt_of_some hr
                        have h1 := lt_mul hqm hjn
                        have h2 : (q - k) * n + k * n = q * n := by rw [← Nat.add_mul, Nat.sub_add_cancel hq]
                        rw [if_neg (by omega), if_pos (by omega)] at hu
                        refine hn2.rep (q - k) r j a u hr hj ?_
                        rw [← hu]
                        congr 1
                        omega)
                    refine ⟨_, _, _, hrun, ?_, o1, o2, fun c pl hc => ?_⟩
                    · refine Rep.sl b 0 _ _ _ cap (Sig.set_eq _ _ _) hroom hcm fun _ => ⟨by simp, _, e0, hw.new, ?_⟩
                      rw [hw.len]
                      simp only [Nat.zero_add]
                      rw [Nat.add_mul] at hcr
                      omega
                    · by_cases hbc : b = c
                      · exact .inr hbc.symm
                      · rw [Sig.set_ne _ _ hbc] at hc; exact .inl hc
                · -- a new block
                  have hsub : ∀ c x, (H.put b' none).get c = some x → H.get c = some x := fun c x hx => by
                    rw [Heap.get_put] at hx
                    split at hx
                    · cases hx
                    · exact hx
                  exact grow (hW.sub hsub (Nat.le_refl _)) (Ext.sub hsub) hlt (by omega)
              · cases hl
            · cases hl
          · cases h
        · cases h
      · cases h
    · cases h
  · cases h
theorem Flat.sub {rows : List (List AV)} {n : Nat} {l : List Value} (h : Flat w σ T rows n l) : ∀ (i : Nat) (r : List AV) (j : Nat) (a : AV) (u : Value), rows[i]? = some r → r[j]? = some a → l[i * n + j]? = some u → Rep w σ T a u := h.rep
/-- rows of a block are written anew -/
theorem splice_done (hW : WRel w σ H) {c : Nat} {y : Blk} {pl : Place} (hy : H.get c = some y) (hs : σ c = some pl) {i : Nat} {rows : List (List AV)} {us : List Value} (hf : Flat w σ (Own σ H) rows y.size us) (hin : i + rows.length ≤ y.rows.length) (hone : ∀ u ∈ us, u.oneCell' = true) :
    ∃ w', (storeCells ⟨pl.block, pl.base + i * pl.size, none⟩ us).run P w = .ok () w' ∧ WRel w' σ (H.put c (some { y with rows := y.rows.take i ++ rows ++ y.rows.drop (i + rows.length) })) ∧ Ext w σ (Own σ H) w' σ (Own σ (H.put c (some { y with rows := y.rows.take i ++ rows ++ y.rows.drop (i + rows.length) }))) := by
  obtain ⟨pl', ds, e, g1, g2⟩ := hW.live c y hy
  rw [hs] at g1
  cases g1
  have hsz := g2.size
  have hroom := g2.room
  have hm : (i + rows.length) * y.size ≤ y.rows.length * y.size := Nat.mul_le_mul_right _ hin
  have hul : us.length = rows.length * y.size := hf.len
  rw [Nat.add_mul] at hm
  have hdl : ds.toList.length = ds.size := Array.length_toList
  have hst := run_storeCells_at (P := P) pl.block (pl.base + i * pl.size) e us 0 ds w g2.block (by rw [hul, hsz]; omega) hone
  simp only [Nat.add_zero] at hst
  have hw : Wrote w (w.setRow pl.block (ds.toList.take (pl.base + i * pl.size) ++ us ++ ds.toList.drop (pl.base + i * pl.size + us.length)).toArray) pl.block ds _ e :=
    ⟨rfl, rfl, rfl, by simp, g2.block, setRow_heap w _ _ _ _ _ g2.block, by
      simp only [List.size_toArray, List.length_append, List.length_take, List.length_drop, Array.length_toList]
      rw [hsz, Nat.min_eq_left (by omega)]
      omega, fun d hd => setRow_other w _ d _ hd⟩
  have hlen : (y.rows.take i ++ rows ++ y.rows.drop (i + rows.length)).length = y.rows.length := by
    simp only [List.length_append, List.length_take, List.length_drop]; omega
  refine ⟨_, hst, hW.put hy hs hw (x' := { y with rows := y.rows.take i ++ rows ++ y.rows.drop (i + rows.length) }) hsz.symm ?_ ?_ ?_⟩
  · intro q s hq
    simp only [] at hq
    rw [get_splice _ _ _ _ hin] at hq
    split at hq
    · exact g2.even q s hq
    · split at hq
      · exact hf.even _ s hq
      · exact g2.even q s hq
  · simp only [hlen]; exact hroom
  · intro q s j a u hq hj hu
    simp only [] at hq hu
    rw [get_splice _ _ _ _ hin] at hq
    rw [List.getElem?_toArray, get_splice ds.toList us (pl.base + i * pl.size) _ (by rw [hul, hsz]; omega), hul, hsz] at hu
    by_cases h1 : q < i
    · rw [if_pos h1] at hq
      have hjs : j < y.size := by rw [← g2.even q s hq]; exact lt_of_some hj
      have : (q + 1) * y.size ≤ i * y.size := Nat.mul_le_mul_right _ h1
      rw [Nat.add_mul] at this
      rw [if_pos (by omega), Array.getElem?_toList] at hu
      exact g2.rep q s j a u hq hj hu
    · rw [if_neg h1] at hq
      have h1' : i * y.size ≤ q * y.size := Nat.mul_le_mul_right _ (by omega)
      by_cases h2 : q < i + rows.length
      · rw [if_pos h2] at hq
        have hjs : j < y.size := by rw [← hf.even _ s hq]; exact lt_of_some hj
        have : (q + 1) * y.size ≤ (i + rows.length) * y.size := Nat.mul_le_mul_right _ h2
        rw [Nat.add_mul, Nat.add_mul] at this
        rw [if_neg (by omega), if_pos (by omega)] at hu
        refine hf.rep (q - i) s j a u hq hj ?_
        rw [← hu]
        congr 1
        rw [Nat.sub_mul]
        omega
      · rw [if_neg h2] at hq
        have : (i + rows.length) * y.size ≤ q * y.size := Nat.mul_le_mul_right _ (by omega)
        rw [Nat.add_mul] at this
        rw [if_neg (by omega), if_neg (by omega), Array.getElem?_toList] at hu
        exact g2.rep q s j a u hq hj hu
theorem clear_done {b : Nat} (hW : WRel w σ H) {t ty : TypeId} {x : AV} {x' : Value} {H' : Heap} (hx : Rep w σ (Own σ H) x x') (h : clearA P H t x = some H') :
    Done P (Builtin.clear_ #[t] ty #[x']) w σ H b (.tup []) H' := by
  unfold clearA at h
  split at h
  · rename_i e hu
    split at h
    · rename_i n z hn hz
      split at h
      · cases h
        cases hx
        exact ⟨.tuple #[], w, σ, by simp [Builtin.clear_, run_underlying hu], .tup [] [] rfl (by simp), hW, Ext.refl _ _ _, fun c pl hc => .inl hc⟩
      · rename_i c i k
        split at h
        · rename_i y hy
          split at h
          · rename_i hcond
            obtain ⟨⟨q1, q2⟩, ⟨q3, q4⟩, q5⟩ := hcond
            cases h
            obtain ⟨pl, ad, cap, rfl, hsg, hnc, hmx, ha⟩ := hx.sl_inv
            rcases Nat.eq_zero_or_pos k with rfl | hk
            · have e0 : y.rows.take i ++ List.replicate 0 z ++ y.rows.drop (i + 0) = y.rows := by simp
              obtain ⟨pl', ds, e', g1, g2⟩ := hW.live c y hy
              rw [hsg] at g1
              cases g1
              have hput := hW.put hy hsg (Wrote.refl g2.block) (x' := { y with rows := y.rows.take i ++ List.replicate 0 z ++ y.rows.drop (i + 0) }) g2.size.symm (by simp only [e0]; exact g2.even) (by simp only [e0]; exact g2.room) (by simp only [e0]; exact g2.rep)
              exact ⟨.tuple #[], w, σ, by simp [Builtin.clear_, run_underlying hu], .tup [] [] rfl (by simp), hput.1, hput.2, fun c pl hc => .inl hc⟩
            · obtain ⟨rfl, cs, te, hcs, hroom⟩ := ha (by omega)
              cases hz0 : zeroA P e with
              | none => rw [hz0] at hz; cases hz
              | some z0 =>
                rw [hz0] at hz
                obtain ⟨z', h1, h2⟩ := zero_sound (P := P) (w := w) (σ := σ) (T := Own σ H) hz0
                have hr := h2.cells hz
                obtain ⟨l, hl1, hl2, hl3, hl4⟩ := Flat.zeros (zs := z'.cells) hr q2 q3 k k (Nat.le_refl _)
                rw [List.take_of_length_le (by omega)] at hl3
                have hlz : (Builtin.zeroCells z'.cells k).toList = l := by
                  have hzs : z'.cells.size = n := by rw [← Array.length_toList, ← hr.1, q2]
                  have : Builtin.zeroCells z'.cells k = l.toArray := by
                    rw [← hl1, ← hzs]
                    rfl
                  rw [this]
                subst q1
                have hfl : Flat w σ (Own σ H) (List.replicate k z) y.size l := hl3
                have hones : ∀ u ∈ l, u.oneCell' = true := fun u hu' => by
                  obtain ⟨a, ha1, ha2⟩ := hl4 u hu'
                  exact ha1.one (List.all_eq_true.1 q5 a ha2)
                obtain ⟨w', g1, g2, g3⟩ := splice_done (P := P) hW hy hsg hfl (by simpa using q4) hones
                simp only [List.length_replicate] at g2 g3
                refine ⟨.tuple #[], w', σ, ?_, .tup [] [] rfl (by simp), g2, g3, fun c pl hc => .inl hc⟩
                have hk0 : k ≠ 0 := by omega
                obtain ⟨k', rfl⟩ : ∃ k', k = k' + 1 := ⟨k - 1, by omega⟩
                simp [Builtin.clear_, run_underlying hu, h1, hlz, g1]
          · cases h
        · cases h
      · cases h
    · cases h
  · cases h
end
end Go.Proofs.Ytdaejmkoenhbkaa.Am
