/- AM, part 11: operations that make memory and write it. -/
import Derived.Test.YtdaejmkoenhbkaaOpT
namespace Go.Proofs.Ytdaejmkoenhbkaa.Am
/-- an operation has been carried out as the abstract one says; b: the number of the block that it may have made -/
def Done (P : Program) (s : Sem Value) (w : World) (σ : Sig) (H : Heap) (b : Nat) (v : AV) (H' : Heap) : Prop :=
  ∃ v' w' σ', s.run P w = .ok v' w' ∧ Rep w' σ' (Own σ' H') v v' ∧ WRel w' σ' H' ∧ Ext w σ (Own σ H) w' σ' (Own σ' H') ∧ ∀ c pl, σ' c = some pl → σ c = some pl ∨ c = b
section
variable {P : Program} {w : World} {σ : Sig} {T : Nat → Prop} {H : Heap} {b : Nat}

/-- rows of n cells that lie one behind the other in a list -/
structure Flat (w : World) (σ : Sig) (T : Nat → Prop) (rows : List (List AV)) (n : Nat) (l : List Value) : Prop where
  len : l.length = rows.length * n
  even : ∀ (i : Nat) (r : List AV), rows[i]? = some r → r.length = n
  rep : ∀ (i : Nat) (r : List AV) (j : Nat) (a : AV) (u : Value), rows[i]? = some r → r[j]? = some a → l[i * n + j]? = some u → Rep w σ T a u
theorem lt_mul {i j m n : Nat} (hi : i < m) (hj : j < n) : i * n + j < m * n := by
  have : (i + 1) * n ≤ m * n := Nat.mul_le_mul_right _ hi
  rw [Nat.add_mul] at this
  omega
theorem Flat.nil (n : Nat) : Flat w σ T [] n [] := ⟨by simp, by simp, by simp⟩
theorem Flat.append {rows rows' : List (List AV)} {n : Nat} {l l' : List Value} (h : Flat w σ T rows n l) (k : Flat w σ T rows' n l') : Flat w σ T (rows ++ rows') n (l ++ l') := by
  refine ⟨by simp [h.len, k.len, Nat.add_mul], fun i r hr => ?_, fun i r j a u hr ha hu => ?_⟩
  · rcases Nat.lt_or_ge i rows.length with hi | hi
    · rw [List.getElem?_append_left hi] at hr; exact h.even i r hr
    · rw [List.getElem?_append_right hi] at hr; exact k.even _ r hr
  · rcases Nat.lt_or_ge i rows.length with hi | hi
    · rw [List.getElem?_append_left hi] at hr
      have hj : j < n := by rw [← h.even i r hr]; exact lt_of_some ha
      rw [List.getElem?_append_left (by rw [h.len]; exact lt_mul hi hj)] at hu
      exact h.rep i r j a u hr ha hu
    · rw [List.getElem?_append_right hi] at hr
      have hge : l.length ≤ i * n + j := by rw [h.len]; exact Nat.le_trans (Nat.mul_le_mul_right _ hi) (Nat.le_add_right _ _)
      rw [List.getElem?_append_right hge] at hu
      refine k.rep (i - rows.length) r j a u hr ha ?_
      rw [← hu, h.len]
      congr 1
      rw [Nat.sub_mul]
      have : rows.length * n ≤ i * n := Nat.mul_le_mul_right _ hi
      omega
theorem Flat.set {rows : List (List AV)} {n : Nat} {l : List Value} (h : Flat w σ T rows n l) {i : Nat} {cs : List AV} {us : List Value} (hi : i < rows.length) (hc : cs.length = n) (k : Reps w σ T cs us) :
    Flat w σ T (rows.set i cs) n (l.take (i * n) ++ us ++ l.drop (i * n + us.length)) := by
  have hu : us.length = n := by rw [← k.1, hc]
  have hin : i * n + n ≤ l.length := by
    rw [h.len]
    have : (i + 1) * n ≤ rows.length * n := Nat.mul_le_mul_right _ hi
    rw [Nat.add_mul] at this
    omega
  refine ⟨by simp only [List.length_append, List.length_take, List.length_drop, List.length_set]; rw [Nat.min_eq_left (by omega), hu, h.len]; rw [h.len] at hin; omega, fun q r hr => ?_, fun q r j a u hr ha hv => ?_⟩
  · rw [List.getElem?_set] at hr
    split at hr
    · cases hr; exact hc
    · exact h.even q r hr
  · have hj : j < r.length := lt_of_some ha
    rw [List.getElem?_set] at hr
    split at hr
    · rename_i e
      subst e
      cases hr
      rw [List.getElem?_append_left (by simp; omega), List.getElem?_append_right (by simp; omega)] at hv
      simp only [List.length_take] at hv
      rw [Nat.min_eq_left (by omega), Nat.add_sub_cancel_left] at hv
      exact k.2 j a u ha hv
    · rename_i hne
      have hrn := h.even q r hr
      have hq : q < rows.length := lt_of_some hr
      refine h.rep q r j a u hr ha ?_
      rw [← hv]
      rcases Nat.lt_or_gt_of_ne hne with hlt | hlt
      · have : (i + 1) * n ≤ q * n := Nat.mul_le_mul_right _ hlt
        rw [Nat.add_mul] at this
        rw [List.getElem?_append_right (by simp; omega)]
        simp only [List.length_append, List.length_take, List.getElem?_drop]
        rw [Nat.min_eq_left (by omega)]
        congr 1
        omega
      · have : (q + 1) * n ≤ i * n := Nat.mul_le_mul_right _ hlt
        rw [Nat.add_mul] at this
        rw [List.append_assoc, List.getElem?_append_left (by simp; omega), List.getElem?_take_of_lt (by omega)]
theorem Flat.zeros {z : List AV} {zs : Array Value} {n : Nat} (hz : Reps w σ T z zs.toList) (hn : z.length = n) (h0 : 0 < n) (len k : Nat) (hk : len ≤ k) :
    ∃ l : List Value, (Array.range (k * n)).map (zs[· % zs.size]!) = l.toArray ∧ l.length = k * n ∧ Flat w σ T (List.replicate len z) n (l.take (len * n)) ∧ (∀ u ∈ l, ∃ a, Rep w σ T a u ∧ a ∈ z) := by
  have hzs : zs.size = n := by rw [← Array.length_toList, ← hz.1, hn]
  refine ⟨(List.range (k * n)).map (zs[· % zs.size]!), ?_, by simp, ⟨?_, ?_, ?_⟩, ?_⟩
  · apply Array.ext'
    simp
  · simp only [List.length_take, List.length_map, List.length_range, List.length_replicate]
    exact Nat.min_eq_left (Nat.mul_le_mul_right _ hk)
  · intro i r hr
    rw [List.getElem?_replicate] at hr
    split at hr
    · cases hr; exact hn
    · cases hr
  · intro i r j a u hr ha hu
    rw [List.getElem?_replicate] at hr
    split at hr
    · rename_i hi
      cases hr
      have hj : j < n := by rw [← hn]; exact lt_of_some ha
      have hlt := lt_mul hi hj
      have hlt' : i * n + j < k * n := Nat.lt_of_lt_of_le hlt (Nat.mul_le_mul_right _ hk)
      rw [List.getElem?_take_of_lt hlt, List.getElem?_map, List.getElem?_range hlt'] at hu
      simp only [Option.map_some, Option.some.injEq] at hu
      subst hu
      have e : (i * n + j) % zs.size = j := by rw [hzs, Nat.mul_comm, Nat.mul_add_mod, Nat.mod_eq_of_lt hj]
      rw [e]
      refine hz.2 j a _ ha ?_
      rw [getElem!_pos zs j (by omega), Array.getElem?_toList, Array.getElem?_eq_getElem (by omega)]
    · cases hr
  · intro u hu
    rw [List.mem_map] at hu
    obtain ⟨q, _, rfl⟩ := hu
    have hq : q % zs.size < zs.size := Nat.mod_lt _ (by omega)
    rw [getElem!_pos zs _ hq]
    have hq' : q % zs.size < z.length := by omega
    exact ⟨z[q % zs.size], hz.2 (q % zs.size) _ _ (List.getElem?_eq_getElem hq') (by rw [Array.getElem?_toList, Array.getElem?_eq_getElem hq]), List.getElem_mem hq'⟩

theorem new_done (hW : WRel w σ H) (hb : σ b = none) (hlt : b < H.next) {x : Blk} {cs : Array Value} {e : TypeId} {s : Sem Value} {v : AV} {v' : Value} {l : List Value} (hl : l = cs.toList.take (x.rows.length * x.size))
    (hf : Flat w σ (Own σ H) x.rows x.size l) (hs : s.run P w = .ok v' (World.push w (.cells cs e (0, 0))))
    (hv : Rep (World.push w (.cells cs e (0, 0))) (σ.set b ⟨w.heap.size, 0, x.size⟩) (Own (σ.set b ⟨w.heap.size, 0, x.size⟩) (H.new b x)) v v') : Done P s w σ H b v (H.new b x) := by
  have hlen := hf.len
  rw [hl] at hlen
  simp only [List.length_take, Array.length_toList] at hlen
  obtain ⟨h1, h2⟩ := hW.new hb hlt (x := x) (cs := cs) (e := e) hf.even (by omega) (fun i r j a u hr ha hu => hf.rep i r j a u hr ha (by
    have hj : j < x.size := by rw [← hf.even i r hr]; exact lt_of_some ha
    rw [hl, List.getElem?_take_of_lt (lt_mul (lt_of_some hr) hj), Array.getElem?_toList]
    exact hu))
  refine ⟨v', _, _, hs, hv, h1, h2, fun c pl hc => ?_⟩
  by_cases hbc : b = c
  · exact .inr hbc.symm
  · rw [Sig.set_ne _ _ hbc] at hc; exact .inl hc
theorem Flat.one {cs : List AV} {vs : List Value} (h : Reps w σ T cs vs) : Flat w σ T [cs] cs.length vs := by
  refine ⟨by simp [h.1], fun i r hr => ?_, fun i r j a u hr ha hu => ?_⟩
  · match i with
    | 0 => cases hr; rfl
    | i + 1 => simp at hr
  · match i with
    | 0 => cases hr; exact h.2 j a u ha (by simpa using hu)
    | i + 1 => simp at hr
theorem box_done (hW : WRel w σ H) (hb : σ b = none) (hlt : b < H.next) {t : TypeId} {x : AV} {x' : Value} {cs : List AV} (hx : Rep w σ (Own σ H) x x') (hc : x.cells? = some cs) :
    Done P (Instr.box t x') w σ H b (.ptr b 0 0) (H.new b ⟨cs.length, [cs]⟩) := by
  have hr := hx.cells hc
  refine new_done hW hb hlt (cs := x'.cells) (e := t) (v' := .pointer (some ⟨w.heap.size, 0, none⟩)) (l := x'.cells.toList) ?_ (Flat.one hr) rfl ?_
  · have := hr.1
    simp only [List.length_singleton, Nat.one_mul]
    rw [List.take_of_length_le (by omega)]
  · have := Rep.ptr (w := World.push w (.cells x'.cells t (0, 0))) (T := Own (σ.set b ⟨w.heap.size, 0, cs.length⟩) (H.new b ⟨cs.length, [cs]⟩)) b 0 0 _ (Sig.set_eq σ b ⟨w.heap.size, 0, cs.length⟩)
    simpa using this
theorem alloc_done (hW : WRel w σ H) (hb : σ b = none) (hlt : b < H.next) {t : TypeId} {cs : List AV} (hc : (zeroA P t).bind AV.cells? = some cs) :
    Done P (Instr.alloc t true (.tuple #[])) w σ H b (.ptr b 0 0) (H.new b ⟨cs.length, [cs]⟩) := by
  cases hz : zeroA P t with
  | none => rw [hz] at hc; cases hc
  | some z =>
    rw [hz] at hc
    obtain ⟨z', h1, h2⟩ := zero_sound (P := P) (w := w) (σ := σ) (T := Own σ H) hz
    obtain ⟨v', w', σ', h3, h4⟩ := box_done (P := P) (t := t) hW hb hlt h2 hc
    refine ⟨v', w', σ', ?_, h4⟩
    rw [← h3]
    simp only [Instr.alloc, Sem.run_bind, h1, Result.andThen_ok]
    rfl
theorem get_splice {α : Type} (l us : List α) (K p : Nat) (h : K + us.length ≤ l.length) :
    (l.take K ++ us ++ l.drop (K + us.length))[p]? = if p < K then l[p]? else if p < K + us.length then us[p - K]? else l[p]? := by
  rcases Nat.lt_or_ge p K with h1 | h1
  · rw [if_pos h1, List.append_assoc, List.getElem?_append_left (by simp; omega), List.getElem?_take_of_lt h1]
  · rw [if_neg (by omega)]
    rcases Nat.lt_or_ge p (K + us.length) with h2 | h2
    · rw [if_pos h2, List.getElem?_append_left (by simp; omega), List.getElem?_append_right (by simp; omega)]
      simp only [List.length_take]
      rw [Nat.min_eq_left (by omega)]
    · rw [if_neg (by omega), List.getElem?_append_right (by simp; omega)]
      simp only [List.length_append, List.length_take, List.getElem?_drop]
      rw [Nat.min_eq_left (by omega)]
      congr 1
      omega
theorem store_done (hW : WRel w σ H) {t : TypeId} {a x : AV} {a' x' : Value} {H' : Heap} (ha : Rep w σ (Own σ H) a a') (hx : Rep w σ (Own σ H) x x') (h : storeA P H t a x = some H') :
    ∃ w', (Instr.storeAt t a' x').run P w = .ok () w' ∧ WRel w' σ H' ∧ Ext w σ (Own σ H) w' σ (Own σ H') := by
  unfold storeA at h
  split at h
  · rename_i c i off cs n hcs hn
    split at h
    · rename_i y hy
      split at h
      · rename_i r hr
        split at h
        · rename_i hl
          obtain ⟨hl1, hl2, hl3⟩ := hl
          cases h
          cases ha with
          | ptr _ _ _ pl hs =>
          obtain ⟨pl', ds, e, g1, g2⟩ := hW.live c y hy
          rw [hs] at g1
          cases g1
          have hreps := hx.cells hcs
          have hone := hreps.one hl2
          have hi := lt_of_some hr
          have hrl := g2.even i r hr
          have hroom := g2.room
          have hm : (i + 1) * y.size ≤ y.rows.length * y.size := Nat.mul_le_mul_right _ hi
          rw [Nat.add_mul] at hm
          have hst := run_storeCells_at (P := P) pl.block (pl.base + i * pl.size + off) e x'.cells.toList 0 ds w g2.block (by rw [← hreps.1, g2.size]; omega) hone
          simp only [Nat.add_zero] at hst
          have hw : Wrote w (w.setRow pl.block (ds.toList.take (pl.base + i * pl.size + off) ++ x'.cells.toList ++ ds.toList.drop (pl.base + i * pl.size + off + x'.cells.toList.length)).toArray) pl.block ds _ e :=
            ⟨rfl, rfl, rfl, by simp, g2.block, setRow_heap w _ _ _ _ _ g2.block, by
              have := hreps.1
              have hsz := g2.size
              simp only [List.size_toArray, List.length_append, List.length_take, List.length_drop, Array.length_toList]
              rw [hsz, Nat.min_eq_left (by omega)]
              rw [← Array.length_toList (xs := x'.cells)]
              omega, fun d hd => setRow_other w _ d _ hd⟩
          have hput := hW.put hy hs hw (x' := { y with rows := y.rows.set i (rowStore r off cs) }) g2.size.symm ?_ ?_ ?_
          · refine ⟨_, ?_, hput⟩
            have : x'.cells.size = n := by rw [← Array.length_toList, ← hreps.1, hl1]
            simp only [Instr.storeAt, Instr.sureAddr, storeVar, Sem.run_bind, Sem.run_pure, Result.andThen_ok, run_size hn, Sem.run_ite, this, ne_eq, not_true_eq_false, if_false, hst]
          · intro q s hq
            rw [List.getElem?_set] at hq
            split at hq
            · cases hq; simp [rowStore]; omega
            · exact g2.even q s hq
          · simpa using hroom
          · intro q s j a u hq hj hu
            have hsz := g2.size
            have hul : x'.cells.toList.length = cs.length := hreps.1.symm
            have hdl : ds.toList.length = ds.size := Array.length_toList
            rw [List.getElem?_toArray, get_splice ds.toList x'.cells.toList (pl.base + i * pl.size + off) _ (by rw [hul, hsz]; omega), hul, hsz] at hu
            simp only [] at hu
            rw [List.getElem?_set] at hq
            split at hq
            · rename_i hqi
              subst hqi
              cases hq
              have hjr := lt_of_some hj
              have hjl : j < r.length := by simp [rowStore] at hjr; omega
              unfold rowStore at hj
              rw [get_splice _ _ _ _ (by omega)] at hj
              by_cases h1 : j < off
              · rw [if_pos h1] at hj
                rw [if_pos (by omega), Array.getElem?_toList] at hu
                exact g2.rep i r j a u hr hj hu
              · rw [if_neg h1] at hj
                by_cases h2 : j < off + cs.length
                · rw [if_pos h2] at hj
                  rw [if_neg (by omega), if_pos (by omega)] at hu
                  refine hreps.2 (j - off) a u hj ?_
                  rw [← hu]
                  congr 1
                  omega
                · rw [if_neg h2] at hj
                  rw [if_neg (by omega), if_neg (by omega), Array.getElem?_toList] at hu
                  exact g2.rep i r j a u hr hj hu
            · rename_i hqi
              have hjs : j < y.size := by rw [← g2.even q s hq]; exact lt_of_some hj
              refine g2.rep q s j a u hq hj ?_
              rcases Nat.lt_or_gt_of_ne hqi with hlt | hlt
              · have : (i + 1) * y.size ≤ q * y.size := Nat.mul_le_mul_right _ hlt
                rw [Nat.add_mul] at this
                rw [if_neg (by omega), if_neg (by omega), Array.getElem?_toList] at hu
                exact hu
              · have : (q + 1) * y.size ≤ i * y.size := Nat.mul_le_mul_right _ hlt
                rw [Nat.add_mul] at this
                rw [if_pos (by omega), Array.getElem?_toList] at hu
                exact hu
        · cases h
      · cases h
    · cases h
  · cases h
end
end Go.Proofs.Ytdaejmkoenhbkaa.Am
