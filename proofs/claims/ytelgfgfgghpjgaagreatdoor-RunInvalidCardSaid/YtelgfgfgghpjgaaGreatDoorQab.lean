/- A part of the proof; the statement is proved in the last part. -/
import Derived.Test.YtelgfgfgghpjgaaGreatDoorQaa
import Derived.IntWalk
import Derived.Deep.AppendSrc
import Derived.MapKept
import Derived.Carry
import Derived.Lib.OthersKept
import Derived.Laws.RangeString
import Derived.LoopN
set_option linter.unusedSimpArgs false
set_option linter.unusedVariables false
section
namespace Go.Proofs.YtelgfgfgghpjgaaGreatDoor.Am
def nt(P:Program)(s:Sem Value)(w:World)(σ:aC)(H:aa)(b:Nat)(v:AV)(H':aa):Prop:=
 ∃v' w' σ',s.run P w=.ok v' w'∧aw w' σ' (aq σ' H') v v'∧ay w' σ' H'∧bV w σ (aq σ H) w' σ' (aq σ' H')∧∀c pl,σ' c=some pl→σ c=some pl∨c=b
section
variable {P:Program} {w:World} {σ:aC} {T:Nat→Prop} {H:aa} {b:Nat}
structure b7(w:World)(σ:aC)(T:Nat→Prop)(rows:List (List AV))(n:Nat)(l:List Value):Prop where
 len:l.length=rows.length*n
 even:∀(i:Nat) (r:List AV),rows[i]? =some r→r.length=n
 rep:∀(i:Nat) (r:List AV) (j:Nat) (a:AV) (u:Value),rows[i]? =some r→r[j]? =some a→l[i*n+j]? =some u→aw w σ T a u
theorem i4{i j m n:Nat}(hi:i<m)(hj:j<n):i*n+j<m*n:=by
 have:(i+1)*n≤m*n:=Nat.mul_le_mul_right _ hi
 rw[Nat.add_mul]at this
 omega
theorem b7.nil(n:Nat):b7 w σ T [] n []:=⟨by simp,by simp,by simp⟩
theorem b7.append{rows rows':List (List AV)}{n:Nat}{l l':List Value}(h:b7 w σ T rows n l)(k:b7 w σ T rows' n l'):b7 w σ T (rows++rows') n (l++l'):=by
 refine⟨by simp[h.len,k.len,Nat.add_mul],fun i r hr=>?_,fun i r j a u hr ha hu=>?_⟩
 ·rcases Nat.lt_or_ge i rows.length with hi | hi
  ·rw[List.getElem?_append_left hi]at hr;exact h.even i r hr
  ·rw[List.getElem?_append_right hi]at hr;exact k.even _ r hr
 ·rcases Nat.lt_or_ge i rows.length with hi | hi
  ·rw[List.getElem?_append_left hi]at hr
   have hj:j<n:=by rw[←h.even i r hr];exact ah ha
   rw[List.getElem?_append_left (by rw[h.len];exact i4 hi hj)]at hu
   exact h.rep i r j a u hr ha hu
  ·rw[List.getElem?_append_right hi]at hr
   have hge:l.length≤i*n+j:=by rw[h.len];exact Nat.le_trans (Nat.mul_le_mul_right _ hi) (Nat.le_add_right _ _)
   rw[List.getElem?_append_right hge]at hu
   refine k.rep (i-rows.length) r j a u hr ha ?_
   rw[←hu,h.len]
   congr 1
   rw[Nat.sub_mul]
   have:rows.length*n≤i*n:=Nat.mul_le_mul_right _ hi
   omega
theorem b7.set{rows:List (List AV)}{n:Nat}{l:List Value}(h:b7 w σ T rows n l){i:Nat}{cs:List AV}{us:List Value}(hi:i<rows.length)(hc:cs.length=n)(k:bk w σ T cs us):
  b7 w σ T (rows.set i cs) n (l.take (i*n)++us++l.drop (i*n+us.length)):=by
 have hu:us.length=n:=by rw[←k.1,hc]
 have hin:i*n+n≤l.length:=by
  rw[h.len]
  have:(i+1)*n≤rows.length*n:=Nat.mul_le_mul_right _ hi
  rw[Nat.add_mul]at this
  omega
 refine⟨by simp only[List.length_append,List.length_take,List.length_drop,List.length_set];rw[Nat.min_eq_left (by omega),hu,h.len];rw[h.len]at hin;omega,fun q r hr=>?_,fun q r j a u hr ha hv=>?_⟩
 ·rw[List.getElem?_set]at hr
  split at hr
  ·cases hr;exact hc
  ·exact h.even q r hr
 ·have hj:j<r.length:=ah ha
  rw[List.getElem?_set]at hr
  split at hr
  ·rename_i e
   subst e
   cases hr
   rw[List.getElem?_append_left (by simp;omega),List.getElem?_append_right (by simp;omega)]at hv
   simp only[List.length_take]at hv
   rw[Nat.min_eq_left (by omega),Nat.add_sub_cancel_left]at hv
   exact k.2 j a u ha hv
  ·rename_i hne
   have hrn:=h.even q r hr
   have hq:q<rows.length:=ah hr
   refine h.rep q r j a u hr ha ?_
   rw[←hv]
   rcases Nat.lt_or_gt_of_ne hne with hlt | hlt
   ·have:(i+1)*n≤q*n:=Nat.mul_le_mul_right _ hlt
    rw[Nat.add_mul]at this
    rw[List.getElem?_append_right (by simp;omega)]
    simp only[List.length_append,List.length_take,List.getElem?_drop]
    rw[Nat.min_eq_left (by omega)]
    congr 1
    omega
   ·have:(q+1)*n≤i*n:=Nat.mul_le_mul_right _ hlt
    rw[Nat.add_mul]at this
    rw[List.append_assoc,List.getElem?_append_left (by simp;omega),List.getElem?_take_of_lt (by omega)]
theorem b7.zeros{z:List AV}{zs:Array Value}{n:Nat}(hz:bk w σ T z zs.toList)(hn:z.length=n)(h0:0<n)(len k:Nat)(hk:len≤k):
  ∃l:List Value,(Array.range (k*n)).map (zs[· % zs.size]!)=l.toArray∧l.length=k*n∧b7 w σ T (List.replicate len z) n (l.take (len*n))∧(∀u∈l,∃a,aw w σ T a u∧a∈z):=by
 have hzs:zs.size=n:=by rw[←Array.length_toList,←hz.1,hn]
 refine⟨(List.range (k*n)).map (zs[· % zs.size]!),?_,by simp,⟨?_,?_,?_⟩,?_⟩
 ·apply Array.ext'
  simp
 ·simp only[List.length_take,List.length_map,List.length_range,List.length_replicate]
  exact Nat.min_eq_left (Nat.mul_le_mul_right _ hk)
 ·intro i r hr
  rw[List.getElem?_replicate]at hr
  split at hr
  ·cases hr;exact hn
  ·cases hr
 ·intro i r j a u hr ha hu
  rw[List.getElem?_replicate]at hr
  split at hr
  ·rename_i hi
   cases hr
   have hj:j<n:=by rw[←hn];exact ah ha
   have hlt:=i4 hi hj
   have hlt':i*n+j<k*n:=Nat.lt_of_lt_of_le hlt (Nat.mul_le_mul_right _ hk)
   rw[List.getElem?_take_of_lt hlt,List.getElem?_map,List.getElem?_range hlt']at hu
   simp only[Option.map_some,Option.some.injEq]at hu
   subst hu
   have e:(i*n+j) % zs.size=j:=by rw[hzs,Nat.mul_comm,Nat.mul_add_mod,Nat.mod_eq_of_lt hj]
   rw[e]
   refine hz.2 j a _ ha ?_
   rw[getElem!_pos zs j (by omega),Array.getElem?_toList,Array.getElem?_eq_getElem (by omega)]
  ·cases hr
 ·intro u hu
  rw[List.mem_map]at hu
  obtain⟨q,_,rfl⟩:=hu
  have hq:q % zs.size<zs.size:=Nat.mod_lt _ (by omega)
  rw[getElem!_pos zs _ hq]
  have hq':q % zs.size<z.length:=by omega
  exact⟨z[q % zs.size],hz.2 (q % zs.size) _ _ (List.getElem?_eq_getElem hq') (by rw[Array.getElem?_toList,Array.getElem?_eq_getElem hq]),List.getElem_mem hq'⟩
theorem lN(hW:ay w σ H)(hb:σ b=none)(hlt:b<H.next){x:Blk}{cs:Array Value}{e:TypeId}{s:Sem Value}{v:AV}{v':Value}{l:List Value}(hl:l=cs.toList.take (x.rows.length*x.size))
  (hf:b7 w σ (aq σ H) x.rows x.size l) (hs:s.run P w=.ok v' (World.push w (.cells cs e (0,0))))
  (hv:aw (World.push w (.cells cs e (0,0))) (σ.set b ⟨w.heap.size,0,x.size⟩) (aq (σ.set b ⟨w.heap.size,0,x.size⟩) (H.new b x)) v v'):nt P s w σ H b v (H.new b x):=by
 have hlen:=hf.len
 rw[hl]at hlen
 simp only[List.length_take,Array.length_toList]at hlen
 obtain⟨h1,h2⟩:=hW.new hb hlt (x:=x) (cs:=cs) (e:=e) hf.even (by omega) (fun i r j a u hr ha hu=>hf.rep i r j a u hr ha (by
  have hj:j<x.size:=by rw[←hf.even i r hr];exact ah ha
  rw[hl,List.getElem?_take_of_lt (i4 (ah hr) hj),Array.getElem?_toList]
  exact hu))
 refine⟨v',_,_,hs,hv,h1,h2,fun c pl hc=>?_⟩
 by_cases hbc:b=c
 ·exact .inr hbc.symm
 ·rw[aC.set_ne _ _ hbc]at hc;exact .inl hc
theorem b7.one{cs:List AV}{vs:List Value}(h:bk w σ T cs vs):b7 w σ T [cs] cs.length vs:=by
 refine⟨by simp[h.1],fun i r hr=>?_,fun i r j a u hr ha hu=>?_⟩
 ·match i with
  | 0=>cases hr;rfl
  | i+1=>simp at hr
 ·match i with
  | 0=>cases hr;exact h.2 j a u ha (by simpa using hu)
  | i+1=>simp at hr
theorem oV(hW:ay w σ H)(hb:σ b=none)(hlt:b<H.next){t:TypeId}{x:AV}{x':Value}{cs:List AV}(hx:aw w σ (aq σ H) x x')(hc:x.cells? =some cs):
  nt P (Instr.box t x') w σ H b (.ptr b 0 0) (H.new b ⟨cs.length,[cs]⟩):=by
 have hr:=hx.cells hc
 refine lN hW hb hlt (cs:=x'.cells) (e:=t) (v':=.pointer (some ⟨w.heap.size,0,none⟩)) (l:=x'.cells.toList) ?_ (b7.one hr) rfl ?_
 ·have:=hr.1
  simp only[List.length_singleton,Nat.one_mul]
  rw[List.take_of_length_le (by omega)]
 ·have:=aw.ptr (w:=World.push w (.cells x'.cells t (0,0))) (T:=aq (σ.set b ⟨w.heap.size,0,cs.length⟩) (H.new b ⟨cs.length,[cs]⟩)) b 0 0 _ (aC.set_eq σ b ⟨w.heap.size,0,cs.length⟩) (.inl rfl)
  simpa using this
theorem p8(hW:ay w σ H)(hb:σ b=none)(hlt:b<H.next){t:TypeId}{cs:List AV}(hc:(bH P t).bind AV.cells? =some cs):
  nt P (Instr.alloc t true (.tuple #[])) w σ H b (.ptr b 0 0) (H.new b ⟨cs.length,[cs]⟩):=by
 cases hz:bH P t with
 | none=>rw[hz]at hc;cases hc
 | some z=>
  rw[hz]at hc
  obtain⟨z',h1,h2⟩:=bP (P:=P) (w:=w) (σ:=σ) (T:=aq σ H) hz
  obtain⟨v',w',σ',h3,h4⟩:=oV (P:=P) (t:=t) hW hb hlt h2 hc
  refine⟨v',w',σ',?_,h4⟩
  rw[←h3]
  simp only[Instr.alloc,Sem.run_bind,h1,Result.andThen_ok]
  rfl
theorem cO{α:Type}(l us:List α)(K p:Nat)(h:K+us.length≤l.length):
  (l.take K++us++l.drop (K+us.length))[p]? =if p<K then l[p]? else if p<K+us.length then us[p-K]? else l[p]? :=by
 rcases Nat.lt_or_ge p K with h1 | h1
 ·rw[if_pos h1,List.append_assoc,List.getElem?_append_left (by simp;omega),List.getElem?_take_of_lt h1]
 ·rw[if_neg (by omega)]
  rcases Nat.lt_or_ge p (K+us.length)with h2 | h2
  ·rw[if_pos h2,List.getElem?_append_left (by simp;omega),List.getElem?_append_right (by simp;omega)]
   simp only[List.length_take]
   rw[Nat.min_eq_left (by omega)]
  ·rw[if_neg (by omega),List.getElem?_append_right (by simp;omega)]
   simp only[List.length_append,List.length_take,List.getElem?_drop]
   rw[Nat.min_eq_left (by omega)]
   congr 1
   omega
theorem p9(hW:ay w σ H){t:TypeId}{a x:AV}{a' x':Value}{H':aa}(ha:aw w σ (aq σ H) a a')(hx:aw w σ (aq σ H) x x')(h:cq P H t a x=some H'):
  ∃w',(Instr.storeAt t a' x').run P w=.ok () w'∧ay w' σ H'∧bV w σ (aq σ H) w' σ (aq σ H'):=by
 unfold cq at h
 split at h
 ·rename_i c i off cs n hcs hn
  split at h
  ·rename_i y hy
   split at h
   ·rename_i r hr
    split at h
    ·rename_i hl
     obtain⟨hl1,hl2,hl3⟩:=hl
     cases h
     cases ha with
     | ptr _ _ _ pl hs hp=>
     obtain⟨pl',ds,e,g1,g2⟩:=hW.live c y hy
     rw[hs]at g1
     cases g1
     replace g2:=g2.1 hp
     have hreps:=hx.cells hcs
     have hone:=hreps.one hl2
     have hi:=ah hr
     have hrl:=g2.even i r hr
     have hroom:=g2.room
     have hm:(i+1)*y.size≤y.rows.length*y.size:=Nat.mul_le_mul_right _ hi
     rw[Nat.add_mul]at hm
     have hst:=run_storeCells_at (P:=P) pl.block (pl.base+i*pl.size+off) e x'.cells.toList 0 ds w g2.block (by rw[←hreps.1,g2.size];omega) hone
     simp only[Nat.add_zero]at hst
     have hw:gv w (w.setRow pl.block (ds.toList.take (pl.base+i*pl.size+off)++x'.cells.toList++ds.toList.drop (pl.base+i*pl.size+off+x'.cells.toList.length)).toArray) pl.block ds _ e:=
      ⟨rfl,rfl,rfl,by simp,g2.block,setRow_heap w _ _ _ _ _ g2.block,by
       have:=hreps.1
       have hsz:=g2.size
       simp only[List.size_toArray,List.length_append,List.length_take,List.length_drop,Array.length_toList]
       rw[hsz,Nat.min_eq_left (by omega)]
       rw[←Array.length_toList (xs:=x'.cells)]
       omega,fun d hd=>setRow_other w _ d _ hd⟩
     have hput:=hW.put hy hs hw (x':={y with rows:=y.rows.set i (aP r off cs)}) g2.size.symm ?_ ?_ ?_
     ·refine⟨_,?_,hput⟩
      have:x'.cells.size=n:=by rw[←Array.length_toList,←hreps.1,hl1]
      simp only[Instr.storeAt,Instr.sureAddr,storeVar,Sem.run_bind,Sem.run_pure,Result.andThen_ok,aS hn,Sem.run_ite,this,ne_eq,not_true_eq_false,if_false,hst]
     ·intro q s hq
      rw[List.getElem?_set]at hq
      split at hq
      ·cases hq;simp[aP];omega
      ·exact g2.even q s hq
     ·simpa using hroom
     ·intro q s j a u hq hj hu
      have hsz:=g2.size
      have hul:x'.cells.toList.length=cs.length:=hreps.1.symm
      have hdl:ds.toList.length=ds.size:=Array.length_toList
      rw[List.getElem?_toArray,cO ds.toList x'.cells.toList (pl.base+i*pl.size+off) _ (by rw[hul,hsz];omega),hul,hsz]at hu
      simp only[]at hu
      rw[List.getElem?_set]at hq
      split at hq
      ·rename_i hqi
       subst hqi
       cases hq
       have hjr:=ah hj
       have hjl:j<r.length:=by simp[aP]at hjr;omega
       unfold aP at hj
       rw[cO _ _ _ _ (by omega)]at hj
       by_cases h1:j<off
       ·rw[if_pos h1]at hj
        rw[if_pos (by omega),Array.getElem?_toList]at hu
        exact g2.rep i r j a u hr hj hu
       ·rw[if_neg h1]at hj
        by_cases h2:j<off+cs.length
        ·rw[if_pos h2]at hj
         rw[if_neg (by omega),if_pos (by omega)]at hu
         refine hreps.2 (j-off) a u hj ?_
         rw[←hu]
         congr 1
         omega
        ·rw[if_neg h2]at hj
         rw[if_neg (by omega),if_neg (by omega),Array.getElem?_toList]at hu
         exact g2.rep i r j a u hr hj hu
      ·rename_i hqi
       have hjs:j<y.size:=by rw[←g2.even q s hq];exact ah hj
       refine g2.rep q s j a u hq hj ?_
       rcases Nat.lt_or_gt_of_ne hqi with hlt | hlt
       ·have:(i+1)*y.size≤q*y.size:=Nat.mul_le_mul_right _ hlt
        rw[Nat.add_mul]at this
        rw[if_neg (by omega),if_neg (by omega),Array.getElem?_toList]at hu
        exact hu
       ·have:(q+1)*y.size≤i*y.size:=Nat.mul_le_mul_right _ hlt
        rw[Nat.add_mul]at this
        rw[if_pos (by omega),Array.getElem?_toList]at hu
        exact hu
    ·cases h
   ·cases h
  ·cases h
 ·cases h
end
end Go.Proofs.YtelgfgfgghpjgaaGreatDoor.Am
end
section
namespace Go.Proofs.YtelgfgfgghpjgaaGreatDoor.Am
section
variable {P:Program} {w:World} {σ:aC} {T:Nat→Prop} {H:aa} {b:Nat}
theorem gx{n:Nat}{ρ:Operand→AV}{ρ':Operand→Value}(hρ:∀x,aw w σ T (ρ x) (ρ' x)):∀(ps:List (Nat×Operand)) (rows r:List (List AV)) (cells':Array Value),
  b7 w σ T rows n cells'.toList→bC n rows (ps.map fun p=>(p.1,ρ p.2))=some r→
  ∃r':Array Value,Instr.fill (fun i=>some (i*n,n)) cells' (ps.map fun p=>(p.1,ρ' p.2))=some r'∧b7 w σ T r n r'.toList∧r.length=rows.length
 | [],rows,r,cells',hc,h=>by cases h;exact⟨cells',rfl,hc,rfl⟩
 | (i,x)::ps,rows,r,cells',hc,h=>by
  simp only[List.map_cons,bC]at h
  split at h
  ·rename_i cs hcs
   split at h
   ·rename_i hl
    obtain⟨hl1,hl2,_⟩:=hl
    have hx:=(hρ x).cells hcs
    have e1:(ρ' x).cells.size=n:=by rw[←Array.length_toList,←hx.1,hl1]
    have e2:cells'.size=rows.length*n:=by rw[←Array.length_toList,hc.len]
    have hin:i*n+n≤rows.length*n:=by
     have:(i+1)*n≤rows.length*n:=Nat.mul_le_mul_right _ hl2
     rw[Nat.add_mul]at this
     omega
    have hfold:((ρ' x).cells.zipIdx.foldl (fun(cs:Array Value) (p:Value×Nat)=>cs.setIfInBounds (i*n+p.2) p.1) cells').toList=cells'.toList.take (i*n)++(ρ' x).cells.toList++cells'.toList.drop (i*n+(ρ' x).cells.toList.length):=by
     have:=j6 (ρ' x).cells.toList 0 (i*n) cells' (by simp;omega)
     rw[←Array.foldl_toList,Array.toList_zipIdx]
     simpa using this
    obtain⟨r',h1,h2,h3⟩:=gx hρ ps (rows.set i cs) r _ (by rw[hfold];exact hc.set hl2 hl1 hx) h
    refine⟨r',?_,h2,by simpa using h3⟩
    have hcond:(decide ((ρ' x).cells.size≠n)||decide (i*n+(ρ' x).cells.size > cells'.size))=false:=by simp[e1,e2];omega
    simp only[List.map_cons,Instr.fill,hcond,Bool.false_eq_true,if_false]
    exact h1
   ·cases h
  ·cases h
theorem qa{x:Blk}{cs:Array Value}{e:TypeId}{k cap:Nat}(hk:k≤cap)(hcap:cap≤maxLen)(hs:cap*x.size≤cs.size):
  aw (World.push w (.cells cs e (0,0))) (σ.set b ⟨w.heap.size,0,x.size⟩) (aq (σ.set b ⟨w.heap.size,0,x.size⟩) (H.new b x)) (.sl b 0 k) (.slice (some ⟨w.heap.size,0,none⟩) k cap):=by
 refine aw.sl b 0 k ⟨w.heap.size,0,x.size⟩ _ cap (aC.set_eq _ _ _) (.inl rfl) hk hcap fun _=>⟨by simp,cs,e,?_,by simpa using hs⟩
 show(w.heap.push _)[w.heap.size]? =_
 simp
theorem lk(hW:ay w σ H)(hb:σ b=none)(hlt:b<H.next){t e:TypeId}{len n:Nat}{ps:Array (Nat×Operand)}{ρ:Operand→AV}{ρ':Operand→Value}(hρ:∀x,aw w σ (aq σ H) (ρ x) (ρ' x))
  {z:List AV} {rows:List (List AV)} (hu:P.underlying t=some (.slice e)) (hn:au P e=some n) (hz:(bH P e).bind AV.cells? =some z) (hzn:z.length=n) (h0:0<n) (hl:len*n≤2^24)
  (h:bC n (List.replicate len z) (ps.toList.map fun p=>(p.1,ρ p.2))=some rows) :
  nt P (Instr.buildSlice t len (ps.map fun(i,x)=>(i,ρ' x))) w σ H b (.sl b 0 len) (H.new b ⟨n,rows⟩):=by
 have hps:(ps.map fun(i,x)=>(i,ρ' x)).toList=ps.toList.map fun p=>(p.1,ρ' p.2):=by simp
 cases hza:bH P e with
 | none=>rw[hza]at hz;cases hz
 | some za=>
  rw[hza]at hz
  simp only[Option.bind_some]at hz
  obtain⟨z',hz1,hz2⟩:=bP (P:=P) (w:=w) (σ:=σ) (T:=aq σ H) hza
  have hzr:=hz2.cells hz
  have hlen:len≤2^24:=Nat.le_trans (Nat.le_mul_of_pos_right len h0) hl
  obtain⟨l,e1,e2,e3,_⟩:=b7.zeros hzr hzn h0 len len (Nat.le_refl _)
  have hfl:b7 w σ (aq σ H) (List.replicate len z) n (l.toArray).toList:=by
   rw[List.take_of_length_le (by omega)]at e3
   exact e3
  obtain⟨r',f1,f2,f3⟩:=gx hρ ps.toList _ rows l.toArray hfl h
  have hr':r'.size=len*n:=by rw[←Array.length_toList,f2.len,f3];simp
  have hrl:rows.length=len:=by simpa using f3
  refine lN hW hb hlt (cs:=r') (e:=e) (v':=.slice (some ⟨w.heap.size,0,none⟩) len len) (l:=r'.toList) ?_ f2 ?_ ?_
  ·simp only[]
   rw[List.take_of_length_le (by rw[Array.length_toList,hr',hrl];exact Nat.le_refl _)]
  ·have hgt:¬len*n > 2^24:=by omega
   simp only[Instr.buildSlice,Sem.run_bind,run_underlying hu,Result.andThen_ok,aS hn]
   rw[if_neg hgt]
   by_cases hz0:len*n=0
   ·have hl0:len=0:=by
     rcases Nat.mul_eq_zero.1 hz0 with h1 | h1
     ·exact h1
     ·omega
    subst hl0
    rw[if_pos hz0]
    have:l=[]:=by cases l with
     | nil=>rfl
     | cons a l=>simp at e2
    subst this
    simp only[Sem.run_bind,Sem.run_pure,Result.andThen_ok,hz0,hps]
    have he:(Array.range 0).map (fun x=>(#[]:Array Value)[x % (#[]:Array Value).size]!)=([]:List Value).toArray:=by simp
    rw[he,f1]
    rfl
   ·rw[if_neg hz0]
    simp only[Sem.run_bind,hz1,Sem.run_pure,Result.andThen_ok,hps]
    rw[e1,f1]
    rfl
  ·exact qa (x:=⟨n,rows⟩) (Nat.le_refl _) (by unfold maxLen;omega) (by rw[hr'];exact Nat.le_refl _)
theorem lO(hW:ay w σ H)(hb:σ b=none)(hlt:b<H.next){t e:TypeId}{n by_ l c:Nat}{x y:AV}{x' y':Value}(hx:aw w σ (aq σ H) x x')(hy:aw w σ (aq σ H) y y')
  {z:List AV} (hu:P.underlying t=some (.slice e)) (hn:au P e=some n) (hby:dA P e=some by_) (hz:(bH P e).bind AV.cells? =some z) (hl:ju x=some l) (hc:ju y=some c)
  (hzn:z.length=n) (h0:0<n) (hlc:l≤c) (hcm:c≤2^62) (hcb:c*by_≤2^48) :
  nt P (Instr.makeSlice t x' y') w σ H b (.sl b 0 l) (H.new b ⟨n,List.replicate l z⟩):=by
 obtain⟨kl,li,rfl,hl0,rfl⟩:=gw hx hl
 obtain⟨kc,ci,rfl,hc0,rfl⟩:=gw hy hc
 cases hza:bH P e with
 | none=>rw[hza]at hz;cases hz
 | some za=>
  rw[hza]at hz
  simp only[Option.bind_some]at hz
  cases hi:P.info? e with
  | none=>simp[dA,hi]at hby
  | some i=>
  have hib:i.bytes=by_:=by simpa[dA,hi]using hby
  obtain⟨z',hz1,hz2⟩:=bP (P:=P) (w:=w) (σ:=σ) (T:=aq σ H) hza
  have hzr:=hz2.cells hz
  obtain⟨l,e1,e2,e3,_⟩:=b7.zeros hzr hzn h0 li.toNat ci.toNat hlc
  have wl:IntKind.i64.wrap li=li:=IntWalk.i64_in _ (by omega)
  have wc:IntKind.i64.wrap ci=ci:=IntWalk.i64_in _ (by omega)
  have hbig:((decide (ci<0)||decide ((i.bytes:Int)*ci > 2^48))||decide (li<0)||decide (li > ci))=false:=by
   rw[hib]
   have:((by_:Int)*ci)=((ci.toNat*by_:Nat):Int):=by rw[Int.natCast_mul,Int.toNat_of_nonneg hc0,Int.mul_comm]
   have h2:((ci.toNat*by_:Nat):Int)≤2^48:=by exact_mod_cast hcb
   simp only[Bool.or_eq_false_iff,decide_eq_false_iff_not]
   refine⟨⟨⟨by omega,by rw[this];omega⟩,by omega⟩,by omega⟩
  refine lN hW hb hlt (x:=⟨n,List.replicate li.toNat z⟩) (cs:=l.toArray) (e:=e) (v':=.slice (some ⟨w.heap.size,0,none⟩) li.toNat ci.toNat) (l:=l.take (li.toNat*n)) ?_ e3 ?_ ?_
  ·simp
  ·simp only[Instr.makeSlice,asInt,asIntOf,Sem.run_bind,run_underlying hu,Sem.run_pure,Result.andThen_ok,jx hi,wl,wc,hbig,Bool.false_eq_true,if_false,run_askRoom,aS hn]
   by_cases hz0:ci.toNat*n=0
   ·rw[if_pos hz0]
    have hnil:l=[]:=by cases l with
     | nil=>rfl
     | cons a l=>simp at e2;omega
    subst hnil
    simp only[Sem.run_bind,Sem.run_pure,Result.andThen_ok,hz0]
    have he:(Array.range 0).map (fun x=>(#[]:Array Value)[x % (#[]:Array Value).size]!)=([]:List Value).toArray:=by simp
    rw[he]
    rfl
   ·rw[if_neg hz0]
    simp only[Sem.run_bind,hz1,Sem.run_pure,Result.andThen_ok]
    rw[e1]
    rfl
  ·exact qa (x:=⟨n,List.replicate li.toNat z⟩) hlc (by unfold maxLen;omega) (by simp[e2])
theorem lP{m:List (List AV)}{n c o:Nat}(he:∀(i:Nat) (r:List AV),m[i]? =some r→r.length=n)(hc:∀(i:Nat) (r:List AV),m[i]? =some r→oO w σ T r c (o+i*n)):
  ∃l:List Value,(∀w2:World,w2.heap=w.heap→(loadCells ⟨c,o,none⟩ (m.length*n)).run P w2=.ok l.toArray w2)∧b7 w σ T m n l:=by
 have key:∀p,∃u,p<m.length*n→w.cell? ⟨c,o+p,none⟩=some u:=fun p=>by
  by_cases hp:p<m.length*n
  ·have hn:0<n:=by
    rcases Nat.eq_zero_or_pos n with h0 | h0
    ·subst h0;simp at hp
    ·exact h0
   have hi:p / n<m.length:=by rw[Nat.div_lt_iff_lt_mul hn];exact hp
   have hr:m[p / n]? =some m[p / n]:=List.getElem?_eq_getElem hi
   have hj:p % n<m[p / n].length:=by rw[he _ _ hr];exact Nat.mod_lt _ hn
   obtain⟨u,h1,_⟩:=hc _ _ hr (p % n) _ (List.getElem?_eq_getElem hj)
   refine⟨u,fun _=>?_⟩
   rw[Nat.add_assoc,Nat.mul_comm,Nat.div_add_mod]at h1
   exact h1
  ·exact⟨undef,fun h=>absurd h hp⟩
 let f:=fun p=>Classical.choose (key p)
 have hf:∀p,p<m.length*n→w.cell? ⟨c,o+p,none⟩=some (f p):=fun p=>Classical.choose_spec (key p)
 refine⟨(List.range (m.length*n)).map f,fun w2 hw2=>run_loadCells w2 _ _ f (fun j hj=>by rw[bO];rw[←hf j hj];unfold World.cell?;rw[hw2]),⟨by simp,he,?_⟩⟩
 intro i r j a u hr ha hu
 have hj:j<n:=by rw[←he i r hr];exact ah ha
 have hp:=i4 (ah hr) hj
 rw[List.getElem?_map,List.getElem?_range hp]at hu
 cases hu
 obtain⟨u,h1,h2⟩:=hc i r hr j a ha
 rw[Nat.add_assoc,hf _ hp]at h1
 cases h1
 exact h2
theorem nC(hW:ay w σ H){n:Nat}{x:AV}{x':Value}{m:List (List AV)}(hx:aw w σ (aq σ H) x x')(h:ch H n x=some m):
  ∃(A:Option Addr) (cap:Nat) (l:List Value),x'=.slice A m.length cap∧(∀w2:World,w2.heap=w.heap→(Builtin.firstCells n m.length x').run P w2=.ok l.toArray w2)∧b7 w σ (aq σ H) m n l:=by
 unfold ch at h
 split at h
 ·cases h;cases hx;exact⟨none,0,[],rfl,fun _ _=>rfl,b7.nil n⟩
 ·cases h
  cases hx with
  | emp A=>exact⟨A,0,[],rfl,fun w2 _=>by cases A<;>simp[Builtin.firstCells,loadCells,loadCellsFrom],b7.nil n⟩
 ·rename_i rows
  split at h
  ·cases h
   obtain⟨A,cap,rfl,_,_,_⟩:=hx.lst_inv
   refine⟨A,cap,[],rfl,?_,b7.nil n⟩
   intro w2 _
   cases A<;>simp[Builtin.firstCells,loadCells,loadCellsFrom]
  ·rename_i r rs
   split at h
   ·rename_i hr
    cases h
    obtain⟨A,cap,rfl,hn,hm,ha⟩:=hx.lst_inv
    obtain⟨b,o,sz,rfl,hl,hrep⟩:=ha (by simp)
    obtain rfl:r.length=sz:=hl.even 0 r rfl
    subst hr
    obtain⟨l,h1,h2⟩:=lP (P:=P) (o:=o) (c:=b) hl.even (fun i q hq=>hl.row hrep hq)
    exact⟨_,cap,l,rfl,fun w2 hw2=>by simp only[Builtin.firstCells];exact h1 w2 hw2,h2⟩
   ·cases h
 ·rename_i b' i k
  split at h
  ·rename_i y hy
   split at h
   ·rename_i hcond
    obtain⟨hsz,hik⟩:=hcond
    cases h
    obtain⟨pl,a,cap,rfl,hs,hn,hm,ha⟩:=hx.sl_inv
    obtain⟨pl',cs',e',g1,g2⟩:=hW.live b' y hy
    rw[hs]at g1
    cases g1
    replace g2:=g2.1 (hx.sl_ok hs)
    have hlen:((y.rows.drop i).take k).length=k:=by simp;omega
    rw[hlen]
    have get:∀(q:Nat) (r:List AV),((y.rows.drop i).take k)[q]? =some r→y.rows[i+q]? =some r:=fun q r hq=>by
     have hi:=ah hq
     rw[hlen]at hi
     rwa [List.getElem?_take_of_lt hi,List.getElem?_drop]at hq
    rcases Nat.eq_zero_or_pos k with hk | hk
    ·subst hk
     exact⟨_,cap,[],rfl,fun w2 _=>by simp[Builtin.firstCells,loadCells,loadCellsFrom],by simpa using b7.nil n⟩
    ·obtain⟨rfl,cs,ty,hc,hr⟩:=ha (by omega)
     obtain⟨l,h1,h2⟩:=lP (P:=P) (w:=w) (σ:=σ) (T:=aq σ H) (m:=(y.rows.drop i).take k) (n:=n) (c:=pl.block) (o:=pl.base+i*pl.size) (fun q r hq=>by rw[←hsz];exact g2.even _ r (get q r hq)) (fun q r hq=>by
      have:=g2.row (get q r hq)
      rw[Nat.add_mul,←Nat.add_assoc]at this
      rwa [g2.size,hsz]at this ⊢)
     rw[hlen]at h1
     exact⟨_,cap,l,rfl,fun w2 hw2=>by simp only[Builtin.firstCells];exact h1 w2 hw2,h2⟩
   ·cases h
  ·cases h
 ·cases h
theorem b7.ones{rows:List (List AV)}{n:Nat}{l:List Value}(h:b7 w σ T rows n l)(ho:(rows.all fun r=>r.all AV.one)=true):∀u∈l,u.oneCell'=true:=by
 intro u hu
 obtain⟨p,hp,rfl⟩:=List.getElem_of_mem hu
 have hlen:=h.len
 have hn:0<n:=by
  rcases Nat.eq_zero_or_pos n with h0 | h0
  ·subst h0;rw[Nat.mul_zero]at hlen;omega
  ·exact h0
 have hi:p / n<rows.length:=by rw[Nat.div_lt_iff_lt_mul hn];omega
 have hr:rows[p / n]? =some rows[p / n]:=List.getElem?_eq_getElem hi
 have hj:p % n<rows[p / n].length:=by rw[h.even _ _ hr];exact Nat.mod_lt _ hn
 have hrep:=h.rep (p / n) _ (p % n) _ l[p] hr (List.getElem?_eq_getElem hj) (by rw[Nat.mul_comm,Nat.div_add_mod];exact List.getElem?_eq_getElem hp)
 refine hrep.one ?_
 rw[List.all_eq_true]at ho
 have:=ho _ (List.getElem_mem hi)
 rw[List.all_eq_true]at this
 exact this _ (List.getElem_mem hj)
theorem ct{t tx ty e e':TypeId}{n sLen sCap k capx:Nat}{A B:Option Addr}{news:List Value}(ht:P.underlying t=some (.slice e))(htx:P.underlying tx=some (.slice e'))(hn:au P e=some n)
  (hroom:sLen+k≤sCap) (hc:(Builtin.firstCells n k (.slice B k capx)).run P w=.ok news.toArray w) {w':World} (hst:(match A with | some a=>storeCells (a.add (sLen*n)) news | none=>Pure.pure ()).run P w=.ok () w') :
  (Builtin.append_ #[t,tx] ty #[.slice A sLen sCap,.slice B k capx]).run P w=.ok (.slice A (sLen+k) sCap) w':=by
 cases A with
 | none=>
  simp only[Sem.run_pure]at hst
  cases hst
  simp[Builtin.append_,run_underlying ht,run_underlying htx,aS hn,Builtin.lenOf,hroom,hc]
 | some a=>
  simp only[]at hst
  simp[Builtin.append_,run_underlying ht,run_underlying htx,aS hn,Builtin.lenOf,hroom,hc,hst]
theorem oW(hW:ay w σ H)(hb:σ b=none)(hlt:b<H.next){t tx ty e':TypeId}{s x v:AV}{s' x':Value}{H':aa}(hx:aw w σ (aq σ H) x x')(hs:aw w σ (aq σ H) s s')
  (htx:P.underlying tx=some (.slice e')) (h:aV P H b t s x=some (v,H')):nt P (Builtin.append_ #[t,tx] ty #[s',x']) w σ H b v H':=by
 unfold aV at h
 split at h
 ·rename_i e hu
  split at h
  ·rename_i n by_ z hn hby hz
   split at h
   ·rename_i l m hl hm
    split at h
    ·rename_i hc
     obtain⟨c1,c2,h0,hzn,hone⟩:=hc
     cases hi:P.info? e with
     | none=>simp[dA,hi]at hby
     | some i=>
     have hib:i.bytes=by_:=by simpa[dA,hi]using hby
     have hin:i.size=n:=by simpa[au,hi]using hn
     cases hza:bH P e with
     | none=>rw[hza]at hz;cases hz
     | some za=>
     rw[hza]at hz
     simp only[Option.bind_some]at hz
     obtain⟨z',hz1,hz2⟩:=bP (P:=P) (w:=w) (σ:=σ) (T:=aq σ H) hza
     have hiz:i.zero=some z':=by
      simp only[zeroValue,Sem.run_bind,jx hi,Result.andThen_ok]at hz1
      split at hz1
      ·rename_i q hq;cases hz1;exact hq
      ·cases hz1
     have hzr:=hz2.cells hz
     obtain⟨A,cap,olds,rfl,ho1,ho2⟩:=nC (P:=P) hW hs hl
     obtain⟨B,capx,news,rfl,hn1,hn2⟩:=nC (P:=P) hW hx hm
     have grow:∀{K:aa},(hWK:ay w σ K)→(hext:bV w σ (aq σ H) w σ (aq σ K))→b<K.next→cap<l.length+m.length→
       nt P (Builtin.append_ #[t,tx] ty #[.slice A l.length cap,.slice B m.length capx]) w σ H b (.sl b 0 (l.length+m.length)) (K.new b ⟨n,l++m⟩):=by
      intro K hWK hext hltK hcap
      have hrun:=run_append_grow_src (P:=P) w t tx ty e i z' hu hi hiz A l.length cap olds (by rw[hin];exact ho1 _ rfl) (.slice B m.length capx) m.length news
       ⟨.inl ⟨e',htx⟩,fun _=>rfl,by rw[hin];exact hn1 w rfl,by rw[hin];exact hn1 _ rfl,by rw[hin];exact hn2.len,hn2.ones hone⟩ hcap (by omega)
       (by rw[hib];have:=Nat.mul_le_mul_right by_ (nextslicecap_le hcap);omega)
      generalize hgc:grownCap w (l.length+m.length) cap e=gc at hrun
      have hgc1:l.length+m.length≤gc∧gc≤maxLen:=by
       rw[←hgc]
       have hcut:grownCap w (l.length+m.length) cap e=(l.length+m.length)+w.tape w.drawn (.appendCap (l.length+m.length) cap e) % (2^63-(l.length+m.length)):=rfl
       rw[hcut]
       unfold maxLen
       have:w.tape w.drawn (.appendCap (l.length+m.length) cap e) % (2^63-(l.length+m.length))<2^63-(l.length+m.length):=Nat.mod_lt _ (by omega)
       omega
      have hE:bV w σ (aq σ H) w.drew σ (aq σ K):=hext.trans (bV.same σ _ rfl rfl rfl rfl)
      have hzs:z'.cells.size=n:=by rw[←Array.length_toList,←hzr.1,hzn]
      have hfl:b7 w σ (aq σ H) (l++m) n (olds++news):=ho2.append hn2
      generalize hcs:((olds++news).toArray++Builtin.zeroCells z'.cells (gc-(l.length+m.length)):Array Value)=cs at hrun
      have hcl:cs.size=gc*n:=by
       rw[←hcs]
       have h1:=hfl.len
       simp only[List.length_append]at h1
       simp only[Array.size_append,List.size_toArray,List.length_append,h1,Builtin.zeroCells,Array.size_map,Array.size_range,hzs]
       rw[←Nat.add_mul]
       congr 1
       omega
      have hcget:∀p u,p<(l++m).length*n→cs[p]? =some u→(olds++news)[p]? =some u:=fun p u hp hu=>by
       rw[←hcs,Array.getElem?_append_left (by simp only[List.size_toArray];rw[hfl.len];exact hp)]at hu
       simpa using hu
      obtain⟨g1,g2⟩:=(hWK.same (w':=w.drew) rfl rfl rfl rfl).new hb hltK (x:=⟨n,l++m⟩) (cs:=cs) (e:=e) hfl.even (by rw[hcl];simp only[List.length_append];exact Nat.mul_le_mul_right _ hgc1.1) (fun i r j a u hr ha hu=>by
       have hj:j<n:=by rw[←hfl.even i r hr];exact ah ha
       exact(hfl.rep i r j a u hr ha (hcget _ u (i4 (ah hr) hj) hu)).mono hE)
      refine⟨_,_,_,hrun,?_,g1,hE.trans g2,fun c pl hc=>?_⟩
      ·exact qa (w:=w.drew) (x:=⟨n,l++m⟩) hgc1.1 hgc1.2 (by rw[hcl];exact Nat.le_refl _)
      ·by_cases hbc:b=c
       ·exact .inr hbc.symm
       ·rw[aC.set_ne _ _ hbc]at hc;exact .inl hc
     split at h
     ·
      cases hl
      simp only[List.length_nil]at hs
      cases hs
      split at h
      ·rename_i hm0
       cases h
       refine⟨.slice none 0 0,w,σ,?_,.nils,hW,bV.refl _ _ _,fun c pl hc=>.inl hc⟩
       have:=ct (P:=P) (ty:=ty) (A:=none) (sLen:=0) (sCap:=0) (k:=m.length) hu htx hn (by omega) (hn1 w rfl) (w':=w) rfl
       rw[hm0]at this
       simpa[hm0]using this
      ·rename_i hm0
       cases h
       have:=grow hW (bV.refl _ _ _) hlt (by simp;omega)
       simpa using this
     ·
      cases hl
      simp only[List.length_nil]at hs
      cases hs
      split at h
      ·rename_i hm0
       cases h
       refine⟨.slice A 0 0,w,σ,?_,.emp A,hW,bV.refl _ _ _,fun c pl hc=>.inl hc⟩
       have hm':m=[]:=by cases m with
        | nil=>rfl
        | cons x m=>simp at hm0
       have hnews:news=[]:=by have:=hn2.len;rw[hm']at this;simpa using this
       have:=ct (P:=P) (ty:=ty) (A:=A) (sLen:=0) (sCap:=0) (k:=m.length) hu htx hn (by omega) (hn1 w rfl) (w':=w) (by rw[hnews];cases A<;>rfl)
       rw[hm0]at this
       simpa[hm0]using this
      ·rename_i hm0
       cases h
       have:=grow hW (bV.refl _ _ _) hlt (by simp;omega)
       simpa using this
     ·rename_i b' i k
      cases h
      obtain⟨pl,a,cap',heq,hsig,hk,hcm,ha⟩:=hs.sl_inv
      simp only[Value.slice.injEq]at heq
      obtain⟨rfl,hkl,rfl⟩:=heq
      simp only[ch]at hl
      split at hl
      ·rename_i y hy
       split at hl
       ·rename_i hcond
        obtain⟨hyn,hik⟩:=hcond
        cases hl
        have hlen:((y.rows.drop i).take k).length=k:=by simp;omega
        obtain⟨pl',ds,e0,q1,q2⟩:=hW.live b' y hy
        rw[hsig]at q1
        cases q1
        have hpk:=hs.sl_ok hsig
        replace q2:=q2.1 hpk
        have hps:pl.size=n:=q2.size.trans hyn
        have hget:∀(q:Nat) (r:List AV),((y.rows.drop i).take k)[q]? =some r→q<k∧y.rows[i+q]? =some r:=fun q r hq=>by
         have hi:=ah hq
         rw[hlen]at hi
         rw[List.getElem?_take_of_lt hi,List.getElem?_drop]at hq
         exact⟨hi,hq⟩
        have hfl:b7 w σ (aq σ H) ((y.rows.drop i).take k++m) n (olds++news):=ho2.append hn2
        by_cases hroom:((y.rows.drop i).take k).length+m.length≤cap
        ·
         by_cases hc0:cap=0
         ·subst hc0
          have hm0:m.length=0:=by omega
          have hk0:k=0:=by omega
          have hlk:((y.rows.drop i).take k)=[]:=by rw[hk0];simp
          have hm':m=[]:=by cases m with
           | nil=>rfl
           | cons x m=>simp at hm0
          have hnews:news=[]:=by have:=hn2.len;rw[hm']at this;simpa using this
          have hrun:=ct (P:=P) (ty:=ty) (A:=some a) hu htx hn hroom (hn1 w rfl) (w':=w) (by rw[hnews];rfl)
          obtain⟨o1,o2⟩:=hW.over (k:=0) hy hsig hb hlt (gv.refl q2.block) (x':=⟨n,(y.rows.drop i).take k++m⟩) hps.symm hfl.even (by rw[hlk,hm'];have:=q2.room;simp;omega) (by rw[hlk,hm'];intro i r j a u hr;simp at hr)
          refine⟨_,_,_,hrun,?_,o1,o2,fun c pl hc=>?_⟩
          ·exact aw.sl b 0 _ _ a 0 (aC.set_eq _ _ _) (aM.ok_over hpk _ _) hroom (by omega) (by omega)
          ·by_cases hbc:b=c
           ·exact .inr hbc.symm
           ·rw[aC.set_ne _ _ hbc]at hc;exact .inl hc
         ·obtain⟨rfl,cs,ty',hcb,hcr⟩:=ha (by omega)
          rw[q2.block]at hcb
          cases hcb
          have hnl:news.length=m.length*n:=hn2.len
          have hcap:(k+m.length)*n≤cap*n:=Nat.mul_le_mul_right _ (by omega)
          have hbound:pl.base+i*pl.size+k*n+news.length≤ds.size:=by
           rw[hnl,hps]
           rw[hps,Nat.add_mul]at hcr
           rw[Nat.add_mul]at hcap
           omega
          have hst:=run_storeCells_at (P:=P) pl.block (pl.base+i*pl.size+k*n) e0 news 0 ds w q2.block (by simpa using hbound) (hn2.ones hone)
          simp only[Nat.add_zero]at hst
          have hw:gv w (w.setRow pl.block (ds.toList.take (pl.base+i*pl.size+k*n)++news++ds.toList.drop (pl.base+i*pl.size+k*n+news.length)).toArray) pl.block ds _ e0:=
           ⟨rfl,rfl,rfl,by simp,q2.block,setRow_heap w _ _ _ _ _ q2.block,by
            simp only[List.size_toArray,List.length_append,List.length_take,List.length_drop,Array.length_toList]
            rw[Nat.min_eq_left (by omega)]
            omega,fun d hd=>setRow_other w _ d _ hd⟩
          have hrun:=ct (P:=P) (ty:=ty) (A:=some ⟨pl.block,pl.base+i*pl.size,none⟩) hu htx hn hroom (hn1 w rfl) (by simp only[bO];rw[hlen];exact hst)
          have hdl:ds.toList.length=ds.size:=Array.length_toList
          obtain⟨o1,o2⟩:=hW.over (k:=i) hy hsig hb hlt hw (x':=⟨n,(y.rows.drop i).take k++m⟩) hps.symm hfl.even (by
           simp only[List.length_append,hlen]
           rw[Nat.add_mul]
           omega) (fun q r j a u hr hj hu=>by
           simp only[]at hr hu
           have hjn:j<n:=by rw[←hfl.even q r hr];exact ah hj
           rw[List.getElem?_toArray,cO ds.toList news _ _ (by omega)]at hu
           rcases Nat.lt_or_ge q k with hq | hq
           ·rw[List.getElem?_append_left (by omega)]at hr
            have:=i4 hq hjn
            rw[if_pos (by omega),Array.getElem?_toList]at hu
            refine q2.rep (i+q) r j a u (hget q r hr).2 hj ?_
            rw[hyn,←hu,hps]
            congr 1
            rw[Nat.add_mul]
            omega
           ·rw[List.getElem?_append_right (by omega),hlen]at hr
            have hqm:q-k<m.length:=ah hr
            have h1:=i4 hqm hjn
            have h2:(q-k)*n+k*n=q*n:=by rw[←Nat.add_mul,Nat.sub_add_cancel hq]
            rw[if_neg (by omega),if_pos (by omega)]at hu
            refine hn2.rep (q-k) r j a u hr hj ?_
            rw[←hu]
            congr 1
            omega)
          refine⟨_,_,_,hrun,?_,o1,o2,fun c pl hc=>?_⟩
          ·refine aw.sl b 0 _ _ _ cap (aC.set_eq _ _ _) (aM.ok_over hpk _ _) hroom hcm fun _=>⟨by simp,_,e0,hw.new,?_⟩
           rw[hw.len]
           simp only[Nat.zero_add]
           rw[Nat.add_mul]at hcr
           omega
          ·by_cases hbc:b=c
           ·exact .inr hbc.symm
           ·rw[aC.set_ne _ _ hbc]at hc;exact .inl hc
        ·
         have hsub:∀c x,(H.put b' none).get c=some x→H.get c=some x:=fun c x hx=>by
          rw[aa.get_put]at hx
          split at hx
          ·cases hx
          ·exact hx
         exact grow (hW.sub hsub (Nat.le_refl _)) (bV.sub hsub) hlt (by omega)
       ·cases hl
      ·cases hl
     ·cases h
    ·cases h
   ·cases h
  ·cases h
 ·cases h
theorem oX(hW:ay w σ H){c:Nat}{y:Blk}{pl:aM}(hy:H.get c=some y)(hs:σ c=some pl)(hpk:pl.ok){i:Nat}{rows:List (List AV)}{us:List Value}(hf:b7 w σ (aq σ H) rows y.size us)(hin:i+rows.length≤y.rows.length)(hone:∀u∈us,u.oneCell'=true):
  ∃w',(storeCells ⟨pl.block,pl.base+i*pl.size,none⟩ us).run P w=.ok () w'∧ay w' σ (H.put c (some {y with rows:=y.rows.take i++rows++y.rows.drop (i+rows.length)}))∧bV w σ (aq σ H) w' σ (aq σ (H.put c (some {y with rows:=y.rows.take i++rows++y.rows.drop (i+rows.length)}))):=by
 obtain⟨pl',ds,e,g1,g2⟩:=hW.live c y hy
 rw[hs]at g1
 cases g1
 replace g2:=g2.1 hpk
 have hsz:=g2.size
 have hroom:=g2.room
 have hm:(i+rows.length)*y.size≤y.rows.length*y.size:=Nat.mul_le_mul_right _ hin
 have hul:us.length=rows.length*y.size:=hf.len
 rw[Nat.add_mul]at hm
 have hdl:ds.toList.length=ds.size:=Array.length_toList
 have hst:=run_storeCells_at (P:=P) pl.block (pl.base+i*pl.size) e us 0 ds w g2.block (by rw[hul,hsz];omega) hone
 simp only[Nat.add_zero]at hst
 have hw:gv w (w.setRow pl.block (ds.toList.take (pl.base+i*pl.size)++us++ds.toList.drop (pl.base+i*pl.size+us.length)).toArray) pl.block ds _ e:=
  ⟨rfl,rfl,rfl,by simp,g2.block,setRow_heap w _ _ _ _ _ g2.block,by
   simp only[List.size_toArray,List.length_append,List.length_take,List.length_drop,Array.length_toList]
   rw[hsz,Nat.min_eq_left (by omega)]
   omega,fun d hd=>setRow_other w _ d _ hd⟩
 have hlen:(y.rows.take i++rows++y.rows.drop (i+rows.length)).length=y.rows.length:=by
  simp only[List.length_append,List.length_take,List.length_drop];omega
 refine⟨_,hst,hW.put hy hs hw (x':={y with rows:=y.rows.take i++rows++y.rows.drop (i+rows.length)}) hsz.symm ?_ ?_ ?_⟩
 ·intro q s hq
  simp only[]at hq
  rw[cO _ _ _ _ hin]at hq
  split at hq
  ·exact g2.even q s hq
  ·split at hq
   ·exact hf.even _ s hq
   ·exact g2.even q s hq
 ·simp only[hlen];exact hroom
 ·intro q s j a u hq hj hu
  simp only[]at hq hu
  rw[cO _ _ _ _ hin]at hq
  rw[List.getElem?_toArray,cO ds.toList us (pl.base+i*pl.size) _ (by rw[hul,hsz];omega),hul,hsz]at hu
  by_cases h1:q<i
  ·rw[if_pos h1]at hq
   have hjs:j<y.size:=by rw[←g2.even q s hq];exact ah hj
   have:(q+1)*y.size≤i*y.size:=Nat.mul_le_mul_right _ h1
   rw[Nat.add_mul]at this
   rw[if_pos (by omega),Array.getElem?_toList]at hu
   exact g2.rep q s j a u hq hj hu
  ·rw[if_neg h1]at hq
   have h1':i*y.size≤q*y.size:=Nat.mul_le_mul_right _ (by omega)
   by_cases h2:q<i+rows.length
   ·rw[if_pos h2]at hq
    have hjs:j<y.size:=by rw[←hf.even _ s hq];exact ah hj
    have:(q+1)*y.size≤(i+rows.length)*y.size:=Nat.mul_le_mul_right _ h2
    rw[Nat.add_mul,Nat.add_mul]at this
    rw[if_neg (by omega),if_pos (by omega)]at hu
    refine hf.rep (q-i) s j a u hq hj ?_
    rw[←hu]
    congr 1
    rw[Nat.sub_mul]
    omega
   ·rw[if_neg h2]at hq
    have:(i+rows.length)*y.size≤q*y.size:=Nat.mul_le_mul_right _ (by omega)
    rw[Nat.add_mul]at this
    rw[if_neg (by omega),if_neg (by omega),Array.getElem?_toList]at hu
    exact g2.rep q s j a u hq hj hu
theorem qb{b:Nat}(hW:ay w σ H){t ty:TypeId}{x:AV}{x':Value}{H':aa}(hx:aw w σ (aq σ H) x x')(h:b6 P H t x=some H'):
  nt P (Builtin.clear_ #[t] ty #[x']) w σ H b (.tup []) H':=by
 unfold b6 at h
 split at h
 ·rename_i e hu
  split at h
  ·rename_i n z hn hz
   split at h
   ·cases h
    cases hx
    exact⟨.tuple #[],w,σ,by simp[Builtin.clear_,run_underlying hu],.tup [] [] rfl (by simp),hW,bV.refl _ _ _,fun c pl hc=>.inl hc⟩
   ·rename_i c i k
    split at h
    ·rename_i y hy
     split at h
     ·rename_i hcond
      obtain⟨⟨q1,q2⟩,⟨q3,q4⟩,q5⟩:=hcond
      cases h
      obtain⟨pl,ad,cap,rfl,hsg,hnc,hmx,ha⟩:=hx.sl_inv
      rcases Nat.eq_zero_or_pos k with rfl | hk
      ·have e0:y.rows.take i++List.replicate 0 z++y.rows.drop (i+0)=y.rows:=by simp
       obtain⟨pl',ds,e',g1,g2⟩:=hW.live c y hy
       rw[hsg]at g1
       cases g1
       replace g2:=g2.1 (hx.sl_ok hsg)
       have hput:=hW.put hy hsg (gv.refl g2.block) (x':={y with rows:=y.rows.take i++List.replicate 0 z++y.rows.drop (i+0)}) g2.size.symm (by simp only[e0];exact g2.even) (by simp only[e0];exact g2.room) (by simp only[e0];exact g2.rep)
       exact⟨.tuple #[],w,σ,by simp[Builtin.clear_,run_underlying hu],.tup [] [] rfl (by simp),hput.1,hput.2,fun c pl hc=>.inl hc⟩
      ·obtain⟨rfl,cs,te,hcs,hroom⟩:=ha (by omega)
       cases hz0:bH P e with
       | none=>rw[hz0]at hz;cases hz
       | some z0=>
        rw[hz0]at hz
        obtain⟨z',h1,h2⟩:=bP (P:=P) (w:=w) (σ:=σ) (T:=aq σ H) hz0
        have hr:=h2.cells hz
        obtain⟨l,hl1,hl2,hl3,hl4⟩:=b7.zeros (zs:=z'.cells) hr q2 q3 k k (Nat.le_refl _)
        rw[List.take_of_length_le (by omega)]at hl3
        have hlz:(Builtin.zeroCells z'.cells k).toList=l:=by
         have hzs:z'.cells.size=n:=by rw[←Array.length_toList,←hr.1,q2]
         have:Builtin.zeroCells z'.cells k=l.toArray:=by
          rw[←hl1,←hzs]
          rfl
         rw[this]
        subst q1
        have hfl:b7 w σ (aq σ H) (List.replicate k z) y.size l:=hl3
        have hones:∀u∈l,u.oneCell'=true:=fun u hu'=>by
         obtain⟨a,ha1,ha2⟩:=hl4 u hu'
         exact ha1.one (List.all_eq_true.1 q5 a ha2)
        obtain⟨w',g1,g2,g3⟩:=oX (P:=P) hW hy hsg (hx.sl_ok hsg) hfl (by simpa using q4) hones
        simp only[List.length_replicate]at g2 g3
        refine⟨.tuple #[],w',σ,?_,.tup [] [] rfl (by simp),g2,g3,fun c pl hc=>.inl hc⟩
        have hk0:k≠0:=by omega
        obtain⟨k',rfl⟩:∃k',k=k'+1:=⟨k-1,by omega⟩
        simp[Builtin.clear_,run_underlying hu,h1,hlz,g1]
     ·cases h
    ·cases h
   ·cases h
  ·cases h
 ·cases h
end
end Go.Proofs.YtelgfgfgghpjgaaGreatDoor.Am
end
section
namespace Go.Proofs.YtelgfgfgghpjgaaGreatDoor.Am
open Go.RowKit
set_option linter.unusedVariables false
section
variable {P:Program} {F:TypeId→Option (List TypeId)} {w:World} {σ:aC} {H:aa} {b:Nat}
theorem nD(hW:ay w σ H)(hb:σ b=none)(hlt:b<H.next){x:Blk}{o:Obj}{k:Nat}(ho:∀cs e,o≠.cells cs e (0,0))(hh:jw (World.push w o) x ⟨w.heap.size,k,0⟩)(hk:0<k){s:Sem Value}{v:AV}{v':Value}
  (hs:s.run P w=.ok v' (World.push w o)) (hv:∀w2 T,aw w2 (σ.set b ⟨w.heap.size,k,0⟩) T v v'):nt P s w σ H b v (H.new b x):=by
 have hnone:H.get b=none:=by
  cases hg:H.get b with
  | none=>rfl
  | some y=>obtain⟨pl,_,_,h1,_⟩:=hW.live b y hg;rw[hb]at h1;cases h1
 have hold:∀c,c<w.heap.size→(World.push w o).heap[c]? =w.heap[c]? :=fun c hc=>by
  show(w.heap.push _)[c]? =_
  rw[Array.getElem?_push,if_neg (Nat.ne_of_lt hc)]
 have hnok:¬aM.ok ⟨w.heap.size,k,0⟩:=by rintro(h | h)<;>simp only[]at h<;>omega
 have ext:bV w σ (aq σ H) (World.push w o) (σ.set b ⟨w.heap.size,k,0⟩) (aq (σ.set b ⟨w.heap.size,k,0⟩) (H.new b x)):=by
  refine⟨rfl,rfl,rfl,by simp[World.push],fun c hc _=>hold c hc,fun c cs' e' hc=>⟨cs',?_,rfl⟩,fun c q hq=>aC.set_old hb hq,rfl,fun c hc=>hold c (hW.apart c hc).1,?_⟩
  ·rcases Nat.lt_or_ge c w.heap.size with hlt | hge
   ·rw[hold c hlt];exact hc
   ·rw[Array.getElem?_eq_none hge]at hc;cases hc
  ·rintro c (hfr | ⟨b',y,pl,h1,h2,h3⟩)
   ·exact .inl (.inl hfr)
   rw[aa.get_new]at h1
   by_cases hbb:b=b'
   ·subst hbb
    rw[aC.set_eq]at h2
    cases h2
    exact .inr (by simp only[]at h3;omega)
   ·rw[if_neg hbb]at h1
    rw[aC.set_ne _ _ hbb]at h2
    exact .inl (.inr ⟨b',y,pl,h1,h2,h3⟩)
 refine⟨v',_,_,hs,hv _ _,⟨?_,?_,?_,fun c hc=>?_,?_,hW.glob.mono ext⟩,ext,fun c pl hc=>?_⟩
 ·intro c pl hc
  by_cases hbc:b=c
  ·subst hbc;exact hlt
  ·rw[aC.set_ne _ _ hbc]at hc;exact hW.named c pl hc
 ·intro c pl hc
  by_cases hbc:b=c
  ·subst hbc;rw[aC.set_eq]at hc;cases hc;simp[World.push]
  ·rw[aC.set_ne _ _ hbc]at hc;have:=hW.lt c pl hc;simp[World.push];omega
 ·intro c y hy
  rw[aa.get_new]at hy
  by_cases hbc:b=c
  ·subst hbc
   rw[if_pos rfl]at hy
   cases hy
   exact⟨_,#[],0,aC.set_eq _ _ _,fun hp=>absurd hp hnok,fun _=>hh⟩
  ·rw[if_neg hbc]at hy
   obtain⟨pl,cs',e',h1,h2⟩:=hW.live c y hy
   exact⟨pl,cs',e',by rw[aC.set_ne _ _ hbc];exact h1,h2.mono ext (hold _ (hW.lt c pl h1))⟩
 ·have hlt':=(hW.apart c hc).1
  refine⟨by simp[World.push];omega,?_⟩
  rintro⟨b',y,pl,h1,h2,h3⟩
  rw[aa.get_new]at h1
  by_cases hbb:b=b'
  ·subst hbb
   rw[aC.set_eq]at h2
   cases h2
   simp only[]at h3;omega
  ·rw[if_neg hbb]at h1
   rw[aC.set_ne _ _ hbb]at h2
   exact(hW.apart c hc).2 ⟨b',y,pl,h1,h2,h3⟩
 ·intro c c' y y' pl pl' h1 h2 h3 h4 h5
  rw[aa.get_new]at h1 h2
  by_cases hbc:b=c
  ·by_cases hbc':b=c'
   ·exact hbc.symm.trans hbc'
   ·subst hbc
    rw[aC.set_eq]at h3;cases h3
    rw[aC.set_ne _ _ hbc']at h4
    have:=hW.lt c' pl' h4
    simp only[]at h5;omega
  ·by_cases hbc':b=c'
   ·subst hbc'
    rw[aC.set_eq]at h4;cases h4
    rw[aC.set_ne _ _ hbc]at h3
    have:=hW.lt c pl h3
    simp only[]at h5;omega
   ·rw[if_neg hbc]at h1
    rw[if_neg hbc']at h2
    rw[aC.set_ne _ _ hbc]at h3
    rw[aC.set_ne _ _ hbc']at h4
    exact hW.inj c c' y y' pl pl' h1 h2 h3 h4 h5
 ·by_cases hbc:b=c
  ·exact .inr hbc.symm
  ·rw[aC.set_ne _ _ hbc]at hc;exact .inl hc
theorem u7(hW:ay w σ H){c:Nat}{x x':Blk}{pl:aM}(hg:H.get c=some x)(hs:σ c=some pl){o o':Obj}(hold:w.heap[pl.block]? =some o)(ho:∀cs e,o≠.cells cs e (0,0))(hn:¬pl.ok)
  (hh:jw {w with heap:=w.heap.setIfInBounds pl.block o'} x' pl) :
  ay {w with heap:=w.heap.setIfInBounds pl.block o'} σ (H.put c (some x'))∧bV w σ (aq σ H) {w with heap:=w.heap.setIfInBounds pl.block o'} σ (aq σ (H.put c (some x'))):=by
 have rest:∀d,d≠pl.block→(w.heap.setIfInBounds pl.block o')[d]? =w.heap[d]? :=(MapKept.heap_set hold).2
 have htok:np σ (H.put c (some x'))=np σ H:=by
  funext d
  apply propext
  constructor
  ·rintro⟨b',y,q,h1,h2,h3⟩
   rw[aa.get_put]at h1
   by_cases hbb:c=b'
   ·subst hbb;exact⟨c,x,q,hg,h2,h3⟩
   ·rw[if_neg hbb]at h1;exact⟨b',y,q,h1,h2,h3⟩
  ·rintro⟨b',y,q,h1,h2,h3⟩
   by_cases hbb:c=b'
   ·subst hbb;exact⟨c,x',q,by rw[aa.get_put,if_pos rfl],h2,h3⟩
   ·exact⟨b',y,q,by rw[aa.get_put,if_neg hbb];exact h1,h2,h3⟩
 have hown:aq σ (H.put c (some x'))=aq σ H:=by funext d;simp[aq,htok]
 have hT:np σ H pl.block:=⟨c,x,pl,hg,hs,rfl⟩
 have ext:bV w σ (aq σ H) {w with heap:=w.heap.setIfInBounds pl.block o'} σ (aq σ (H.put c (some x'))):=by
  rw[hown]
  refine⟨rfl,rfl,rfl,by simp,fun d _ hd=>rest d (by rintro rfl;exact hd (.inr hT)),fun d ds e hd=>⟨ds,?_,rfl⟩,fun _ _ h=>h,rfl,fun d hd=>rest d (by rintro rfl;exact(hW.apart _ hd).2 hT),fun _ h=>.inl h⟩
  rw[rest d (by rintro rfl;rw[hold]at hd;cases hd;exact ho _ _ rfl)]
  exact hd
 refine⟨⟨hW.named,fun d q hd=>by simpa using hW.lt d q hd,?_,fun d hd=>by rw[htok];simpa using hW.apart d hd,?_,hW.glob.mono ext⟩,ext⟩
 ·intro d y hy
  rw[aa.get_put]at hy
  by_cases hbc:c=d
  ·subst hbc
   rw[if_pos rfl]at hy
   cases hy
   exact⟨pl,#[],0,hs,fun hp=>absurd hp hn,fun _=>hh⟩
  ·rw[if_neg hbc]at hy
   obtain⟨q,ds,e',h1,h2⟩:=hW.live d y hy
   exact⟨q,ds,e',h1,h2.mono ext (rest _ fun he=>hbc (hW.inj c d x y pl q hg hy hs h1 he.symm))⟩
 ·intro d d' y y' q q' h1 h2
  have aux:∀d y,(H.put c (some x')).get d=some y→∃z,H.get d=some z:=fun d y hy=>by
   rw[aa.get_put]at hy
   by_cases hbc:c=d
   ·subst hbc;exact⟨x,hg⟩
   ·rw[if_neg hbc]at hy;exact⟨y,hy⟩
  obtain⟨z,hz⟩:=aux d y h1
  obtain⟨z',hz'⟩:=aux d' y' h2
  exact hW.inj d d' z z' q q' hz hz'
theorem aw.mp_inv{T:Nat→Prop}{c:Nat}{v:Value}(hW:ay w σ H)(h:aw w σ T (.mp c) v){x:Blk}(hx:H.get c=some x):
  ∃pl es clk,v=.map (some pl.block)∧σ c=some pl∧pl.base=1∧pl.size=0∧x.size=0∧¬pl.ok∧w.heap[pl.block]? =some (.map es clk)∧es.toList.map oN=x.rows.map some:=by
 cases h with
 | mp _ pl hs h1 h2=>
 obtain⟨pl',cs,e,g1,g2⟩:=hW.live c x hx
 rw[hs]at g1
 cases g1
 have hn:¬pl.ok:=by rintro(h | h)<;>omega
 have hh:=g2.2 hn
 rcases hh.obj with⟨_,es,clk,k1,k2⟩ | ⟨k0,_⟩
 ·exact⟨pl,es,clk,rfl,hs,h2,h1,hh.size,hn,k1,k2⟩
 ·omega
theorem aw.it_inv{T:Nat→Prop}{c:Nat}{v:Value}(hW:ay w σ H)(h:aw w σ T (.it c) v){x:Blk}(hx:H.get c=some x):
  ∃(pl:aM) (s:ByteArray) (pos:Nat),v=.pointer (some ⟨pl.block,0,none⟩)∧σ c=some pl∧pl.base=2∧pl.size=0∧x.size=0∧¬pl.ok∧w.heap[pl.block]? =some (.stringIter s pos)∧x.rows=[[.str s.data.toList,.int .i64 pos]]:=by
 cases h with
 | it _ pl hs h1 h2=>
 obtain⟨pl',cs,e,g1,g2⟩:=hW.live c x hx
 rw[hs]at g1
 cases g1
 have hn:¬pl.ok:=by rintro(h | h)<;>omega
 have hh:=g2.2 hn
 rcases hh.obj with⟨k0,_⟩ | ⟨_,s,pos,k1,k2⟩
 ·omega
 ·exact⟨pl,s,pos,rfl,hs,h2,h1,hh.size,hn,k1,k2⟩
theorem tM{v:Value}{s:List UInt8}(h:oM v=some (.str s)):∃ba:ByteArray,v=.string ba∧ba.data.toList=s:=by
 cases v<;>simp[oM]at h
 exact⟨_,rfl,h⟩
theorem qH{T:Nat→Prop}{v:Value}{a:AV}(h:oM v=some a):aw w σ T a v:=by
 cases v<;>simp only[oM,Option.some.injEq,reduceCtorEq]at h<;>subst h
 ·exact .bool _
 ·exact .int _ _
 ·exact .str _
theorem rt{T:Nat→Prop}{v:Value}{a:AV}(h:aw w σ T a v)(hk:a.konst=true):oM v=some a:=by
 cases h<;>first | rfl | (simp[AV.konst]at hk)
theorem n4{T:Nat→Prop}{v:Value}{s:List UInt8}(h:aw w σ T (.str s) v):∃ba:ByteArray,v=.string ba∧ba.data.toList=s:=by
 cases h with
 | str ba=>exact⟨ba,rfl,rfl⟩
theorem fh{ba:ByteArray}:∀(l:List MapEntry) (rows:List (List AV)) (i:Nat),l.map oN=rows.map some→rows.all jv=true→
  (Instr.findNow .string (.string ba) l i=some none∧cI ba.data.toList rows i=none) ∨
  ∃j e v,Instr.findNow .string (.string ba) l i=some (some (i+j,e.val))∧cI ba.data.toList rows i=some (i+j,v)∧l[j]? =some e∧oM e.val=some v∧e.key=.string ba
 | [],[],i,_,_=>.inl ⟨rfl,rfl⟩
 | [],r::rows,i,h,_=>by simp at h
 | e::l,[],i,h,_=>by simp at h
 | e::l,r::rows,i,h,hk=>by
  simp only[List.map_cons,List.cons.injEq]at h
  simp only[List.all_cons,Bool.and_eq_true]at hk
  have h1:=h.1
  unfold oN at h1
  split at h1
  ·rename_i k v hkk hv
   cases h1
   have h2:=hk.1
   unfold jv at h2
   split at h2
   ·rename_i s v' heq
    cases heq
    obtain⟨kb,hkb,rfl⟩:=tM hkk
    have hsn:Instr.sameNow .string (.string ba) e.key=some (ba==kb):=by rw[hkb];rfl
    have hbb:(ba.data.toList==kb.data.toList)=(ba==kb):=by
     rw[Bool.eq_iff_iff,MapKept.bytes_beq]
     constructor
     ·intro hh
      have:ba.data.toList=kb.data.toList:=by simpa using hh
      obtain⟨x⟩:=ba;obtain⟨y⟩:=kb
      simp only[]at this
      congr 1
      exact Array.toList_inj.1 this
     ·rintro rfl;simp
    cases hr:(ba==kb)with
    | true=>
     have he:ba=kb:=(MapKept.bytes_beq _ _).1 hr
     rw[hr]at hsn hbb
     exact .inr ⟨0,e,v,by simp[Instr.findNow,hsn],by simp[cI,hbb],rfl,hv,by rw[hkb,he]⟩
    | false=>
     rw[hr]at hsn hbb
     rcases fh (ba:=ba) l rows (i+1) h.2 hk.2 with⟨g1,g2⟩ | ⟨j,e',v',g1,g2,g3,g4,g5⟩
     ·exact .inl ⟨by simp[Instr.findNow,hsn,g1],by simp[cI,hbb,g2]⟩
     ·exact .inr ⟨j+1,e',v',by simp[Instr.findNow,hsn,g1];omega,by simp[cI,hbb,g2];omega,by simpa using g3,g4,g5⟩
   ·cases h2
  ·cases h1
theorem xC{T:Nat→Prop}{a:AV}{x:Value}(h:aw w σ T a x):aw w σ T (.tup [a]) (.tuple #[x]):=.tup [a] [x] rfl fun i a' x' h1 h2=>by
 match i with
 | 0=>cases h1;cases h2;exact h
 | i+1=>simp at h1
theorem vU{T:Nat→Prop}{a b:AV}{x y:Value}(h:aw w σ T a x)(h':aw w σ T b y):aw w σ T (.tup [a,b]) (.tuple #[x,y]):=.tup [a,b] [x,y] rfl fun i a' x' h1 h2=>by
 match i with
 | 0=>cases h1;cases h2;exact h
 | 1=>cases h1;cases h2;exact h'
 | i+2=>simp at h1
theorem xD{T:Nat→Prop}{a b c:AV}{x y z:Value}(h:aw w σ T a x)(h':aw w σ T b y)(h3:aw w σ T c z):aw w σ T (.tup [a,b,c]) (.tuple #[x,y,z]):=.tup [a,b,c] [x,y,z] rfl fun i a' x' h1 h2=>by
 match i with
 | 0=>cases h1;cases h2;exact h
 | 1=>cases h1;cases h2;exact h'
 | 2=>cases h1;cases h2;exact h3
 | i+3=>simp at h1
theorem qI{e:MapEntry}{k v:AV}(h1:oM e.key=some k)(h2:oM e.val=some v):oN e=some [k,v]:=by unfold oN;rw[h1,h2]
theorem fi{t:TypeId}{m k v:AV}{H':aa}(h:bW P H t m k v=some H'):∃c x x',m=.mp c∧H.get c=some x∧H'=H.put c (some x')∧∀K:aa,K.get c=some x→bW P K t m k v=some (K.put c (some x')):=by
 unfold bW at h
 split at h
 ·rename_i kt et c s hu
  split at h
  ·rename_i x hku hx
   split at h
   ·rename_i hc
    cases h
    exact⟨c,x,_,rfl,hx,rfl,fun K hK=>by simp only[bW,hu,hku,hK];rw[if_pos hc]⟩
   ·cases h
  ·cases h
 ·cases h
theorem jz{it v:AV}{H':aa}(h:dg H it=some (v,H')):∃c x,it=.it c∧H.get c=some x∧((H'=H∧∀K:aa,K.get c=some x→dg K it=some (v,K))∨∃x',H'=H.put c (some x')∧∀K:aa,K.get c=some x→dg K it=some (v,K.put c (some x'))):=by
 unfold dg at h
 split at h
 ·rename_i c
  split at h
  ·rename_i x hx
   split at h
   ·rename_i s k pos hr
    split at h
    ·rename_i hp
     cases h
     exact⟨c,x,rfl,hx,.inr ⟨_,rfl,fun K hK=>by simp only[dg,hK,hr];rw[if_pos hp]⟩⟩
    ·rename_i hp
     cases h
     exact⟨c,x,rfl,hx,.inl ⟨rfl,fun K hK=>by simp only[dg,hK,hr];rw[if_neg hp]⟩⟩
   ·cases h
  ·cases h
 ·cases h
theorem lQ{t:TypeId}{m k v:AV}{ok:Bool}(h:d7 P H t m k ok=some v):∃c x,m=.mp c∧H.get c=some x∧∀K:aa,K.get c=some x→d7 P K t m k ok=some v:=by
 unfold d7 at h
 split at h
 ·rename_i kt et c s hu
  split at h
  ·rename_i z x hku hz hx
   split at h
   ·rename_i hkeys
    exact⟨c,x,rfl,hx,fun K hK=>by simp only[d7,hu,hku,hz,hK];rw[if_pos hkeys];exact h⟩
   ·cases h
  ·cases h
 ·cases h
theorem n6(hW:ay w σ H){t:TypeId}{m k v:AV}{m' k':Value}{ok:Bool}(hm:aw w σ (aq σ H) m m')(hk:aw w σ (aq σ H) k k')(h:d7 P H t m k ok=some v):
  ∃v',(Instr.lookup t m' k' ok).run P w=.ok v' w∧aw w σ (aq σ H) v v':=by
 unfold d7 at h
 split at h
 ·rename_i kt et c s hu
  split at h
  ·rename_i z x hku hz hx
   split at h
   ·rename_i hkeys
    cases h
    obtain⟨pl,es,clk,rfl,hs,_,_,_,_,hb,hrows⟩:=hm.mp_inv hW hx
    obtain⟨ba,rfl,rfl⟩:=n4 hk
    obtain⟨z',hz1,hz2⟩:=bP (P:=P) (w:=w) (σ:=σ) (T:=aq σ H) hz
    have hck:=fun e=>MapKept.run_checkKey (P:=P) (w:=w) (k:=.string ba) hku trivial e 9999
    rcases fh es.toList x.rows 0 hrows hkeys with⟨g1,g2⟩ | ⟨j,e,v,g1,g2,g3,g4,g5⟩
    ·rw[g2]
     refine⟨if ok then .tuple #[z',.bool false]else z',?_,?_⟩
     ·simp only[Instr.lookup,Sem.run_bind,run_underlying hu,Result.andThen_ok,MapKept.run_getObj_map hb,Sem.run_pure,hck,MapKept.run_findKey hku g1,hz1]
     ·cases ok
      ·exact hz2
      ·exact vU hz2 (.bool false)
    ·rw[g2]
     refine⟨if ok then .tuple #[e.val,.bool true]else e.val,?_,?_⟩
     ·simp only[Instr.lookup,Sem.run_bind,run_underlying hu,Result.andThen_ok,MapKept.run_getObj_map hb,Sem.run_pure,hck,MapKept.run_findKey hku g1]
     ·cases ok
      ·exact qH g4
      ·exact vU (qH g4) (.bool true)
   ·cases h
  ·cases h
 ·cases h
theorem oY(hW:ay w σ H){t:TypeId}{m k v:AV}{m' k' v':Value}(hm:aw w σ (aq σ H) m m')(hk:aw w σ (aq σ H) k k')(hv:aw w σ (aq σ H) v v'){H':aa}(h:bW P H t m k v=some H'):
  ∃w',(Instr.mapUpdate t m' k' v').run P w=.ok () w'∧ay w' σ H'∧bV w σ (aq σ H) w' σ (aq σ H'):=by
 unfold bW at h
 split at h
 ·rename_i kt et c s hu
  split at h
  ·rename_i x hku hx
   split at h
   ·rename_i hc
    cases h
    obtain⟨hkeys,hkon⟩:=hc
    obtain⟨pl,es,clk,rfl,hs,hb1,hps,hxs,hn,hb,hrows⟩:=hm.mp_inv hW hx
    obtain⟨ba,rfl,rfl⟩:=n4 hk
    have hkv:=rt hv hkon
    have hck:=fun e=>MapKept.run_checkKey (P:=P) (w:=w) (k:=.string ba) hku trivial e 9999
    rcases fh es.toList x.rows 0 hrows hkeys with⟨g1,g2⟩ | ⟨j,e,v0,g1,g2,g3,g4,g5⟩
    ·rw[g2]
     refine⟨_,by simp[Instr.mapUpdate,run_underlying hu,MapKept.run_getObj_map hb,hck,MapKept.run_findKey hku g1,MapKept.run_setObj_map _ hb,Result.andThen];rfl,u7 hW hx hs hb (by intros;simp) hn ⟨hxs,hps,.inl ⟨hb1,_,_,(MapKept.heap_set hb).1,?_⟩⟩⟩
     simp only[Array.toList_push,List.map_append,List.map_cons,List.map_nil,hrows]
     rw[qI (k:=.str ba.data.toList) (v:=v) rfl hkv]
    ·have hj:es[j]? =some e:=by simpa using g3
     simp only[Nat.zero_add]at g1 g2
     rw[g2]
     refine⟨_,by simp[Instr.mapUpdate,run_underlying hu,MapKept.run_getObj_map hb,hck,MapKept.run_findKey hku g1,hj,g5,MapKept.run_keyThatStays (d:=.string) (k:=.string ba) trivial,MapKept.run_setObj_map _ hb,Result.andThen];rfl,u7 hW hx hs hb (by intros;simp) hn ⟨hxs,hps,.inl ⟨hb1,_,_,(MapKept.heap_set hb).1,?_⟩⟩⟩
     simp only[Array.toList_modify]
     refine List.ext_getElem? fun i=>?_
     have hi:=congrArg (fun l=>l[i]?) hrows
     simp only[List.getElem?_map]at hi
     rw[List.getElem?_map,List.getElem?_map,List.getElem?_modify,List.getElem?_set]
     by_cases hij:j=i
     ·subst hij
      have hl:j<x.rows.length:=by
       have:=(List.getElem?_eq_some_iff.1 g3).1
       have h2:=congrArg List.length hrows
       simp at h2 this
       omega
      rw[if_pos rfl,if_pos hl,g3]
      simp only[Option.map_some,Option.map_eq_map]
      rw[qI (k:=.str ba.data.toList) (v:=v) rfl hkv]
     ·simp only[if_neg hij]
      rw[show((fun a=>a) <$> es.toList[i]?)=es.toList[i]? from by cases es.toList[i]?<;>rfl]
      exact hi
   ·cases h
  ·cases h
 ·cases h
theorem ru(hW:ay w σ H){it v:AV}{it':Value}(ty:TypeId)(hi:aw w σ (aq σ H) it it'){H':aa}(h:dg H it=some (v,H')):
  ∃v' w',(Instr.next it' true ty).run P w=.ok v' w'∧aw w' σ (aq σ H') v v'∧ay w' σ H'∧bV w σ (aq σ H) w' σ (aq σ H'):=by
 unfold dg at h
 split at h
 ·rename_i c
  split at h
  ·rename_i x hx
   obtain⟨pl,s,pos,rfl,hs,hb2,hps,hxs,hn,hb,hrows⟩:=hi.it_inv hW hx
   rw[hrows]at h
   simp only[]at h
   have hlen:s.data.toList.length=s.size:=Array.length_toList
   have hsz:(⟨s.data.toList.toArray⟩:ByteArray)=s:=by obtain⟨d⟩:=s;simp
   split at h
   ·rename_i hp
    cases h
    have hp':pos<s.size:=by omega
    rw[hsz,Int.toNat_natCast]
    refine⟨_,_,Lib.run_next_any_at w pl.block s pos ty hb hp',xD (.bool true) (.int _ _) (.int _ _),u7 hW hx hs hb (by intros;simp) hn ⟨hxs,hps,.inr ⟨hb2,s,_,(MapKept.heap_set hb).1,rfl⟩⟩⟩
   ·rename_i hp
    cases h
    exact⟨_,w,Lib.run_next_end_at w pl.block s pos ty hb (by omega),xC (.bool false),hW,bV.refl _ _ _⟩
  ·cases h
 ·cases h
end
end Go.Proofs.YtelgfgfgghpjgaaGreatDoor.Am
end
section
namespace Go.Proofs.YtelgfgfgghpjgaaGreatDoor.Am
set_option linter.unusedVariables false
section
variable {P:Program} {F:TypeId→Option (List TypeId)} {w:World} {σ:aC} {H:aa} {b:Nat}
def aB(P:Program)(s:Sem Next)(w:World)(σ:aC)(H:aa)(b:Nat)(v:AV)(H':aa):Prop:=
 ∃v' w' σ',(s.run P w=.ok (.value v') w'∨(s.run P w=.ok .skip w'∧v'=undef))∧aw w' σ' (aq σ' H') v v'∧ay w' σ' H'∧bV w σ (aq σ H) w' σ' (aq σ' H')∧∀c pl,σ' c=some pl→σ c=some pl∨c=b
theorem aB.of_done{s:Sem Value}{v:AV}{H':aa}(h:nt P s w σ H b v H'):aB P (do pure (.value (←s))) w σ H b v H':=by
 obtain⟨v',w',σ',h1,h2⟩:=h
 exact⟨v',w',σ',.inl (by simp[h1]),h2⟩
theorem aB.of_val{s:Sem Value}{v:AV}(hW:ay w σ H)(h:∃v',s.run P w=.ok v' w∧aw w σ (aq σ H) v v'):aB P (do pure (.value (←s))) w σ H b v H:=by
 obtain⟨v',h1,h2⟩:=h
 exact⟨v',w,σ,.inl (by simp[h1]),h2,hW,bV.refl _ _ _,fun c pl hc=>.inl hc⟩
theorem aB.pure{s:Sem Next}{v:AV}{v':Value}(hW:ay w σ H)(h:s.run P w=.ok (.value v') w)(hr:aw w σ (aq σ H) v v'):aB P s w σ H b v H:=
 ⟨v',w,σ,.inl h,hr,hW,bV.refl _ _ _,fun c pl hc=>.inl hc⟩
theorem cf{r:Option AV}{v:AV}{H H':aa}(h:(r.map fun x=>ck.val x H)=some (.val v H')):r=some v∧H'=H:=by
 cases r with
 | none=>cases h
 | some x=>simp only[Option.map_some,Option.some.injEq,ck.val.injEq]at h;exact⟨by rw[h.1],h.2.symm⟩
theorem u9{ρ:Operand→AV}{ρ':Operand→Value}(hρ:∀x,aw w σ (aq σ H) (ρ x) (ρ' x))(x:Option Operand):pZ w σ (aq σ H) (x.map ρ) (x.map ρ'):=by
 cases x with
 | none=>trivial
 | some a=>exact hρ a
theorem hU{α β:Type}{f:α→β}{l:List α}{x:β}(h:l.map f=[x]):∃a,l=[a]∧f a=x:=by
 match l,h with
 | [a],h=>exact⟨a,rfl,by simpa using h⟩
 | [],h=>simp at h
 | _::_::_,h=>simp at h
theorem hY{α β:Type}{f:α→β}{l:List α}{x y:β}(h:l.map f=[x,y]):∃a b,l=[a,b]∧f a=x∧f b=y:=by
 match l,h with
 | [a,b],h=>exact⟨a,b,rfl,by simpa using h⟩
 | [],h=>simp at h
 | [_],h=>simp at h
 | _::_::_::_,h=>simp at h
theorem nu(hW:ay w σ H)(hb:σ b=none)(hlt:b<H.next){ρ:Operand→AV}{ρ':Operand→Value}(hρ:∀x,aw w σ (aq σ H) (ρ x) (ρ' x)){op:Builtin}{args:List Operand}{types:List TypeId}{ty:TypeId}{cn:Array Bool}{v:AV}{H':aa}
  (h:av P H b op types.toArray (args.map ρ)=some (v,H')):aB P (builtin op types.toArray ty cn (args.toArray.map ρ')) w σ H b v H':=by
 unfold av at h
 split at h
 ·rename_i s heq
  obtain⟨a0,rfl,h0⟩:=hU heq
  split at h
  ·rename_i hty
   cases h
   have hr:=hρ a0
   rw[h0]at hr
   generalize he:ρ' a0=x' at hr
   cases hr with
   | str ba=>
   have hlen:ba.data.toList.length=ba.size:=Array.length_toList
   cases htt:types[0]? with
   | none=>simp[htt]at hty
   | some t=>
   have hu:P.underlying t=some .string:=by simpa[htt]using hty
   refine aB.pure hW (v':=.int .i64 ba.size) ?_ (by rw[hlen];exact .int _ _)
   simp[builtin,Builtin.len_,htt,he,run_underlying hu,goInt]
  ·cases h
 ·rename_i x hne heq
  obtain⟨a0,rfl,h0⟩:=hU heq
  have hr:=hρ a0
  rw[h0]at hr
  cases htt:types[0]? with
  | none=>simp[htt]at h
  | some t=>
   simp only[List.getElem?_toArray,htt,Option.bind_some]at h
   split at h
   ·rename_i e hu
    cases hl:pX x with
    | none=>rw[hl]at h;cases h
    | some n=>
     rw[hl]at h
     cases h
     have hv:∃A c,ρ' a0=.slice A n c:=by
      unfold pX at hl
      split at hl
      ·cases hl;generalize ρ' a0=y at hr;cases hr;exact⟨_,_,rfl⟩
      ·cases hl;generalize ρ' a0=y at hr;cases hr;exact⟨_,_,rfl⟩
      ·cases hl;obtain⟨A,c,h1,_⟩:=hr.lst_inv;exact⟨A,c,h1⟩
      ·cases hl;obtain⟨_,a,c,h1,_⟩:=hr.sl_inv;exact⟨_,c,h1⟩
      ·cases hl
     obtain⟨A,c,hv⟩:=hv
     refine aB.pure hW (v':=.int .i64 n) ?_ (.int _ _)
     simp[builtin,Builtin.len_,htt,hv,run_underlying hu,goInt]
   ·rename_i n e hu
    cases h
    refine aB.pure hW (v':=.int .i64 n) ?_ (.int _ _)
    simp[builtin,Builtin.len_,htt,run_underlying hu,goInt]
   ·cases h
 ·rename_i s x heq
  obtain⟨a0,a1,rfl,h0,h1⟩:=hY heq
  split at h
  ·rename_i t tx htt
   split at h
   ·rename_i e' hu
    simp only[]at htt
    subst htt
    have hs:=hρ a0
    have hx:=hρ a1
    rw[h0]at hs
    rw[h1]at hx
    have:=aB.of_done (oW (ty:=ty) hW hb hlt hx hs hu h)
    simpa[builtin]using this
   ·cases h
  ·cases h
 ·rename_i k a k' c heq
  obtain⟨a0,a1,rfl,h0,h1⟩:=hY heq
  split at h
  ·rename_i hk
   subst hk
   cases h
   have hs:=hρ a0
   have hx:=hρ a1
   rw[h0]at hs
   rw[h1]at hx
   generalize e0:ρ' a0=y0 at hs
   generalize e1:ρ' a1=y1 at hx
   cases hs
   cases hx
   exact aB.pure hW (v':=.int k (if c<a then c else a)) (by simp[builtin,Builtin.min_,Builtin.min2,e0,e1]) (.int _ _)
  ·cases h
 ·rename_i k a k' c heq
  obtain⟨a0,a1,rfl,h0,h1⟩:=hY heq
  split at h
  ·rename_i hk
   subst hk
   cases h
   have hs:=hρ a0
   have hx:=hρ a1
   rw[h0]at hs
   rw[h1]at hx
   generalize e0:ρ' a0=y0 at hs
   generalize e1:ρ' a1=y1 at hx
   cases hs
   cases hx
   exact aB.pure hW (v':=.int k (if c > a then c else a)) (by simp[builtin,Builtin.max_,Builtin.max2,e0,e1]) (.int _ _)
  ·cases h
 ·rename_i x heq
  obtain⟨a0,rfl,h0⟩:=hU heq
  split at h
  ·rename_i t htt
   simp only[]at htt
   subst htt
   cases hc:b6 P H t x with
   | none=>rw[hc]at h;cases h
   | some K=>
    rw[hc]at h
    cases h
    have hx:=hρ a0
    rw[h0]at hx
    have:=aB.of_done (qb (ty:=ty) (b:=b) hW hx hc)
    simpa[builtin]using this
  ·cases h
 ·cases h
theorem nE(fit:p7 P F)(hW:ay w σ H)(hb:σ b=none)(hlt:b<H.next){o:Oper}{ρ:Operand→AV}{ρ':Operand→Value}(hρ:∀x,aw w σ (aq σ H) (ρ x) (ρ' x)){v:AV}{H':aa}
  (h:ao P F o.op ρ b H=some (.val v H')):aB P (execOp ρ' o) w σ H b v H':=by
 obtain⟨dst,op,ty,pos,after,guard⟩:=o
 simp only[]at h
 cases op with
 | move x=>simp only[ao,Option.some.injEq,ck.val.injEq]at h;obtain⟨rfl,rfl⟩:=h;exact aB.pure hW rfl (hρ x)
 | assign x=>simp only[ao,Option.some.injEq,ck.val.injEq]at h;obtain⟨rfl,rfl⟩:=h;exact aB.pure hW rfl (hρ x)
 | pick c x y=>
  simp only[ao]at h
  split at h
  ·rename_i t hc
   simp only[Option.some.injEq,ck.val.injEq]at h
   obtain⟨rfl,rfl⟩:=h
   have:=hρ c
   rw[hc]at this
   generalize hc':ρ' c=c' at this
   cases this
   refine aB.pure hW (v':=if t then ρ' x else ρ' y) (by simp[execOp,hc',asBool]) ?_
   cases t
   ·exact hρ y
   ·exact hρ x
  ·cases h
 | alloc t=>
  simp only[ao]at h
  split at h
  ·rename_i cs hcs
   simp only[Option.some.injEq,ck.val.injEq]at h
   obtain⟨rfl,rfl⟩:=h
   exact aB.of_done (p8 hW hb hlt hcs)
  ·cases h
 | box t x=>
  simp only[ao]at h
  split at h
  ·rename_i cs hcs
   split at h
   ·simp only[Option.some.injEq,ck.val.injEq]at h
    obtain⟨rfl,rfl⟩:=h
    exact aB.of_done (oV hW hb hlt (hρ x) hcs)
   ·cases h
  ·cases h
 | build t parts=>simp only[ao]at h;obtain⟨h1,rfl⟩:=cf h;exact aB.of_val hW (oU hρ h1)
 | buildSlice t len parts=>
  simp only[ao]at h
  split at h
  ·rename_i e hu
   split at h
   ·rename_i n z hn hz
    split at h
    ·rename_i hc
     obtain⟨c1,c2,c3⟩:=hc
     cases hf:bC n (List.replicate len z) (parts.toList.map fun p=>(p.1,ρ p.2))with
     | none=>rw[hf]at h;cases h
     | some rows=>
      rw[hf]at h
      simp only[Option.map_some,Option.some.injEq,ck.val.injEq]at h
      obtain⟨rfl,rfl⟩:=h
      exact aB.of_done (lk hW hb hlt hρ hu hn hz c1 c2 c3 hf)
    ·cases h
   ·cases h
  ·cases h
 | load t a=>simp only[ao]at h;obtain⟨h1,rfl⟩:=cf h;exact aB.of_val hW (lM hW (hρ a) h1)
 | store t a x=>
  simp only[ao]at h
  cases hs:cq P H t (ρ a) (ρ x)with
  | none=>rw[hs]at h;cases h
  | some K=>
   rw[hs]at h
   simp only[Option.map_some,Option.some.injEq,ck.val.injEq]at h
   obtain⟨rfl,rfl⟩:=h
   obtain⟨w',h1,h2,h3⟩:=p9 hW (hρ a) (hρ x) hs
   exact⟨undef,w',σ,.inr ⟨by simp[execOp,h1],rfl⟩,.tup [] [] rfl (by simp),h2,h3,fun c pl hc=>.inl hc⟩
 | nilCheck x=>
  simp only[ao]at h
  have hx:=hρ x
  split at h<;>(try (cases h;done))<;>(rename_i heq;simp only[Option.some.injEq,ck.val.injEq]at h;obtain⟨rfl,rfl⟩:=h;rw[heq]at hx;generalize he:ρ' x=x' at hx;have hx2:=hx;cases hx2;exact aB.pure hW (by simp only[execOp,he];rfl) hx)
 | binOp op t x y yt=>simp only[ao]at h;obtain⟨h1,rfl⟩:=cf h;exact aB.of_val hW (rq fit.flat (hρ x) (hρ y) h1)
 | unOp op t x=>simp only[ao]at h;obtain⟨h1,rfl⟩:=cf h;exact aB.of_val hW (sd (hρ x) h1)
 | convert s d x=>simp only[ao]at h;obtain⟨h1,rfl⟩:=cf h;exact aB.of_val hW (pY (hρ x) h1)
 | makeFunc fn first cap=>
  cases fn with
  | func f=>
   simp only[ao]at h
   split at h
   ·rename_i hf
    simp only[Option.some.injEq,ck.val.injEq]at h
    obtain⟨rfl,rfl⟩:=h
    have e:first=#[]:=Array.eq_empty_of_size_eq_zero hf
    subst e
    refine aB.pure hW (v':=.func (.func f) #[] (cap.toList.map ρ').toArray) (by simp[execOp,Instr.makeFunc];apply Array.ext';simp) (.fn f _ _ (by simp) fun i a v h1 h2=>?_)
    rw[List.getElem?_map]at h1 h2
    cases hc:cap.toList[i]? with
    | none=>rw[hc]at h1;cases h1
    | some q=>rw[hc]at h1 h2;cases h1;cases h2;exact hρ q
   ·cases h
  | _=>simp[ao]at h
 | makeSlice t l c=>
  simp only[ao]at h
  split at h
  ·rename_i e hu
   split at h
   ·rename_i n by_ z l' c' hn hby hz hl hc
    split at h
    ·rename_i hcond
     obtain⟨c1,c2,c3,c4,c5⟩:=hcond
     simp only[Option.some.injEq,ck.val.injEq]at h
     obtain⟨rfl,rfl⟩:=h
     exact aB.of_done (lO hW hb hlt (hρ l) (hρ c) hu hn hby hz hl hc c1 c2 c3 c4 c5)
    ·cases h
   ·cases h
  ·cases h
 | slice t x lo hi mx=>
  simp only[ao]at h
  split at h
  ·cases h
  ·rename_i hcond
   obtain⟨h1,rfl⟩:=cf h
   refine aB.of_val hW (oT hW (hρ x) (u9 hρ lo) (u9 hρ hi) (u9 hρ mx) (fun hh=>?_) h1)
   cases hi with
   | none=>cases mx with
    | none=>rfl
    | some m=>simp at hcond
   | some q=>simp at hh
 | fieldAddr s x f=>simp only[ao]at h;obtain⟨h1,rfl⟩:=cf h;exact aB.of_val hW (lh (hρ x) h1)
 | field s x f=>simp only[ao]at h;obtain⟨h1,rfl⟩:=cf h;exact aB.of_val hW (oQ (hρ x) h1)
 | indexAddr t x ix=>simp only[ao]at h;obtain⟨h1,rfl⟩:=cf h;exact aB.of_val hW (lj hW (hρ x) (hρ ix) h1)
 | index t x ix=>simp only[ao]at h;obtain⟨h1,rfl⟩:=cf h;exact aB.of_val hW (oR (hρ x) (hρ ix) h1)
 | extract x i=>
  simp only[ao]at h
  split at h
  ·rename_i vs hx
   obtain⟨h1,rfl⟩:=cf h
   have:=hρ x
   rw[hx]at this
   generalize he:ρ' x=x' at this
   cases this with
   | tup _ us hl hr=>
   have hi:=ah h1
   have hi':i<us.length:=by omega
   exact aB.pure hW (v':=us[i]) (by simp[execOp,he,Instr.extract,hi']) (hr i v _ h1 (List.getElem?_eq_getElem hi'))
  ·cases h
 | makeMap t r=>
  cases r with
  | some r=>simp[ao]at h
  | none=>
   simp only[ao,Option.some.injEq,ck.val.injEq]at h
   obtain⟨rfl,rfl⟩:=h
   refine aB.of_done (nD hW hb hlt (k:=1) (o:=.map #[] 0) (by intros;simp) ⟨rfl,rfl,.inl ⟨rfl,#[],0,by show(w.heap.push _)[w.heap.size]? =_;simp,rfl⟩⟩ (by decide) rfl fun w2 T=>.mp b _ (aC.set_eq _ _ _) rfl rfl)
 | lookup t m k ok=>simp only[ao]at h;obtain⟨h1,rfl⟩:=cf h;exact aB.of_val hW (n6 hW (hρ m) (hρ k) h1)
 | mapUpdate t m k x=>
  simp only[ao]at h
  cases hs:bW P H t (ρ m) (ρ k) (ρ x)with
  | none=>rw[hs]at h;cases h
  | some K=>
   rw[hs]at h
   simp only[Option.map_some,Option.some.injEq,ck.val.injEq]at h
   obtain⟨rfl,rfl⟩:=h
   obtain⟨w',h1,h2,h3⟩:=oY hW (hρ m) (hρ k) (hρ x) hs
   exact⟨undef,w',σ,.inr ⟨by simp[execOp,h1],rfl⟩,.tup [] [] rfl (by simp),h2,h3,fun c pl hc=>.inl hc⟩
 | range t x=>
  simp only[ao]at h
  split at h
  ·rename_i s hu hx
   simp only[Option.some.injEq,ck.val.injEq]at h
   obtain⟨rfl,rfl⟩:=h
   have:=hρ x
   rw[hx]at this
   obtain⟨ba,he,rfl⟩:=n4 this
   refine aB.of_done (s:=Instr.range t (ρ' x)) (nD hW hb hlt (k:=2) (o:=.stringIter ba 0) (by intros;simp) ⟨rfl,rfl,.inr ⟨rfl,ba,0,by show(w.heap.push _)[w.heap.size]? =_;simp,rfl⟩⟩ (by decide) (by rw[he];exact run_range_string w t ba hu) fun w2 T=>.it b _ (aC.set_eq _ _ _) rfl rfl)
  ·cases h
 | next it s=>
  cases s with
  | false=>simp[ao]at h
  | true=>
   simp only[ao]at h
   cases hs:dg H (ρ it)with
   | none=>rw[hs]at h;cases h
   | some r=>
    obtain⟨v0,K⟩:=r
    rw[hs]at h
    simp only[Option.map_some,Option.some.injEq,ck.val.injEq]at h
    obtain⟨rfl,rfl⟩:=h
    obtain⟨v',w',h1,h2,h3,h4⟩:=ru (P:=P) hW ty (hρ it) hs
    exact⟨v',w',σ,.inl (by simp[execOp,h1]),h2,h3,h4,fun c pl hc=>.inl hc⟩
 | call c=>
  simp only[ao]at h
  obtain⟨callee,args,types⟩:=c
  obtain⟨args⟩:=args
  obtain⟨types⟩:=types
  simp only[]at h
  split at h
  ·rename_i bi
   cases hbi:av P H b bi types.toArray (args.map ρ)with
   | none=>rw[hbi]at h;cases h
   | some r=>
    obtain⟨v0,K⟩:=r
    rw[hbi]at h
    simp only[Option.map_some,Option.some.injEq,ck.val.injEq]at h
    obtain⟨rfl,rfl⟩:=h
    have key:∀cn,aB P (builtin bi ⟨types⟩ ty cn ((⟨args⟩:Array Operand).map ρ')) w σ H b v0 K:=fun cn=>nu hW hb hlt hρ hbi
    exact key _
  ·rename_i f
   split at h<;>simp at h
  ·cases h
 | _=>simp[ao]at h
theorem oZ(fit:p7 P F){o:Oper}{ρ:Operand→AV}{ρ':Operand→Value}(hρ:∀x,aw w σ (aq σ H) (ρ x) (ρ' x)){g:FuncId}{args:List AV}{fn:Func}{c:Code}
  (h:ao P F o.op ρ b H=some (.call g args)) (hg:P.funcs[g]? =some fn) (hc:fn.body=some c) :
  ∃vs:List Value,(execOp ρ' o).run P w=.ok (.enter g vs.toArray) w∧bk w σ (aq σ H) args vs:=by
 obtain⟨dst,op,ty,pos,after,guard⟩:=o
 simp only[]at h
 cases op with
 | call c=>
  simp only[ao]at h
  obtain⟨callee,qs,types⟩:=c
  obtain⟨qs⟩:=qs
  simp only[]at h
  split at h
  ·rename_i bi
   cases hbi:av P H b bi types (qs.map ρ)with
   | none=>rw[hbi]at h;cases h
   | some r=>rw[hbi]at h;cases h
  ·rename_i f
   split at h
   ·rename_i g' cs hf
    simp only[Option.some.injEq,ck.call.injEq]at h
    obtain⟨rfl,rfl⟩:=h
    have:=hρ f
    rw[hf]at this
    generalize he:ρ' f=f' at this
    cases this with
    | fn _ _ us hl hr=>
    have hnm : ¬ fn.name = "runtime.NumGoroutine" := fit.names _ _ hg
    refine⟨qs.map ρ'++us,?_,by simp[hl],fun i a v h1 h2=>?_⟩
    ·simp[execOp,resolve,he,Deferred.ofValue,invoke,callFunc,hg,hnm,hc]
    ·rcases Nat.lt_or_ge i qs.length with hi | hi
     ·rw[List.getElem?_append_left (by simpa using hi),List.getElem?_map]at h1 h2
      rw[List.getElem?_eq_getElem hi]at h1 h2
      cases h1
      cases h2
      exact hρ _
     ·rw[List.getElem?_append_right (by simpa using hi)]at h1 h2
      simp only[List.length_map]at h1 h2
      exact hr _ a v h1 h2
   ·cases h
  ·cases h
 | makeFunc fn first cap=>cases fn<;>simp only[ao]at h<;>(try split at h)<;>simp at h
 | makeMap t r=>cases r<;>simp[ao]at h
 | next it s=>cases s<;>simp[ao]at h
 | _=>
  exfalso
  simp only[ao]at h
  repeat' (first | (cases h;done) | (simp at h;done) | split at h)
end
end Go.Proofs.YtelgfgfgghpjgaaGreatDoor.Am
end
section
namespace Go.Proofs.YtelgfgfgghpjgaaGreatDoor.Am
set_option linter.unusedVariables false
def aQ(w:World)(σ:aC)(T:Nat→Prop)(τ:List AV)(a:Act):Prop:=bk w σ T τ a.tmps.toList∧a.defers=[]
theorem aQ.mono{w w':World}{σ σ':aC}{T T':Nat→Prop}(e:bV w σ T w' σ' T'){τ:List AV}{a:Act}(h:aQ w σ T τ a):aQ w' σ' T' τ a:=⟨h.1.mono e,h.2⟩
section
variable {P:Program} {F:TypeId→Option (List TypeId)} {w:World} {σ:aC} {T:Nat→Prop}
theorem eQ:aw w σ T aA undef:=.tup [] [] rfl (by simp)
theorem aQ.eval{τ:List AV}{a:Act}(h:aQ w σ T τ a)(hG:de w T)(x:Operand):aw w σ T (dU τ x) (a.eval x):=by
 cases x with
 | tmp t=>
  simp only[dU,Act.eval]
  have hl:=h.1.1
  simp only[Array.length_toList]at hl
  rcases Nat.lt_or_ge t τ.length with ht | ht
  ·have e1:τ.getD t aA=τ[t]:=by simp[List.getD,ht]
   have ht':t<a.tmps.size:=hl▸ht
   have e2:a.tmps.getD t undef=a.tmps[t]:=by simp[Array.getD,ht']
   rw[e1,e2]
   exact h.1.2 t _ _ (List.getElem?_eq_getElem ht) (by rw[Array.getElem?_toList,Array.getElem?_eq_getElem ht'])
  ·have e1:τ.getD t aA=aA:=by simp[List.getD,List.getElem?_eq_none ht]
   have ht':¬t<a.tmps.size:=Nat.not_lt.2 (hl▸ht)
   have e2:a.tmps.getD t undef=undef:=by simp[Array.getD,ht']
   rw[e1,e2]
   exact eQ
 | const v=>
  simp only[dU,Act.eval]
  cases hv:r9 v with
  | none=>exact .junk _
  | some a=>exact oP hv
 | global g=>exact hG.rep g
 | func f=>exact .fn f [] [] rfl (by simp)
theorem aQ.put{τ:List AV}{a:Act}(h:aQ w σ T τ a)(dst:Option Tmp){v:AV}{v':Value}(hv:aw w σ T v v'):aQ w σ T (cp τ dst v) (a.put dst v'):=by
 cases dst with
 | none=>exact h
 | some d=>
  refine⟨⟨by simpa[cp,Act.put]using h.1.1,fun i x u h1 h2=>?_⟩,h.2⟩
  simp only[cp,Act.put,Array.toList_setIfInBounds,List.getElem?_set]at h1 h2
  by_cases hd:d=i
  ·subst hd
   simp only[if_true]at h1 h2
   split at h1
   ·split at h2
    ·cases h1;cases h2;exact hv
    ·cases h2
   ·cases h1
  ·rw[if_neg hd]at h1 h2
   exact h.1.2 i x u h1 h2
theorem dx{ops:Array Oper}{o:Oper}{τ:List AV}{a:Act}{t:Bool}(h:aQ w σ T τ a)(hw:bl ops o τ=some t):Region.wanted o (yielded ops a.tmps)=t:=by
 unfold bl at hw
 unfold Region.wanted
 split at hw
 ·rename_i hg;cases hw;rw[hg]
 ·rename_i j want hg
  rw[hg]
  simp only[]
  unfold yielded
  split at hw
  ·rename_i d hd
   rw[hd]
   simp only[Option.bind_some]
   have get:∀x,τ[d]? =some x→∃u,a.tmps[d]? =some u∧aw w σ T x u:=fun x hx=>by
    have hl:=h.1.1
    simp only[Array.length_toList]at hl
    have hlt:=ah hx
    exact⟨a.tmps[d],Array.getElem?_eq_getElem (by omega),h.1.2 d x _ hx (by rw[Array.getElem?_toList,Array.getElem?_eq_getElem (by omega)])⟩
   split at hw
   ·rename_i b hb
    obtain⟨u,h1,h2⟩:=get _ hb
    rw[h1]
    cases h2
    cases hw
    rfl
   ·rename_i hb
    obtain⟨u,h1,h2⟩:=get _ hb
    rw[h1]
    cases hw
    cases h2 with
    | tup _ vs hl hr=>
    have:vs=[]:=by cases vs with
     | nil=>rfl
     | cons x l=>simp at hl
    subst this
    rfl
   ·cases hw
  ·cases hw
end
def gy(P:Program)(f:FuncId)(args:List AV)(H:aa)(v:AV)(H':aa):Prop:=
 ∀(w:World) (σ:aC) (vs:List Value),ay w σ H→bk w σ (aq σ H) args vs→Calls P f vs.toArray w fun e w'=>
  ∃v' σ',e=.returned v'∧aw w' σ' (aq σ' H') v v'∧ay w' σ' H'∧bV w σ (aq σ H) w' σ' (aq σ' H')∧∀c pl,σ' c=some pl→σ c=some pl∨H.next≤c
structure bY(P:Program)(call:FuncId→List AV→aa→Option (AV×aa)):Prop where
 ok:∀f args H v H',call f args H=some (v,H')→gy P f args H v H'
 next:∀f args H v H',call f args H=some (v,H')→H.next≤H'.next
 body:∀f args H v H',call f args H=some (v,H')→∃fn c,P.funcs[f]? =some fn∧fn.body=some c
def jA(w:World)(σ:aC)(H:aa)(τ':List AV)(H':aa)(a':Act)(w':World):Prop:=
 ∃σ',aQ w' σ' (aq σ' H') τ' a'∧ay w' σ' H'∧bV w σ (aq σ H) w' σ' (aq σ' H')∧∀c pl,σ' c=some pl→σ c=some pl∨H.next≤c
section
variable {P:Program} {F:TypeId→Option (List TypeId)} {call:FuncId→List AV→aa→Option (AV×aa)} {ops:Array Oper} {base:Nat} {Q:Exit→Act→World→Prop}
theorem lR{o:Op}{ρ:Operand→AV}{b:Nat}{H H':aa}{v:AV}(h:ao P F o ρ b H=some (.val v H')):H'.next=H.next:=by
 cases o with
 | store t a x=>
  simp only[ao]at h
  cases hs:cq P H t (ρ a) (ρ x)with
  | none=>rw[hs]at h;cases h
  | some K=>
   rw[hs]at h
   cases h
   unfold cq at hs
   repeat' (first | (cases hs;rfl) | (cases hs;done) | split at hs)
 | call c=>
  simp only[ao]at h
  split at h
  ·rename_i bi _
   cases hbi:av P H b bi c.argTypes (c.args.toList.map ρ)with
   | none=>rw[hbi]at h;cases h
   | some r=>
    obtain⟨v0,K⟩:=r
    rw[hbi]at h
    cases h
    unfold av at hbi
    split at hbi
    ·repeat' (first | (cases hbi;rfl) | (cases hbi;done) | split at hbi)
    ·split at hbi
     ·rw[Option.map_eq_some_iff]at hbi
      obtain⟨n,_,hn⟩:=hbi
      cases hn
      rfl
     ·cases hbi;rfl
     ·cases hbi
    ·split at hbi
     ·split at hbi
      ·unfold aV at hbi
       repeat' (first | (cases hbi;rfl) | (cases hbi;done) | split at hbi)
      ·cases hbi
     ·cases hbi
    ·repeat' (first | (cases hbi;rfl) | (cases hbi;done) | split at hbi)
    ·repeat' (first | (cases hbi;rfl) | (cases hbi;done) | split at hbi)
    ·split at hbi
     ·rw[Option.map_eq_some_iff]at hbi
      obtain⟨K1,hk,hn⟩:=hbi
      cases hn
      unfold b6 at hk
      repeat' (first | (cases hk;rfl) | (cases hk;done) | split at hk)
     ·cases hbi
    ·cases hbi
  ·split at h<;>cases h
  ·cases h
 | makeFunc fn first cap=>cases fn<;>simp only[ao]at h<;>(try split at h)<;>cases h<;>rfl
 | makeMap t r=>
  cases r with
  | none=>simp only[ao]at h;cases h;rfl
  | some r=>simp[ao]at h
 | mapUpdate t m k x=>
  simp only[ao]at h
  cases hs:bW P H t (ρ m) (ρ k) (ρ x)with
  | none=>rw[hs]at h;cases h
  | some K=>rw[hs]at h;cases h;obtain⟨c,y,y',_,_,rfl,_⟩:=fi hs;rfl
 | next it s=>
  cases s with
  | false=>simp[ao]at h
  | true=>
   simp only[ao]at h
   cases hs:dg H (ρ it)with
   | none=>rw[hs]at h;cases h
   | some r=>
    obtain⟨v0,K⟩:=r
    rw[hs]at h
    cases h
    obtain⟨c,y,_,_,⟨rfl,_⟩ | ⟨y',rfl,_⟩⟩:=jz hs<;>rfl
 | buildSlice t len parts=>
  simp only[ao]at h
  split at h
  ·split at h
   ·split at h
    ·rename_i n z _ _ _
     cases hf:bC n (List.replicate len z) (parts.toList.map fun p=>(p.1,ρ p.2))with
     | none=>rw[hf]at h;cases h
     | some rows=>rw[hf]at h;cases h;rfl
    ·cases h
   ·cases h
  ·cases h
 | _=>
  simp only[ao]at h
  first
   | (obtain⟨_,rfl⟩:=cf h;rfl)
   | (repeat' (first | (cases h;rfl) | (cases h;done) | (obtain⟨_,rfl⟩:=cf h;rfl) | split at h))
theorem fj(hc:bY P call){i:Nat}{τ τ':List AV}{H H':aa}(h:d8 P F call ops base i τ H=some (τ',H')):H.next≤H'.next:=by
 unfold d8 at h
 split at h
 ·cases h
 ·split at h
  ·split at h
   ·rename_i hop;cases h;rw[lR hop];exact Nat.le_refl _
   ·split at h
    ·rename_i hcall;cases h;exact hc.next _ _ _ _ _ hcall
    ·cases h
   ·cases h
  ·cases h;exact Nat.le_refl _
  ·cases h
theorem o0(fit:p7 P F)(hc:bY P call){i:Nat}{τ τ':List AV}{H H':aa}{w:World}{σ:aC}{a:Act}(h:d8 P F call ops base i τ H=some (τ',H'))(hW:ay w σ H)(hτ:aQ w σ (aq σ H) τ a)
  (hb:σ (base+i)=none) (hlt:base+i<H.next) {K:Act→World→Prop}
  (hK:∀a' w' σ',aQ w' σ' (aq σ' H') τ' a'→ay w' σ' H'→bV w σ (aq σ H) w' σ' (aq σ' H')→(∀c pl,σ' c=some pl→σ c=some pl∨c=base+i∨H.next≤c)→K a' w'):wpOp P ops Q i K a w:=by
 unfold d8 at h
 split at h
 ·cases h
 ·rename_i o ho
  unfold wpOp
  rw[ho]
  simp only[]
  split at h
  ·rename_i hwant
   rw[if_pos (dx hτ hwant)]
   left
   unfold Oper.wp
   split at h
   ·rename_i v K' hop
    cases h
    obtain⟨v',w',σ',h1,h2,h3,h4,h5⟩:=nE fit hW hb hlt (o:=o) (hτ.eval hW.glob) hop
    have hk:=hK (a.put o.dst v') w' σ' ((hτ.mono h4).put o.dst h2) h3 h4 (fun c pl hcp=>by
     rcases h5 c pl hcp with h6 | h6
     ·exact .inl h6
     ·exact .inr (.inl h6))
    rcases h1 with h1 | ⟨h1,rfl⟩
    ·rw[h1];exact hk
    ·rw[h1];exact hk
   ·rename_i f args hop
    split at h
    ·rename_i v K' hcall
     cases h
     obtain⟨fn,c,hf,hbd⟩:=hc.body _ _ _ _ _ hcall
     obtain⟨vs,h1,h2⟩:=oZ fit (o:=o) (b:=base+i) (hτ.eval hW.glob) hop hf hbd
     rw[h1]
     refine(hc.ok _ _ _ _ _ hcall w σ vs hW h2).mono ?_
     rintro e w' ⟨v',σ',rfl,g1,g2,g3,g4⟩
     exact hK (a.put o.dst v') w' σ' ((hτ.mono g3).put o.dst g1) g2 g3 (fun c pl hcp=>by
      rcases g4 c pl hcp with h6 | h6
      ·exact .inl h6
      ·exact .inr (.inr h6))
    ·cases h
   ·cases h
  ·rename_i hwant
   rw[if_neg (by rw[dx hτ hwant];simp)]
   cases h
   exact hK _ w σ (hτ.put o.dst eQ) hW (bV.refl _ _ _) (fun c pl hcp=>.inl hcp)
  ·cases h
theorem nF(hc:bY P call):∀(l:List Nat) (τ:List AV) (H:aa) (τ':List AV) (H':aa),fW P F call ops base l τ H=some (τ',H')→H.next≤H'.next
 | [],τ,H,τ',H',h=>by cases h;exact Nat.le_refl _
 | i::l,τ,H,τ',H',h=>by
  unfold fW at h
  split at h
  ·rename_i τ1 H1 hs
   exact Nat.le_trans (fj hc hs) (nF hc l _ _ _ _ h)
  ·cases h
theorem lS(fit:p7 P F)(hc:bY P call):∀(l:List Nat) (τ:List AV) (H:aa) (τ':List AV) (H':aa),fW P F call ops base l τ H=some (τ',H')→l.Nodup→∀(w:World) (σ:aC) (a:Act),
  ay w σ H→aQ w σ (aq σ H) τ a→(∀i∈l,σ (base+i)=none∧base+i<H.next)→(∀a' w' σ',aQ w' σ' (aq σ' H') τ' a'→ay w' σ' H'→bV w σ (aq σ H) w' σ' (aq σ' H')→
   (∀c pl,σ' c=some pl→σ c=some pl∨(∃i∈l,c=base+i)∨H.next≤c)→Q .normal a' w')→wpOps P ops Q l a w
 | [],τ,H,τ',H',h,_,w,σ,a,hW,hτ,_,hQ=>by
  cases h
  exact hQ a w σ hτ hW (bV.refl _ _ _) (fun c pl hcp=>.inl hcp)
 | i::l,τ,H,τ',H',h,hnd,w,σ,a,hW,hτ,hfr,hQ=>by
  unfold fW at h
  split at h
  ·rename_i τ1 H1 hs
   rw[wpOps_cons]
   refine o0 fit hc hs hW hτ (hfr i (by simp)).1 (hfr i (by simp)).2 fun a1 w1 σ1 t1 r1 e1 n1=>?_
   have hnd':=List.nodup_cons.1 hnd
   refine lS fit hc l τ1 H1 τ' H' h hnd'.2 w1 σ1 a1 r1 t1 (fun j hj=>?_) (fun a' w' σ' t2 r2 e2 n2=>hQ a' w' σ' t2 r2 (e1.trans e2) (fun c pl hcp=>?_))
   ·have hji:j≠i:=by rintro rfl;exact hnd'.1 hj
    have hj0:=hfr j (by simp[hj])
    refine⟨?_,Nat.lt_of_lt_of_le hj0.2 (fj hc hs)⟩
    cases hs1:σ1 (base+j)with
    | none=>rfl
    | some pl=>
     rcases n1 _ pl hs1 with h1 | h1 | h1
     ·rw[hj0.1]at h1;cases h1
     ·omega
     ·omega
   ·rcases n2 c pl hcp with h1 | ⟨q,hq,rfl⟩ | h1
    ·rcases n1 c pl h1 with h2 | h2 | h2
     ·exact .inl h2
     ·exact .inr (.inl ⟨i,by simp,h2⟩)
     ·exact .inr (.inr h2)
    ·exact .inr (.inl ⟨q,by simp[hq],rfl⟩)
    ·exact .inr (.inr (Nat.le_trans (fj hc hs) h1))
  ·cases h
def qc:Ex→Exit
 | .normal=>.normal
 | .exit id=>.exit id
 | .ret=>.ret
def aT(P:Program)(c:Code)(τ:List AV)(H:aa)(e:Ex)(τ':List AV)(H':aa):Prop:=
 H.next≤H'.next∧∀(w:World) (σ:aC) (a:Act),ay w σ H→aQ w σ (aq σ H) τ a→∀Q:Exit→Act→World→Prop,(∀a' w',jA w σ H τ' H' a' w'→Q (qc e) a' w')→c.wp P Q a w
theorem jA.refl{w:World}{σ:aC}{H:aa}{τ:List AV}{a:Act}(hW:ay w σ H)(hτ:aQ w σ (aq σ H) τ a):jA w σ H τ H a w:=⟨σ,hτ,hW,bV.refl _ _ _,fun c pl h=>.inl h⟩
theorem jB(fit:p7 P F)(hc:bY P call){τ:List AV}{H:aa}{τ':List AV}{H':aa}{id:Nat}(h:cg P F call ops false τ H=some (τ',H')):aT P (.region id ops false) τ H .normal τ' H':=by
 simp only[cg,Bool.false_eq_true,if_false]at h
 refine⟨Nat.le_trans (Nat.le_add_right _ _) (nF hc _ _ _ _ _ h),fun w σ a hW hτ Q hQ=>?_⟩
 have hW1:ay w σ {H with next:=H.next+ops.size}:=hW.congr (fun _=>rfl) (Nat.le_add_right _ _)
 have ho:aq σ {H with next:=H.next+ops.size}=aq σ H:=aq.congr fun _=>rfl
 refine wp_region (lS fit hc _ τ _ τ' H' h List.nodup_range w σ a hW1 (by rw[ho];exact hτ) (fun i hi=>?_) (fun a' w' σ' t r e n=>hQ a' w' ⟨σ',t,r,by rw[ho]at e;exact e,fun c pl hcp=>?_⟩))
 ·rw[List.mem_range]at hi
  refine⟨?_,Nat.add_lt_add_left hi _⟩
  cases hs:σ (H.next+i)with
  | none=>rfl
  | some pl=>have:=hW.named _ pl hs;omega
 ·rcases n c pl hcp with h1 | ⟨i,_,rfl⟩ | h1
  ·exact .inl h1
  ·exact .inr (Nat.le_add_right _ _)
  ·exact .inr (Nat.le_trans (Nat.le_add_right _ _) h1)
theorem jA.trans{w w1 w2:World}{σ σ1:aC}{H H1 H2:aa}{τ2:List AV}{a2:Act}(e:bV w σ (aq σ H) w1 σ1 (aq σ1 H1))(n:∀c pl,σ1 c=some pl→σ c=some pl∨H.next≤c)(hn:H.next≤H1.next)(h:jA w1 σ1 H1 τ2 H2 a2 w2):jA w σ H τ2 H2 a2 w2:=by
 obtain⟨σ2,t,r,e2,n2⟩:=h
 refine⟨σ2,t,r,e.trans e2,fun c pl hc=>?_⟩
 rcases n2 c pl hc with h1 | h1
 ·exact n c pl h1
 ·exact .inr (Nat.le_trans hn h1)
def eR(tmps:Array Value):ResultVar→Sem Value
 | .tmp t=>Pure.pure (tmps.getD t undef)
 | .cell a t=>do loadVar t (←asAddr (tmps.getD a undef))
theorem qd(fn:Func)(tmps:Array Value):results fn tmps=(do let vs←fn.results.mapM (eR tmps);Pure.pure (if h:vs.size=1 then vs[0]else .tuple vs)):=by
 unfold results
 congr 2
theorem n7{w:World}{σ:aC}{H:aa}(hW:ay w σ H){τ:List AV}{a:Act}(hτ:aQ w σ (aq σ H) τ a)(r:ResultVar){v:AV}(h:d9 P τ H r=some v):
  ∃v',(eR a.tmps r).run P w=.ok v' w∧aw w σ (aq σ H) v v':=by
 cases r with
 | tmp t=>cases h;exact⟨_,rfl,hτ.eval hW.glob (.tmp t)⟩
 | cell x t=>
  simp only[d9]at h
  have hx:=hτ.eval hW.glob (.tmp x)
  simp only[dU,Act.eval]at hx
  obtain⟨v',h1,h2⟩:=lM hW hx h
  refine⟨v',?_,h2⟩
  unfold fN at h
  split at h
  ·rename_i heq
   rw[heq]at hx
   simp only[eR]
   generalize a.tmps.getD x undef=u at hx h1
   cases hx
   simpa[Instr.loadAt,Instr.sureAddr,asAddr]using h1
  ·rename_i heq
   rw[heq]at hx
   simp only[eR]
   generalize a.tmps.getD x undef=u at hx h1
   cases hx
   simpa[Instr.loadAt,Instr.sureAddr,asAddr]using h1
  ·cases h
theorem resultList{w:World}{σ:aC}{H:aa}(hW:ay w σ H){τ:List AV}{a:Act}(hτ:aQ w σ (aq σ H) τ a):∀(rs:List ResultVar) (vs:List AV),aL (rs.map (d9 P τ H))=some vs→
  ∃us:List Value,(rs.mapM (eR a.tmps)).run P w=.ok us w∧bk w σ (aq σ H) vs us
 | [],vs,h=>by cases h;exact⟨[],rfl,rfl,by simp⟩
 | r::rs,vs,h=>by
  simp only[List.map_cons]at h
  cases hr:d9 P τ H r with
  | none=>rw[hr]at h;cases h
  | some v=>
   rw[hr]at h
   simp only[aL]at h
   split at h
   ·rename_i l hl
    cases h
    obtain⟨v',h1,h2⟩:=n7 hW hτ r hr
    obtain⟨us,h3,h4⟩:=resultList hW hτ rs l hl
    refine⟨v'::us,?_,by simp[h4.1],fun i x u g1 g2=>?_⟩
    ·rw[List.mapM_cons]
     simp only[Sem.run_bind,h1,Result.andThen_ok,h3,Sem.run_pure]
    ·match i with
     | 0=>cases g1;cases g2;exact h2
     | i+1=>exact h4.2 i x u (by simpa using g1) (by simpa using g2)
   ·cases h
theorem iO{w:World}{σ:aC}{H:aa}(hW:ay w σ H){τ:List AV}{a:Act}(hτ:aQ w σ (aq σ H) τ a){fn:Func}{v:AV}(h:eN P τ H fn.results.toList=some v):
  ∃v',(results fn a.tmps).run P w=.ok v' w∧aw w σ (aq σ H) v v':=by
 unfold eN at h
 rw[qd,Array.mapM_eq_mapM_toList]
 split at h
 ·rename_i v0 hv
  cases h
  obtain⟨us,h1,h2⟩:=resultList hW hτ _ _ hv
  have hl:=h2.1
  match us,hl with
  | [u],_=>
   exact⟨u,by simp[h1],h2.2 0 _ u rfl rfl⟩
 ·rename_i vs hne hv
  cases h
  obtain⟨us,h1,h2⟩:=resultList hW hτ _ _ hv
  have hl:us.length≠1:=by
   rw[←h2.1]
   intro h
   match vs,h with
   | [x],_=>exact hne x rfl
  exact⟨.tuple us.toArray,by simp[h1,hl],.tup _ _ h2.1 h2.2⟩
 ·cases h
theorem jC{ex:Code→List AV→aa→Option (Ex×List AV×aa)}{Good:Code→Prop}(hgood:∀(g:Nat) (fn:Func) (c:Code),P.funcs[g]? =some fn→fn.body=some c→Good c)
  (h:∀c τ H e τ' H',Good c→ex c τ H=some (e,τ',H')→aT P c τ H e τ' H'):bY P (gu P ex):=by
 have key:∀f args H v H',gu P ex f args H=some (v,H')→∃fn c e τ' K,P.funcs[f]? =some fn∧fn.body=some c∧ex c (args++List.replicate (fn.ntmps-args.length) aA) {H with log:=[]}=some (e,τ',K)∧
   (e=.normal∨e=.ret)∧eN P τ' K fn.results.toList=some v∧H'.next=K.next∧∀b,H'.get b=K.get b:=by
  intro f args H v H' hc
  unfold gu at hc
  split at hc
  ·rename_i fn hf
   split at hc
   ·rename_i c hb
    split at hc
    ·cases hc
    ·rename_i e τ' K hne hex
     split at hc
     ·rename_i v0 hr
      cases hc
      refine⟨fn,c,e,τ',K,hf,hb,hex,?_,hr,rfl,fun _=>rfl⟩
      cases e with
      | normal=>exact .inl rfl
      | ret=>exact .inr rfl
      | exit id=>exact absurd rfl (hne id)
     ·cases hc
    ·cases hc
   ·cases hc
  ·cases hc
 refine⟨fun f args H v H' hc=>?_,fun f args H v H' hc=>?_,fun f args H v H' hc=>?_⟩
 ·obtain⟨fn,c,e,τ',K,hf,hb,hex,he,hr,hn,hg⟩:=key f args H v H' hc
  obtain⟨n1,k1⟩:=h _ _ _ _ _ _ (hgood _ _ _ hf hb) hex
  intro w σ vs hW hvs
  have ho:aq σ {H with log:=[]}=aq σ H:=aq.congr fun _=>rfl
  refine calls_of_wp hf hb (k1 w σ _ (hW.congr (fun _=>rfl) (Nat.le_refl _)) ⟨?_,rfl⟩ _ fun a' w' haf=>?_)
  ·rw[ho]
   refine⟨by simp[hvs.1],fun i x u h1 h2=>?_⟩
   simp only[Array.toList_append,Array.toList_replicate]at h2
   rcases Nat.lt_or_ge i args.length with hi | hi
   ·rw[List.getElem?_append_left hi]at h1
    rw[List.getElem?_append_left (by rw[←hvs.1];exact hi)]at h2
    exact hvs.2 i x u h1 h2
   ·rw[List.getElem?_append_right hi,List.getElem?_replicate]at h1
    rw[List.getElem?_append_right (by rw[←hvs.1];exact hi),List.getElem?_replicate]at h2
    split at h1
    ·split at h2
     ·cases h1;cases h2;exact eQ
     ·cases h2
    ·cases h1
  ·obtain⟨σ',t1,r1,e1,m1⟩:=haf
   obtain⟨v',g1,g2⟩:=iO (P:=P) r1 t1 hr
   have hoK:aq σ' H'=aq σ' K:=aq.congr hg
   have hpost:a'.defers=[]∧∃v,(results fn a'.tmps).run P w'=.ok v w'∧∃v' σ',Ending.returned v=.returned v'∧aw w' σ' (aq σ' H') _ v'∧ay w' σ' H'∧bV w σ (aq σ H) w' σ' (aq σ' H')∧∀c pl,σ' c=some pl→σ c=some pl∨H.next≤c:=
    ⟨t1.2,v',g1,v',σ',rfl,by rw[hoK];exact g2,r1.congr hg (by rw[hn];exact Nat.le_refl _),by rw[hoK];rw[ho]at e1;exact e1,m1⟩
   rcases he with rfl | rfl
   ·exact hpost
   ·exact hpost
 ·obtain⟨fn,c,e,τ',K,hf,hb,hex,he,hr,hn,hg⟩:=key f args H v H' hc
  rw[hn]
  exact(h _ _ _ _ _ _ (hgood _ _ _ hf hb) hex).1
 ·obtain⟨fn,c,e,τ',K,hf,hb,_⟩:=key f args H v H' hc
  exact⟨fn,c,hf,hb⟩
end
end Go.Proofs.YtelgfgfgghpjgaaGreatDoor.Am
end
