/- A part of the proof; the statement is proved in the last part. -/
import Derived.Test.YtljkdffikfkcgaaQ1a
import Derived.IntWalk
import Derived.Deep.AppendSrc
import Derived.LoopN
set_option linter.unusedSimpArgs false
set_option linter.unusedVariables false
section
namespace Go.Proofs.Ytljkdffikfkcgaa.Am
section
variable {P:Program} {w:World} {σ:bq} {T:Nat→Prop} {H:ah} {b:Nat}
theorem ka{n:Nat}{ρ:Operand→AV}{ρ':Operand→Value}(hρ:∀x,bl w σ T (ρ x) (ρ' x)):∀(ps:List (Nat×Operand)) (rows r:List (List AV)) (cells':Array Value),
  Flat w σ T rows n cells'.toList→cZ n rows (ps.map fun p=>(p.1,ρ p.2))=some r→
  ∃r':Array Value,Instr.fill (fun i=>some (i*n,n)) cells' (ps.map fun p=>(p.1,ρ' p.2))=some r'∧Flat w σ T r n r'.toList∧r.length=rows.length
 | [],rows,r,cells',hc,h=>by cases h;exact⟨cells',rfl,hc,rfl⟩
 | (i,x)::ps,rows,r,cells',hc,h=>by
  simp only[List.map_cons,cZ]at h
  split at h
  ·rename_i cs hcs
   split at h
   ·rename_i hl
    obtain⟨hl1,hl2,_⟩:=hl
    have hx:=(hρ x).cells hcs
    have e1:(ρ' x).cells.size=n:=by rw[←Array.length_toList,←hx.1,hl1]
    have e2:cells'.size=rows.length*n:=by rw[←Array.length_toList,hc.len]
    have hin:i*n+n≤rows.length*n:=by
     have:(i+1)*n≤rows.length*n:=Nat.mul_le_mul_right _ hl2
     rw[Nat.add_mul]at this
     omega
    have hfold:((ρ' x).cells.zipIdx.foldl (fun(cs:Array Value) (p:Value×Nat)=>cs.setIfInBounds (i*n+p.2) p.1) cells').toList=cells'.toList.take (i*n)++(ρ' x).cells.toList++cells'.toList.drop (i*n+(ρ' x).cells.toList.length):=by
     have:=rI (ρ' x).cells.toList 0 (i*n) cells' (by simp;omega)
     rw[←Array.foldl_toList,Array.toList_zipIdx]
     simpa using this
    obtain⟨r',h1,h2,h3⟩:=ka hρ ps (rows.set i cs) r _ (by rw[hfold];exact hc.set hl2 hl1 hx) h
    refine⟨r',?_,h2,by simpa using h3⟩
    have hcond:(decide ((ρ' x).cells.size≠n)||decide (i*n+(ρ' x).cells.size > cells'.size))=false:=by simp[e1,e2];omega
    simp only[List.map_cons,Instr.fill,hcond,Bool.false_eq_true,if_false]
    exact h1
   ·cases h
  ·cases h
theorem zW{x:Blk}{cs:Array Value}{e:TypeId}{k cap:Nat}(hk:k≤cap)(hcap:cap≤maxLen)(hs:cap*x.size≤cs.size):
  bl (World.push w (.cells cs e (0,0))) (σ.set b ⟨w.heap.size,0,x.size⟩) (aQ (σ.set b ⟨w.heap.size,0,x.size⟩) (H.new b x)) (.sl b 0 k) (.slice (some ⟨w.heap.size,0,none⟩) k cap):=by
 refine bl.sl b 0 k ⟨w.heap.size,0,x.size⟩ _ cap (bq.set_eq _ _ _) hk hcap fun _=>⟨by simp,cs,e,?_,by simpa using hs⟩
 show(w.heap.push _)[w.heap.size]? =_
 simp
theorem tp(hW:bc w σ H)(hb:σ b=none)(hlt:b<H.next){t e:TypeId}{len n:Nat}{ps:Array (Nat×Operand)}{ρ:Operand→AV}{ρ':Operand→Value}(hρ:∀x,bl w σ (aQ σ H) (ρ x) (ρ' x))
  {z:List AV} {rows:List (List AV)} (hu:P.underlying t=some (.slice e)) (hn:aS P e=some n) (hz:(dT P e).bind AV.cells? =some z) (hzn:z.length=n) (h0:0<n) (hl:len*n≤2^24)
  (h:cZ n (List.replicate len z) (ps.toList.map fun p=>(p.1,ρ p.2))=some rows) :
  xp P (Instr.buildSlice t len (ps.map fun(i,x)=>(i,ρ' x))) w σ H b (.sl b 0 len) (H.new b ⟨n,rows⟩):=by
 have hps:(ps.map fun(i,x)=>(i,ρ' x)).toList=ps.toList.map fun p=>(p.1,ρ' p.2):=by simp
 cases hza:dT P e with
 | none=>rw[hza]at hz;cases hz
 | some za=>
  rw[hza]at hz
  simp only[Option.bind_some]at hz
  obtain⟨z',hz1,hz2⟩:=dZ (P:=P) (w:=w) (σ:=σ) (T:=aQ σ H) hza
  have hzr:=hz2.cells hz
  have hlen:len≤2^24:=Nat.le_trans (Nat.le_mul_of_pos_right len h0) hl
  obtain⟨l,e1,e2,e3,_⟩:=Flat.zeros hzr hzn h0 len len (Nat.le_refl _)
  have hfl:Flat w σ (aQ σ H) (List.replicate len z) n (l.toArray).toList:=by
   rw[List.take_of_length_le (by omega)]at e3
   exact e3
  obtain⟨r',f1,f2,f3⟩:=ka hρ ps.toList _ rows l.toArray hfl h
  have hr':r'.size=len*n:=by rw[←Array.length_toList,f2.len,f3];simp
  have hrl:rows.length=len:=by simpa using f3
  refine uv hW hb hlt (cs:=r') (e:=e) (v':=.slice (some ⟨w.heap.size,0,none⟩) len len) (l:=r'.toList) ?_ f2 ?_ ?_
  ·simp only[]
   rw[List.take_of_length_le (by rw[Array.length_toList,hr',hrl];exact Nat.le_refl _)]
  ·have hgt:¬len*n > 2^24:=by omega
   simp only[Instr.buildSlice,Sem.run_bind,run_underlying hu,Result.andThen_ok,b7 hn]
   rw[if_neg hgt]
   by_cases hz0:len*n=0
   ·have hl0:len=0:=by
     rcases Nat.mul_eq_zero.1 hz0 with h1 | h1
     ·exact h1
     ·omega
    subst hl0
    rw[if_pos hz0]
    have:l=[]:=by cases l with
     | nil=>rfl
     | cons a l=>simp at e2
    subst this
    simp only[Sem.run_bind,Sem.run_pure,Result.andThen_ok,hz0,hps]
    have he:(Array.range 0).map (fun x=>(#[]:Array Value)[x % (#[]:Array Value).size]!)=([]:List Value).toArray:=by simp
    rw[he,f1]
    rfl
   ·rw[if_neg hz0]
    simp only[Sem.run_bind,hz1,Sem.run_pure,Result.andThen_ok,hps]
    rw[e1,f1]
    rfl
  ·exact zW (x:=⟨n,rows⟩) (Nat.le_refl _) (by unfold maxLen;omega) (by rw[hr'];exact Nat.le_refl _)
theorem uw(hW:bc w σ H)(hb:σ b=none)(hlt:b<H.next){t e:TypeId}{n by_ l c:Nat}{x y:AV}{x' y':Value}(hx:bl w σ (aQ σ H) x x')(hy:bl w σ (aQ σ H) y y')
  {z:List AV} (hu:P.underlying t=some (.slice e)) (hn:aS P e=some n) (hby:f6 P e=some by_) (hz:(dT P e).bind AV.cells? =some z) (hl:j5 x=some l) (hc:j5 y=some c)
  (hzn:z.length=n) (h0:0<n) (hlc:l≤c) (hcm:c≤2^62) (hcb:c*by_≤2^48) :
  xp P (Instr.makeSlice t x' y') w σ H b (.sl b 0 l) (H.new b ⟨n,List.replicate l z⟩):=by
 obtain⟨kl,li,rfl,hl0,rfl⟩:=j6 hx hl
 obtain⟨kc,ci,rfl,hc0,rfl⟩:=j6 hy hc
 cases hza:dT P e with
 | none=>rw[hza]at hz;cases hz
 | some za=>
  rw[hza]at hz
  simp only[Option.bind_some]at hz
  cases hi:P.info? e with
  | none=>simp[f6,hi]at hby
  | some i=>
  have hib:i.bytes=by_:=by simpa[f6,hi]using hby
  obtain⟨z',hz1,hz2⟩:=dZ (P:=P) (w:=w) (σ:=σ) (T:=aQ σ H) hza
  have hzr:=hz2.cells hz
  obtain⟨l,e1,e2,e3,_⟩:=Flat.zeros hzr hzn h0 li.toNat ci.toNat hlc
  have wl:IntKind.i64.wrap li=li:=IntWalk.i64_in _ (by omega)
  have wc:IntKind.i64.wrap ci=ci:=IntWalk.i64_in _ (by omega)
  have hbig:((decide (ci<0)||decide ((i.bytes:Int)*ci > 2^48))||decide (li<0)||decide (li > ci))=false:=by
   rw[hib]
   have:((by_:Int)*ci)=((ci.toNat*by_:Nat):Int):=by rw[Int.natCast_mul,Int.toNat_of_nonneg hc0,Int.mul_comm]
   have h2:((ci.toNat*by_:Nat):Int)≤2^48:=by exact_mod_cast hcb
   simp only[Bool.or_eq_false_iff,decide_eq_false_iff_not]
   refine⟨⟨⟨by omega,by rw[this];omega⟩,by omega⟩,by omega⟩
  refine uv hW hb hlt (x:=⟨n,List.replicate li.toNat z⟩) (cs:=l.toArray) (e:=e) (v':=.slice (some ⟨w.heap.size,0,none⟩) li.toNat ci.toNat) (l:=l.take (li.toNat*n)) ?_ e3 ?_ ?_
  ·simp
  ·simp only[Instr.makeSlice,asInt,asIntOf,Sem.run_bind,run_underlying hu,Sem.run_pure,Result.andThen_ok,pK hi,wl,wc,hbig,Bool.false_eq_true,if_false,run_askRoom,b7 hn]
   by_cases hz0:ci.toNat*n=0
   ·rw[if_pos hz0]
    have hnil:l=[]:=by cases l with
     | nil=>rfl
     | cons a l=>simp at e2;omega
    subst hnil
    simp only[Sem.run_bind,Sem.run_pure,Result.andThen_ok,hz0]
    have he:(Array.range 0).map (fun x=>(#[]:Array Value)[x % (#[]:Array Value).size]!)=([]:List Value).toArray:=by simp
    rw[he]
    rfl
   ·rw[if_neg hz0]
    simp only[Sem.run_bind,hz1,Sem.run_pure,Result.andThen_ok]
    rw[e1]
    rfl
  ·exact zW (x:=⟨n,List.replicate li.toNat z⟩) hlc (by unfold maxLen;omega) (by simp[e2])
theorem ux{m:List (List AV)}{n c o:Nat}(he:∀(i:Nat) (r:List AV),m[i]? =some r→r.length=n)(hc:∀(i:Nat) (r:List AV),m[i]? =some r→yk w σ T r c (o+i*n)):
  ∃l:List Value,(∀w2:World,w2.heap=w.heap→(loadCells ⟨c,o,none⟩ (m.length*n)).run P w2=.ok l.toArray w2)∧Flat w σ T m n l:=by
 have key:∀p,∃u,p<m.length*n→w.cell? ⟨c,o+p,none⟩=some u:=fun p=>by
  by_cases hp:p<m.length*n
  ·have hn:0<n:=by
    rcases Nat.eq_zero_or_pos n with h0 | h0
    ·subst h0;simp at hp
    ·exact h0
   have hi:p / n<m.length:=by rw[Nat.div_lt_iff_lt_mul hn];exact hp
   have hr:m[p / n]? =some m[p / n]:=List.getElem?_eq_getElem hi
   have hj:p % n<m[p / n].length:=by rw[he _ _ hr];exact Nat.mod_lt _ hn
   obtain⟨u,h1,_⟩:=hc _ _ hr (p % n) _ (List.getElem?_eq_getElem hj)
   refine⟨u,fun _=>?_⟩
   rw[Nat.add_assoc,Nat.mul_comm,Nat.div_add_mod]at h1
   exact h1
  ·exact⟨undef,fun h=>absurd h hp⟩
 let f:=fun p=>Classical.choose (key p)
 have hf:∀p,p<m.length*n→w.cell? ⟨c,o+p,none⟩=some (f p):=fun p=>Classical.choose_spec (key p)
 refine⟨(List.range (m.length*n)).map f,fun w2 hw2=>run_loadCells w2 _ _ f (fun j hj=>by rw[dg];rw[←hf j hj];unfold World.cell?;rw[hw2]),⟨by simp,he,?_⟩⟩
 intro i r j a u hr ha hu
 have hj:j<n:=by rw[←he i r hr];exact ax ha
 have hp:=j8 (ax hr) hj
 rw[List.getElem?_map,List.getElem?_range hp]at hu
 cases hu
 obtain⟨u,h1,h2⟩:=hc i r hr j a ha
 rw[Nat.add_assoc,hf _ hp]at h1
 cases h1
 exact h2
theorem wV(hW:bc w σ H){n:Nat}{x:AV}{x':Value}{m:List (List AV)}(hx:bl w σ (aQ σ H) x x')(h:dY H n x=some m):
  ∃(A:Option Addr) (cap:Nat) (l:List Value),x'=.slice A m.length cap∧(∀w2:World,w2.heap=w.heap→(Builtin.firstCells n m.length x').run P w2=.ok l.toArray w2)∧Flat w σ (aQ σ H) m n l:=by
 unfold dY at h
 split at h
 ·cases h;cases hx;exact⟨none,0,[],rfl,fun _ _=>rfl,Flat.nil n⟩
 ·cases h
  cases hx with
  | emp A=>exact⟨A,0,[],rfl,fun w2 _=>by cases A<;>simp[Builtin.firstCells,loadCells,loadCellsFrom],Flat.nil n⟩
 ·rename_i rows
  split at h
  ·cases h
   obtain⟨A,cap,rfl,_,_,_⟩:=hx.lst_inv
   refine⟨A,cap,[],rfl,?_,Flat.nil n⟩
   intro w2 _
   cases A<;>simp[Builtin.firstCells,loadCells,loadCellsFrom]
  ·rename_i r rs
   split at h
   ·rename_i hr
    cases h
    obtain⟨A,cap,rfl,hn,hm,ha⟩:=hx.lst_inv
    obtain⟨b,o,sz,rfl,hl,hrep⟩:=ha (by simp)
    obtain rfl:r.length=sz:=hl.even 0 r rfl
    subst hr
    obtain⟨l,h1,h2⟩:=ux (P:=P) (o:=o) (c:=b) hl.even (fun i q hq=>hl.row hrep hq)
    exact⟨_,cap,l,rfl,fun w2 hw2=>by simp only[Builtin.firstCells];exact h1 w2 hw2,h2⟩
   ·cases h
 ·rename_i b' i k
  split at h
  ·rename_i y hy
   split at h
   ·rename_i hcond
    obtain⟨hsz,hik⟩:=hcond
    cases h
    obtain⟨pl,a,cap,rfl,hs,hn,hm,ha⟩:=hx.sl_inv
    obtain⟨pl',cs',e',g1,g2⟩:=hW.live b' y hy
    rw[hs]at g1
    cases g1
    have hlen:((y.rows.drop i).take k).length=k:=by simp;omega
    rw[hlen]
    have get:∀(q:Nat) (r:List AV),((y.rows.drop i).take k)[q]? =some r→y.rows[i+q]? =some r:=fun q r hq=>by
     have hi:=ax hq
     rw[hlen]at hi
     rwa [List.getElem?_take_of_lt hi,List.getElem?_drop]at hq
    rcases Nat.eq_zero_or_pos k with hk | hk
    ·subst hk
     exact⟨_,cap,[],rfl,fun w2 _=>by simp[Builtin.firstCells,loadCells,loadCellsFrom],by simpa using Flat.nil n⟩
    ·obtain⟨rfl,cs,ty,hc,hr⟩:=ha (by omega)
     obtain⟨l,h1,h2⟩:=ux (P:=P) (w:=w) (σ:=σ) (T:=aQ σ H) (m:=(y.rows.drop i).take k) (n:=n) (c:=pl.block) (o:=pl.base+i*pl.size) (fun q r hq=>by rw[←hsz];exact g2.even _ r (get q r hq)) (fun q r hq=>by
      have:=g2.row (get q r hq)
      rw[Nat.add_mul,←Nat.add_assoc]at this
      rwa [g2.size,hsz]at this ⊢)
     rw[hlen]at h1
     exact⟨_,cap,l,rfl,fun w2 hw2=>by simp only[Builtin.firstCells];exact h1 w2 hw2,h2⟩
   ·cases h
  ·cases h
 ·cases h
theorem Flat.ones{rows:List (List AV)}{n:Nat}{l:List Value}(h:Flat w σ T rows n l)(ho:(rows.all fun r=>r.all AV.one)=true):∀u∈l,u.oneCell'=true:=by
 intro u hu
 obtain⟨p,hp,rfl⟩:=List.getElem_of_mem hu
 have hlen:=h.len
 have hn:0<n:=by
  rcases Nat.eq_zero_or_pos n with h0 | h0
  ·subst h0;rw[Nat.mul_zero]at hlen;omega
  ·exact h0
 have hi:p / n<rows.length:=by rw[Nat.div_lt_iff_lt_mul hn];omega
 have hr:rows[p / n]? =some rows[p / n]:=List.getElem?_eq_getElem hi
 have hj:p % n<rows[p / n].length:=by rw[h.even _ _ hr];exact Nat.mod_lt _ hn
 have hrep:=h.rep (p / n) _ (p % n) _ l[p] hr (List.getElem?_eq_getElem hj) (by rw[Nat.mul_comm,Nat.div_add_mod];exact List.getElem?_eq_getElem hp)
 refine hrep.one ?_
 rw[List.all_eq_true]at ho
 have:=ho _ (List.getElem_mem hi)
 rw[List.all_eq_true]at this
 exact this _ (List.getElem_mem hj)
theorem eD{t tx ty e e':TypeId}{n sLen sCap k capx:Nat}{A B:Option Addr}{news:List Value}(ht:P.underlying t=some (.slice e))(htx:P.underlying tx=some (.slice e'))(hn:aS P e=some n)
  (hroom:sLen+k≤sCap) (hc:(Builtin.firstCells n k (.slice B k capx)).run P w=.ok news.toArray w) {w':World} (hst:(match A with | some a=>storeCells (a.add (sLen*n)) news | none=>Pure.pure ()).run P w=.ok () w') :
  (Builtin.append_ #[t,tx] ty #[.slice A sLen sCap,.slice B k capx]).run P w=.ok (.slice A (sLen+k) sCap) w':=by
 cases A with
 | none=>
  simp only[Sem.run_pure]at hst
  cases hst
  simp[Builtin.append_,run_underlying ht,run_underlying htx,b7 hn,Builtin.lenOf,hroom,hc]
 | some a=>
  simp only[]at hst
  simp[Builtin.append_,run_underlying ht,run_underlying htx,b7 hn,Builtin.lenOf,hroom,hc,hst]
theorem yu(hW:bc w σ H)(hb:σ b=none)(hlt:b<H.next){t tx ty e':TypeId}{s x v:AV}{s' x':Value}{H':ah}(hx:bl w σ (aQ σ H) x x')(hs:bl w σ (aQ σ H) s s')
  (htx:P.underlying tx=some (.slice e')) (h:cq P H b t s x=some (v,H')):xp P (Builtin.append_ #[t,tx] ty #[s',x']) w σ H b v H':=by
 unfold cq at h
 split at h
 ·rename_i e hu
  split at h
  ·rename_i n by_ z hn hby hz
   split at h
   ·rename_i l m hl hm
    split at h
    ·rename_i hc
     obtain⟨c1,c2,h0,hzn,hone⟩:=hc
     cases hi:P.info? e with
     | none=>simp[f6,hi]at hby
     | some i=>
     have hib:i.bytes=by_:=by simpa[f6,hi]using hby
     have hin:i.size=n:=by simpa[aS,hi]using hn
     cases hza:dT P e with
     | none=>rw[hza]at hz;cases hz
     | some za=>
     rw[hza]at hz
     simp only[Option.bind_some]at hz
     obtain⟨z',hz1,hz2⟩:=dZ (P:=P) (w:=w) (σ:=σ) (T:=aQ σ H) hza
     have hiz:i.zero=some z':=by
      simp only[zeroValue,Sem.run_bind,pK hi,Result.andThen_ok]at hz1
      split at hz1
      ·rename_i q hq;cases hz1;exact hq
      ·cases hz1
     have hzr:=hz2.cells hz
     obtain⟨A,cap,olds,rfl,ho1,ho2⟩:=wV (P:=P) hW hs hl
     obtain⟨B,capx,news,rfl,hn1,hn2⟩:=wV (P:=P) hW hx hm
     have grow:∀{K:ah},(hWK:bc w σ K)→(hext:en w σ (aQ σ H) w σ (aQ σ K))→b<K.next→cap<l.length+m.length→
       xp P (Builtin.append_ #[t,tx] ty #[.slice A l.length cap,.slice B m.length capx]) w σ H b (.sl b 0 (l.length+m.length)) (K.new b ⟨n,l++m⟩):=by
      intro K hWK hext hltK hcap
      have hrun:=run_append_grow_src (P:=P) w t tx ty e i z' hu hi hiz A l.length cap olds (by rw[hin];exact ho1 _ rfl) (.slice B m.length capx) m.length news
       ⟨.inl ⟨e',htx⟩,fun _=>rfl,by rw[hin];exact hn1 w rfl,by rw[hin];exact hn1 _ rfl,by rw[hin];exact hn2.len,hn2.ones hone⟩ hcap (by omega)
       (by rw[hib];have:=Nat.mul_le_mul_right by_ (nextslicecap_le hcap);omega)
      generalize hgc:grownCap w (l.length+m.length) cap e=gc at hrun
      have hgc1:l.length+m.length≤gc∧gc≤maxLen:=by
       rw[←hgc]
       have hcut:grownCap w (l.length+m.length) cap e=(l.length+m.length)+w.tape w.drawn (.appendCap (l.length+m.length) cap e) % (2^63-(l.length+m.length)):=rfl
       rw[hcut]
       unfold maxLen
       have:w.tape w.drawn (.appendCap (l.length+m.length) cap e) % (2^63-(l.length+m.length))<2^63-(l.length+m.length):=Nat.mod_lt _ (by omega)
       omega
      have hE:en w σ (aQ σ H) w.drew σ (aQ σ K):=hext.trans (en.same σ _ rfl rfl rfl rfl)
      have hzs:z'.cells.size=n:=by rw[←Array.length_toList,←hzr.1,hzn]
      have hfl:Flat w σ (aQ σ H) (l++m) n (olds++news):=ho2.append hn2
      generalize hcs:((olds++news).toArray++Builtin.zeroCells z'.cells (gc-(l.length+m.length)):Array Value)=cs at hrun
      have hcl:cs.size=gc*n:=by
       rw[←hcs]
       have h1:=hfl.len
       simp only[List.length_append]at h1
       simp only[Array.size_append,List.size_toArray,List.length_append,h1,Builtin.zeroCells,Array.size_map,Array.size_range,hzs]
       rw[←Nat.add_mul]
       congr 1
       omega
      have hcget:∀p u,p<(l++m).length*n→cs[p]? =some u→(olds++news)[p]? =some u:=fun p u hp hu=>by
       rw[←hcs,Array.getElem?_append_left (by simp only[List.size_toArray];rw[hfl.len];exact hp)]at hu
       simpa using hu
      obtain⟨g1,g2⟩:=(hWK.same (w':=w.drew) rfl rfl rfl rfl).new hb hltK (x:=⟨n,l++m⟩) (cs:=cs) (e:=e) hfl.even (by rw[hcl];simp only[List.length_append];exact Nat.mul_le_mul_right _ hgc1.1) (fun i r j a u hr ha hu=>by
       have hj:j<n:=by rw[←hfl.even i r hr];exact ax ha
       exact(hfl.rep i r j a u hr ha (hcget _ u (j8 (ax hr) hj) hu)).mono hE)
      refine⟨_,_,_,hrun,?_,g1,hE.trans g2,fun c pl hc=>?_⟩
      ·exact zW (w:=w.drew) (x:=⟨n,l++m⟩) hgc1.1 hgc1.2 (by rw[hcl];exact Nat.le_refl _)
      ·by_cases hbc:b=c
       ·exact .inr hbc.symm
       ·rw[bq.set_ne _ _ hbc]at hc;exact .inl hc
     split at h
     ·
      cases hl
      simp only[List.length_nil]at hs
      cases hs
      split at h
      ·rename_i hm0
       cases h
       refine⟨.slice none 0 0,w,σ,?_,.nils,hW,en.refl _ _ _,fun c pl hc=>.inl hc⟩
       have:=eD (P:=P) (ty:=ty) (A:=none) (sLen:=0) (sCap:=0) (k:=m.length) hu htx hn (by omega) (hn1 w rfl) (w':=w) rfl
       rw[hm0]at this
       simpa[hm0]using this
      ·rename_i hm0
       cases h
       have:=grow hW (en.refl _ _ _) hlt (by simp;omega)
       simpa using this
     ·
      cases hl
      simp only[List.length_nil]at hs
      cases hs
      split at h
      ·rename_i hm0
       cases h
       refine⟨.slice A 0 0,w,σ,?_,.emp A,hW,en.refl _ _ _,fun c pl hc=>.inl hc⟩
       have hm':m=[]:=by cases m with
        | nil=>rfl
        | cons x m=>simp at hm0
       have hnews:news=[]:=by have:=hn2.len;rw[hm']at this;simpa using this
       have:=eD (P:=P) (ty:=ty) (A:=A) (sLen:=0) (sCap:=0) (k:=m.length) hu htx hn (by omega) (hn1 w rfl) (w':=w) (by rw[hnews];cases A<;>rfl)
       rw[hm0]at this
       simpa[hm0]using this
      ·rename_i hm0
       cases h
       have:=grow hW (en.refl _ _ _) hlt (by simp;omega)
       simpa using this
     ·rename_i b' i k
      cases h
      obtain⟨pl,a,cap',heq,hsig,hk,hcm,ha⟩:=hs.sl_inv
      simp only[Value.slice.injEq]at heq
      obtain⟨rfl,hkl,rfl⟩:=heq
      simp only[dY]at hl
      split at hl
      ·rename_i y hy
       split at hl
       ·rename_i hcond
        obtain⟨hyn,hik⟩:=hcond
        cases hl
        have hlen:((y.rows.drop i).take k).length=k:=by simp;omega
        obtain⟨pl',ds,e0,q1,q2⟩:=hW.live b' y hy
        rw[hsig]at q1
        cases q1
        have hps:pl.size=n:=q2.size.trans hyn
        have hget:∀(q:Nat) (r:List AV),((y.rows.drop i).take k)[q]? =some r→q<k∧y.rows[i+q]? =some r:=fun q r hq=>by
         have hi:=ax hq
         rw[hlen]at hi
         rw[List.getElem?_take_of_lt hi,List.getElem?_drop]at hq
         exact⟨hi,hq⟩
        have hfl:Flat w σ (aQ σ H) ((y.rows.drop i).take k++m) n (olds++news):=ho2.append hn2
        by_cases hroom:((y.rows.drop i).take k).length+m.length≤cap
        ·
         by_cases hc0:cap=0
         ·subst hc0
          have hm0:m.length=0:=by omega
          have hk0:k=0:=by omega
          have hlk:((y.rows.drop i).take k)=[]:=by rw[hk0];simp
          have hm':m=[]:=by cases m with
           | nil=>rfl
           | cons x m=>simp at hm0
          have hnews:news=[]:=by have:=hn2.len;rw[hm']at this;simpa using this
          have hrun:=eD (P:=P) (ty:=ty) (A:=some a) hu htx hn hroom (hn1 w rfl) (w':=w) (by rw[hnews];rfl)
          obtain⟨o1,o2⟩:=hW.over (k:=0) hy hsig hb hlt (iA.refl q2.block) (x':=⟨n,(y.rows.drop i).take k++m⟩) hps.symm hfl.even (by rw[hlk,hm'];have:=q2.room;simp;omega) (by rw[hlk,hm'];intro i r j a u hr;simp at hr)
          refine⟨_,_,_,hrun,?_,o1,o2,fun c pl hc=>?_⟩
          ·exact bl.sl b 0 _ _ a 0 (bq.set_eq _ _ _) hroom (by omega) (by omega)
          ·by_cases hbc:b=c
           ·exact .inr hbc.symm
           ·rw[bq.set_ne _ _ hbc]at hc;exact .inl hc
         ·obtain⟨rfl,cs,ty',hcb,hcr⟩:=ha (by omega)
          rw[q2.block]at hcb
          cases hcb
          have hnl:news.length=m.length*n:=hn2.len
          have hcap:(k+m.length)*n≤cap*n:=Nat.mul_le_mul_right _ (by omega)
          have hbound:pl.base+i*pl.size+k*n+news.length≤ds.size:=by
           rw[hnl,hps]
           rw[hps,Nat.add_mul]at hcr
           rw[Nat.add_mul]at hcap
           omega
          have hst:=run_storeCells_at (P:=P) pl.block (pl.base+i*pl.size+k*n) e0 news 0 ds w q2.block (by simpa using hbound) (hn2.ones hone)
          simp only[Nat.add_zero]at hst
          have hw:iA w (w.setRow pl.block (ds.toList.take (pl.base+i*pl.size+k*n)++news++ds.toList.drop (pl.base+i*pl.size+k*n+news.length)).toArray) pl.block ds _ e0:=
           ⟨rfl,rfl,rfl,by simp,q2.block,setRow_heap w _ _ _ _ _ q2.block,by
            simp only[List.size_toArray,List.length_append,List.length_take,List.length_drop,Array.length_toList]
            rw[Nat.min_eq_left (by omega)]
            omega,fun d hd=>setRow_other w _ d _ hd⟩
          have hrun:=eD (P:=P) (ty:=ty) (A:=some ⟨pl.block,pl.base+i*pl.size,none⟩) hu htx hn hroom (hn1 w rfl) (by simp only[dg];rw[hlen];exact hst)
          have hdl:ds.toList.length=ds.size:=Array.length_toList
          obtain⟨o1,o2⟩:=hW.over (k:=i) hy hsig hb hlt hw (x':=⟨n,(y.rows.drop i).take k++m⟩) hps.symm hfl.even (by
           simp only[List.length_append,hlen]
           rw[Nat.add_mul]
           omega) (fun q r j a u hr hj hu=>by
           simp only[]at hr hu
           have hjn:j<n:=by rw[←hfl.even q r hr];exact ax hj
           rw[List.getElem?_toArray,eX ds.toList news _ _ (by omega)]at hu
           rcases Nat.lt_or_ge q k with hq | hq
           ·rw[List.getElem?_append_left (by omega)]at hr
            have:=j8 hq hjn
            rw[if_pos (by omega),Array.getElem?_toList]at hu
            refine q2.rep (i+q) r j a u (hget q r hr).2 hj ?_
            rw[hyn,←hu,hps]
            congr 1
            rw[Nat.add_mul]
            omega
           ·rw[List.getElem?_append_right (by omega),hlen]at hr
            have hqm:q-k<m.length:=ax hr
            have h1:=j8 hqm hjn
            have h2:(q-k)*n+k*n=q*n:=by rw[←Nat.add_mul,Nat.sub_add_cancel hq]
            rw[if_neg (by omega),if_pos (by omega)]at hu
            refine hn2.rep (q-k) r j a u hr hj ?_
            rw[←hu]
            congr 1
            omega)
          refine⟨_,_,_,hrun,?_,o1,o2,fun c pl hc=>?_⟩
          ·refine bl.sl b 0 _ _ _ cap (bq.set_eq _ _ _) hroom hcm fun _=>⟨by simp,_,e0,hw.new,?_⟩
           rw[hw.len]
           simp only[Nat.zero_add]
           rw[Nat.add_mul]at hcr
           omega
          ·by_cases hbc:b=c
           ·exact .inr hbc.symm
           ·rw[bq.set_ne _ _ hbc]at hc;exact .inl hc
        ·
         have hsub:∀c x,(H.put b' none).get c=some x→H.get c=some x:=fun c x hx=>by
          rw[ah.get_put]at hx
          split at hx
          ·cases hx
          ·exact hx
         exact grow (hW.sub hsub (Nat.le_refl _)) (en.sub hsub) hlt (by omega)
       ·cases hl
      ·cases hl
     ·cases h
    ·cases h
   ·cases h
  ·cases h
 ·cases h
theorem Flat.sub{rows:List (List AV)}{n:Nat}{l:List Value}(h:Flat w σ T rows n l):∀(i:Nat) (r:List AV) (j:Nat) (a:AV) (u:Value),rows[i]? =some r→r[j]? =some a→l[i*n+j]? =some u→bl w σ T a u:=h.rep
theorem yv(hW:bc w σ H){c:Nat}{y:Blk}{pl:fk}(hy:H.get c=some y)(hs:σ c=some pl){i:Nat}{rows:List (List AV)}{us:List Value}(hf:Flat w σ (aQ σ H) rows y.size us)(hin:i+rows.length≤y.rows.length)(hone:∀u∈us,u.oneCell'=true):
  ∃w',(storeCells ⟨pl.block,pl.base+i*pl.size,none⟩ us).run P w=.ok () w'∧bc w' σ (H.put c (some {y with rows:=y.rows.take i++rows++y.rows.drop (i+rows.length)}))∧en w σ (aQ σ H) w' σ (aQ σ (H.put c (some {y with rows:=y.rows.take i++rows++y.rows.drop (i+rows.length)}))):=by
 obtain⟨pl',ds,e,g1,g2⟩:=hW.live c y hy
 rw[hs]at g1
 cases g1
 have hsz:=g2.size
 have hroom:=g2.room
 have hm:(i+rows.length)*y.size≤y.rows.length*y.size:=Nat.mul_le_mul_right _ hin
 have hul:us.length=rows.length*y.size:=hf.len
 rw[Nat.add_mul]at hm
 have hdl:ds.toList.length=ds.size:=Array.length_toList
 have hst:=run_storeCells_at (P:=P) pl.block (pl.base+i*pl.size) e us 0 ds w g2.block (by rw[hul,hsz];omega) hone
 simp only[Nat.add_zero]at hst
 have hw:iA w (w.setRow pl.block (ds.toList.take (pl.base+i*pl.size)++us++ds.toList.drop (pl.base+i*pl.size+us.length)).toArray) pl.block ds _ e:=
  ⟨rfl,rfl,rfl,by simp,g2.block,setRow_heap w _ _ _ _ _ g2.block,by
   simp only[List.size_toArray,List.length_append,List.length_take,List.length_drop,Array.length_toList]
   rw[hsz,Nat.min_eq_left (by omega)]
   omega,fun d hd=>setRow_other w _ d _ hd⟩
 have hlen:(y.rows.take i++rows++y.rows.drop (i+rows.length)).length=y.rows.length:=by
  simp only[List.length_append,List.length_take,List.length_drop];omega
 refine⟨_,hst,hW.put hy hs hw (x':={y with rows:=y.rows.take i++rows++y.rows.drop (i+rows.length)}) hsz.symm ?_ ?_ ?_⟩
 ·intro q s hq
  simp only[]at hq
  rw[eX _ _ _ _ hin]at hq
  split at hq
  ·exact g2.even q s hq
  ·split at hq
   ·exact hf.even _ s hq
   ·exact g2.even q s hq
 ·simp only[hlen];exact hroom
 ·intro q s j a u hq hj hu
  simp only[]at hq hu
  rw[eX _ _ _ _ hin]at hq
  rw[List.getElem?_toArray,eX ds.toList us (pl.base+i*pl.size) _ (by rw[hul,hsz];omega),hul,hsz]at hu
  by_cases h1:q<i
  ·rw[if_pos h1]at hq
   have hjs:j<y.size:=by rw[←g2.even q s hq];exact ax hj
   have:(q+1)*y.size≤i*y.size:=Nat.mul_le_mul_right _ h1
   rw[Nat.add_mul]at this
   rw[if_pos (by omega),Array.getElem?_toList]at hu
   exact g2.rep q s j a u hq hj hu
  ·rw[if_neg h1]at hq
   have h1':i*y.size≤q*y.size:=Nat.mul_le_mul_right _ (by omega)
   by_cases h2:q<i+rows.length
   ·rw[if_pos h2]at hq
    have hjs:j<y.size:=by rw[←hf.even _ s hq];exact ax hj
    have:(q+1)*y.size≤(i+rows.length)*y.size:=Nat.mul_le_mul_right _ h2
    rw[Nat.add_mul,Nat.add_mul]at this
    rw[if_neg (by omega),if_pos (by omega)]at hu
    refine hf.rep (q-i) s j a u hq hj ?_
    rw[←hu]
    congr 1
    rw[Nat.sub_mul]
    omega
   ·rw[if_neg h2]at hq
    have:(i+rows.length)*y.size≤q*y.size:=Nat.mul_le_mul_right _ (by omega)
    rw[Nat.add_mul]at this
    rw[if_neg (by omega),if_neg (by omega),Array.getElem?_toList]at hu
    exact g2.rep q s j a u hq hj hu
theorem zX{b:Nat}(hW:bc w σ H){t ty:TypeId}{x:AV}{x':Value}{H':ah}(hx:bl w σ (aQ σ H) x x')(h:dJ P H t x=some H'):
  xp P (Builtin.clear_ #[t] ty #[x']) w σ H b (.tup []) H':=by
 unfold dJ at h
 split at h
 ·rename_i e hu
  split at h
  ·rename_i n z hn hz
   split at h
   ·cases h
    cases hx
    exact⟨.tuple #[],w,σ,by simp[Builtin.clear_,run_underlying hu],.tup [] [] rfl (by simp),hW,en.refl _ _ _,fun c pl hc=>.inl hc⟩
   ·rename_i c i k
    split at h
    ·rename_i y hy
     split at h
     ·rename_i hcond
      obtain⟨⟨q1,q2⟩,⟨q3,q4⟩,q5⟩:=hcond
      cases h
      obtain⟨pl,ad,cap,rfl,hsg,hnc,hmx,ha⟩:=hx.sl_inv
      rcases Nat.eq_zero_or_pos k with rfl | hk
      ·have e0:y.rows.take i++List.replicate 0 z++y.rows.drop (i+0)=y.rows:=by simp
       obtain⟨pl',ds,e',g1,g2⟩:=hW.live c y hy
       rw[hsg]at g1
       cases g1
       have hput:=hW.put hy hsg (iA.refl g2.block) (x':={y with rows:=y.rows.take i++List.replicate 0 z++y.rows.drop (i+0)}) g2.size.symm (by simp only[e0];exact g2.even) (by simp only[e0];exact g2.room) (by simp only[e0];exact g2.rep)
       exact⟨.tuple #[],w,σ,by simp[Builtin.clear_,run_underlying hu],.tup [] [] rfl (by simp),hput.1,hput.2,fun c pl hc=>.inl hc⟩
      ·obtain⟨rfl,cs,te,hcs,hroom⟩:=ha (by omega)
       cases hz0:dT P e with
       | none=>rw[hz0]at hz;cases hz
       | some z0=>
        rw[hz0]at hz
        obtain⟨z',h1,h2⟩:=dZ (P:=P) (w:=w) (σ:=σ) (T:=aQ σ H) hz0
        have hr:=h2.cells hz
        obtain⟨l,hl1,hl2,hl3,hl4⟩:=Flat.zeros (zs:=z'.cells) hr q2 q3 k k (Nat.le_refl _)
        rw[List.take_of_length_le (by omega)]at hl3
        have hlz:(Builtin.zeroCells z'.cells k).toList=l:=by
         have hzs:z'.cells.size=n:=by rw[←Array.length_toList,←hr.1,q2]
         have:Builtin.zeroCells z'.cells k=l.toArray:=by
          rw[←hl1,←hzs]
          rfl
         rw[this]
        subst q1
        have hfl:Flat w σ (aQ σ H) (List.replicate k z) y.size l:=hl3
        have hones:∀u∈l,u.oneCell'=true:=fun u hu'=>by
         obtain⟨a,ha1,ha2⟩:=hl4 u hu'
         exact ha1.one (List.all_eq_true.1 q5 a ha2)
        obtain⟨w',g1,g2,g3⟩:=yv (P:=P) hW hy hsg hfl (by simpa using q4) hones
        simp only[List.length_replicate]at g2 g3
        refine⟨.tuple #[],w',σ,?_,.tup [] [] rfl (by simp),g2,g3,fun c pl hc=>.inl hc⟩
        have hk0:k≠0:=by omega
        obtain⟨k',rfl⟩:∃k',k=k'+1:=⟨k-1,by omega⟩
        simp[Builtin.clear_,run_underlying hu,h1,hlz,g1]
     ·cases h
    ·cases h
   ·cases h
  ·cases h
 ·cases h
end
end Go.Proofs.Ytljkdffikfkcgaa.Am
end
section
namespace Go.Proofs.Ytljkdffikfkcgaa.Am
set_option linter.unusedVariables false
section
variable {P:Program} {F:TypeId→Option (List TypeId)} {w:World} {σ:bq} {H:ah} {b:Nat}
def bz(P:Program)(s:Sem Next)(w:World)(σ:bq)(H:ah)(b:Nat)(v:AV)(H':ah):Prop:=
 ∃v' w' σ',(s.run P w=.ok (.value v') w'∨(s.run P w=.ok .skip w'∧v'=undef))∧bl w' σ' (aQ σ' H') v v'∧bc w' σ' H'∧en w σ (aQ σ H) w' σ' (aQ σ' H')∧∀c pl,σ' c=some pl→σ c=some pl∨c=b
theorem bz.of_done{s:Sem Value}{v:AV}{H':ah}(h:xp P s w σ H b v H'):bz P (do pure (.value (←s))) w σ H b v H':=by
 obtain⟨v',w',σ',h1,h2⟩:=h
 exact⟨v',w',σ',.inl (by simp[h1]),h2⟩
theorem bz.of_val{s:Sem Value}{v:AV}(hW:bc w σ H)(h:∃v',s.run P w=.ok v' w∧bl w σ (aQ σ H) v v'):bz P (do pure (.value (←s))) w σ H b v H:=by
 obtain⟨v',h1,h2⟩:=h
 exact⟨v',w,σ,.inl (by simp[h1]),h2,hW,en.refl _ _ _,fun c pl hc=>.inl hc⟩
theorem bz.pure{s:Sem Next}{v:AV}{v':Value}(hW:bc w σ H)(h:s.run P w=.ok (.value v') w)(hr:bl w σ (aQ σ H) v v'):bz P s w σ H b v H:=
 ⟨v',w,σ,.inl h,hr,hW,en.refl _ _ _,fun c pl hc=>.inl hc⟩
theorem eE{r:Option AV}{v:AV}{H H':ah}(h:(r.map fun x=>fF.val x H)=some (.val v H')):r=some v∧H'=H:=by
 cases r with
 | none=>cases h
 | some x=>simp only[Option.map_some,Option.some.injEq,fF.val.injEq]at h;exact⟨by rw[h.1],h.2.symm⟩
theorem F7{ρ:Operand→AV}{ρ':Operand→Value}(hρ:∀x,bl w σ (aQ σ H) (ρ x) (ρ' x))(x:Option Operand):zT w σ (aQ σ H) (x.map ρ) (x.map ρ'):=by
 cases x with
 | none=>trivial
 | some a=>exact hρ a
theorem kQ{α β:Type}{f:α→β}{l:List α}{x:β}(h:l.map f=[x]):∃a,l=[a]∧f a=x:=by
 match l,h with
 | [a],h=>exact⟨a,rfl,by simpa using h⟩
 | [],h=>simp at h
 | _::_::_,h=>simp at h
theorem kR{α β:Type}{f:α→β}{l:List α}{x y:β}(h:l.map f=[x,y]):∃a b,l=[a,b]∧f a=x∧f b=y:=by
 match l,h with
 | [a,b],h=>exact⟨a,b,rfl,by simpa using h⟩
 | [],h=>simp at h
 | [_],h=>simp at h
 | _::_::_::_,h=>simp at h
theorem wC(hW:bc w σ H)(hb:σ b=none)(hlt:b<H.next){ρ:Operand→AV}{ρ':Operand→Value}(hρ:∀x,bl w σ (aQ σ H) (ρ x) (ρ' x)){op:Builtin}{args:List Operand}{types:List TypeId}{ty:TypeId}{cn:Array Bool}{v:AV}{H':ah}
  (h:aT P H b op types.toArray (args.map ρ)=some (v,H')):bz P (builtin op types.toArray ty cn (args.toArray.map ρ')) w σ H b v H':=by
 unfold aT at h
 split at h
 ·rename_i s heq
  obtain⟨a0,rfl,h0⟩:=kQ heq
  split at h
  ·rename_i hty
   cases h
   have hr:=hρ a0
   rw[h0]at hr
   generalize he:ρ' a0=x' at hr
   cases hr with
   | str ba=>
   have hlen:ba.data.toList.length=ba.size:=Array.length_toList
   cases htt:types[0]? with
   | none=>simp[htt]at hty
   | some t=>
   have hu:P.underlying t=some .string:=by simpa[htt]using hty
   refine bz.pure hW (v':=.int .i64 ba.size) ?_ (by rw[hlen];exact .int _ _)
   simp[builtin,Builtin.len_,htt,he,run_underlying hu,goInt]
  ·cases h
 ·rename_i x hne heq
  obtain⟨a0,rfl,h0⟩:=kQ heq
  have hr:=hρ a0
  rw[h0]at hr
  cases htt:types[0]? with
  | none=>simp[htt]at h
  | some t=>
   simp only[List.getElem?_toArray,htt,Option.bind_some]at h
   split at h
   ·rename_i e hu
    cases hl:zR x with
    | none=>rw[hl]at h;cases h
    | some n=>
     rw[hl]at h
     cases h
     have hv:∃A c,ρ' a0=.slice A n c:=by
      unfold zR at hl
      split at hl
      ·cases hl;generalize ρ' a0=y at hr;cases hr;exact⟨_,_,rfl⟩
      ·cases hl;generalize ρ' a0=y at hr;cases hr;exact⟨_,_,rfl⟩
      ·cases hl;obtain⟨A,c,h1,_⟩:=hr.lst_inv;exact⟨A,c,h1⟩
      ·cases hl;obtain⟨_,a,c,h1,_⟩:=hr.sl_inv;exact⟨_,c,h1⟩
      ·cases hl
     obtain⟨A,c,hv⟩:=hv
     refine bz.pure hW (v':=.int .i64 n) ?_ (.int _ _)
     simp[builtin,Builtin.len_,htt,hv,run_underlying hu,goInt]
   ·rename_i n e hu
    cases h
    refine bz.pure hW (v':=.int .i64 n) ?_ (.int _ _)
    simp[builtin,Builtin.len_,htt,run_underlying hu,goInt]
   ·cases h
 ·rename_i s x heq
  obtain⟨a0,a1,rfl,h0,h1⟩:=kR heq
  split at h
  ·rename_i t tx htt
   split at h
   ·rename_i e' hu
    simp only[]at htt
    subst htt
    have hs:=hρ a0
    have hx:=hρ a1
    rw[h0]at hs
    rw[h1]at hx
    have:=bz.of_done (yu (ty:=ty) hW hb hlt hx hs hu h)
    simpa[builtin]using this
   ·cases h
  ·cases h
 ·rename_i k a k' c heq
  obtain⟨a0,a1,rfl,h0,h1⟩:=kR heq
  split at h
  ·rename_i hk
   subst hk
   cases h
   have hs:=hρ a0
   have hx:=hρ a1
   rw[h0]at hs
   rw[h1]at hx
   generalize e0:ρ' a0=y0 at hs
   generalize e1:ρ' a1=y1 at hx
   cases hs
   cases hx
   exact bz.pure hW (v':=.int k (if c<a then c else a)) (by simp[builtin,Builtin.min_,Builtin.min2,e0,e1]) (.int _ _)
  ·cases h
 ·rename_i k a k' c heq
  obtain⟨a0,a1,rfl,h0,h1⟩:=kR heq
  split at h
  ·rename_i hk
   subst hk
   cases h
   have hs:=hρ a0
   have hx:=hρ a1
   rw[h0]at hs
   rw[h1]at hx
   generalize e0:ρ' a0=y0 at hs
   generalize e1:ρ' a1=y1 at hx
   cases hs
   cases hx
   exact bz.pure hW (v':=.int k (if c > a then c else a)) (by simp[builtin,Builtin.max_,Builtin.max2,e0,e1]) (.int _ _)
  ·cases h
 ·rename_i x heq
  obtain⟨a0,rfl,h0⟩:=kQ heq
  split at h
  ·rename_i t htt
   simp only[]at htt
   subst htt
   cases hc:dJ P H t x with
   | none=>rw[hc]at h;cases h
   | some K=>
    rw[hc]at h
    cases h
    have hx:=hρ a0
    rw[h0]at hx
    have:=bz.of_done (zX (ty:=ty) (b:=b) hW hx hc)
    simpa[builtin]using this
  ·cases h
 ·cases h
theorem wW(fit:Fit P F)(hW:bc w σ H)(hb:σ b=none)(hlt:b<H.next){o:Oper}{ρ:Operand→AV}{ρ':Operand→Value}(hρ:∀x,bl w σ (aQ σ H) (ρ x) (ρ' x)){v:AV}{H':ah}
  (h:aX P F o.op ρ b H=some (.val v H')):bz P (execOp ρ' o) w σ H b v H':=by
 obtain⟨dst,op,ty,pos,after,guard⟩:=o
 simp only[]at h
 cases op with
 | move x=>simp only[aX,Option.some.injEq,fF.val.injEq]at h;obtain⟨rfl,rfl⟩:=h;exact bz.pure hW rfl (hρ x)
 | assign x=>simp only[aX,Option.some.injEq,fF.val.injEq]at h;obtain⟨rfl,rfl⟩:=h;exact bz.pure hW rfl (hρ x)
 | pick c x y=>
  simp only[aX]at h
  split at h
  ·rename_i t hc
   simp only[Option.some.injEq,fF.val.injEq]at h
   obtain⟨rfl,rfl⟩:=h
   have:=hρ c
   rw[hc]at this
   generalize hc':ρ' c=c' at this
   cases this
   refine bz.pure hW (v':=if t then ρ' x else ρ' y) (by simp[execOp,hc',asBool]) ?_
   cases t
   ·exact hρ y
   ·exact hρ x
  ·cases h
 | alloc t=>
  simp only[aX]at h
  split at h
  ·rename_i cs hcs
   simp only[Option.some.injEq,fF.val.injEq]at h
   obtain⟨rfl,rfl⟩:=h
   exact bz.of_done (zU hW hb hlt hcs)
  ·cases h
 | box t x=>
  simp only[aX]at h
  split at h
  ·rename_i cs hcs
   split at h
   ·simp only[Option.some.injEq,fF.val.injEq]at h
    obtain⟨rfl,rfl⟩:=h
    exact bz.of_done (yr hW hb hlt (hρ x) hcs)
   ·cases h
  ·cases h
 | build t parts=>simp only[aX]at h;obtain⟨h1,rfl⟩:=eE h;exact bz.of_val hW (yq hρ h1)
 | buildSlice t len parts=>
  simp only[aX]at h
  split at h
  ·rename_i e hu
   split at h
   ·rename_i n z hn hz
    split at h
    ·rename_i hc
     obtain⟨c1,c2,c3⟩:=hc
     cases hf:cZ n (List.replicate len z) (parts.toList.map fun p=>(p.1,ρ p.2))with
     | none=>rw[hf]at h;cases h
     | some rows=>
      rw[hf]at h
      simp only[Option.map_some,Option.some.injEq,fF.val.injEq]at h
      obtain⟨rfl,rfl⟩:=h
      exact bz.of_done (tp hW hb hlt hρ hu hn hz c1 c2 c3 hf)
    ·cases h
   ·cases h
  ·cases h
 | load t a=>simp only[aX]at h;obtain⟨h1,rfl⟩:=eE h;exact bz.of_val hW (uu hW (hρ a) h1)
 | store t a x=>
  simp only[aX]at h
  cases hs:eC P H t (ρ a) (ρ x)with
  | none=>rw[hs]at h;cases h
  | some K=>
   rw[hs]at h
   simp only[Option.map_some,Option.some.injEq,fF.val.injEq]at h
   obtain⟨rfl,rfl⟩:=h
   obtain⟨w',h1,h2,h3⟩:=zV hW (hρ a) (hρ x) hs
   exact⟨undef,w',σ,.inr ⟨by simp[execOp,h1],rfl⟩,.tup [] [] rfl (by simp),h2,h3,fun c pl hc=>.inl hc⟩
 | nilCheck x=>
  simp only[aX]at h
  have hx:=hρ x
  split at h<;>(try (cases h;done))<;>(rename_i heq;simp only[Option.some.injEq,fF.val.injEq]at h;obtain⟨rfl,rfl⟩:=h;rw[heq]at hx;generalize he:ρ' x=x' at hx;have hx2:=hx;cases hx2;exact bz.pure hW (by simp only[execOp,he];rfl) hx)
 | binOp op t x y yt=>simp only[aX]at h;obtain⟨h1,rfl⟩:=eE h;exact bz.of_val hW (Bw fit.flat (hρ x) (hρ y) h1)
 | unOp op t x=>simp only[aX]at h;obtain⟨h1,rfl⟩:=eE h;exact bz.of_val hW (Ch (hρ x) h1)
 | convert s d x=>simp only[aX]at h;obtain⟨h1,rfl⟩:=eE h;exact bz.of_val hW (zS (hρ x) h1)
 | makeFunc fn first cap=>
  cases fn with
  | func f=>
   simp only[aX]at h
   split at h
   ·rename_i hf
    simp only[Option.some.injEq,fF.val.injEq]at h
    obtain⟨rfl,rfl⟩:=h
    have e:first=#[]:=Array.eq_empty_of_size_eq_zero hf
    subst e
    refine bz.pure hW (v':=.func (.func f) #[] (cap.toList.map ρ').toArray) (by simp[execOp,Instr.makeFunc];apply Array.ext';simp) (.fn f _ _ (by simp) fun i a v h1 h2=>?_)
    rw[List.getElem?_map]at h1 h2
    cases hc:cap.toList[i]? with
    | none=>rw[hc]at h1;cases h1
    | some q=>rw[hc]at h1 h2;cases h1;cases h2;exact hρ q
   ·cases h
  | _=>simp[aX]at h
 | makeSlice t l c=>
  simp only[aX]at h
  split at h
  ·rename_i e hu
   split at h
   ·rename_i n by_ z l' c' hn hby hz hl hc
    split at h
    ·rename_i hcond
     obtain⟨c1,c2,c3,c4,c5⟩:=hcond
     simp only[Option.some.injEq,fF.val.injEq]at h
     obtain⟨rfl,rfl⟩:=h
     exact bz.of_done (uw hW hb hlt (hρ l) (hρ c) hu hn hby hz hl hc c1 c2 c3 c4 c5)
    ·cases h
   ·cases h
  ·cases h
 | slice t x lo hi mx=>
  simp only[aX]at h
  split at h
  ·cases h
  ·rename_i hcond
   obtain⟨h1,rfl⟩:=eE h
   refine bz.of_val hW (yp hW (hρ x) (F7 hρ lo) (F7 hρ hi) (F7 hρ mx) (fun hh=>?_) h1)
   cases hi with
   | none=>cases mx with
    | none=>rfl
    | some m=>simp at hcond
   | some q=>simp at hh
 | fieldAddr s x f=>simp only[aX]at h;obtain⟨h1,rfl⟩:=eE h;exact bz.of_val hW (tm (hρ x) h1)
 | field s x f=>simp only[aX]at h;obtain⟨h1,rfl⟩:=eE h;exact bz.of_val hW (ym (hρ x) h1)
 | indexAddr t x ix=>simp only[aX]at h;obtain⟨h1,rfl⟩:=eE h;exact bz.of_val hW (tn hW (hρ x) (hρ ix) h1)
 | index t x ix=>simp only[aX]at h;obtain⟨h1,rfl⟩:=eE h;exact bz.of_val hW (yn (hρ x) (hρ ix) h1)
 | extract x i=>
  simp only[aX]at h
  split at h
  ·rename_i vs hx
   obtain⟨h1,rfl⟩:=eE h
   have:=hρ x
   rw[hx]at this
   generalize he:ρ' x=x' at this
   cases this with
   | tup _ us hl hr=>
   have hi:=ax h1
   have hi':i<us.length:=by omega
   exact bz.pure hW (v':=us[i]) (by simp[execOp,he,Instr.extract,hi']) (hr i v _ h1 (List.getElem?_eq_getElem hi'))
  ·cases h
 | call c=>
  simp only[aX]at h
  obtain⟨callee,args,types⟩:=c
  obtain⟨args⟩:=args
  obtain⟨types⟩:=types
  simp only[]at h
  split at h
  ·rename_i bi
   cases hbi:aT P H b bi types.toArray (args.map ρ)with
   | none=>rw[hbi]at h;cases h
   | some r=>
    obtain⟨v0,K⟩:=r
    rw[hbi]at h
    simp only[Option.map_some,Option.some.injEq,fF.val.injEq]at h
    obtain⟨rfl,rfl⟩:=h
    have key:∀cn,bz P (builtin bi ⟨types⟩ ty cn ((⟨args⟩:Array Operand).map ρ')) w σ H b v0 K:=fun cn=>wC hW hb hlt hρ hbi
    exact key _
  ·rename_i f
   split at h<;>simp at h
  ·cases h
 | _=>simp[aX]at h
theorem yw(fit:Fit P F){o:Oper}{ρ:Operand→AV}{ρ':Operand→Value}(hρ:∀x,bl w σ (aQ σ H) (ρ x) (ρ' x)){g:FuncId}{args:List AV}{fn:Func}{c:Code}
  (h:aX P F o.op ρ b H=some (.call g args)) (hg:P.funcs[g]? =some fn) (hc:fn.body=some c) :
  ∃vs:List Value,(execOp ρ' o).run P w=.ok (.enter g vs.toArray) w∧db w σ (aQ σ H) args vs:=by
 obtain⟨dst,op,ty,pos,after,guard⟩:=o
 simp only[]at h
 cases op with
 | call c=>
  simp only[aX]at h
  obtain⟨callee,qs,types⟩:=c
  obtain⟨qs⟩:=qs
  simp only[]at h
  split at h
  ·rename_i bi
   cases hbi:aT P H b bi types (qs.map ρ)with
   | none=>rw[hbi]at h;cases h
   | some r=>rw[hbi]at h;cases h
  ·rename_i f
   split at h
   ·rename_i g' cs hf
    simp only[Option.some.injEq,fF.call.injEq]at h
    obtain⟨rfl,rfl⟩:=h
    have:=hρ f
    rw[hf]at this
    generalize he:ρ' f=f' at this
    cases this with
    | fn _ _ us hl hr=>
    have hnm : ¬ fn.name = "runtime.NumGoroutine" := fit.names _ _ hg
    refine⟨qs.map ρ'++us,?_,by simp[hl],fun i a v h1 h2=>?_⟩
    ·simp[execOp,resolve,he,Deferred.ofValue,invoke,callFunc,hg,hnm,hc]
    ·rcases Nat.lt_or_ge i qs.length with hi | hi
     ·rw[List.getElem?_append_left (by simpa using hi),List.getElem?_map]at h1 h2
      rw[List.getElem?_eq_getElem hi]at h1 h2
      cases h1
      cases h2
      exact hρ _
     ·rw[List.getElem?_append_right (by simpa using hi)]at h1 h2
      simp only[List.length_map]at h1 h2
      exact hr _ a v h1 h2
   ·cases h
  ·cases h
 | makeFunc fn first cap=>cases fn<;>simp only[aX]at h<;>(try split at h)<;>simp at h
 | _=>
  exfalso
  simp only[aX]at h
  repeat' (first | (cases h;done) | (simp at h;done) | split at h)
end
end Go.Proofs.Ytljkdffikfkcgaa.Am
end
section
namespace Go.Proofs.Ytljkdffikfkcgaa.Am
set_option linter.unusedVariables false
def bQ(w:World)(σ:bq)(T:Nat→Prop)(τ:List AV)(a:Act):Prop:=db w σ T τ a.tmps.toList∧a.defers=[]
theorem bQ.mono{w w':World}{σ σ':bq}{T T':Nat→Prop}(e:en w σ T w' σ' T'){τ:List AV}{a:Act}(h:bQ w σ T τ a):bQ w' σ' T' τ a:=⟨h.1.mono e,h.2⟩
section
variable {P:Program} {F:TypeId→Option (List TypeId)} {w:World} {σ:bq} {T:Nat→Prop}
theorem iD:bl w σ T aZ undef:=.tup [] [] rfl (by simp)
theorem bQ.eval{τ:List AV}{a:Act}(h:bQ w σ T τ a)(x:Operand):bl w σ T (gP τ x) (a.eval x):=by
 cases x with
 | tmp t=>
  simp only[gP,Act.eval]
  have hl:=h.1.1
  simp only[Array.length_toList]at hl
  rcases Nat.lt_or_ge t τ.length with ht | ht
  ·have e1:τ.getD t aZ=τ[t]:=by simp[List.getD,ht]
   have ht':t<a.tmps.size:=hl▸ht
   have e2:a.tmps.getD t undef=a.tmps[t]:=by simp[Array.getD,ht']
   rw[e1,e2]
   exact h.1.2 t _ _ (List.getElem?_eq_getElem ht) (by rw[Array.getElem?_toList,Array.getElem?_eq_getElem ht'])
  ·have e1:τ.getD t aZ=aZ:=by simp[List.getD,List.getElem?_eq_none ht]
   have ht':¬t<a.tmps.size:=Nat.not_lt.2 (hl▸ht)
   have e2:a.tmps.getD t undef=undef:=by simp[Array.getD,ht']
   rw[e1,e2]
   exact iD
 | const v=>
  simp only[gP,Act.eval]
  cases hv:Ce v with
  | none=>exact .junk _
  | some a=>exact yl hv
 | global g=>exact .junk _
 | func f=>exact .fn f [] [] rfl (by simp)
theorem bQ.put{τ:List AV}{a:Act}(h:bQ w σ T τ a)(dst:Option Tmp){v:AV}{v':Value}(hv:bl w σ T v v'):bQ w σ T (ey τ dst v) (a.put dst v'):=by
 cases dst with
 | none=>exact h
 | some d=>
  refine⟨⟨by simpa[ey,Act.put]using h.1.1,fun i x u h1 h2=>?_⟩,h.2⟩
  simp only[ey,Act.put,Array.toList_setIfInBounds,List.getElem?_set]at h1 h2
  by_cases hd:d=i
  ·subst hd
   simp only[if_true]at h1 h2
   split at h1
   ·split at h2
    ·cases h1;cases h2;exact hv
    ·cases h2
   ·cases h1
  ·rw[if_neg hd]at h1 h2
   exact h.1.2 i x u h1 h2
theorem fR{ops:Array Oper}{o:Oper}{τ:List AV}{a:Act}{t:Bool}(h:bQ w σ T τ a)(hw:cO ops o τ=some t):Region.wanted o (yielded ops a.tmps)=t:=by
 unfold cO at hw
 unfold Region.wanted
 split at hw
 ·rename_i hg;cases hw;rw[hg]
 ·rename_i j want hg
  rw[hg]
  simp only[]
  unfold yielded
  split at hw
  ·rename_i d hd
   rw[hd]
   simp only[Option.bind_some]
   have get:∀x,τ[d]? =some x→∃u,a.tmps[d]? =some u∧bl w σ T x u:=fun x hx=>by
    have hl:=h.1.1
    simp only[Array.length_toList]at hl
    have hlt:=ax hx
    exact⟨a.tmps[d],Array.getElem?_eq_getElem (by omega),h.1.2 d x _ hx (by rw[Array.getElem?_toList,Array.getElem?_eq_getElem (by omega)])⟩
   split at hw
   ·rename_i b hb
    obtain⟨u,h1,h2⟩:=get _ hb
    rw[h1]
    cases h2
    cases hw
    rfl
   ·rename_i hb
    obtain⟨u,h1,h2⟩:=get _ hb
    rw[h1]
    cases hw
    cases h2 with
    | tup _ vs hl hr=>
    have:vs=[]:=by cases vs with
     | nil=>rfl
     | cons x l=>simp at hl
    subst this
    rfl
   ·cases hw
  ·cases hw
end
def mT(P:Program)(f:FuncId)(args:List AV)(H:ah)(v:AV)(H':ah):Prop:=
 ∀(w:World) (σ:bq) (vs:List Value),bc w σ H→db w σ (aQ σ H) args vs→Calls P f vs.toArray w fun e w'=>
  ∃v' σ',e=.returned v'∧bl w' σ' (aQ σ' H') v v'∧bc w' σ' H'∧en w σ (aQ σ H) w' σ' (aQ σ' H')∧∀c pl,σ' c=some pl→σ c=some pl∨H.next≤c
structure dF(P:Program)(call:FuncId→List AV→ah→Option (AV×ah)):Prop where
 ok:∀f args H v H',call f args H=some (v,H')→mT P f args H v H'
 next:∀f args H v H',call f args H=some (v,H')→H.next≤H'.next
 body:∀f args H v H',call f args H=some (v,H')→∃fn c,P.funcs[f]? =some fn∧fn.body=some c
def my(w:World)(σ:bq)(H:ah)(τ':List AV)(H':ah)(a':Act)(w':World):Prop:=
 ∃σ',bQ w' σ' (aQ σ' H') τ' a'∧bc w' σ' H'∧en w σ (aQ σ H) w' σ' (aQ σ' H')∧∀c pl,σ' c=some pl→σ c=some pl∨H.next≤c
section
variable {P:Program} {F:TypeId→Option (List TypeId)} {call:FuncId→List AV→ah→Option (AV×ah)} {ops:Array Oper} {base:Nat} {Q:Exit→Act→World→Prop}
theorem uy{o:Op}{ρ:Operand→AV}{b:Nat}{H H':ah}{v:AV}(h:aX P F o ρ b H=some (.val v H')):H'.next=H.next:=by
 cases o with
 | store t a x=>
  simp only[aX]at h
  cases hs:eC P H t (ρ a) (ρ x)with
  | none=>rw[hs]at h;cases h
  | some K=>
   rw[hs]at h
   cases h
   unfold eC at hs
   repeat' (first | (cases hs;rfl) | (cases hs;done) | split at hs)
 | call c=>
  simp only[aX]at h
  split at h
  ·rename_i bi _
   cases hbi:aT P H b bi c.argTypes (c.args.toList.map ρ)with
   | none=>rw[hbi]at h;cases h
   | some r=>
    obtain⟨v0,K⟩:=r
    rw[hbi]at h
    cases h
    unfold aT at hbi
    split at hbi
    ·repeat' (first | (cases hbi;rfl) | (cases hbi;done) | split at hbi)
    ·split at hbi
     ·rw[Option.map_eq_some_iff]at hbi
      obtain⟨n,_,hn⟩:=hbi
      cases hn
      rfl
     ·cases hbi;rfl
     ·cases hbi
    ·split at hbi
     ·split at hbi
      ·unfold cq at hbi
       repeat' (first | (cases hbi;rfl) | (cases hbi;done) | split at hbi)
      ·cases hbi
     ·cases hbi
    ·repeat' (first | (cases hbi;rfl) | (cases hbi;done) | split at hbi)
    ·repeat' (first | (cases hbi;rfl) | (cases hbi;done) | split at hbi)
    ·split at hbi
     ·rw[Option.map_eq_some_iff]at hbi
      obtain⟨K1,hk,hn⟩:=hbi
      cases hn
      unfold dJ at hk
      repeat' (first | (cases hk;rfl) | (cases hk;done) | split at hk)
     ·cases hbi
    ·cases hbi
  ·split at h<;>cases h
  ·cases h
 | makeFunc fn first cap=>cases fn<;>simp only[aX]at h<;>(try split at h)<;>cases h<;>rfl
 | buildSlice t len parts=>
  simp only[aX]at h
  split at h
  ·split at h
   ·split at h
    ·rename_i n z _ _ _
     cases hf:cZ n (List.replicate len z) (parts.toList.map fun p=>(p.1,ρ p.2))with
     | none=>rw[hf]at h;cases h
     | some rows=>rw[hf]at h;cases h;rfl
    ·cases h
   ·cases h
  ·cases h
 | _=>
  simp only[aX]at h
  first
   | (obtain⟨_,rfl⟩:=eE h;rfl)
   | (repeat' (first | (cases h;rfl) | (cases h;done) | (obtain⟨_,rfl⟩:=eE h;rfl) | split at h))
theorem jf(hc:dF P call){i:Nat}{τ τ':List AV}{H H':ah}(h:gS P F call ops base i τ H=some (τ',H')):H.next≤H'.next:=by
 unfold gS at h
 split at h
 ·cases h
 ·split at h
  ·split at h
   ·rename_i hop;cases h;rw[uy hop];exact Nat.le_refl _
   ·split at h
    ·rename_i hcall;cases h;exact hc.next _ _ _ _ _ hcall
    ·cases h
   ·cases h
  ·cases h;exact Nat.le_refl _
  ·cases h
theorem yx(fit:Fit P F)(hc:dF P call){i:Nat}{τ τ':List AV}{H H':ah}{w:World}{σ:bq}{a:Act}(h:gS P F call ops base i τ H=some (τ',H'))(hW:bc w σ H)(hτ:bQ w σ (aQ σ H) τ a)
  (hb:σ (base+i)=none) (hlt:base+i<H.next) {K:Act→World→Prop}
  (hK:∀a' w' σ',bQ w' σ' (aQ σ' H') τ' a'→bc w' σ' H'→en w σ (aQ σ H) w' σ' (aQ σ' H')→(∀c pl,σ' c=some pl→σ c=some pl∨c=base+i∨H.next≤c)→K a' w'):wpOp P ops Q i K a w:=by
 unfold gS at h
 split at h
 ·cases h
 ·rename_i o ho
  unfold wpOp
  rw[ho]
  simp only[]
  split at h
  ·rename_i hwant
   rw[if_pos (fR hτ hwant)]
   left
   unfold Oper.wp
   split at h
   ·rename_i v K' hop
    cases h
    obtain⟨v',w',σ',h1,h2,h3,h4,h5⟩:=wW fit hW hb hlt (o:=o) hτ.eval hop
    have hk:=hK (a.put o.dst v') w' σ' ((hτ.mono h4).put o.dst h2) h3 h4 (fun c pl hcp=>by
     rcases h5 c pl hcp with h6 | h6
     ·exact .inl h6
     ·exact .inr (.inl h6))
    rcases h1 with h1 | ⟨h1,rfl⟩
    ·rw[h1];exact hk
    ·rw[h1];exact hk
   ·rename_i f args hop
    split at h
    ·rename_i v K' hcall
     cases h
     obtain⟨fn,c,hf,hbd⟩:=hc.body _ _ _ _ _ hcall
     obtain⟨vs,h1,h2⟩:=yw fit (o:=o) (b:=base+i) hτ.eval hop hf hbd
     rw[h1]
     refine(hc.ok _ _ _ _ _ hcall w σ vs hW h2).mono ?_
     rintro e w' ⟨v',σ',rfl,g1,g2,g3,g4⟩
     exact hK (a.put o.dst v') w' σ' ((hτ.mono g3).put o.dst g1) g2 g3 (fun c pl hcp=>by
      rcases g4 c pl hcp with h6 | h6
      ·exact .inl h6
      ·exact .inr (.inr h6))
    ·cases h
   ·cases h
  ·rename_i hwant
   rw[if_neg (by rw[fR hτ hwant];simp)]
   cases h
   exact hK _ w σ (hτ.put o.dst iD) hW (en.refl _ _ _) (fun c pl hcp=>.inl hcp)
  ·cases h
theorem wX(hc:dF P call):∀(l:List Nat) (τ:List AV) (H:ah) (τ':List AV) (H':ah),jc P F call ops base l τ H=some (τ',H')→H.next≤H'.next
 | [],τ,H,τ',H',h=>by cases h;exact Nat.le_refl _
 | i::l,τ,H,τ',H',h=>by
  unfold jc at h
  split at h
  ·rename_i τ1 H1 hs
   exact Nat.le_trans (jf hc hs) (wX hc l _ _ _ _ h)
  ·cases h
theorem uz(fit:Fit P F)(hc:dF P call):∀(l:List Nat) (τ:List AV) (H:ah) (τ':List AV) (H':ah),jc P F call ops base l τ H=some (τ',H')→l.Nodup→∀(w:World) (σ:bq) (a:Act),
  bc w σ H→bQ w σ (aQ σ H) τ a→(∀i∈l,σ (base+i)=none∧base+i<H.next)→(∀a' w' σ',bQ w' σ' (aQ σ' H') τ' a'→bc w' σ' H'→en w σ (aQ σ H) w' σ' (aQ σ' H')→
   (∀c pl,σ' c=some pl→σ c=some pl∨(∃i∈l,c=base+i)∨H.next≤c)→Q .normal a' w')→wpOps P ops Q l a w
 | [],τ,H,τ',H',h,_,w,σ,a,hW,hτ,_,hQ=>by
  cases h
  exact hQ a w σ hτ hW (en.refl _ _ _) (fun c pl hcp=>.inl hcp)
 | i::l,τ,H,τ',H',h,hnd,w,σ,a,hW,hτ,hfr,hQ=>by
  unfold jc at h
  split at h
  ·rename_i τ1 H1 hs
   rw[wpOps_cons]
   refine yx fit hc hs hW hτ (hfr i (by simp)).1 (hfr i (by simp)).2 fun a1 w1 σ1 t1 r1 e1 n1=>?_
   have hnd':=List.nodup_cons.1 hnd
   refine uz fit hc l τ1 H1 τ' H' h hnd'.2 w1 σ1 a1 r1 t1 (fun j hj=>?_) (fun a' w' σ' t2 r2 e2 n2=>hQ a' w' σ' t2 r2 (e1.trans e2) (fun c pl hcp=>?_))
   ·have hji:j≠i:=by rintro rfl;exact hnd'.1 hj
    have hj0:=hfr j (by simp[hj])
    refine⟨?_,Nat.lt_of_lt_of_le hj0.2 (jf hc hs)⟩
    cases hs1:σ1 (base+j)with
    | none=>rfl
    | some pl=>
     rcases n1 _ pl hs1 with h1 | h1 | h1
     ·rw[hj0.1]at h1;cases h1
     ·omega
     ·omega
   ·rcases n2 c pl hcp with h1 | ⟨q,hq,rfl⟩ | h1
    ·rcases n1 c pl h1 with h2 | h2 | h2
     ·exact .inl h2
     ·exact .inr (.inl ⟨i,by simp,h2⟩)
     ·exact .inr (.inr h2)
    ·exact .inr (.inl ⟨q,by simp[hq],rfl⟩)
    ·exact .inr (.inr (Nat.le_trans (jf hc hs) h1))
  ·cases h
def yy:Ex→Exit
 | .normal=>.normal
 | .exit id=>.exit id
 | .ret=>.ret
def b8(P:Program)(c:Code)(τ:List AV)(H:ah)(e:Ex)(τ':List AV)(H':ah):Prop:=
 H.next≤H'.next∧∀(w:World) (σ:bq) (a:Act),bc w σ H→bQ w σ (aQ σ H) τ a→∀Q:Exit→Act→World→Prop,(∀a' w',my w σ H τ' H' a' w'→Q (yy e) a' w')→c.wp P Q a w
theorem my.refl{w:World}{σ:bq}{H:ah}{τ:List AV}{a:Act}(hW:bc w σ H)(hτ:bQ w σ (aQ σ H) τ a):my w σ H τ H a w:=⟨σ,hτ,hW,en.refl _ _ _,fun c pl h=>.inl h⟩
theorem eF(fit:Fit P F)(hc:dF P call){τ:List AV}{H:ah}{τ':List AV}{H':ah}{id:Nat}(h:cP P F call ops false τ H=some (τ',H')):b8 P (.region id ops false) τ H .normal τ' H':=by
 simp only[cP,Bool.false_eq_true,if_false]at h
 refine⟨Nat.le_trans (Nat.le_add_right _ _) (wX hc _ _ _ _ _ h),fun w σ a hW hτ Q hQ=>?_⟩
 have hW1:bc w σ {H with next:=H.next+ops.size}:=hW.congr (fun _=>rfl) (Nat.le_add_right _ _)
 have ho:aQ σ {H with next:=H.next+ops.size}=aQ σ H:=aQ.congr fun _=>rfl
 refine wp_region (uz fit hc _ τ _ τ' H' h List.nodup_range w σ a hW1 (by rw[ho];exact hτ) (fun i hi=>?_) (fun a' w' σ' t r e n=>hQ a' w' ⟨σ',t,r,by rw[ho]at e;exact e,fun c pl hcp=>?_⟩))
 ·rw[List.mem_range]at hi
  refine⟨?_,Nat.add_lt_add_left hi _⟩
  cases hs:σ (H.next+i)with
  | none=>rfl
  | some pl=>have:=hW.named _ pl hs;omega
 ·rcases n c pl hcp with h1 | ⟨i,_,rfl⟩ | h1
  ·exact .inl h1
  ·exact .inr (Nat.le_add_right _ _)
  ·exact .inr (Nat.le_trans (Nat.le_add_right _ _) h1)
theorem my.trans{w w1 w2:World}{σ σ1:bq}{H H1 H2:ah}{τ2:List AV}{a2:Act}(e:en w σ (aQ σ H) w1 σ1 (aQ σ1 H1))(n:∀c pl,σ1 c=some pl→σ c=some pl∨H.next≤c)(hn:H.next≤H1.next)(h:my w1 σ1 H1 τ2 H2 a2 w2):my w σ H τ2 H2 a2 w2:=by
 obtain⟨σ2,t,r,e2,n2⟩:=h
 refine⟨σ2,t,r,e.trans e2,fun c pl hc=>?_⟩
 rcases n2 c pl hc with h1 | h1
 ·exact n c pl h1
 ·exact .inr (Nat.le_trans hn h1)
def iE(tmps:Array Value):ResultVar→Sem Value
 | .tmp t=>Pure.pure (tmps.getD t undef)
 | .cell a t=>do loadVar t (←asAddr (tmps.getD a undef))
theorem zY(fn:Func)(tmps:Array Value):results fn tmps=(do let vs←fn.results.mapM (iE tmps);Pure.pure (if h:vs.size=1 then vs[0]else .tuple vs)):=by
 unfold results
 congr 2
theorem xq{w:World}{σ:bq}{H:ah}(hW:bc w σ H){τ:List AV}{a:Act}(hτ:bQ w σ (aQ σ H) τ a)(r:ResultVar){v:AV}(h:gT P τ H r=some v):
  ∃v',(iE a.tmps r).run P w=.ok v' w∧bl w σ (aQ σ H) v v':=by
 cases r with
 | tmp t=>cases h;exact⟨_,rfl,hτ.eval (.tmp t)⟩
 | cell x t=>
  simp only[gT]at h
  have hx:=hτ.eval (.tmp x)
  simp only[gP,Act.eval]at hx
  obtain⟨v',h1,h2⟩:=uu hW hx h
  refine⟨v',?_,h2⟩
  unfold jA at h
  split at h
  ·rename_i heq
   rw[heq]at hx
   simp only[iE]
   generalize a.tmps.getD x undef=u at hx h1
   cases hx
   simpa[Instr.loadAt,Instr.sureAddr,asAddr]using h1
  ·rename_i heq
   rw[heq]at hx
   simp only[iE]
   generalize a.tmps.getD x undef=u at hx h1
   cases hx
   simpa[Instr.loadAt,Instr.sureAddr,asAddr]using h1
  ·cases h
theorem resultList{w:World}{σ:bq}{H:ah}(hW:bc w σ H){τ:List AV}{a:Act}(hτ:bQ w σ (aQ σ H) τ a):∀(rs:List ResultVar) (vs:List AV),cE (rs.map (gT P τ H))=some vs→
  ∃us:List Value,(rs.mapM (iE a.tmps)).run P w=.ok us w∧db w σ (aQ σ H) vs us
 | [],vs,h=>by cases h;exact⟨[],rfl,rfl,by simp⟩
 | r::rs,vs,h=>by
  simp only[List.map_cons]at h
  cases hr:gT P τ H r with
  | none=>rw[hr]at h;cases h
  | some v=>
   rw[hr]at h
   simp only[cE]at h
   split at h
   ·rename_i l hl
    cases h
    obtain⟨v',h1,h2⟩:=xq hW hτ r hr
    obtain⟨us,h3,h4⟩:=resultList hW hτ rs l hl
    refine⟨v'::us,?_,by simp[h4.1],fun i x u g1 g2=>?_⟩
    ·rw[List.mapM_cons]
     simp only[Sem.run_bind,h1,Result.andThen_ok,h3,Sem.run_pure]
    ·match i with
     | 0=>cases g1;cases g2;exact h2
     | i+1=>exact h4.2 i x u (by simpa using g1) (by simpa using g2)
   ·cases h
theorem mz{w:World}{σ:bq}{H:ah}(hW:bc w σ H){τ:List AV}{a:Act}(hτ:bQ w σ (aQ σ H) τ a){fn:Func}{v:AV}(h:iz P τ H fn.results.toList=some v):
  ∃v',(results fn a.tmps).run P w=.ok v' w∧bl w σ (aQ σ H) v v':=by
 unfold iz at h
 rw[zY,Array.mapM_eq_mapM_toList]
 split at h
 ·rename_i v0 hv
  cases h
  obtain⟨us,h1,h2⟩:=resultList hW hτ _ _ hv
  have hl:=h2.1
  match us,hl with
  | [u],_=>
   exact⟨u,by simp[h1],h2.2 0 _ u rfl rfl⟩
 ·rename_i vs hne hv
  cases h
  obtain⟨us,h1,h2⟩:=resultList hW hτ _ _ hv
  have hl:us.length≠1:=by
   rw[←h2.1]
   intro h
   match vs,h with
   | [x],_=>exact hne x rfl
  exact⟨.tuple us.toArray,by simp[h1,hl],.tup _ _ h2.1 h2.2⟩
 ·cases h
theorem pN{ex:Code→List AV→ah→Option (Ex×List AV×ah)}{Good:Code→Prop}(hgood:∀(g:Nat) (fn:Func) (c:Code),P.funcs[g]? =some fn→fn.body=some c→Good c)
  (h:∀c τ H e τ' H',Good c→ex c τ H=some (e,τ',H')→b8 P c τ H e τ' H'):dF P (jd P ex):=by
 have key:∀f args H v H',jd P ex f args H=some (v,H')→∃fn c e τ' K,P.funcs[f]? =some fn∧fn.body=some c∧ex c (args++List.replicate (fn.ntmps-args.length) aZ) {H with log:=[]}=some (e,τ',K)∧
   (e=.normal∨e=.ret)∧iz P τ' K fn.results.toList=some v∧H'.next=K.next∧∀b,H'.get b=K.get b:=by
  intro f args H v H' hc
  unfold jd at hc
  split at hc
  ·rename_i fn hf
   split at hc
   ·rename_i c hb
    split at hc
    ·cases hc
    ·rename_i e τ' K hne hex
     split at hc
     ·rename_i v0 hr
      cases hc
      refine⟨fn,c,e,τ',K,hf,hb,hex,?_,hr,rfl,fun _=>rfl⟩
      cases e with
      | normal=>exact .inl rfl
      | ret=>exact .inr rfl
      | exit id=>exact absurd rfl (hne id)
     ·cases hc
    ·cases hc
   ·cases hc
  ·cases hc
 refine⟨fun f args H v H' hc=>?_,fun f args H v H' hc=>?_,fun f args H v H' hc=>?_⟩
 ·obtain⟨fn,c,e,τ',K,hf,hb,hex,he,hr,hn,hg⟩:=key f args H v H' hc
  obtain⟨n1,k1⟩:=h _ _ _ _ _ _ (hgood _ _ _ hf hb) hex
  intro w σ vs hW hvs
  have ho:aQ σ {H with log:=[]}=aQ σ H:=aQ.congr fun _=>rfl
  refine calls_of_wp hf hb (k1 w σ _ (hW.congr (fun _=>rfl) (Nat.le_refl _)) ⟨?_,rfl⟩ _ fun a' w' haf=>?_)
  ·rw[ho]
   refine⟨by simp[hvs.1],fun i x u h1 h2=>?_⟩
   simp only[Array.toList_append,Array.toList_replicate]at h2
   rcases Nat.lt_or_ge i args.length with hi | hi
   ·rw[List.getElem?_append_left hi]at h1
    rw[List.getElem?_append_left (by rw[←hvs.1];exact hi)]at h2
    exact hvs.2 i x u h1 h2
   ·rw[List.getElem?_append_right hi,List.getElem?_replicate]at h1
    rw[List.getElem?_append_right (by rw[←hvs.1];exact hi),List.getElem?_replicate]at h2
    split at h1
    ·split at h2
     ·cases h1;cases h2;exact iD
     ·cases h2
    ·cases h1
  ·obtain⟨σ',t1,r1,e1,m1⟩:=haf
   obtain⟨v',g1,g2⟩:=mz (P:=P) r1 t1 hr
   have hoK:aQ σ' H'=aQ σ' K:=aQ.congr hg
   have hpost:a'.defers=[]∧∃v,(results fn a'.tmps).run P w'=.ok v w'∧∃v' σ',Ending.returned v=.returned v'∧bl w' σ' (aQ σ' H') _ v'∧bc w' σ' H'∧en w σ (aQ σ H) w' σ' (aQ σ' H')∧∀c pl,σ' c=some pl→σ c=some pl∨H.next≤c:=
    ⟨t1.2,v',g1,v',σ',rfl,by rw[hoK];exact g2,r1.congr hg (by rw[hn];exact Nat.le_refl _),by rw[hoK];rw[ho]at e1;exact e1,m1⟩
   rcases he with rfl | rfl
   ·exact hpost
   ·exact hpost
 ·obtain⟨fn,c,e,τ',K,hf,hb,hex,he,hr,hn,hg⟩:=key f args H v H' hc
  rw[hn]
  exact(h _ _ _ _ _ _ (hgood _ _ _ hf hb) hex).1
 ·obtain⟨fn,c,e,τ',K,hf,hb,_⟩:=key f args H v H' hc
  exact⟨fn,c,hf,hb⟩
end
end Go.Proofs.Ytljkdffikfkcgaa.Am
end
section
namespace Go.Proofs.Ytljkdffikfkcgaa.Am
set_option linter.unusedVariables false
def Bd(H:ah):Prop:=∀b,H.next≤b→H.get b=none
structure ub(H H':ah):Prop where
 next:H.next≤H'.next
 dom:∀b,b<H.next→H.get b=none→H'.get b=none
 keep:∀b,b<H.next→b∉H'.log→H'.get b=H.get b
 log:∀b,b∈H.log→b∈H'.log
 bd:Bd H→Bd H'
theorem ub.refl(H:ah):ub H H:=⟨Nat.le_refl _,fun _ _ h=>h,fun _ _ _=>rfl,fun _ h=>h,fun h=>h⟩
theorem ub.trans{H H' H'':ah}(h:ub H H')(k:ub H' H''):ub H H'':=
  ⟨Nat.le_trans h.next k.next,fun b hb h0=>k.dom b (Nat.lt_of_lt_of_le hb h.next) (h.dom b hb h0),
   fun b hb hl=>(k.keep b (Nat.lt_of_lt_of_le hb h.next) hl).trans (h.keep b hb (fun h1=>hl (k.log b h1))),fun b hb=>k.log b (h.log b hb),fun hb=>k.bd (h.bd hb)⟩
section
variable {P:Program} {F:TypeId→Option (List TypeId)}
structure yz(o:Op)(ρ:Operand→AV)(b:Nat)(H H':ah):Prop where
 next:H'.next=H.next
 keep:∀c,c≠b→c∉aG o ρ→H'.get c=H.get c
 keepL:∀c,c≠b→c∉H'.log→H'.get c=H.get c
 dom:∀c,c≠b→H.get c=none→H'.get c=none
 log:∀c,c∈H.log→c∈H'.log
theorem yz.same(o:Op)(ρ:Operand→AV)(b:Nat)(H:ah):yz o ρ b H H:=⟨rfl,fun _ _ _=>rfl,fun _ _ _=>rfl,fun _ _ h=>h,fun _ h=>h⟩
theorem yz.new(o:Op)(ρ:Operand→AV)(b:Nat)(H:ah)(x:Blk):yz o ρ b H (H.new b x):=
 ⟨rfl,fun c hc _=>by rw[ah.get_new,if_neg (fun e=>hc e.symm)],fun c hc _=>by rw[ah.get_new,if_neg (fun e=>hc e.symm)],fun c hc h=>by rw[ah.get_new,if_neg (fun e=>hc e.symm)];exact h,fun _ h=>h⟩
theorem xr{o:Op}{ρ:Operand→AV}{b:Nat}{H H':ah}{v:AV}(h:aX P F o ρ b H=some (.val v H')):yz o ρ b H H':=by
 cases o with
 | store t a x=>
  simp only[aX]at h
  cases hs:eC P H t (ρ a) (ρ x)with
  | none=>rw[hs]at h;cases h
  | some K=>
   rw[hs]at h
   cases h
   unfold eC at hs
   split at hs
   ·rename_i c i off cs n ha hcs hn
    split at hs
    ·rename_i y hy
     split at hs
     ·rename_i r hr
      split at hs
      ·cases hs
       have hw:aG (.store t a x) ρ=[c]:=by simp[aG,ha,af]
       refine⟨rfl,fun d hd hn=>?_,fun d hd hl=>?_,fun d hd h0=>?_,fun d hl=>List.mem_cons_of_mem _ hl⟩
       ·rw[ah.get_put,if_neg (by rintro rfl;exact hn (by rw[hw];simp))]
       ·rw[ah.get_put,if_neg (by rintro rfl;exact hl (by simp[ah.put]))]
       ·rw[ah.get_put]
        split
        ·rename_i e;subst e;rw[hy]at h0;cases h0
        ·exact h0
      ·cases hs
     ·cases hs
    ·cases hs
   ·cases hs
 | call c=>
  simp only[aX]at h
  split at h
  ·rename_i bi hcal
   cases hbi:aT P H b bi c.argTypes (c.args.toList.map ρ)with
   | none=>rw[hbi]at h;cases h
   | some r=>
    obtain⟨v0,K⟩:=r
    rw[hbi]at h
    cases h
    unfold aT at hbi
    split at hbi
    ·split at hbi
     ·cases hbi;exact .same _ _ _ _
     ·cases hbi
    ·split at hbi
     ·rw[Option.map_eq_some_iff]at hbi
      obtain⟨n,_,hn⟩:=hbi
      cases hn
      exact .same _ _ _ _
     ·cases hbi;exact .same _ _ _ _
     ·cases hbi
    ·rename_i s x heq
     split at hbi
     ·split at hbi
      ·obtain⟨a0,a1,hargs,h0,h1⟩:=kR heq
       unfold cq at hbi
       split at hbi
       ·split at hbi
        ·split at hbi
         ·rename_i l m hl hm
          split at hbi
          ·split at hbi
           ·split at hbi
            ·cases hbi;exact .same _ _ _ _
            ·cases hbi;exact .new _ _ _ _ _
           ·split at hbi
            ·cases hbi;exact .same _ _ _ _
            ·cases hbi;exact .new _ _ _ _ _
           ·rename_i b' i k
            cases hbi
            have hw:aG (.call c) ρ=[b']:=by simp[aG,hcal,hargs,h0,af]
            refine⟨rfl,fun d hd hn=>?_,fun d hd hl=>?_,fun d hd h0=>?_,fun d hl=>List.mem_cons_of_mem _ hl⟩
            ·rw[ah.get_new,if_neg (fun e=>hd e.symm),ah.get_put,if_neg (by rintro rfl;exact hn (by rw[hw];simp))]
            ·rw[ah.get_new,if_neg (fun e=>hd e.symm),ah.get_put,if_neg (by rintro rfl;exact hl (by simp[ah.put,ah.new]))]
            ·rw[ah.get_new,if_neg (fun e=>hd e.symm),ah.get_put]
             split
             ·rfl
             ·exact h0
           ·cases hbi
          ·cases hbi
         ·cases hbi
        ·cases hbi
       ·cases hbi
      ·cases hbi
     ·cases hbi
    ·split at hbi
     ·cases hbi;exact .same _ _ _ _
     ·cases hbi
    ·split at hbi
     ·cases hbi;exact .same _ _ _ _
     ·cases hbi
    ·rename_i x heq
     split at hbi
     ·rename_i t htt
      cases hcl:dJ P H t x with
      | none=>rw[hcl]at hbi;cases hbi
      | some K1=>
       rw[hcl]at hbi
       cases hbi
       obtain⟨a0,hargs,h0⟩:=kQ heq
       unfold dJ at hcl
       split at hcl
       ·split at hcl
        ·split at hcl
         ·cases hcl;exact .same _ _ _ _
         ·rename_i d i k
          split at hcl
          ·rename_i y hy
           split at hcl
           ·cases hcl
            have hw:aG (.call c) ρ=[d]:=by simp[aG,hcal,hargs,h0,af]
            refine⟨rfl,fun d' hd hn=>?_,fun d' hd hl=>?_,fun d' hd h0=>?_,fun d' hl=>List.mem_cons_of_mem _ hl⟩
            ·rw[ah.get_put,if_neg (by rintro rfl;exact hn (by rw[hw];simp))]
            ·rw[ah.get_put,if_neg (by rintro rfl;exact hl (by simp[ah.put]))]
            ·rw[ah.get_put]
             split
             ·rename_i e;subst e;rw[hy]at h0;cases h0
             ·exact h0
           ·cases hcl
          ·cases hcl
         ·cases hcl
        ·cases hcl
       ·cases hcl
     ·cases hbi
    ·cases hbi
  ·split at h<;>cases h
  ·cases h
 | makeFunc fn first cap=>cases fn<;>simp only[aX]at h<;>(try split at h)<;>cases h<;>exact .same _ _ _ _
 | buildSlice t len parts=>
  simp only[aX]at h
  split at h
  ·split at h
   ·split at h
    ·rename_i n z _ _ _
     cases hf:cZ n (List.replicate len z) (parts.toList.map fun p=>(p.1,ρ p.2))with
     | none=>rw[hf]at h;cases h
     | some rows=>rw[hf]at h;cases h;exact .new _ _ _ _ _
    ·cases h
   ·cases h
  ·cases h
 | _=>
  simp only[aX]at h
  first
   | (obtain⟨_,rfl⟩:=eE h;exact .same _ _ _ _)
   | (repeat' (first | (cases h;exact .same _ _ _ _) | (cases h;exact .new _ _ _ _ _) | (cases h;done) | (obtain⟨_,rfl⟩:=eE h;exact .same _ _ _ _) | split at h))
theorem ep(base mask:Nat):∀(k:Nat) (H:ah),(cN base mask k H).next=H.next∧(cN base mask k H).log=H.log
 | 0,H=>⟨rfl,rfl⟩
 | k+1,H=>by
  unfold cN
  split
  ·exact ep base mask k H
  ·exact ep base mask k _
theorem fm(base mask:Nat):∀(k:Nat) (H:ah) (c:Nat),(cN base mask k H).get c=if(∃j,j<k∧mask.testBit j=false∧c=base+j)then none else H.get c
 | 0,H,c=>by simp[cN]
 | k+1,H,c=>by
  unfold cN
  rw[fm base mask k]
  by_cases h1:∃j,j<k∧mask.testBit j=false∧c=base+j
  ·obtain⟨j,hj⟩:=h1
   rw[if_pos ⟨j,hj⟩,if_pos ⟨j,by omega,hj.2⟩]
  ·rw[if_neg h1]
   by_cases hm:mask.testBit k=true
   ·rw[if_pos hm,if_neg]
    rintro⟨j,hj,hb,hc⟩
    by_cases hjk:j=k
    ·subst hjk;rw[hm]at hb;cases hb
    ·exact h1 ⟨j,by omega,hb,hc⟩
   ·rw[if_neg hm]
    show(H.tr.set (base+k) none).get c=_
    rw[Tr.get_set]
    by_cases hc:base+k=c
    ·rw[if_pos hc,if_pos ⟨k,by omega,by simpa using hm,hc.symm⟩]
    ·rw[if_neg hc,if_neg]
     ·rfl
     rintro⟨j,hj,hb,hc'⟩
     by_cases hjk:j=k
     ·subst hjk;exact hc hc'.symm
     ·exact h1 ⟨j,by omega,hb,hc'⟩
theorem eY(base mask:Nat)(H:ah):∀(k:Nat) (K:ah),(fG base mask H k K).next=K.next∧(fG base mask H k K).log=K.log
 | 0,K=>⟨rfl,rfl⟩
 | k+1,K=>by
  unfold fG
  split
  ·exact eY base mask H k K
  ·exact eY base mask H k _
theorem iF(base mask:Nat)(H:ah):∀(k:Nat) (K:ah) (c:Nat),(fG base mask H k K).get c=if(∃j,j<k∧mask.testBit j=false∧c=base+j)then H.get c else K.get c
 | 0,K,c=>by simp[fG]
 | k+1,K,c=>by
  unfold fG
  rw[iF base mask H k]
  by_cases h1:∃j,j<k∧mask.testBit j=false∧c=base+j
  ·obtain⟨j,hj⟩:=h1
   rw[if_pos ⟨j,hj⟩,if_pos ⟨j,by omega,hj.2⟩]
  ·rw[if_neg h1]
   by_cases hm:mask.testBit k=true
   ·rw[if_pos hm,if_neg]
    rintro⟨j,hj,hb,hc⟩
    by_cases hjk:j=k
    ·subst hjk;rw[hm]at hb;cases hb
    ·exact h1 ⟨j,by omega,hb,hc⟩
   ·rw[if_neg hm]
    show(K.tr.set (base+k) (H.tr.get (base+k))).get c=_
    rw[Tr.get_set]
    by_cases hc:base+k=c
    ·rw[if_pos hc,if_pos ⟨k,by omega,by simpa using hm,hc.symm⟩,←hc];rfl
    ·rw[if_neg hc,if_neg]
     ·rfl
     rintro⟨j,hj,hb,hc'⟩
     by_cases hjk:j=k
     ·subst hjk;exact hc hc'.symm
     ·exact h1 ⟨j,by omega,hb,hc'⟩
structure Fu(B:Nat)(W:Nat→Prop)(H H':ah):Prop where
 next:H.next≤H'.next
 dom:∀b,b<B→H.get b=none→H'.get b=none
 keep:∀b,b<B→¬W b→H'.get b=H.get b
 bd:Bd H→Bd H'
theorem Fu.refl(B:Nat)(W:Nat→Prop)(H:ah):Fu B W H H:=⟨Nat.le_refl _,fun _ _ h=>h,fun _ _ _=>rfl,fun h=>h⟩
theorem Fu.trans{B:Nat}{W W':Nat→Prop}{H H' H'':ah}(h:Fu B W H H')(k:Fu B W' H' H'')(hW:∀b,W b→W' b):Fu B W' H H'':=
 ⟨Nat.le_trans h.next k.next,fun b hb h0=>k.dom b hb (h.dom b hb h0),fun b hb hn=>(k.keep b hb hn).trans (h.keep b hb (fun hw=>hn (hW b hw))),fun hb=>k.bd (h.bd hb)⟩
variable {call:FuncId→List AV→ah→Option (AV×ah)} {ops:Array Oper} {base:Nat}
theorem Ci{o:Op}{ρ:Operand→AV}{b:Nat}{H H':ah}{v:AV}(h:aX P F o ρ b H=some (.val v H'))(hb:b<H.next)(h0:Bd H):Bd H':=by
 have hc:=xr h
 intro c hcn
 rw[hc.next]at hcn
 exact hc.dom c (by omega) (h0 c hcn)
theorem Bx(hc:∀f args H v H',Bd H→call f args H=some (v,H')→ub H H'){B i:Nat}{τ τ':List AV}{H H':ah}(hbd:Bd H)(hB:B≤base)(hlt:base+i<H.next)(h:gS P F call ops base i τ H=some (τ',H')):Fu B (·∈H'.log) H H'∧∀c,c∈H.log→c∈H'.log:=by
 unfold gS at h
 split at h
 ·cases h
 ·split at h
  ·split at h
   ·rename_i hop
    cases h
    have hcg:=xr hop
    exact⟨⟨by rw[hcg.next];exact Nat.le_refl _,fun c hcb h0=>hcg.dom c (by omega) h0,fun c hcb hn=>hcg.keepL c (by omega) hn,Ci hop hlt⟩,hcg.log⟩
   ·split at h
    ·rename_i hcall
     cases h
     have hcg:=hc _ _ _ _ _ hbd hcall
     exact⟨⟨hcg.next,fun c hcb h0=>hcg.dom c (by omega) h0,fun c hcb hn=>hcg.keep c (by omega) hn,hcg.bd⟩,hcg.log⟩
    ·cases h
   ·cases h
  ·cases h;exact⟨.refl _ _ _,fun _ h=>h⟩
  ·cases h
theorem yA(hc:∀f args H v H',Bd H→call f args H=some (v,H')→ub H H'){B:Nat}(hB:B≤base):∀(l:List Nat) (τ τ':List AV) (H H':ah),Bd H→(∀i∈l,base+i<H.next)→jc P F call ops base l τ H=some (τ',H')→
  Fu B (·∈H'.log) H H'∧∀c,c∈H.log→c∈H'.log
 | [],τ,τ',H,H',_,_,h=>by cases h;exact⟨.refl _ _ _,fun _ h=>h⟩
 | i::l,τ,τ',H,H',hbd,hl,h=>by
  unfold jc at h
  split at h
  ·rename_i τ1 H1 hs
   obtain⟨h1,l1⟩:=Bx hc hbd hB (hl i (by simp)) hs
   obtain⟨h2,l2⟩:=yA hc hB l _ _ _ _ (h1.bd hbd) (fun j hj=>Nat.lt_of_lt_of_le (hl j (by simp[hj])) h1.next) h
   exact⟨h1.trans h2 l2,fun c hcl=>l2 c (l1 c hcl)⟩
  ·cases h
def touched(r:Option mt)(c:Nat):Prop:=∃x,r=some x∧(c∈x.writes∨c∈x.made∨(x.isCall=true∧x.lo≤c∧c<x.hi))
structure Fv(base i:Nat)(H H':ah)(r:Option mt):Prop where
 next:H.next≤H'.next
 log:H'.log=H.log
 keep:Bd H→∀c,¬touched r c→H'.get c=H.get c
 dom:∀c,c<H.next→c≠base+i→H.get c=none→H'.get c=none
 bd:Bd H→Bd H'
 made:∀x,r=some x→(∀c∈x.made,c=base+i)∧(x.isCall=true→x.lo=H.next)
theorem fS(hc:∀f args H v H',Bd H→call f args H=some (v,H')→ub H H'){i mask:Nat}{τ τ':List AV}{H H':ah}{r:Option mt}(hbd:Bd H)(hlt:base+i<H.next)(h:aY P F call ops base i mask τ H=some (τ',H',r)):Fv base i H H' r:=by
 unfold aY at h
 split at h
 ·cases h
 ·rename_i o ho
  split at h
  ·split at h
   ·rename_i v K hop
    cases h
    have hcg:=xr hop
    refine⟨by show H.next≤K.next;rw[hcg.next];exact Nat.le_refl _,rfl,fun _ c hn=>?_,fun c _ hcb h0=>hcg.dom c hcb h0,fun h0 c hcn=>Ci hop hlt h0 c hcn,fun x hx=>?_⟩
    ·refine hcg.keep c (fun e=>hn ⟨_,rfl,.inr (.inl (by simp[e]))⟩) (fun hw=>hn ⟨_,rfl,.inl hw⟩)
    ·cases hx;exact⟨by simp,by simp⟩
   ·rename_i f args hop
    split at h
    ·rename_i v K hcall
     cases h
     have hn1:(cN base mask i H).next=H.next:=(ep base mask i H).1
     have hbd1:Bd ({cN base mask i H with log:=[]}:ah):=fun d hd=>by
      show(cN base mask i H).get d=none
      rw[fm]
      split
      ·rfl
      ·exact hbd d (by simp only[hn1]at hd;exact hd)
     have hcg:=hc _ _ _ _ _ hbd1 hcall
     have hn2:=hcg.next
     simp only[hn1]at hn2
     refine⟨by show H.next≤(fG base mask H i K).next;rw[(eY base mask H i K).1];exact hn2,rfl,fun h0 c hn=>?_,fun c hcn hcb h0=>?_,fun h0 c hcn=>?_,fun x hx=>?_⟩
     ·show(fG base mask H i K).get c=H.get c
      rw[iF]
      split
      ·rfl
      ·rename_i hh
       have hg:({cN base mask i H with log:=[]}:ah).get c=H.get c:=by
        show(cN base mask i H).get c=_
        rw[fm,if_neg hh]
       rcases Nat.lt_or_ge c H.next with hcn | hcn
       ·by_cases hl:c∈K.log
        ·cases hgc:(cN base mask i H).get c with
         | none=>
          have h1:({cN base mask i H with log:=[]}:ah).get c=none:=hgc
          rw[hcg.dom c (by simp only[hn1];exact hcn) h1,←hg,h1]
         | some y=>exact absurd ⟨_,rfl,.inl (List.mem_filter.2 ⟨hl,by simp[hgc]⟩)⟩ hn
        ·rw[hcg.keep c (by simp only[hn1];exact hcn) hl];exact hg
       ·rcases Nat.lt_or_ge c K.next with hck | hck
        ·exact absurd ⟨_,rfl,.inr (.inr ⟨rfl,hcn,hck⟩)⟩ hn
        ·have hbd:Bd ({cN base mask i H with log:=[]}:ah):=fun d hd=>by
          show(cN base mask i H).get d=none
          rw[fm]
          split
          ·rfl
          ·exact h0 d (by simp only[hn1]at hd;exact hd)
         rw[hcg.bd hbd c hck,h0 c hcn]
     ·show(fG base mask H i K).get c=none
      rw[iF]
      split
      ·exact h0
      ·rename_i hh
       refine hcg.dom c (by simp only[hn1];exact hcn) ?_
       show(cN base mask i H).get c=none
       rw[fm,if_neg hh]
       exact h0
     ·show(fG base mask H i K).get c=none
      have hcn':K.next≤c:=by
       have:(fG base mask H i K).next≤c:=hcn
       rwa [(eY base mask H i K).1]at this
      rw[iF]
      split
      ·exact h0 c (by omega)
      ·have hbd:Bd ({cN base mask i H with log:=[]}:ah):=fun d hd=>by
        show(cN base mask i H).get d=none
        rw[fm]
        split
        ·rfl
        ·exact h0 d (by simp only[hn1]at hd;exact hd)
       exact hcg.bd hbd c hcn'
     ·cases hx;exact⟨by simp,fun _=>rfl⟩
    ·cases h
   ·cases h
  ·cases h
   exact⟨Nat.le_refl _,rfl,fun _ _ _=>rfl,fun _ _ _ h=>h,fun h=>h,fun x hx=>by cases hx⟩
  ·cases h
theorem rJ(hc:∀f args H v H',Bd H→call f args H=some (v,H')→ub H H'){B:Nat}(hB:B≤base){before:List Nat}:∀(l:List Nat) (τ τ':List AV) (H K:ah) (rs rs':List mt),Bd H→(∀i∈l,base+i<H.next)→B≤H.next→
  c9 P F call ops base before l τ H rs=some (τ',K,rs')→H.next≤K.next∧K.log=H.log∧Bd K∧(∀b,b<B→H.get b=none→K.get b=none)∧(∀b,b<B→b∉rs'.flatMap (·.writes)→K.get b=H.get b)∧(∀x∈rs,x∈rs')
 | [],τ,τ',H,K,rs,rs',hbd,_,_,h=>by cases h;exact⟨Nat.le_refl _,rfl,hbd,fun _ _ h=>h,fun _ _ _=>rfl,fun _ h=>h⟩
 | i::l,τ,τ',H,K,rs,rs',hbd,hl,hBn,h=>by
  unfold c9 at h
  split at h
  ·rename_i τ1 H1 hs
   have d:=fS hc hbd (hl i (by simp)) hs
   obtain⟨a1,a2,a3,a4,a5,a6⟩:=rJ hc hB l _ _ _ _ _ _ (d.bd hbd) (fun j hj=>Nat.lt_of_lt_of_le (hl j (by simp[hj])) d.next) (Nat.le_trans hBn d.next) h
   refine⟨Nat.le_trans d.next a1,a2.trans d.log,a3,fun b hb h0=>a4 b hb (d.dom b (by omega) (by omega) h0),fun b hb hn=>(a5 b hb hn).trans (d.keep hbd b ?_),a6⟩
   rintro⟨x,hx,_⟩
   cases hx
  ·rename_i τ1 H1 r hs
   split at h
   ·have d:=fS hc hbd (hl i (by simp)) hs
    obtain⟨a1,a2,a3,a4,a5,a6⟩:=rJ hc hB l _ _ _ _ _ _ (d.bd hbd) (fun j hj=>Nat.lt_of_lt_of_le (hl j (by simp[hj])) d.next) (Nat.le_trans hBn d.next) h
    refine⟨Nat.le_trans d.next a1,a2.trans d.log,a3,fun b hb h0=>a4 b hb (d.dom b (by omega) (by omega) h0),fun b hb hn=>(a5 b hb hn).trans (d.keep hbd b ?_),fun x hx=>a6 x (by simp[hx])⟩
    rintro⟨x,hx,h1 | h1 | ⟨h1,h2,_⟩⟩
    ·cases hx
     exact hn (List.mem_flatMap.2 ⟨r,a6 r (by simp),h1⟩)
    ·have:=(d.made x hx).1 b h1;omega
    ·have:=(d.made x hx).2 h1;omega
   ·cases h
  ·cases h
theorem zZ(hc:∀f args H v H',Bd H→call f args H=some (v,H')→ub H H'){draw:Bool}{τ τ':List AV}{H H':ah}(hbd:Bd H)(h:cP P F call ops draw τ H=some (τ',H')):ub H H':=by
 have hbd0:Bd {H with next:=H.next+ops.size}:=fun b hb=>hbd b (Nat.le_trans (Nat.le_add_right _ _) hb)
 cases draw with
 | false=>
  simp only[cP,Bool.false_eq_true,if_false]at h
  obtain⟨o,l⟩:=yA hc (Nat.le_refl H.next) _ _ _ _ _ hbd0 (fun i hi=>by rw[List.mem_range]at hi;exact Nat.add_lt_add_left hi _) h
  exact⟨Nat.le_trans (Nat.le_add_right _ _) o.next,o.dom,o.keep,l,fun _=>o.bd hbd0⟩
 | true=>
  simp only[cP,if_true]at h
  split at h
  ·rename_i τ1 K rs hd
   cases h
   obtain⟨a1,a2,a3,a4,a5,_⟩:=rJ hc (Nat.le_refl H.next) _ _ _ _ _ _ _ hbd0 (fun i hi=>by rw[List.mem_range]at hi;exact Nat.add_lt_add_left hi _) (Nat.le_add_right _ _) hd
   refine⟨Nat.le_trans (Nat.le_add_right _ _) a1,a4,fun b hb hn=>a5 b hb (fun hw=>hn ?_),fun b hb=>?_,fun _=>a3⟩
   ·simp only[List.mem_append];exact .inl hw
   ·simp only[List.mem_append];right;rw[a2];exact hb
  ·cases h
theorem uA{ex:Code→List AV→ah→Option (Ex×List AV×ah)}(h:∀c τ H e τ' H',Bd H→ex c τ H=some (e,τ',H')→ub H H'){f:FuncId}{args:List AV}{H:ah}{v:AV}{H':ah}(hbd:Bd H)
  (hc:jd P ex f args H=some (v,H')):ub H H':=by
 unfold jd at hc
 split at hc
 ·split at hc
  ·split at hc
   ·cases hc
   ·rename_i e τ' K hne hex
    split at hc
    ·cases hc
     have hk:=h _ _ {H with log:=[]} _ _ _ hbd hex
     refine⟨hk.next,hk.dom,fun b hb hn=>hk.keep b hb (fun hl=>hn ?_),fun b hb=>?_,fun _=>hk.bd hbd⟩
     ·simp only[List.mem_append,List.mem_filter,decide_eq_true_eq];exact .inl ⟨hl,hb⟩
     ·simp only[List.mem_append];exact .inr hb
    ·cases hc
   ·cases hc
  ·cases hc
 ·cases hc
theorem Cj(f:Nat):∀(c:Code) (τ:List AV) (H:ah) (e:Ex) (τ':List AV) (H':ah),Bd H→eV P F f c τ H=some (e,τ',H')→ub H H':=by
 induction f with
 | zero=>intro c τ H e τ' H' _ h;cases h
 | succ f ih=>
  intro c τ H e τ' H' hbd h
  cases c with
  | skip=>cases h;exact .refl _
  | label l=>cases h;exact .refl _
  | exit id=>cases h;exact .refl _
  | ret=>cases h;exact .refl _
  | region id ops draw=>
   simp only[eV]at h
   split at h
   ·rename_i hr;cases h;exact zZ (fun f args H v H' hb hcall=>uA ih hb hcall) hbd hr
   ·cases h
  | seq x y=>
   simp only[eV]at h
   split at h
   ·rename_i h1
    have k1:=ih _ _ _ _ _ _ hbd h1
    exact k1.trans (ih _ _ _ _ _ _ (k1.bd hbd) h)
   ·exact ih _ _ _ _ _ _ hbd h
  | cond x c1 c2=>
   simp only[eV]at h
   split at h
   ·exact ih _ _ _ _ _ _ hbd h
   ·exact ih _ _ _ _ _ _ hbd h
   ·cases h
  | block id c1=>
   simp only[eV]at h
   split at h
   ·rename_i h1
    split at h
    ·cases h;exact ih _ _ _ _ _ _ hbd h1
    ·cases h;exact ih _ _ _ _ _ _ hbd h1
   ·exact ih _ _ _ _ _ _ hbd h
  | loop c1=>
   simp only[eV]at h
   split at h
   ·rename_i h1
    have k1:=ih _ _ _ _ _ _ hbd h1
    exact k1.trans (ih _ _ _ _ _ _ (k1.bd hbd) h)
   ·exact ih _ _ _ _ _ _ hbd h
  | _=>simp[eV]at h
end
end Go.Proofs.Ytljkdffikfkcgaa.Am
end
section
namespace Go.Proofs.Ytljkdffikfkcgaa.Am
set_option linter.unusedVariables false
def bV:Op→List Operand
 | .move x | .assign x | .box _ x | .load _ x | .nilCheck x | .unOp _ _ x | .convert _ _ x | .fieldAddr _ x _ | .field _ x _ | .extract x _=>[x]
 | .pick c a b=>[c,a,b]
 | .build _ ps | .buildSlice _ _ ps=>ps.toList.map (·.2)
 | .store _ a v | .binOp _ _ a v _ | .makeSlice _ a v | .indexAddr _ a v | .index _ a v=>[a,v]
 | .makeFunc _ _ c=>c.toList
 | .slice _ x l h m=>x::(l.toList++h.toList++m.toList)
 | .call c=>(match c.callee with | .value f=>[f] | _=>[])++c.args.toList
 | _=>[]
section
variable {P:Program} {F:TypeId→Option (List TypeId)}
theorem AL{ρ ρ2:Operand→AV}{l:List Operand}(h:∀x∈l,ρ x=ρ2 x):l.map ρ=l.map ρ2:=List.map_congr_left h
theorem wY{ρ ρ2:Operand→AV}{ps:List (Nat×Operand)}(h:∀x∈ps.map (·.2),ρ x=ρ2 x):(ps.map fun p=>(p.1,ρ p.2))=ps.map fun p=>(p.1,ρ2 p.2):=
 List.map_congr_left fun p hp=>by rw[h p.2 (List.mem_map.2 ⟨p,hp,rfl⟩)]
theorem kb{ρ ρ2:Operand→AV}:∀{l:List Operand},(∀x∈l,ρ x=ρ2 x)→(l.flatMap fun x=>af (ρ x))=l.flatMap fun x=>af (ρ2 x)
 | [],_=>rfl
 | a::l,h=>by simp only[List.flatMap_cons];rw[h a (by simp),kb fun x hx=>h x (by simp[hx])]
theorem AM{o:Op}{ρ ρ2:Operand→AV}(h:∀x∈bV o,ρ x=ρ2 x)(b:Nat)(H:ah):aX P F o ρ b H=aX P F o ρ2 b H∧aR o ρ=aR o ρ2∧aG o ρ=aG o ρ2:=by
 cases o with
 | build t ps=>refine⟨?_,rfl,rfl⟩;simp only[aX];rw[wY h]
 | buildSlice t n ps=>refine⟨?_,rfl,rfl⟩;simp only[aX];rw[wY h]
 | makeFunc fn first c=>
  refine⟨?_,rfl,rfl⟩
  cases fn<;>simp only[aX]
  rw[AL (l:=c.toList) h]
 | slice t x l hi m=>
  have hx:=h x (by simp[bV])
  have hl:l.map ρ=l.map ρ2:=by cases l with
   | none=>rfl
   | some y=>simp[h y (by simp[bV])]
  have hh:hi.map ρ=hi.map ρ2:=by cases hi with
   | none=>rfl
   | some y=>simp[h y (by simp[bV])]
  have hm:m.map ρ=m.map ρ2:=by cases m with
   | none=>rfl
   | some y=>simp[h y (by simp[bV])]
  exact⟨by simp only[aX];rw[hx,hl,hh,hm],by simp only[aR];rw[hx],rfl⟩
 | call c=>
  have ha:c.args.toList.map ρ=c.args.toList.map ρ2:=AL fun x hx=>h x (by simp only[bV,List.mem_append];exact .inr hx)
  have hm:∀x∈c.args.toList,ρ x=ρ2 x:=fun x hx=>h x (by simp only[bV,List.mem_append];exact .inr hx)
  have hr:aR (.call c) ρ=aR (.call c) ρ2:=by
   simp only[aR]
   split
   ·exact kb hm
   ·exact kb hm
   ·rfl
  have hk:aG (.call c) ρ=aG (.call c) ρ2:=by
   simp only[aG]
   split
   ·exact kb fun x hx=>hm x (List.mem_of_mem_take hx)
   ·exact kb hm
   ·rfl
  refine⟨?_,hr,hk⟩
  simp only[aX]
  split
  ·rw[ha]
  ·rename_i f hf
   rw[h f (by simp only[bV,hf];simp),ha]
  ·rfl
 | store t a v=>refine⟨by simp only[aX];rw[h a (by simp[bV]),h v (by simp[bV])],by simp only[aR];rw[h a (by simp[bV])],by simp only[aG];rw[h a (by simp[bV])]⟩
 | load t a=>refine⟨by simp only[aX];rw[h a (by simp[bV])],by simp only[aR];rw[h a (by simp[bV])],rfl⟩
 | indexAddr t a v=>refine⟨by simp only[aX];rw[h a (by simp[bV]),h v (by simp[bV])],by simp only[aR];rw[h a (by simp[bV])],rfl⟩
 | pick c x y=>refine⟨by simp only[aX];rw[h c (by simp[bV]),h x (by simp[bV]),h y (by simp[bV])],rfl,rfl⟩
 | binOp op t x y u=>refine⟨by simp only[aX];rw[h x (by simp[bV]),h y (by simp[bV])],rfl,rfl⟩
 | makeSlice t x y=>refine⟨by simp only[aX];rw[h x (by simp[bV]),h y (by simp[bV])],rfl,rfl⟩
 | index t x y=>refine⟨by simp only[aX];rw[h x (by simp[bV]),h y (by simp[bV])],rfl,rfl⟩
 | move x=>refine⟨by simp only[aX];rw[h x (by simp[bV])],rfl,rfl⟩
 | assign x=>refine⟨by simp only[aX];rw[h x (by simp[bV])],rfl,rfl⟩
 | box t x=>refine⟨by simp only[aX];rw[h x (by simp[bV])],rfl,rfl⟩
 | nilCheck x=>refine⟨by simp only[aX];rw[h x (by simp[bV])],rfl,rfl⟩
 | unOp op t x=>refine⟨by simp only[aX];rw[h x (by simp[bV])],rfl,rfl⟩
 | convert s d x=>refine⟨by simp only[aX];rw[h x (by simp[bV])],rfl,rfl⟩
 | fieldAddr s x f=>refine⟨by simp only[aX];rw[h x (by simp[bV])],rfl,rfl⟩
 | field s x f=>refine⟨by simp only[aX];rw[h x (by simp[bV])],rfl,rfl⟩
 | extract x i=>refine⟨by simp only[aX];rw[h x (by simp[bV])],rfl,rfl⟩
 | _=>exact⟨rfl,rfl,rfl⟩
def yB(P:Program)(F:TypeId→Option (List TypeId))(o:Op)(ρ:Operand→AV)(b:Nat)(v:AV)(H' K:ah):Prop:=
 ∃K',aX P F o ρ b K=some (.val v K')∧K'.next=K.next∧∀c,K'.get c=if c∈aG o ρ∨c=b then H'.get c else K.get c
theorem yB.same{o:Op}{ρ:Operand→AV}{b:Nat}{v:AV}{H K:ah}(hb:K.get b=H.get b)(hw:aG o ρ=[])(h:aX P F o ρ b K=some (.val v K)):yB P F o ρ b v H K:=by
 refine⟨K,h,rfl,fun c=>?_⟩
 rw[hw]
 split
 ·rename_i hc
  rcases hc with hc | hc
  ·simp at hc
  ·rw[hc];exact hb
 ·rfl
theorem yB.new{o:Op}{ρ:Operand→AV}{b:Nat}{v:AV}{H K:ah}{x:Blk}(hw:aG o ρ=[])(h:aX P F o ρ b K=some (.val v (K.new b x))):yB P F o ρ b v (H.new b x) K:=by
 refine⟨_,h,rfl,fun c=>?_⟩
 rw[hw,ah.get_new,ah.get_new]
 by_cases hc:b=c
 ·rw[if_pos hc,if_pos hc,if_pos (.inr hc.symm)]
 ·rw[if_neg hc,if_neg]
  rintro(h1 | h1)
  ·simp at h1
  ·exact hc h1.symm
theorem pO{H K:ah}{n:Nat}{x:AV}(hr:∀c∈af x,K.get c=H.get c):dY K n x=dY H n x:=by
 cases x<;>simp only[dY]
 rw[hr _ (by simp[af])]
theorem yC{H K:ah}{x:AV}(hr:∀c∈dw x,K.get c=H.get c):jb K x=jb H x:=by
 cases x<;>simp only[jb]
 rw[hr _ (by simp[dw])]
theorem By{o:Op}{ρ:Operand→AV}{b:Nat}{v:AV}{H H':ah}(h:aX P F o ρ b H=some (.val v H'))(K:ah)(hr:∀c∈aR o ρ,K.get c=H.get c)(hb:K.get b=H.get b):yB P F o ρ b v H' K:=by
 cases o with
 | load t a=>
  simp only[aX]at h
  obtain⟨h1,rfl⟩:=eE h
  refine .same hb rfl ?_
  have:jA P K t (ρ a)=jA P H' t (ρ a):=by
   simp only[aR]at hr
   generalize ρ a=x at hr
   cases x<;>simp only[jA]
   rw[hr _ (by simp[af])]
  simp only[aX,this,h1,Option.map_some]
 | indexAddr t x ix=>
  simp only[aX]at h
  obtain⟨h1,rfl⟩:=eE h
  refine .same hb rfl ?_
  have:cU P (jb K (ρ x)) t (ρ x) (ρ ix)=some v:=by
   rw[yC hr]
   exact h1
  simp only[aX,this,Option.map_some]
 | slice t x lo hi mx=>
  simp only[aX]at h
  split at h
  ·cases h
  ·rename_i hcnd
   obtain⟨h1,rfl⟩:=eE h
   refine .same hb rfl ?_
   have:io P (jb K (ρ x)) t (ρ x) (lo.map ρ) (hi.map ρ) (mx.map ρ)=some v:=by
    rw[yC hr]
    exact h1
   simp only[aX,this,Option.map_some]
   rw[if_neg hcnd]
 | store t a x=>
  simp only[aX]at h
  cases hst:eC P H t (ρ a) (ρ x)with
  | none=>rw[hst]at h;cases h
  | some H1=>
   rw[hst]at h
   cases h
   simp only[aR]at hr
   have hst2:=hst
   unfold eC at hst
   split at hst
   ·rename_i c i off cs n ha hcs hn
    rw[ha]at hr
    have hkc:=hr c (by simp[af])
    split at hst
    ·rename_i y hy
     split at hst
     ·rename_i r hrw
      split at hst
      ·rename_i hcond
       cases hst
       refine⟨K.put c (some {y with rows:=y.rows.set i (bG r off cs)}),?_,rfl,fun d=>?_⟩
       ·simp only[aX,eC,ha,hcs,hn,hkc,hy,hrw]
        rw[if_pos hcond]
        rfl
       ·have hw:aG (.store t a x) ρ=[c]:=by simp[aG,ha,af]
        rw[hw,ah.get_put,ah.get_put]
        by_cases hd:c=d
        ·rw[if_pos hd,if_pos hd,if_pos (.inl (by simp[hd]))]
        ·rw[if_neg hd,if_neg hd]
         split
         ·rename_i hc
          rcases hc with hc | hc
          ·simp at hc;exact absurd hc.symm hd
          ·rw[hc];exact hb
         ·rfl
      ·cases hst
     ·cases hst
    ·cases hst
   ·cases hst
 | call c=>
  simp only[aX]at h
  split at h
  ·rename_i bi hcal
   cases hbi:aT P H b bi c.argTypes (c.args.toList.map ρ)with
   | none=>rw[hbi]at h;cases h
   | some r=>
    obtain⟨v0,H1⟩:=r
    rw[hbi]at h
    cases h
    have fin:∀{K':ah} {u:AV},aT P K b bi c.argTypes (c.args.toList.map ρ)=some (u,K')→aX P F (.call c) ρ b K=some (.val u K'):=fun hk=>by
     simp only[aX,hcal,hk,Option.map_some]
    have wnil:bi≠.append∧bi≠.clear→aG (.call c) ρ=[]:=fun hne=>by
     simp only[aG,hcal]
     cases bi<;>first | rfl | exact absurd rfl hne.1 | exact absurd rfl hne.2
    have hbi0:=hbi
    unfold aT at hbi
    split at hbi
    ·rename_i s heq
     split at hbi
     ·rename_i hty
      cases hbi
      exact .same hb (wnil (by simp)) (fin (by rw[heq];simp only[aT,hty]))
     ·cases hbi
    ·rename_i x hne heq
     have e:H1=H:=by
      split at hbi
      ·rw[Option.map_eq_some_iff]at hbi
       obtain⟨n,_,hn⟩:=hbi
       cases hn
       rfl
      ·cases hbi;rfl
      ·cases hbi
     subst e
     refine .same hb (wnil (by simp)) (fin ?_)
     rw[heq]
     unfold aT
     split
     ·rename_i s e1 e2;cases e2;exact absurd rfl (hne s)
     ·rename_i x' hne' e1 e2
      cases e2
      split at hbi
      ·rw[Option.map_eq_some_iff]at hbi
       obtain⟨n,hl,hn⟩:=hbi
       cases hn
       simp only[hl,Option.map_some]
      ·cases hbi;rfl
      ·cases hbi
     ·rename_i e1 e2;cases e2
     ·rename_i e1 e2;cases e2
     ·rename_i e1 e2;cases e2
     ·rename_i e1 e2;cases e1
     ·rename_i e1 e2 e3 e4 e5 e6;simp_all
    ·rename_i s x heq
     obtain⟨a0,a1,hargs,h0,h1⟩:=kR heq
     split at hbi
     ·rename_i t tx htt
      split at hbi
      ·rename_i e' hu'
       have hrs:∀c'∈af s,K.get c'=H.get c':=fun c' hc'=>hr c' (by simp[aR,hcal,hargs,h0,hc'])
       have hrx:∀c'∈af x,K.get c'=H.get c':=fun c' hc'=>hr c' (by simp[aR,hcal,hargs,h1,hc'])
       have red:∀{K':ah} {u:AV},cq P K b t s x=some (u,K')→aT P K b .append c.argTypes (c.args.toList.map ρ)=some (u,K'):=fun hk=>by
        rw[heq]
        simp only[aT,htt,hu',hk]
       unfold cq at hbi
       split at hbi
       ·rename_i e hu
        split at hbi
        ·rename_i n by_ z hn hby hz
         split at hbi
         ·rename_i l m hl hm
          have hl':dY K n s=some l:=by rw[pO hrs];exact hl
          have hm':dY K n x=some m:=by rw[pO hrx];exact hm
          split at hbi
          ·rename_i hcond
           split at hbi
           ·split at hbi
            ·rename_i hm0
             cases hbi
             refine .same hb (by simp[aG,hcal,hargs,h0,af]) (fin (red ?_))
             simp only[cq,hu,hn,hby,hz,hl',hm']
             rw[if_pos hcond,if_pos hm0]
            ·rename_i hm0
             cases hbi
             refine .new (by simp[aG,hcal,hargs,h0,af]) (fin (red ?_))
             simp only[cq,hu,hn,hby,hz,hl',hm']
             rw[if_pos hcond,if_neg hm0]
           ·split at hbi
            ·rename_i hm0
             cases hbi
             refine .same hb (by simp[aG,hcal,hargs,h0,af]) (fin (red ?_))
             simp only[cq,hu,hn,hby,hz,hl',hm']
             rw[if_pos hcond,if_pos hm0]
            ·rename_i hm0
             cases hbi
             refine .new (by simp[aG,hcal,hargs,h0,af]) (fin (red ?_))
             simp only[cq,hu,hn,hby,hz,hl',hm']
             rw[if_pos hcond,if_neg hm0]
           ·rename_i b' i k
            cases hbi
            have hw:aG (.call c) ρ=[b']:=by simp[aG,hcal,hargs,h0,af]
            refine⟨(K.put b' none).new b ⟨n,l++m⟩,fin (red ?_),rfl,fun d=>?_⟩
            ·simp only[cq,hu,hn,hby,hz,hl',hm']
             rw[if_pos hcond]
            ·rw[hw,ah.get_new,ah.get_new,ah.get_put,ah.get_put]
             by_cases hd:b=d
             ·rw[if_pos hd,if_pos hd,if_pos (.inr hd.symm)]
             ·rw[if_neg hd,if_neg hd]
              by_cases hd':b'=d
              ·rw[if_pos hd',if_pos hd',if_pos (.inl (by simp[hd']))]
              ·rw[if_neg hd',if_neg hd',if_neg]
               rintro(h1 | h1)
               ·simp at h1;exact hd' h1.symm
               ·exact hd h1.symm
           ·cases hbi
          ·cases hbi
         ·cases hbi
        ·cases hbi
       ·cases hbi
      ·cases hbi
     ·cases hbi
    ·rename_i k a k' c' heq
     split at hbi
     ·rename_i hk;cases hbi;exact .same hb (wnil (by simp)) (fin (by rw[heq];simp only[aT];rw[if_pos hk]))
     ·cases hbi
    ·rename_i k a k' c' heq
     split at hbi
     ·rename_i hk;cases hbi;exact .same hb (wnil (by simp)) (fin (by rw[heq];simp only[aT];rw[if_pos hk]))
     ·cases hbi
    ·rename_i x heq
     split at hbi
     ·rename_i t htt
      cases hcl:dJ P H t x with
      | none=>rw[hcl]at hbi;cases hbi
      | some K1=>
       rw[hcl]at hbi
       cases hbi
       obtain⟨a0,hargs,h0⟩:=kQ heq
       have red:∀{K':ah},dJ P K t x=some K'→aT P K b .clear c.argTypes (c.args.toList.map ρ)=some (.tup [],K'):=fun hk=>by
        rw[heq]
        simp only[aT,htt,hk,Option.map_some]
       unfold dJ at hcl
       split at hcl
       ·rename_i e hu
        split at hcl
        ·rename_i n z hn hz
         split at hcl
         ·cases hcl
          exact .same hb (by simp[aG,hcal,hargs,h0,af]) (fin (red (by simp only[dJ,hu,hn,hz])))
         ·rename_i d i k
          split at hcl
          ·rename_i y hy
           split at hcl
           ·rename_i hcond
            cases hcl
            have hkd:K.get d=some y:=by rw[hr d (by simp[aR,hcal,hargs,h0,af])];exact hy
            have hw:aG (.call c) ρ=[d]:=by simp[aG,hcal,hargs,h0,af]
            refine⟨K.put d (some {y with rows:=y.rows.take i++List.replicate k z++y.rows.drop (i+k)}),fin (red ?_),rfl,fun q=>?_⟩
            ·simp only[dJ,hu,hn,hz,hkd]
             rw[if_pos hcond]
            ·rw[hw,ah.get_put,ah.get_put]
             by_cases hd:d=q
             ·rw[if_pos hd,if_pos hd,if_pos (.inl (by simp[hd]))]
             ·rw[if_neg hd,if_neg hd]
              split
              ·rename_i hc
               rcases hc with hc | hc
               ·simp at hc;exact absurd hc.symm hd
               ·rw[hc];exact hb
              ·rfl
           ·cases hcl
          ·cases hcl
         ·cases hcl
        ·cases hcl
       ·cases hcl
     ·cases hbi
    ·cases hbi
  ·split at h<;>cases h
  ·cases h
 | alloc t=>
  simp only[aX]at h
  split at h
  ·rename_i cs hcs;cases h;exact .new rfl (by simp only[aX,hcs])
  ·cases h
 | box t x=>
  simp only[aX]at h
  split at h
  ·rename_i cs hcs
   split at h
   ·rename_i ho;cases h;exact .new rfl (by simp only[aX,hcs];rw[if_pos ho])
   ·cases h
  ·cases h
 | buildSlice t len parts=>
  simp only[aX]at h
  split at h
  ·rename_i e hu
   split at h
   ·rename_i n z hn hz
    split at h
    ·rename_i hc
     cases hf:cZ n (List.replicate len z) (parts.toList.map fun p=>(p.1,ρ p.2))with
     | none=>rw[hf]at h;cases h
     | some rows=>rw[hf]at h;cases h;exact .new rfl (by simp only[aX,hu,hn,hz];rw[if_pos hc,hf];rfl)
    ·cases h
   ·cases h
  ·cases h
 | makeSlice t l c=>
  simp only[aX]at h
  split at h
  ·rename_i e hu
   split at h
   ·rename_i n by_ z l' c' hn hby hz hl hc
    split at h
    ·rename_i hcond;cases h;exact .new rfl (by simp only[aX,hu,hn,hby,hz,hl,hc];rw[if_pos hcond])
    ·cases h
   ·cases h
  ·cases h
 | makeFunc fn first cap=>
  cases fn<;>simp only[aX]at h<;>(try (cases h;done))
  split at h
  ·rename_i hf;cases h;exact .same hb rfl (by simp only[aX];rw[if_pos hf])
  ·cases h
 | pick c x y=>
  simp only[aX]at h
  split at h
  ·rename_i t hc;cases h;exact .same hb rfl (by simp only[aX,hc])
  ·cases h
 | nilCheck x=>
  simp only[aX]at h
  split at h<;>(try (cases h;done))<;>(rename_i heq;cases h;exact .same hb rfl (by simp only[aX,heq]))
 | extract x i=>
  simp only[aX]at h
  split at h
  ·rename_i vs hx
   obtain⟨h1,rfl⟩:=eE h
   exact .same hb rfl (by simp only[aX,hx,h1];rfl)
  ·cases h
 | move x=>simp only[aX]at h;cases h;exact .same hb rfl (by simp only[aX])
 | assign x=>simp only[aX]at h;cases h;exact .same hb rfl (by simp only[aX])
 | build t ps=>simp only[aX]at h;obtain⟨h1,rfl⟩:=eE h;exact .same hb rfl (by simp only[aX,h1];rfl)
 | binOp op t x y u=>simp only[aX]at h;obtain⟨h1,rfl⟩:=eE h;exact .same hb rfl (by simp only[aX,h1];rfl)
 | unOp op t x=>simp only[aX]at h;obtain⟨h1,rfl⟩:=eE h;exact .same hb rfl (by simp only[aX,h1];rfl)
 | convert s d x=>simp only[aX]at h;obtain⟨h1,rfl⟩:=eE h;exact .same hb rfl (by simp only[aX,h1];rfl)
 | fieldAddr s x f=>simp only[aX]at h;obtain⟨h1,rfl⟩:=eE h;exact .same hb rfl (by simp only[aX,h1];rfl)
 | field s x f=>simp only[aX]at h;obtain⟨h1,rfl⟩:=eE h;exact .same hb rfl (by simp only[aX,h1];rfl)
 | index t x y=>simp only[aX]at h;obtain⟨h1,rfl⟩:=eE h;exact .same hb rfl (by simp only[aX,h1];rfl)
 | _=>simp[aX]at h
theorem uB{o:Op}{ρ:Operand→AV}{b:Nat}{g:FuncId}{args:List AV}{H:ah}(h:aX P F o ρ b H=some (.call g args))(K:ah):aX P F o ρ b K=some (.call g args):=by
 cases o with
 | call c=>
  simp only[aX]at h ⊢
  split at h
  ·rename_i bi _
   cases hbi:aT P H b bi c.argTypes (c.args.toList.map ρ)with
   | none=>rw[hbi]at h;cases h
   | some r=>rw[hbi]at h;cases h
  ·rename_i f hf
   exact h
  ·cases h
 | makeFunc fn first cap=>cases fn<;>simp only[aX]at h<;>(try split at h)<;>simp at h
 | _=>
  exfalso
  simp only[aX]at h
  repeat' (first | (cases h;done) | (simp at h;done) | split at h)
end
end Go.Proofs.Ytljkdffikfkcgaa.Am
end
