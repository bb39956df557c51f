/- A part of the proof; the statement is proved in the last part. -/
import Derived.Test.YtenbpcngcicamaaGreatDoorQca
import Derived.IntWalk
import Derived.Deep.AppendSrc
import Derived.MapKept
import Derived.Carry
import Derived.Lib.OthersKept
import Derived.Laws.RangeString
import Derived.LoopN
set_option linter.unusedSimpArgs false
set_option linter.unusedVariables false
namespace Go.Proofs.YtenbpcngcicamaaGreatDoor.Am
section
section
variable {P:Program} {w:World} {σ:bq} {T:Nat→Prop} {H:ae} {b:Nat}
theorem o5{n:Nat}{ρ:Operand→AV}{ρ':Operand→Value}(hρ:∀x,aU w σ T (ρ x) (ρ' x)):∀(ps:List (Nat×Operand)) (rows r:List (List AV)) (cells':Array Value),
  Flat w σ T rows n cells'.toList→dS n rows (ps.map λp=>(p.1,ρ p.2))=some r→
  ∃r':Array Value,Instr.fill (λi=>some (i*n,n)) cells' (ps.map λp=>(p.1,ρ' p.2))=some r'∧Flat w σ T r n r'.toList∧r.length=rows.length
 |[],rows,r,cells',hc,h=>by cases h;exact⟨cells',rfl,hc,rfl⟩
 | (i,x)::ps,rows,r,cells',hc,h=>by
  simp only[Vp,dS]at h;split at h
  ·rename_i cs hcs;split at h
   ·rename_i hl;obtain⟨hl1,hl2,_⟩:=hl;have hx:=(hρ x).cells hcs;have e1:(ρ' x).cells.size=n:=by rw[←VJ,←hx.1,hl1]
    have e2:cells'.size=rows.length*n:=by rw[←VJ,hc.len]
    have hin:i*n+n≤rows.length*n:=by have:(i+1)*n≤rows.length*n:=VH _ hl2;rw[V6]at this;omega
    have hfold:((ρ' x).cells.zipIdx.foldl (λ(cs:Array Value) (p:Value×Nat)=>cs.setIfInBounds (i*n+p.2) p.1) cells').toList=cells'.toList.take (i*n)++(ρ' x).cells.toList++cells'.toList.drop (i*n+(ρ' x).cells.toList.length):=by have:=yS (ρ' x).cells.toList 0 (i*n) cells' (by simp;omega);rw[←Array.foldl_toList,Array.toList_zipIdx];simpa using this
    obtain⟨r',h1,h2,h3⟩:=o5 hρ ps (rows.set i cs) r _ (by rw[hfold];exact hc.set hl2 hl1 hx) h;refine⟨r',?_,h2,by simpa using h3⟩;have hcond:(decide ((ρ' x).cells.size≠n)||decide (i*n+(ρ' x).cells.size > cells'.size))=false:=by simp[e1,e2];omega
    simp only[Vp,Instr.fill,hcond,VQ,if_false];exact h1
   ·cases h
  ·cases h
theorem Ji{x:Blk}{cs:Array Value}{e:TypeId}{k cap:Nat}(hk:k≤cap)(hcap:cap≤maxLen)(hs:cap*x.size≤cs.size):
  aU (World.push w (.cells cs e (0,0))) (σ.set b ⟨w.heap.size,0,x.size⟩) (aJ (σ.set b ⟨w.heap.size,0,x.size⟩) (H.new b x)) (.sl b 0 k) (.slice (some ⟨w.heap.size,0,none⟩) k cap):=by
 refine aU.sl b 0 k ⟨w.heap.size,0,x.size⟩ _ cap (bq.set_eq _ _ _) (.inl rfl) hk hcap λ_=>⟨W7,cs,e,?_,by simpa using hs⟩
 show(w.heap.push _)[w.heap.size]? =_;simp
theorem Ba(hW:aX w σ H)(hb:σ b=none)(hlt:b<H.next){t e:TypeId}{len n:Nat}{ps:Array (Nat×Operand)}{ρ:Operand→AV}{ρ':Operand→Value}(hρ:∀x,aU w σ (aJ σ H) (ρ x) (ρ' x))
  {z:List AV} {rows:List (List AV)} (hu:P.underlying t=some (.slice e)) (hn:aR P e=some n) (hz:(eb P e).bind AV.cells? =some z) (hzn:z.length=n) (h0:0<n) (hl:len*n≤2^24)
  (h:dS n (List.replicate len z) (ps.toList.map λp=>(p.1,ρ p.2))=some rows) :
  ER P (Instr.buildSlice t len (ps.map λ(i,x)=>(i,ρ' x))) w σ H b (.sl b 0 len) (H.new b ⟨n,rows⟩):=by
 have hps:(ps.map λ(i,x)=>(i,ρ' x)).toList=ps.toList.map λp=>(p.1,ρ' p.2):=by simp
 cases hza:eb P e with
 |none=>rw[hza]at hz;cases hz
 |some za=>
  rw[hza]at hz;simp only[Wc]at hz;obtain⟨z',hz1,hz2⟩:=eB (P:=P) (w:=w) (σ:=σ) (T:=aJ σ H) hza;have hzr:=hz2.cells hz;have hlen:len≤2^24:=VG (Nat.le_mul_of_pos_right len h0) hl;obtain⟨l,e1,e2,e3,_⟩:=Flat.zeros hzr hzn h0 len len (Vo _);have hfl:Flat w σ (aJ σ H) (List.replicate len z) n (l.toArray).toList:=by rw[Wb W4]at e3;exact e3
  obtain⟨r',f1,f2,f3⟩:=o5 hρ ps.toList _ rows l.toArray hfl h;have hr':r'.size=len*n:=by rw[←VJ,f2.len,f3];simp
  have hrl:rows.length=len:=by simpa using f3
  refine CC hW hb hlt (cs:=r') (e:=e) (v':=.slice (some ⟨w.heap.size,0,none⟩) len len) (l:=r'.toList) ?_ f2 ?_ ?_
  ·simp only[];rw[Wb (by rw[VJ,hr',hrl];exact Vo _)]
  ·have hgt:¬len*n > 2^24:=by omega
   simp only[Instr.buildSlice,VV,run_underlying hu,VB,cF hn];rw[if_neg hgt];by_cases hz0:len*n=0
   ·have hl0:len=0:=by
     rcases Nat.mul_eq_zero.1 hz0 with h1|h1
     ·exact h1
     ·omega
    subst hl0;rw[if_pos hz0];have:l=[]:=by cases l with
     |nil=>rfl
     |cons a l=>simp at e2
    subst this;simp only[VV,V8,VB,hz0,hps];have he:(Array.range 0).map (λx=>(#[]:Array Value)[x % (#[]:Array Value).size]!)=([]:List Value).toArray:=by simp
    rw[he,f1];rfl
   ·rw[if_neg hz0];simp only[VV,hz1,V8,VB,hps];rw[e1,f1];rfl
  ·exact Ji (x:=⟨n,rows⟩) (Vo _) (by unfold maxLen;omega) (by rw[hr'];exact Vo _)
theorem CD(hW:aX w σ H)(hb:σ b=none)(hlt:b<H.next){t e:TypeId}{n by_ l c:Nat}{x y:AV}{x' y':Value}(hx:aU w σ (aJ σ H) x x')(hy:aU w σ (aJ σ H) y y')
  {z:List AV} (hu:P.underlying t=some (.slice e)) (hn:aR P e=some n) (hby:i9 P e=some by_) (hz:(eb P e).bind AV.cells? =some z) (hl:nu x=some l) (hc:nu y=some c)
  (hzn:z.length=n) (h0:0<n) (hlc:l≤c) (hcm:c≤2^62) (hcb:c*by_≤2^48) :
  ER P (Instr.makeSlice t x' y') w σ H b (.sl b 0 l) (H.new b ⟨n,List.replicate l z⟩):=by
 obtain⟨kl,li,rfl,hl0,rfl⟩:=oZ hx hl;obtain⟨kc,ci,rfl,hc0,rfl⟩:=oZ hy hc;cases hza:eb P e with
 |none=>rw[hza]at hz;cases hz
 |some za=>
  rw[hza]at hz;simp only[Wc]at hz;cases hi:P.info? e with
  |none=>simp[i9,hi]at hby
  |some i=>
  have hib:i.bytes=by_:=by simpa[i9,hi]using hby
  obtain⟨z',hz1,hz2⟩:=eB (P:=P) (w:=w) (σ:=σ) (T:=aJ σ H) hza;have hzr:=hz2.cells hz;obtain⟨l,e1,e2,e3,_⟩:=Flat.zeros hzr hzn h0 li.toNat ci.toNat hlc;have wl:IntKind.i64.wrap li=li:=We _ W4;have wc:IntKind.i64.wrap ci=ci:=We _ W4;have hbig:((decide (ci<0)||decide ((i.bytes:Int)*ci > 2^48))||decide (li<0)||decide (li > ci))=false:=by
   rw[hib];have:((by_:Int)*ci)=((ci.toNat*by_:Nat):Int):=by rw[Int.natCast_mul,Int.toNat_of_nonneg hc0,Int.mul_comm]
   have h2:((ci.toNat*by_:Nat):Int)≤2^48:=by exact_mod_cast hcb
   simp only[Bool.or_eq_false_iff,decide_eq_false_iff_not];refine⟨⟨⟨W4,by rw[this];omega⟩,W4⟩,W4⟩
  refine CC hW hb hlt (x:=⟨n,List.replicate li.toNat z⟩) (cs:=l.toArray) (e:=e) (v':=.slice (some ⟨w.heap.size,0,none⟩) li.toNat ci.toNat) (l:=l.take (li.toNat*n)) ?_ e3 ?_ ?_
  ·simp
  ·simp only[Instr.makeSlice,asInt,asIntOf,VV,run_underlying hu,V8,VB,vT hi,wl,wc,hbig,VQ,if_false,run_askRoom,cF hn];by_cases hz0:ci.toNat*n=0
   ·rw[if_pos hz0];have hnil:l=[]:=by cases l with
     |nil=>rfl
     |cons a l=>simp at e2;omega
    subst hnil;simp only[VV,V8,VB,hz0];have he:(Array.range 0).map (λx=>(#[]:Array Value)[x % (#[]:Array Value).size]!)=([]:List Value).toArray:=by simp
    rw[he];rfl
   ·rw[if_neg hz0];simp only[VV,hz1,V8,VB];rw[e1];rfl
  ·exact Ji (x:=⟨n,List.replicate li.toNat z⟩) hlc (by unfold maxLen;omega) (by simp[e2])
theorem CE{m:List (List AV)}{n c o:Nat}(he:∀(i:Nat) (r:List AV),m[i]? =some r→r.length=n)(hc:∀(i:Nat) (r:List AV),m[i]? =some r→Hm w σ T r c (o+i*n)):
  ∃l:List Value,(∀w2:World,w2.heap=w.heap→(loadCells ⟨c,o,none⟩ (m.length*n)).run P w2=.ok l.toArray w2)∧Flat w σ T m n l:=by
 have key:∀p,∃u,p<m.length*n→w.cell? ⟨c,o+p,none⟩=some u:=λp=>by
  by_cases hp:p<m.length*n
  ·have hn:0<n:=by
    rcases Wi n with h0|h0
    ·subst h0;simp at hp
    ·exact h0
   have hi:p / n<m.length:=by rw[Nat.div_lt_iff_lt_mul hn];exact hp
   have hr:m[p / n]? =some m[p / n]:=Vn hi;have hj:p % n<m[p / n].length:=by rw[he _ _ hr];exact Nat.mod_lt _ hn
   obtain⟨u,h1,_⟩:=hc _ _ hr (p % n) _ (Vn hj);refine⟨u,λ_=>?_⟩;rw[Wh,Nat.mul_comm,Nat.div_add_mod]at h1;exact h1
  ·exact⟨undef,λh=>absurd h hp⟩
 let f:=λp=>Classical.choose (key p)
 have hf:∀p,p<m.length*n→w.cell? ⟨c,o+p,none⟩=some (f p):=λp=>Classical.choose_spec (key p)
 refine⟨(List.range (m.length*n)).map f,λw2 hw2=>run_loadCells w2 _ _ f (λj hj=>by rw[ez];rw[←hf j hj];unfold World.cell?;rw[hw2]),⟨W7,he,?_⟩⟩;intro i r j a u hr ha hu;have hj:j<n:=by rw[←he i r hr];exact aA ha
 have hp:=o4 (aA hr) hj;rw[VD,WZ hp]at hu;cases hu;obtain⟨u,h1,h2⟩:=hc i r hr j a ha;rw[Wh,hf _ hp]at h1;cases h1;exact h2
theorem Fj(hW:aX w σ H){n:Nat}{x:AV}{x':Value}{m:List (List AV)}(hx:aU w σ (aJ σ H) x x')(h:fy H n x=some m):
  ∃(A:Option Addr) (cap:Nat) (l:List Value),x'=.slice A m.length cap∧(∀w2:World,w2.heap=w.heap→(Builtin.firstCells n m.length x').run P w2=.ok l.toArray w2)∧Flat w σ (aJ σ H) m n l:=by
 unfold fy at h;split at h
 ·cases h;cases hx;exact⟨none,0,[],rfl,λ_ _=>rfl,Flat.nil n⟩
 ·cases h;cases hx with
  |emp A=>exact⟨A,0,[],rfl,λw2 _=>by cases A<;>simp[Builtin.firstCells,loadCells,loadCellsFrom],Flat.nil n⟩
 ·rename_i rows;split at h
  ·cases h;obtain⟨A,cap,rfl,_,_,_⟩:=hx.lst_inv;refine⟨A,cap,[],rfl,?_,Flat.nil n⟩;intro w2 _;cases A<;>simp[Builtin.firstCells,loadCells,loadCellsFrom]
  ·rename_i r rs;split at h
   ·rename_i hr;cases h;obtain⟨A,cap,rfl,hn,hm,ha⟩:=hx.lst_inv;obtain⟨b,o,sz,rfl,hl,hrep⟩:=ha W7;obtain rfl:r.length=sz:=hl.even 0 r rfl;subst hr;obtain⟨l,h1,h2⟩:=CE (P:=P) (o:=o) (c:=b) hl.even (λi q hq=>hl.row hrep hq);exact⟨_,cap,l,rfl,λw2 hw2=>by simp only[Builtin.firstCells];exact h1 w2 hw2,h2⟩
   ·cases h
 ·rename_i b' i k;split at h
  ·rename_i y hy;split at h
   ·rename_i hcond;obtain⟨hsz,hik⟩:=hcond;cases h;obtain⟨pl,a,cap,rfl,hs,hn,hm,ha⟩:=hx.sl_inv;obtain⟨pl',cs',e',g1,g2⟩:=hW.live b' y hy;rw[hs]at g1;cases g1;replace g2:=g2.1 (hx.sl_ok hs);have hlen:((y.rows.drop i).take k).length=k:=by simp;omega
    rw[hlen];have get:∀(q:Nat) (r:List AV),((y.rows.drop i).take k)[q]? =some r→y.rows[i+q]? =some r:=λq r hq=>by
     have hi:=aA hq;rw[hlen]at hi
     rwa [VW hi,Wg]at hq
    rcases Wi k with hk|hk
    ·subst hk;exact⟨_,cap,[],rfl,λw2 _=>by simp[Builtin.firstCells,loadCells,loadCellsFrom],by simpa using Flat.nil n⟩
    ·obtain⟨rfl,cs,ty,hc,hr⟩:=ha W4;obtain⟨l,h1,h2⟩:=CE (P:=P) (w:=w) (σ:=σ) (T:=aJ σ H) (m:=(y.rows.drop i).take k) (n:=n) (c:=pl.block) (o:=pl.base+i*pl.size) (λq r hq=>by rw[←hsz];exact g2.even _ r (get q r hq)) (λq r hq=>by
      have:=g2.row (get q r hq);rw[V6,←Wh]at this
      rwa [g2.size,hsz]at this ⊢)
     rw[hlen]at h1;exact⟨_,cap,l,rfl,λw2 hw2=>by simp only[Builtin.firstCells];exact h1 w2 hw2,h2⟩
   ·cases h
  ·cases h
 ·cases h
theorem Flat.ones{rows:List (List AV)}{n:Nat}{l:List Value}(h:Flat w σ T rows n l)(ho:(rows.all λr=>r.all AV.one)=true):∀u∈l,u.oneCell'=true:=by
 intro u hu;obtain⟨p,hp,rfl⟩:=Wq hu;have hlen:=h.len;have hn:0<n:=by
  rcases Wi n with h0|h0
  ·subst h0;rw[Nat.mul_zero]at hlen;omega
  ·exact h0
 have hi:p / n<rows.length:=by rw[Nat.div_lt_iff_lt_mul hn];omega
 have hr:rows[p / n]? =some rows[p / n]:=Vn hi;have hj:p % n<rows[p / n].length:=by rw[h.even _ _ hr];exact Nat.mod_lt _ hn
 have hrep:=h.rep (p / n) _ (p % n) _ l[p] hr (Vn hj) (by rw[Nat.mul_comm,Nat.div_add_mod];exact Vn hp);refine hrep.one ?_;rw[VE]at ho;have:=ho _ (VI hi);rw[VE]at this;exact this _ (VI hj)
theorem fQ{t tx ty e e':TypeId}{n sLen sCap k capx:Nat}{A B:Option Addr}{news:List Value}(ht:P.underlying t=some (.slice e))(htx:P.underlying tx=some (.slice e'))(hn:aR P e=some n)
  (hroom:sLen+k≤sCap) (hc:(Builtin.firstCells n k (.slice B k capx)).run P w=.ok news.toArray w) {w':World} (hst:(match A with|some a=>storeCells (a.add (sLen*n)) news|none=>Pure.pure ()).run P w=.ok () w') :
  (Builtin.append_ #[t,tx] ty #[.slice A sLen sCap,.slice B k capx]).run P w=.ok (.slice A (sLen+k) sCap) w':=by
 cases A with
 |none=>simp only[V8]at hst;cases hst;simp[Builtin.append_,run_underlying ht,run_underlying htx,cF hn,Builtin.lenOf,hroom,hc]
 |some a=>simp only[]at hst;simp[Builtin.append_,run_underlying ht,run_underlying htx,cF hn,Builtin.lenOf,hroom,hc,hst]
theorem Hw(hW:aX w σ H)(hb:σ b=none)(hlt:b<H.next){t tx ty e':TypeId}{s x v:AV}{s' x':Value}{H':ae}(hx:aU w σ (aJ σ H) x x')(hs:aU w σ (aJ σ H) s s')
  (htx:P.underlying tx=some (.slice e')) (h:cO P H b t s x=some (v,H')):ER P (Builtin.append_ #[t,tx] ty #[s',x']) w σ H b v H':=by
 unfold cO at h;split at h
 ·rename_i e hu;split at h
  ·rename_i n by_ z hn hby hz;split at h
   ·rename_i l m hl hm;split at h
    ·rename_i hc;obtain⟨c1,c2,h0,hzn,hone⟩:=hc;cases hi:P.info? e with
     |none=>simp[i9,hi]at hby
     |some i=>
     have hib:i.bytes=by_:=by simpa[i9,hi]using hby
     have hin:i.size=n:=by simpa[aR,hi]using hn
     cases hza:eb P e with
     |none=>rw[hza]at hz;cases hz
     |some za=>
     rw[hza]at hz;simp only[Wc]at hz;obtain⟨z',hz1,hz2⟩:=eB (P:=P) (w:=w) (σ:=σ) (T:=aJ σ H) hza;have hiz:i.zero=some z':=by
      simp only[zeroValue,VV,vT hi,VB]at hz1;split at hz1
      ·rename_i q hq;cases hz1;exact hq
      ·cases hz1
     have hzr:=hz2.cells hz;obtain⟨A,cap,olds,rfl,ho1,ho2⟩:=Fj (P:=P) hW hs hl;obtain⟨B,capx,news,rfl,hn1,hn2⟩:=Fj (P:=P) hW hx hm;have grow:∀{K:ae},(hWK:aX w σ K)→(hext:ew w σ (aJ σ H) w σ (aJ σ K))→b<K.next→cap<l.length+m.length→
       ER P (Builtin.append_ #[t,tx] ty #[.slice A l.length cap,.slice B m.length capx]) w σ H b (.sl b 0 (l.length+m.length)) (K.new b ⟨n,l++m⟩):=by
      intro K hWK hext hltK hcap;have hrun:=run_append_grow_src (P:=P) w t tx ty e i z' hu hi hiz A l.length cap olds (by rw[hin];exact ho1 _ rfl) (.slice B m.length capx) m.length news
       ⟨.inl ⟨e',htx⟩,λ_=>rfl,by rw[hin];exact hn1 w rfl,by rw[hin];exact hn1 _ rfl,by rw[hin];exact hn2.len,hn2.ones hone⟩ hcap W4
       (by rw[hib];have:=VH by_ (nextslicecap_le hcap);omega)
      generalize hgc:grownCap w (l.length+m.length) cap e=gc at hrun;have hgc1:l.length+m.length≤gc∧gc≤maxLen:=by rw[←hgc];have hcut:grownCap w (l.length+m.length) cap e=(l.length+m.length)+w.tape w.drawn (.appendCap (l.length+m.length) cap e) % (2^63-(l.length+m.length)):=rfl;rw[hcut];unfold maxLen;have:w.tape w.drawn (.appendCap (l.length+m.length) cap e) % (2^63-(l.length+m.length))<2^63-(l.length+m.length):=Nat.mod_lt _ W4;omega
      have hE:ew w σ (aJ σ H) w.drew σ (aJ σ K):=hext.trans (ew.same σ _ rfl rfl rfl rfl);have hzs:z'.cells.size=n:=by rw[←VJ,←hzr.1,hzn]
      have hfl:Flat w σ (aJ σ H) (l++m) n (olds++news):=ho2.append hn2;generalize hcs:((olds++news).toArray++Builtin.zeroCells z'.cells (gc-(l.length+m.length)):Array Value)=cs at hrun;have hcl:cs.size=gc*n:=by rw[←hcs];have h1:=hfl.len;simp only[Vy]at h1;simp only[Array.size_append,List.size_toArray,Vy,h1,Builtin.zeroCells,Array.size_map,Array.size_range,hzs];rw[←V6];congr 1;omega
      have hcget:∀p u,p<(l++m).length*n→cs[p]? =some u→(olds++news)[p]? =some u:=λp u hp hu=>by rw[←hcs,Array.getElem?_append_left (by simp only[List.size_toArray];rw[hfl.len];exact hp)]at hu;simpa using hu
      obtain⟨g1,g2⟩:=(hWK.same (w':=w.drew) rfl rfl rfl rfl).new hb hltK (x:=⟨n,l++m⟩) (cs:=cs) (e:=e) hfl.even (by rw[hcl];simp only[Vy];exact VH _ hgc1.1) (λi r j a u hr ha hu=>by
       have hj:j<n:=by rw[←hfl.even i r hr];exact aA ha
       exact(hfl.rep i r j a u hr ha (hcget _ u (o4 (aA hr) hj) hu)).mono hE)
      refine⟨_,_,_,hrun,?_,g1,hE.trans g2,λc pl hc=>?_⟩
      ·exact Ji (w:=w.drew) (x:=⟨n,l++m⟩) hgc1.1 hgc1.2 (by rw[hcl];exact Vo _)
      ·by_cases hbc:b=c
       ·exact .inr hbc.symm
       ·rw[bq.set_ne _ _ hbc]at hc;exact .inl hc
     split at h
     ·
      cases hl;simp only[VU]at hs;cases hs;split at h
      ·rename_i hm0;cases h;refine⟨.slice none 0 0,w,σ,?_,.nils,hW,ew.refl _ _ _,λc pl hc=>.inl hc⟩;have:=fQ (P:=P) (ty:=ty) (A:=none) (sLen:=0) (sCap:=0) (k:=m.length) hu htx hn W4 (hn1 w rfl) (w':=w) rfl;rw[hm0]at this;simpa[hm0]using this
      ·rename_i hm0;cases h;have:=grow hW (ew.refl _ _ _) hlt (by simp;omega);simpa using this
     ·
      cases hl;simp only[VU]at hs;cases hs;split at h
      ·rename_i hm0;cases h;refine⟨.slice A 0 0,w,σ,?_,.emp A,hW,ew.refl _ _ _,λc pl hc=>.inl hc⟩;have hm':m=[]:=by cases m with
        |nil=>rfl
        |cons x m=>simp at hm0
       have hnews:news=[]:=by have:=hn2.len;rw[hm']at this;simpa using this
       have:=fQ (P:=P) (ty:=ty) (A:=A) (sLen:=0) (sCap:=0) (k:=m.length) hu htx hn W4 (hn1 w rfl) (w':=w) (by rw[hnews];cases A<;>rfl);rw[hm0]at this;simpa[hm0]using this
      ·rename_i hm0;cases h;have:=grow hW (ew.refl _ _ _) hlt (by simp;omega);simpa using this
     ·rename_i b' i k;cases h;obtain⟨pl,a,cap',heq,hsig,hk,hcm,ha⟩:=hs.sl_inv;simp only[Value.slice.injEq]at heq;obtain⟨rfl,hkl,rfl⟩:=heq;simp only[fy]at hl;split at hl
      ·rename_i y hy;split at hl
       ·rename_i hcond;obtain⟨hyn,hik⟩:=hcond;cases hl;have hlen:((y.rows.drop i).take k).length=k:=by simp;omega
        obtain⟨pl',ds,e0,q1,q2⟩:=hW.live b' y hy;rw[hsig]at q1;cases q1;have hpk:=hs.sl_ok hsig;replace q2:=q2.1 hpk;have hps:pl.size=n:=q2.size.trans hyn;have hget:∀(q:Nat) (r:List AV),((y.rows.drop i).take k)[q]? =some r→q<k∧y.rows[i+q]? =some r:=λq r hq=>by have hi:=aA hq;rw[hlen]at hi;rw[VW hi,Wg]at hq;exact⟨hi,hq⟩
        have hfl:Flat w σ (aJ σ H) ((y.rows.drop i).take k++m) n (olds++news):=ho2.append hn2;by_cases hroom:((y.rows.drop i).take k).length+m.length≤cap
        ·
         by_cases hc0:cap=0
         ·subst hc0;have hm0:m.length=0:=by omega
          have hk0:k=0:=by omega
          have hlk:((y.rows.drop i).take k)=[]:=by rw[hk0];simp
          have hm':m=[]:=by cases m with
           |nil=>rfl
           |cons x m=>simp at hm0
          have hnews:news=[]:=by have:=hn2.len;rw[hm']at this;simpa using this
          have hrun:=fQ (P:=P) (ty:=ty) (A:=some a) hu htx hn hroom (hn1 w rfl) (w':=w) (by rw[hnews];rfl);obtain⟨o1,o2⟩:=hW.over (k:=0) hy hsig hb hlt (lH.refl q2.block) (x':=⟨n,(y.rows.drop i).take k++m⟩) hps.symm hfl.even (by rw[hlk,hm'];have:=q2.room;simp;omega) (by rw[hlk,hm'];intro i r j a u hr;simp at hr);refine⟨_,_,_,hrun,?_,o1,o2,λc pl hc=>?_⟩
          ·exact aU.sl b 0 _ _ a 0 (bq.set_eq _ _ _) (cl.ok_over hpk _ _) hroom W4 W4
          ·by_cases hbc:b=c
           ·exact .inr hbc.symm
           ·rw[bq.set_ne _ _ hbc]at hc;exact .inl hc
         ·obtain⟨rfl,cs,ty',hcb,hcr⟩:=ha W4;rw[q2.block]at hcb;cases hcb;have hnl:news.length=m.length*n:=hn2.len;have hcap:(k+m.length)*n≤cap*n:=VH _ W4;have hbound:pl.base+i*pl.size+k*n+news.length≤ds.size:=by rw[hnl,hps];rw[hps,V6]at hcr;rw[V6]at hcap;omega
          have hst:=run_storeCells_at (P:=P) pl.block (pl.base+i*pl.size+k*n) e0 news 0 ds w q2.block (by simpa using hbound) (hn2.ones hone);simp only[WN]at hst;have hw:lH w (w.setRow pl.block (ds.toList.take (pl.base+i*pl.size+k*n)++news++ds.toList.drop (pl.base+i*pl.size+k*n+news.length)).toArray) pl.block ds _ e0:=
           ⟨rfl,rfl,rfl,W7,q2.block,setRow_heap w _ _ _ _ _ q2.block,by
            simp only[List.size_toArray,Vy,VR,WS,VJ];rw[Wd W4];omega,λd hd=>setRow_other w _ d _ hd⟩
          have hrun:=fQ (P:=P) (ty:=ty) (A:=some ⟨pl.block,pl.base+i*pl.size,none⟩) hu htx hn hroom (hn1 w rfl) (by simp only[ez];rw[hlen];exact hst);have hdl:ds.toList.length=ds.size:=VJ;obtain⟨o1,o2⟩:=hW.over (k:=i) hy hsig hb hlt hw (x':=⟨n,(y.rows.drop i).take k++m⟩) hps.symm hfl.even (by
           simp only[Vy,hlen];rw[V6];omega) (λq r j a u hr hj hu=>by
           simp only[]at hr hu;have hjn:j<n:=by rw[←hfl.even q r hr];exact aA hj
           rw[List.getElem?_toArray,gD ds.toList news _ _ W4]at hu;rcases Vt q k with hq|hq
           ·rw[VF W4]at hr;have:=o4 hq hjn;rw[if_pos W4,VM]at hu;refine q2.rep (i+q) r j a u (hget q r hr).2 hj ?_;rw[hyn,←hu,hps];congr 1;rw[V6];omega
           ·rw[Vx W4,hlen]at hr;have hqm:q-k<m.length:=aA hr;have h1:=o4 hqm hjn;have h2:(q-k)*n+k*n=q*n:=by rw[←V6,Nat.sub_add_cancel hq]
            rw[if_neg W4,if_pos W4]at hu;refine hn2.rep (q-k) r j a u hr hj ?_;rw[←hu];congr 1;omega)
          refine⟨_,_,_,hrun,?_,o1,o2,λc pl hc=>?_⟩
          ·refine aU.sl b 0 _ _ _ cap (bq.set_eq _ _ _) (cl.ok_over hpk _ _) hroom hcm λ_=>⟨W7,_,e0,hw.new,?_⟩
           rw[hw.len];simp only[Wj];rw[V6]at hcr;omega
          ·by_cases hbc:b=c
           ·exact .inr hbc.symm
           ·rw[bq.set_ne _ _ hbc]at hc;exact .inl hc
        ·
         have hsub:∀c x,(H.put b' none).get c=some x→H.get c=some x:=λc x hx=>by
          rw[ae.get_put]at hx;split at hx
          ·cases hx
          ·exact hx
         exact grow (hW.sub hsub (Vo _)) (ew.sub hsub) hlt W4
       ·cases hl
      ·cases hl
     ·cases h
    ·cases h
   ·cases h
  ·cases h
 ·cases h
theorem Flat.sub{rows:List (List AV)}{n:Nat}{l:List Value}(h:Flat w σ T rows n l):∀(i:Nat) (r:List AV) (j:Nat) (a:AV) (u:Value),rows[i]? =some r→r[j]? =some a→l[i*n+j]? =some u→aU w σ T a u:=h.rep
theorem Hy(hW:aX w σ H){c:Nat}{y:Blk}{pl:cl}(hy:H.get c=some y)(hs:σ c=some pl)(hpk:pl.ok){i:Nat}{rows:List (List AV)}{us:List Value}(hf:Flat w σ (aJ σ H) rows y.size us)(hin:i+rows.length≤y.rows.length)(hone:∀u∈us,u.oneCell'=true):
  ∃w',(storeCells ⟨pl.block,pl.base+i*pl.size,none⟩ us).run P w=.ok () w'∧aX w' σ (H.put c (some {y with rows:=y.rows.take i++rows++y.rows.drop (i+rows.length)}))∧ew w σ (aJ σ H) w' σ (aJ σ (H.put c (some {y with rows:=y.rows.take i++rows++y.rows.drop (i+rows.length)}))):=by
 obtain⟨pl',ds,e,g1,g2⟩:=hW.live c y hy;rw[hs]at g1;cases g1;replace g2:=g2.1 hpk;have hsz:=g2.size;have hroom:=g2.room;have hm:(i+rows.length)*y.size≤y.rows.length*y.size:=VH _ hin;have hul:us.length=rows.length*y.size:=hf.len;rw[V6]at hm;have hdl:ds.toList.length=ds.size:=VJ;have hst:=run_storeCells_at (P:=P) pl.block (pl.base+i*pl.size) e us 0 ds w g2.block (by rw[hul,hsz];omega) hone;simp only[WN]at hst;have hw:lH w (w.setRow pl.block (ds.toList.take (pl.base+i*pl.size)++us++ds.toList.drop (pl.base+i*pl.size+us.length)).toArray) pl.block ds _ e:=
  ⟨rfl,rfl,rfl,W7,g2.block,setRow_heap w _ _ _ _ _ g2.block,by
   simp only[List.size_toArray,Vy,VR,WS,VJ];rw[hsz,Wd W4];omega,λd hd=>setRow_other w _ d _ hd⟩
 have hlen:(y.rows.take i++rows++y.rows.drop (i+rows.length)).length=y.rows.length:=by simp only[Vy,VR,WS];omega
 refine⟨_,hst,hW.put hy hs hw (x':={y with rows:=y.rows.take i++rows++y.rows.drop (i+rows.length)}) hsz.symm ?_ ?_ ?_⟩
 ·intro q s hq;simp only[]at hq;rw[gD _ _ _ _ hin]at hq;split at hq
  ·exact g2.even q s hq
  ·split at hq
   ·exact hf.even _ s hq
   ·exact g2.even q s hq
 ·simp only[hlen];exact hroom
 ·intro q s j a u hq hj hu;simp only[]at hq hu;rw[gD _ _ _ _ hin]at hq;rw[List.getElem?_toArray,gD ds.toList us (pl.base+i*pl.size) _ (by rw[hul,hsz];omega),hul,hsz]at hu;by_cases h1:q<i
  ·rw[if_pos h1]at hq;have hjs:j<y.size:=by rw[←g2.even q s hq];exact aA hj
   have:(q+1)*y.size≤i*y.size:=VH _ h1;rw[V6]at this;rw[if_pos W4,VM]at hu;exact g2.rep q s j a u hq hj hu
  ·rw[if_neg h1]at hq;have h1':i*y.size≤q*y.size:=VH _ W4;by_cases h2:q<i+rows.length
   ·rw[if_pos h2]at hq;have hjs:j<y.size:=by rw[←hf.even _ s hq];exact aA hj
    have:(q+1)*y.size≤(i+rows.length)*y.size:=VH _ h2;rw[V6,V6]at this;rw[if_neg W4,if_pos W4]at hu;refine hf.rep (q-i) s j a u hq hj ?_;rw[←hu];congr 1;rw[Nat.sub_mul];omega
   ·rw[if_neg h2]at hq;have:(i+rows.length)*y.size≤q*y.size:=VH _ W4;rw[V6]at this;rw[if_neg W4,if_neg W4,VM]at hu;exact g2.rep q s j a u hq hj hu
theorem Jj{b:Nat}(hW:aX w σ H){t ty:TypeId}{x:AV}{x':Value}{H':ae}(hx:aU w σ (aJ σ H) x x')(h:eY P H t x=some H'):
  ER P (Builtin.clear_ #[t] ty #[x']) w σ H b (.tup []) H':=by
 unfold eY at h;split at h
 ·rename_i e hu;split at h
  ·rename_i n z hn hz;split at h
   ·cases h;cases hx;exact⟨.tuple #[],w,σ,by simp[Builtin.clear_,run_underlying hu],.tup [] [] rfl W7,hW,ew.refl _ _ _,λc pl hc=>.inl hc⟩
   ·rename_i c i k;split at h
    ·rename_i y hy;split at h
     ·rename_i hcond;obtain⟨⟨q1,q2⟩,⟨q3,q4⟩,q5⟩:=hcond;cases h;obtain⟨pl,ad,cap,rfl,hsg,hnc,hmx,ha⟩:=hx.sl_inv;rcases Wi k with rfl|hk
      ·have e0:y.rows.take i++List.replicate 0 z++y.rows.drop (i+0)=y.rows:=by simp
       obtain⟨pl',ds,e',g1,g2⟩:=hW.live c y hy;rw[hsg]at g1;cases g1;replace g2:=g2.1 (hx.sl_ok hsg);have hput:=hW.put hy hsg (lH.refl g2.block) (x':={y with rows:=y.rows.take i++List.replicate 0 z++y.rows.drop (i+0)}) g2.size.symm (by simp only[e0];exact g2.even) (by simp only[e0];exact g2.room) (by simp only[e0];exact g2.rep);exact⟨.tuple #[],w,σ,by simp[Builtin.clear_,run_underlying hu],.tup [] [] rfl W7,hput.1,hput.2,λc pl hc=>.inl hc⟩
      ·obtain⟨rfl,cs,te,hcs,hroom⟩:=ha W4;cases hz0:eb P e with
       |none=>rw[hz0]at hz;cases hz
       |some z0=>
        rw[hz0]at hz;obtain⟨z',h1,h2⟩:=eB (P:=P) (w:=w) (σ:=σ) (T:=aJ σ H) hz0;have hr:=h2.cells hz;obtain⟨l,hl1,hl2,hl3,hl4⟩:=Flat.zeros (zs:=z'.cells) hr q2 q3 k k (Vo _);rw[Wb W4]at hl3;have hlz:(Builtin.zeroCells z'.cells k).toList=l:=by
         have hzs:z'.cells.size=n:=by rw[←VJ,←hr.1,q2]
         have:Builtin.zeroCells z'.cells k=l.toArray:=by rw[←hl1,←hzs];rfl
         rw[this]
        subst q1;have hfl:Flat w σ (aJ σ H) (List.replicate k z) y.size l:=hl3;have hones:∀u∈l,u.oneCell'=true:=λu hu'=>by obtain⟨a,ha1,ha2⟩:=hl4 u hu';exact ha1.one (VE.1 q5 a ha2)
        obtain⟨w',g1,g2,g3⟩:=Hy (P:=P) hW hy hsg (hx.sl_ok hsg) hfl (by simpa using q4) hones;simp only[List.length_replicate]at g2 g3;refine⟨.tuple #[],w',σ,?_,.tup [] [] rfl W7,g2,g3,λc pl hc=>.inl hc⟩;have hk0:k≠0:=by omega
        obtain⟨k',rfl⟩:∃k',k=k'+1:=⟨k-1,W4⟩;simp[Builtin.clear_,run_underlying hu,h1,hlz,g1]
     ·cases h
    ·cases h
   ·cases h
  ·cases h
 ·cases h
end
end
section
open Go.RowKit
section
variable {P:Program} {F:TypeId→Option (List TypeId)} {w:World} {σ:bq} {H:ae} {b:Nat}
theorem Fk(hW:aX w σ H)(hb:σ b=none)(hlt:b<H.next){x:Blk}{o:Obj}{k:Nat}(ho:∀cs e,o≠.cells cs e (0,0))(hh:vS (World.push w o) x ⟨w.heap.size,k,0⟩)(hk:0<k){s:Sem Value}{v:AV}{v':Value}
  (hs:s.run P w=.ok v' (World.push w o)) (hv:∀w2 T,aU w2 (σ.set b ⟨w.heap.size,k,0⟩) T v v'):ER P s w σ H b v (H.new b x):=by
 have hnone:H.get b=none:=by
  cases hg:H.get b with
  |none=>rfl
  |some y=>obtain⟨pl,_,_,h1,_⟩:=hW.live b y hg;rw[hb]at h1;cases h1
 have hold:∀c,c<w.heap.size→(World.push w o).heap[c]? =w.heap[c]? :=λc hc=>by show(w.heap.push _)[c]? =_;rw[Array.getElem?_push,if_neg (Nat.ne_of_lt hc)]
 have hnok:¬cl.ok ⟨w.heap.size,k,0⟩:=by rintro(h|h)<;>simp only[]at h<;>omega
 have ext:ew w σ (aJ σ H) (World.push w o) (σ.set b ⟨w.heap.size,k,0⟩) (aJ (σ.set b ⟨w.heap.size,k,0⟩) (H.new b x)):=by
  refine⟨rfl,rfl,rfl,by simp[World.push],λc hc _=>hold c hc,λc cs' e' hc=>⟨cs',?_,rfl⟩,λc q hq=>bq.set_old hb hq,rfl,λc hc=>hold c (hW.apart c hc).1,?_⟩
  ·rcases Vt c w.heap.size with hlt|hge
   ·rw[hold c hlt];exact hc
   ·rw[Array.getElem?_eq_none hge]at hc;cases hc
  ·rintro c (hfr|⟨b',y,pl,h1,h2,h3⟩)
   ·exact .inl (.inl hfr)
   rw[ae.get_new]at h1;by_cases hbb:b=b'
   ·subst hbb;rw[bq.set_eq]at h2;cases h2;exact .inr (by simp only[]at h3;omega)
   ·rw[if_neg hbb]at h1;rw[bq.set_ne _ _ hbb]at h2;exact .inl (.inr ⟨b',y,pl,h1,h2,h3⟩)
 refine⟨v',_,_,hs,hv _ _,⟨?_,?_,?_,λc hc=>?_,?_,hW.glob.mono ext⟩,ext,λc pl hc=>?_⟩
 ·intro c pl hc;by_cases hbc:b=c
  ·subst hbc;exact hlt
  ·rw[bq.set_ne _ _ hbc]at hc;exact hW.named c pl hc
 ·intro c pl hc;by_cases hbc:b=c
  ·subst hbc;rw[bq.set_eq]at hc;cases hc;simp[World.push]
  ·rw[bq.set_ne _ _ hbc]at hc;have:=hW.lt c pl hc;simp[World.push];omega
 ·intro c y hy;rw[ae.get_new]at hy;by_cases hbc:b=c
  ·subst hbc;rw[if_pos rfl]at hy;cases hy;exact⟨_,#[],0,bq.set_eq _ _ _,λhp=>absurd hp hnok,λ_=>hh⟩
  ·rw[if_neg hbc]at hy;obtain⟨pl,cs',e',h1,h2⟩:=hW.live c y hy;exact⟨pl,cs',e',by rw[bq.set_ne _ _ hbc];exact h1,h2.mono ext (hold _ (hW.lt c pl h1))⟩
 ·have hlt':=(hW.apart c hc).1;refine⟨by simp[World.push];omega,?_⟩;rintro⟨b',y,pl,h1,h2,h3⟩;rw[ae.get_new]at h1;by_cases hbb:b=b'
  ·subst hbb;rw[bq.set_eq]at h2;cases h2;simp only[]at h3;omega
  ·rw[if_neg hbb]at h1;rw[bq.set_ne _ _ hbb]at h2;exact(hW.apart c hc).2 ⟨b',y,pl,h1,h2,h3⟩
 ·intro c c' y y' pl pl' h1 h2 h3 h4 h5;rw[ae.get_new]at h1 h2;by_cases hbc:b=c
  ·by_cases hbc':b=c'
   ·exact hbc.symm.trans hbc'
   ·subst hbc;rw[bq.set_eq]at h3;cases h3;rw[bq.set_ne _ _ hbc']at h4;have:=hW.lt c' pl' h4;simp only[]at h5;omega
  ·by_cases hbc':b=c'
   ·subst hbc';rw[bq.set_eq]at h4;cases h4;rw[bq.set_ne _ _ hbc]at h3;have:=hW.lt c pl h3;simp only[]at h5;omega
   ·rw[if_neg hbc]at h1;rw[if_neg hbc']at h2;rw[bq.set_ne _ _ hbc]at h3;rw[bq.set_ne _ _ hbc']at h4;exact hW.inj c c' y y' pl pl' h1 h2 h3 h4 h5
 ·by_cases hbc:b=c
  ·exact .inr hbc.symm
  ·rw[bq.set_ne _ _ hbc]at hc;exact .inl hc
theorem Q4(hW:aX w σ H){c:Nat}{x x':Blk}{pl:cl}(hg:H.get c=some x)(hs:σ c=some pl){o o':Obj}(hold:w.heap[pl.block]? =some o)(ho:∀cs e,o≠.cells cs e (0,0))(hn:¬pl.ok)
  (hh:vS {w with heap:=w.heap.setIfInBounds pl.block o'} x' pl) :
  aX {w with heap:=w.heap.setIfInBounds pl.block o'} σ (H.put c (some x'))∧ew w σ (aJ σ H) {w with heap:=w.heap.setIfInBounds pl.block o'} σ (aJ σ (H.put c (some x'))):=by
 have rest:∀d,d≠pl.block→(w.heap.setIfInBounds pl.block o')[d]? =w.heap[d]? :=(MapKept.heap_set hold).2;have htok:EN σ (H.put c (some x'))=EN σ H:=by
  funext d;apply propext;constructor
  ·rintro⟨b',y,q,h1,h2,h3⟩;rw[ae.get_put]at h1;by_cases hbb:c=b'
   ·subst hbb;exact⟨c,x,q,hg,h2,h3⟩
   ·rw[if_neg hbb]at h1;exact⟨b',y,q,h1,h2,h3⟩
  ·rintro⟨b',y,q,h1,h2,h3⟩;by_cases hbb:c=b'
   ·subst hbb;exact⟨c,x',q,by rw[ae.get_put,if_pos rfl],h2,h3⟩
   ·exact⟨b',y,q,by rw[ae.get_put,if_neg hbb];exact h1,h2,h3⟩
 have hown:aJ σ (H.put c (some x'))=aJ σ H:=by funext d;simp[aJ,htok]
 have hT:EN σ H pl.block:=⟨c,x,pl,hg,hs,rfl⟩;have ext:ew w σ (aJ σ H) {w with heap:=w.heap.setIfInBounds pl.block o'} σ (aJ σ (H.put c (some x'))):=by rw[hown];refine⟨rfl,rfl,rfl,W7,λd _ hd=>rest d (by rintro rfl;exact hd (.inr hT)),λd ds e hd=>⟨ds,?_,rfl⟩,λ_ _ h=>h,rfl,λd hd=>rest d (by rintro rfl;exact(hW.apart _ hd).2 hT),λ_ h=>.inl h⟩;rw[rest d (by rintro rfl;rw[hold]at hd;cases hd;exact ho _ _ rfl)];exact hd
 refine⟨⟨hW.named,λd q hd=>by simpa using hW.lt d q hd,?_,λd hd=>by rw[htok];simpa using hW.apart d hd,?_,hW.glob.mono ext⟩,ext⟩
 ·intro d y hy;rw[ae.get_put]at hy;by_cases hbc:c=d
  ·subst hbc;rw[if_pos rfl]at hy;cases hy;exact⟨pl,#[],0,hs,λhp=>absurd hp hn,λ_=>hh⟩
  ·rw[if_neg hbc]at hy;obtain⟨q,ds,e',h1,h2⟩:=hW.live d y hy;exact⟨q,ds,e',h1,h2.mono ext (rest _ λhe=>hbc (hW.inj c d x y pl q hg hy hs h1 he.symm))⟩
 ·intro d d' y y' q q' h1 h2;have aux:∀d y,(H.put c (some x')).get d=some y→∃z,H.get d=some z:=λd y hy=>by
   rw[ae.get_put]at hy;by_cases hbc:c=d
   ·subst hbc;exact⟨x,hg⟩
   ·rw[if_neg hbc]at hy;exact⟨y,hy⟩
  obtain⟨z,hz⟩:=aux d y h1;obtain⟨z',hz'⟩:=aux d' y' h2;exact hW.inj d d' z z' q q' hz hz'
theorem aU.mp_inv{T:Nat→Prop}{c:Nat}{v:Value}(hW:aX w σ H)(h:aU w σ T (.mp c) v){x:Blk}(hx:H.get c=some x):
  ∃pl es clk,v=.map (some pl.block)∧σ c=some pl∧pl.base=1∧pl.size=0∧x.size=0∧¬pl.ok∧w.heap[pl.block]? =some (.map es clk)∧es.toList.map Hl=x.rows.map some:=by
 cases h with
 |mp _ pl hs h1 h2=>
 obtain⟨pl',cs,e,g1,g2⟩:=hW.live c x hx;rw[hs]at g1;cases g1;have hn:¬pl.ok:=by rintro(h|h)<;>omega
 have hh:=g2.2 hn;rcases hh.obj with⟨_,es,clk,k1,k2⟩|⟨k0,_⟩
 ·exact⟨pl,es,clk,rfl,hs,h2,h1,hh.size,hn,k1,k2⟩
 ·omega
theorem aU.it_inv{T:Nat→Prop}{c:Nat}{v:Value}(hW:aX w σ H)(h:aU w σ T (.it c) v){x:Blk}(hx:H.get c=some x):
  ∃(pl:cl) (s:ByteArray) (pos:Nat),v=.pointer (some ⟨pl.block,0,none⟩)∧σ c=some pl∧pl.base=2∧pl.size=0∧x.size=0∧¬pl.ok∧w.heap[pl.block]? =some (.stringIter s pos)∧x.rows=[[.str s.data.toList,.int .i64 pos]]:=by
 cases h with
 |it _ pl hs h1 h2=>
 obtain⟨pl',cs,e,g1,g2⟩:=hW.live c x hx;rw[hs]at g1;cases g1;have hn:¬pl.ok:=by rintro(h|h)<;>omega
 have hh:=g2.2 hn;rcases hh.obj with⟨k0,_⟩|⟨_,s,pos,k1,k2⟩
 ·omega
 ·exact⟨pl,s,pos,rfl,hs,h2,h1,hh.size,hn,k1,k2⟩
theorem O1{v:Value}{s:List UInt8}(h:Hk v=some (.str s)):∃ba:ByteArray,v=.string ba∧ba.data.toList=s:=by cases v<;>simp[Hk]at h;exact⟨_,rfl,h⟩
theorem Ko{T:Nat→Prop}{v:Value}{a:AV}(h:Hk v=some a):aU w σ T a v:=by
 cases v<;>simp only[Hk,Vz,reduceCtorEq]at h<;>subst h
 ·exact .bool _
 ·exact .int _ _
 ·exact .str _
theorem Lp{T:Nat→Prop}{v:Value}{a:AV}(h:aU w σ T a v)(hk:a.konst=true):Hk v=some a:=by cases h<;>first|rfl|(simp[AV.konst]at hk)
theorem F5{T:Nat→Prop}{v:Value}{s:List UInt8}(h:aU w σ T (.str s) v):∃ba:ByteArray,v=.string ba∧ba.data.toList=s:=by
 cases h with
 |str ba=>exact⟨ba,rfl,rfl⟩
theorem mE{ba:ByteArray}:∀(l:List MapEntry) (rows:List (List AV)) (i:Nat),l.map Hl=rows.map some→rows.all vR=true→
  (Instr.findNow .string (.string ba) l i=some none∧gu ba.data.toList rows i=none) ∨
  ∃j e v,Instr.findNow .string (.string ba) l i=some (some (i+j,e.val))∧gu ba.data.toList rows i=some (i+j,v)∧l[j]? =some e∧Hk e.val=some v∧e.key=.string ba
 |[],[],i,_,_=>.inl ⟨rfl,rfl⟩
 |[],r::rows,i,h,_=>by simp at h
 |e::l,[],i,h,_=>by simp at h
 | e::l,r::rows,i,h,hk=>by
  simp only[Vp,List.cons.injEq]at h;simp only[List.all_cons,VS]at hk;have h1:=h.1;unfold Hl at h1;split at h1
  ·rename_i k v hkk hv;cases h1;have h2:=hk.1;unfold vR at h2;split at h2
   ·rename_i s v' heq;cases heq;obtain⟨kb,hkb,rfl⟩:=O1 hkk;have hsn:Instr.sameNow .string (.string ba) e.key=some (ba==kb):=by rw[hkb];rfl
    have hbb:(ba.data.toList==kb.data.toList)=(ba==kb):=by
     rw[Bool.eq_iff_iff,MapKept.bytes_beq];constructor
     ·intro hh;have:ba.data.toList=kb.data.toList:=by simpa using hh
      obtain⟨x⟩:=ba;obtain⟨y⟩:=kb;simp only[]at this;congr 1;exact Array.toList_inj.1 this
     ·rintro rfl;simp
    cases hr:(ba==kb)with
    |true=>have he:ba=kb:=(MapKept.bytes_beq _ _).1 hr;rw[hr]at hsn hbb;exact .inr ⟨0,e,v,by simp[Instr.findNow,hsn],by simp[gu,hbb],rfl,hv,by rw[hkb,he]⟩
    |false=>
     rw[hr]at hsn hbb;rcases mE (ba:=ba) l rows (i+1) h.2 hk.2 with⟨g1,g2⟩|⟨j,e',v',g1,g2,g3,g4,g5⟩
     ·exact .inl ⟨by simp[Instr.findNow,hsn,g1],by simp[gu,hbb,g2]⟩
     ·exact .inr ⟨j+1,e',v',by simp[Instr.findNow,hsn,g1];omega,by simp[gu,hbb,g2];omega,by simpa using g3,g4,g5⟩
   ·cases h2
  ·cases h1
theorem UU{T:Nat→Prop}{a:AV}{x:Value}(h:aU w σ T a x):aU w σ T (.tup [a]) (.tuple #[x]):=.tup [a] [x] rfl λi a' x' h1 h2=>by
 match i with
 |0=>cases h1;cases h2;exact h
 |i+1=>simp at h1
theorem S2{T:Nat→Prop}{a b:AV}{x y:Value}(h:aU w σ T a x)(h':aU w σ T b y):aU w σ T (.tup [a,b]) (.tuple #[x,y]):=.tup [a,b] [x,y] rfl λi a' x' h1 h2=>by
 match i with
 |0=>cases h1;cases h2;exact h
 |1=>cases h1;cases h2;exact h'
 |i+2=>simp at h1
theorem UV{T:Nat→Prop}{a b c:AV}{x y z:Value}(h:aU w σ T a x)(h':aU w σ T b y)(h3:aU w σ T c z):aU w σ T (.tup [a,b,c]) (.tuple #[x,y,z]):=.tup [a,b,c] [x,y,z] rfl λi a' x' h1 h2=>by
 match i with
 |0=>cases h1;cases h2;exact h
 |1=>cases h1;cases h2;exact h'
 |2=>cases h1;cases h2;exact h3
 |i+3=>simp at h1
theorem Kq{e:MapEntry}{k v:AV}(h1:Hk e.key=some k)(h2:Hk e.val=some v):Hl e=some [k,v]:=by unfold Hl;rw[h1,h2]
theorem mF{t:TypeId}{m k v:AV}{H':ae}(h:eO P H t m k v=some H'):∃c x x',m=.mp c∧H.get c=some x∧H'=H.put c (some x')∧∀K:ae,K.get c=some x→eO P K t m k v=some (K.put c (some x')):=by
 unfold eO at h;split at h
 ·rename_i kt et c s hu;split at h
  ·rename_i x hku hx;split at h
   ·rename_i hc;cases h;exact⟨c,x,_,rfl,hx,rfl,λK hK=>by simp only[eO,hu,hku,hK];rw[if_pos hc]⟩
   ·cases h
  ·cases h
 ·cases h
theorem vV{it v:AV}{H':ae}(h:iA H it=some (v,H')):∃c x,it=.it c∧H.get c=some x∧((H'=H∧∀K:ae,K.get c=some x→iA K it=some (v,K))∨∃x',H'=H.put c (some x')∧∀K:ae,K.get c=some x→iA K it=some (v,K.put c (some x'))):=by
 unfold iA at h;split at h
 ·rename_i c;split at h
  ·rename_i x hx;split at h
   ·rename_i s k pos hr;split at h
    ·rename_i hp;cases h;exact⟨c,x,rfl,hx,.inr ⟨_,rfl,λK hK=>by simp only[iA,hK,hr];rw[if_pos hp]⟩⟩
    ·rename_i hp;cases h;exact⟨c,x,rfl,hx,.inl ⟨rfl,λK hK=>by simp only[iA,hK,hr];rw[if_neg hp]⟩⟩
   ·cases h
  ·cases h
 ·cases h
theorem CF{t:TypeId}{m k v:AV}{ok:Bool}(h:kh P H t m k ok=some v):∃c x,m=.mp c∧H.get c=some x∧∀K:ae,K.get c=some x→kh P K t m k ok=some v:=by
 unfold kh at h;split at h
 ·rename_i kt et c s hu;split at h
  ·rename_i z x hku hz hx;split at h
   ·rename_i hkeys;exact⟨c,x,rfl,hx,λK hK=>by simp only[kh,hu,hku,hz,hK];rw[if_pos hkeys];exact h⟩
   ·cases h
  ·cases h
 ·cases h
theorem F6(hW:aX w σ H){t:TypeId}{m k v:AV}{m' k':Value}{ok:Bool}(hm:aU w σ (aJ σ H) m m')(hk:aU w σ (aJ σ H) k k')(h:kh P H t m k ok=some v):
  ∃v',(Instr.lookup t m' k' ok).run P w=.ok v' w∧aU w σ (aJ σ H) v v':=by
 unfold kh at h;split at h
 ·rename_i kt et c s hu;split at h
  ·rename_i z x hku hz hx;split at h
   ·rename_i hkeys;cases h;obtain⟨pl,es,clk,rfl,hs,_,_,_,_,hb,hrows⟩:=hm.mp_inv hW hx;obtain⟨ba,rfl,rfl⟩:=F5 hk;obtain⟨z',hz1,hz2⟩:=eB (P:=P) (w:=w) (σ:=σ) (T:=aJ σ H) hz;have hck:=λe=>MapKept.run_checkKey (P:=P) (w:=w) (k:=.string ba) hku trivial e 9999
    rcases mE es.toList x.rows 0 hrows hkeys with⟨g1,g2⟩|⟨j,e,v,g1,g2,g3,g4,g5⟩
    ·rw[g2];refine⟨if ok then .tuple #[z',.bool false]else z',?_,?_⟩
     ·simp only[Instr.lookup,VV,run_underlying hu,VB,MapKept.run_getObj_map hb,V8,hck,MapKept.run_findKey hku g1,hz1]
     ·cases ok
      ·exact hz2
      ·exact S2 hz2 (.bool false)
    ·rw[g2];refine⟨if ok then .tuple #[e.val,.bool true]else e.val,?_,?_⟩
     ·simp only[Instr.lookup,VV,run_underlying hu,VB,MapKept.run_getObj_map hb,V8,hck,MapKept.run_findKey hku g1]
     ·cases ok
      ·exact Ko g4
      ·exact S2 (Ko g4) (.bool true)
   ·cases h
  ·cases h
 ·cases h
theorem Hz(hW:aX w σ H){t:TypeId}{m k v:AV}{m' k' v':Value}(hm:aU w σ (aJ σ H) m m')(hk:aU w σ (aJ σ H) k k')(hv:aU w σ (aJ σ H) v v'){H':ae}(h:eO P H t m k v=some H'):
  ∃w',(Instr.mapUpdate t m' k' v').run P w=.ok () w'∧aX w' σ H'∧ew w σ (aJ σ H) w' σ (aJ σ H'):=by
 unfold eO at h;split at h
 ·rename_i kt et c s hu;split at h
  ·rename_i x hku hx;split at h
   ·rename_i hc;cases h;obtain⟨hkeys,hkon⟩:=hc;obtain⟨pl,es,clk,rfl,hs,hb1,hps,hxs,hn,hb,hrows⟩:=hm.mp_inv hW hx;obtain⟨ba,rfl,rfl⟩:=F5 hk;have hkv:=Lp hv hkon;have hck:=λe=>MapKept.run_checkKey (P:=P) (w:=w) (k:=.string ba) hku trivial e 9999
    rcases mE es.toList x.rows 0 hrows hkeys with⟨g1,g2⟩|⟨j,e,v0,g1,g2,g3,g4,g5⟩
    ·rw[g2];refine⟨_,by simp[Instr.mapUpdate,run_underlying hu,MapKept.run_getObj_map hb,hck,MapKept.run_findKey hku g1,MapKept.run_setObj_map _ hb,Result.andThen];rfl,Q4 hW hx hs hb (by intros;simp) hn ⟨hxs,hps,.inl ⟨hb1,_,_,(MapKept.heap_set hb).1,?_⟩⟩⟩;simp only[Array.toList_push,Vr,Vp,V9,hrows];rw[Kq (k:=.str ba.data.toList) (v:=v) rfl hkv]
    ·have hj:es[j]? =some e:=by simpa using g3
     simp only[Wj]at g1 g2;rw[g2];refine⟨_,by simp[Instr.mapUpdate,run_underlying hu,MapKept.run_getObj_map hb,hck,MapKept.run_findKey hku g1,hj,g5,MapKept.run_keyThatStays (d:=.string) (k:=.string ba) trivial,MapKept.run_setObj_map _ hb,Result.andThen];rfl,Q4 hW hx hs hb (by intros;simp) hn ⟨hxs,hps,.inl ⟨hb1,_,_,(MapKept.heap_set hb).1,?_⟩⟩⟩;simp only[Array.toList_modify];refine Wt λi=>?_
     have hi:=congrArg (λl=>l[i]?) hrows;simp only[VD]at hi;rw[VD,VD,List.getElem?_modify,Wf];by_cases hij:j=i
     ·subst hij;have hl:j<x.rows.length:=by have:=(V7.1 g3).1;have h2:=congrArg List.length hrows;simp at h2 this;omega
      rw[if_pos rfl,if_pos hl,g3];simp only[VO,Option.map_eq_map];rw[Kq (k:=.str ba.data.toList) (v:=v) rfl hkv]
     ·simp only[if_neg hij];rw[show((λa=>a) <$> es.toList[i]?)=es.toList[i]? from by cases es.toList[i]?<;>rfl];exact hi
   ·cases h
  ·cases h
 ·cases h
theorem Lq(hW:aX w σ H){it v:AV}{it':Value}(ty:TypeId)(hi:aU w σ (aJ σ H) it it'){H':ae}(h:iA H it=some (v,H')):
  ∃v' w',(Instr.next it' true ty).run P w=.ok v' w'∧aU w' σ (aJ σ H') v v'∧aX w' σ H'∧ew w σ (aJ σ H) w' σ (aJ σ H'):=by
 unfold iA at h;split at h
 ·rename_i c;split at h
  ·rename_i x hx;obtain⟨pl,s,pos,rfl,hs,hb2,hps,hxs,hn,hb,hrows⟩:=hi.it_inv hW hx;rw[hrows]at h;simp only[]at h;have hlen:s.data.toList.length=s.size:=VJ;have hsz:(⟨s.data.toList.toArray⟩:ByteArray)=s:=by obtain⟨d⟩:=s;simp
   split at h
   ·rename_i hp;cases h;have hp':pos<s.size:=by omega
    rw[hsz,WB];refine⟨_,_,Lib.run_next_any_at w pl.block s pos ty hb hp',UV (.bool true) (.int _ _) (.int _ _),Q4 hW hx hs hb (by intros;simp) hn ⟨hxs,hps,.inr ⟨hb2,s,_,(MapKept.heap_set hb).1,rfl⟩⟩⟩
   ·rename_i hp;cases h;exact⟨_,w,Lib.run_next_end_at w pl.block s pos ty hb W4,UU (.bool false),hW,ew.refl _ _ _⟩
  ·cases h
 ·cases h
end
end
section
section
variable {P:Program} {F:TypeId→Option (List TypeId)} {w:World} {σ:bq} {H:ae} {b:Nat}
def bE(P:Program)(s:Sem Next)(w:World)(σ:bq)(H:ae)(b:Nat)(v:AV)(H':ae):Prop:=
 ∃v' w' σ',(s.run P w=.ok (.value v') w'∨(s.run P w=.ok .skip w'∧v'=undef))∧aU w' σ' (aJ σ' H') v v'∧aX w' σ' H'∧ew w σ (aJ σ H) w' σ' (aJ σ' H')∧∀c pl,σ' c=some pl→σ c=some pl∨c=b
theorem bE.of_done{s:Sem Value}{v:AV}{H':ae}(h:ER P s w σ H b v H'):bE P (do pure (.value (←s))) w σ H b v H':=by obtain⟨v',w',σ',h1,h2⟩:=h;exact⟨v',w',σ',.inl (by simp[h1]),h2⟩
theorem bE.of_val{s:Sem Value}{v:AV}(hW:aX w σ H)(h:∃v',s.run P w=.ok v' w∧aU w σ (aJ σ H) v v'):bE P (do pure (.value (←s))) w σ H b v H:=by obtain⟨v',h1,h2⟩:=h;exact⟨v',w,σ,.inl (by simp[h1]),h2,hW,ew.refl _ _ _,λc pl hc=>.inl hc⟩
theorem bE.pure{s:Sem Next}{v:AV}{v':Value}(hW:aX w σ H)(h:s.run P w=.ok (.value v') w)(hr:aU w σ (aJ σ H) v v'):bE P s w σ H b v H:=
 ⟨v',w,σ,.inl h,hr,hW,ew.refl _ _ _,λc pl hc=>.inl hc⟩
theorem fo{r:Option AV}{v:AV}{H H':ae}(h:(r.map λx=>fG.val x H)=some (.val v H')):r=some v∧H'=H:=by
 cases r with
 |none=>cases h
 |some x=>simp only[VO,Vz,fG.val.injEq]at h;exact⟨by rw[h.1],h.2.symm⟩
theorem Q5{ρ:Operand→AV}{ρ':Operand→Value}(hρ:∀x,aU w σ (aJ σ H) (ρ x) (ρ' x))(x:Option Operand):Jf w σ (aJ σ H) (x.map ρ) (x.map ρ'):=by
 cases x with
 |none=>trivial
 |some a=>exact hρ a
theorem qk{α β:Type}{f:α→β}{l:List α}{x:β}(h:l.map f=[x]):∃a,l=[a]∧f a=x:=by
 match l,h with
 |[a],h=>exact⟨a,rfl,by simpa using h⟩
 |[],h=>simp at h
 |_::_::_,h=>simp at h
theorem ql{α β:Type}{f:α→β}{l:List α}{x y:β}(h:l.map f=[x,y]):∃a b,l=[a,b]∧f a=x∧f b=y:=by
 match l,h with
 |[a,b],h=>exact⟨a,b,rfl,by simpa using h⟩
 |[],h=>simp at h
 |[_],h=>simp at h
 |_::_::_::_,h=>simp at h
theorem ES(hW:aX w σ H)(hb:σ b=none)(hlt:b<H.next){ρ:Operand→AV}{ρ':Operand→Value}(hρ:∀x,aU w σ (aJ σ H) (ρ x) (ρ' x)){op:Builtin}{args:List Operand}{types:List TypeId}{ty:TypeId}{cn:Array Bool}{v:AV}{H':ae}
  (h:aT P H b op types.toArray (args.map ρ)=some (v,H')):bE P (builtin op types.toArray ty cn (args.toArray.map ρ')) w σ H b v H':=by
 unfold aT at h;split at h
 ·rename_i s heq;obtain⟨a0,rfl,h0⟩:=qk heq;split at h
  ·rename_i hty;cases h;have hr:=hρ a0;rw[h0]at hr;generalize he:ρ' a0=x' at hr;cases hr with
   |str ba=>
   have hlen:ba.data.toList.length=ba.size:=VJ;cases htt:types[0]? with
   |none=>simp[htt]at hty
   |some t=>
   have hu:P.underlying t=some .string:=by simpa[htt]using hty
   refine bE.pure hW (v':=.int .i64 ba.size) ?_ (by rw[hlen];exact .int _ _);simp[builtin,Builtin.len_,htt,he,run_underlying hu,goInt]
  ·cases h
 ·rename_i x hne heq;obtain⟨a0,rfl,h0⟩:=qk heq;have hr:=hρ a0;rw[h0]at hr;cases htt:types[0]? with
  |none=>simp[htt]at h
  |some t=>
   simp only[List.getElem?_toArray,htt,Wc]at h;split at h
   ·rename_i e hu;cases hl:Jd x with
    |none=>rw[hl]at h;cases h
    |some n=>
     rw[hl]at h;cases h;have hv:∃A c,ρ' a0=.slice A n c:=by
      unfold Jd at hl;split at hl
      ·cases hl;generalize ρ' a0=y at hr;cases hr;exact⟨_,_,rfl⟩
      ·cases hl;generalize ρ' a0=y at hr;cases hr;exact⟨_,_,rfl⟩
      ·cases hl;obtain⟨A,c,h1,_⟩:=hr.lst_inv;exact⟨A,c,h1⟩
      ·cases hl;obtain⟨_,a,c,h1,_⟩:=hr.sl_inv;exact⟨_,c,h1⟩
      ·cases hl
     obtain⟨A,c,hv⟩:=hv;refine bE.pure hW (v':=.int .i64 n) ?_ (.int _ _);simp[builtin,Builtin.len_,htt,hv,run_underlying hu,goInt]
   ·rename_i n e hu;cases h;refine bE.pure hW (v':=.int .i64 n) ?_ (.int _ _);simp[builtin,Builtin.len_,htt,run_underlying hu,goInt]
   ·cases h
 ·rename_i s x heq;obtain⟨a0,a1,rfl,h0,h1⟩:=ql heq;split at h
  ·rename_i t tx htt;split at h
   ·rename_i e' hu;simp only[]at htt;subst htt;have hs:=hρ a0;have hx:=hρ a1;rw[h0]at hs;rw[h1]at hx;have:=bE.of_done (Hw (ty:=ty) hW hb hlt hx hs hu h);simpa[builtin]using this
   ·cases h
  ·cases h
 ·rename_i k a k' c heq;obtain⟨a0,a1,rfl,h0,h1⟩:=ql heq;split at h
  ·rename_i hk;subst hk;cases h;have hs:=hρ a0;have hx:=hρ a1;rw[h0]at hs;rw[h1]at hx;generalize e0:ρ' a0=y0 at hs;generalize e1:ρ' a1=y1 at hx;cases hs;cases hx;exact bE.pure hW (v':=.int k (if c<a then c else a)) (by simp[builtin,Builtin.min_,Builtin.min2,e0,e1]) (.int _ _)
  ·cases h
 ·rename_i k a k' c heq;obtain⟨a0,a1,rfl,h0,h1⟩:=ql heq;split at h
  ·rename_i hk;subst hk;cases h;have hs:=hρ a0;have hx:=hρ a1;rw[h0]at hs;rw[h1]at hx;generalize e0:ρ' a0=y0 at hs;generalize e1:ρ' a1=y1 at hx;cases hs;cases hx;exact bE.pure hW (v':=.int k (if c > a then c else a)) (by simp[builtin,Builtin.max_,Builtin.max2,e0,e1]) (.int _ _)
  ·cases h
 ·rename_i x heq;obtain⟨a0,rfl,h0⟩:=qk heq;split at h
  ·rename_i t htt;simp only[]at htt;subst htt;cases hc:eY P H t x with
   |none=>rw[hc]at h;cases h
   |some K=>rw[hc]at h;cases h;have hx:=hρ a0;rw[h0]at hx;have:=bE.of_done (Jj (ty:=ty) (b:=b) hW hx hc);simpa[builtin]using this
  ·cases h
 ·cases h
theorem Fm(fit:Fit P F)(hW:aX w σ H)(hb:σ b=none)(hlt:b<H.next){o:Oper}{ρ:Operand→AV}{ρ':Operand→Value}(hρ:∀x,aU w σ (aJ σ H) (ρ x) (ρ' x)){v:AV}{H':ae}
  (h:aL P F o.op ρ b H=some (.val v H')):bE P (execOp ρ' o) w σ H b v H':=by
 obtain⟨dst,op,ty,pos,after,guard⟩:=o;simp only[]at h;cases op with
 |move x=>simp only[aL,Vz,fG.val.injEq]at h;obtain⟨rfl,rfl⟩:=h;exact bE.pure hW rfl (hρ x)
 |assign x=>simp only[aL,Vz,fG.val.injEq]at h;obtain⟨rfl,rfl⟩:=h;exact bE.pure hW rfl (hρ x)
 |pick c x y=>
  simp only[aL]at h;split at h
  ·rename_i t hc;simp only[Vz,fG.val.injEq]at h;obtain⟨rfl,rfl⟩:=h;have:=hρ c;rw[hc]at this;generalize hc':ρ' c=c' at this;cases this;refine bE.pure hW (v':=if t then ρ' x else ρ' y) (by simp[execOp,hc',asBool]) ?_;cases t
   ·exact hρ y
   ·exact hρ x
  ·cases h
 |alloc t=>
  simp only[aL]at h;split at h
  ·rename_i cs hcs;simp only[Vz,fG.val.injEq]at h;obtain⟨rfl,rfl⟩:=h;exact bE.of_done (Jg hW hb hlt hcs)
  ·cases h
 |box t x=>
  simp only[aL]at h;split at h
  ·rename_i cs hcs;split at h
   ·simp only[Vz,fG.val.injEq]at h;obtain⟨rfl,rfl⟩:=h;exact bE.of_done (Hv hW hb hlt (hρ x) hcs)
   ·cases h
  ·cases h
 |build t parts=>simp only[aL]at h;obtain⟨h1,rfl⟩:=fo h;exact bE.of_val hW (Hu hρ h1)
 |buildSlice t len parts=>
  simp only[aL]at h;split at h
  ·rename_i e hu;split at h
   ·rename_i n z hn hz;split at h
    ·rename_i hc;obtain⟨c1,c2,c3⟩:=hc;cases hf:dS n (List.replicate len z) (parts.toList.map λp=>(p.1,ρ p.2))with
     |none=>rw[hf]at h;cases h
     |some rows=>rw[hf]at h;simp only[VO,Vz,fG.val.injEq]at h;obtain⟨rfl,rfl⟩:=h;exact bE.of_done (Ba hW hb hlt hρ hu hn hz c1 c2 c3 hf)
    ·cases h
   ·cases h
  ·cases h
 |load t a=>simp only[aL]at h;obtain⟨h1,rfl⟩:=fo h;exact bE.of_val hW (CB hW (hρ a) h1)
 |store t a x=>
  simp only[aL]at h;cases hs:fP P H t (ρ a) (ρ x)with
  |none=>rw[hs]at h;cases h
  |some K=>rw[hs]at h;simp only[VO,Vz,fG.val.injEq]at h;obtain⟨rfl,rfl⟩:=h;obtain⟨w',h1,h2,h3⟩:=Jh hW (hρ a) (hρ x) hs;exact⟨undef,w',σ,.inr ⟨by simp[execOp,h1],rfl⟩,.tup [] [] rfl W7,h2,h3,λc pl hc=>.inl hc⟩
 |nilCheck x=>simp only[aL]at h;have hx:=hρ x;split at h<;>(try (cases h;done))<;>(rename_i heq;simp only[Vz,fG.val.injEq]at h;obtain⟨rfl,rfl⟩:=h;rw[heq]at hx;generalize he:ρ' x=x' at hx;have hx2:=hx;cases hx2;exact bE.pure hW (by simp only[execOp,he];rfl) hx)
 |binOp op t x y yt=>simp only[aL]at h;obtain⟨h1,rfl⟩:=fo h;exact bE.of_val hW (Lo fit.flat (hρ x) (hρ y) h1)
 |unOp op t x=>simp only[aL]at h;obtain⟨h1,rfl⟩:=fo h;exact bE.of_val hW (MA (hρ x) h1)
 |convert s d x=>simp only[aL]at h;obtain⟨h1,rfl⟩:=fo h;exact bE.of_val hW (Je (hρ x) h1)
 |makeFunc fn first cap=>
  cases fn with
  |func f=>
   simp only[aL]at h;split at h
   ·rename_i hf;simp only[Vz,fG.val.injEq]at h;obtain⟨rfl,rfl⟩:=h;have e:first=#[]:=Array.eq_empty_of_size_eq_zero hf
    subst e;refine bE.pure hW (v':=.func (.func f) #[] (cap.toList.map ρ').toArray) (by simp[execOp,Instr.makeFunc];apply Array.ext';simp) (.fn f _ _ W7 λi a v h1 h2=>?_);rw[VD]at h1 h2;cases hc:cap.toList[i]? with
    |none=>rw[hc]at h1;cases h1
    |some q=>rw[hc]at h1 h2;cases h1;cases h2;exact hρ q
   ·cases h
  |_=>simp[aL]at h
 |makeSlice t l c=>
  simp only[aL]at h;split at h
  ·rename_i e hu;split at h
   ·rename_i n by_ z l' c' hn hby hz hl hc;split at h
    ·rename_i hcond;obtain⟨c1,c2,c3,c4,c5⟩:=hcond;simp only[Vz,fG.val.injEq]at h;obtain⟨rfl,rfl⟩:=h;exact bE.of_done (CD hW hb hlt (hρ l) (hρ c) hu hn hby hz hl hc c1 c2 c3 c4 c5)
    ·cases h
   ·cases h
  ·cases h
 |slice t x lo hi mx=>
  simp only[aL]at h;split at h
  ·cases h
  ·rename_i hcond;obtain⟨h1,rfl⟩:=fo h;refine bE.of_val hW (Ht hW (hρ x) (Q5 hρ lo) (Q5 hρ hi) (Q5 hρ mx) (λhh=>?_) h1);cases hi with
   | none=>cases mx with
    |none=>rfl
    |some m=>simp at hcond
   |some q=>simp at hh
 |fieldAddr s x f=>simp only[aL]at h;obtain⟨h1,rfl⟩:=fo h;exact bE.of_val hW (A8 (hρ x) h1)
 |field s x f=>simp only[aL]at h;obtain⟨h1,rfl⟩:=fo h;exact bE.of_val hW (Hq (hρ x) h1)
 |indexAddr t x ix=>simp only[aL]at h;obtain⟨h1,rfl⟩:=fo h;exact bE.of_val hW (A9 hW (hρ x) (hρ ix) h1)
 |index t x ix=>simp only[aL]at h;obtain⟨h1,rfl⟩:=fo h;exact bE.of_val hW (Hr (hρ x) (hρ ix) h1)
 |extract x i=>
  simp only[aL]at h;split at h
  ·rename_i vs hx;obtain⟨h1,rfl⟩:=fo h;have:=hρ x;rw[hx]at this;generalize he:ρ' x=x' at this;cases this with
   |tup _ us hl hr=>
   have hi:=aA h1;have hi':i<us.length:=by omega
   exact bE.pure hW (v':=us[i]) (by simp[execOp,he,Instr.extract,hi']) (hr i v _ h1 (Vn hi'))
  ·cases h
 |makeMap t r=>
  cases r with
  |some r=>simp[aL]at h
  |none=>simp only[aL,Vz,fG.val.injEq]at h;obtain⟨rfl,rfl⟩:=h;refine bE.of_done (Fk hW hb hlt (k:=1) (o:=.map #[] 0) (by intros;simp) ⟨rfl,rfl,.inl ⟨rfl,#[],0,by show(w.heap.push _)[w.heap.size]? =_;simp,rfl⟩⟩ W8 rfl λw2 T=>.mp b _ (bq.set_eq _ _ _) rfl rfl)
 |lookup t m k ok=>simp only[aL]at h;obtain⟨h1,rfl⟩:=fo h;exact bE.of_val hW (F6 hW (hρ m) (hρ k) h1)
 |mapUpdate t m k x=>
  simp only[aL]at h;cases hs:eO P H t (ρ m) (ρ k) (ρ x)with
  |none=>rw[hs]at h;cases h
  |some K=>rw[hs]at h;simp only[VO,Vz,fG.val.injEq]at h;obtain⟨rfl,rfl⟩:=h;obtain⟨w',h1,h2,h3⟩:=Hz hW (hρ m) (hρ k) (hρ x) hs;exact⟨undef,w',σ,.inr ⟨by simp[execOp,h1],rfl⟩,.tup [] [] rfl W7,h2,h3,λc pl hc=>.inl hc⟩
 |range t x=>
  simp only[aL]at h;split at h
  ·rename_i s hu hx;simp only[Vz,fG.val.injEq]at h;obtain⟨rfl,rfl⟩:=h;have:=hρ x;rw[hx]at this;obtain⟨ba,he,rfl⟩:=F5 this;refine bE.of_done (s:=Instr.range t (ρ' x)) (Fk hW hb hlt (k:=2) (o:=.stringIter ba 0) (by intros;simp) ⟨rfl,rfl,.inr ⟨rfl,ba,0,by show(w.heap.push _)[w.heap.size]? =_;simp,rfl⟩⟩ W8 (by rw[he];exact run_range_string w t ba hu) λw2 T=>.it b _ (bq.set_eq _ _ _) rfl rfl)
  ·cases h
 |next it s=>
  cases s with
  |false=>simp[aL]at h
  |true=>
   simp only[aL]at h;cases hs:iA H (ρ it)with
   |none=>rw[hs]at h;cases h
   |some r=>obtain⟨v0,K⟩:=r;rw[hs]at h;simp only[VO,Vz,fG.val.injEq]at h;obtain⟨rfl,rfl⟩:=h;obtain⟨v',w',h1,h2,h3,h4⟩:=Lq (P:=P) hW ty (hρ it) hs;exact⟨v',w',σ,.inl (by simp[execOp,h1]),h2,h3,h4,λc pl hc=>.inl hc⟩
 |call c=>
  simp only[aL]at h;obtain⟨callee,args,types⟩:=c;obtain⟨args⟩:=args;obtain⟨types⟩:=types;simp only[]at h;split at h
  ·rename_i bi;cases hbi:aT P H b bi types.toArray (args.map ρ)with
   |none=>rw[hbi]at h;cases h
   |some r=>
    obtain⟨v0,K⟩:=r;rw[hbi]at h;simp only[VO,Vz,fG.val.injEq]at h;obtain⟨rfl,rfl⟩:=h;have key:∀cn,bE P (builtin bi ⟨types⟩ ty cn ((⟨args⟩:Array Operand).map ρ')) w σ H b v0 K:=λcn=>ES hW hb hlt hρ hbi
    exact key _
  ·rename_i f;split at h<;>simp at h
  ·cases h
 |_=>simp[aL]at h
theorem HA(fit:Fit P F){o:Oper}{ρ:Operand→AV}{ρ':Operand→Value}(hρ:∀x,aU w σ (aJ σ H) (ρ x) (ρ' x)){g:FuncId}{args:List AV}{fn:Func}{c:Code}
  (h:aL P F o.op ρ b H=some (.call g args)) (hg:P.funcs[g]? =some fn) (hc:fn.body=some c) :
  ∃vs:List Value,(execOp ρ' o).run P w=.ok (.enter g vs.toArray) w∧eu w σ (aJ σ H) args vs:=by
 obtain⟨dst,op,ty,pos,after,guard⟩:=o;simp only[]at h;cases op with
 |call c=>
  simp only[aL]at h;obtain⟨callee,qs,types⟩:=c;obtain⟨qs⟩:=qs;simp only[]at h;split at h
  ·rename_i bi;cases hbi:aT P H b bi types (qs.map ρ)with
   |none=>rw[hbi]at h;cases h
   |some r=>rw[hbi]at h;cases h
  ·rename_i f;split at h
   ·rename_i g' cs hf;simp only[Vz,fG.call.injEq]at h;obtain⟨rfl,rfl⟩:=h;have:=hρ f;rw[hf]at this;generalize he:ρ' f=f' at this;cases this with
    |fn _ _ us hl hr=>
    have hnm : ¬ fn.name = "runtime.NumGoroutine" := fit.names _ _ hg
    refine⟨qs.map ρ'++us,?_,by simp[hl],λi a v h1 h2=>?_⟩
    ·simp[execOp,resolve,he,Deferred.ofValue,invoke,callFunc,hg,hnm,hc]
    ·rcases Vt i qs.length with hi|hi
     ·rw[VF (by simpa using hi),VD]at h1 h2;rw[Vn hi]at h1 h2;cases h1;cases h2;exact hρ _
     ·rw[Vx (by simpa using hi)]at h1 h2;simp only[Wv]at h1 h2;exact hr _ a v h1 h2
   ·cases h
  ·cases h
 |makeFunc fn first cap=>cases fn<;>simp only[aL]at h<;>(try split at h)<;>simp at h
 |makeMap t r=>cases r<;>simp[aL]at h
 |next it s=>cases s<;>simp[aL]at h
 |_=>
  exfalso;simp only[aL]at h
  repeat' (first|(cases h;done)|(simp at h;done)|split at h)
end
end
section
def cv(w:World)(σ:bq)(T:Nat→Prop)(τ:List AV)(a:Act):Prop:=eu w σ T τ a.tmps.toList∧a.defers=[]
theorem cv.mono{w w':World}{σ σ':bq}{T T':Nat→Prop}(e:ew w σ T w' σ' T'){τ:List AV}{a:Act}(h:cv w σ T τ a):cv w' σ' T' τ a:=⟨h.1.mono e,h.2⟩
section
variable {P:Program} {F:TypeId→Option (List TypeId)} {w:World} {σ:bq} {T:Nat→Prop}
theorem lK:aU w σ T bB undef:=.tup [] [] rfl W7
theorem cv.eval{τ:List AV}{a:Act}(h:cv w σ T τ a)(hG:ij w T)(x:Operand):aU w σ T (j7 τ x) (a.eval x):=by
 cases x with
 |tmp t=>
  simp only[j7,Act.eval];have hl:=h.1.1;simp only[VJ]at hl;rcases Vt t τ.length with ht|ht
  ·have e1:τ.getD t bB=τ[t]:=by simp[List.getD,ht]
   have ht':t<a.tmps.size:=hl▸ht;have e2:a.tmps.getD t undef=a.tmps[t]:=by simp[Array.getD,ht']
   rw[e1,e2];exact h.1.2 t _ _ (Vn ht) (by rw[VM,VP ht'])
  ·have e1:τ.getD t bB=bB:=by simp[List.getD,Vu ht]
   have ht':¬t<a.tmps.size:=Nat.not_lt.2 (hl▸ht);have e2:a.tmps.getD t undef=undef:=by simp[Array.getD,ht']
   rw[e1,e2];exact lK
 |const v=>
  simp only[j7,Act.eval];cases hv:Mx v with
  |none=>exact .junk _
  |some a=>exact Hp hv
 |global g=>exact hG.rep g
 |func f=>exact .fn f [] [] rfl W7
theorem cv.put{τ:List AV}{a:Act}(h:cv w σ T τ a)(dst:Option Tmp){v:AV}{v':Value}(hv:aU w σ T v v'):cv w σ T (fO τ dst v) (a.put dst v'):=by
 cases dst with
 |none=>exact h
 |some d=>
  refine⟨⟨by simpa[fO,Act.put]using h.1.1,λi x u h1 h2=>?_⟩,h.2⟩;simp only[fO,Act.put,Array.toList_setIfInBounds,Wf]at h1 h2;by_cases hd:d=i
  ·subst hd;simp only[if_true]at h1 h2;split at h1
   ·split at h2
    ·cases h1;cases h2;exact hv
    ·cases h2
   ·cases h1
  ·rw[if_neg hd]at h1 h2;exact h.1.2 i x u h1 h2
theorem iQ{ops:Array Oper}{o:Oper}{τ:List AV}{a:Act}{t:Bool}(h:cv w σ T τ a)(hw:dy ops o τ=some t):Region.wanted o (yielded ops a.tmps)=t:=by
 unfold dy at hw;unfold Region.wanted;split at hw
 ·rename_i hg;cases hw;rw[hg]
 ·rename_i j want hg;rw[hg];simp only[];unfold yielded;split at hw
  ·rename_i d hd;rw[hd];simp only[Wc];have get:∀x,τ[d]? =some x→∃u,a.tmps[d]? =some u∧aU w σ T x u:=λx hx=>by have hl:=h.1.1;simp only[VJ]at hl;have hlt:=aA hx;exact⟨a.tmps[d],VP W4,h.1.2 d x _ hx (by rw[VM,VP W4])⟩
   split at hw
   ·rename_i b hb;obtain⟨u,h1,h2⟩:=get _ hb;rw[h1];cases h2;cases hw;rfl
   ·rename_i hb;obtain⟨u,h1,h2⟩:=get _ hb;rw[h1];cases hw;cases h2 with
    |tup _ vs hl hr=>
    have:vs=[]:=by cases vs with
     |nil=>rfl
     |cons x l=>simp at hl
    subst this;rfl
   ·cases hw
  ·cases hw
end
def o6(P:Program)(f:FuncId)(args:List AV)(H:ae)(v:AV)(H':ae):Prop:=
 ∀(w:World) (σ:bq) (vs:List Value),aX w σ H→eu w σ (aJ σ H) args vs→Calls P f vs.toArray w λe w'=>
  ∃v' σ',e=.returned v'∧aU w' σ' (aJ σ' H') v v'∧aX w' σ' H'∧ew w σ (aJ σ H) w' σ' (aJ σ' H')∧∀c pl,σ' c=some pl→σ c=some pl∨H.next≤c
structure ee(P:Program)(call:FuncId→List AV→ae→Option (AV×ae)):Prop where
 ok:∀f args H v H',call f args H=some (v,H')→o6 P f args H v H'
 next:∀f args H v H',call f args H=some (v,H')→H.next≤H'.next
 body:∀f args H v H',call f args H=some (v,H')→∃fn c,P.funcs[f]? =some fn∧fn.body=some c
def r9(w:World)(σ:bq)(H:ae)(τ':List AV)(H':ae)(a':Act)(w':World):Prop:=
 ∃σ',cv w' σ' (aJ σ' H') τ' a'∧aX w' σ' H'∧ew w σ (aJ σ H) w' σ' (aJ σ' H')∧∀c pl,σ' c=some pl→σ c=some pl∨H.next≤c
section
variable {P:Program} {F:TypeId→Option (List TypeId)} {call:FuncId→List AV→ae→Option (AV×ae)} {ops:Array Oper} {base:Nat} {Q:Exit→Act→World→Prop}
theorem CG{o:Op}{ρ:Operand→AV}{b:Nat}{H H':ae}{v:AV}(h:aL P F o ρ b H=some (.val v H')):H'.next=H.next:=by
 cases o with
 |store t a x=>
  simp only[aL]at h;cases hs:fP P H t (ρ a) (ρ x)with
  |none=>rw[hs]at h;cases h
  |some K=>
   rw[hs]at h;cases h;unfold fP at hs
   repeat' (first|(cases hs;rfl)|(cases hs;done)|split at hs)
 |call c=>
  simp only[aL]at h;split at h
  ·rename_i bi _;cases hbi:aT P H b bi c.argTypes (c.args.toList.map ρ)with
   |none=>rw[hbi]at h;cases h
   |some r=>
    obtain⟨v0,K⟩:=r;rw[hbi]at h;cases h;unfold aT at hbi;split at hbi
    ·repeat' (first|(cases hbi;rfl)|(cases hbi;done)|split at hbi)
    ·split at hbi
     ·rw[WO]at hbi;obtain⟨n,_,hn⟩:=hbi;cases hn;rfl
     ·cases hbi;rfl
     ·cases hbi
    ·split at hbi
     ·split at hbi
      ·unfold cO at hbi
       repeat' (first|(cases hbi;rfl)|(cases hbi;done)|split at hbi)
      ·cases hbi
     ·cases hbi
    ·repeat' (first|(cases hbi;rfl)|(cases hbi;done)|split at hbi)
    ·repeat' (first|(cases hbi;rfl)|(cases hbi;done)|split at hbi)
    ·split at hbi
     ·rw[WO]at hbi;obtain⟨K1,hk,hn⟩:=hbi;cases hn;unfold eY at hk
      repeat' (first|(cases hk;rfl)|(cases hk;done)|split at hk)
     ·cases hbi
    ·cases hbi
  ·split at h<;>cases h
  ·cases h
 |makeFunc fn first cap=>cases fn<;>simp only[aL]at h<;>(try split at h)<;>cases h<;>rfl
 |makeMap t r=>
  cases r with
  |none=>simp only[aL]at h;cases h;rfl
  |some r=>simp[aL]at h
 |mapUpdate t m k x=>
  simp only[aL]at h;cases hs:eO P H t (ρ m) (ρ k) (ρ x)with
  |none=>rw[hs]at h;cases h
  |some K=>rw[hs]at h;cases h;obtain⟨c,y,y',_,_,rfl,_⟩:=mF hs;rfl
 |next it s=>
  cases s with
  |false=>simp[aL]at h
  |true=>
   simp only[aL]at h;cases hs:iA H (ρ it)with
   |none=>rw[hs]at h;cases h
   |some r=>obtain⟨v0,K⟩:=r;rw[hs]at h;cases h;obtain⟨c,y,_,_,⟨rfl,_⟩|⟨y',rfl,_⟩⟩:=vV hs<;>rfl
 |buildSlice t len parts=>
  simp only[aL]at h;split at h
  ·split at h
   ·split at h
    ·rename_i n z _ _ _;cases hf:dS n (List.replicate len z) (parts.toList.map λp=>(p.1,ρ p.2))with
     |none=>rw[hf]at h;cases h
     |some rows=>rw[hf]at h;cases h;rfl
    ·cases h
   ·cases h
  ·cases h
 |_=>
  simp only[aL]at h
  first
   |(obtain⟨_,rfl⟩:=fo h;rfl)
   |(repeat' (first|(cases h;rfl)|(cases h;done)|(obtain⟨_,rfl⟩:=fo h;rfl)|split at h))
theorem mG(hc:ee P call){i:Nat}{τ τ':List AV}{H H':ae}(h:ki P F call ops base i τ H=some (τ',H')):H.next≤H'.next:=by
 unfold ki at h;split at h
 ·cases h
 ·split at h
  ·split at h
   ·rename_i hop;cases h;rw[CG hop];exact Vo _
   ·split at h
    ·rename_i hcall;cases h;exact hc.next _ _ _ _ _ hcall
    ·cases h
   ·cases h
  ·cases h;exact Vo _
  ·cases h
theorem HB(fit:Fit P F)(hc:ee P call){i:Nat}{τ τ':List AV}{H H':ae}{w:World}{σ:bq}{a:Act}(h:ki P F call ops base i τ H=some (τ',H'))(hW:aX w σ H)(hτ:cv w σ (aJ σ H) τ a)
  (hb:σ (base+i)=none) (hlt:base+i<H.next) {K:Act→World→Prop}
  (hK:∀a' w' σ',cv w' σ' (aJ σ' H') τ' a'→aX w' σ' H'→ew w σ (aJ σ H) w' σ' (aJ σ' H')→(∀c pl,σ' c=some pl→σ c=some pl∨c=base+i∨H.next≤c)→K a' w'):wpOp P ops Q i K a w:=by
 unfold ki at h;split at h
 ·cases h
 ·rename_i o ho;unfold wpOp;rw[ho];simp only[];split at h
  ·rename_i hwant;rw[if_pos (iQ hτ hwant)];left;unfold Oper.wp;split at h
   ·rename_i v K' hop;cases h;obtain⟨v',w',σ',h1,h2,h3,h4,h5⟩:=Fm fit hW hb hlt (o:=o) (hτ.eval hW.glob) hop;have hk:=hK (a.put o.dst v') w' σ' ((hτ.mono h4).put o.dst h2) h3 h4 (λc pl hcp=>by
     rcases h5 c pl hcp with h6|h6
     ·exact .inl h6
     ·exact .inr (.inl h6))
    rcases h1 with h1|⟨h1,rfl⟩
    ·rw[h1];exact hk
    ·rw[h1];exact hk
   ·rename_i f args hop;split at h
    ·rename_i v K' hcall;cases h;obtain⟨fn,c,hf,hbd⟩:=hc.body _ _ _ _ _ hcall;obtain⟨vs,h1,h2⟩:=HA fit (o:=o) (b:=base+i) (hτ.eval hW.glob) hop hf hbd;rw[h1];refine(hc.ok _ _ _ _ _ hcall w σ vs hW h2).mono ?_;rintro e w' ⟨v',σ',rfl,g1,g2,g3,g4⟩;exact hK (a.put o.dst v') w' σ' ((hτ.mono g3).put o.dst g1) g2 g3 (λc pl hcp=>by
      rcases g4 c pl hcp with h6|h6
      ·exact .inl h6
      ·exact .inr (.inr h6))
    ·cases h
   ·cases h
  ·rename_i hwant;rw[if_neg (by rw[iQ hτ hwant];simp)];cases h;exact hK _ w σ (hτ.put o.dst lK) hW (ew.refl _ _ _) (λc pl hcp=>.inl hcp)
  ·cases h
theorem Fn(hc:ee P call):∀(l:List Nat) (τ:List AV) (H:ae) (τ':List AV) (H':ae),mC P F call ops base l τ H=some (τ',H')→H.next≤H'.next
 |[],τ,H,τ',H',h=>by cases h;exact Vo _
 | i::l,τ,H,τ',H',h=>by
  unfold mC at h;split at h
  ·rename_i τ1 H1 hs;exact VG (mG hc hs) (Fn hc l _ _ _ _ h)
  ·cases h
theorem CH(fit:Fit P F)(hc:ee P call):∀(l:List Nat) (τ:List AV) (H:ae) (τ':List AV) (H':ae),mC P F call ops base l τ H=some (τ',H')→l.Nodup→∀(w:World) (σ:bq) (a:Act),
  aX w σ H→cv w σ (aJ σ H) τ a→(∀i∈l,σ (base+i)=none∧base+i<H.next)→(∀a' w' σ',cv w' σ' (aJ σ' H') τ' a'→aX w' σ' H'→ew w σ (aJ σ H) w' σ' (aJ σ' H')→
   (∀c pl,σ' c=some pl→σ c=some pl∨(∃i∈l,c=base+i)∨H.next≤c)→Q .normal a' w')→wpOps P ops Q l a w
 | [],τ,H,τ',H',h,_,w,σ,a,hW,hτ,_,hQ=>by cases h;exact hQ a w σ hτ hW (ew.refl _ _ _) (λc pl hcp=>.inl hcp)
 | i::l,τ,H,τ',H',h,hnd,w,σ,a,hW,hτ,hfr,hQ=>by
  unfold mC at h;split at h
  ·rename_i τ1 H1 hs;rw[wpOps_cons];refine HB fit hc hs hW hτ (hfr i W7).1 (hfr i W7).2 λa1 w1 σ1 t1 r1 e1 n1=>?_
   have hnd':=VA.1 hnd;refine CH fit hc l τ1 H1 τ' H' h hnd'.2 w1 σ1 a1 r1 t1 (λj hj=>?_) (λa' w' σ' t2 r2 e2 n2=>hQ a' w' σ' t2 r2 (e1.trans e2) (λc pl hcp=>?_))
   ·have hji:j≠i:=by rintro rfl;exact hnd'.1 hj
    have hj0:=hfr j (by simp[hj]);refine⟨?_,VK hj0.2 (mG hc hs)⟩;cases hs1:σ1 (base+j)with
    |none=>rfl
    |some pl=>
     rcases n1 _ pl hs1 with h1|h1|h1
     ·rw[hj0.1]at h1;cases h1
     ·omega
     ·omega
   ·rcases n2 c pl hcp with h1|⟨q,hq,rfl⟩|h1
    ·rcases n1 c pl h1 with h2|h2|h2
     ·exact .inl h2
     ·exact .inr (.inl ⟨i,W7,h2⟩)
     ·exact .inr (.inr h2)
    ·exact .inr (.inl ⟨q,by simp[hq],rfl⟩)
    ·exact .inr (.inr (VG (mG hc hs) h1))
  ·cases h
def HC:Ex→Exit
 |.normal=>.normal
 |.exit id=>.exit id
 |.ret=>.ret
def cG(P:Program)(c:Code)(τ:List AV)(H:ae)(e:Ex)(τ':List AV)(H':ae):Prop:=
 H.next≤H'.next∧∀(w:World) (σ:bq) (a:Act),aX w σ H→cv w σ (aJ σ H) τ a→∀Q:Exit→Act→World→Prop,(∀a' w',r9 w σ H τ' H' a' w'→Q (HC e) a' w')→c.wp P Q a w
theorem r9.refl{w:World}{σ:bq}{H:ae}{τ:List AV}{a:Act}(hW:aX w σ H)(hτ:cv w σ (aJ σ H) τ a):r9 w σ H τ H a w:=⟨σ,hτ,hW,ew.refl _ _ _,λc pl h=>.inl h⟩
theorem fR(fit:Fit P F)(hc:ee P call){τ:List AV}{H:ae}{τ':List AV}{H':ae}{id:Nat}(h:dB P F call ops false τ H=some (τ',H')):cG P (.region id ops false) τ H .normal τ' H':=by
 simp only[dB,VQ,if_false]at h;refine⟨VG (VX _ _) (Fn hc _ _ _ _ _ h),λw σ a hW hτ Q hQ=>?_⟩;have hW1:aX w σ {H with next:=H.next+ops.size}:=hW.congr (λ_=>rfl) (VX _ _);have ho:aJ σ {H with next:=H.next+ops.size}=aJ σ H:=aJ.congr λ_=>rfl
 refine wp_region (CH fit hc _ τ _ τ' H' h List.nodup_range w σ a hW1 (by rw[ho];exact hτ) (λi hi=>?_) (λa' w' σ' t r e n=>hQ a' w' ⟨σ',t,r,by rw[ho]at e;exact e,λc pl hcp=>?_⟩))
 ·rw[Wl]at hi;refine⟨?_,Nat.add_lt_add_left hi _⟩;cases hs:σ (H.next+i)with
  |none=>rfl
  |some pl=>have:=hW.named _ pl hs;omega
 ·rcases n c pl hcp with h1|⟨i,_,rfl⟩|h1
  ·exact .inl h1
  ·exact .inr (VX _ _)
  ·exact .inr (VG (VX _ _) h1)
theorem r9.trans{w w1 w2:World}{σ σ1:bq}{H H1 H2:ae}{τ2:List AV}{a2:Act}(e:ew w σ (aJ σ H) w1 σ1 (aJ σ1 H1))(n:∀c pl,σ1 c=some pl→σ c=some pl∨H.next≤c)(hn:H.next≤H1.next)(h:r9 w1 σ1 H1 τ2 H2 a2 w2):r9 w σ H τ2 H2 a2 w2:=by
 obtain⟨σ2,t,r,e2,n2⟩:=h;refine⟨σ2,t,r,e.trans e2,λc pl hc=>?_⟩;rcases n2 c pl hc with h1|h1
 ·exact n c pl h1
 ·exact .inr (VG hn h1)
def lL(tmps:Array Value):ResultVar→Sem Value
 |.tmp t=>Pure.pure (tmps.getD t undef)
 |.cell a t=>do loadVar t (←asAddr (tmps.getD a undef))
theorem Jk(fn:Func)(tmps:Array Value):results fn tmps=(do let vs←fn.results.mapM (lL tmps);Pure.pure (if h:vs.size=1 then vs[0]else .tuple vs)):=by unfold results;congr 2
theorem F7{w:World}{σ:bq}{H:ae}(hW:aX w σ H){τ:List AV}{a:Act}(hτ:cv w σ (aJ σ H) τ a)(r:ResultVar){v:AV}(h:kj P τ H r=some v):
  ∃v',(lL a.tmps r).run P w=.ok v' w∧aU w σ (aJ σ H) v v':=by
 cases r with
 |tmp t=>cases h;exact⟨_,rfl,hτ.eval hW.glob (.tmp t)⟩
 |cell x t=>
  simp only[kj]at h;have hx:=hτ.eval hW.glob (.tmp x);simp only[j7,Act.eval]at hx;obtain⟨v',h1,h2⟩:=CB hW hx h;refine⟨v',?_,h2⟩;unfold nr at h;split at h
  ·rename_i heq;rw[heq]at hx;simp only[lL];generalize a.tmps.getD x undef=u at hx h1;cases hx;simpa[Instr.loadAt,Instr.sureAddr,asAddr]using h1
  ·rename_i heq;rw[heq]at hx;simp only[lL];generalize a.tmps.getD x undef=u at hx h1;cases hx;simpa[Instr.loadAt,Instr.sureAddr,asAddr]using h1
  ·cases h
theorem resultList{w:World}{σ:bq}{H:ae}(hW:aX w σ H){τ:List AV}{a:Act}(hτ:cv w σ (aJ σ H) τ a):∀(rs:List ResultVar) (vs:List AV),cf (rs.map (kj P τ H))=some vs→
  ∃us:List Value,(rs.mapM (lL a.tmps)).run P w=.ok us w∧eu w σ (aJ σ H) vs us
 |[],vs,h=>by cases h;exact⟨[],rfl,rfl,W7⟩
 | r::rs,vs,h=>by
  simp only[Vp]at h;cases hr:kj P τ H r with
  |none=>rw[hr]at h;cases h
  |some v=>
   rw[hr]at h;simp only[cf]at h;split at h
   ·rename_i l hl;cases h;obtain⟨v',h1,h2⟩:=F7 hW hτ r hr;obtain⟨us,h3,h4⟩:=resultList hW hτ rs l hl;refine⟨v'::us,?_,by simp[h4.1],λi x u g1 g2=>?_⟩
    ·rw[List.mapM_cons];simp only[VV,h1,VB,h3,V8]
    ·match i with
     |0=>cases g1;cases g2;exact h2
     |i+1=>exact h4.2 i x u (by simpa using g1) (by simpa using g2)
   ·cases h
theorem sa{w:World}{σ:bq}{H:ae}(hW:aX w σ H){τ:List AV}{a:Act}(hτ:cv w σ (aJ σ H) τ a){fn:Func}{v:AV}(h:lG P τ H fn.results.toList=some v):
  ∃v',(results fn a.tmps).run P w=.ok v' w∧aU w σ (aJ σ H) v v':=by
 unfold lG at h;rw[Jk,Array.mapM_eq_mapM_toList];split at h
 ·rename_i v0 hv;cases h;obtain⟨us,h1,h2⟩:=resultList hW hτ _ _ hv;have hl:=h2.1
  match us,hl with
  |[u],_=>exact⟨u,by simp[h1],h2.2 0 _ u rfl rfl⟩
 ·rename_i vs hne hv;cases h;obtain⟨us,h1,h2⟩:=resultList hW hτ _ _ hv;have hl:us.length≠1:=by
   rw[←h2.1];intro h
   match vs,h with
   |[x],_=>exact hne x rfl
  exact⟨.tuple us.toArray,by simp[h1,hl],.tup _ _ h2.1 h2.2⟩
 ·cases h
theorem vW{ex:Code→List AV→ae→Option (Ex×List AV×ae)}{Good:Code→Prop}(hgood:∀(g:Nat) (fn:Func) (c:Code),P.funcs[g]? =some fn→fn.body=some c→Good c)
  (h:∀c τ H e τ' H',Good c→ex c τ H=some (e,τ',H')→cG P c τ H e τ' H'):ee P (oY P ex):=by
 have key:∀f args H v H',oY P ex f args H=some (v,H')→∃fn c e τ' K,P.funcs[f]? =some fn∧fn.body=some c∧ex c (args++List.replicate (fn.ntmps-args.length) bB) {H with log:=[]}=some (e,τ',K)∧
   (e=.normal∨e=.ret)∧lG P τ' K fn.results.toList=some v∧H'.next=K.next∧∀b,H'.get b=K.get b:=by
  intro f args H v H' hc;unfold oY at hc;split at hc
  ·rename_i fn hf;split at hc
   ·rename_i c hb;split at hc
    ·cases hc
    ·rename_i e τ' K hne hex;split at hc
     ·rename_i v0 hr;cases hc;refine⟨fn,c,e,τ',K,hf,hb,hex,?_,hr,rfl,λ_=>rfl⟩;cases e with
      |normal=>exact .inl rfl
      |ret=>exact .inr rfl
      |exit id=>exact absurd rfl (hne id)
     ·cases hc
    ·cases hc
   ·cases hc
  ·cases hc
 refine⟨λf args H v H' hc=>?_,λf args H v H' hc=>?_,λf args H v H' hc=>?_⟩
 ·obtain⟨fn,c,e,τ',K,hf,hb,hex,he,hr,hn,hg⟩:=key f args H v H' hc;obtain⟨n1,k1⟩:=h _ _ _ _ _ _ (hgood _ _ _ hf hb) hex;intro w σ vs hW hvs;have ho:aJ σ {H with log:=[]}=aJ σ H:=aJ.congr λ_=>rfl
  refine calls_of_wp hf hb (k1 w σ _ (hW.congr (λ_=>rfl) (Vo _)) ⟨?_,rfl⟩ _ λa' w' haf=>?_)
  ·rw[ho];refine⟨by simp[hvs.1],λi x u h1 h2=>?_⟩;simp only[Array.toList_append,Array.toList_replicate]at h2;rcases Vt i args.length with hi|hi
   ·rw[VF hi]at h1;rw[VF (by rw[←hvs.1];exact hi)]at h2;exact hvs.2 i x u h1 h2
   ·rw[Vx hi,Wy]at h1;rw[Vx (by rw[←hvs.1];exact hi),Wy]at h2;split at h1
    ·split at h2
     ·cases h1;cases h2;exact lK
     ·cases h2
    ·cases h1
  ·obtain⟨σ',t1,r1,e1,m1⟩:=haf;obtain⟨v',g1,g2⟩:=sa (P:=P) r1 t1 hr;have hoK:aJ σ' H'=aJ σ' K:=aJ.congr hg;have hpost:a'.defers=[]∧∃v,(results fn a'.tmps).run P w'=.ok v w'∧∃v' σ',Ending.returned v=.returned v'∧aU w' σ' (aJ σ' H') _ v'∧aX w' σ' H'∧ew w σ (aJ σ H) w' σ' (aJ σ' H')∧∀c pl,σ' c=some pl→σ c=some pl∨H.next≤c:=
    ⟨t1.2,v',g1,v',σ',rfl,by rw[hoK];exact g2,r1.congr hg (by rw[hn];exact Vo _),by rw[hoK];rw[ho]at e1;exact e1,m1⟩
   rcases he with rfl|rfl
   ·exact hpost
   ·exact hpost
 ·obtain⟨fn,c,e,τ',K,hf,hb,hex,he,hr,hn,hg⟩:=key f args H v H' hc;rw[hn];exact(h _ _ _ _ _ _ (hgood _ _ _ hf hb) hex).1
 ·obtain⟨fn,c,e,τ',K,hf,hb,_⟩:=key f args H v H' hc;exact⟨fn,c,hf,hb⟩
end
end
section
def Bd(H:ae):Prop:=∀b,H.next≤b→H.get b=none
structure AO(H H':ae):Prop where
 next:H.next≤H'.next
 dom:∀b,b<H.next→H.get b=none→H'.get b=none
 keep:∀b,b<H.next→b∉H'.log→H'.get b=H.get b
 log:∀b,b∈H.log→b∈H'.log
 bd:Bd H→Bd H'
theorem AO.refl(H:ae):AO H H:=⟨Vo _,λ_ _ h=>h,λ_ _ _=>rfl,λ_ h=>h,λh=>h⟩
theorem AO.trans{H H' H'':ae}(h:AO H H')(k:AO H' H''):AO H H'':=
  ⟨VG h.next k.next,λb hb h0=>k.dom b (VK hb h.next) (h.dom b hb h0),
   λb hb hl=>(k.keep b (VK hb h.next) hl).trans (h.keep b hb (λh1=>hl (k.log b h1))),λb hb=>k.log b (h.log b hb),λhb=>k.bd (h.bd hb)⟩
section
variable {P:Program} {F:TypeId→Option (List TypeId)}
structure CI(o:Op)(ρ:Operand→AV)(b:Nat)(H H':ae):Prop where
 next:H'.next=H.next
 keep:∀c,c≠b→c∉aF o ρ→H'.get c=H.get c
 keepL:∀c,c≠b→c∉H'.log→H'.get c=H.get c
 dom:∀c,c≠b→H.get c=none→H'.get c=none
 log:∀c,c∈H.log→c∈H'.log
theorem CI.same(o:Op)(ρ:Operand→AV)(b:Nat)(H:ae):CI o ρ b H H:=⟨rfl,λ_ _ _=>rfl,λ_ _ _=>rfl,λ_ _ h=>h,λ_ h=>h⟩
theorem CI.new(o:Op)(ρ:Operand→AV)(b:Nat)(H:ae)(x:Blk):CI o ρ b H (H.new b x):=
 ⟨rfl,λc hc _=>by rw[ae.get_new,if_neg (λe=>hc e.symm)],λc hc _=>by rw[ae.get_new,if_neg (λe=>hc e.symm)],λc hc h=>by rw[ae.get_new,if_neg (λe=>hc e.symm)];exact h,λ_ h=>h⟩
theorem CI.put{o:Op}{ρ:Operand→AV}{b c:Nat}{H:ae}{y:Blk}(y':Blk)(hy:H.get c=some y)(hw:c∈aF o ρ):CI o ρ b H (H.put c (some y')):=by
 refine⟨rfl,λd hd hn=>?_,λd hd hl=>?_,λd hd h0=>?_,λd hl=>Wn _ hl⟩
 ·rw[ae.get_put,if_neg (by rintro rfl;exact hn hw)]
 ·rw[ae.get_put,if_neg (by rintro rfl;exact hl (by simp[ae.put]))]
 ·rw[ae.get_put];split
  ·rename_i e;subst e;rw[hy]at h0;cases h0
  ·exact h0
theorem F8{o:Op}{ρ:Operand→AV}{b:Nat}{H H':ae}{v:AV}(h:aL P F o ρ b H=some (.val v H')):CI o ρ b H H':=by
 cases o with
 |store t a x=>
  simp only[aL]at h;cases hs:fP P H t (ρ a) (ρ x)with
  |none=>rw[hs]at h;cases h
  |some K=>
   rw[hs]at h;cases h;unfold fP at hs;split at hs
   ·rename_i c i off cs n ha hcs hn;split at hs
    ·rename_i y hy;split at hs
     ·rename_i r hr;split at hs
      ·cases hs;have hw:aF (.store t a x) ρ=[c]:=by simp[aF,ha,aa]
       refine⟨rfl,λd hd hn=>?_,λd hd hl=>?_,λd hd h0=>?_,λd hl=>Wn _ hl⟩
       ·rw[ae.get_put,if_neg (by rintro rfl;exact hn (by rw[hw];simp))]
       ·rw[ae.get_put,if_neg (by rintro rfl;exact hl (by simp[ae.put]))]
       ·rw[ae.get_put];split
        ·rename_i e;subst e;rw[hy]at h0;cases h0
        ·exact h0
      ·cases hs
     ·cases hs
    ·cases hs
   ·cases hs
 |call c=>
  simp only[aL]at h;split at h
  ·rename_i bi hcal;cases hbi:aT P H b bi c.argTypes (c.args.toList.map ρ)with
   |none=>rw[hbi]at h;cases h
   |some r=>
    obtain⟨v0,K⟩:=r;rw[hbi]at h;cases h;unfold aT at hbi;split at hbi
    ·split at hbi
     ·cases hbi;exact .same _ _ _ _
     ·cases hbi
    ·split at hbi
     ·rw[WO]at hbi;obtain⟨n,_,hn⟩:=hbi;cases hn;exact .same _ _ _ _
     ·cases hbi;exact .same _ _ _ _
     ·cases hbi
    ·rename_i s x heq;split at hbi
     ·split at hbi
      ·obtain⟨a0,a1,hargs,h0,h1⟩:=ql heq;unfold cO at hbi;split at hbi
       ·split at hbi
        ·split at hbi
         ·rename_i l m hl hm;split at hbi
          ·split at hbi
           ·split at hbi
            ·cases hbi;exact .same _ _ _ _
            ·cases hbi;exact .new _ _ _ _ _
           ·split at hbi
            ·cases hbi;exact .same _ _ _ _
            ·cases hbi;exact .new _ _ _ _ _
           ·rename_i b' i k;cases hbi;have hw:aF (.call c) ρ=[b']:=by simp[aF,hcal,hargs,h0,aa]
            refine⟨rfl,λd hd hn=>?_,λd hd hl=>?_,λd hd h0=>?_,λd hl=>Wn _ hl⟩
            ·rw[ae.get_new,if_neg (λe=>hd e.symm),ae.get_put,if_neg (by rintro rfl;exact hn (by rw[hw];simp))]
            ·rw[ae.get_new,if_neg (λe=>hd e.symm),ae.get_put,if_neg (by rintro rfl;exact hl (by simp[ae.put,ae.new]))]
            ·rw[ae.get_new,if_neg (λe=>hd e.symm),ae.get_put];split
             ·rfl
             ·exact h0
           ·cases hbi
          ·cases hbi
         ·cases hbi
        ·cases hbi
       ·cases hbi
      ·cases hbi
     ·cases hbi
    ·split at hbi
     ·cases hbi;exact .same _ _ _ _
     ·cases hbi
    ·split at hbi
     ·cases hbi;exact .same _ _ _ _
     ·cases hbi
    ·rename_i x heq;split at hbi
     ·rename_i t htt;cases hcl:eY P H t x with
      |none=>rw[hcl]at hbi;cases hbi
      |some K1=>
       rw[hcl]at hbi;cases hbi;obtain⟨a0,hargs,h0⟩:=qk heq;unfold eY at hcl;split at hcl
       ·split at hcl
        ·split at hcl
         ·cases hcl;exact .same _ _ _ _
         ·rename_i d i k;split at hcl
          ·rename_i y hy;split at hcl
           ·cases hcl;have hw:aF (.call c) ρ=[d]:=by simp[aF,hcal,hargs,h0,aa]
            refine⟨rfl,λd' hd hn=>?_,λd' hd hl=>?_,λd' hd h0=>?_,λd' hl=>Wn _ hl⟩
            ·rw[ae.get_put,if_neg (by rintro rfl;exact hn (by rw[hw];simp))]
            ·rw[ae.get_put,if_neg (by rintro rfl;exact hl (by simp[ae.put]))]
            ·rw[ae.get_put];split
             ·rename_i e;subst e;rw[hy]at h0;cases h0
             ·exact h0
           ·cases hcl
          ·cases hcl
         ·cases hcl
        ·cases hcl
       ·cases hcl
     ·cases hbi
    ·cases hbi
  ·split at h<;>cases h
  ·cases h
 |makeFunc fn first cap=>cases fn<;>simp only[aL]at h<;>(try split at h)<;>cases h<;>exact .same _ _ _ _
 |makeMap t r=>
  cases r with
  |none=>simp only[aL]at h;cases h;exact .new _ _ _ _ _
  |some r=>simp[aL]at h
 |mapUpdate t m k x=>
  simp only[aL]at h;cases hs:eO P H t (ρ m) (ρ k) (ρ x)with
  |none=>rw[hs]at h;cases h
  |some K=>rw[hs]at h;cases h;obtain⟨c,y,y',hm,hy,rfl,_⟩:=mF hs;exact .put _ hy (by simp[aF,hm,aa])
 |next it s=>
  cases s with
  |false=>simp[aL]at h
  |true=>
   simp only[aL]at h;cases hs:iA H (ρ it)with
   |none=>rw[hs]at h;cases h
   |some r=>
    obtain⟨v0,K⟩:=r;rw[hs]at h;cases h;obtain⟨c,y,hm,hy,⟨rfl,_⟩|⟨y',rfl,_⟩⟩:=vV hs
    ·exact .same _ _ _ _
    ·exact .put _ hy (by simp[aF,hm,aa])
 |buildSlice t len parts=>
  simp only[aL]at h;split at h
  ·split at h
   ·split at h
    ·rename_i n z _ _ _;cases hf:dS n (List.replicate len z) (parts.toList.map λp=>(p.1,ρ p.2))with
     |none=>rw[hf]at h;cases h
     |some rows=>rw[hf]at h;cases h;exact .new _ _ _ _ _
    ·cases h
   ·cases h
  ·cases h
 |_=>
  simp only[aL]at h
  first
   |(obtain⟨_,rfl⟩:=fo h;exact .same _ _ _ _)
   |(repeat' (first|(cases h;exact .same _ _ _ _)|(cases h;exact .new _ _ _ _ _)|(cases h;done)|(obtain⟨_,rfl⟩:=fo h;exact .same _ _ _ _)|split at h))
theorem fH(base mask:Nat):∀(k:Nat) (H:ae),(dt base mask k H).next=H.next∧(dt base mask k H).log=H.log
 |0,H=>⟨rfl,rfl⟩
 | k+1,H=>by
  unfold dt;split
  ·exact fH base mask k H
  ·exact fH base mask k _
theorem gY(base mask:Nat):∀(k:Nat) (H:ae) (c:Nat),(dt base mask k H).get c=if(∃j,j<k∧mask.testBit j=false∧c=base+j)then none else H.get c
 |0,H,c=>by simp[dt]
 | k+1,H,c=>by
  unfold dt;rw[gY base mask k];by_cases h1:∃j,j<k∧mask.testBit j=false∧c=base+j
  ·obtain⟨j,hj⟩:=h1;rw[if_pos ⟨j,hj⟩,if_pos ⟨j,W4,hj.2⟩]
  ·rw[if_neg h1];by_cases hm:mask.testBit k=true
   ·rw[if_pos hm,if_neg];rintro⟨j,hj,hb,hc⟩;by_cases hjk:j=k
    ·subst hjk;rw[hm]at hb;cases hb
    ·exact h1 ⟨j,W4,hb,hc⟩
   ·rw[if_neg hm];show(H.tr.set (base+k) none).get c=_;rw[Tr.get_set];by_cases hc:base+k=c
    ·rw[if_pos hc,if_pos ⟨k,W4,by simpa using hm,hc.symm⟩]
    ·rw[if_neg hc,if_neg]
     ·rfl
     rintro⟨j,hj,hb,hc'⟩;by_cases hjk:j=k
     ·subst hjk;exact hc hc'.symm
     ·exact h1 ⟨j,W4,hb,hc'⟩
theorem gE(base mask:Nat)(H:ae):∀(k:Nat) (K:ae),(iB base mask H k K).next=K.next∧(iB base mask H k K).log=K.log
 |0,K=>⟨rfl,rfl⟩
 | k+1,K=>by
  unfold iB;split
  ·exact gE base mask H k K
  ·exact gE base mask H k _
theorem lM(base mask:Nat)(H:ae):∀(k:Nat) (K:ae) (c:Nat),(iB base mask H k K).get c=if(∃j,j<k∧mask.testBit j=false∧c=base+j)then H.get c else K.get c
 |0,K,c=>by simp[iB]
 | k+1,K,c=>by
  unfold iB;rw[lM base mask H k];by_cases h1:∃j,j<k∧mask.testBit j=false∧c=base+j
  ·obtain⟨j,hj⟩:=h1;rw[if_pos ⟨j,hj⟩,if_pos ⟨j,W4,hj.2⟩]
  ·rw[if_neg h1];by_cases hm:mask.testBit k=true
   ·rw[if_pos hm,if_neg];rintro⟨j,hj,hb,hc⟩;by_cases hjk:j=k
    ·subst hjk;rw[hm]at hb;cases hb
    ·exact h1 ⟨j,W4,hb,hc⟩
   ·rw[if_neg hm];show(K.tr.set (base+k) (H.tr.get (base+k))).get c=_;rw[Tr.get_set];by_cases hc:base+k=c
    ·rw[if_pos hc,if_pos ⟨k,W4,by simpa using hm,hc.symm⟩,←hc];rfl
    ·rw[if_neg hc,if_neg]
     ·rfl
     rintro⟨j,hj,hb,hc'⟩;by_cases hjk:j=k
     ·subst hjk;exact hc hc'.symm
     ·exact h1 ⟨j,W4,hb,hc'⟩
structure Qp(B:Nat)(W:Nat→Prop)(H H':ae):Prop where
 next:H.next≤H'.next
 dom:∀b,b<B→H.get b=none→H'.get b=none
 keep:∀b,b<B→¬W b→H'.get b=H.get b
 bd:Bd H→Bd H'
theorem Qp.refl(B:Nat)(W:Nat→Prop)(H:ae):Qp B W H H:=⟨Vo _,λ_ _ h=>h,λ_ _ _=>rfl,λh=>h⟩
theorem Qp.trans{B:Nat}{W W':Nat→Prop}{H H' H'':ae}(h:Qp B W H H')(k:Qp B W' H' H'')(hW:∀b,W b→W' b):Qp B W' H H'':=
 ⟨VG h.next k.next,λb hb h0=>k.dom b hb (h.dom b hb h0),λb hb hn=>(k.keep b hb hn).trans (h.keep b hb (λhw=>hn (hW b hw))),λhb=>k.bd (h.bd hb)⟩
variable {call:FuncId→List AV→ae→Option (AV×ae)} {ops:Array Oper} {base:Nat}
theorem MB{o:Op}{ρ:Operand→AV}{b:Nat}{H H':ae}{v:AV}(h:aL P F o ρ b H=some (.val v H'))(hb:b<H.next)(h0:Bd H):Bd H':=by have hc:=F8 h;intro c hcn;rw[hc.next]at hcn;exact hc.dom c W4 (h0 c hcn)
theorem Lr(hc:∀f args H v H',Bd H→call f args H=some (v,H')→AO H H'){B i:Nat}{τ τ':List AV}{H H':ae}(hbd:Bd H)(hB:B≤base)(hlt:base+i<H.next)(h:ki P F call ops base i τ H=some (τ',H')):Qp B (·∈H'.log) H H'∧∀c,c∈H.log→c∈H'.log:=by
 unfold ki at h;split at h
 ·cases h
 ·split at h
  ·split at h
   ·rename_i hop;cases h;have hcg:=F8 hop;exact⟨⟨by rw[hcg.next];exact Vo _,λc hcb h0=>hcg.dom c W4 h0,λc hcb hn=>hcg.keepL c W4 hn,MB hop hlt⟩,hcg.log⟩
   ·split at h
    ·rename_i hcall;cases h;have hcg:=hc _ _ _ _ _ hbd hcall;exact⟨⟨hcg.next,λc hcb h0=>hcg.dom c W4 h0,λc hcb hn=>hcg.keep c W4 hn,hcg.bd⟩,hcg.log⟩
    ·cases h
   ·cases h
  ·cases h;exact⟨.refl _ _ _,λ_ h=>h⟩
  ·cases h
theorem HD(hc:∀f args H v H',Bd H→call f args H=some (v,H')→AO H H'){B:Nat}(hB:B≤base):∀(l:List Nat) (τ τ':List AV) (H H':ae),Bd H→(∀i∈l,base+i<H.next)→mC P F call ops base l τ H=some (τ',H')→
  Qp B (·∈H'.log) H H'∧∀c,c∈H.log→c∈H'.log
 |[],τ,τ',H,H',_,_,h=>by cases h;exact⟨.refl _ _ _,λ_ h=>h⟩
 | i::l,τ,τ',H,H',hbd,hl,h=>by
  unfold mC at h;split at h
  ·rename_i τ1 H1 hs;obtain⟨h1,l1⟩:=Lr hc hbd hB (hl i W7) hs;obtain⟨h2,l2⟩:=HD hc hB l _ _ _ _ (h1.bd hbd) (λj hj=>VK (hl j (by simp[hj])) h1.next) h;exact⟨h1.trans h2 l2,λc hcl=>l2 c (l1 c hcl)⟩
  ·cases h
def touched(r:Option r6)(c:Nat):Prop:=∃x,r=some x∧(c∈x.writes∨c∈x.made∨(x.isCall=true∧x.lo≤c∧c<x.hi))
structure Qq(base i:Nat)(H H':ae)(r:Option r6):Prop where
 next:H.next≤H'.next
 log:H'.log=H.log
 keep:Bd H→∀c,¬touched r c→H'.get c=H.get c
 dom:∀c,c<H.next→c≠base+i→H.get c=none→H'.get c=none
 bd:Bd H→Bd H'
 made:∀x,r=some x→(∀c∈x.made,c=base+i)∧(x.isCall=true→x.lo=H.next)
theorem iR(hc:∀f args H v H',Bd H→call f args H=some (v,H')→AO H H'){i mask:Nat}{τ τ':List AV}{H H':ae}{r:Option r6}(hbd:Bd H)(hlt:base+i<H.next)(h:bz P F call ops base i mask τ H=some (τ',H',r)):Qq base i H H' r:=by
 unfold bz at h;split at h
 ·cases h
 ·rename_i o ho;split at h
  ·split at h
   ·rename_i v K hop;cases h;have hcg:=F8 hop;refine⟨by show H.next≤K.next;rw[hcg.next];exact Vo _,rfl,λ_ c hn=>?_,λc _ hcb h0=>hcg.dom c hcb h0,λh0 c hcn=>MB hop hlt h0 c hcn,λx hx=>?_⟩
    ·refine hcg.keep c (λe=>hn ⟨_,rfl,.inr (.inl (by simp[e]))⟩) (λhw=>hn ⟨_,rfl,.inl hw⟩)
    ·cases hx;exact⟨W7,W7⟩
   ·rename_i f args hop;split at h
    ·rename_i v K hcall;cases h;have hn1:(dt base mask i H).next=H.next:=(fH base mask i H).1
     have hbd1:Bd ({dt base mask i H with log:=[]}:ae):=λd hd=>by
      show(dt base mask i H).get d=none;rw[gY];split
      ·rfl
      ·exact hbd d (by simp only[hn1]at hd;exact hd)
     have hcg:=hc _ _ _ _ _ hbd1 hcall;have hn2:=hcg.next;simp only[hn1]at hn2;refine⟨by show H.next≤(iB base mask H i K).next;rw[(gE base mask H i K).1];exact hn2,rfl,λh0 c hn=>?_,λc hcn hcb h0=>?_,λh0 c hcn=>?_,λx hx=>?_⟩
     ·show(iB base mask H i K).get c=H.get c;rw[lM];split
      ·rfl
      ·rename_i hh;have hg:({dt base mask i H with log:=[]}:ae).get c=H.get c:=by show(dt base mask i H).get c=_;rw[gY,if_neg hh]
       rcases Vt c H.next with hcn|hcn
       ·by_cases hl:c∈K.log
        ·cases hgc:(dt base mask i H).get c with
         |none=>have h1:({dt base mask i H with log:=[]}:ae).get c=none:=hgc;rw[hcg.dom c (by simp only[hn1];exact hcn) h1,←hg,h1]
         |some y=>exact absurd ⟨_,rfl,.inl (WM.2 ⟨hl,by simp[hgc]⟩)⟩ hn
        ·rw[hcg.keep c (by simp only[hn1];exact hcn) hl];exact hg
       ·rcases Vt c K.next with hck|hck
        ·exact absurd ⟨_,rfl,.inr (.inr ⟨rfl,hcn,hck⟩)⟩ hn
        ·have hbd:Bd ({dt base mask i H with log:=[]}:ae):=λd hd=>by
          show(dt base mask i H).get d=none;rw[gY];split
          ·rfl
          ·exact h0 d (by simp only[hn1]at hd;exact hd)
         rw[hcg.bd hbd c hck,h0 c hcn]
     ·show(iB base mask H i K).get c=none;rw[lM];split
      ·exact h0
      ·rename_i hh;refine hcg.dom c (by simp only[hn1];exact hcn) ?_;show(dt base mask i H).get c=none;rw[gY,if_neg hh];exact h0
     ·show(iB base mask H i K).get c=none;have hcn':K.next≤c:=by
       have:(iB base mask H i K).next≤c:=hcn
       rwa [(gE base mask H i K).1]at this
      rw[lM];split
      ·exact h0 c W4
      ·have hbd:Bd ({dt base mask i H with log:=[]}:ae):=λd hd=>by
        show(dt base mask i H).get d=none;rw[gY];split
        ·rfl
        ·exact h0 d (by simp only[hn1]at hd;exact hd)
       exact hcg.bd hbd c hcn'
     ·cases hx;exact⟨W7,λ_=>rfl⟩
    ·cases h
   ·cases h
  ·cases h;exact⟨Vo _,rfl,λ_ _ _=>rfl,λ_ _ _ h=>h,λh=>h,λx hx=>by cases hx⟩
  ·cases h
theorem yT(hc:∀f args H v H',Bd H→call f args H=some (v,H')→AO H H'){B:Nat}(hB:B≤base){before:List Nat}:∀(l:List Nat) (τ τ':List AV) (H K:ae) (rs rs':List r6),Bd H→(∀i∈l,base+i<H.next)→B≤H.next→
  ed P F call ops base before l τ H rs=some (τ',K,rs')→H.next≤K.next∧K.log=H.log∧Bd K∧(∀b,b<B→H.get b=none→K.get b=none)∧(∀b,b<B→b∉rs'.flatMap (·.writes)→K.get b=H.get b)∧(∀x∈rs,x∈rs')
 |[],τ,τ',H,K,rs,rs',hbd,_,_,h=>by cases h;exact⟨Vo _,rfl,hbd,λ_ _ h=>h,λ_ _ _=>rfl,λ_ h=>h⟩
 | i::l,τ,τ',H,K,rs,rs',hbd,hl,hBn,h=>by
  unfold ed at h;split at h
  ·rename_i τ1 H1 hs;have d:=iR hc hbd (hl i W7) hs;obtain⟨a1,a2,a3,a4,a5,a6⟩:=yT hc hB l _ _ _ _ _ _ (d.bd hbd) (λj hj=>VK (hl j (by simp[hj])) d.next) (VG hBn d.next) h;refine⟨VG d.next a1,a2.trans d.log,a3,λb hb h0=>a4 b hb (d.dom b W4 W4 h0),λb hb hn=>(a5 b hb hn).trans (d.keep hbd b ?_),a6⟩;rintro⟨x,hx,_⟩;cases hx
  ·rename_i τ1 H1 r hs;split at h
   ·have d:=iR hc hbd (hl i W7) hs;obtain⟨a1,a2,a3,a4,a5,a6⟩:=yT hc hB l _ _ _ _ _ _ (d.bd hbd) (λj hj=>VK (hl j (by simp[hj])) d.next) (VG hBn d.next) h;refine⟨VG d.next a1,a2.trans d.log,a3,λb hb h0=>a4 b hb (d.dom b W4 W4 h0),λb hb hn=>(a5 b hb hn).trans (d.keep hbd b ?_),λx hx=>a6 x (by simp[hx])⟩;rintro⟨x,hx,h1|h1|⟨h1,h2,_⟩⟩
    ·cases hx;exact hn (List.mem_flatMap.2 ⟨r,a6 r W7,h1⟩)
    ·have:=(d.made x hx).1 b h1;omega
    ·have:=(d.made x hx).2 h1;omega
   ·cases h
  ·cases h
theorem Jl(hc:∀f args H v H',Bd H→call f args H=some (v,H')→AO H H'){draw:Bool}{τ τ':List AV}{H H':ae}(hbd:Bd H)(h:dB P F call ops draw τ H=some (τ',H')):AO H H':=by
 have hbd0:Bd {H with next:=H.next+ops.size}:=λb hb=>hbd b (VG (VX _ _) hb)
 cases draw with
 |false=>simp only[dB,VQ,if_false]at h;obtain⟨o,l⟩:=HD hc (Vo H.next) _ _ _ _ _ hbd0 (λi hi=>by rw[Wl]at hi;exact Nat.add_lt_add_left hi _) h;exact⟨VG (VX _ _) o.next,o.dom,o.keep,l,λ_=>o.bd hbd0⟩
 |true=>
  simp only[dB,if_true]at h;split at h
  ·rename_i τ1 K rs hd;cases h;obtain⟨a1,a2,a3,a4,a5,_⟩:=yT hc (Vo H.next) _ _ _ _ _ _ _ hbd0 (λi hi=>by rw[Wl]at hi;exact Nat.add_lt_add_left hi _) (VX _ _) hd;refine⟨VG (VX _ _) a1,a4,λb hb hn=>a5 b hb (λhw=>hn ?_),λb hb=>?_,λ_=>a3⟩
   ·simp only[VC];exact .inl hw
   ·simp only[VC];right;rw[a2];exact hb
  ·cases h
theorem CJ{ex:Code→List AV→ae→Option (Ex×List AV×ae)}(h:∀c τ H e τ' H',Bd H→ex c τ H=some (e,τ',H')→AO H H'){f:FuncId}{args:List AV}{H:ae}{v:AV}{H':ae}(hbd:Bd H)
  (hc:oY P ex f args H=some (v,H')):AO H H':=by
 unfold oY at hc;split at hc
 ·split at hc
  ·split at hc
   ·cases hc
   ·rename_i e τ' K hne hex;split at hc
    ·cases hc;have hk:=h _ _ {H with log:=[]} _ _ _ hbd hex;refine⟨hk.next,hk.dom,λb hb hn=>hk.keep b hb (λhl=>hn ?_),λb hb=>?_,λ_=>hk.bd hbd⟩
     ·simp only[VC,WM,decide_eq_true_eq];exact .inl ⟨hl,hb⟩
     ·simp only[VC];exact .inr hb
    ·cases hc
   ·cases hc
  ·cases hc
 ·cases hc
end
end
end Go.Proofs.YtenbpcngcicamaaGreatDoor.Am
