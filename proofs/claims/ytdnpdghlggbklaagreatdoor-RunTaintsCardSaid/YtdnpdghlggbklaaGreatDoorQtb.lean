/- A part of the proof; the statement is proved in the last part. -/
import Derived.Test.YtdnpdghlggbklaaGreatDoorQta
import Derived.IntWalk
import Derived.Deep.AppendSrc
import Derived.MapKept
import Derived.Carry
import Derived.Lib.OthersKept
import Derived.Laws.RangeString
import Derived.LoopN
set_option linter.unusedSimpArgs false
set_option linter.unusedVariables false
namespace Go.Proofs.YtdnpdghlggbklaaGreatDoor.Am
section
section
variable {P:Program} {w:World} {σ:bD} {T:Nat→Prop} {H:ac} {b:Nat}
theorem pZ{n:Nat}{ρ:Operand→AV}{ρ':Operand→Value}(hρ:∀x,bb w σ T (ρ x) (ρ' x)):∀(ps:List (Nat×Operand)) (rows r:List (List AV)) (cells':Array Value),
  Flat w σ T rows n cells'.toList→eb n rows (ps.map λp=>(p.1,ρ p.2))=some r→
  ∃r':Array Value,Instr.fill (λi=>some (i*n,n)) cells' (ps.map λp=>(p.1,ρ' p.2))=some r'∧Flat w σ T r n r'.toList∧r.length=rows.length
 |[],rows,r,cells',hc,h=>by cases h;exact⟨cells',rfl,hc,rfl⟩
 | (i,x)::ps,rows,r,cells',hc,h=>by
  simp only[Yb,eb]at h;split at h
  ·rename_i cs hcs;split at h
   ·rename_i hl;obtain⟨hl1,hl2,_⟩:=hl;have hx:=(hρ x).cells hcs;have e1:(ρ' x).cells.size=n:=by rw[←Yv,←hx.1,hl1]
    have e2:cells'.size=rows.length*n:=by rw[←Yv,hc.len]
    have hin:i*n+n≤rows.length*n:=by have:(i+1)*n≤rows.length*n:=Yt _ hl2;rw[YQ]at this;omega
    have hfold:((ρ' x).cells.zipIdx.foldl (λ(cs:Array Value) (p:Value×Nat)=>cs.setIfInBounds (i*n+p.2) p.1) cells').toList=cells'.toList.take (i*n)++(ρ' x).cells.toList++cells'.toList.drop (i*n+(ρ' x).cells.toList.length):=by have:=Ay (ρ' x).cells.toList 0 (i*n) cells' (by simp;omega);rw[←Array.foldl_toList,Array.toList_zipIdx];simpa using this
    obtain⟨r',h1,h2,h3⟩:=pZ hρ ps (rows.set i cs) r _ (by rw[hfold];exact hc.set hl2 hl1 hx) h;refine⟨r',?_,h2,by simpa using h3⟩;have hcond:(decide ((ρ' x).cells.size≠n)||decide (i*n+(ρ' x).cells.size > cells'.size))=false:=by simp[e1,e2];omega
    simp only[Yb,Instr.fill,hcond,YB,if_false];exact h1
   ·cases h
  ·cases h
theorem Ll{x:Blk}{cs:Array Value}{e:TypeId}{k cap:Nat}(hk:k≤cap)(hcap:cap≤maxLen)(hs:cap*x.size≤cs.size):
  bb (World.push w (.cells cs e (0,0))) (σ.set b ⟨w.heap.size,0,x.size⟩) (aK (σ.set b ⟨w.heap.size,0,x.size⟩) (H.new b x)) (.sl b 0 k) (.slice (some ⟨w.heap.size,0,none⟩) k cap):=by
 refine bb.sl b 0 k ⟨w.heap.size,0,x.size⟩ _ cap (bD.set_eq _ _ _) (.inl rfl) hk hcap λ_=>⟨ZM,cs,e,?_,by simpa using hs⟩
 show(w.heap.push _)[w.heap.size]? =_;simp
theorem CC(hW:bu w σ H)(hb:σ b=none)(hlt:b<H.next){t e:TypeId}{len n:Nat}{ps:Array (Nat×Operand)}{ρ:Operand→AV}{ρ':Operand→Value}(hρ:∀x,bb w σ (aK σ H) (ρ x) (ρ' x))
  {z:List AV} {rows:List (List AV)} (hu:P.underlying t=some (.slice e)) (hn:aV P e=some n) (hz:(ez P e).bind AV.cells? =some z) (hzn:z.length=n) (h0:0<n) (hl:len*n≤2^24)
  (h:eb n (List.replicate len z) (ps.toList.map λp=>(p.1,ρ p.2))=some rows) :
  GB P (Instr.buildSlice t len (ps.map λ(i,x)=>(i,ρ' x))) w σ H b (.sl b 0 len) (H.new b ⟨n,rows⟩):=by
 have hps:(ps.map λ(i,x)=>(i,ρ' x)).toList=ps.toList.map λp=>(p.1,ρ' p.2):=by simp
 cases hza:ez P e with
 |none=>rw[hza]at hz;cases hz
 |some za=>
  rw[hza]at hz;simp only[YW]at hz;obtain⟨z',hz1,hz2⟩:=eM (P:=P) (w:=w) (σ:=σ) (T:=aK σ H) hza;have hzr:=hz2.cells hz;have hlen:len≤2^24:=Yn (Nat.le_mul_of_pos_right len h0) hl;obtain⟨l,e1,e2,e3,_⟩:=Flat.zeros hzr hzn h0 len len (X7 _);have hfl:Flat w σ (aK σ H) (List.replicate len z) n (l.toArray).toList:=by rw[YL ZJ]at e3;exact e3
  obtain⟨r',f1,f2,f3⟩:=pZ hρ ps.toList _ rows l.toArray hfl h;have hr':r'.size=len*n:=by rw[←Yv,f2.len,f3];simp
  have hrl:rows.length=len:=by simpa using f3
  refine D5 hW hb hlt (cs:=r') (e:=e) (v':=.slice (some ⟨w.heap.size,0,none⟩) len len) (l:=r'.toList) ?_ f2 ?_ ?_
  ·simp only[];rw[YL (by rw[Yv,hr',hrl];exact X7 _)]
  ·have hgt:¬len*n > 2^24:=by omega
   simp only[Instr.buildSlice,YE,run_underlying hu,Yk,cJ hn];rw[if_neg hgt];by_cases hz0:len*n=0
   ·have hl0:len=0:=by
     rcases Nat.mul_eq_zero.1 hz0 with h1|h1
     ·exact h1
     ·omega
    subst hl0;rw[if_pos hz0];have:l=[]:=by cases l with
     |nil=>rfl
     |cons a l=>simp at e2
    subst this;simp only[YE,YS,Yk,hz0,hps];have he:(Array.range 0).map (λx=>(#[]:Array Value)[x % (#[]:Array Value).size]!)=([]:List Value).toArray:=by simp
    rw[he,f1];rfl
   ·rw[if_neg hz0];simp only[YE,hz1,YS,Yk,hps];rw[e1,f1];rfl
  ·exact Ll (x:=⟨n,rows⟩) (X7 _) (by unfold maxLen;omega) (by rw[hr'];exact X7 _)
theorem D6(hW:bu w σ H)(hb:σ b=none)(hlt:b<H.next){t e:TypeId}{n by_ l c:Nat}{x y:AV}{x' y':Value}(hx:bb w σ (aK σ H) x x')(hy:bb w σ (aK σ H) y y')
  {z:List AV} (hu:P.underlying t=some (.slice e)) (hn:aV P e=some n) (hby:jw P e=some by_) (hz:(ez P e).bind AV.cells? =some z) (hl:oC x=some l) (hc:oC y=some c)
  (hzn:z.length=n) (h0:0<n) (hlc:l≤c) (hcm:c≤2^62) (hcb:c*by_≤2^48) :
  GB P (Instr.makeSlice t x' y') w σ H b (.sl b 0 l) (H.new b ⟨n,List.replicate l z⟩):=by
 obtain⟨kl,li,rfl,hl0,rfl⟩:=pX hx hl;obtain⟨kc,ci,rfl,hc0,rfl⟩:=pX hy hc;cases hza:ez P e with
 |none=>rw[hza]at hz;cases hz
 |some za=>
  rw[hza]at hz;simp only[YW]at hz;cases hi:P.info? e with
  |none=>simp[jw,hi]at hby
  |some i=>
  have hib:i.bytes=by_:=by simpa[jw,hi]using hby
  obtain⟨z',hz1,hz2⟩:=eM (P:=P) (w:=w) (σ:=σ) (T:=aK σ H) hza;have hzr:=hz2.cells hz;obtain⟨l,e1,e2,e3,_⟩:=Flat.zeros hzr hzn h0 li.toNat ci.toNat hlc;have wl:IntKind.i64.wrap li=li:=YU _ ZJ;have wc:IntKind.i64.wrap ci=ci:=YU _ ZJ;have hbig:((decide (ci<0)||decide ((i.bytes:Int)*ci > 2^48))||decide (li<0)||decide (li > ci))=false:=by
   rw[hib];have:((by_:Int)*ci)=((ci.toNat*by_:Nat):Int):=by rw[Int.natCast_mul,Int.toNat_of_nonneg hc0,Int.mul_comm]
   have h2:((ci.toNat*by_:Nat):Int)≤2^48:=by exact_mod_cast hcb
   simp only[Bool.or_eq_false_iff,decide_eq_false_iff_not];refine⟨⟨⟨ZJ,by rw[this];omega⟩,ZJ⟩,ZJ⟩
  refine D5 hW hb hlt (x:=⟨n,List.replicate li.toNat z⟩) (cs:=l.toArray) (e:=e) (v':=.slice (some ⟨w.heap.size,0,none⟩) li.toNat ci.toNat) (l:=l.take (li.toNat*n)) ?_ e3 ?_ ?_
  ·simp
  ·simp only[Instr.makeSlice,asInt,asIntOf,YE,run_underlying hu,YS,Yk,xB hi,wl,wc,hbig,YB,if_false,run_askRoom,cJ hn];by_cases hz0:ci.toNat*n=0
   ·rw[if_pos hz0];have hnil:l=[]:=by cases l with
     |nil=>rfl
     |cons a l=>simp at e2;omega
    subst hnil;simp only[YE,YS,Yk,hz0];have he:(Array.range 0).map (λx=>(#[]:Array Value)[x % (#[]:Array Value).size]!)=([]:List Value).toArray:=by simp
    rw[he];rfl
   ·rw[if_neg hz0];simp only[YE,hz1,YS,Yk];rw[e1];rfl
  ·exact Ll (x:=⟨n,List.replicate li.toNat z⟩) hlc (by unfold maxLen;omega) (by simp[e2])
theorem D7{m:List (List AV)}{n c o:Nat}(he:∀(i:Nat) (r:List AV),m[i]? =some r→r.length=n)(hc:∀(i:Nat) (r:List AV),m[i]? =some r→Jj w σ T r c (o+i*n)):
  ∃l:List Value,(∀w2:World,w2.heap=w.heap→(loadCells ⟨c,o,none⟩ (m.length*n)).run P w2=.ok l.toArray w2)∧Flat w σ T m n l:=by
 have key:∀p,∃u,p<m.length*n→w.cell? ⟨c,o+p,none⟩=some u:=λp=>by
  by_cases hp:p<m.length*n
  ·have hn:0<n:=by
    rcases Y0 n with h0|h0
    ·subst h0;simp at hp
    ·exact h0
   have hi:p / n<m.length:=by rw[Nat.div_lt_iff_lt_mul hn];exact hp
   have hr:m[p / n]? =some m[p / n]:=X6 hi;have hj:p % n<m[p / n].length:=by rw[he _ _ hr];exact Nat.mod_lt _ hn
   obtain⟨u,h1,_⟩:=hc _ _ hr (p % n) _ (X6 hj);refine⟨u,λ_=>?_⟩;rw[YZ,Nat.mul_comm,Nat.div_add_mod]at h1;exact h1
  ·exact⟨undef,λh=>absurd h hp⟩
 let f:=λp=>Classical.choose (key p)
 have hf:∀p,p<m.length*n→w.cell? ⟨c,o+p,none⟩=some (f p):=λp=>Classical.choose_spec (key p)
 refine⟨(List.range (m.length*n)).map f,λw2 hw2=>run_loadCells w2 _ _ f (λj hj=>by rw[eK];rw[←hf j hj];unfold World.cell?;rw[hw2]),⟨ZM,he,?_⟩⟩;intro i r j a u hr ha hu;have hj:j<n:=by rw[←he i r hr];exact aB ha
 have hp:=pY (aB hr) hj;rw[Ym,ZG hp]at hu;cases hu;obtain⟨u,h1,h2⟩:=hc i r hr j a ha;rw[YZ,hf _ hp]at h1;cases h1;exact h2
theorem G3(hW:bu w σ H){n:Nat}{x:AV}{x':Value}{m:List (List AV)}(hx:bb w σ (aK σ H) x x')(h:fM H n x=some m):
  ∃(A:Option Addr) (cap:Nat) (l:List Value),x'=.slice A m.length cap∧(∀w2:World,w2.heap=w.heap→(Builtin.firstCells n m.length x').run P w2=.ok l.toArray w2)∧Flat w σ (aK σ H) m n l:=by
 unfold fM at h;split at h
 ·cases h;cases hx;exact⟨none,0,[],rfl,λ_ _=>rfl,Flat.nil n⟩
 ·cases h;cases hx with
  |emp A=>exact⟨A,0,[],rfl,λw2 _=>by cases A<;>simp[Builtin.firstCells,loadCells,loadCellsFrom],Flat.nil n⟩
 ·rename_i rows;split at h
  ·cases h;obtain⟨A,cap,rfl,_,_,_⟩:=hx.lst_inv;refine⟨A,cap,[],rfl,?_,Flat.nil n⟩;intro w2 _;cases A<;>simp[Builtin.firstCells,loadCells,loadCellsFrom]
  ·rename_i r rs;split at h
   ·rename_i hr;cases h;obtain⟨A,cap,rfl,hn,hm,ha⟩:=hx.lst_inv;obtain⟨b,o,sz,rfl,hl,hrep⟩:=ha ZM;obtain rfl:r.length=sz:=hl.even 0 r rfl;subst hr;obtain⟨l,h1,h2⟩:=D7 (P:=P) (o:=o) (c:=b) hl.even (λi q hq=>hl.row hrep hq);exact⟨_,cap,l,rfl,λw2 hw2=>by simp only[Builtin.firstCells];exact h1 w2 hw2,h2⟩
   ·cases h
 ·rename_i b' i k;split at h
  ·rename_i y hy;split at h
   ·rename_i hcond;obtain⟨hsz,hik⟩:=hcond;cases h;obtain⟨pl,a,cap,rfl,hs,hn,hm,ha⟩:=hx.sl_inv;obtain⟨pl',cs',e',g1,g2⟩:=hW.live b' y hy;rw[hs]at g1;cases g1;replace g2:=g2.1 (hx.sl_ok hs);have hlen:((y.rows.drop i).take k).length=k:=by simp;omega
    rw[hlen];have get:∀(q:Nat) (r:List AV),((y.rows.drop i).take k)[q]? =some r→y.rows[i+q]? =some r:=λq r hq=>by
     have hi:=aB hq;rw[hlen]at hi
     rwa [YG hi,YY]at hq
    rcases Y0 k with hk|hk
    ·subst hk;exact⟨_,cap,[],rfl,λw2 _=>by simp[Builtin.firstCells,loadCells,loadCellsFrom],by simpa using Flat.nil n⟩
    ·obtain⟨rfl,cs,ty,hc,hr⟩:=ha ZJ;obtain⟨l,h1,h2⟩:=D7 (P:=P) (w:=w) (σ:=σ) (T:=aK σ H) (m:=(y.rows.drop i).take k) (n:=n) (c:=pl.block) (o:=pl.base+i*pl.size) (λq r hq=>by rw[←hsz];exact g2.even _ r (get q r hq)) (λq r hq=>by
      have:=g2.row (get q r hq);rw[YQ,←YZ]at this
      rwa [g2.size,hsz]at this ⊢)
     rw[hlen]at h1;exact⟨_,cap,l,rfl,λw2 hw2=>by simp only[Builtin.firstCells];exact h1 w2 hw2,h2⟩
   ·cases h
  ·cases h
 ·cases h
theorem Flat.ones{rows:List (List AV)}{n:Nat}{l:List Value}(h:Flat w σ T rows n l)(ho:(rows.all λr=>r.all AV.one)=true):∀u∈l,u.oneCell'=true:=by
 intro u hu;obtain⟨p,hp,rfl⟩:=Zc hu;have hlen:=h.len;have hn:0<n:=by
  rcases Y0 n with h0|h0
  ·subst h0;rw[Nat.mul_zero]at hlen;omega
  ·exact h0
 have hi:p / n<rows.length:=by rw[Nat.div_lt_iff_lt_mul hn];omega
 have hr:rows[p / n]? =some rows[p / n]:=X6 hi;have hj:p % n<rows[p / n].length:=by rw[h.even _ _ hr];exact Nat.mod_lt _ hn
 have hrep:=h.rep (p / n) _ (p % n) _ l[p] hr (X6 hj) (by rw[Nat.mul_comm,Nat.div_add_mod];exact X6 hp);refine hrep.one ?_;rw[Yo]at ho;have:=ho _ (Yr hi);rw[Yo]at this;exact this _ (Yr hj)
theorem gm{t tx ty e e':TypeId}{n sLen sCap k capx:Nat}{A B:Option Addr}{news:List Value}(ht:P.underlying t=some (.slice e))(htx:P.underlying tx=some (.slice e'))(hn:aV P e=some n)
  (hroom:sLen+k≤sCap) (hc:(Builtin.firstCells n k (.slice B k capx)).run P w=.ok news.toArray w) {w':World} (hst:(match A with|some a=>storeCells (a.add (sLen*n)) news|none=>Pure.pure ()).run P w=.ok () w') :
  (Builtin.append_ #[t,tx] ty #[.slice A sLen sCap,.slice B k capx]).run P w=.ok (.slice A (sLen+k) sCap) w':=by
 cases A with
 |none=>simp only[YS]at hst;cases hst;simp[Builtin.append_,run_underlying ht,run_underlying htx,cJ hn,Builtin.lenOf,hroom,hc]
 |some a=>simp only[]at hst;simp[Builtin.append_,run_underlying ht,run_underlying htx,cJ hn,Builtin.lenOf,hroom,hc,hst]
theorem Jr(hW:bu w σ H)(hb:σ b=none)(hlt:b<H.next){t tx ty e':TypeId}{s x v:AV}{s' x':Value}{H':ac}(hx:bb w σ (aK σ H) x x')(hs:bb w σ (aK σ H) s s')
  (htx:P.underlying tx=some (.slice e')) (h:cS P H b t s x=some (v,H')):GB P (Builtin.append_ #[t,tx] ty #[s',x']) w σ H b v H':=by
 unfold cS at h;split at h
 ·rename_i e hu;split at h
  ·rename_i n by_ z hn hby hz;split at h
   ·rename_i l m hl hm;split at h
    ·rename_i hc;obtain⟨c1,c2,h0,hzn,hone⟩:=hc;cases hi:P.info? e with
     |none=>simp[jw,hi]at hby
     |some i=>
     have hib:i.bytes=by_:=by simpa[jw,hi]using hby
     have hin:i.size=n:=by simpa[aV,hi]using hn
     cases hza:ez P e with
     |none=>rw[hza]at hz;cases hz
     |some za=>
     rw[hza]at hz;simp only[YW]at hz;obtain⟨z',hz1,hz2⟩:=eM (P:=P) (w:=w) (σ:=σ) (T:=aK σ H) hza;have hiz:i.zero=some z':=by
      simp only[zeroValue,YE,xB hi,Yk]at hz1;split at hz1
      ·rename_i q hq;cases hz1;exact hq
      ·cases hz1
     have hzr:=hz2.cells hz;obtain⟨A,cap,olds,rfl,ho1,ho2⟩:=G3 (P:=P) hW hs hl;obtain⟨B,capx,news,rfl,hn1,hn2⟩:=G3 (P:=P) hW hx hm;have grow:∀{K:ac},(hWK:bu w σ K)→(hext:eI w σ (aK σ H) w σ (aK σ K))→b<K.next→cap<l.length+m.length→
       GB P (Builtin.append_ #[t,tx] ty #[.slice A l.length cap,.slice B m.length capx]) w σ H b (.sl b 0 (l.length+m.length)) (K.new b ⟨n,l++m⟩):=by
      intro K hWK hext hltK hcap;have hrun:=run_append_grow_src (P:=P) w t tx ty e i z' hu hi hiz A l.length cap olds (by rw[hin];exact ho1 _ rfl) (.slice B m.length capx) m.length news
       ⟨.inl ⟨e',htx⟩,λ_=>rfl,by rw[hin];exact hn1 w rfl,by rw[hin];exact hn1 _ rfl,by rw[hin];exact hn2.len,hn2.ones hone⟩ hcap ZJ
       (by rw[hib];have:=Yt by_ (nextslicecap_le hcap);omega)
      generalize hgc:grownCap w (l.length+m.length) cap e=gc at hrun;have hgc1:l.length+m.length≤gc∧gc≤maxLen:=by rw[←hgc];have hcut:grownCap w (l.length+m.length) cap e=(l.length+m.length)+w.tape w.drawn (.appendCap (l.length+m.length) cap e) % (2^63-(l.length+m.length)):=rfl;rw[hcut];unfold maxLen;have:w.tape w.drawn (.appendCap (l.length+m.length) cap e) % (2^63-(l.length+m.length))<2^63-(l.length+m.length):=Nat.mod_lt _ ZJ;omega
      have hE:eI w σ (aK σ H) w.drew σ (aK σ K):=hext.trans (eI.same σ _ rfl rfl rfl rfl);have hzs:z'.cells.size=n:=by rw[←Yv,←hzr.1,hzn]
      have hfl:Flat w σ (aK σ H) (l++m) n (olds++news):=ho2.append hn2;generalize hcs:((olds++news).toArray++Builtin.zeroCells z'.cells (gc-(l.length+m.length)):Array Value)=cs at hrun;have hcl:cs.size=gc*n:=by rw[←hcs];have h1:=hfl.len;simp only[Yf]at h1;simp only[Array.size_append,List.size_toArray,Yf,h1,Builtin.zeroCells,Array.size_map,Array.size_range,hzs];rw[←YQ];congr 1;omega
      have hcget:∀p u,p<(l++m).length*n→cs[p]? =some u→(olds++news)[p]? =some u:=λp u hp hu=>by rw[←hcs,Array.getElem?_append_left (by simp only[List.size_toArray];rw[hfl.len];exact hp)]at hu;simpa using hu
      obtain⟨g1,g2⟩:=(hWK.same (w':=w.drew) rfl rfl rfl rfl).new hb hltK (x:=⟨n,l++m⟩) (cs:=cs) (e:=e) hfl.even (by rw[hcl];simp only[Yf];exact Yt _ hgc1.1) (λi r j a u hr ha hu=>by
       have hj:j<n:=by rw[←hfl.even i r hr];exact aB ha
       exact(hfl.rep i r j a u hr ha (hcget _ u (pY (aB hr) hj) hu)).mono hE)
      refine⟨_,_,_,hrun,?_,g1,hE.trans g2,λc pl hc=>?_⟩
      ·exact Ll (w:=w.drew) (x:=⟨n,l++m⟩) hgc1.1 hgc1.2 (by rw[hcl];exact X7 _)
      ·by_cases hbc:b=c
       ·exact .inr hbc.symm
       ·rw[bD.set_ne _ _ hbc]at hc;exact .inl hc
     split at h
     ·
      cases hl;simp only[YC]at hs;cases hs;split at h
      ·rename_i hm0;cases h;refine⟨.slice none 0 0,w,σ,?_,.nils,hW,eI.refl _ _ _,λc pl hc=>.inl hc⟩;have:=gm (P:=P) (ty:=ty) (A:=none) (sLen:=0) (sCap:=0) (k:=m.length) hu htx hn ZJ (hn1 w rfl) (w':=w) rfl;rw[hm0]at this;simpa[hm0]using this
      ·rename_i hm0;cases h;have:=grow hW (eI.refl _ _ _) hlt (by simp;omega);simpa using this
     ·
      cases hl;simp only[YC]at hs;cases hs;split at h
      ·rename_i hm0;cases h;refine⟨.slice A 0 0,w,σ,?_,.emp A,hW,eI.refl _ _ _,λc pl hc=>.inl hc⟩;have hm':m=[]:=by cases m with
        |nil=>rfl
        |cons x m=>simp at hm0
       have hnews:news=[]:=by have:=hn2.len;rw[hm']at this;simpa using this
       have:=gm (P:=P) (ty:=ty) (A:=A) (sLen:=0) (sCap:=0) (k:=m.length) hu htx hn ZJ (hn1 w rfl) (w':=w) (by rw[hnews];cases A<;>rfl);rw[hm0]at this;simpa[hm0]using this
      ·rename_i hm0;cases h;have:=grow hW (eI.refl _ _ _) hlt (by simp;omega);simpa using this
     ·rename_i b' i k;cases h;obtain⟨pl,a,cap',heq,hsig,hk,hcm,ha⟩:=hs.sl_inv;simp only[Value.slice.injEq]at heq;obtain⟨rfl,hkl,rfl⟩:=heq;simp only[fM]at hl;split at hl
      ·rename_i y hy;split at hl
       ·rename_i hcond;obtain⟨hyn,hik⟩:=hcond;cases hl;have hlen:((y.rows.drop i).take k).length=k:=by simp;omega
        obtain⟨pl',ds,e0,q1,q2⟩:=hW.live b' y hy;rw[hsig]at q1;cases q1;have hpk:=hs.sl_ok hsig;replace q2:=q2.1 hpk;have hps:pl.size=n:=q2.size.trans hyn;have hget:∀(q:Nat) (r:List AV),((y.rows.drop i).take k)[q]? =some r→q<k∧y.rows[i+q]? =some r:=λq r hq=>by have hi:=aB hq;rw[hlen]at hi;rw[YG hi,YY]at hq;exact⟨hi,hq⟩
        have hfl:Flat w σ (aK σ H) ((y.rows.drop i).take k++m) n (olds++news):=ho2.append hn2;by_cases hroom:((y.rows.drop i).take k).length+m.length≤cap
        ·
         by_cases hc0:cap=0
         ·subst hc0;have hm0:m.length=0:=by omega
          have hk0:k=0:=by omega
          have hlk:((y.rows.drop i).take k)=[]:=by rw[hk0];simp
          have hm':m=[]:=by cases m with
           |nil=>rfl
           |cons x m=>simp at hm0
          have hnews:news=[]:=by have:=hn2.len;rw[hm']at this;simpa using this
          have hrun:=gm (P:=P) (ty:=ty) (A:=some a) hu htx hn hroom (hn1 w rfl) (w':=w) (by rw[hnews];rfl);obtain⟨o1,o2⟩:=hW.over (k:=0) hy hsig hb hlt (md.refl q2.block) (x':=⟨n,(y.rows.drop i).take k++m⟩) hps.symm hfl.even (by rw[hlk,hm'];have:=q2.room;simp;omega) (by rw[hlk,hm'];intro i r j a u hr;simp at hr);refine⟨_,_,_,hrun,?_,o1,o2,λc pl hc=>?_⟩
          ·exact bb.sl b 0 _ _ a 0 (bD.set_eq _ _ _) (cv.ok_over hpk _ _) hroom ZJ ZJ
          ·by_cases hbc:b=c
           ·exact .inr hbc.symm
           ·rw[bD.set_ne _ _ hbc]at hc;exact .inl hc
         ·obtain⟨rfl,cs,ty',hcb,hcr⟩:=ha ZJ;rw[q2.block]at hcb;cases hcb;have hnl:news.length=m.length*n:=hn2.len;have hcap:(k+m.length)*n≤cap*n:=Yt _ ZJ;have hbound:pl.base+i*pl.size+k*n+news.length≤ds.size:=by rw[hnl,hps];rw[hps,YQ]at hcr;rw[YQ]at hcap;omega
          have hst:=run_storeCells_at (P:=P) pl.block (pl.base+i*pl.size+k*n) e0 news 0 ds w q2.block (by simpa using hbound) (hn2.ones hone);simp only[Zy]at hst;have hw:md w (w.setRow pl.block (ds.toList.take (pl.base+i*pl.size+k*n)++news++ds.toList.drop (pl.base+i*pl.size+k*n+news.length)).toArray) pl.block ds _ e0:=
           ⟨rfl,rfl,rfl,ZM,q2.block,setRow_heap w _ _ _ _ _ q2.block,by
            simp only[List.size_toArray,Yf,Yx,ZA,Yv];rw[YX ZJ];omega,λd hd=>setRow_other w _ d _ hd⟩
          have hrun:=gm (P:=P) (ty:=ty) (A:=some ⟨pl.block,pl.base+i*pl.size,none⟩) hu htx hn hroom (hn1 w rfl) (by simp only[eK];rw[hlen];exact hst);have hdl:ds.toList.length=ds.size:=Yv;obtain⟨o1,o2⟩:=hW.over (k:=i) hy hsig hb hlt hw (x':=⟨n,(y.rows.drop i).take k++m⟩) hps.symm hfl.even (by
           simp only[Yf,hlen];rw[YQ];omega) (λq r j a u hr hj hu=>by
           simp only[]at hr hu;have hjn:j<n:=by rw[←hfl.even q r hr];exact aB hj
           rw[List.getElem?_toArray,gW ds.toList news _ _ ZJ]at hu;rcases X9 q k with hq|hq
           ·rw[Yp ZJ]at hr;have:=pY hq hjn;rw[if_pos ZJ,Yy]at hu;refine q2.rep (i+q) r j a u (hget q r hr).2 hj ?_;rw[hyn,←hu,hps];congr 1;rw[YQ];omega
           ·rw[Yh ZJ,hlen]at hr;have hqm:q-k<m.length:=aB hr;have h1:=pY hqm hjn;have h2:(q-k)*n+k*n=q*n:=by rw[←YQ,Nat.sub_add_cancel hq]
            rw[if_neg ZJ,if_pos ZJ]at hu;refine hn2.rep (q-k) r j a u hr hj ?_;rw[←hu];congr 1;omega)
          refine⟨_,_,_,hrun,?_,o1,o2,λc pl hc=>?_⟩
          ·refine bb.sl b 0 _ _ _ cap (bD.set_eq _ _ _) (cv.ok_over hpk _ _) hroom hcm λ_=>⟨ZM,_,e0,hw.new,?_⟩
           rw[hw.len];simp only[Y2];rw[YQ]at hcr;omega
          ·by_cases hbc:b=c
           ·exact .inr hbc.symm
           ·rw[bD.set_ne _ _ hbc]at hc;exact .inl hc
        ·
         have hsub:∀c x,(H.put b' none).get c=some x→H.get c=some x:=λc x hx=>by
          rw[ac.get_put]at hx;split at hx
          ·cases hx
          ·exact hx
         exact grow (hW.sub hsub (X7 _)) (eI.sub hsub) hlt ZJ
       ·cases hl
      ·cases hl
     ·cases h
    ·cases h
   ·cases h
  ·cases h
 ·cases h
theorem Flat.sub{rows:List (List AV)}{n:Nat}{l:List Value}(h:Flat w σ T rows n l):∀(i:Nat) (r:List AV) (j:Nat) (a:AV) (u:Value),rows[i]? =some r→r[j]? =some a→l[i*n+j]? =some u→bb w σ T a u:=h.rep
theorem Js(hW:bu w σ H){c:Nat}{y:Blk}{pl:cv}(hy:H.get c=some y)(hs:σ c=some pl)(hpk:pl.ok){i:Nat}{rows:List (List AV)}{us:List Value}(hf:Flat w σ (aK σ H) rows y.size us)(hin:i+rows.length≤y.rows.length)(hone:∀u∈us,u.oneCell'=true):
  ∃w',(storeCells ⟨pl.block,pl.base+i*pl.size,none⟩ us).run P w=.ok () w'∧bu w' σ (H.put c (some {y with rows:=y.rows.take i++rows++y.rows.drop (i+rows.length)}))∧eI w σ (aK σ H) w' σ (aK σ (H.put c (some {y with rows:=y.rows.take i++rows++y.rows.drop (i+rows.length)}))):=by
 obtain⟨pl',ds,e,g1,g2⟩:=hW.live c y hy;rw[hs]at g1;cases g1;replace g2:=g2.1 hpk;have hsz:=g2.size;have hroom:=g2.room;have hm:(i+rows.length)*y.size≤y.rows.length*y.size:=Yt _ hin;have hul:us.length=rows.length*y.size:=hf.len;rw[YQ]at hm;have hdl:ds.toList.length=ds.size:=Yv;have hst:=run_storeCells_at (P:=P) pl.block (pl.base+i*pl.size) e us 0 ds w g2.block (by rw[hul,hsz];omega) hone;simp only[Zy]at hst;have hw:md w (w.setRow pl.block (ds.toList.take (pl.base+i*pl.size)++us++ds.toList.drop (pl.base+i*pl.size+us.length)).toArray) pl.block ds _ e:=
  ⟨rfl,rfl,rfl,ZM,g2.block,setRow_heap w _ _ _ _ _ g2.block,by
   simp only[List.size_toArray,Yf,Yx,ZA,Yv];rw[hsz,YX ZJ];omega,λd hd=>setRow_other w _ d _ hd⟩
 have hlen:(y.rows.take i++rows++y.rows.drop (i+rows.length)).length=y.rows.length:=by simp only[Yf,Yx,ZA];omega
 refine⟨_,hst,hW.put hy hs hw (x':={y with rows:=y.rows.take i++rows++y.rows.drop (i+rows.length)}) hsz.symm ?_ ?_ ?_⟩
 ·intro q s hq;simp only[]at hq;rw[gW _ _ _ _ hin]at hq;split at hq
  ·exact g2.even q s hq
  ·split at hq
   ·exact hf.even _ s hq
   ·exact g2.even q s hq
 ·simp only[hlen];exact hroom
 ·intro q s j a u hq hj hu;simp only[]at hq hu;rw[gW _ _ _ _ hin]at hq;rw[List.getElem?_toArray,gW ds.toList us (pl.base+i*pl.size) _ (by rw[hul,hsz];omega),hul,hsz]at hu;by_cases h1:q<i
  ·rw[if_pos h1]at hq;have hjs:j<y.size:=by rw[←g2.even q s hq];exact aB hj
   have:(q+1)*y.size≤i*y.size:=Yt _ h1;rw[YQ]at this;rw[if_pos ZJ,Yy]at hu;exact g2.rep q s j a u hq hj hu
  ·rw[if_neg h1]at hq;have h1':i*y.size≤q*y.size:=Yt _ ZJ;by_cases h2:q<i+rows.length
   ·rw[if_pos h2]at hq;have hjs:j<y.size:=by rw[←hf.even _ s hq];exact aB hj
    have:(q+1)*y.size≤(i+rows.length)*y.size:=Yt _ h2;rw[YQ,YQ]at this;rw[if_neg ZJ,if_pos ZJ]at hu;refine hf.rep (q-i) s j a u hq hj ?_;rw[←hu];congr 1;rw[Nat.sub_mul];omega
   ·rw[if_neg h2]at hq;have:(i+rows.length)*y.size≤q*y.size:=Yt _ ZJ;rw[YQ]at this;rw[if_neg ZJ,if_neg ZJ,Yy]at hu;exact g2.rep q s j a u hq hj hu
theorem Lm{b:Nat}(hW:bu w σ H){t ty:TypeId}{x:AV}{x':Value}{H':ac}(hx:bb w σ (aK σ H) x x')(h:fo P H t x=some H'):
  GB P (Builtin.clear_ #[t] ty #[x']) w σ H b (.tup []) H':=by
 unfold fo at h;split at h
 ·rename_i e hu;split at h
  ·rename_i n z hn hz;split at h
   ·cases h;cases hx;exact⟨.tuple #[],w,σ,by simp[Builtin.clear_,run_underlying hu],.tup [] [] rfl ZM,hW,eI.refl _ _ _,λc pl hc=>.inl hc⟩
   ·rename_i c i k;split at h
    ·rename_i y hy;split at h
     ·rename_i hcond;obtain⟨⟨q1,q2⟩,⟨q3,q4⟩,q5⟩:=hcond;cases h;obtain⟨pl,ad,cap,rfl,hsg,hnc,hmx,ha⟩:=hx.sl_inv;rcases Y0 k with rfl|hk
      ·have e0:y.rows.take i++List.replicate 0 z++y.rows.drop (i+0)=y.rows:=by simp
       obtain⟨pl',ds,e',g1,g2⟩:=hW.live c y hy;rw[hsg]at g1;cases g1;replace g2:=g2.1 (hx.sl_ok hsg);have hput:=hW.put hy hsg (md.refl g2.block) (x':={y with rows:=y.rows.take i++List.replicate 0 z++y.rows.drop (i+0)}) g2.size.symm (by simp only[e0];exact g2.even) (by simp only[e0];exact g2.room) (by simp only[e0];exact g2.rep);exact⟨.tuple #[],w,σ,by simp[Builtin.clear_,run_underlying hu],.tup [] [] rfl ZM,hput.1,hput.2,λc pl hc=>.inl hc⟩
      ·obtain⟨rfl,cs,te,hcs,hroom⟩:=ha ZJ;cases hz0:ez P e with
       |none=>rw[hz0]at hz;cases hz
       |some z0=>
        rw[hz0]at hz;obtain⟨z',h1,h2⟩:=eM (P:=P) (w:=w) (σ:=σ) (T:=aK σ H) hz0;have hr:=h2.cells hz;obtain⟨l,hl1,hl2,hl3,hl4⟩:=Flat.zeros (zs:=z'.cells) hr q2 q3 k k (X7 _);rw[YL ZJ]at hl3;have hlz:(Builtin.zeroCells z'.cells k).toList=l:=by
         have hzs:z'.cells.size=n:=by rw[←Yv,←hr.1,q2]
         have:Builtin.zeroCells z'.cells k=l.toArray:=by rw[←hl1,←hzs];rfl
         rw[this]
        subst q1;have hfl:Flat w σ (aK σ H) (List.replicate k z) y.size l:=hl3;have hones:∀u∈l,u.oneCell'=true:=λu hu'=>by obtain⟨a,ha1,ha2⟩:=hl4 u hu';exact ha1.one (Yo.1 q5 a ha2)
        obtain⟨w',g1,g2,g3⟩:=Js (P:=P) hW hy hsg (hx.sl_ok hsg) hfl (by simpa using q4) hones;simp only[List.length_replicate]at g2 g3;refine⟨.tuple #[],w',σ,?_,.tup [] [] rfl ZM,g2,g3,λc pl hc=>.inl hc⟩;have hk0:k≠0:=by omega
        obtain⟨k',rfl⟩:∃k',k=k'+1:=⟨k-1,ZJ⟩;simp[Builtin.clear_,run_underlying hu,h1,hlz,g1]
     ·cases h
    ·cases h
   ·cases h
  ·cases h
 ·cases h
end
end
section
open Go.RowKit
section
variable {P:Program} {F:TypeId→Option (List TypeId)} {w:World} {σ:bD} {H:ac} {b:Nat}
theorem G4(hW:bu w σ H)(hb:σ b=none)(hlt:b<H.next){x:Blk}{o:Obj}{k:Nat}(ho:∀cs e,o≠.cells cs e (0,0))(hh:xA (World.push w o) x ⟨w.heap.size,k,0⟩)(hk:0<k){s:Sem Value}{v:AV}{v':Value}
  (hs:s.run P w=.ok v' (World.push w o)) (hv:∀w2 T,bb w2 (σ.set b ⟨w.heap.size,k,0⟩) T v v'):GB P s w σ H b v (H.new b x):=by
 have hnone:H.get b=none:=by
  cases hg:H.get b with
  |none=>rfl
  |some y=>obtain⟨pl,_,_,h1,_⟩:=hW.live b y hg;rw[hb]at h1;cases h1
 have hold:∀c,c<w.heap.size→(World.push w o).heap[c]? =w.heap[c]? :=λc hc=>by show(w.heap.push _)[c]? =_;rw[Array.getElem?_push,if_neg (Nat.ne_of_lt hc)]
 have hnok:¬cv.ok ⟨w.heap.size,k,0⟩:=by rintro(h|h)<;>simp only[]at h<;>omega
 have ext:eI w σ (aK σ H) (World.push w o) (σ.set b ⟨w.heap.size,k,0⟩) (aK (σ.set b ⟨w.heap.size,k,0⟩) (H.new b x)):=by
  refine⟨rfl,rfl,rfl,by simp[World.push],λc hc _=>hold c hc,λc cs' e' hc=>⟨cs',?_,rfl⟩,λc q hq=>bD.set_old hb hq,rfl,λc hc=>hold c (hW.apart c hc).1,?_⟩
  ·rcases X9 c w.heap.size with hlt|hge
   ·rw[hold c hlt];exact hc
   ·rw[Array.getElem?_eq_none hge]at hc;cases hc
  ·rintro c (hfr|⟨b',y,pl,h1,h2,h3⟩)
   ·exact .inl (.inl hfr)
   rw[ac.get_new]at h1;by_cases hbb:b=b'
   ·subst hbb;rw[bD.set_eq]at h2;cases h2;exact .inr (by simp only[]at h3;omega)
   ·rw[if_neg hbb]at h1;rw[bD.set_ne _ _ hbb]at h2;exact .inl (.inr ⟨b',y,pl,h1,h2,h3⟩)
 refine⟨v',_,_,hs,hv _ _,⟨?_,?_,?_,λc hc=>?_,?_,hW.glob.mono ext⟩,ext,λc pl hc=>?_⟩
 ·intro c pl hc;by_cases hbc:b=c
  ·subst hbc;exact hlt
  ·rw[bD.set_ne _ _ hbc]at hc;exact hW.named c pl hc
 ·intro c pl hc;by_cases hbc:b=c
  ·subst hbc;rw[bD.set_eq]at hc;cases hc;simp[World.push]
  ·rw[bD.set_ne _ _ hbc]at hc;have:=hW.lt c pl hc;simp[World.push];omega
 ·intro c y hy;rw[ac.get_new]at hy;by_cases hbc:b=c
  ·subst hbc;rw[if_pos rfl]at hy;cases hy;exact⟨_,#[],0,bD.set_eq _ _ _,λhp=>absurd hp hnok,λ_=>hh⟩
  ·rw[if_neg hbc]at hy;obtain⟨pl,cs',e',h1,h2⟩:=hW.live c y hy;exact⟨pl,cs',e',by rw[bD.set_ne _ _ hbc];exact h1,h2.mono ext (hold _ (hW.lt c pl h1))⟩
 ·have hlt':=(hW.apart c hc).1;refine⟨by simp[World.push];omega,?_⟩;rintro⟨b',y,pl,h1,h2,h3⟩;rw[ac.get_new]at h1;by_cases hbb:b=b'
  ·subst hbb;rw[bD.set_eq]at h2;cases h2;simp only[]at h3;omega
  ·rw[if_neg hbb]at h1;rw[bD.set_ne _ _ hbb]at h2;exact(hW.apart c hc).2 ⟨b',y,pl,h1,h2,h3⟩
 ·intro c c' y y' pl pl' h1 h2 h3 h4 h5;rw[ac.get_new]at h1 h2;by_cases hbc:b=c
  ·by_cases hbc':b=c'
   ·exact hbc.symm.trans hbc'
   ·subst hbc;rw[bD.set_eq]at h3;cases h3;rw[bD.set_ne _ _ hbc']at h4;have:=hW.lt c' pl' h4;simp only[]at h5;omega
  ·by_cases hbc':b=c'
   ·subst hbc';rw[bD.set_eq]at h4;cases h4;rw[bD.set_ne _ _ hbc]at h3;have:=hW.lt c pl h3;simp only[]at h5;omega
   ·rw[if_neg hbc]at h1;rw[if_neg hbc']at h2;rw[bD.set_ne _ _ hbc]at h3;rw[bD.set_ne _ _ hbc']at h4;exact hW.inj c c' y y' pl pl' h1 h2 h3 h4 h5
 ·by_cases hbc:b=c
  ·exact .inr hbc.symm
  ·rw[bD.set_ne _ _ hbc]at hc;exact .inl hc
theorem Tz(hW:bu w σ H){c:Nat}{x x':Blk}{pl:cv}(hg:H.get c=some x)(hs:σ c=some pl){o o':Obj}(hold:w.heap[pl.block]? =some o)(ho:∀cs e,o≠.cells cs e (0,0))(hn:¬pl.ok)
  (hh:xA {w with heap:=w.heap.setIfInBounds pl.block o'} x' pl) :
  bu {w with heap:=w.heap.setIfInBounds pl.block o'} σ (H.put c (some x'))∧eI w σ (aK σ H) {w with heap:=w.heap.setIfInBounds pl.block o'} σ (aK σ (H.put c (some x'))):=by
 have rest:∀d,d≠pl.block→(w.heap.setIfInBounds pl.block o')[d]? =w.heap[d]? :=(MapKept.heap_set hold).2;have htok:Gx σ (H.put c (some x'))=Gx σ H:=by
  funext d;apply propext;constructor
  ·rintro⟨b',y,q,h1,h2,h3⟩;rw[ac.get_put]at h1;by_cases hbb:c=b'
   ·subst hbb;exact⟨c,x,q,hg,h2,h3⟩
   ·rw[if_neg hbb]at h1;exact⟨b',y,q,h1,h2,h3⟩
  ·rintro⟨b',y,q,h1,h2,h3⟩;by_cases hbb:c=b'
   ·subst hbb;exact⟨c,x',q,by rw[ac.get_put,if_pos rfl],h2,h3⟩
   ·exact⟨b',y,q,by rw[ac.get_put,if_neg hbb];exact h1,h2,h3⟩
 have hown:aK σ (H.put c (some x'))=aK σ H:=by funext d;simp[aK,htok]
 have hT:Gx σ H pl.block:=⟨c,x,pl,hg,hs,rfl⟩;have ext:eI w σ (aK σ H) {w with heap:=w.heap.setIfInBounds pl.block o'} σ (aK σ (H.put c (some x'))):=by rw[hown];refine⟨rfl,rfl,rfl,ZM,λd _ hd=>rest d (by rintro rfl;exact hd (.inr hT)),λd ds e hd=>⟨ds,?_,rfl⟩,λ_ _ h=>h,rfl,λd hd=>rest d (by rintro rfl;exact(hW.apart _ hd).2 hT),λ_ h=>.inl h⟩;rw[rest d (by rintro rfl;rw[hold]at hd;cases hd;exact ho _ _ rfl)];exact hd
 refine⟨⟨hW.named,λd q hd=>by simpa using hW.lt d q hd,?_,λd hd=>by rw[htok];simpa using hW.apart d hd,?_,hW.glob.mono ext⟩,ext⟩
 ·intro d y hy;rw[ac.get_put]at hy;by_cases hbc:c=d
  ·subst hbc;rw[if_pos rfl]at hy;cases hy;exact⟨pl,#[],0,hs,λhp=>absurd hp hn,λ_=>hh⟩
  ·rw[if_neg hbc]at hy;obtain⟨q,ds,e',h1,h2⟩:=hW.live d y hy;exact⟨q,ds,e',h1,h2.mono ext (rest _ λhe=>hbc (hW.inj c d x y pl q hg hy hs h1 he.symm))⟩
 ·intro d d' y y' q q' h1 h2;have aux:∀d y,(H.put c (some x')).get d=some y→∃z,H.get d=some z:=λd y hy=>by
   rw[ac.get_put]at hy;by_cases hbc:c=d
   ·subst hbc;exact⟨x,hg⟩
   ·rw[if_neg hbc]at hy;exact⟨y,hy⟩
  obtain⟨z,hz⟩:=aux d y h1;obtain⟨z',hz'⟩:=aux d' y' h2;exact hW.inj d d' z z' q q' hz hz'
theorem bb.mp_inv{T:Nat→Prop}{c:Nat}{v:Value}(hW:bu w σ H)(h:bb w σ T (.mp c) v){x:Blk}(hx:H.get c=some x):
  ∃pl es clk,v=.map (some pl.block)∧σ c=some pl∧pl.base=1∧pl.size=0∧x.size=0∧¬pl.ok∧w.heap[pl.block]? =some (.map es clk)∧es.toList.map Ji=x.rows.map some:=by
 cases h with
 |mp _ pl hs h1 h2=>
 obtain⟨pl',cs,e,g1,g2⟩:=hW.live c x hx;rw[hs]at g1;cases g1;have hn:¬pl.ok:=by rintro(h|h)<;>omega
 have hh:=g2.2 hn;rcases hh.obj with⟨_,es,clk,k1,k2⟩|⟨k0,_⟩
 ·exact⟨pl,es,clk,rfl,hs,h2,h1,hh.size,hn,k1,k2⟩
 ·omega
theorem bb.it_inv{T:Nat→Prop}{c:Nat}{v:Value}(hW:bu w σ H)(h:bb w σ T (.it c) v){x:Blk}(hx:H.get c=some x):
  ∃(pl:cv) (s:ByteArray) (pos:Nat),v=.pointer (some ⟨pl.block,0,none⟩)∧σ c=some pl∧pl.base=2∧pl.size=0∧x.size=0∧¬pl.ok∧w.heap[pl.block]? =some (.stringIter s pos)∧x.rows=[[.str s.data.toList,.int .i64 pos]]:=by
 cases h with
 |it _ pl hs h1 h2=>
 obtain⟨pl',cs,e,g1,g2⟩:=hW.live c x hx;rw[hs]at g1;cases g1;have hn:¬pl.ok:=by rintro(h|h)<;>omega
 have hh:=g2.2 hn;rcases hh.obj with⟨k0,_⟩|⟨_,s,pos,k1,k2⟩
 ·omega
 ·exact⟨pl,s,pos,rfl,hs,h2,h1,hh.size,hn,k1,k2⟩
theorem Rs{v:Value}{s:List UInt8}(h:Jh v=some (.str s)):∃ba:ByteArray,v=.string ba∧ba.data.toList=s:=by cases v<;>simp[Jh]at h;exact⟨_,rfl,h⟩
theorem Mx{T:Nat→Prop}{v:Value}{a:AV}(h:Jh v=some a):bb w σ T a v:=by
 cases v<;>simp only[Jh,Yi,reduceCtorEq]at h<;>subst h
 ·exact .bool _
 ·exact .int _ _
 ·exact .str _
theorem Ny{T:Nat→Prop}{v:Value}{a:AV}(h:bb w σ T a v)(hk:a.konst=true):Jh v=some a:=by cases h<;>first|rfl|(simp[AV.konst]at hk)
theorem HS{T:Nat→Prop}{v:Value}{s:List UInt8}(h:bb w σ T (.str s) v):∃ba:ByteArray,v=.string ba∧ba.data.toList=s:=by
 cases h with
 |str ba=>exact⟨ba,rfl,rfl⟩
theorem nB{ba:ByteArray}:∀(l:List MapEntry) (rows:List (List AV)) (i:Nat),l.map Ji=rows.map some→rows.all xz=true→
  (Instr.findNow .string (.string ba) l i=some none∧gN ba.data.toList rows i=none) ∨
  ∃j e v,Instr.findNow .string (.string ba) l i=some (some (i+j,e.val))∧gN ba.data.toList rows i=some (i+j,v)∧l[j]? =some e∧Jh e.val=some v∧e.key=.string ba
 |[],[],i,_,_=>.inl ⟨rfl,rfl⟩
 |[],r::rows,i,h,_=>by simp at h
 |e::l,[],i,h,_=>by simp at h
 | e::l,r::rows,i,h,hk=>by
  simp only[Yb,List.cons.injEq]at h;simp only[List.all_cons,Yl]at hk;have h1:=h.1;unfold Ji at h1;split at h1
  ·rename_i k v hkk hv;cases h1;have h2:=hk.1;unfold xz at h2;split at h2
   ·rename_i s v' heq;cases heq;obtain⟨kb,hkb,rfl⟩:=Rs hkk;have hsn:Instr.sameNow .string (.string ba) e.key=some (ba==kb):=by rw[hkb];rfl
    have hbb:(ba.data.toList==kb.data.toList)=(ba==kb):=by
     rw[Bool.eq_iff_iff,MapKept.bytes_beq];constructor
     ·intro hh;have:ba.data.toList=kb.data.toList:=by simpa using hh
      obtain⟨x⟩:=ba;obtain⟨y⟩:=kb;simp only[]at this;congr 1;exact Array.toList_inj.1 this
     ·rintro rfl;simp
    cases hr:(ba==kb)with
    |true=>have he:ba=kb:=(MapKept.bytes_beq _ _).1 hr;rw[hr]at hsn hbb;exact .inr ⟨0,e,v,by simp[Instr.findNow,hsn],by simp[gN,hbb],rfl,hv,by rw[hkb,he]⟩
    |false=>
     rw[hr]at hsn hbb;rcases nB (ba:=ba) l rows (i+1) h.2 hk.2 with⟨g1,g2⟩|⟨j,e',v',g1,g2,g3,g4,g5⟩
     ·exact .inl ⟨by simp[Instr.findNow,hsn,g1],by simp[gN,hbb,g2]⟩
     ·exact .inr ⟨j+1,e',v',by simp[Instr.findNow,hsn,g1];omega,by simp[gN,hbb,g2];omega,by simpa using g3,g4,g5⟩
   ·cases h2
  ·cases h1
theorem XB{T:Nat→Prop}{a:AV}{x:Value}(h:bb w σ T a x):bb w σ T (.tup [a]) (.tuple #[x]):=.tup [a] [x] rfl λi a' x' h1 h2=>by
 match i with
 |0=>cases h1;cases h2;exact h
 |i+1=>simp at h1
theorem VC{T:Nat→Prop}{a b:AV}{x y:Value}(h:bb w σ T a x)(h':bb w σ T b y):bb w σ T (.tup [a,b]) (.tuple #[x,y]):=.tup [a,b] [x,y] rfl λi a' x' h1 h2=>by
 match i with
 |0=>cases h1;cases h2;exact h
 |1=>cases h1;cases h2;exact h'
 |i+2=>simp at h1
theorem XC{T:Nat→Prop}{a b c:AV}{x y z:Value}(h:bb w σ T a x)(h':bb w σ T b y)(h3:bb w σ T c z):bb w σ T (.tup [a,b,c]) (.tuple #[x,y,z]):=.tup [a,b,c] [x,y,z] rfl λi a' x' h1 h2=>by
 match i with
 |0=>cases h1;cases h2;exact h
 |1=>cases h1;cases h2;exact h'
 |2=>cases h1;cases h2;exact h3
 |i+3=>simp at h1
theorem My{e:MapEntry}{k v:AV}(h1:Jh e.key=some k)(h2:Jh e.val=some v):Ji e=some [k,v]:=by unfold Ji;rw[h1,h2]
theorem nC{t:TypeId}{m k v:AV}{H':ac}(h:fa P H t m k v=some H'):∃c x x',m=.mp c∧H.get c=some x∧H'=H.put c (some x')∧∀K:ac,K.get c=some x→fa P K t m k v=some (K.put c (some x')):=by
 unfold fa at h;split at h
 ·rename_i kt et c s hu;split at h
  ·rename_i x hku hx;split at h
   ·rename_i hc;cases h;exact⟨c,x,_,rfl,hx,rfl,λK hK=>by simp only[fa,hu,hku,hK];rw[if_pos hc]⟩
   ·cases h
  ·cases h
 ·cases h
theorem xD{it v:AV}{H':ac}(h:iT H it=some (v,H')):∃c x,it=.it c∧H.get c=some x∧((H'=H∧∀K:ac,K.get c=some x→iT K it=some (v,K))∨∃x',H'=H.put c (some x')∧∀K:ac,K.get c=some x→iT K it=some (v,K.put c (some x'))):=by
 unfold iT at h;split at h
 ·rename_i c;split at h
  ·rename_i x hx;split at h
   ·rename_i s k pos hr;split at h
    ·rename_i hp;cases h;exact⟨c,x,rfl,hx,.inr ⟨_,rfl,λK hK=>by simp only[iT,hK,hr];rw[if_pos hp]⟩⟩
    ·rename_i hp;cases h;exact⟨c,x,rfl,hx,.inl ⟨rfl,λK hK=>by simp only[iT,hK,hr];rw[if_neg hp]⟩⟩
   ·cases h
  ·cases h
 ·cases h
theorem D8{t:TypeId}{m k v:AV}{ok:Bool}(h:kJ P H t m k ok=some v):∃c x,m=.mp c∧H.get c=some x∧∀K:ac,K.get c=some x→kJ P K t m k ok=some v:=by
 unfold kJ at h;split at h
 ·rename_i kt et c s hu;split at h
  ·rename_i z x hku hz hx;split at h
   ·rename_i hkeys;exact⟨c,x,rfl,hx,λK hK=>by simp only[kJ,hu,hku,hz,hK];rw[if_pos hkeys];exact h⟩
   ·cases h
  ·cases h
 ·cases h
theorem HT(hW:bu w σ H){t:TypeId}{m k v:AV}{m' k':Value}{ok:Bool}(hm:bb w σ (aK σ H) m m')(hk:bb w σ (aK σ H) k k')(h:kJ P H t m k ok=some v):
  ∃v',(Instr.lookup t m' k' ok).run P w=.ok v' w∧bb w σ (aK σ H) v v':=by
 unfold kJ at h;split at h
 ·rename_i kt et c s hu;split at h
  ·rename_i z x hku hz hx;split at h
   ·rename_i hkeys;cases h;obtain⟨pl,es,clk,rfl,hs,_,_,_,_,hb,hrows⟩:=hm.mp_inv hW hx;obtain⟨ba,rfl,rfl⟩:=HS hk;obtain⟨z',hz1,hz2⟩:=eM (P:=P) (w:=w) (σ:=σ) (T:=aK σ H) hz;have hck:=λe=>MapKept.run_checkKey (P:=P) (w:=w) (k:=.string ba) hku trivial e 9999
    rcases nB es.toList x.rows 0 hrows hkeys with⟨g1,g2⟩|⟨j,e,v,g1,g2,g3,g4,g5⟩
    ·rw[g2];refine⟨if ok then .tuple #[z',.bool false]else z',?_,?_⟩
     ·simp only[Instr.lookup,YE,run_underlying hu,Yk,MapKept.run_getObj_map hb,YS,hck,MapKept.run_findKey hku g1,hz1]
     ·cases ok
      ·exact hz2
      ·exact VC hz2 (.bool false)
    ·rw[g2];refine⟨if ok then .tuple #[e.val,.bool true]else e.val,?_,?_⟩
     ·simp only[Instr.lookup,YE,run_underlying hu,Yk,MapKept.run_getObj_map hb,YS,hck,MapKept.run_findKey hku g1]
     ·cases ok
      ·exact Mx g4
      ·exact VC (Mx g4) (.bool true)
   ·cases h
  ·cases h
 ·cases h
theorem Jt(hW:bu w σ H){t:TypeId}{m k v:AV}{m' k' v':Value}(hm:bb w σ (aK σ H) m m')(hk:bb w σ (aK σ H) k k')(hv:bb w σ (aK σ H) v v'){H':ac}(h:fa P H t m k v=some H'):
  ∃w',(Instr.mapUpdate t m' k' v').run P w=.ok () w'∧bu w' σ H'∧eI w σ (aK σ H) w' σ (aK σ H'):=by
 unfold fa at h;split at h
 ·rename_i kt et c s hu;split at h
  ·rename_i x hku hx;split at h
   ·rename_i hc;cases h;obtain⟨hkeys,hkon⟩:=hc;obtain⟨pl,es,clk,rfl,hs,hb1,hps,hxs,hn,hb,hrows⟩:=hm.mp_inv hW hx;obtain⟨ba,rfl,rfl⟩:=HS hk;have hkv:=Ny hv hkon;have hck:=λe=>MapKept.run_checkKey (P:=P) (w:=w) (k:=.string ba) hku trivial e 9999
    rcases nB es.toList x.rows 0 hrows hkeys with⟨g1,g2⟩|⟨j,e,v0,g1,g2,g3,g4,g5⟩
    ·rw[g2];refine⟨_,by simp[Instr.mapUpdate,run_underlying hu,MapKept.run_getObj_map hb,hck,MapKept.run_findKey hku g1,MapKept.run_setObj_map _ hb,Result.andThen];rfl,Tz hW hx hs hb (by intros;simp) hn ⟨hxs,hps,.inl ⟨hb1,_,_,(MapKept.heap_set hb).1,?_⟩⟩⟩;simp only[Array.toList_push,Yc,Yb,YT,hrows];rw[My (k:=.str ba.data.toList) (v:=v) rfl hkv]
    ·have hj:es[j]? =some e:=by simpa using g3
     simp only[Y2]at g1 g2;rw[g2];refine⟨_,by simp[Instr.mapUpdate,run_underlying hu,MapKept.run_getObj_map hb,hck,MapKept.run_findKey hku g1,hj,g5,MapKept.run_keyThatStays (d:=.string) (k:=.string ba) trivial,MapKept.run_setObj_map _ hb,Result.andThen];rfl,Tz hW hx hs hb (by intros;simp) hn ⟨hxs,hps,.inl ⟨hb1,_,_,(MapKept.heap_set hb).1,?_⟩⟩⟩;simp only[Array.toList_modify];refine Zh λi=>?_
     have hi:=congrArg (λl=>l[i]?) hrows;simp only[Ym]at hi;rw[Ym,Ym,List.getElem?_modify,Yu];by_cases hij:j=i
     ·subst hij;have hl:j<x.rows.length:=by have:=(YR.1 g3).1;have h2:=congrArg List.length hrows;simp at h2 this;omega
      rw[if_pos rfl,if_pos hl,g3];simp only[Yz,Option.map_eq_map];rw[My (k:=.str ba.data.toList) (v:=v) rfl hkv]
     ·simp only[if_neg hij];rw[show((λa=>a) <$> es.toList[i]?)=es.toList[i]? from by cases es.toList[i]?<;>rfl];exact hi
   ·cases h
  ·cases h
 ·cases h
theorem Nz(hW:bu w σ H){it v:AV}{it':Value}(ty:TypeId)(hi:bb w σ (aK σ H) it it'){H':ac}(h:iT H it=some (v,H')):
  ∃v' w',(Instr.next it' true ty).run P w=.ok v' w'∧bb w' σ (aK σ H') v v'∧bu w' σ H'∧eI w σ (aK σ H) w' σ (aK σ H'):=by
 unfold iT at h;split at h
 ·rename_i c;split at h
  ·rename_i x hx;obtain⟨pl,s,pos,rfl,hs,hb2,hps,hxs,hn,hb,hrows⟩:=hi.it_inv hW hx;rw[hrows]at h;simp only[]at h;have hlen:s.data.toList.length=s.size:=Yv;have hsz:(⟨s.data.toList.toArray⟩:ByteArray)=s:=by obtain⟨d⟩:=s;simp
   split at h
   ·rename_i hp;cases h;have hp':pos<s.size:=by omega
    rw[hsz,Y7];refine⟨_,_,Lib.run_next_any_at w pl.block s pos ty hb hp',XC (.bool true) (.int _ _) (.int _ _),Tz hW hx hs hb (by intros;simp) hn ⟨hxs,hps,.inr ⟨hb2,s,_,(MapKept.heap_set hb).1,rfl⟩⟩⟩
   ·rename_i hp;cases h;exact⟨_,w,Lib.run_next_end_at w pl.block s pos ty hb ZJ,XB (.bool false),hW,eI.refl _ _ _⟩
  ·cases h
 ·cases h
end
end
section
section
variable {P:Program} {F:TypeId→Option (List TypeId)} {w:World} {σ:bD} {H:ac} {b:Nat}
def bP(P:Program)(s:Sem Next)(w:World)(σ:bD)(H:ac)(b:Nat)(v:AV)(H':ac):Prop:=
 ∃v' w' σ',(s.run P w=.ok (.value v') w'∨(s.run P w=.ok .skip w'∧v'=undef))∧bb w' σ' (aK σ' H') v v'∧bu w' σ' H'∧eI w σ (aK σ H) w' σ' (aK σ' H')∧∀c pl,σ' c=some pl→σ c=some pl∨c=b
theorem bP.of_done{s:Sem Value}{v:AV}{H':ac}(h:GB P s w σ H b v H'):bP P (do pure (.value (←s))) w σ H b v H':=by obtain⟨v',w',σ',h1,h2⟩:=h;exact⟨v',w',σ',.inl (by simp[h1]),h2⟩
theorem bP.of_val{s:Sem Value}{v:AV}(hW:bu w σ H)(h:∃v',s.run P w=.ok v' w∧bb w σ (aK σ H) v v'):bP P (do pure (.value (←s))) w σ H b v H:=by obtain⟨v',h1,h2⟩:=h;exact⟨v',w,σ,.inl (by simp[h1]),h2,hW,eI.refl _ _ _,λc pl hc=>.inl hc⟩
theorem bP.pure{s:Sem Next}{v:AV}{v':Value}(hW:bu w σ H)(h:s.run P w=.ok (.value v') w)(hr:bb w σ (aK σ H) v v'):bP P s w σ H b v H:=
 ⟨v',w,σ,.inl h,hr,hW,eI.refl _ _ _,λc pl hc=>.inl hc⟩
theorem fG{r:Option AV}{v:AV}{H H':ac}(h:(r.map λx=>fX.val x H)=some (.val v H')):r=some v∧H'=H:=by
 cases r with
 |none=>cases h
 |some x=>simp only[Yz,Yi,fX.val.injEq]at h;exact⟨by rw[h.1],h.2.symm⟩
theorem TA{ρ:Operand→AV}{ρ':Operand→Value}(hρ:∀x,bb w σ (aK σ H) (ρ x) (ρ' x))(x:Option Operand):Li w σ (aK σ H) (x.map ρ) (x.map ρ'):=by
 cases x with
 |none=>trivial
 |some a=>exact hρ a
theorem rq{α β:Type}{f:α→β}{l:List α}{x:β}(h:l.map f=[x]):∃a,l=[a]∧f a=x:=by
 match l,h with
 |[a],h=>exact⟨a,rfl,by simpa using h⟩
 |[],h=>simp at h
 |_::_::_,h=>simp at h
theorem rr{α β:Type}{f:α→β}{l:List α}{x y:β}(h:l.map f=[x,y]):∃a b,l=[a,b]∧f a=x∧f b=y:=by
 match l,h with
 |[a,b],h=>exact⟨a,b,rfl,by simpa using h⟩
 |[],h=>simp at h
 |[_],h=>simp at h
 |_::_::_::_,h=>simp at h
theorem GC(hW:bu w σ H)(hb:σ b=none)(hlt:b<H.next){ρ:Operand→AV}{ρ':Operand→Value}(hρ:∀x,bb w σ (aK σ H) (ρ x) (ρ' x)){op:Builtin}{args:List Operand}{types:List TypeId}{ty:TypeId}{cn:Array Bool}{v:AV}{H':ac}
  (h:aX P H b op types.toArray (args.map ρ)=some (v,H')):bP P (builtin op types.toArray ty cn (args.toArray.map ρ')) w σ H b v H':=by
 unfold aX at h;split at h
 ·rename_i s heq;obtain⟨a0,rfl,h0⟩:=rq heq;split at h
  ·rename_i hty;cases h;have hr:=hρ a0;rw[h0]at hr;generalize he:ρ' a0=x' at hr;cases hr with
   |str ba=>
   have hlen:ba.data.toList.length=ba.size:=Yv;cases htt:types[0]? with
   |none=>simp[htt]at hty
   |some t=>
   have hu:P.underlying t=some .string:=by simpa[htt]using hty
   refine bP.pure hW (v':=.int .i64 ba.size) ?_ (by rw[hlen];exact .int _ _);simp[builtin,Builtin.len_,htt,he,run_underlying hu,goInt]
  ·cases h
 ·rename_i x hne heq;obtain⟨a0,rfl,h0⟩:=rq heq;have hr:=hρ a0;rw[h0]at hr;cases htt:types[0]? with
  |none=>simp[htt]at h
  |some t=>
   simp only[List.getElem?_toArray,htt,YW]at h;split at h
   ·rename_i e hu;cases hl:Lg x with
    |none=>rw[hl]at h;cases h
    |some n=>
     rw[hl]at h;cases h;have hv:∃A c,ρ' a0=.slice A n c:=by
      unfold Lg at hl;split at hl
      ·cases hl;generalize ρ' a0=y at hr;cases hr;exact⟨_,_,rfl⟩
      ·cases hl;generalize ρ' a0=y at hr;cases hr;exact⟨_,_,rfl⟩
      ·cases hl;obtain⟨A,c,h1,_⟩:=hr.lst_inv;exact⟨A,c,h1⟩
      ·cases hl;obtain⟨_,a,c,h1,_⟩:=hr.sl_inv;exact⟨_,c,h1⟩
      ·cases hl
     obtain⟨A,c,hv⟩:=hv;refine bP.pure hW (v':=.int .i64 n) ?_ (.int _ _);simp[builtin,Builtin.len_,htt,hv,run_underlying hu,goInt]
   ·rename_i n e hu;cases h;refine bP.pure hW (v':=.int .i64 n) ?_ (.int _ _);simp[builtin,Builtin.len_,htt,run_underlying hu,goInt]
   ·cases h
 ·rename_i s x heq;obtain⟨a0,a1,rfl,h0,h1⟩:=rr heq;split at h
  ·rename_i t tx htt;split at h
   ·rename_i e' hu;simp only[]at htt;subst htt;have hs:=hρ a0;have hx:=hρ a1;rw[h0]at hs;rw[h1]at hx;have:=bP.of_done (Jr (ty:=ty) hW hb hlt hx hs hu h);simpa[builtin]using this
   ·cases h
  ·cases h
 ·rename_i k a k' c heq;obtain⟨a0,a1,rfl,h0,h1⟩:=rr heq;split at h
  ·rename_i hk;subst hk;cases h;have hs:=hρ a0;have hx:=hρ a1;rw[h0]at hs;rw[h1]at hx;generalize e0:ρ' a0=y0 at hs;generalize e1:ρ' a1=y1 at hx;cases hs;cases hx;exact bP.pure hW (v':=.int k (if c<a then c else a)) (by simp[builtin,Builtin.min_,Builtin.min2,e0,e1]) (.int _ _)
  ·cases h
 ·rename_i k a k' c heq;obtain⟨a0,a1,rfl,h0,h1⟩:=rr heq;split at h
  ·rename_i hk;subst hk;cases h;have hs:=hρ a0;have hx:=hρ a1;rw[h0]at hs;rw[h1]at hx;generalize e0:ρ' a0=y0 at hs;generalize e1:ρ' a1=y1 at hx;cases hs;cases hx;exact bP.pure hW (v':=.int k (if c > a then c else a)) (by simp[builtin,Builtin.max_,Builtin.max2,e0,e1]) (.int _ _)
  ·cases h
 ·rename_i x heq;obtain⟨a0,rfl,h0⟩:=rq heq;split at h
  ·rename_i t htt;simp only[]at htt;subst htt;cases hc:fo P H t x with
   |none=>rw[hc]at h;cases h
   |some K=>rw[hc]at h;cases h;have hx:=hρ a0;rw[h0]at hx;have:=bP.of_done (Lm (ty:=ty) (b:=b) hW hx hc);simpa[builtin]using this
  ·cases h
 ·cases h
theorem G5(fit:Fit P F)(hW:bu w σ H)(hb:σ b=none)(hlt:b<H.next){o:Oper}{ρ:Operand→AV}{ρ':Operand→Value}(hρ:∀x,bb w σ (aK σ H) (ρ x) (ρ' x)){v:AV}{H':ac}
  (h:aM P F o.op ρ b H=some (.val v H')):bP P (execOp ρ' o) w σ H b v H':=by
 obtain⟨dst,op,ty,pos,after,guard⟩:=o;simp only[]at h;cases op with
 |move x=>simp only[aM,Yi,fX.val.injEq]at h;obtain⟨rfl,rfl⟩:=h;exact bP.pure hW rfl (hρ x)
 |assign x=>simp only[aM,Yi,fX.val.injEq]at h;obtain⟨rfl,rfl⟩:=h;exact bP.pure hW rfl (hρ x)
 |pick c x y=>
  simp only[aM]at h;split at h
  ·rename_i t hc;simp only[Yi,fX.val.injEq]at h;obtain⟨rfl,rfl⟩:=h;have:=hρ c;rw[hc]at this;generalize hc':ρ' c=c' at this;cases this;refine bP.pure hW (v':=if t then ρ' x else ρ' y) (by simp[execOp,hc',asBool]) ?_;cases t
   ·exact hρ y
   ·exact hρ x
  ·cases h
 |alloc t=>
  simp only[aM]at h;split at h
  ·rename_i cs hcs;simp only[Yi,fX.val.injEq]at h;obtain⟨rfl,rfl⟩:=h;exact bP.of_done (Lj hW hb hlt hcs)
  ·cases h
 |box t x=>
  simp only[aM]at h;split at h
  ·rename_i cs hcs;split at h
   ·simp only[Yi,fX.val.injEq]at h;obtain⟨rfl,rfl⟩:=h;exact bP.of_done (Jq hW hb hlt (hρ x) hcs)
   ·cases h
  ·cases h
 |build t parts=>simp only[aM]at h;obtain⟨h1,rfl⟩:=fG h;exact bP.of_val hW (Jp hρ h1)
 |buildSlice t len parts=>
  simp only[aM]at h;split at h
  ·rename_i e hu;split at h
   ·rename_i n z hn hz;split at h
    ·rename_i hc;obtain⟨c1,c2,c3⟩:=hc;cases hf:eb n (List.replicate len z) (parts.toList.map λp=>(p.1,ρ p.2))with
     |none=>rw[hf]at h;cases h
     |some rows=>rw[hf]at h;simp only[Yz,Yi,fX.val.injEq]at h;obtain⟨rfl,rfl⟩:=h;exact bP.of_done (CC hW hb hlt hρ hu hn hz c1 c2 c3 hf)
    ·cases h
   ·cases h
  ·cases h
 |load t a=>simp only[aM]at h;obtain⟨h1,rfl⟩:=fG h;exact bP.of_val hW (D4 hW (hρ a) h1)
 |store t a x=>
  simp only[aM]at h;cases hs:gl P H t (ρ a) (ρ x)with
  |none=>rw[hs]at h;cases h
  |some K=>rw[hs]at h;simp only[Yz,Yi,fX.val.injEq]at h;obtain⟨rfl,rfl⟩:=h;obtain⟨w',h1,h2,h3⟩:=Lk hW (hρ a) (hρ x) hs;exact⟨undef,w',σ,.inr ⟨by simp[execOp,h1],rfl⟩,.tup [] [] rfl ZM,h2,h3,λc pl hc=>.inl hc⟩
 |nilCheck x=>simp only[aM]at h;have hx:=hρ x;split at h<;>(try (cases h;done))<;>(rename_i heq;simp only[Yi,fX.val.injEq]at h;obtain⟨rfl,rfl⟩:=h;rw[heq]at hx;generalize he:ρ' x=x' at hx;have hx2:=hx;cases hx2;exact bP.pure hW (by simp only[execOp,he];rfl) hx)
 |binOp op t x y yt=>simp only[aM]at h;obtain⟨h1,rfl⟩:=fG h;exact bP.of_val hW (Nw fit.flat (hρ x) (hρ y) h1)
 |unOp op t x=>simp only[aM]at h;obtain⟨h1,rfl⟩:=fG h;exact bP.of_val hW (ON (hρ x) h1)
 |convert s d x=>simp only[aM]at h;obtain⟨h1,rfl⟩:=fG h;exact bP.of_val hW (Lh (hρ x) h1)
 |makeFunc fn first cap=>
  cases fn with
  |func f=>
   simp only[aM]at h;split at h
   ·rename_i hf;simp only[Yi,fX.val.injEq]at h;obtain⟨rfl,rfl⟩:=h;have e:first=#[]:=Array.eq_empty_of_size_eq_zero hf
    subst e;refine bP.pure hW (v':=.func (.func f) #[] (cap.toList.map ρ').toArray) (by simp[execOp,Instr.makeFunc];apply Array.ext';simp) (.fn f _ _ ZM λi a v h1 h2=>?_);rw[Ym]at h1 h2;cases hc:cap.toList[i]? with
    |none=>rw[hc]at h1;cases h1
    |some q=>rw[hc]at h1 h2;cases h1;cases h2;exact hρ q
   ·cases h
  |_=>simp[aM]at h
 |makeSlice t l c=>
  simp only[aM]at h;split at h
  ·rename_i e hu;split at h
   ·rename_i n by_ z l' c' hn hby hz hl hc;split at h
    ·rename_i hcond;obtain⟨c1,c2,c3,c4,c5⟩:=hcond;simp only[Yi,fX.val.injEq]at h;obtain⟨rfl,rfl⟩:=h;exact bP.of_done (D6 hW hb hlt (hρ l) (hρ c) hu hn hby hz hl hc c1 c2 c3 c4 c5)
    ·cases h
   ·cases h
  ·cases h
 |slice t x lo hi mx=>
  simp only[aM]at h;split at h
  ·cases h
  ·rename_i hcond;obtain⟨h1,rfl⟩:=fG h;refine bP.of_val hW (Jo hW (hρ x) (TA hρ lo) (TA hρ hi) (TA hρ mx) (λhh=>?_) h1);cases hi with
   | none=>cases mx with
    |none=>rfl
    |some m=>simp at hcond
   |some q=>simp at hh
 |fieldAddr s x f=>simp only[aM]at h;obtain⟨h1,rfl⟩:=fG h;exact bP.of_val hW (CA (hρ x) h1)
 |field s x f=>simp only[aM]at h;obtain⟨h1,rfl⟩:=fG h;exact bP.of_val hW (Jl (hρ x) h1)
 |indexAddr t x ix=>simp only[aM]at h;obtain⟨h1,rfl⟩:=fG h;exact bP.of_val hW (CB hW (hρ x) (hρ ix) h1)
 |index t x ix=>simp only[aM]at h;obtain⟨h1,rfl⟩:=fG h;exact bP.of_val hW (Jm (hρ x) (hρ ix) h1)
 |extract x i=>
  simp only[aM]at h;split at h
  ·rename_i vs hx;obtain⟨h1,rfl⟩:=fG h;have:=hρ x;rw[hx]at this;generalize he:ρ' x=x' at this;cases this with
   |tup _ us hl hr=>
   have hi:=aB h1;have hi':i<us.length:=by omega
   exact bP.pure hW (v':=us[i]) (by simp[execOp,he,Instr.extract,hi']) (hr i v _ h1 (X6 hi'))
  ·cases h
 |makeMap t r=>
  cases r with
  |some r=>simp[aM]at h
  |none=>simp only[aM,Yi,fX.val.injEq]at h;obtain⟨rfl,rfl⟩:=h;refine bP.of_done (G4 hW hb hlt (k:=1) (o:=.map #[] 0) (by intros;simp) ⟨rfl,rfl,.inl ⟨rfl,#[],0,by show(w.heap.push _)[w.heap.size]? =_;simp,rfl⟩⟩ ZN rfl λw2 T=>.mp b _ (bD.set_eq _ _ _) rfl rfl)
 |lookup t m k ok=>simp only[aM]at h;obtain⟨h1,rfl⟩:=fG h;exact bP.of_val hW (HT hW (hρ m) (hρ k) h1)
 |mapUpdate t m k x=>
  simp only[aM]at h;cases hs:fa P H t (ρ m) (ρ k) (ρ x)with
  |none=>rw[hs]at h;cases h
  |some K=>rw[hs]at h;simp only[Yz,Yi,fX.val.injEq]at h;obtain⟨rfl,rfl⟩:=h;obtain⟨w',h1,h2,h3⟩:=Jt hW (hρ m) (hρ k) (hρ x) hs;exact⟨undef,w',σ,.inr ⟨by simp[execOp,h1],rfl⟩,.tup [] [] rfl ZM,h2,h3,λc pl hc=>.inl hc⟩
 |range t x=>
  simp only[aM]at h;split at h
  ·rename_i s hu hx;simp only[Yi,fX.val.injEq]at h;obtain⟨rfl,rfl⟩:=h;have:=hρ x;rw[hx]at this;obtain⟨ba,he,rfl⟩:=HS this;refine bP.of_done (s:=Instr.range t (ρ' x)) (G4 hW hb hlt (k:=2) (o:=.stringIter ba 0) (by intros;simp) ⟨rfl,rfl,.inr ⟨rfl,ba,0,by show(w.heap.push _)[w.heap.size]? =_;simp,rfl⟩⟩ ZN (by rw[he];exact run_range_string w t ba hu) λw2 T=>.it b _ (bD.set_eq _ _ _) rfl rfl)
  ·cases h
 |next it s=>
  cases s with
  |false=>simp[aM]at h
  |true=>
   simp only[aM]at h;cases hs:iT H (ρ it)with
   |none=>rw[hs]at h;cases h
   |some r=>obtain⟨v0,K⟩:=r;rw[hs]at h;simp only[Yz,Yi,fX.val.injEq]at h;obtain⟨rfl,rfl⟩:=h;obtain⟨v',w',h1,h2,h3,h4⟩:=Nz (P:=P) hW ty (hρ it) hs;exact⟨v',w',σ,.inl (by simp[execOp,h1]),h2,h3,h4,λc pl hc=>.inl hc⟩
 |call c=>
  simp only[aM]at h;obtain⟨callee,args,types⟩:=c;obtain⟨args⟩:=args;obtain⟨types⟩:=types;simp only[]at h;split at h
  ·rename_i bi;cases hbi:aX P H b bi types.toArray (args.map ρ)with
   |none=>rw[hbi]at h;cases h
   |some r=>
    obtain⟨v0,K⟩:=r;rw[hbi]at h;simp only[Yz,Yi,fX.val.injEq]at h;obtain⟨rfl,rfl⟩:=h;have key:∀cn,bP P (builtin bi ⟨types⟩ ty cn ((⟨args⟩:Array Operand).map ρ')) w σ H b v0 K:=λcn=>GC hW hb hlt hρ hbi
    exact key _
  ·rename_i f;split at h<;>simp at h
  ·cases h
 |_=>simp[aM]at h
theorem Ju(fit:Fit P F){o:Oper}{ρ:Operand→AV}{ρ':Operand→Value}(hρ:∀x,bb w σ (aK σ H) (ρ x) (ρ' x)){g:FuncId}{args:List AV}{fn:Func}{c:Code}
  (h:aM P F o.op ρ b H=some (.call g args)) (hg:P.funcs[g]? =some fn) (hc:fn.body=some c) :
  ∃vs:List Value,(execOp ρ' o).run P w=.ok (.enter g vs.toArray) w∧eH w σ (aK σ H) args vs:=by
 obtain⟨dst,op,ty,pos,after,guard⟩:=o;simp only[]at h;cases op with
 |call c=>
  simp only[aM]at h;obtain⟨callee,qs,types⟩:=c;obtain⟨qs⟩:=qs;simp only[]at h;split at h
  ·rename_i bi;cases hbi:aX P H b bi types (qs.map ρ)with
   |none=>rw[hbi]at h;cases h
   |some r=>rw[hbi]at h;cases h
  ·rename_i f;split at h
   ·rename_i g' cs hf;simp only[Yi,fX.call.injEq]at h;obtain⟨rfl,rfl⟩:=h;have:=hρ f;rw[hf]at this;generalize he:ρ' f=f' at this;cases this with
    |fn _ _ us hl hr=>
    have hnm : ¬ fn.name = "runtime.NumGoroutine" := fit.names _ _ hg
    refine⟨qs.map ρ'++us,?_,by simp[hl],λi a v h1 h2=>?_⟩
    ·simp[execOp,resolve,he,Deferred.ofValue,invoke,callFunc,hg,hnm,hc]
    ·rcases X9 i qs.length with hi|hi
     ·rw[Yp (by simpa using hi),Ym]at h1 h2;rw[X6 hi]at h1 h2;cases h1;cases h2;exact hρ _
     ·rw[Yh (by simpa using hi)]at h1 h2;simp only[Y9]at h1 h2;exact hr _ a v h1 h2
   ·cases h
  ·cases h
 |makeFunc fn first cap=>cases fn<;>simp only[aM]at h<;>(try split at h)<;>simp at h
 |makeMap t r=>cases r<;>simp[aM]at h
 |next it s=>cases s<;>simp[aM]at h
 |_=>
  exfalso;simp only[aM]at h
  repeat' (first|(cases h;done)|(simp at h;done)|split at h)
end
end
section
def cD(w:World)(σ:bD)(T:Nat→Prop)(τ:List AV)(a:Act):Prop:=eH w σ T τ a.tmps.toList∧a.defers=[]
theorem cD.mono{w w':World}{σ σ':bD}{T T':Nat→Prop}(e:eI w σ T w' σ' T'){τ:List AV}{a:Act}(h:cD w σ T τ a):cD w' σ' T' τ a:=⟨h.1.mono e,h.2⟩
section
variable {P:Program} {F:TypeId→Option (List TypeId)} {w:World} {σ:bD} {T:Nat→Prop}
theorem mg:bb w σ T bL undef:=.tup [] [] rfl ZM
theorem cD.eval{τ:List AV}{a:Act}(h:cD w σ T τ a)(hG:iG w T)(x:Operand):bb w σ T (kC τ x) (a.eval x):=by
 cases x with
 |tmp t=>
  simp only[kC,Act.eval];have hl:=h.1.1;simp only[Yv]at hl;rcases X9 t τ.length with ht|ht
  ·have e1:τ.getD t bL=τ[t]:=by simp[List.getD,ht]
   have ht':t<a.tmps.size:=hl▸ht;have e2:a.tmps.getD t undef=a.tmps[t]:=by simp[Array.getD,ht']
   rw[e1,e2];exact h.1.2 t _ _ (X6 ht) (by rw[Yy,YA ht'])
  ·have e1:τ.getD t bL=bL:=by simp[List.getD,X8 ht]
   have ht':¬t<a.tmps.size:=Nat.not_lt.2 (hl▸ht);have e2:a.tmps.getD t undef=undef:=by simp[Array.getD,ht']
   rw[e1,e2];exact mg
 |const v=>
  simp only[kC,Act.eval];cases hv:OK v with
  |none=>exact .junk _
  |some a=>exact Jk hv
 |global g=>exact hG.rep g
 |func f=>exact .fn f [] [] rfl ZM
theorem cD.put{τ:List AV}{a:Act}(h:cD w σ T τ a)(dst:Option Tmp){v:AV}{v':Value}(hv:bb w σ T v v'):cD w σ T (gj τ dst v) (a.put dst v'):=by
 cases dst with
 |none=>exact h
 |some d=>
  refine⟨⟨by simpa[gj,Act.put]using h.1.1,λi x u h1 h2=>?_⟩,h.2⟩;simp only[gj,Act.put,Array.toList_setIfInBounds,Yu]at h1 h2;by_cases hd:d=i
  ·subst hd;simp only[if_true]at h1 h2;split at h1
   ·split at h2
    ·cases h1;cases h2;exact hv
    ·cases h2
   ·cases h1
  ·rw[if_neg hd]at h1 h2;exact h.1.2 i x u h1 h2
theorem jj{ops:Array Oper}{o:Oper}{τ:List AV}{a:Act}{t:Bool}(h:cD w σ T τ a)(hw:dF ops o τ=some t):Region.wanted o (yielded ops a.tmps)=t:=by
 unfold dF at hw;unfold Region.wanted;split at hw
 ·rename_i hg;cases hw;rw[hg]
 ·rename_i j want hg;rw[hg];simp only[];unfold yielded;split at hw
  ·rename_i d hd;rw[hd];simp only[YW];have get:∀x,τ[d]? =some x→∃u,a.tmps[d]? =some u∧bb w σ T x u:=λx hx=>by have hl:=h.1.1;simp only[Yv]at hl;have hlt:=aB hx;exact⟨a.tmps[d],YA ZJ,h.1.2 d x _ hx (by rw[Yy,YA ZJ])⟩
   split at hw
   ·rename_i b hb;obtain⟨u,h1,h2⟩:=get _ hb;rw[h1];cases h2;cases hw;rfl
   ·rename_i hb;obtain⟨u,h1,h2⟩:=get _ hb;rw[h1];cases hw;cases h2 with
    |tup _ vs hl hr=>
    have:vs=[]:=by cases vs with
     |nil=>rfl
     |cons x l=>simp at hl
    subst this;rfl
   ·cases hw
  ·cases hw
end
def p7(P:Program)(f:FuncId)(args:List AV)(H:ac)(v:AV)(H':ac):Prop:=
 ∀(w:World) (σ:bD) (vs:List Value),bu w σ H→eH w σ (aK σ H) args vs→Calls P f vs.toArray w λe w'=>
  ∃v' σ',e=.returned v'∧bb w' σ' (aK σ' H') v v'∧bu w' σ' H'∧eI w σ (aK σ H) w' σ' (aK σ' H')∧∀c pl,σ' c=some pl→σ c=some pl∨H.next≤c
structure eC(P:Program)(call:FuncId→List AV→ac→Option (AV×ac)):Prop where
 ok:∀f args H v H',call f args H=some (v,H')→p7 P f args H v H'
 next:∀f args H v H',call f args H=some (v,H')→H.next≤H'.next
 body:∀f args H v H',call f args H=some (v,H')→∃fn c,P.funcs[f]? =some fn∧fn.body=some c
def tE(w:World)(σ:bD)(H:ac)(τ':List AV)(H':ac)(a':Act)(w':World):Prop:=
 ∃σ',cD w' σ' (aK σ' H') τ' a'∧bu w' σ' H'∧eI w σ (aK σ H) w' σ' (aK σ' H')∧∀c pl,σ' c=some pl→σ c=some pl∨H.next≤c
section
variable {P:Program} {F:TypeId→Option (List TypeId)} {call:FuncId→List AV→ac→Option (AV×ac)} {ops:Array Oper} {base:Nat} {Q:Exit→Act→World→Prop}
theorem D9{o:Op}{ρ:Operand→AV}{b:Nat}{H H':ac}{v:AV}(h:aM P F o ρ b H=some (.val v H')):H'.next=H.next:=by
 cases o with
 |store t a x=>
  simp only[aM]at h;cases hs:gl P H t (ρ a) (ρ x)with
  |none=>rw[hs]at h;cases h
  |some K=>
   rw[hs]at h;cases h;unfold gl at hs
   repeat' (first|(cases hs;rfl)|(cases hs;done)|split at hs)
 |call c=>
  simp only[aM]at h;split at h
  ·rename_i bi _;cases hbi:aX P H b bi c.argTypes (c.args.toList.map ρ)with
   |none=>rw[hbi]at h;cases h
   |some r=>
    obtain⟨v0,K⟩:=r;rw[hbi]at h;cases h;unfold aX at hbi;split at hbi
    ·repeat' (first|(cases hbi;rfl)|(cases hbi;done)|split at hbi)
    ·split at hbi
     ·rw[Zz]at hbi;obtain⟨n,_,hn⟩:=hbi;cases hn;rfl
     ·cases hbi;rfl
     ·cases hbi
    ·split at hbi
     ·split at hbi
      ·unfold cS at hbi
       repeat' (first|(cases hbi;rfl)|(cases hbi;done)|split at hbi)
      ·cases hbi
     ·cases hbi
    ·repeat' (first|(cases hbi;rfl)|(cases hbi;done)|split at hbi)
    ·repeat' (first|(cases hbi;rfl)|(cases hbi;done)|split at hbi)
    ·split at hbi
     ·rw[Zz]at hbi;obtain⟨K1,hk,hn⟩:=hbi;cases hn;unfold fo at hk
      repeat' (first|(cases hk;rfl)|(cases hk;done)|split at hk)
     ·cases hbi
    ·cases hbi
  ·split at h<;>cases h
  ·cases h
 |makeFunc fn first cap=>cases fn<;>simp only[aM]at h<;>(try split at h)<;>cases h<;>rfl
 |makeMap t r=>
  cases r with
  |none=>simp only[aM]at h;cases h;rfl
  |some r=>simp[aM]at h
 |mapUpdate t m k x=>
  simp only[aM]at h;cases hs:fa P H t (ρ m) (ρ k) (ρ x)with
  |none=>rw[hs]at h;cases h
  |some K=>rw[hs]at h;cases h;obtain⟨c,y,y',_,_,rfl,_⟩:=nC hs;rfl
 |next it s=>
  cases s with
  |false=>simp[aM]at h
  |true=>
   simp only[aM]at h;cases hs:iT H (ρ it)with
   |none=>rw[hs]at h;cases h
   |some r=>obtain⟨v0,K⟩:=r;rw[hs]at h;cases h;obtain⟨c,y,_,_,⟨rfl,_⟩|⟨y',rfl,_⟩⟩:=xD hs<;>rfl
 |buildSlice t len parts=>
  simp only[aM]at h;split at h
  ·split at h
   ·split at h
    ·rename_i n z _ _ _;cases hf:eb n (List.replicate len z) (parts.toList.map λp=>(p.1,ρ p.2))with
     |none=>rw[hf]at h;cases h
     |some rows=>rw[hf]at h;cases h;rfl
    ·cases h
   ·cases h
  ·cases h
 |_=>
  simp only[aM]at h
  first
   |(obtain⟨_,rfl⟩:=fG h;rfl)
   |(repeat' (first|(cases h;rfl)|(cases h;done)|(obtain⟨_,rfl⟩:=fG h;rfl)|split at h))
theorem nD(hc:eC P call){i:Nat}{τ τ':List AV}{H H':ac}(h:kK P F call ops base i τ H=some (τ',H')):H.next≤H'.next:=by
 unfold kK at h;split at h
 ·cases h
 ·split at h
  ·split at h
   ·rename_i hop;cases h;rw[D9 hop];exact X7 _
   ·split at h
    ·rename_i hcall;cases h;exact hc.next _ _ _ _ _ hcall
    ·cases h
   ·cases h
  ·cases h;exact X7 _
  ·cases h
theorem Jv(fit:Fit P F)(hc:eC P call){i:Nat}{τ τ':List AV}{H H':ac}{w:World}{σ:bD}{a:Act}(h:kK P F call ops base i τ H=some (τ',H'))(hW:bu w σ H)(hτ:cD w σ (aK σ H) τ a)
  (hb:σ (base+i)=none) (hlt:base+i<H.next) {K:Act→World→Prop}
  (hK:∀a' w' σ',cD w' σ' (aK σ' H') τ' a'→bu w' σ' H'→eI w σ (aK σ H) w' σ' (aK σ' H')→(∀c pl,σ' c=some pl→σ c=some pl∨c=base+i∨H.next≤c)→K a' w'):wpOp P ops Q i K a w:=by
 unfold kK at h;split at h
 ·cases h
 ·rename_i o ho;unfold wpOp;rw[ho];simp only[];split at h
  ·rename_i hwant;rw[if_pos (jj hτ hwant)];left;unfold Oper.wp;split at h
   ·rename_i v K' hop;cases h;obtain⟨v',w',σ',h1,h2,h3,h4,h5⟩:=G5 fit hW hb hlt (o:=o) (hτ.eval hW.glob) hop;have hk:=hK (a.put o.dst v') w' σ' ((hτ.mono h4).put o.dst h2) h3 h4 (λc pl hcp=>by
     rcases h5 c pl hcp with h6|h6
     ·exact .inl h6
     ·exact .inr (.inl h6))
    rcases h1 with h1|⟨h1,rfl⟩
    ·rw[h1];exact hk
    ·rw[h1];exact hk
   ·rename_i f args hop;split at h
    ·rename_i v K' hcall;cases h;obtain⟨fn,c,hf,hbd⟩:=hc.body _ _ _ _ _ hcall;obtain⟨vs,h1,h2⟩:=Ju fit (o:=o) (b:=base+i) (hτ.eval hW.glob) hop hf hbd;rw[h1];refine(hc.ok _ _ _ _ _ hcall w σ vs hW h2).mono ?_;rintro e w' ⟨v',σ',rfl,g1,g2,g3,g4⟩;exact hK (a.put o.dst v') w' σ' ((hτ.mono g3).put o.dst g1) g2 g3 (λc pl hcp=>by
      rcases g4 c pl hcp with h6|h6
      ·exact .inl h6
      ·exact .inr (.inr h6))
    ·cases h
   ·cases h
  ·rename_i hwant;rw[if_neg (by rw[jj hτ hwant];simp)];cases h;exact hK _ w σ (hτ.put o.dst mg) hW (eI.refl _ _ _) (λc pl hcp=>.inl hcp)
  ·cases h
theorem G6(hc:eC P call):∀(l:List Nat) (τ:List AV) (H:ac) (τ':List AV) (H':ac),nz P F call ops base l τ H=some (τ',H')→H.next≤H'.next
 |[],τ,H,τ',H',h=>by cases h;exact X7 _
 | i::l,τ,H,τ',H',h=>by
  unfold nz at h;split at h
  ·rename_i τ1 H1 hs;exact Yn (nD hc hs) (G6 hc l _ _ _ _ h)
  ·cases h
theorem Ea(fit:Fit P F)(hc:eC P call):∀(l:List Nat) (τ:List AV) (H:ac) (τ':List AV) (H':ac),nz P F call ops base l τ H=some (τ',H')→l.Nodup→∀(w:World) (σ:bD) (a:Act),
  bu w σ H→cD w σ (aK σ H) τ a→(∀i∈l,σ (base+i)=none∧base+i<H.next)→(∀a' w' σ',cD w' σ' (aK σ' H') τ' a'→bu w' σ' H'→eI w σ (aK σ H) w' σ' (aK σ' H')→
   (∀c pl,σ' c=some pl→σ c=some pl∨(∃i∈l,c=base+i)∨H.next≤c)→Q .normal a' w')→wpOps P ops Q l a w
 | [],τ,H,τ',H',h,_,w,σ,a,hW,hτ,_,hQ=>by cases h;exact hQ a w σ hτ hW (eI.refl _ _ _) (λc pl hcp=>.inl hcp)
 | i::l,τ,H,τ',H',h,hnd,w,σ,a,hW,hτ,hfr,hQ=>by
  unfold nz at h;split at h
  ·rename_i τ1 H1 hs;rw[wpOps_cons];refine Jv fit hc hs hW hτ (hfr i ZM).1 (hfr i ZM).2 λa1 w1 σ1 t1 r1 e1 n1=>?_
   have hnd':=Yj.1 hnd;refine Ea fit hc l τ1 H1 τ' H' h hnd'.2 w1 σ1 a1 r1 t1 (λj hj=>?_) (λa' w' σ' t2 r2 e2 n2=>hQ a' w' σ' t2 r2 (e1.trans e2) (λc pl hcp=>?_))
   ·have hji:j≠i:=by rintro rfl;exact hnd'.1 hj
    have hj0:=hfr j (by simp[hj]);refine⟨?_,Yw hj0.2 (nD hc hs)⟩;cases hs1:σ1 (base+j)with
    |none=>rfl
    |some pl=>
     rcases n1 _ pl hs1 with h1|h1|h1
     ·rw[hj0.1]at h1;cases h1
     ·omega
     ·omega
   ·rcases n2 c pl hcp with h1|⟨q,hq,rfl⟩|h1
    ·rcases n1 c pl h1 with h2|h2|h2
     ·exact .inl h2
     ·exact .inr (.inl ⟨i,ZM,h2⟩)
     ·exact .inr (.inr h2)
    ·exact .inr (.inl ⟨q,by simp[hq],rfl⟩)
    ·exact .inr (.inr (Yn (nD hc hs) h1))
  ·cases h
def Jw:Ex→Exit
 |.normal=>.normal
 |.exit id=>.exit id
 |.ret=>.ret
def cK(P:Program)(c:Code)(τ:List AV)(H:ac)(e:Ex)(τ':List AV)(H':ac):Prop:=
 H.next≤H'.next∧∀(w:World) (σ:bD) (a:Act),bu w σ H→cD w σ (aK σ H) τ a→∀Q:Exit→Act→World→Prop,(∀a' w',tE w σ H τ' H' a' w'→Q (Jw e) a' w')→c.wp P Q a w
theorem tE.refl{w:World}{σ:bD}{H:ac}{τ:List AV}{a:Act}(hW:bu w σ H)(hτ:cD w σ (aK σ H) τ a):tE w σ H τ H a w:=⟨σ,hτ,hW,eI.refl _ _ _,λc pl h=>.inl h⟩
theorem gp(fit:Fit P F)(hc:eC P call){τ:List AV}{H:ac}{τ':List AV}{H':ac}{id:Nat}(h:dG P F call ops false τ H=some (τ',H')):cK P (.region id ops false) τ H .normal τ' H':=by
 simp only[dG,YB,if_false]at h;refine⟨Yn (YI _ _) (G6 hc _ _ _ _ _ h),λw σ a hW hτ Q hQ=>?_⟩;have hW1:bu w σ {H with next:=H.next+ops.size}:=hW.congr (λ_=>rfl) (YI _ _);have ho:aK σ {H with next:=H.next+ops.size}=aK σ H:=aK.congr λ_=>rfl
 refine wp_region (Ea fit hc _ τ _ τ' H' h List.nodup_range w σ a hW1 (by rw[ho];exact hτ) (λi hi=>?_) (λa' w' σ' t r e n=>hQ a' w' ⟨σ',t,r,by rw[ho]at e;exact e,λc pl hcp=>?_⟩))
 ·rw[Y3]at hi;refine⟨?_,Nat.add_lt_add_left hi _⟩;cases hs:σ (H.next+i)with
  |none=>rfl
  |some pl=>have:=hW.named _ pl hs;omega
 ·rcases n c pl hcp with h1|⟨i,_,rfl⟩|h1
  ·exact .inl h1
  ·exact .inr (YI _ _)
  ·exact .inr (Yn (YI _ _) h1)
theorem tE.trans{w w1 w2:World}{σ σ1:bD}{H H1 H2:ac}{τ2:List AV}{a2:Act}(e:eI w σ (aK σ H) w1 σ1 (aK σ1 H1))(n:∀c pl,σ1 c=some pl→σ c=some pl∨H.next≤c)(hn:H.next≤H1.next)(h:tE w1 σ1 H1 τ2 H2 a2 w2):tE w σ H τ2 H2 a2 w2:=by
 obtain⟨σ2,t,r,e2,n2⟩:=h;refine⟨σ2,t,r,e.trans e2,λc pl hc=>?_⟩;rcases n2 c pl hc with h1|h1
 ·exact n c pl h1
 ·exact .inr (Yn hn h1)
def mh(tmps:Array Value):ResultVar→Sem Value
 |.tmp t=>Pure.pure (tmps.getD t undef)
 |.cell a t=>do loadVar t (←asAddr (tmps.getD a undef))
theorem Ln(fn:Func)(tmps:Array Value):results fn tmps=(do let vs←fn.results.mapM (mh tmps);Pure.pure (if h:vs.size=1 then vs[0]else .tuple vs)):=by unfold results;congr 2
theorem HU{w:World}{σ:bD}{H:ac}(hW:bu w σ H){τ:List AV}{a:Act}(hτ:cD w σ (aK σ H) τ a)(r:ResultVar){v:AV}(h:kL P τ H r=some v):
  ∃v',(mh a.tmps r).run P w=.ok v' w∧bb w σ (aK σ H) v v':=by
 cases r with
 |tmp t=>cases h;exact⟨_,rfl,hτ.eval hW.glob (.tmp t)⟩
 |cell x t=>
  simp only[kL]at h;have hx:=hτ.eval hW.glob (.tmp x);simp only[kC,Act.eval]at hx;obtain⟨v',h1,h2⟩:=D4 hW hx h;refine⟨v',?_,h2⟩;unfold oA at h;split at h
  ·rename_i heq;rw[heq]at hx;simp only[mh];generalize a.tmps.getD x undef=u at hx h1;cases hx;simpa[Instr.loadAt,Instr.sureAddr,asAddr]using h1
  ·rename_i heq;rw[heq]at hx;simp only[mh];generalize a.tmps.getD x undef=u at hx h1;cases hx;simpa[Instr.loadAt,Instr.sureAddr,asAddr]using h1
  ·cases h
theorem resultList{w:World}{σ:bD}{H:ac}(hW:bu w σ H){τ:List AV}{a:Act}(hτ:cD w σ (aK σ H) τ a):∀(rs:List ResultVar) (vs:List AV),cu (rs.map (kL P τ H))=some vs→
  ∃us:List Value,(rs.mapM (mh a.tmps)).run P w=.ok us w∧eH w σ (aK σ H) vs us
 |[],vs,h=>by cases h;exact⟨[],rfl,rfl,ZM⟩
 | r::rs,vs,h=>by
  simp only[Yb]at h;cases hr:kL P τ H r with
  |none=>rw[hr]at h;cases h
  |some v=>
   rw[hr]at h;simp only[cu]at h;split at h
   ·rename_i l hl;cases h;obtain⟨v',h1,h2⟩:=HU hW hτ r hr;obtain⟨us,h3,h4⟩:=resultList hW hτ rs l hl;refine⟨v'::us,?_,by simp[h4.1],λi x u g1 g2=>?_⟩
    ·rw[List.mapM_cons];simp only[YE,h1,Yk,h3,YS]
    ·match i with
     |0=>cases g1;cases g2;exact h2
     |i+1=>exact h4.2 i x u (by simpa using g1) (by simpa using g2)
   ·cases h
theorem tF{w:World}{σ:bD}{H:ac}(hW:bu w σ H){τ:List AV}{a:Act}(hτ:cD w σ (aK σ H) τ a){fn:Func}{v:AV}(h:mc P τ H fn.results.toList=some v):
  ∃v',(results fn a.tmps).run P w=.ok v' w∧bb w σ (aK σ H) v v':=by
 unfold mc at h;rw[Ln,Array.mapM_eq_mapM_toList];split at h
 ·rename_i v0 hv;cases h;obtain⟨us,h1,h2⟩:=resultList hW hτ _ _ hv;have hl:=h2.1
  match us,hl with
  |[u],_=>exact⟨u,by simp[h1],h2.2 0 _ u rfl rfl⟩
 ·rename_i vs hne hv;cases h;obtain⟨us,h1,h2⟩:=resultList hW hτ _ _ hv;have hl:us.length≠1:=by
   rw[←h2.1];intro h
   match vs,h with
   |[x],_=>exact hne x rfl
  exact⟨.tuple us.toArray,by simp[h1,hl],.tup _ _ h2.1 h2.2⟩
 ·cases h
theorem xE{ex:Code→List AV→ac→Option (Ex×List AV×ac)}{Good:Code→Prop}(hgood:∀(g:Nat) (fn:Func) (c:Code),P.funcs[g]? =some fn→fn.body=some c→Good c)
  (h:∀c τ H e τ' H',Good c→ex c τ H=some (e,τ',H')→cK P c τ H e τ' H'):eC P (pW P ex):=by
 have key:∀f args H v H',pW P ex f args H=some (v,H')→∃fn c e τ' K,P.funcs[f]? =some fn∧fn.body=some c∧ex c (args++List.replicate (fn.ntmps-args.length) bL) {H with log:=[]}=some (e,τ',K)∧
   (e=.normal∨e=.ret)∧mc P τ' K fn.results.toList=some v∧H'.next=K.next∧∀b,H'.get b=K.get b:=by
  intro f args H v H' hc;unfold pW at hc;split at hc
  ·rename_i fn hf;split at hc
   ·rename_i c hb;split at hc
    ·cases hc
    ·rename_i e τ' K hne hex;split at hc
     ·rename_i v0 hr;cases hc;refine⟨fn,c,e,τ',K,hf,hb,hex,?_,hr,rfl,λ_=>rfl⟩;cases e with
      |normal=>exact .inl rfl
      |ret=>exact .inr rfl
      |exit id=>exact absurd rfl (hne id)
     ·cases hc
    ·cases hc
   ·cases hc
  ·cases hc
 refine⟨λf args H v H' hc=>?_,λf args H v H' hc=>?_,λf args H v H' hc=>?_⟩
 ·obtain⟨fn,c,e,τ',K,hf,hb,hex,he,hr,hn,hg⟩:=key f args H v H' hc;obtain⟨n1,k1⟩:=h _ _ _ _ _ _ (hgood _ _ _ hf hb) hex;intro w σ vs hW hvs;have ho:aK σ {H with log:=[]}=aK σ H:=aK.congr λ_=>rfl
  refine calls_of_wp hf hb (k1 w σ _ (hW.congr (λ_=>rfl) (X7 _)) ⟨?_,rfl⟩ _ λa' w' haf=>?_)
  ·rw[ho];refine⟨by simp[hvs.1],λi x u h1 h2=>?_⟩;simp only[Array.toList_append,Array.toList_replicate]at h2;rcases X9 i args.length with hi|hi
   ·rw[Yp hi]at h1;rw[Yp (by rw[←hvs.1];exact hi)]at h2;exact hvs.2 i x u h1 h2
   ·rw[Yh hi,Zm]at h1;rw[Yh (by rw[←hvs.1];exact hi),Zm]at h2;split at h1
    ·split at h2
     ·cases h1;cases h2;exact mg
     ·cases h2
    ·cases h1
  ·obtain⟨σ',t1,r1,e1,m1⟩:=haf;obtain⟨v',g1,g2⟩:=tF (P:=P) r1 t1 hr;have hoK:aK σ' H'=aK σ' K:=aK.congr hg;have hpost:a'.defers=[]∧∃v,(results fn a'.tmps).run P w'=.ok v w'∧∃v' σ',Ending.returned v=.returned v'∧bb w' σ' (aK σ' H') _ v'∧bu w' σ' H'∧eI w σ (aK σ H) w' σ' (aK σ' H')∧∀c pl,σ' c=some pl→σ c=some pl∨H.next≤c:=
    ⟨t1.2,v',g1,v',σ',rfl,by rw[hoK];exact g2,r1.congr hg (by rw[hn];exact X7 _),by rw[hoK];rw[ho]at e1;exact e1,m1⟩
   rcases he with rfl|rfl
   ·exact hpost
   ·exact hpost
 ·obtain⟨fn,c,e,τ',K,hf,hb,hex,he,hr,hn,hg⟩:=key f args H v H' hc;rw[hn];exact(h _ _ _ _ _ _ (hgood _ _ _ hf hb) hex).1
 ·obtain⟨fn,c,e,τ',K,hf,hb,_⟩:=key f args H v H' hc;exact⟨fn,c,hf,hb⟩
end
end
section
def Bd(H:ac):Prop:=∀b,H.next≤b→H.get b=none
structure Cf(H H':ac):Prop where
 next:H.next≤H'.next
 dom:∀b,b<H.next→H.get b=none→H'.get b=none
 keep:∀b,b<H.next→b∉H'.log→H'.get b=H.get b
 log:∀b,b∈H.log→b∈H'.log
 bd:Bd H→Bd H'
theorem Cf.refl(H:ac):Cf H H:=⟨X7 _,λ_ _ h=>h,λ_ _ _=>rfl,λ_ h=>h,λh=>h⟩
theorem Cf.trans{H H' H'':ac}(h:Cf H H')(k:Cf H' H''):Cf H H'':=
  ⟨Yn h.next k.next,λb hb h0=>k.dom b (Yw hb h.next) (h.dom b hb h0),
   λb hb hl=>(k.keep b (Yw hb h.next) hl).trans (h.keep b hb (λh1=>hl (k.log b h1))),λb hb=>k.log b (h.log b hb),λhb=>k.bd (h.bd hb)⟩
section
variable {P:Program} {F:TypeId→Option (List TypeId)}
structure Eb(o:Op)(ρ:Operand→AV)(b:Nat)(H H':ac):Prop where
 next:H'.next=H.next
 keep:∀c,c≠b→c∉aD o ρ→H'.get c=H.get c
 keepL:∀c,c≠b→c∉H'.log→H'.get c=H.get c
 dom:∀c,c≠b→H.get c=none→H'.get c=none
 log:∀c,c∈H.log→c∈H'.log
theorem Eb.same(o:Op)(ρ:Operand→AV)(b:Nat)(H:ac):Eb o ρ b H H:=⟨rfl,λ_ _ _=>rfl,λ_ _ _=>rfl,λ_ _ h=>h,λ_ h=>h⟩
theorem Eb.new(o:Op)(ρ:Operand→AV)(b:Nat)(H:ac)(x:Blk):Eb o ρ b H (H.new b x):=
 ⟨rfl,λc hc _=>by rw[ac.get_new,if_neg (λe=>hc e.symm)],λc hc _=>by rw[ac.get_new,if_neg (λe=>hc e.symm)],λc hc h=>by rw[ac.get_new,if_neg (λe=>hc e.symm)];exact h,λ_ h=>h⟩
theorem Eb.put{o:Op}{ρ:Operand→AV}{b c:Nat}{H:ac}{y:Blk}(y':Blk)(hy:H.get c=some y)(hw:c∈aD o ρ):Eb o ρ b H (H.put c (some y')):=by
 refine⟨rfl,λd hd hn=>?_,λd hd hl=>?_,λd hd h0=>?_,λd hl=>Y4 _ hl⟩
 ·rw[ac.get_put,if_neg (by rintro rfl;exact hn hw)]
 ·rw[ac.get_put,if_neg (by rintro rfl;exact hl (by simp[ac.put]))]
 ·rw[ac.get_put];split
  ·rename_i e;subst e;rw[hy]at h0;cases h0
  ·exact h0
theorem HV{o:Op}{ρ:Operand→AV}{b:Nat}{H H':ac}{v:AV}(h:aM P F o ρ b H=some (.val v H')):Eb o ρ b H H':=by
 cases o with
 |store t a x=>
  simp only[aM]at h;cases hs:gl P H t (ρ a) (ρ x)with
  |none=>rw[hs]at h;cases h
  |some K=>
   rw[hs]at h;cases h;unfold gl at hs;split at hs
   ·rename_i c i off cs n ha hcs hn;split at hs
    ·rename_i y hy;split at hs
     ·rename_i r hr;split at hs
      ·cases hs;have hw:aD (.store t a x) ρ=[c]:=by simp[aD,ha,aa]
       refine⟨rfl,λd hd hn=>?_,λd hd hl=>?_,λd hd h0=>?_,λd hl=>Y4 _ hl⟩
       ·rw[ac.get_put,if_neg (by rintro rfl;exact hn (by rw[hw];simp))]
       ·rw[ac.get_put,if_neg (by rintro rfl;exact hl (by simp[ac.put]))]
       ·rw[ac.get_put];split
        ·rename_i e;subst e;rw[hy]at h0;cases h0
        ·exact h0
      ·cases hs
     ·cases hs
    ·cases hs
   ·cases hs
 |call c=>
  simp only[aM]at h;split at h
  ·rename_i bi hcal;cases hbi:aX P H b bi c.argTypes (c.args.toList.map ρ)with
   |none=>rw[hbi]at h;cases h
   |some r=>
    obtain⟨v0,K⟩:=r;rw[hbi]at h;cases h;unfold aX at hbi;split at hbi
    ·split at hbi
     ·cases hbi;exact .same _ _ _ _
     ·cases hbi
    ·split at hbi
     ·rw[Zz]at hbi;obtain⟨n,_,hn⟩:=hbi;cases hn;exact .same _ _ _ _
     ·cases hbi;exact .same _ _ _ _
     ·cases hbi
    ·rename_i s x heq;split at hbi
     ·split at hbi
      ·obtain⟨a0,a1,hargs,h0,h1⟩:=rr heq;unfold cS at hbi;split at hbi
       ·split at hbi
        ·split at hbi
         ·rename_i l m hl hm;split at hbi
          ·split at hbi
           ·split at hbi
            ·cases hbi;exact .same _ _ _ _
            ·cases hbi;exact .new _ _ _ _ _
           ·split at hbi
            ·cases hbi;exact .same _ _ _ _
            ·cases hbi;exact .new _ _ _ _ _
           ·rename_i b' i k;cases hbi;have hw:aD (.call c) ρ=[b']:=by simp[aD,hcal,hargs,h0,aa]
            refine⟨rfl,λd hd hn=>?_,λd hd hl=>?_,λd hd h0=>?_,λd hl=>Y4 _ hl⟩
            ·rw[ac.get_new,if_neg (λe=>hd e.symm),ac.get_put,if_neg (by rintro rfl;exact hn (by rw[hw];simp))]
            ·rw[ac.get_new,if_neg (λe=>hd e.symm),ac.get_put,if_neg (by rintro rfl;exact hl (by simp[ac.put,ac.new]))]
            ·rw[ac.get_new,if_neg (λe=>hd e.symm),ac.get_put];split
             ·rfl
             ·exact h0
           ·cases hbi
          ·cases hbi
         ·cases hbi
        ·cases hbi
       ·cases hbi
      ·cases hbi
     ·cases hbi
    ·split at hbi
     ·cases hbi;exact .same _ _ _ _
     ·cases hbi
    ·split at hbi
     ·cases hbi;exact .same _ _ _ _
     ·cases hbi
    ·rename_i x heq;split at hbi
     ·rename_i t htt;cases hcl:fo P H t x with
      |none=>rw[hcl]at hbi;cases hbi
      |some K1=>
       rw[hcl]at hbi;cases hbi;obtain⟨a0,hargs,h0⟩:=rq heq;unfold fo at hcl;split at hcl
       ·split at hcl
        ·split at hcl
         ·cases hcl;exact .same _ _ _ _
         ·rename_i d i k;split at hcl
          ·rename_i y hy;split at hcl
           ·cases hcl;have hw:aD (.call c) ρ=[d]:=by simp[aD,hcal,hargs,h0,aa]
            refine⟨rfl,λd' hd hn=>?_,λd' hd hl=>?_,λd' hd h0=>?_,λd' hl=>Y4 _ hl⟩
            ·rw[ac.get_put,if_neg (by rintro rfl;exact hn (by rw[hw];simp))]
            ·rw[ac.get_put,if_neg (by rintro rfl;exact hl (by simp[ac.put]))]
            ·rw[ac.get_put];split
             ·rename_i e;subst e;rw[hy]at h0;cases h0
             ·exact h0
           ·cases hcl
          ·cases hcl
         ·cases hcl
        ·cases hcl
       ·cases hcl
     ·cases hbi
    ·cases hbi
  ·split at h<;>cases h
  ·cases h
 |makeFunc fn first cap=>cases fn<;>simp only[aM]at h<;>(try split at h)<;>cases h<;>exact .same _ _ _ _
 |makeMap t r=>
  cases r with
  |none=>simp only[aM]at h;cases h;exact .new _ _ _ _ _
  |some r=>simp[aM]at h
 |mapUpdate t m k x=>
  simp only[aM]at h;cases hs:fa P H t (ρ m) (ρ k) (ρ x)with
  |none=>rw[hs]at h;cases h
  |some K=>rw[hs]at h;cases h;obtain⟨c,y,y',hm,hy,rfl,_⟩:=nC hs;exact .put _ hy (by simp[aD,hm,aa])
 |next it s=>
  cases s with
  |false=>simp[aM]at h
  |true=>
   simp only[aM]at h;cases hs:iT H (ρ it)with
   |none=>rw[hs]at h;cases h
   |some r=>
    obtain⟨v0,K⟩:=r;rw[hs]at h;cases h;obtain⟨c,y,hm,hy,⟨rfl,_⟩|⟨y',rfl,_⟩⟩:=xD hs
    ·exact .same _ _ _ _
    ·exact .put _ hy (by simp[aD,hm,aa])
 |buildSlice t len parts=>
  simp only[aM]at h;split at h
  ·split at h
   ·split at h
    ·rename_i n z _ _ _;cases hf:eb n (List.replicate len z) (parts.toList.map λp=>(p.1,ρ p.2))with
     |none=>rw[hf]at h;cases h
     |some rows=>rw[hf]at h;cases h;exact .new _ _ _ _ _
    ·cases h
   ·cases h
  ·cases h
 |_=>
  simp only[aM]at h
  first
   |(obtain⟨_,rfl⟩:=fG h;exact .same _ _ _ _)
   |(repeat' (first|(cases h;exact .same _ _ _ _)|(cases h;exact .new _ _ _ _ _)|(cases h;done)|(obtain⟨_,rfl⟩:=fG h;exact .same _ _ _ _)|split at h))
theorem fY(base mask:Nat):∀(k:Nat) (H:ac),(dB base mask k H).next=H.next∧(dB base mask k H).log=H.log
 |0,H=>⟨rfl,rfl⟩
 | k+1,H=>by
  unfold dB;split
  ·exact fY base mask k H
  ·exact fY base mask k _
theorem iv(base mask:Nat):∀(k:Nat) (H:ac) (c:Nat),(dB base mask k H).get c=if(∃j,j<k∧mask.testBit j=false∧c=base+j)then none else H.get c
 |0,H,c=>by simp[dB]
 | k+1,H,c=>by
  unfold dB;rw[iv base mask k];by_cases h1:∃j,j<k∧mask.testBit j=false∧c=base+j
  ·obtain⟨j,hj⟩:=h1;rw[if_pos ⟨j,hj⟩,if_pos ⟨j,ZJ,hj.2⟩]
  ·rw[if_neg h1];by_cases hm:mask.testBit k=true
   ·rw[if_pos hm,if_neg];rintro⟨j,hj,hb,hc⟩;by_cases hjk:j=k
    ·subst hjk;rw[hm]at hb;cases hb
    ·exact h1 ⟨j,ZJ,hb,hc⟩
   ·rw[if_neg hm];show(H.tr.set (base+k) none).get c=_;rw[Tr.get_set];by_cases hc:base+k=c
    ·rw[if_pos hc,if_pos ⟨k,ZJ,by simpa using hm,hc.symm⟩]
    ·rw[if_neg hc,if_neg]
     ·rfl
     rintro⟨j,hj,hb,hc'⟩;by_cases hjk:j=k
     ·subst hjk;exact hc hc'.symm
     ·exact h1 ⟨j,ZJ,hb,hc'⟩
theorem gX(base mask:Nat)(H:ac):∀(k:Nat) (K:ac),(iU base mask H k K).next=K.next∧(iU base mask H k K).log=K.log
 |0,K=>⟨rfl,rfl⟩
 | k+1,K=>by
  unfold iU;split
  ·exact gX base mask H k K
  ·exact gX base mask H k _
theorem mi(base mask:Nat)(H:ac):∀(k:Nat) (K:ac) (c:Nat),(iU base mask H k K).get c=if(∃j,j<k∧mask.testBit j=false∧c=base+j)then H.get c else K.get c
 |0,K,c=>by simp[iU]
 | k+1,K,c=>by
  unfold iU;rw[mi base mask H k];by_cases h1:∃j,j<k∧mask.testBit j=false∧c=base+j
  ·obtain⟨j,hj⟩:=h1;rw[if_pos ⟨j,hj⟩,if_pos ⟨j,ZJ,hj.2⟩]
  ·rw[if_neg h1];by_cases hm:mask.testBit k=true
   ·rw[if_pos hm,if_neg];rintro⟨j,hj,hb,hc⟩;by_cases hjk:j=k
    ·subst hjk;rw[hm]at hb;cases hb
    ·exact h1 ⟨j,ZJ,hb,hc⟩
   ·rw[if_neg hm];show(K.tr.set (base+k) (H.tr.get (base+k))).get c=_;rw[Tr.get_set];by_cases hc:base+k=c
    ·rw[if_pos hc,if_pos ⟨k,ZJ,by simpa using hm,hc.symm⟩,←hc];rfl
    ·rw[if_neg hc,if_neg]
     ·rfl
     rintro⟨j,hj,hb,hc'⟩;by_cases hjk:j=k
     ·subst hjk;exact hc hc'.symm
     ·exact h1 ⟨j,ZJ,hb,hc'⟩
structure SU(B:Nat)(W:Nat→Prop)(H H':ac):Prop where
 next:H.next≤H'.next
 dom:∀b,b<B→H.get b=none→H'.get b=none
 keep:∀b,b<B→¬W b→H'.get b=H.get b
 bd:Bd H→Bd H'
theorem SU.refl(B:Nat)(W:Nat→Prop)(H:ac):SU B W H H:=⟨X7 _,λ_ _ h=>h,λ_ _ _=>rfl,λh=>h⟩
theorem SU.trans{B:Nat}{W W':Nat→Prop}{H H' H'':ac}(h:SU B W H H')(k:SU B W' H' H'')(hW:∀b,W b→W' b):SU B W' H H'':=
 ⟨Yn h.next k.next,λb hb h0=>k.dom b hb (h.dom b hb h0),λb hb hn=>(k.keep b hb hn).trans (h.keep b hb (λhw=>hn (hW b hw))),λhb=>k.bd (h.bd hb)⟩
variable {call:FuncId→List AV→ac→Option (AV×ac)} {ops:Array Oper} {base:Nat}
theorem OO{o:Op}{ρ:Operand→AV}{b:Nat}{H H':ac}{v:AV}(h:aM P F o ρ b H=some (.val v H'))(hb:b<H.next)(h0:Bd H):Bd H':=by have hc:=HV h;intro c hcn;rw[hc.next]at hcn;exact hc.dom c ZJ (h0 c hcn)
theorem NA(hc:∀f args H v H',Bd H→call f args H=some (v,H')→Cf H H'){B i:Nat}{τ τ':List AV}{H H':ac}(hbd:Bd H)(hB:B≤base)(hlt:base+i<H.next)(h:kK P F call ops base i τ H=some (τ',H')):SU B (·∈H'.log) H H'∧∀c,c∈H.log→c∈H'.log:=by
 unfold kK at h;split at h
 ·cases h
 ·split at h
  ·split at h
   ·rename_i hop;cases h;have hcg:=HV hop;exact⟨⟨by rw[hcg.next];exact X7 _,λc hcb h0=>hcg.dom c ZJ h0,λc hcb hn=>hcg.keepL c ZJ hn,OO hop hlt⟩,hcg.log⟩
   ·split at h
    ·rename_i hcall;cases h;have hcg:=hc _ _ _ _ _ hbd hcall;exact⟨⟨hcg.next,λc hcb h0=>hcg.dom c ZJ h0,λc hcb hn=>hcg.keep c ZJ hn,hcg.bd⟩,hcg.log⟩
    ·cases h
   ·cases h
  ·cases h;exact⟨.refl _ _ _,λ_ h=>h⟩
  ·cases h
theorem Jx(hc:∀f args H v H',Bd H→call f args H=some (v,H')→Cf H H'){B:Nat}(hB:B≤base):∀(l:List Nat) (τ τ':List AV) (H H':ac),Bd H→(∀i∈l,base+i<H.next)→nz P F call ops base l τ H=some (τ',H')→
  SU B (·∈H'.log) H H'∧∀c,c∈H.log→c∈H'.log
 |[],τ,τ',H,H',_,_,h=>by cases h;exact⟨.refl _ _ _,λ_ h=>h⟩
 | i::l,τ,τ',H,H',hbd,hl,h=>by
  unfold nz at h;split at h
  ·rename_i τ1 H1 hs;obtain⟨h1,l1⟩:=NA hc hbd hB (hl i ZM) hs;obtain⟨h2,l2⟩:=Jx hc hB l _ _ _ _ (h1.bd hbd) (λj hj=>Yw (hl j (by simp[hj])) h1.next) h;exact⟨h1.trans h2 l2,λc hcl=>l2 c (l1 c hcl)⟩
  ·cases h
def touched(r:Option tB)(c:Nat):Prop:=∃x,r=some x∧(c∈x.writes∨c∈x.made∨(x.isCall=true∧x.lo≤c∧c<x.hi))
structure SW(base i:Nat)(H H':ac)(r:Option tB):Prop where
 next:H.next≤H'.next
 log:H'.log=H.log
 keep:Bd H→∀c,¬touched r c→H'.get c=H.get c
 dom:∀c,c<H.next→c≠base+i→H.get c=none→H'.get c=none
 bd:Bd H→Bd H'
 made:∀x,r=some x→(∀c∈x.made,c=base+i)∧(x.isCall=true→x.lo=H.next)
theorem jk(hc:∀f args H v H',Bd H→call f args H=some (v,H')→Cf H H'){i mask:Nat}{τ τ':List AV}{H H':ac}{r:Option tB}(hbd:Bd H)(hlt:base+i<H.next)(h:bH P F call ops base i mask τ H=some (τ',H',r)):SW base i H H' r:=by
 unfold bH at h;split at h
 ·cases h
 ·rename_i o ho;split at h
  ·split at h
   ·rename_i v K hop;cases h;have hcg:=HV hop;refine⟨by show H.next≤K.next;rw[hcg.next];exact X7 _,rfl,λ_ c hn=>?_,λc _ hcb h0=>hcg.dom c hcb h0,λh0 c hcn=>OO hop hlt h0 c hcn,λx hx=>?_⟩
    ·refine hcg.keep c (λe=>hn ⟨_,rfl,.inr (.inl (by simp[e]))⟩) (λhw=>hn ⟨_,rfl,.inl hw⟩)
    ·cases hx;exact⟨ZM,ZM⟩
   ·rename_i f args hop;split at h
    ·rename_i v K hcall;cases h;have hn1:(dB base mask i H).next=H.next:=(fY base mask i H).1
     have hbd1:Bd ({dB base mask i H with log:=[]}:ac):=λd hd=>by
      show(dB base mask i H).get d=none;rw[iv];split
      ·rfl
      ·exact hbd d (by simp only[hn1]at hd;exact hd)
     have hcg:=hc _ _ _ _ _ hbd1 hcall;have hn2:=hcg.next;simp only[hn1]at hn2;refine⟨by show H.next≤(iU base mask H i K).next;rw[(gX base mask H i K).1];exact hn2,rfl,λh0 c hn=>?_,λc hcn hcb h0=>?_,λh0 c hcn=>?_,λx hx=>?_⟩
     ·show(iU base mask H i K).get c=H.get c;rw[mi];split
      ·rfl
      ·rename_i hh;have hg:({dB base mask i H with log:=[]}:ac).get c=H.get c:=by show(dB base mask i H).get c=_;rw[iv,if_neg hh]
       rcases X9 c H.next with hcn|hcn
       ·by_cases hl:c∈K.log
        ·cases hgc:(dB base mask i H).get c with
         |none=>have h1:({dB base mask i H with log:=[]}:ac).get c=none:=hgc;rw[hcg.dom c (by simp only[hn1];exact hcn) h1,←hg,h1]
         |some y=>exact absurd ⟨_,rfl,.inl (Zj.2 ⟨hl,by simp[hgc]⟩)⟩ hn
        ·rw[hcg.keep c (by simp only[hn1];exact hcn) hl];exact hg
       ·rcases X9 c K.next with hck|hck
        ·exact absurd ⟨_,rfl,.inr (.inr ⟨rfl,hcn,hck⟩)⟩ hn
        ·have hbd:Bd ({dB base mask i H with log:=[]}:ac):=λd hd=>by
          show(dB base mask i H).get d=none;rw[iv];split
          ·rfl
          ·exact h0 d (by simp only[hn1]at hd;exact hd)
         rw[hcg.bd hbd c hck,h0 c hcn]
     ·show(iU base mask H i K).get c=none;rw[mi];split
      ·exact h0
      ·rename_i hh;refine hcg.dom c (by simp only[hn1];exact hcn) ?_;show(dB base mask i H).get c=none;rw[iv,if_neg hh];exact h0
     ·show(iU base mask H i K).get c=none;have hcn':K.next≤c:=by
       have:(iU base mask H i K).next≤c:=hcn
       rwa [(gX base mask H i K).1]at this
      rw[mi];split
      ·exact h0 c ZJ
      ·have hbd:Bd ({dB base mask i H with log:=[]}:ac):=λd hd=>by
        show(dB base mask i H).get d=none;rw[iv];split
        ·rfl
        ·exact h0 d (by simp only[hn1]at hd;exact hd)
       exact hcg.bd hbd c hcn'
     ·cases hx;exact⟨ZM,λ_=>rfl⟩
    ·cases h
   ·cases h
  ·cases h;exact⟨X7 _,rfl,λ_ _ _=>rfl,λ_ _ _ h=>h,λh=>h,λx hx=>by cases hx⟩
  ·cases h
theorem Az(hc:∀f args H v H',Bd H→call f args H=some (v,H')→Cf H H'){B:Nat}(hB:B≤base){before:List Nat}:∀(l:List Nat) (τ τ':List AV) (H K:ac) (rs rs':List tB),Bd H→(∀i∈l,base+i<H.next)→B≤H.next→
  eB P F call ops base before l τ H rs=some (τ',K,rs')→H.next≤K.next∧K.log=H.log∧Bd K∧(∀b,b<B→H.get b=none→K.get b=none)∧(∀b,b<B→b∉rs'.flatMap (·.writes)→K.get b=H.get b)∧(∀x∈rs,x∈rs')
 |[],τ,τ',H,K,rs,rs',hbd,_,_,h=>by cases h;exact⟨X7 _,rfl,hbd,λ_ _ h=>h,λ_ _ _=>rfl,λ_ h=>h⟩
 | i::l,τ,τ',H,K,rs,rs',hbd,hl,hBn,h=>by
  unfold eB at h;split at h
  ·rename_i τ1 H1 hs;have d:=jk hc hbd (hl i ZM) hs;obtain⟨a1,a2,a3,a4,a5,a6⟩:=Az hc hB l _ _ _ _ _ _ (d.bd hbd) (λj hj=>Yw (hl j (by simp[hj])) d.next) (Yn hBn d.next) h;refine⟨Yn d.next a1,a2.trans d.log,a3,λb hb h0=>a4 b hb (d.dom b ZJ ZJ h0),λb hb hn=>(a5 b hb hn).trans (d.keep hbd b ?_),a6⟩;rintro⟨x,hx,_⟩;cases hx
  ·rename_i τ1 H1 r hs;split at h
   ·have d:=jk hc hbd (hl i ZM) hs;obtain⟨a1,a2,a3,a4,a5,a6⟩:=Az hc hB l _ _ _ _ _ _ (d.bd hbd) (λj hj=>Yw (hl j (by simp[hj])) d.next) (Yn hBn d.next) h;refine⟨Yn d.next a1,a2.trans d.log,a3,λb hb h0=>a4 b hb (d.dom b ZJ ZJ h0),λb hb hn=>(a5 b hb hn).trans (d.keep hbd b ?_),λx hx=>a6 x (by simp[hx])⟩;rintro⟨x,hx,h1|h1|⟨h1,h2,_⟩⟩
    ·cases hx;exact hn (List.mem_flatMap.2 ⟨r,a6 r ZM,h1⟩)
    ·have:=(d.made x hx).1 b h1;omega
    ·have:=(d.made x hx).2 h1;omega
   ·cases h
  ·cases h
theorem Lo(hc:∀f args H v H',Bd H→call f args H=some (v,H')→Cf H H'){draw:Bool}{τ τ':List AV}{H H':ac}(hbd:Bd H)(h:dG P F call ops draw τ H=some (τ',H')):Cf H H':=by
 have hbd0:Bd {H with next:=H.next+ops.size}:=λb hb=>hbd b (Yn (YI _ _) hb)
 cases draw with
 |false=>simp only[dG,YB,if_false]at h;obtain⟨o,l⟩:=Jx hc (X7 H.next) _ _ _ _ _ hbd0 (λi hi=>by rw[Y3]at hi;exact Nat.add_lt_add_left hi _) h;exact⟨Yn (YI _ _) o.next,o.dom,o.keep,l,λ_=>o.bd hbd0⟩
 |true=>
  simp only[dG,if_true]at h;split at h
  ·rename_i τ1 K rs hd;cases h;obtain⟨a1,a2,a3,a4,a5,_⟩:=Az hc (X7 H.next) _ _ _ _ _ _ _ hbd0 (λi hi=>by rw[Y3]at hi;exact Nat.add_lt_add_left hi _) (YI _ _) hd;refine⟨Yn (YI _ _) a1,a4,λb hb hn=>a5 b hb (λhw=>hn ?_),λb hb=>?_,λ_=>a3⟩
   ·simp only[Yg];exact .inl hw
   ·simp only[Yg];right;rw[a2];exact hb
  ·cases h
theorem Ec{ex:Code→List AV→ac→Option (Ex×List AV×ac)}(h:∀c τ H e τ' H',Bd H→ex c τ H=some (e,τ',H')→Cf H H'){f:FuncId}{args:List AV}{H:ac}{v:AV}{H':ac}(hbd:Bd H)
  (hc:pW P ex f args H=some (v,H')):Cf H H':=by
 unfold pW at hc;split at hc
 ·split at hc
  ·split at hc
   ·cases hc
   ·rename_i e τ' K hne hex;split at hc
    ·cases hc;have hk:=h _ _ {H with log:=[]} _ _ _ hbd hex;refine⟨hk.next,hk.dom,λb hb hn=>hk.keep b hb (λhl=>hn ?_),λb hb=>?_,λ_=>hk.bd hbd⟩
     ·simp only[Yg,Zj,decide_eq_true_eq];exact .inl ⟨hl,hb⟩
     ·simp only[Yg];exact .inr hb
    ·cases hc
   ·cases hc
  ·cases hc
 ·cases hc
end
end
end Go.Proofs.YtdnpdghlggbklaaGreatDoor.Am
