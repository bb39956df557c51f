/- A part of the proof; the statement is proved in the last part. -/
import Derived.Test.YtbofdbhnbodbiaaGreatDoorQva
import Derived.IntWalk
import Derived.Deep.AppendSrc
import Derived.MapKept
import Derived.Carry
import Derived.Lib.OthersKept
import Derived.Laws.RangeString
import Derived.LoopN
set_option linter.all false
set_option maxRecDepth 100000
set_option maxHeartbeats 20000000
namespace Go.Proofs.YtbofdbhnbodbiaaGreatDoor.Am
section
section
variable {P:Program} {w:World} {σ:bE} {T:Nat->Prop} {H:ae} {b:Nat}
theorem mY{n:Nat}{ρ:Operand->AV}{u:Operand->Value}(E:∀x,bn w σ T (ρ x) (u x)):∀(ps:List (Nat×Operand)) (rows r:List (List AV)) (j:Array Value),
  Flat w σ T rows n j.toList->eg n rows (ps.map λp=>(p.1,ρ p.2))=some r->
  ∃N:Array Value,Instr.fill (λi=>some (i*n,n)) j (ps.map λp=>(p.1,u p.2))=some N/\Flat w σ T r n N.toList/\r.length=rows.length
 |[],rows,r,j,hc,h=>by cases h;exact⟨j,rfl,hc,rfl⟩
 | (i,x)::ps,rows,r,j,hc,h=>by
  simp only[Sx,eg]at h;split at h
  .rename_i cs O;split at h
   .rename_i Y;obtain⟨M,G,_⟩:=Y;have S:=(E x).cells O;have e1:(u x).cells.size=n:=by rw[<-SU,<-S.1,M]
    have e2:j.size=rows.length*n:=by rw[<-SU,hc.len]
    have Z:i*n+n<=rows.length*n:=by have:(i+1)*n<=rows.length*n:=SR _ G;rw[Tg]at this;omega
    have B:((u x).cells.zipIdx.foldl (λ(cs:Array Value) (p:Value×Nat)=>cs.setIfInBounds (i*n+p.2) p.1) j).toList=j.toList.take (i*n)++(u x).cells.toList++j.toList.drop (i*n+(u x).cells.toList.length):=by have:=tL (u x).cells.toList 0 (i*n) j (by simp;omega);rw[<-Array.foldl_toList,Array.toList_zipIdx];simpa using this
    obtain⟨N,h1,h2,h3⟩:=mY E ps (rows.set i cs) r _ (by rw[B];exact hc.set G M S) h;refine⟨N,?_,h2,by simpa using h3⟩;have D:(decide ((u x).cells.size≠n)||decide (i*n+(u x).cells.size > j.size))=false:=by simp[e1,e2];omega
    simp only[Sx,Instr.fill,D,SO,if_false];exact h1
   .cases h
  .cases h
theorem Fq{x:Blk}{cs:Array Value}{e:TypeId}{k j:Nat}(D:k<=j)(u:j<=maxLen)(B:j*x.size<=cs.size):
  bn (World.push w (.cells cs e (0,0))) (σ.set b ⟨w.heap.size,0,x.size⟩) (aQ (σ.set b ⟨w.heap.size,0,x.size⟩) (H.new b x)) (.sl b 0 k) (.slice (some ⟨w.heap.size,0,none⟩) k j):=by
 refine bn.sl b 0 k ⟨w.heap.size,0,x.size⟩ _ j (bE.set_eq _ _ _) (.inl rfl) D u λ_=>⟨Ud,cs,e,?_,by simpa using B⟩
 show(w.heap.push _)[w.heap.size]? =_;simp
theorem vR(hW:bv w σ H)(hb:σ b=none)(hlt:b<H.next){t e:TypeId}{len n:Nat}{ps:Array (Nat×Operand)}{ρ:Operand->AV}{j:Operand->Value}(N:∀x,bn w σ (aQ σ H) (ρ x) (j x))
  {z:List AV} {rows:List (List AV)} (hu:P.underlying t=some (.slice e)) (hn:aP P e=some n) (D:(dU P e).bind AV.cells? =some z) (S:z.length=n) (h0:0<n) (hl:len*n<=2^24)
  (h:eg n (List.replicate len z) (ps.toList.map λp=>(p.1,ρ p.2))=some rows) :
  zV P (Instr.buildSlice t len (ps.map λ(i,x)=>(i,j x))) w σ H b (.sl b 0 len) (H.new b ⟨n,rows⟩):=by
 have G:(ps.map λ(i,x)=>(i,j x)).toList=ps.toList.map λp=>(p.1,j p.2):=by simp
 cases B:dU P e with
 |none=>rw[B]at D;cases D
 |some za=>
  rw[B]at D;simp only[Tk]at D;obtain⟨z',Z,Y⟩:=eM (P:=P) (w:=w) (σ:=σ) (T:=aQ σ H) B;have O:=Y.cells D;have hlen:len<=2^24:=SK (Nat.le_mul_of_pos_right len h0) hl;obtain⟨l,e1,e2,e3,_⟩:=Flat.zeros O S h0 len len (Fd _);have hfl:Flat w σ (aQ σ H) (List.replicate len z) n (l.toArray).toList:=by rw[SX Ua]at e3;exact e3
  obtain⟨M,f1,f2,f3⟩:=mY N ps.toList _ rows l.toArray hfl h;have E:M.size=len*n:=by rw[<-SU,f2.len,f3];simp
  have hrl:rows.length=len:=by simpa using f3
  refine xq hW hb hlt (cs:=M) (e:=e) (v':=.slice (some ⟨w.heap.size,0,none⟩) len len) (l:=M.toList) ?_ f2 ?_ ?_
  .simp only[];rw[SX (by rw[SU,E,hrl];exact Fd _)]
  .have hgt:¬len*n > 2^24:=by omega
   simp only[Instr.buildSlice,S4,run_underlying hu,SI,cN hn];rw[if_neg hgt];by_cases u:len*n=0
   .have hl0:len=0:=by
     rcases Nat.mul_eq_zero.1 u with h1|h1
     .exact h1
     .omega
    subst hl0;rw[if_pos u];have:l=[]:=by cases l with
     |nil=>rfl
     |cons a l=>simp at e2
    subst this;simp only[S4,Tj,SI,u,G];have he:(Array.range 0).map (λx=>(#[]:Array Value)[x % (#[]:Array Value).size]!)=([]:List Value).toArray:=by simp
    rw[he,f1];rfl
   .rw[if_neg u];simp only[S4,Z,Tj,SI,G];rw[e1,f1];rfl
  .exact Fq (x:=⟨n,rows⟩) (Fd _) (by unfold maxLen;omega) (by rw[E];exact Fd _)
theorem xr(hW:bv w σ H)(hb:σ b=none)(hlt:b<H.next){t e:TypeId}{n by_ l c:Nat}{x y:AV}{x' y':Value}(hx:bn w σ (aQ σ H) x x')(hy:bn w σ (aQ σ H) y y')
  {z:List AV} (hu:P.underlying t=some (.slice e)) (hn:aP P e=some n) (N:gB P e=some by_) (E:(dU P e).bind AV.cells? =some z) (hl:ky x=some l) (hc:ky y=some c)
  (Y:z.length=n) (h0:0<n) (M:l<=c) (hcm:c<=2^62) (hcb:c*by_<=2^48) :
  zV P (Instr.makeSlice t x' y') w σ H b (.sl b 0 l) (H.new b ⟨n,List.replicate l z⟩):=by
 obtain⟨kl,u,rfl,hl0,rfl⟩:=mW hx hl;obtain⟨kc,j,rfl,hc0,rfl⟩:=mW hy hc;cases B:dU P e with
 |none=>rw[B]at E;cases E
 |some za=>
  rw[B]at E;simp only[Tk]at E;cases hi:P.info? e with
  |none=>simp[gB,hi]at N
  |some i=>
  have hib:i.bytes=by_:=by simpa[gB,hi]using N
  obtain⟨z',hz1,Z⟩:=eM (P:=P) (w:=w) (σ:=σ) (T:=aQ σ H) B;have S:=Z.cells E;obtain⟨l,e1,e2,e3,_⟩:=Flat.zeros S Y h0 u.toNat j.toNat M;have wl:IntKind.i64.wrap u=u:=Te _ Ua;have wc:IntKind.i64.wrap j=j:=Te _ Ua;have O:((decide (j<0)||decide ((i.bytes:Int)*j > 2^48))||decide (u<0)||decide (u > j))=false:=by
   rw[hib];have:((by_:Int)*j)=((j.toNat*by_:Nat):Int):=by rw[Int.natCast_mul,Int.toNat_of_nonneg hc0,Int.mul_comm]
   have h2:((j.toNat*by_:Nat):Int)<=2^48:=by exact_mod_cast hcb
   simp only[Bool.or_eq_false_iff,decide_eq_false_iff_not];refine⟨⟨⟨Ua,by rw[this];omega⟩,Ua⟩,Ua⟩
  refine xq hW hb hlt (x:=⟨n,List.replicate u.toNat z⟩) (cs:=l.toArray) (e:=e) (v':=.slice (some ⟨w.heap.size,0,none⟩) u.toNat j.toNat) (l:=l.take (u.toNat*n)) ?_ e3 ?_ ?_
  .simp
  .simp only[Instr.makeSlice,asInt,asIntOf,S4,run_underlying hu,Tj,SI,rN hi,wl,wc,O,SO,if_false,run_askRoom,cN hn];by_cases D:j.toNat*n=0
   .rw[if_pos D];have G:l=[]:=by cases l with
     |nil=>rfl
     |cons a l=>simp at e2;omega
    subst G;simp only[S4,Tj,SI,D];have he:(Array.range 0).map (λx=>(#[]:Array Value)[x % (#[]:Array Value).size]!)=([]:List Value).toArray:=by simp
    rw[he];rfl
   .rw[if_neg D];simp only[S4,hz1,Tj,SI];rw[e1];rfl
  .exact Fq (x:=⟨n,List.replicate u.toNat z⟩) M (by unfold maxLen;omega) (by simp[e2])
theorem xt{m:List (List AV)}{n c o:Nat}(O:∀(i:Nat) (r:List AV),m[i]? =some r->r.length=n)(hc:∀(i:Nat) (r:List AV),m[i]? =some r->Da w σ T r c (o+i*n)):
  ∃l:List Value,(∀D:World,D.heap=w.heap->(loadCells ⟨c,o,none⟩ (m.length*n)).run P D=.ok l.toArray D)/\Flat w σ T m n l:=by
 have E:∀p,∃u,p<m.length*n->w.cell? ⟨c,o+p,none⟩=some u:=λp=>by
  by_cases hp:p<m.length*n
  .have Z:0<n:=by
    rcases Ts n with S|S
    .subst S;simp at hp
    .exact S
   have hi:p / n<m.length:=by rw[Nat.div_lt_iff_lt_mul Z];exact hp
   have B:m[p / n]? =some m[p / n]:=mt hi;have G:p % n<m[p / n].length:=by rw[O _ _ B];exact Nat.mod_lt _ Z
   obtain⟨u,M,_⟩:=hc _ _ B (p % n) _ (mt G);refine⟨u,λ_=>?_⟩;rw[Tq,Nat.mul_comm,Nat.div_add_mod]at M;exact M
  .exact⟨undef,λh=>absurd h hp⟩
 let f:=λp=>Classical.choose (E p)
 have hf:∀p,p<m.length*n->w.cell? ⟨c,o+p,none⟩=some (f p):=λp=>Classical.choose_spec (E p)
 refine⟨(List.range (m.length*n)).map f,λD N=>run_loadCells D _ _ f (λj G=>by rw[eK];rw[<-hf j G];unfold World.cell?;rw[N]),⟨Ud,O,?_⟩⟩;intro i r j a u B ha Y;have G:j<n:=by rw[<-O i r B];exact aA ha
 have hp:=mX (aA B) G;rw[SJ,T9 hp]at Y;cases Y;obtain⟨u,M,h2⟩:=hc i r B j a ha;rw[Tq,hf _ hp]at M;cases M;exact h2
theorem AW(hW:bv w σ H){n:Nat}{x:AV}{x':Value}{m:List (List AV)}(M:bn w σ (aQ σ H) x x')(h:fI H n x=some m):
  ∃(A:Option Addr) (j:Nat) (l:List Value),x'=.slice A m.length j/\(∀B:World,B.heap=w.heap->(Builtin.firstCells n m.length x').run P B=.ok l.toArray B)/\Flat w σ (aQ σ H) m n l:=by
 unfold fI at h;split at h
 .cases h;cases M;exact⟨none,0,[],rfl,λ_ _=>rfl,Flat.nil n⟩
 .cases h;cases M with
  |emp A=>exact⟨A,0,[],rfl,λB _=>by cases A<;>simp[Builtin.firstCells,loadCells,loadCellsFrom],Flat.nil n⟩
 .rename_i rows;split at h
  .cases h;obtain⟨A,j,rfl,_,_,_⟩:=M.lst_inv;refine⟨A,j,[],rfl,?_,Flat.nil n⟩;intro B _;cases A<;>simp[Builtin.firstCells,loadCells,loadCellsFrom]
  .rename_i r rs;split at h
   .rename_i hr;cases h;obtain⟨A,j,rfl,hn,hm,ha⟩:=M.lst_inv;obtain⟨b,o,sz,rfl,hl,O⟩:=ha Ud;obtain rfl:r.length=sz:=hl.even 0 r rfl;subst hr;obtain⟨l,Y,h2⟩:=xt (P:=P) (o:=o) (c:=b) hl.even (λi q D=>hl.row O D);exact⟨_,j,l,rfl,λB E=>by simp only[Builtin.firstCells];exact Y B E,h2⟩
   .cases h
 .rename_i b' i k;split at h
  .rename_i y hy;split at h
   .rename_i G;obtain⟨N,hik⟩:=G;cases h;obtain⟨Z,a,j,rfl,hs,hn,hm,ha⟩:=M.sl_inv;obtain⟨pl',cs',e',g1,S⟩:=hW.live b' y hy;rw[hs]at g1;cases g1;replace S:=S.1 (M.sl_ok hs);have u:((y.rows.drop i).take k).length=k:=by simp;omega
    rw[u];have get:∀(q:Nat) (r:List AV),((y.rows.drop i).take k)[q]? =some r->y.rows[i+q]? =some r:=λq r D=>by
     have hi:=aA D;rw[u]at hi
     rwa [S5 hi,Ti]at D
    rcases Ts k with hk|hk
    .subst hk;exact⟨_,j,[],rfl,λB _=>by simp[Builtin.firstCells,loadCells,loadCellsFrom],by simpa using Flat.nil n⟩
    .obtain⟨rfl,cs,ty,hc,hr⟩:=ha Ua;obtain⟨l,Y,h2⟩:=xt (P:=P) (w:=w) (σ:=σ) (T:=aQ σ H) (m:=(y.rows.drop i).take k) (n:=n) (c:=Z.block) (o:=Z.base+i*Z.size) (λq r D=>by rw[<-N];exact S.even _ r (get q r D)) (λq r D=>by
      have:=S.row (get q r D);rw[Tg,<-Tq]at this
      rwa [S.size,N]at this ⊢)
     rw[u]at Y;exact⟨_,j,l,rfl,λB E=>by simp only[Builtin.firstCells];exact Y B E,h2⟩
   .cases h
  .cases h
 .cases h
theorem Flat.ones{rows:List (List AV)}{n:Nat}{l:List Value}(h:Flat w σ T rows n l)(G:(rows.all λr=>r.all AV.one)=true):∀u∈l,u.oneCell'=true:=by
 intro u S;obtain⟨p,hp,rfl⟩:=TG S;have B:=h.len;have M:0<n:=by
  rcases Ts n with D|D
  .subst D;rw[Nat.mul_zero]at B;omega
  .exact D
 have O:p / n<rows.length:=by rw[Nat.div_lt_iff_lt_mul M];omega
 have E:rows[p / n]? =some rows[p / n]:=mt O;have N:p % n<rows[p / n].length:=by rw[h.even _ _ E];exact Nat.mod_lt _ M
 have j:=h.rep (p / n) _ (p % n) _ l[p] E (mt N) (by rw[Nat.mul_comm,Nat.div_add_mod];exact mt hp);refine j.one ?_;rw[SM]at G;have:=G _ (Sy O);rw[SM]at this;exact this _ (Sy N)
theorem fX{t tx ty e O:TypeId}{n sLen sCap k E:Nat}{A B:Option Addr}{D:List Value}(ht:P.underlying t=some (.slice e))(G:P.underlying tx=some (.slice O))(M:aP P e=some n)
  (j:sLen+k<=sCap) (N:(Builtin.firstCells n k (.slice B k E)).run P w=.ok D.toArray w) {w':World} (u:(match A with|some a=>storeCells (a.add (sLen*n)) D|none=>Pure.pure ()).run P w=.ok () w') :
  (Builtin.append_ #[t,tx] ty #[.slice A sLen sCap,.slice B k E]).run P w=.ok (.slice A (sLen+k) sCap) w':=by
 cases A with
 |none=>simp only[Tj]at u;cases u;simp[Builtin.append_,run_underlying ht,run_underlying G,cN M,Builtin.lenOf,j,N]
 |some a=>simp only[]at u;simp[Builtin.append_,run_underlying ht,run_underlying G,cN M,Builtin.lenOf,j,N,u]
theorem Di(hW:bv w σ H)(hb:σ b=none)(hlt:b<H.next){t tx ty e':TypeId}{s x v:AV}{s' x':Value}{H':ae}(hx:bn w σ (aQ σ H) x x')(hs:bn w σ (aQ σ H) s s')
  (htx:P.underlying tx=some (.slice e')) (h:cX P H b t s x=some (v,H')):zV P (Builtin.append_ #[t,tx] ty #[s',x']) w σ H b v H':=by
 unfold cX at h;split at h
 .rename_i e hu;split at h
  .rename_i n by_ z hn hby hz;split at h
   .rename_i l m hl hm;split at h
    .rename_i hc;obtain⟨c1,c2,h0,hzn,hone⟩:=hc;cases hi:P.info? e with
     |none=>simp[gB,hi]at hby
     |some i=>
     have hib:i.bytes=by_:=by simpa[gB,hi]using hby
     have hin:i.size=n:=by simpa[aP,hi]using hn
     cases hza:dU P e with
     |none=>rw[hza]at hz;cases hz
     |some za=>
     rw[hza]at hz;simp only[Tk]at hz;obtain⟨z',hz1,hz2⟩:=eM (P:=P) (w:=w) (σ:=σ) (T:=aQ σ H) hza;have hiz:i.zero=some z':=by
      simp only[zeroValue,S4,rN hi,SI]at hz1;split at hz1
      .rename_i q hq;cases hz1;exact hq
      .cases hz1
     have hzr:=hz2.cells hz;obtain⟨A,G,Z,rfl,ho1,ho2⟩:=AW (P:=P) hW hs hl;obtain⟨B,capx,D,rfl,hn1,S⟩:=AW (P:=P) hW hx hm;have grow:∀{K:ae},(hWK:bv w σ K)->(hext:eH w σ (aQ σ H) w σ (aQ σ K))->b<K.next->G<l.length+m.length->
       zV P (Builtin.append_ #[t,tx] ty #[.slice A l.length G,.slice B m.length capx]) w σ H b (.sl b 0 (l.length+m.length)) (K.new b ⟨n,l++m⟩):=by
      intro K hWK hext hltK hcap;have E:=run_append_grow_src (P:=P) w t tx ty e i z' hu hi hiz A l.length G Z (by rw[hin];exact ho1 _ rfl) (.slice B m.length capx) m.length D
       ⟨.inl ⟨e',htx⟩,λ_=>rfl,by rw[hin];exact hn1 w rfl,by rw[hin];exact hn1 _ rfl,by rw[hin];exact S.len,S.ones hone⟩ hcap Ua
       (by rw[hib];have:=SR by_ (nextslicecap_le hcap);omega)
      generalize hgc:grownCap w (l.length+m.length) G e=gc at E;have hgc1:l.length+m.length<=gc/\gc<=maxLen:=by rw[<-hgc];have hcut:grownCap w (l.length+m.length) G e=(l.length+m.length)+w.tape w.drawn (.appendCap (l.length+m.length) G e) % (2^63-(l.length+m.length)):=rfl;rw[hcut];unfold maxLen;have:w.tape w.drawn (.appendCap (l.length+m.length) G e) % (2^63-(l.length+m.length))<2^63-(l.length+m.length):=Nat.mod_lt _ Ua;omega
      have hE:eH w σ (aQ σ H) w.drew σ (aQ σ K):=hext.trans (eH.same σ _ rfl rfl rfl rfl);have hzs:z'.cells.size=n:=by rw[<-SU,<-hzr.1,hzn]
      have Y:Flat w σ (aQ σ H) (l++m) n (Z++D):=ho2.append S;generalize hcs:((Z++D).toArray++Builtin.zeroCells z'.cells (gc-(l.length+m.length)):Array Value)=cs at E;have hcl:cs.size=gc*n:=by rw[<-hcs];have h1:=Y.len;simp only[SD]at h1;simp only[Array.size_append,List.size_toArray,SD,h1,Builtin.zeroCells,Array.size_map,Array.size_range,hzs];rw[<-Tg];congr 1;omega
      have hcget:∀p u,p<(l++m).length*n->cs[p]? =some u->(Z++D)[p]? =some u:=λp u hp hu=>by rw[<-hcs,Array.getElem?_append_left (by simp only[List.size_toArray];rw[Y.len];exact hp)]at hu;simpa using hu
      obtain⟨g1,g2⟩:=(hWK.same (w':=w.drew) rfl rfl rfl rfl).new hb hltK (x:=⟨n,l++m⟩) (cs:=cs) (e:=e) Y.even (by rw[hcl];simp only[SD];exact SR _ hgc1.1) (λi r j a u hr ha hu=>by
       have hj:j<n:=by rw[<-Y.even i r hr];exact aA ha
       exact(Y.rep i r j a u hr ha (hcget _ u (mX (aA hr) hj) hu)).mono hE)
      refine⟨_,_,_,E,?_,g1,hE.trans g2,λc N hc=>?_⟩
      .exact Fq (w:=w.drew) (x:=⟨n,l++m⟩) hgc1.1 hgc1.2 (by rw[hcl];exact Fd _)
      .by_cases hbc:b=c
       .exact .inr hbc.symm
       .rw[bE.set_ne _ _ hbc]at hc;exact .inl hc
     split at h
     ·
      cases hl;simp only[S2]at hs;cases hs;split at h
      .rename_i M;cases h;refine⟨.slice none 0 0,w,σ,?_,.nils,hW,eH.refl _ _ _,λc N hc=>.inl hc⟩;have:=fX (P:=P) (ty:=ty) (A:=none) (sLen:=0) (sCap:=0) (k:=m.length) hu htx hn Ua (hn1 w rfl) (w':=w) rfl;rw[M]at this;simpa[M]using this
      .rename_i M;cases h;have:=grow hW (eH.refl _ _ _) hlt (by simp;omega);simpa using this
     ·
      cases hl;simp only[S2]at hs;cases hs;split at h
      .rename_i M;cases h;refine⟨.slice A 0 0,w,σ,?_,.emp A,hW,eH.refl _ _ _,λc N hc=>.inl hc⟩;have hm':m=[]:=by cases m with
        |nil=>rfl
        |cons x m=>simp at M
       have hnews:D=[]:=by have:=S.len;rw[hm']at this;simpa using this
       have:=fX (P:=P) (ty:=ty) (A:=A) (sLen:=0) (sCap:=0) (k:=m.length) hu htx hn Ua (hn1 w rfl) (w':=w) (by rw[hnews];cases A<;>rfl);rw[M]at this;simpa[M]using this
      .rename_i M;cases h;have:=grow hW (eH.refl _ _ _) hlt (by simp;omega);simpa using this
     .rename_i b' i k;cases h;obtain⟨N,a,cap',heq,hsig,hk,hcm,ha⟩:=hs.sl_inv;simp only[Value.slice.injEq]at heq;obtain⟨rfl,hkl,rfl⟩:=heq;simp only[fI]at hl;split at hl
      .rename_i y hy;split at hl
       .rename_i hcond;obtain⟨hyn,hik⟩:=hcond;cases hl;have hlen:((y.rows.drop i).take k).length=k:=by simp;omega
        obtain⟨pl',ds,e0,q1,q2⟩:=hW.live b' y hy;rw[hsig]at q1;cases q1;have hpk:=hs.sl_ok hsig;replace q2:=q2.1 hpk;have hps:N.size=n:=q2.size.trans hyn;have hget:∀(q:Nat) (r:List AV),((y.rows.drop i).take k)[q]? =some r->q<k/\y.rows[i+q]? =some r:=λq r hq=>by have hi:=aA hq;rw[hlen]at hi;rw[S5 hi,Ti]at hq;exact⟨hi,hq⟩
        have Y:Flat w σ (aQ σ H) ((y.rows.drop i).take k++m) n (Z++D):=ho2.append S;by_cases O:((y.rows.drop i).take k).length+m.length<=G
        ·
         by_cases hc0:G=0
         .subst hc0;have M:m.length=0:=by omega
          have hk0:k=0:=by omega
          have hlk:((y.rows.drop i).take k)=[]:=by rw[hk0];simp
          have hm':m=[]:=by cases m with
           |nil=>rfl
           |cons x m=>simp at M
          have hnews:D=[]:=by have:=S.len;rw[hm']at this;simpa using this
          have E:=fX (P:=P) (ty:=ty) (A:=some a) hu htx hn O (hn1 w rfl) (w':=w) (by rw[hnews];rfl);obtain⟨o1,o2⟩:=hW.over (k:=0) hy hsig hb hlt (kC.refl q2.block) (x':=⟨n,(y.rows.drop i).take k++m⟩) hps.symm Y.even (by rw[hlk,hm'];have:=q2.room;simp;omega) (by rw[hlk,hm'];intro i r j a u hr;simp at hr);refine⟨_,_,_,E,?_,o1,o2,λc N hc=>?_⟩
          .exact bn.sl b 0 _ _ a 0 (bE.set_eq _ _ _) (cq.ok_over hpk _ _) O Ua Ua
          .by_cases hbc:b=c
           .exact .inr hbc.symm
           .rw[bE.set_ne _ _ hbc]at hc;exact .inl hc
         .obtain⟨rfl,cs,ty',hcb,hcr⟩:=ha Ua;rw[q2.block]at hcb;cases hcb;have hnl:D.length=m.length*n:=S.len;have hcap:(k+m.length)*n<=G*n:=SR _ Ua;have hbound:N.base+i*N.size+k*n+D.length<=ds.size:=by rw[hnl,hps];rw[hps,Tg]at hcr;rw[Tg]at hcap;omega
          have hst:=run_storeCells_at (P:=P) N.block (N.base+i*N.size+k*n) e0 D 0 ds w q2.block (by simpa using hbound) (S.ones hone);simp only[T2]at hst;have hw:kC w (w.setRow N.block (ds.toList.take (N.base+i*N.size+k*n)++D++ds.toList.drop (N.base+i*N.size+k*n+D.length)).toArray) N.block ds _ e0:=
           ⟨rfl,rfl,rfl,Ud,q2.block,setRow_heap w _ _ _ _ _ q2.block,by
            simp only[List.size_toArray,SD,ST,TV,SU];rw[Tn Ua];omega,λd hd=>setRow_other w _ d _ hd⟩
          have E:=fX (P:=P) (ty:=ty) (A:=some ⟨N.block,N.base+i*N.size,none⟩) hu htx hn O (hn1 w rfl) (by simp only[eK];rw[hlen];exact hst);have hdl:ds.toList.length=ds.size:=SU;obtain⟨o1,o2⟩:=hW.over (k:=i) hy hsig hb hlt hw (x':=⟨n,(y.rows.drop i).take k++m⟩) hps.symm Y.even (by
           simp only[SD,hlen];rw[Tg];omega) (λq r j a u hr hj hu=>by
           simp only[]at hr hu;have hjn:j<n:=by rw[<-Y.even q r hr];exact aA hj
           rw[List.getElem?_toArray,gE ds.toList D _ _ Ua]at hu;rcases Fn q k with hq|hq
           .rw[SE Ua]at hr;have:=mX hq hjn;rw[if_pos Ua,SY]at hu;refine q2.rep (i+q) r j a u (hget q r hr).2 hj ?_;rw[hyn,<-hu,hps];congr 1;rw[Tg];omega
           .rw[SA Ua,hlen]at hr;have hqm:q-k<m.length:=aA hr;have h1:=mX hqm hjn;have h2:(q-k)*n+k*n=q*n:=by rw[<-Tg,Nat.sub_add_cancel hq]
            rw[if_neg Ua,if_pos Ua]at hu;refine S.rep (q-k) r j a u hr hj ?_;rw[<-hu];congr 1;omega)
          refine⟨_,_,_,E,?_,o1,o2,λc N hc=>?_⟩
          .refine bn.sl b 0 _ _ _ G (bE.set_eq _ _ _) (cq.ok_over hpk _ _) O hcm λ_=>⟨Ud,_,e0,hw.new,?_⟩
           rw[hw.len];simp only[Tm];rw[Tg]at hcr;omega
          .by_cases hbc:b=c
           .exact .inr hbc.symm
           .rw[bE.set_ne _ _ hbc]at hc;exact .inl hc
        ·
         have hsub:∀c x,(H.put b' none).get c=some x->H.get c=some x:=λc x hx=>by
          rw[ae.get_put]at hx;split at hx
          .cases hx
          .exact hx
         exact grow (hW.sub hsub (Fd _)) (eH.sub hsub) hlt Ua
       .cases hl
      .cases hl
     .cases h
    .cases h
   .cases h
  .cases h
 .cases h
theorem Flat.sub{rows:List (List AV)}{n:Nat}{l:List Value}(h:Flat w σ T rows n l):∀(i:Nat) (r:List AV) (j:Nat) (a:AV) (u:Value),rows[i]? =some r->r[j]? =some a->l[i*n+j]? =some u->bn w σ T a u:=h.rep
theorem Dj(hW:bv w σ H){c:Nat}{y:Blk}{D:cq}(hy:H.get c=some y)(hs:σ c=some D)(hpk:D.ok){i:Nat}{rows:List (List AV)}{us:List Value}(hf:Flat w σ (aQ σ H) rows y.size us)(S:i+rows.length<=y.rows.length)(Z:∀u∈us,u.oneCell'=true):
  ∃w',(storeCells ⟨D.block,D.base+i*D.size,none⟩ us).run P w=.ok () w'/\bv w' σ (H.put c (some {y with rows:=y.rows.take i++rows++y.rows.drop (i+rows.length)}))/\eH w σ (aQ σ H) w' σ (aQ σ (H.put c (some {y with rows:=y.rows.take i++rows++y.rows.drop (i+rows.length)}))):=by
 obtain⟨pl',ds,e,g1,E⟩:=hW.live c y hy;rw[hs]at g1;cases g1;replace E:=E.1 hpk;have G:=E.size;have O:=E.room;have hm:(i+rows.length)*y.size<=y.rows.length*y.size:=SR _ S;have N:us.length=rows.length*y.size:=hf.len;rw[Tg]at hm;have hdl:ds.toList.length=ds.size:=SU;have Y:=run_storeCells_at (P:=P) D.block (D.base+i*D.size) e us 0 ds w E.block (by rw[N,G];omega) Z;simp only[T2]at Y;have hw:kC w (w.setRow D.block (ds.toList.take (D.base+i*D.size)++us++ds.toList.drop (D.base+i*D.size+us.length)).toArray) D.block ds _ e:=
  ⟨rfl,rfl,rfl,Ud,E.block,setRow_heap w _ _ _ _ _ E.block,by
   simp only[List.size_toArray,SD,ST,TV,SU];rw[G,Tn Ua];omega,λd hd=>setRow_other w _ d _ hd⟩
 have hlen:(y.rows.take i++rows++y.rows.drop (i+rows.length)).length=y.rows.length:=by simp only[SD,ST,TV];omega
 refine⟨_,Y,hW.put hy hs hw (x':={y with rows:=y.rows.take i++rows++y.rows.drop (i+rows.length)}) G.symm ?_ ?_ ?_⟩
 .intro q s B;simp only[]at B;rw[gE _ _ _ _ S]at B;split at B
  .exact E.even q s B
  .split at B
   .exact hf.even _ s B
   .exact E.even q s B
 .simp only[hlen];exact O
 .intro q s j a u B hj M;simp only[]at B M;rw[gE _ _ _ _ S]at B;rw[List.getElem?_toArray,gE ds.toList us (D.base+i*D.size) _ (by rw[N,G];omega),N,G]at M;by_cases h1:q<i
  .rw[if_pos h1]at B;have hjs:j<y.size:=by rw[<-E.even q s B];exact aA hj
   have:(q+1)*y.size<=i*y.size:=SR _ h1;rw[Tg]at this;rw[if_pos Ua,SY]at M;exact E.rep q s j a u B hj M
  .rw[if_neg h1]at B;have h1':i*y.size<=q*y.size:=SR _ Ua;by_cases h2:q<i+rows.length
   .rw[if_pos h2]at B;have hjs:j<y.size:=by rw[<-hf.even _ s B];exact aA hj
    have:(q+1)*y.size<=(i+rows.length)*y.size:=SR _ h2;rw[Tg,Tg]at this;rw[if_neg Ua,if_pos Ua]at M;refine hf.rep (q-i) s j a u B hj ?_;rw[<-M];congr 1;rw[Nat.sub_mul];omega
   .rw[if_neg h2]at B;have:(i+rows.length)*y.size<=q*y.size:=SR _ Ua;rw[Tg]at this;rw[if_neg Ua,if_neg Ua,SY]at M;exact E.rep q s j a u B hj M
theorem Fs{b:Nat}(hW:bv w σ H){t ty:TypeId}{x:AV}{x':Value}{H':ae}(Z:bn w σ (aQ σ H) x x')(h:fj P H t x=some H'):
  zV P (Builtin.clear_ #[t] ty #[x']) w σ H b (.tup []) H':=by
 unfold fj at h;split at h
 .rename_i e hu;split at h
  .rename_i n z hn Y;split at h
   .cases h;cases Z;exact⟨.tuple #[],w,σ,by simp[Builtin.clear_,run_underlying hu],.tup [] [] rfl Ud,hW,eH.refl _ _ _,λc pl O=>.inl O⟩
   .rename_i c i k;split at h
    .rename_i y hy;split at h
     .rename_i M;obtain⟨⟨q1,q2⟩,⟨q3,q4⟩,q5⟩:=M;cases h;obtain⟨pl,ad,cap,rfl,j,hnc,hmx,ha⟩:=Z.sl_inv;rcases Ts k with rfl|hk
      .have e0:y.rows.take i++List.replicate 0 z++y.rows.drop (i+0)=y.rows:=by simp
       obtain⟨pl',ds,e',g1,B⟩:=hW.live c y hy;rw[j]at g1;cases g1;replace B:=B.1 (Z.sl_ok j);have D:=hW.put hy j (kC.refl B.block) (x':={y with rows:=y.rows.take i++List.replicate 0 z++y.rows.drop (i+0)}) B.size.symm (by simp only[e0];exact B.even) (by simp only[e0];exact B.room) (by simp only[e0];exact B.rep);exact⟨.tuple #[],w,σ,by simp[Builtin.clear_,run_underlying hu],.tup [] [] rfl Ud,D.1,D.2,λc pl O=>.inl O⟩
      .obtain⟨rfl,cs,te,hcs,hroom⟩:=ha Ua;cases E:dU P e with
       |none=>rw[E]at Y;cases Y
       |some z0=>
        rw[E]at Y;obtain⟨S,h1,h2⟩:=eM (P:=P) (w:=w) (σ:=σ) (T:=aQ σ H) E;have hr:=h2.cells Y;obtain⟨l,hl1,hl2,N,hl4⟩:=Flat.zeros (zs:=S.cells) hr q2 q3 k k (Fd _);rw[SX Ua]at N;have hlz:(Builtin.zeroCells S.cells k).toList=l:=by
         have hzs:S.cells.size=n:=by rw[<-SU,<-hr.1,q2]
         have:Builtin.zeroCells S.cells k=l.toArray:=by rw[<-hl1,<-hzs];rfl
         rw[this]
        subst q1;have hfl:Flat w σ (aQ σ H) (List.replicate k z) y.size l:=N;have G:∀u∈l,u.oneCell'=true:=λu hu'=>by obtain⟨a,ha1,ha2⟩:=hl4 u hu';exact ha1.one (SM.1 q5 a ha2)
        obtain⟨w',g1,B,g3⟩:=Dj (P:=P) hW hy j (Z.sl_ok j) hfl (by simpa using q4) G;simp only[List.length_replicate]at B g3;refine⟨.tuple #[],w',σ,?_,.tup [] [] rfl Ud,B,g3,λc pl O=>.inl O⟩;have hk0:k≠0:=by omega
        obtain⟨k',rfl⟩:∃k',k=k'+1:=⟨k-1,Ua⟩;simp[Builtin.clear_,run_underlying hu,h1,hlz,g1]
     .cases h
    .cases h
   .cases h
  .cases h
 .cases h
end
end
section
open Go.RowKit
section
variable {P:Program} {F:TypeId->Option (List TypeId)} {w:World} {σ:bE} {H:ae} {b:Nat}
theorem AX(O:bv w σ H)(hb:σ b=none)(Y:b<H.next){x:Blk}{o:Obj}{k:Nat}(ho:∀cs e,o≠.cells cs e (0,0))(hh:rM (World.push w o) x ⟨w.heap.size,k,0⟩)(hk:0<k){s:Sem Value}{v:AV}{v':Value}
  (hs:s.run P w=.ok v' (World.push w o)) (hv:∀w2 T,bn w2 (σ.set b ⟨w.heap.size,k,0⟩) T v v'):zV P s w σ H b v (H.new b x):=by
 have hnone:H.get b=none:=by
  cases hg:H.get b with
  |none=>rfl
  |some y=>obtain⟨E,_,_,D,_⟩:=O.live b y hg;rw[hb]at D;cases D
 have N:∀c,c<w.heap.size->(World.push w o).heap[c]? =w.heap[c]? :=λc u=>by show(w.heap.push _)[c]? =_;rw[Array.getElem?_push,if_neg (Nat.ne_of_lt u)]
 have hnok:¬cq.ok ⟨w.heap.size,k,0⟩:=by rintro(h|h)<;>simp only[]at h<;>omega
 have ext:eH w σ (aQ σ H) (World.push w o) (σ.set b ⟨w.heap.size,k,0⟩) (aQ (σ.set b ⟨w.heap.size,k,0⟩) (H.new b x)):=by
  refine⟨rfl,rfl,rfl,by simp[World.push],λc u _=>N c u,λc Z e' u=>⟨Z,?_,rfl⟩,λc q hq=>bE.set_old hb hq,rfl,λc u=>N c (O.apart c u).1,?_⟩
  .rcases Fn c w.heap.size with Y|hge
   .rw[N c Y];exact u
   .rw[Array.getElem?_eq_none hge]at u;cases u
  .rintro c (hfr|⟨b',y,E,D,M,S⟩)
   .exact .inl (.inl hfr)
   rw[ae.get_new]at D;by_cases G:b=b'
   .subst G;rw[bE.set_eq]at M;cases M;exact .inr (by simp only[]at S;omega)
   .rw[if_neg G]at D;rw[bE.set_ne _ _ G]at M;exact .inl (.inr ⟨b',y,E,D,M,S⟩)
 refine⟨v',_,_,hs,hv _ _,⟨?_,?_,?_,λc u=>?_,?_,O.glob.mono ext⟩,ext,λc E u=>?_⟩
 .intro c E u;by_cases j:b=c
  .subst j;exact Y
  .rw[bE.set_ne _ _ j]at u;exact O.named c E u
 .intro c E u;by_cases j:b=c
  .subst j;rw[bE.set_eq]at u;cases u;simp[World.push]
  .rw[bE.set_ne _ _ j]at u;have:=O.lt c E u;simp[World.push];omega
 .intro c y hy;rw[ae.get_new]at hy;by_cases j:b=c
  .subst j;rw[if_pos rfl]at hy;cases hy;exact⟨_,#[],0,bE.set_eq _ _ _,λhp=>absurd hp hnok,λ_=>hh⟩
  .rw[if_neg j]at hy;obtain⟨E,Z,e',D,M⟩:=O.live c y hy;exact⟨E,Z,e',by rw[bE.set_ne _ _ j];exact D,M.mono ext (N _ (O.lt c E D))⟩
 .have hlt':=(O.apart c u).1;refine⟨by simp[World.push];omega,?_⟩;rintro⟨b',y,E,D,M,S⟩;rw[ae.get_new]at D;by_cases G:b=b'
  .subst G;rw[bE.set_eq]at M;cases M;simp only[]at S;omega
  .rw[if_neg G]at D;rw[bE.set_ne _ _ G]at M;exact(O.apart c u).2 ⟨b',y,E,D,M,S⟩
 .intro c c' y y' E pl' D M S h4 h5;rw[ae.get_new]at D M;by_cases j:b=c
  .by_cases B:b=c'
   .exact j.symm.trans B
   .subst j;rw[bE.set_eq]at S;cases S;rw[bE.set_ne _ _ B]at h4;have:=O.lt c' pl' h4;simp only[]at h5;omega
  .by_cases B:b=c'
   .subst B;rw[bE.set_eq]at h4;cases h4;rw[bE.set_ne _ _ j]at S;have:=O.lt c E S;simp only[]at h5;omega
   .rw[if_neg j]at D;rw[if_neg B]at M;rw[bE.set_ne _ _ j]at S;rw[bE.set_ne _ _ B]at h4;exact O.inj c c' y y' E pl' D M S h4 h5
 .by_cases j:b=c
  .exact .inr j.symm
  .rw[bE.set_ne _ _ j]at u;exact .inl u
theorem NB(Y:bv w σ H){c:Nat}{x x':Blk}{u:cq}(hg:H.get c=some x)(hs:σ c=some u){o Z:Obj}(S:w.heap[u.block]? =some o)(ho:∀cs e,o≠.cells cs e (0,0))(hn:¬u.ok)
  (hh:rM {w with heap:=w.heap.setIfInBounds u.block Z} x' u) :
  bv {w with heap:=w.heap.setIfInBounds u.block Z} σ (H.put c (some x'))/\eH w σ (aQ σ H) {w with heap:=w.heap.setIfInBounds u.block Z} σ (aQ σ (H.put c (some x'))):=by
 have j:∀d,d≠u.block->(w.heap.setIfInBounds u.block Z)[d]? =w.heap[d]? :=(MapKept.heap_set S).2;have O:zR σ (H.put c (some x'))=zR σ H:=by
  funext d;apply propext;constructor
  .rintro⟨b',y,q,M,N,h3⟩;rw[ae.get_put]at M;by_cases E:c=b'
   .subst E;exact⟨c,x,q,hg,N,h3⟩
   .rw[if_neg E]at M;exact⟨b',y,q,M,N,h3⟩
  .rintro⟨b',y,q,M,N,h3⟩;by_cases E:c=b'
   .subst E;exact⟨c,x',q,by rw[ae.get_put,if_pos rfl],N,h3⟩
   .exact⟨b',y,q,by rw[ae.get_put,if_neg E];exact M,N,h3⟩
 have hown:aQ σ (H.put c (some x'))=aQ σ H:=by funext d;simp[aQ,O]
 have hT:zR σ H u.block:=⟨c,x,u,hg,hs,rfl⟩;have ext:eH w σ (aQ σ H) {w with heap:=w.heap.setIfInBounds u.block Z} σ (aQ σ (H.put c (some x'))):=by rw[hown];refine⟨rfl,rfl,rfl,Ud,λd _ D=>j d (by rintro rfl;exact D (.inr hT)),λd ds e D=>⟨ds,?_,rfl⟩,λ_ _ h=>h,rfl,λd D=>j d (by rintro rfl;exact(Y.apart _ D).2 hT),λ_ h=>.inl h⟩;rw[j d (by rintro rfl;rw[S]at D;cases D;exact ho _ _ rfl)];exact D
 refine⟨⟨Y.named,λd q D=>by simpa using Y.lt d q D,?_,λd D=>by rw[O];simpa using Y.apart d D,?_,Y.glob.mono ext⟩,ext⟩
 .intro d y G;rw[ae.get_put]at G;by_cases B:c=d
  .subst B;rw[if_pos rfl]at G;cases G;exact⟨u,#[],0,hs,λhp=>absurd hp hn,λ_=>hh⟩
  .rw[if_neg B]at G;obtain⟨q,ds,e',M,N⟩:=Y.live d y G;exact⟨q,ds,e',M,N.mono ext (j _ λhe=>B (Y.inj c d x y u q hg G hs M he.symm))⟩
 .intro d d' y y' q q' M N;have aux:∀d y,(H.put c (some x')).get d=some y->∃z,H.get d=some z:=λd y G=>by
   rw[ae.get_put]at G;by_cases B:c=d
   .subst B;exact⟨x,hg⟩
   .rw[if_neg B]at G;exact⟨y,G⟩
  obtain⟨z,hz⟩:=aux d y M;obtain⟨z',hz'⟩:=aux d' y' N;exact Y.inj d d' z z' q q' hz hz'
theorem bn.mp_inv{T:Nat->Prop}{c:Nat}{v:Value}(Z:bv w σ H)(h:bn w σ T (.mp c) v){x:Blk}(Y:H.get c=some x):
  ∃j B u,v=.map (some j.block)/\σ c=some j/\j.base=1/\j.size=0/\x.size=0/\¬j.ok/\w.heap[j.block]? =some (.map B u)/\B.toList.map C9=x.rows.map some:=by
 cases h with
 |mp _ j D h1 h2=>
 obtain⟨N,cs,e,M,g2⟩:=Z.live c x Y;rw[D]at M;cases M;have E:¬j.ok:=by rintro(h|h)<;>omega
 have G:=g2.2 E;rcases G.obj with⟨_,B,u,S,O⟩|⟨k0,_⟩
 .exact⟨j,B,u,rfl,D,h2,h1,G.size,E,S,O⟩
 .omega
theorem bn.it_inv{T:Nat->Prop}{c:Nat}{v:Value}(Y:bv w σ H)(h:bn w σ T (.it c) v){x:Blk}(S:H.get c=some x):
  ∃(u:cq) (s:ByteArray) (j:Nat),v=.pointer (some ⟨u.block,0,none⟩)/\σ c=some u/\u.base=2/\u.size=0/\x.size=0/\¬u.ok/\w.heap[u.block]? =some (.stringIter s j)/\x.rows=[[.str s.data.toList,.int .i64 j]]:=by
 cases h with
 |it _ u B h1 Z=>
 obtain⟨M,cs,e,G,g2⟩:=Y.live c x S;rw[B]at G;cases G;have D:¬u.ok:=by rintro(h|h)<;>omega
 have E:=g2.2 D;rcases E.obj with⟨k0,_⟩|⟨_,s,j,O,N⟩
 .omega
 .exact⟨u,s,j,rfl,B,Z,h1,E.size,D,O,N⟩
theorem Lo{v:Value}{s:List UInt8}(h:C8 v=some (.str s)):∃ba:ByteArray,v=.string ba/\ba.data.toList=s:=by cases v<;>simp[C8]at h;exact⟨_,rfl,h⟩
theorem Gw{T:Nat->Prop}{v:Value}{a:AV}(h:C8 v=some a):bn w σ T a v:=by
 cases v<;>simp only[C8,SF,reduceCtorEq]at h<;>subst h
 .exact .bool _
 .exact .int _ _
 .exact .str _
theorem Hy{T:Nat->Prop}{v:Value}{a:AV}(h:bn w σ T a v)(j:a.konst=true):C8 v=some a:=by cases h<;>first|rfl|(simp[AV.konst]at j)
theorem BQ{T:Nat->Prop}{v:Value}{s:List UInt8}(h:bn w σ T (.str s) v):∃ba:ByteArray,v=.string ba/\ba.data.toList=s:=by
 cases h with
 |str ba=>exact⟨ba,rfl,rfl⟩
theorem lJ{ba:ByteArray}:∀(l:List MapEntry) (rows:List (List AV)) (i:Nat),l.map C9=rows.map some->rows.all rL=true->
  (Instr.findNow .string (.string ba) l i=some none/\gv ba.data.toList rows i=none) \/
  ∃j e v,Instr.findNow .string (.string ba) l i=some (some (i+j,e.val))/\gv ba.data.toList rows i=some (i+j,v)/\l[j]? =some e/\C8 e.val=some v/\e.key=.string ba
 |[],[],i,_,_=>.inl ⟨rfl,rfl⟩
 |[],r::rows,i,h,_=>by simp at h
 |e::l,[],i,h,_=>by simp at h
 | e::l,r::rows,i,h,hk=>by
  simp only[Sx,List.cons.injEq]at h;simp only[List.all_cons,SN]at hk;have G:=h.1;unfold C9 at G;split at G
  .rename_i k v N Z;cases G;have S:=hk.1;unfold rL at S;split at S
   .rename_i s Y O;cases O;obtain⟨D,E,rfl⟩:=Lo N;have u:Instr.sameNow .string (.string ba) e.key=some (ba==D):=by rw[E];rfl
    have B:(ba.data.toList==D.data.toList)=(ba==D):=by
     rw[Bool.eq_iff_iff,MapKept.bytes_beq];constructor
     .intro hh;have:ba.data.toList=D.data.toList:=by simpa using hh
      obtain⟨x⟩:=ba;obtain⟨y⟩:=D;simp only[]at this;congr 1;exact Array.toList_inj.1 this
     .rintro rfl;simp
    cases M:(ba==D)with
    |true=>have he:ba=D:=(MapKept.bytes_beq _ _).1 M;rw[M]at u B;exact .inr ⟨0,e,v,by simp[Instr.findNow,u],by simp[gv,B],rfl,Z,by rw[E,he]⟩
    |false=>
     rw[M]at u B;rcases lJ (ba:=ba) l rows (i+1) h.2 hk.2 with⟨g1,g2⟩|⟨j,e',Y,g1,g2,g3,g4,g5⟩
     .exact .inl ⟨by simp[Instr.findNow,u,g1],by simp[gv,B,g2]⟩
     .exact .inr ⟨j+1,e',Y,by simp[Instr.findNow,u,g1];omega,by simp[gv,B,g2];omega,by simpa using g3,g4,g5⟩
   .cases S
  .cases G
theorem RJ{T:Nat->Prop}{a:AV}{x:Value}(h:bn w σ T a x):bn w σ T (.tup [a]) (.tuple #[x]):=.tup [a] [x] rfl λi D B j u=>by
 match i with
 |0=>cases j;cases u;exact h
 |i+1=>simp at j
theorem PD{T:Nat->Prop}{a b:AV}{x y:Value}(h:bn w σ T a x)(B:bn w σ T b y):bn w σ T (.tup [a,b]) (.tuple #[x,y]):=.tup [a,b] [x,y] rfl λi E D j u=>by
 match i with
 |0=>cases j;cases u;exact h
 |1=>cases j;cases u;exact B
 |i+2=>simp at j
theorem RK{T:Nat->Prop}{a b c:AV}{x y z:Value}(h:bn w σ T a x)(D:bn w σ T b y)(B:bn w σ T c z):bn w σ T (.tup [a,b,c]) (.tuple #[x,y,z]):=.tup [a,b,c] [x,y,z] rfl λi G E j u=>by
 match i with
 |0=>cases j;cases u;exact h
 |1=>cases j;cases u;exact D
 |2=>cases j;cases u;exact B
 |i+3=>simp at j
theorem Gx{e:MapEntry}{k v:AV}(j:C8 e.key=some k)(h2:C8 e.val=some v):C9 e=some [k,v]:=by unfold C9;rw[j,h2]
theorem lK{t:TypeId}{m k v:AV}{H':ae}(h:eX P H t m k v=some H'):∃c x x',m=.mp c/\H.get c=some x/\H'=H.put c (some x')/\∀K:ae,K.get c=some x->eX P K t m k v=some (K.put c (some x')):=by
 unfold eX at h;split at h
 .rename_i G M c s B;split at h
  .rename_i x j u;split at h
   .rename_i D;cases h;exact⟨c,x,_,rfl,u,rfl,λK E=>by simp only[eX,B,j,E];rw[if_pos D]⟩
   .cases h
  .cases h
 .cases h
theorem rP{j v:AV}{H':ae}(h:iq H j=some (v,H')):∃c x,j=.it c/\H.get c=some x/\((H'=H/\∀K:ae,K.get c=some x->iq K j=some (v,K))\/∃x',H'=H.put c (some x')/\∀K:ae,K.get c=some x->iq K j=some (v,K.put c (some x'))):=by
 unfold iq at h;split at h
 .rename_i c;split at h
  .rename_i x B;split at h
   .rename_i s k E D;split at h
    .rename_i hp;cases h;exact⟨c,x,rfl,B,.inr ⟨_,rfl,λK u=>by simp only[iq,u,D];rw[if_pos hp]⟩⟩
    .rename_i hp;cases h;exact⟨c,x,rfl,B,.inl ⟨rfl,λK u=>by simp only[iq,u,D];rw[if_neg hp]⟩⟩
   .cases h
  .cases h
 .cases h
theorem xu{t:TypeId}{m k v:AV}{B:Bool}(h:jy P H t m k B=some v):∃c x,m=.mp c/\H.get c=some x/\∀K:ae,K.get c=some x->jy P K t m k B=some v:=by
 unfold jy at h;split at h
 .rename_i N O c s G;split at h
  .rename_i z x u D E;split at h
   .rename_i j;exact⟨c,x,rfl,E,λK M=>by simp only[jy,G,u,D,M];rw[if_pos j];exact h⟩
   .cases h
  .cases h
 .cases h
theorem BR(hW:bv w σ H){t:TypeId}{m k v:AV}{Z k':Value}{E:Bool}(hm:bn w σ (aQ σ H) m Z)(hk:bn w σ (aQ σ H) k k')(h:jy P H t m k E=some v):
  ∃v',(Instr.lookup t Z k' E).run P w=.ok v' w/\bn w σ (aQ σ H) v v':=by
 unfold jy at h;split at h
 .rename_i kt et c s hu;split at h
  .rename_i z x B hz hx;split at h
   .rename_i D;cases h;obtain⟨pl,es,clk,rfl,hs,_,_,_,_,hb,u⟩:=hm.mp_inv hW hx;obtain⟨ba,rfl,rfl⟩:=BQ hk;obtain⟨Y,N,G⟩:=eM (P:=P) (w:=w) (σ:=σ) (T:=aQ σ H) hz;have M:=λe=>MapKept.run_checkKey (P:=P) (w:=w) (k:=.string ba) B trivial e 9999
    rcases lJ es.toList x.rows 0 u D with⟨S,O⟩|⟨j,e,v,S,O,g3,g4,g5⟩
    .rw[O];refine⟨if E then .tuple #[Y,.bool false]else Y,?_,?_⟩
     .simp only[Instr.lookup,S4,run_underlying hu,SI,MapKept.run_getObj_map hb,Tj,M,MapKept.run_findKey B S,N]
     .cases E
      .exact G
      .exact PD G (.bool false)
    .rw[O];refine⟨if E then .tuple #[e.val,.bool true]else e.val,?_,?_⟩
     .simp only[Instr.lookup,S4,run_underlying hu,SI,MapKept.run_getObj_map hb,Tj,M,MapKept.run_findKey B S]
     .cases E
      .exact Gw g4
      .exact PD (Gw g4) (.bool true)
   .cases h
  .cases h
 .cases h
theorem Dk(hW:bv w σ H){t:TypeId}{m k v:AV}{m' k' v':Value}(hm:bn w σ (aQ σ H) m m')(hk:bn w σ (aQ σ H) k k')(hv:bn w σ (aQ σ H) v v'){H':ae}(h:eX P H t m k v=some H'):
  ∃w',(Instr.mapUpdate t m' k' v').run P w=.ok () w'/\bv w' σ H'/\eH w σ (aQ σ H) w' σ (aQ σ H'):=by
 unfold eX at h;split at h
 .rename_i kt et c s hu;split at h
  .rename_i x D hx;split at h
   .rename_i hc;cases h;obtain⟨E,O⟩:=hc;obtain⟨pl,es,clk,rfl,hs,Z,M,G,hn,B,u⟩:=hm.mp_inv hW hx;obtain⟨ba,rfl,rfl⟩:=BQ hk;have N:=Hy hv O;have Y:=λe=>MapKept.run_checkKey (P:=P) (w:=w) (k:=.string ba) D trivial e 9999
    rcases lJ es.toList x.rows 0 u E with⟨g1,g2⟩|⟨j,e,v0,g1,g2,g3,g4,g5⟩
    .rw[g2];refine⟨_,by simp[Instr.mapUpdate,run_underlying hu,MapKept.run_getObj_map B,Y,MapKept.run_findKey D g1,MapKept.run_setObj_map _ B,Result.andThen];rfl,NB hW hx hs B (by intros;simp) hn ⟨G,M,.inl ⟨Z,_,_,(MapKept.heap_set B).1,?_⟩⟩⟩;simp only[Array.toList_push,LT,Sx,S6,u];rw[Gx (k:=.str ba.data.toList) (v:=v) rfl N]
    .have hj:es[j]? =some e:=by simpa using g3
     simp only[Tm]at g1 g2;rw[g2];refine⟨_,by simp[Instr.mapUpdate,run_underlying hu,MapKept.run_getObj_map B,Y,MapKept.run_findKey D g1,hj,g5,MapKept.run_keyThatStays (d:=.string) (k:=.string ba) trivial,MapKept.run_setObj_map _ B,Result.andThen];rfl,NB hW hx hs B (by intros;simp) hn ⟨G,M,.inl ⟨Z,_,_,(MapKept.heap_set B).1,?_⟩⟩⟩;simp only[Array.toList_modify];refine TH λi=>?_
     have hi:=congrArg (λl=>l[i]?) u;simp only[SJ]at hi;rw[SJ,SJ,List.getElem?_modify,SS];by_cases S:j=i
     .subst S;have hl:j<x.rows.length:=by have:=(Tf.1 g3).1;have h2:=congrArg List.length u;simp at h2 this;omega
      rw[if_pos rfl,if_pos hl,g3];simp only[S0,Option.map_eq_map];rw[Gx (k:=.str ba.data.toList) (v:=v) rfl N]
     .simp only[if_neg S];rw[show((λa=>a) <$> es.toList[i]?)=es.toList[i]? from by cases es.toList[i]?<;>rfl];exact hi
   .cases h
  .cases h
 .cases h
theorem Hz(S:bv w σ H){Z v:AV}{B:Value}(ty:TypeId)(hi:bn w σ (aQ σ H) Z B){H':ae}(h:iq H Z=some (v,H')):
  ∃v' w',(Instr.next B true ty).run P w=.ok v' w'/\bn w' σ (aQ σ H') v v'/\bv w' σ H'/\eH w σ (aQ σ H) w' σ (aQ σ H'):=by
 unfold iq at h;split at h
 .rename_i c;split at h
  .rename_i x hx;obtain⟨Y,s,j,rfl,hs,O,M,E,hn,D,u⟩:=hi.it_inv S hx;rw[u]at h;simp only[]at h;have hlen:s.data.toList.length=s.size:=SU;have G:(⟨s.data.toList.toArray⟩:ByteArray)=s:=by obtain⟨d⟩:=s;simp
   split at h
   .rename_i hp;cases h;have N:j<s.size:=by omega
    rw[G,Td];refine⟨_,_,Lib.run_next_any_at w Y.block s j ty D N,RK (.bool true) (.int _ _) (.int _ _),NB S hx hs D (by intros;simp) hn ⟨E,M,.inr ⟨O,s,_,(MapKept.heap_set D).1,rfl⟩⟩⟩
   .rename_i hp;cases h;exact⟨_,w,Lib.run_next_end_at w Y.block s j ty D Ua,RJ (.bool false),S,eH.refl _ _ _⟩
  .cases h
 .cases h
end
end
section
section
variable {P:Program} {F:TypeId->Option (List TypeId)} {w:World} {σ:bE} {H:ae} {b:Nat}
def bN(P:Program)(s:Sem Next)(w:World)(σ:bE)(H:ae)(b:Nat)(v:AV)(H':ae):Prop:=
 ∃v' w' σ',(s.run P w=.ok (.value v') w'\/(s.run P w=.ok .skip w'/\v'=undef))/\bn w' σ' (aQ σ' H') v v'/\bv w' σ' H'/\eH w σ (aQ σ H) w' σ' (aQ σ' H')/\∀c pl,σ' c=some pl->σ c=some pl\/c=b
theorem bN.of_done{s:Sem Value}{v:AV}{H':ae}(h:zV P s w σ H b v H'):bN P (do pure (.value (<-s))) w σ H b v H':=by obtain⟨B,u,j,E,D⟩:=h;exact⟨B,u,j,.inl (by simp[E]),D⟩
theorem bN.of_val{s:Sem Value}{v:AV}(u:bv w σ H)(h:∃v',s.run P w=.ok v' w/\bn w σ (aQ σ H) v v'):bN P (do pure (.value (<-s))) w σ H b v H:=by obtain⟨v',D,B⟩:=h;exact⟨v',w,σ,.inl (by simp[D]),B,u,eH.refl _ _ _,λc E j=>.inl j⟩
theorem bN.pure{s:Sem Next}{v:AV}{v':Value}(B:bv w σ H)(h:s.run P w=.ok (.value v') w)(j:bn w σ (aQ σ H) v v'):bN P s w σ H b v H:=
 ⟨v',w,σ,.inl h,j,B,eH.refl _ _ _,λc D u=>.inl u⟩
theorem fo{r:Option AV}{v:AV}{H H':ae}(h:(r.map λx=>fM.val x H)=some (.val v H')):r=some v/\H'=H:=by
 cases r with
 |none=>cases h
 |some x=>simp only[S0,SF,fM.val.injEq]at h;exact⟨by rw[h.1],h.2.symm⟩
theorem NC{ρ:Operand->AV}{j:Operand->Value}(u:∀x,bn w σ (aQ σ H) (ρ x) (j x))(x:Option Operand):Fk w σ (aQ σ H) (x.map ρ) (x.map j):=by
 cases x with
 |none=>trivial
 |some a=>exact u a
theorem oQ{α β:Type}{f:α->β}{l:List α}{x:β}(h:l.map f=[x]):∃a,l=[a]/\f a=x:=by
 match l,h with
 |[a],h=>exact⟨a,rfl,by simpa using h⟩
 |[],h=>simp at h
 |_::_::_,h=>simp at h
theorem oR{α β:Type}{f:α->β}{l:List α}{x y:β}(h:l.map f=[x,y]):∃a b,l=[a,b]/\f a=x/\f b=y:=by
 match l,h with
 |[a,b],h=>exact⟨a,b,rfl,by simpa using h⟩
 |[],h=>simp at h
 |[_],h=>simp at h
 |_::_::_::_,h=>simp at h
theorem zW(hW:bv w σ H)(hb:σ b=none)(hlt:b<H.next){ρ:Operand->AV}{B:Operand->Value}(E:∀x,bn w σ (aQ σ H) (ρ x) (B x)){op:Builtin}{args:List Operand}{D:List TypeId}{ty:TypeId}{cn:Array Bool}{v:AV}{H':ae}
  (h:bj P H b op D.toArray (args.map ρ)=some (v,H')):bN P (builtin op D.toArray ty cn (args.toArray.map B)) w σ H b v H':=by
 unfold bj at h;split at h
 .rename_i s u;obtain⟨G,rfl,O⟩:=oQ u;split at h
  .rename_i hty;cases h;have N:=E G;rw[O]at N;generalize he:B G=x' at N;cases N with
   |str ba=>
   have hlen:ba.data.toList.length=ba.size:=SU;cases j:D[0]? with
   |none=>simp[j]at hty
   |some t=>
   have hu:P.underlying t=some .string:=by simpa[j]using hty
   refine bN.pure hW (v':=.int .i64 ba.size) ?_ (by rw[hlen];exact .int _ _);simp[builtin,Builtin.len_,j,he,run_underlying hu,goInt]
  .cases h
 .rename_i x hne u;obtain⟨G,rfl,O⟩:=oQ u;have N:=E G;rw[O]at N;cases j:D[0]? with
  |none=>simp[j]at h
  |some t=>
   simp only[List.getElem?_toArray,j,Tk]at h;split at h
   .rename_i e hu;cases Y:Fi x with
    |none=>rw[Y]at h;cases h
    |some n=>
     rw[Y]at h;cases h;have hv:∃A c,B G=.slice A n c:=by
      unfold Fi at Y;split at Y
      .cases Y;generalize B G=y at N;cases N;exact⟨_,_,rfl⟩
      .cases Y;generalize B G=y at N;cases N;exact⟨_,_,rfl⟩
      .cases Y;obtain⟨A,c,Z,_⟩:=N.lst_inv;exact⟨A,c,Z⟩
      .cases Y;obtain⟨_,a,c,Z,_⟩:=N.sl_inv;exact⟨_,c,Z⟩
      .cases Y
     obtain⟨A,c,hv⟩:=hv;refine bN.pure hW (v':=.int .i64 n) ?_ (.int _ _);simp[builtin,Builtin.len_,j,hv,run_underlying hu,goInt]
   .rename_i n e hu;cases h;refine bN.pure hW (v':=.int .i64 n) ?_ (.int _ _);simp[builtin,Builtin.len_,j,run_underlying hu,goInt]
   .cases h
 .rename_i s x u;obtain⟨G,a1,rfl,O,Z⟩:=oR u;split at h
  .rename_i t tx j;split at h
   .rename_i e' hu;simp only[]at j;subst j;have S:=E G;have M:=E a1;rw[O]at S;rw[Z]at M;have:=bN.of_done (Di (ty:=ty) hW hb hlt M S hu h);simpa[builtin]using this
   .cases h
  .cases h
 .rename_i k a k' c u;obtain⟨G,a1,rfl,O,Z⟩:=oR u;split at h
  .rename_i hk;subst hk;cases h;have S:=E G;have M:=E a1;rw[O]at S;rw[Z]at M;generalize e0:B G=y0 at S;generalize e1:B a1=y1 at M;cases S;cases M;exact bN.pure hW (v':=.int k (if c<a then c else a)) (by simp[builtin,Builtin.min_,Builtin.min2,e0,e1]) (.int _ _)
  .cases h
 .rename_i k a k' c u;obtain⟨G,a1,rfl,O,Z⟩:=oR u;split at h
  .rename_i hk;subst hk;cases h;have S:=E G;have M:=E a1;rw[O]at S;rw[Z]at M;generalize e0:B G=y0 at S;generalize e1:B a1=y1 at M;cases S;cases M;exact bN.pure hW (v':=.int k (if c > a then c else a)) (by simp[builtin,Builtin.max_,Builtin.max2,e0,e1]) (.int _ _)
  .cases h
 .rename_i x u;obtain⟨G,rfl,O⟩:=oQ u;split at h
  .rename_i t j;simp only[]at j;subst j;cases hc:fj P H t x with
   |none=>rw[hc]at h;cases h
   |some K=>rw[hc]at h;cases h;have M:=E G;rw[O]at M;have:=bN.of_done (Fs (ty:=ty) (b:=b) hW M hc);simpa[builtin]using this
  .cases h
 .cases h
theorem AY(fit:Fit P F)(B:bv w σ H)(hb:σ b=none)(G:b<H.next){o:Oper}{ρ:Operand->AV}{D:Operand->Value}(j:∀x,bn w σ (aQ σ H) (ρ x) (D x)){v:AV}{H':ae}
  (h:aV P F o.op ρ b H=some (.val v H')):bN P (execOp D o) w σ H b v H':=by
 obtain⟨dst,op,ty,pos,after,guard⟩:=o;simp only[]at h;cases op with
 |move x=>simp only[aV,SF,fM.val.injEq]at h;obtain⟨rfl,rfl⟩:=h;exact bN.pure B rfl (j x)
 |assign x=>simp only[aV,SF,fM.val.injEq]at h;obtain⟨rfl,rfl⟩:=h;exact bN.pure B rfl (j x)
 |pick c x y=>
  simp only[aV]at h;split at h
  .rename_i t N;simp only[SF,fM.val.injEq]at h;obtain⟨rfl,rfl⟩:=h;have:=j c;rw[N]at this;generalize hc':D c=c' at this;cases this;refine bN.pure B (v':=if t then D x else D y) (by simp[execOp,hc',asBool]) ?_;cases t
   .exact j y
   .exact j x
  .cases h
 |alloc t=>
  simp only[aV]at h;split at h
  .rename_i cs hcs;simp only[SF,fM.val.injEq]at h;obtain⟨rfl,rfl⟩:=h;exact bN.of_done (Fm B hb G hcs)
  .cases h
 |box t x=>
  simp only[aV]at h;split at h
  .rename_i cs hcs;split at h
   .simp only[SF,fM.val.injEq]at h;obtain⟨rfl,rfl⟩:=h;exact bN.of_done (Dh B hb G (j x) hcs)
   .cases h
  .cases h
 |build t S=>simp only[aV]at h;obtain⟨u,rfl⟩:=fo h;exact bN.of_val B (Dg j u)
 |buildSlice t len S=>
  simp only[aV]at h;split at h
  .rename_i e hu;split at h
   .rename_i n z hn hz;split at h
    .rename_i N;obtain⟨c1,c2,c3⟩:=N;cases hf:eg n (List.replicate len z) (S.toList.map λp=>(p.1,ρ p.2))with
     |none=>rw[hf]at h;cases h
     |some rows=>rw[hf]at h;simp only[S0,SF,fM.val.injEq]at h;obtain⟨rfl,rfl⟩:=h;exact bN.of_done (vR B hb G j hu hn hz c1 c2 c3 hf)
    .cases h
   .cases h
  .cases h
 |load t a=>simp only[aV]at h;obtain⟨u,rfl⟩:=fo h;exact bN.of_val B (xp B (j a) u)
 |store t a x=>
  simp only[aV]at h;cases Y:fW P H t (ρ a) (ρ x)with
  |none=>rw[Y]at h;cases h
  |some K=>rw[Y]at h;simp only[S0,SF,fM.val.injEq]at h;obtain⟨rfl,rfl⟩:=h;obtain⟨w',u,Z,h3⟩:=Fo B (j a) (j x) Y;exact⟨undef,w',σ,.inr ⟨by simp[execOp,u],rfl⟩,.tup [] [] rfl Ud,Z,h3,λc pl N=>.inl N⟩
 |nilCheck x=>simp only[aV]at h;have hx:=j x;split at h<;>(try (cases h;done))<;>(rename_i heq;simp only[SF,fM.val.injEq]at h;obtain⟨rfl,rfl⟩:=h;rw[heq]at hx;generalize he:D x=x' at hx;have hx2:=hx;cases hx2;exact bN.pure B (by simp only[execOp,he];rfl) hx)
 |binOp op t x y yt=>simp only[aV]at h;obtain⟨u,rfl⟩:=fo h;exact bN.of_val B (Hw fit.flat (j x) (j y) u)
 |unOp op t x=>simp only[aV]at h;obtain⟨u,rfl⟩:=fo h;exact bN.of_val B (IV (j x) u)
 |convert s d x=>simp only[aV]at h;obtain⟨u,rfl⟩:=fo h;exact bN.of_val B (Fj (j x) u)
 |makeFunc fn first cap=>
  cases fn with
  |func f=>
   simp only[aV]at h;split at h
   .rename_i hf;simp only[SF,fM.val.injEq]at h;obtain⟨rfl,rfl⟩:=h;have e:first=#[]:=Array.eq_empty_of_size_eq_zero hf
    subst e;refine bN.pure B (v':=.func (.func f) #[] (cap.toList.map D).toArray) (by simp[execOp,Instr.makeFunc];apply Array.ext';simp) (.fn f _ _ Ud λi a v u Z=>?_);rw[SJ]at u Z;cases N:cap.toList[i]? with
    |none=>rw[N]at u;cases u
    |some q=>rw[N]at u Z;cases u;cases Z;exact j q
   .cases h
  |_=>simp[aV]at h
 |makeSlice t l c=>
  simp only[aV]at h;split at h
  .rename_i e hu;split at h
   .rename_i n by_ z l' c' hn hby hz hl N;split at h
    .rename_i M;obtain⟨c1,c2,c3,c4,c5⟩:=M;simp only[SF,fM.val.injEq]at h;obtain⟨rfl,rfl⟩:=h;exact bN.of_done (xr B hb G (j l) (j c) hu hn hby hz hl N c1 c2 c3 c4 c5)
    .cases h
   .cases h
  .cases h
 |slice t x lo hi mx=>
  simp only[aV]at h;split at h
  .cases h
  .rename_i M;obtain⟨u,rfl⟩:=fo h;refine bN.of_val B (Df B (j x) (NC j lo) (NC j hi) (NC j mx) (λhh=>?_) u);cases hi with
   | none=>cases mx with
    |none=>rfl
    |some m=>simp at M
   |some q=>simp at hh
 |fieldAddr s x f=>simp only[aV]at h;obtain⟨u,rfl⟩:=fo h;exact bN.of_val B (vP (j x) u)
 |field s x f=>simp only[aV]at h;obtain⟨u,rfl⟩:=fo h;exact bN.of_val B (Dc (j x) u)
 |indexAddr t x ix=>simp only[aV]at h;obtain⟨u,rfl⟩:=fo h;exact bN.of_val B (vQ B (j x) (j ix) u)
 |index t x ix=>simp only[aV]at h;obtain⟨u,rfl⟩:=fo h;exact bN.of_val B (Dd (j x) (j ix) u)
 |extract x i=>
  simp only[aV]at h;split at h
  .rename_i vs hx;obtain⟨u,rfl⟩:=fo h;have:=j x;rw[hx]at this;generalize he:D x=x' at this;cases this with
   |tup _ us hl hr=>
   have hi:=aA u;have hi':i<us.length:=by omega
   exact bN.pure B (v':=us[i]) (by simp[execOp,he,Instr.extract,hi']) (hr i v _ u (mt hi'))
  .cases h
 |makeMap t r=>
  cases r with
  |some r=>simp[aV]at h
  |none=>simp only[aV,SF,fM.val.injEq]at h;obtain⟨rfl,rfl⟩:=h;refine bN.of_done (AX B hb G (k:=1) (o:=.map #[] 0) (by intros;simp) ⟨rfl,rfl,.inl ⟨rfl,#[],0,by show(w.heap.push _)[w.heap.size]? =_;simp,rfl⟩⟩ Ue rfl λw2 T=>.mp b _ (bE.set_eq _ _ _) rfl rfl)
 |lookup t m k ok=>simp only[aV]at h;obtain⟨u,rfl⟩:=fo h;exact bN.of_val B (BR B (j m) (j k) u)
 |mapUpdate t m k x=>
  simp only[aV]at h;cases Y:eX P H t (ρ m) (ρ k) (ρ x)with
  |none=>rw[Y]at h;cases h
  |some K=>rw[Y]at h;simp only[S0,SF,fM.val.injEq]at h;obtain⟨rfl,rfl⟩:=h;obtain⟨w',u,Z,h3⟩:=Dk B (j m) (j k) (j x) Y;exact⟨undef,w',σ,.inr ⟨by simp[execOp,u],rfl⟩,.tup [] [] rfl Ud,Z,h3,λc pl N=>.inl N⟩
 |range t x=>
  simp only[aV]at h;split at h
  .rename_i s hu hx;simp only[SF,fM.val.injEq]at h;obtain⟨rfl,rfl⟩:=h;have:=j x;rw[hx]at this;obtain⟨ba,he,rfl⟩:=BQ this;refine bN.of_done (s:=Instr.range t (D x)) (AX B hb G (k:=2) (o:=.stringIter ba 0) (by intros;simp) ⟨rfl,rfl,.inr ⟨rfl,ba,0,by show(w.heap.push _)[w.heap.size]? =_;simp,rfl⟩⟩ Ue (by rw[he];exact run_range_string w t ba hu) λw2 T=>.it b _ (bE.set_eq _ _ _) rfl rfl)
  .cases h
 |next it s=>
  cases s with
  |false=>simp[aV]at h
  |true=>
   simp only[aV]at h;cases Y:iq H (ρ it)with
   |none=>rw[Y]at h;cases h
   |some r=>obtain⟨v0,K⟩:=r;rw[Y]at h;simp only[S0,SF,fM.val.injEq]at h;obtain⟨rfl,rfl⟩:=h;obtain⟨v',w',u,Z,h3,h4⟩:=Hz (P:=P) B ty (j it) Y;exact⟨v',w',σ,.inl (by simp[execOp,u]),Z,h3,h4,λc pl N=>.inl N⟩
 |call c=>
  simp only[aV]at h;obtain⟨callee,O,E⟩:=c;obtain⟨O⟩:=O;obtain⟨E⟩:=E;simp only[]at h;split at h
  .rename_i bi;cases hbi:bj P H b bi E.toArray (O.map ρ)with
   |none=>rw[hbi]at h;cases h
   |some r=>
    obtain⟨v0,K⟩:=r;rw[hbi]at h;simp only[S0,SF,fM.val.injEq]at h;obtain⟨rfl,rfl⟩:=h;have key:∀cn,bN P (builtin bi ⟨E⟩ ty cn ((⟨O⟩:Array Operand).map D)) w σ H b v0 K:=λcn=>zW B hb G j hbi
    exact key _
  .rename_i f;split at h<;>simp at h
  .cases h
 |_=>simp[aV]at h
theorem Dl(fit:Fit P F){o:Oper}{ρ:Operand->AV}{ρ':Operand->Value}(hρ:∀x,bn w σ (aQ σ H) (ρ x) (ρ' x)){g:FuncId}{args:List AV}{fn:Func}{c:Code}
  (h:aV P F o.op ρ b H=some (.call g args)) (hg:P.funcs[g]? =some fn) (hc:fn.body=some c) :
  ∃vs:List Value,(execOp ρ' o).run P w=.ok (.enter g vs.toArray) w/\eG w σ (aQ σ H) args vs:=by
 obtain⟨dst,op,ty,pos,after,guard⟩:=o;simp only[]at h;cases op with
 |call c=>
  simp only[aV]at h;obtain⟨callee,qs,types⟩:=c;obtain⟨qs⟩:=qs;simp only[]at h;split at h
  .rename_i bi;cases hbi:bj P H b bi types (qs.map ρ)with
   |none=>rw[hbi]at h;cases h
   |some r=>rw[hbi]at h;cases h
  .rename_i f;split at h
   .rename_i g' cs hf;simp only[SF,fM.call.injEq]at h;obtain⟨rfl,rfl⟩:=h;have:=hρ f;rw[hf]at this;generalize he:ρ' f=f' at this;cases this with
    |fn _ _ us hl hr=>
    have hnm : ¬ fn.name = "runtime.NumGoroutine" := fit.names _ _ hg
    refine⟨qs.map ρ'++us,?_,by simp[hl],λi a v h1 h2=>?_⟩
    .simp[execOp,resolve,he,Deferred.ofValue,invoke,callFunc,hg,hnm,hc]
    .rcases Fn i qs.length with hi|hi
     .rw[SE (by simpa using hi),SJ]at h1 h2;rw[mt hi]at h1 h2;cases h1;cases h2;exact hρ _
     .rw[SA (by simpa using hi)]at h1 h2;simp only[Ty]at h1 h2;exact hr _ a v h1 h2
   .cases h
  .cases h
 |makeFunc fn first cap=>cases fn<;>simp only[aV]at h<;>(try split at h)<;>simp at h
 |makeMap t r=>cases r<;>simp[aV]at h
 |next it s=>cases s<;>simp[aV]at h
 |_=>
  exfalso;simp only[aV]at h
  repeat' (first|(cases h;done)|(simp at h;done)|split at h)
end
end
section
def cD(w:World)(σ:bE)(T:Nat->Prop)(τ:List AV)(a:Act):Prop:=eG w σ T τ a.tmps.toList/\a.defers=[]
theorem cD.mono{w w':World}{σ σ':bE}{T T':Nat->Prop}(e:eH w σ T w' σ' T'){j:List AV}{a:Act}(h:cD w σ T j a):cD w' σ' T' j a:=⟨h.1.mono e,h.2⟩
section
variable {P:Program} {F:TypeId->Option (List TypeId)} {w:World} {σ:bE} {T:Nat->Prop}
theorem kH:bn w σ T bK undef:=.tup [] [] rfl Ud
theorem cD.eval{u:List AV}{a:Act}(h:cD w σ T u a)(G:hY w T)(x:Operand):bn w σ T (jr u x) (a.eval x):=by
 cases x with
 |tmp t=>
  simp only[jr,Act.eval];have D:=h.1.1;simp only[SU]at D;rcases Fn t u.length with B|B
  .have e1:u.getD t bK=u[t]:=by simp[List.getD,B]
   have j:t<a.tmps.size:=D▸B;have e2:a.tmps.getD t undef=a.tmps[t]:=by simp[Array.getD,j]
   rw[e1,e2];exact h.1.2 t _ _ (mt B) (by rw[SY,S1 j])
  .have e1:u.getD t bK=bK:=by simp[List.getD,LE B]
   have j:¬t<a.tmps.size:=Nat.not_lt.2 (D▸B);have e2:a.tmps.getD t undef=undef:=by simp[Array.getD,j]
   rw[e1,e2];exact kH
 |const v=>
  simp only[jr,Act.eval];cases E:Hv v with
  |none=>exact .junk _
  |some a=>exact Db E
 |global g=>exact G.rep g
 |func f=>exact .fn f [] [] rfl Ud
theorem cD.put{E:List AV}{a:Act}(h:cD w σ T E a)(D:Option Tmp){v:AV}{v':Value}(M:bn w σ T v v'):cD w σ T (fT E D v) (a.put D v'):=by
 cases D with
 |none=>exact h
 |some d=>
  refine⟨⟨by simpa[fT,Act.put]using h.1.1,λi x u B j=>?_⟩,h.2⟩;simp only[fT,Act.put,Array.toList_setIfInBounds,SS]at B j;by_cases G:d=i
  .subst G;simp only[if_true]at B j;split at B
   .split at j
    .cases B;cases j;exact M
    .cases j
   .cases B
  .rw[if_neg G]at B j;exact h.1.2 i x u B j
theorem iF{ops:Array Oper}{o:Oper}{D:List AV}{a:Act}{t:Bool}(h:cD w σ T D a)(B:dI ops o D=some t):Region.wanted o (yielded ops a.tmps)=t:=by
 unfold dI at B;unfold Region.wanted;split at B
 .rename_i G;cases B;rw[G]
 .rename_i j S G;rw[G];simp only[];unfold yielded;split at B
  .rename_i d hd;rw[hd];simp only[Tk];have get:∀x,D[d]? =some x->∃u,a.tmps[d]? =some u/\bn w σ T x u:=λx Z=>by have E:=h.1.1;simp only[SU]at E;have hlt:=aA Z;exact⟨a.tmps[d],S1 Ua,h.1.2 d x _ Z (by rw[SY,S1 Ua])⟩
   split at B
   .rename_i b M;obtain⟨u,O,N⟩:=get _ M;rw[O];cases N;cases B;rfl
   .rename_i M;obtain⟨u,O,N⟩:=get _ M;rw[O];cases B;cases N with
    |tup _ Y E hr=>
    have:Y=[]:=by cases Y with
     |nil=>rfl
     |cons x l=>simp at E
    subst this;rfl
   .cases B
  .cases B
end
def mZ(P:Program)(f:FuncId)(args:List AV)(H:ae)(v:AV)(H':ae):Prop:=
 ∀(w:World) (σ:bE) (vs:List Value),bv w σ H->eG w σ (aQ σ H) args vs->Calls P f vs.toArray w λe w'=>
  ∃v' σ',e=.returned v'/\bn w' σ' (aQ σ' H') v v'/\bv w' σ' H'/\eH w σ (aQ σ H) w' σ' (aQ σ' H')/\∀c pl,σ' c=some pl->σ c=some pl\/H.next<=c
structure ez(P:Program)(call:FuncId->List AV->ae->Option (AV×ae)):Prop where
 ok:∀f args H v H',call f args H=some (v,H')->mZ P f args H v H'
 next:∀f args H v H',call f args H=some (v,H')->H.next<=H'.next
 body:∀f args H v H',call f args H=some (v,H')->∃fn c,P.funcs[f]? =some fn/\fn.body=some c
def pU(w:World)(σ:bE)(H:ae)(τ':List AV)(H':ae)(a':Act)(w':World):Prop:=
 ∃σ',cD w' σ' (aQ σ' H') τ' a'/\bv w' σ' H'/\eH w σ (aQ σ H) w' σ' (aQ σ' H')/\∀c pl,σ' c=some pl->σ c=some pl\/H.next<=c
section
variable {P:Program} {F:TypeId->Option (List TypeId)} {call:FuncId->List AV->ae->Option (AV×ae)} {ops:Array Oper} {base:Nat} {Q:Exit->Act->World->Prop}
theorem xv{o:Op}{ρ:Operand->AV}{b:Nat}{H H':ae}{v:AV}(h:aV P F o ρ b H=some (.val v H')):H'.next=H.next:=by
 cases o with
 |store t a x=>
  simp only[aV]at h;cases u:fW P H t (ρ a) (ρ x)with
  |none=>rw[u]at h;cases h
  |some K=>
   rw[u]at h;cases h;unfold fW at u
   repeat' (first|(cases u;rfl)|(cases u;done)|split at u)
 |call c=>
  simp only[aV]at h;split at h
  .rename_i bi _;cases j:bj P H b bi c.argTypes (c.args.toList.map ρ)with
   |none=>rw[j]at h;cases h
   |some r=>
    obtain⟨O,K⟩:=r;rw[j]at h;cases h;unfold bj at j;split at j
    .repeat' (first|(cases j;rfl)|(cases j;done)|split at j)
    .split at j
     .rw[T3]at j;obtain⟨n,_,E⟩:=j;cases E;rfl
     .cases j;rfl
     .cases j
    .split at j
     .split at j
      .unfold cX at j
       repeat' (first|(cases j;rfl)|(cases j;done)|split at j)
      .cases j
     .cases j
    .repeat' (first|(cases j;rfl)|(cases j;done)|split at j)
    .repeat' (first|(cases j;rfl)|(cases j;done)|split at j)
    .split at j
     .rw[T3]at j;obtain⟨K1,D,E⟩:=j;cases E;unfold fj at D
      repeat' (first|(cases D;rfl)|(cases D;done)|split at D)
     .cases j
    .cases j
  .split at h<;>cases h
  .cases h
 |makeFunc Y first Z=>cases Y<;>simp only[aV]at h<;>(try split at h)<;>cases h<;>rfl
 |makeMap t r=>
  cases r with
  |none=>simp only[aV]at h;cases h;rfl
  |some r=>simp[aV]at h
 |mapUpdate t m k x=>
  simp only[aV]at h;cases u:eX P H t (ρ m) (ρ k) (ρ x)with
  |none=>rw[u]at h;cases h
  |some K=>rw[u]at h;cases h;obtain⟨c,y,N,_,_,rfl,_⟩:=lK u;rfl
 |next S s=>
  cases s with
  |false=>simp[aV]at h
  |true=>
   simp only[aV]at h;cases u:iq H (ρ S)with
   |none=>rw[u]at h;cases h
   |some r=>obtain⟨O,K⟩:=r;rw[u]at h;cases h;obtain⟨c,y,_,_,⟨rfl,_⟩|⟨N,rfl,_⟩⟩:=rP u<;>rfl
 |buildSlice t len B=>
  simp only[aV]at h;split at h
  .split at h
   .split at h
    .rename_i n z _ _ _;cases M:eg n (List.replicate len z) (B.toList.map λp=>(p.1,ρ p.2))with
     |none=>rw[M]at h;cases h
     |some G=>rw[M]at h;cases h;rfl
    .cases h
   .cases h
  .cases h
 |_=>
  simp only[aV]at h
  first
   |(obtain⟨_,rfl⟩:=fo h;rfl)
   |(repeat' (first|(cases h;rfl)|(cases h;done)|(obtain⟨_,rfl⟩:=fo h;rfl)|split at h))
theorem lL(E:ez P call){i:Nat}{D u:List AV}{H H':ae}(h:jz P F call ops base i D H=some (u,H')):H.next<=H'.next:=by
 unfold jz at h;split at h
 .cases h
 .split at h
  .split at h
   .rename_i B;cases h;rw[xv B];exact Fd _
   .split at h
    .rename_i j;cases h;exact E.next _ _ _ _ _ j
    .cases h
   .cases h
  .cases h;exact Fd _
  .cases h
theorem Dm(fit:Fit P F)(hc:ez P call){i:Nat}{τ O:List AV}{H H':ae}{w:World}{σ:bE}{a:Act}(h:jz P F call ops base i τ H=some (O,H'))(S:bv w σ H)(j:cD w σ (aQ σ H) τ a)
  (hb:σ (base+i)=none) (Z:base+i<H.next) {K:Act->World->Prop}
  (hK:∀a' w' σ',cD w' σ' (aQ σ' H') O a'->bv w' σ' H'->eH w σ (aQ σ H) w' σ' (aQ σ' H')->(∀c E,σ' c=some E->σ c=some E\/c=base+i\/H.next<=c)->K a' w'):wpOp P ops Q i K a w:=by
 unfold jz at h;split at h
 .cases h
 .rename_i o ho;unfold wpOp;rw[ho];simp only[];split at h
  .rename_i u;rw[if_pos (iF j u)];left;unfold Oper.wp;split at h
   .rename_i v K' G;cases h;obtain⟨Y,w',σ',N,h2,h3,h4,h5⟩:=AY fit S hb Z (o:=o) (j.eval S.glob) G;have hk:=hK (a.put o.dst Y) w' σ' ((j.mono h4).put o.dst h2) h3 h4 (λc E B=>by
     rcases h5 c E B with M|M
     .exact .inl M
     .exact .inr (.inl M))
    rcases N with N|⟨N,rfl⟩
    .rw[N];exact hk
    .rw[N];exact hk
   .rename_i f args G;split at h
    .rename_i v K' D;cases h;obtain⟨fn,c,hf,hbd⟩:=hc.body _ _ _ _ _ D;obtain⟨vs,N,h2⟩:=Dl fit (o:=o) (b:=base+i) (j.eval S.glob) G hf hbd;rw[N];refine(hc.ok _ _ _ _ _ D w σ vs S h2).mono ?_;rintro e w' ⟨Y,σ',rfl,g1,g2,g3,g4⟩;exact hK (a.put o.dst Y) w' σ' ((j.mono g3).put o.dst g1) g2 g3 (λc E B=>by
      rcases g4 c E B with M|M
      .exact .inl M
      .exact .inr (.inr M))
    .cases h
   .cases h
  .rename_i u;rw[if_neg (by rw[iF j u];simp)];cases h;exact hK _ w σ (j.put o.dst kH) S (eH.refl _ _ _) (λc E B=>.inl B)
  .cases h
theorem AZ(B:ez P call):∀(l:List Nat) (u:List AV) (H:ae) (j:List AV) (H':ae),lH P F call ops base l u H=some (j,H')->H.next<=H'.next
 |[],u,H,j,H',h=>by cases h;exact Fd _
 | i::l,u,H,j,H',h=>by
  unfold lH at h;split at h
  .rename_i D G E;exact SK (lL B E) (AZ B l _ _ _ _ h)
  .cases h
theorem xw(fit:Fit P F)(Y:ez P call):∀(l:List Nat) (S:List AV) (H:ae) (u:List AV) (H':ae),lH P F call ops base l S H=some (u,H')->l.Nodup->∀(w:World) (σ:bE) (a:Act),
  bv w σ H->cD w σ (aQ σ H) S a->(∀i∈l,σ (base+i)=none/\base+i<H.next)->(∀Z w' σ',cD w' σ' (aQ σ' H') u Z->bv w' σ' H'->eH w σ (aQ σ H) w' σ' (aQ σ' H')->
   (∀c B,σ' c=some B->σ c=some B\/(∃i∈l,c=base+i)\/H.next<=c)->Q .normal Z w')->wpOps P ops Q l a w
 | [],S,H,u,H',h,_,w,σ,a,hW,hτ,_,hQ=>by cases h;exact hQ a w σ hτ hW (eH.refl _ _ _) (λc B G=>.inl G)
 | i::l,S,H,u,H',h,hnd,w,σ,a,hW,hτ,hfr,hQ=>by
  unfold lH at h;split at h
  .rename_i τ1 H1 hs;rw[wpOps_cons];refine Dm fit Y hs hW hτ (hfr i Ud).1 (hfr i Ud).2 λa1 w1 M t1 r1 e1 n1=>?_
   have D:=Tc.1 hnd;refine xw fit Y l τ1 H1 u H' h D.2 w1 M a1 r1 t1 (λj hj=>?_) (λZ w' σ' t2 r2 e2 n2=>hQ Z w' σ' t2 r2 (e1.trans e2) (λc B G=>?_))
   .have hji:j≠i:=by rintro rfl;exact D.1 hj
    have N:=hfr j (by simp[hj]);refine⟨?_,SW N.2 (lL Y hs)⟩;cases hs1:M (base+j)with
    |none=>rfl
    |some B=>
     rcases n1 _ B hs1 with E|E|E
     .rw[N.1]at E;cases E
     .omega
     .omega
   .rcases n2 c B G with E|⟨q,hq,rfl⟩|E
    .rcases n1 c B E with O|O|O
     .exact .inl O
     .exact .inr (.inl ⟨i,Ud,O⟩)
     .exact .inr (.inr O)
    .exact .inr (.inl ⟨q,by simp[hq],rfl⟩)
    .exact .inr (.inr (SK (lL Y hs) E))
  .cases h
def Dn:Ex->Exit
 |.normal=>.normal
 |.exit id=>.exit id
 |.ret=>.ret
def cO(P:Program)(c:Code)(τ:List AV)(H:ae)(e:Ex)(τ':List AV)(H':ae):Prop:=
 H.next<=H'.next/\∀(w:World) (σ:bE) (a:Act),bv w σ H->cD w σ (aQ σ H) τ a->∀Q:Exit->Act->World->Prop,(∀a' w',pU w σ H τ' H' a' w'->Q (Dn e) a' w')->c.wp P Q a w
theorem pU.refl{w:World}{σ:bE}{H:ae}{u:List AV}{a:Act}(B:bv w σ H)(j:cD w σ (aQ σ H) u a):pU w σ H u H a w:=⟨σ,j,B,eH.refl _ _ _,λc D h=>.inl h⟩
theorem fY(fit:Fit P F)(Y:ez P call){u:List AV}{H:ae}{j:List AV}{H':ae}{id:Nat}(h:dJ P F call ops false u H=some (j,H')):cO P (.region id ops false) u H .normal j H':=by
 simp only[dJ,SO,if_false]at h;refine⟨SK (S7 _ _) (AZ Y _ _ _ _ _ h),λw σ a Z E Q hQ=>?_⟩;have M:bv w σ {H with next:=H.next+ops.size}:=Z.congr (λ_=>rfl) (S7 _ _);have O:aQ σ {H with next:=H.next+ops.size}=aQ σ H:=aQ.congr λ_=>rfl
 refine wp_region (xw fit Y _ u _ j H' h List.nodup_range w σ a M (by rw[O];exact E) (λi S=>?_) (λa' w' B t r e n=>hQ a' w' ⟨B,t,r,by rw[O]at e;exact e,λc D G=>?_⟩))
 .rw[Tw]at S;refine⟨?_,Nat.add_lt_add_left S _⟩;cases hs:σ (H.next+i)with
  |none=>rfl
  |some D=>have:=Z.named _ D hs;omega
 .rcases n c D G with N|⟨i,_,rfl⟩|N
  .exact .inl N
  .exact .inr (S7 _ _)
  .exact .inr (SK (S7 _ _) N)
theorem pU.trans{w N M:World}{σ j:bE}{H G S:ae}{u:List AV}{O:Act}(e:eH w σ (aQ σ H) N j (aQ j G))(n:∀c B,j c=some B->σ c=some B\/H.next<=c)(Z:H.next<=G.next)(h:pU N j G u S O M):pU w σ H u S O M:=by
 obtain⟨D,t,r,e2,Y⟩:=h;refine⟨D,t,r,e.trans e2,λc B hc=>?_⟩;rcases Y c B hc with E|E
 .exact n c B E
 .exact .inr (SK Z E)
def kI(tmps:Array Value):ResultVar->Sem Value
 |.tmp t=>Pure.pure (tmps.getD t undef)
 |.cell a t=>do loadVar t (<-asAddr (tmps.getD a undef))
theorem Ft(u:Func)(j:Array Value):results u j=(do let vs<-u.results.mapM (kI j);Pure.pure (if h:vs.size=1 then vs[0]else .tuple vs)):=by unfold results;congr 2
theorem BS{w:World}{σ:bE}{H:ae}(G:bv w σ H){M:List AV}{a:Act}(D:cD w σ (aQ σ H) M a)(r:ResultVar){v:AV}(h:jA P M H r=some v):
  ∃v',(kI a.tmps r).run P w=.ok v' w/\bn w σ (aQ σ H) v v':=by
 cases r with
 |tmp t=>cases h;exact⟨_,rfl,D.eval G.glob (.tmp t)⟩
 |cell x t=>
  simp only[jA]at h;have j:=D.eval G.glob (.tmp x);simp only[jr,Act.eval]at j;obtain⟨v',E,N⟩:=xp G j h;refine⟨v',?_,N⟩;unfold mg at h;split at h
  .rename_i B;rw[B]at j;simp only[kI];generalize a.tmps.getD x undef=u at j E;cases j;simpa[Instr.loadAt,Instr.sureAddr,asAddr]using E
  .rename_i B;rw[B]at j;simp only[kI];generalize a.tmps.getD x undef=u at j E;cases j;simpa[Instr.loadAt,Instr.sureAddr,asAddr]using E
  .cases h
theorem resultList{w:World}{σ:bE}{H:ae}(G:bv w σ H){D:List AV}{a:Act}(j:cD w σ (aQ σ H) D a):∀(B:List ResultVar) (vs:List AV),cf (B.map (jA P D H))=some vs->
  ∃us:List Value,(B.mapM (kI a.tmps)).run P w=.ok us w/\eG w σ (aQ σ H) vs us
 |[],vs,h=>by cases h;exact⟨[],rfl,rfl,Ud⟩
 | r::B,vs,h=>by
  simp only[Sx]at h;cases E:jA P D H r with
  |none=>rw[E]at h;cases h
  |some v=>
   rw[E]at h;simp only[cf]at h;split at h
   .rename_i l S;cases h;obtain⟨v',Z,h2⟩:=BS G j r E;obtain⟨us,Y,M⟩:=resultList G j B l S;refine⟨v'::us,?_,by simp[M.1],λi x u O N=>?_⟩
    .rw[List.mapM_cons];simp only[S4,Z,SI,Y,Tj]
    .match i with
     |0=>cases O;cases N;exact h2
     |i+1=>exact M.2 i x u (by simpa using O) (by simpa using N)
   .cases h
theorem pV{w:World}{σ:bE}{H:ae}(O:bv w σ H){N:List AV}{a:Act}(B:cD w σ (aQ σ H) N a){S:Func}{v:AV}(h:kB P N H S.results.toList=some v):
  ∃v',(results S a.tmps).run P w=.ok v' w/\bn w σ (aQ σ H) v v':=by
 unfold kB at h;rw[Ft,Array.mapM_eq_mapM_toList];split at h
 .rename_i Z D;cases h;obtain⟨us,M,j⟩:=resultList O B _ _ D;have G:=j.1
  match us,G with
  |[u],_=>exact⟨u,by simp[M],j.2 0 _ u rfl rfl⟩
 .rename_i Y E D;cases h;obtain⟨us,M,j⟩:=resultList O B _ _ D;have G:us.length≠1:=by
   rw[<-j.1];intro h
   match Y,h with
   |[x],_=>exact E x rfl
  exact⟨.tuple us.toArray,by simp[M,G],.tup _ _ j.1 j.2⟩
 .cases h
theorem rQ{ex:Code->List AV->ae->Option (Ex×List AV×ae)}{Good:Code->Prop}(N:∀(g:Nat) (G:Func) (c:Code),P.funcs[g]? =some G->G.body=some c->Good c)
  (h:∀c τ H e B H',Good c->ex c τ H=some (e,B,H')->cO P c τ H e B H'):ez P (mV P ex):=by
 have key:∀f j H v H',mV P ex f j H=some (v,H')->∃G c e B K,P.funcs[f]? =some G/\G.body=some c/\ex c (j++List.replicate (G.ntmps-j.length) bK) {H with log:=[]}=some (e,B,K)/\
   (e=.normal\/e=.ret)/\kB P B K G.results.toList=some v/\H'.next=K.next/\∀b,H'.get b=K.get b:=by
  intro f j H v H' E;unfold mV at E;split at E
  .rename_i G Y;split at E
   .rename_i c Z;split at E
    .cases E
    .rename_i e B K hne O;split at E
     .rename_i v0 hr;cases E;refine⟨G,c,e,B,K,Y,Z,O,?_,hr,rfl,λ_=>rfl⟩;cases e with
      |normal=>exact .inl rfl
      |ret=>exact .inr rfl
      |exit id=>exact absurd rfl (hne id)
     .cases E
    .cases E
   .cases E
  .cases E
 refine⟨λf j H v H' E=>?_,λf j H v H' E=>?_,λf j H v H' E=>?_⟩
 .obtain⟨G,c,e,B,K,Y,Z,O,he,hr,hn,hg⟩:=key f j H v H' E;obtain⟨n1,k1⟩:=h _ _ _ _ _ _ (N _ _ _ Y Z) O;intro w σ vs hW S;have ho:aQ σ {H with log:=[]}=aQ σ H:=aQ.congr λ_=>rfl
  refine calls_of_wp Y Z (k1 w σ _ (hW.congr (λ_=>rfl) (Fd _)) ⟨?_,rfl⟩ _ λa' w' haf=>?_)
  .rw[ho];refine⟨by simp[S.1],λi x u h1 h2=>?_⟩;simp only[Array.toList_append,Array.toList_replicate]at h2;rcases Fn i j.length with hi|hi
   .rw[SE hi]at h1;rw[SE (by rw[<-S.1];exact hi)]at h2;exact S.2 i x u h1 h2
   .rw[SA hi,TR]at h1;rw[SA (by rw[<-S.1];exact hi),TR]at h2;split at h1
    .split at h2
     .cases h1;cases h2;exact kH
     .cases h2
    .cases h1
  .obtain⟨D,t1,r1,e1,m1⟩:=haf;obtain⟨v',g1,g2⟩:=pV (P:=P) r1 t1 hr;have hoK:aQ D H'=aQ D K:=aQ.congr hg;have M:a'.defers=[]/\∃v,(results G a'.tmps).run P w'=.ok v w'/\∃v' D,Ending.returned v=.returned v'/\bn w' D (aQ D H') _ v'/\bv w' D H'/\eH w σ (aQ σ H) w' D (aQ D H')/\∀c pl,D c=some pl->σ c=some pl\/H.next<=c:=
    ⟨t1.2,v',g1,v',D,rfl,by rw[hoK];exact g2,r1.congr hg (by rw[hn];exact Fd _),by rw[hoK];rw[ho]at e1;exact e1,m1⟩
   rcases he with rfl|rfl
   .exact M
   .exact M
 .obtain⟨G,c,e,B,K,Y,Z,O,he,hr,hn,hg⟩:=key f j H v H' E;rw[hn];exact(h _ _ _ _ _ _ (N _ _ _ Y Z) O).1
 .obtain⟨G,c,e,B,K,Y,Z,_⟩:=key f j H v H' E;exact⟨G,c,Y,Z⟩
end
end
section
def Bd(H:ae):Prop:=∀b,H.next<=b->H.get b=none
structure vc(H H':ae):Prop where
 next:H.next<=H'.next
 dom:∀b,b<H.next->H.get b=none->H'.get b=none
 keep:∀b,b<H.next->b∉H'.log->H'.get b=H.get b
 log:∀b,b∈H.log->b∈H'.log
 bd:Bd H->Bd H'
theorem vc.refl(H:ae):vc H H:=⟨Fd _,λ_ _ h=>h,λ_ _ _=>rfl,λ_ h=>h,λh=>h⟩
theorem vc.trans{H H' H'':ae}(h:vc H H')(k:vc H' H''):vc H H'':=
  ⟨SK h.next k.next,λb j D=>k.dom b (SW j h.next) (h.dom b j D),
   λb j u=>(k.keep b (SW j h.next) u).trans (h.keep b j (λB=>u (k.log b B))),λb j=>k.log b (h.log b j),λj=>k.bd (h.bd j)⟩
section
variable {P:Program} {F:TypeId->Option (List TypeId)}
structure xx(o:Op)(ρ:Operand->AV)(b:Nat)(H H':ae):Prop where
 next:H'.next=H.next
 keep:∀c,c≠b->c∉aD o ρ->H'.get c=H.get c
 keepL:∀c,c≠b->c∉H'.log->H'.get c=H.get c
 dom:∀c,c≠b->H.get c=none->H'.get c=none
 log:∀c,c∈H.log->c∈H'.log
theorem xx.same(o:Op)(ρ:Operand->AV)(b:Nat)(H:ae):xx o ρ b H H:=⟨rfl,λ_ _ _=>rfl,λ_ _ _=>rfl,λ_ _ h=>h,λ_ h=>h⟩
theorem xx.new(o:Op)(ρ:Operand->AV)(b:Nat)(H:ae)(x:Blk):xx o ρ b H (H.new b x):=
 ⟨rfl,λc j _=>by rw[ae.get_new,if_neg (λe=>j e.symm)],λc j _=>by rw[ae.get_new,if_neg (λe=>j e.symm)],λc j h=>by rw[ae.get_new,if_neg (λe=>j e.symm)];exact h,λ_ h=>h⟩
theorem xx.put{o:Op}{ρ:Operand->AV}{b c:Nat}{H:ae}{y:Blk}(D:Blk)(E:H.get c=some y)(G:c∈aD o ρ):xx o ρ b H (H.put c (some D)):=by
 refine⟨rfl,λd B M=>?_,λd B j=>?_,λd B u=>?_,λd j=>Tv _ j⟩
 .rw[ae.get_put,if_neg (by rintro rfl;exact M G)]
 .rw[ae.get_put,if_neg (by rintro rfl;exact j (by simp[ae.put]))]
 .rw[ae.get_put];split
  .rename_i e;subst e;rw[E]at u;cases u
  .exact u
theorem BT{o:Op}{ρ:Operand->AV}{b:Nat}{H H':ae}{v:AV}(h:aV P F o ρ b H=some (.val v H')):xx o ρ b H H':=by
 cases o with
 |store t a x=>
  simp only[aV]at h;cases B:fW P H t (ρ a) (ρ x)with
  |none=>rw[B]at h;cases h
  |some K=>
   rw[B]at h;cases h;unfold fW at B;split at B
   .rename_i c i off cs n ha hcs N;split at B
    .rename_i y Y;split at B
     .rename_i r hr;split at B
      .cases B;have hw:aD (.store t a x) ρ=[c]:=by simp[aD,ha,af]
       refine⟨rfl,λd M N=>?_,λd M G=>?_,λd M E=>?_,λd G=>Tv _ G⟩
       .rw[ae.get_put,if_neg (by rintro rfl;exact N (by rw[hw];simp))]
       .rw[ae.get_put,if_neg (by rintro rfl;exact G (by simp[ae.put]))]
       .rw[ae.get_put];split
        .rename_i e;subst e;rw[Y]at E;cases E
        .exact E
      .cases B
     .cases B
    .cases B
   .cases B
 |call c=>
  simp only[aV]at h;split at h
  .rename_i bi O;cases j:bj P H b bi c.argTypes (c.args.toList.map ρ)with
   |none=>rw[j]at h;cases h
   |some r=>
    obtain⟨v0,K⟩:=r;rw[j]at h;cases h;unfold bj at j;split at j
    .split at j
     .cases j;exact .same _ _ _ _
     .cases j
    .split at j
     .rw[T3]at j;obtain⟨n,_,N⟩:=j;cases N;exact .same _ _ _ _
     .cases j;exact .same _ _ _ _
     .cases j
    .rename_i s x Z;split at j
     .split at j
      .obtain⟨a0,a1,D,E,h1⟩:=oR Z;unfold cX at j;split at j
       .split at j
        .split at j
         .rename_i l m G hm;split at j
          .split at j
           .split at j
            .cases j;exact .same _ _ _ _
            .cases j;exact .new _ _ _ _ _
           .split at j
            .cases j;exact .same _ _ _ _
            .cases j;exact .new _ _ _ _ _
           .rename_i b' i k;cases j;have hw:aD (.call c) ρ=[b']:=by simp[aD,O,D,E,af]
            refine⟨rfl,λd M N=>?_,λd M G=>?_,λd M E=>?_,λd G=>Tv _ G⟩
            .rw[ae.get_new,if_neg (λe=>M e.symm),ae.get_put,if_neg (by rintro rfl;exact N (by rw[hw];simp))]
            .rw[ae.get_new,if_neg (λe=>M e.symm),ae.get_put,if_neg (by rintro rfl;exact G (by simp[ae.put,ae.new]))]
            .rw[ae.get_new,if_neg (λe=>M e.symm),ae.get_put];split
             .rfl
             .exact E
           .cases j
          .cases j
         .cases j
        .cases j
       .cases j
      .cases j
     .cases j
    .split at j
     .cases j;exact .same _ _ _ _
     .cases j
    .split at j
     .cases j;exact .same _ _ _ _
     .cases j
    .rename_i x Z;split at j
     .rename_i t htt;cases u:fj P H t x with
      |none=>rw[u]at j;cases j
      |some K1=>
       rw[u]at j;cases j;obtain⟨a0,D,E⟩:=oQ Z;unfold fj at u;split at u
       .split at u
        .split at u
         .cases u;exact .same _ _ _ _
         .rename_i d i k;split at u
          .rename_i y Y;split at u
           .cases u;have hw:aD (.call c) ρ=[d]:=by simp[aD,O,D,E,af]
            refine⟨rfl,λd' M N=>?_,λd' M G=>?_,λd' M E=>?_,λd' G=>Tv _ G⟩
            .rw[ae.get_put,if_neg (by rintro rfl;exact N (by rw[hw];simp))]
            .rw[ae.get_put,if_neg (by rintro rfl;exact G (by simp[ae.put]))]
            .rw[ae.get_put];split
             .rename_i e;subst e;rw[Y]at E;cases E
             .exact E
           .cases u
          .cases u
         .cases u
        .cases u
       .cases u
     .cases j
    .cases j
  .split at h<;>cases h
  .cases h
 |makeFunc fn first cap=>cases fn<;>simp only[aV]at h<;>(try split at h)<;>cases h<;>exact .same _ _ _ _
 |makeMap t r=>
  cases r with
  |none=>simp only[aV]at h;cases h;exact .new _ _ _ _ _
  |some r=>simp[aV]at h
 |mapUpdate t m k x=>
  simp only[aV]at h;cases B:eX P H t (ρ m) (ρ k) (ρ x)with
  |none=>rw[B]at h;cases h
  |some K=>rw[B]at h;cases h;obtain⟨c,y,y',hm,Y,rfl,_⟩:=lK B;exact .put _ Y (by simp[aD,hm,af])
 |next it s=>
  cases s with
  |false=>simp[aV]at h
  |true=>
   simp only[aV]at h;cases B:iq H (ρ it)with
   |none=>rw[B]at h;cases h
   |some r=>
    obtain⟨v0,K⟩:=r;rw[B]at h;cases h;obtain⟨c,y,hm,Y,⟨rfl,_⟩|⟨y',rfl,_⟩⟩:=rP B
    .exact .same _ _ _ _
    .exact .put _ Y (by simp[aD,hm,af])
 |buildSlice t len S=>
  simp only[aV]at h;split at h
  .split at h
   .split at h
    .rename_i n z _ _ _;cases hf:eg n (List.replicate len z) (S.toList.map λp=>(p.1,ρ p.2))with
     |none=>rw[hf]at h;cases h
     |some rows=>rw[hf]at h;cases h;exact .new _ _ _ _ _
    .cases h
   .cases h
  .cases h
 |_=>
  simp only[aV]at h
  first
   |(obtain⟨_,rfl⟩:=fo h;exact .same _ _ _ _)
   |(repeat' (first|(cases h;exact .same _ _ _ _)|(cases h;exact .new _ _ _ _ _)|(cases h;done)|(obtain⟨_,rfl⟩:=fo h;exact .same _ _ _ _)|split at h))
theorem fN(base j:Nat):∀(k:Nat) (H:ae),(dG base j k H).next=H.next/\(dG base j k H).log=H.log
 |0,H=>⟨rfl,rfl⟩
 | k+1,H=>by
  unfold dG;split
  .exact fN base j k H
  .exact fN base j k _
theorem gS(base u:Nat):∀(k:Nat) (H:ae) (c:Nat),(dG base u k H).get c=if(∃j,j<k/\u.testBit j=false/\c=base+j)then none else H.get c
 |0,H,c=>by simp[dG]
 | k+1,H,c=>by
  unfold dG;rw[gS base u k];by_cases O:∃j,j<k/\u.testBit j=false/\c=base+j
  .obtain⟨j,N⟩:=O;rw[if_pos ⟨j,N⟩,if_pos ⟨j,Ua,N.2⟩]
  .rw[if_neg O];by_cases M:u.testBit k=true
   .rw[if_pos M,if_neg];rintro⟨j,N,G,D⟩;by_cases B:j=k
    .subst B;rw[M]at G;cases G
    .exact O ⟨j,Ua,G,D⟩
   .rw[if_neg M];show(H.tr.set (base+k) none).get c=_;rw[Tr.get_set];by_cases D:base+k=c
    .rw[if_pos D,if_pos ⟨k,Ua,by simpa using M,D.symm⟩]
    .rw[if_neg D,if_neg]
     .rfl
     rintro⟨j,N,G,E⟩;by_cases B:j=k
     .subst B;exact D E.symm
     .exact O ⟨j,Ua,G,E⟩
theorem gF(base j:Nat)(H:ae):∀(k:Nat) (K:ae),(iu base j H k K).next=K.next/\(iu base j H k K).log=K.log
 |0,K=>⟨rfl,rfl⟩
 | k+1,K=>by
  unfold iu;split
  .exact gF base j H k K
  .exact gF base j H k _
theorem kJ(base u:Nat)(H:ae):∀(k:Nat) (K:ae) (c:Nat),(iu base u H k K).get c=if(∃j,j<k/\u.testBit j=false/\c=base+j)then H.get c else K.get c
 |0,K,c=>by simp[iu]
 | k+1,K,c=>by
  unfold iu;rw[kJ base u H k];by_cases O:∃j,j<k/\u.testBit j=false/\c=base+j
  .obtain⟨j,N⟩:=O;rw[if_pos ⟨j,N⟩,if_pos ⟨j,Ua,N.2⟩]
  .rw[if_neg O];by_cases M:u.testBit k=true
   .rw[if_pos M,if_neg];rintro⟨j,N,G,D⟩;by_cases B:j=k
    .subst B;rw[M]at G;cases G
    .exact O ⟨j,Ua,G,D⟩
   .rw[if_neg M];show(K.tr.set (base+k) (H.tr.get (base+k))).get c=_;rw[Tr.get_set];by_cases D:base+k=c
    .rw[if_pos D,if_pos ⟨k,Ua,by simpa using M,D.symm⟩,<-D];rfl
    .rw[if_neg D,if_neg]
     .rfl
     rintro⟨j,N,G,E⟩;by_cases B:j=k
     .subst B;exact D E.symm
     .exact O ⟨j,Ua,G,E⟩
structure MQ(B:Nat)(W:Nat->Prop)(H H':ae):Prop where
 next:H.next<=H'.next
 dom:∀b,b<B->H.get b=none->H'.get b=none
 keep:∀b,b<B->¬W b->H'.get b=H.get b
 bd:Bd H->Bd H'
theorem MQ.refl(B:Nat)(W:Nat->Prop)(H:ae):MQ B W H H:=⟨Fd _,λ_ _ h=>h,λ_ _ _=>rfl,λh=>h⟩
theorem MQ.trans{B:Nat}{W u:Nat->Prop}{H H' H'':ae}(h:MQ B W H H')(k:MQ B u H' H'')(G:∀b,W b->u b):MQ B u H H'':=
 ⟨SK h.next k.next,λb j M=>k.dom b j (h.dom b j M),λb j D=>(k.keep b j D).trans (h.keep b j (λE=>D (G b E))),λj=>k.bd (h.bd j)⟩
variable {call:FuncId->List AV->ae->Option (AV×ae)} {ops:Array Oper} {base:Nat}
theorem IW{o:Op}{ρ:Operand->AV}{b:Nat}{H H':ae}{v:AV}(h:aV P F o ρ b H=some (.val v H'))(D:b<H.next)(B:Bd H):Bd H':=by have u:=BT h;intro c j;rw[u.next]at j;exact u.dom c Ua (B c j)
theorem HA(Z:∀f args H v H',Bd H->call f args H=some (v,H')->vc H H'){B i:Nat}{Y G:List AV}{H H':ae}(O:Bd H)(hB:B<=base)(N:base+i<H.next)(h:jz P F call ops base i Y H=some (G,H')):MQ B (·∈H'.log) H H'/\∀c,c∈H.log->c∈H'.log:=by
 unfold jz at h;split at h
 .cases h
 .split at h
  .split at h
   .rename_i E;cases h;have j:=BT E;exact⟨⟨by rw[j.next];exact Fd _,λc u S=>j.dom c Ua S,λc u M=>j.keepL c Ua M,IW E N⟩,j.log⟩
   .split at h
    .rename_i D;cases h;have j:=Z _ _ _ _ _ O D;exact⟨⟨j.next,λc u S=>j.dom c Ua S,λc u M=>j.keep c Ua M,j.bd⟩,j.log⟩
    .cases h
   .cases h
  .cases h;exact⟨.refl _ _ _,λ_ h=>h⟩
  .cases h
theorem Do(N:∀f args H v H',Bd H->call f args H=some (v,H')->vc H H'){B:Nat}(O:B<=base):∀(l:List Nat) (D u:List AV) (H H':ae),Bd H->(∀i∈l,base+i<H.next)->lH P F call ops base l D H=some (u,H')->
  MQ B (·∈H'.log) H H'/\∀c,c∈H.log->c∈H'.log
 |[],D,u,H,H',_,_,h=>by cases h;exact⟨.refl _ _ _,λ_ h=>h⟩
 | i::l,D,u,H,H',hbd,hl,h=>by
  unfold lH at h;split at h
  .rename_i S H1 Z;obtain⟨G,Y⟩:=HA N hbd O (hl i Ud) Z;obtain⟨h2,M⟩:=Do N O l _ _ _ _ (G.bd hbd) (λj hj=>SW (hl j (by simp[hj])) G.next) h;exact⟨G.trans h2 M,λc E=>M c (Y c E)⟩
  .cases h
def touched(r:Option pR)(c:Nat):Prop:=∃x,r=some x/\(c∈x.writes\/c∈x.made\/(x.isCall=true/\x.lo<=c/\c<x.hi))
structure MR(base i:Nat)(H H':ae)(r:Option pR):Prop where
 next:H.next<=H'.next
 log:H'.log=H.log
 keep:Bd H->∀c,¬touched r c->H'.get c=H.get c
 dom:∀c,c<H.next->c≠base+i->H.get c=none->H'.get c=none
 bd:Bd H->Bd H'
 made:∀x,r=some x->(∀c∈x.made,c=base+i)/\(x.isCall=true->x.lo=H.next)
theorem iG(hc:∀f args H v H',Bd H->call f args H=some (v,H')->vc H H'){i j:Nat}{τ τ':List AV}{H H':ae}{r:Option pR}(G:Bd H)(hlt:base+i<H.next)(h:bJ P F call ops base i j τ H=some (τ',H',r)):MR base i H H' r:=by
 unfold bJ at h;split at h
 .cases h
 .rename_i o ho;split at h
  .split at h
   .rename_i v K N;cases h;have B:=BT N;refine⟨by show H.next<=K.next;rw[B.next];exact Fd _,rfl,λ_ c hn=>?_,λc _ hcb E=>B.dom c hcb E,λE c u=>IW N hlt E c u,λx Y=>?_⟩
    .refine B.keep c (λe=>hn ⟨_,rfl,.inr (.inl (by simp[e]))⟩) (λhw=>hn ⟨_,rfl,.inl hw⟩)
    .cases Y;exact⟨Ud,Ud⟩
   .rename_i f args N;split at h
    .rename_i v K S;cases h;have D:(dG base j i H).next=H.next:=(fN base j i H).1
     have hbd1:Bd ({dG base j i H with log:=[]}:ae):=λd M=>by
      show(dG base j i H).get d=none;rw[gS];split
      .rfl
      .exact G d (by simp only[D]at M;exact M)
     have B:=hc _ _ _ _ _ hbd1 S;have Z:=B.next;simp only[D]at Z;refine⟨by show H.next<=(iu base j H i K).next;rw[(gF base j H i K).1];exact Z,rfl,λE c hn=>?_,λc u hcb E=>?_,λE c u=>?_,λx Y=>?_⟩
     .show(iu base j H i K).get c=H.get c;rw[kJ];split
      .rfl
      .rename_i hh;have hg:({dG base j i H with log:=[]}:ae).get c=H.get c:=by show(dG base j i H).get c=_;rw[gS,if_neg hh]
       rcases Fn c H.next with u|u
       .by_cases hl:c∈K.log
        .cases hgc:(dG base j i H).get c with
         |none=>have h1:({dG base j i H with log:=[]}:ae).get c=none:=hgc;rw[B.dom c (by simp only[D];exact u) h1,<-hg,h1]
         |some y=>exact absurd ⟨_,rfl,.inl (TT.2 ⟨hl,by simp[hgc]⟩)⟩ hn
        .rw[B.keep c (by simp only[D];exact u) hl];exact hg
       .rcases Fn c K.next with O|O
        .exact absurd ⟨_,rfl,.inr (.inr ⟨rfl,u,O⟩)⟩ hn
        .have G:Bd ({dG base j i H with log:=[]}:ae):=λd M=>by
          show(dG base j i H).get d=none;rw[gS];split
          .rfl
          .exact E d (by simp only[D]at M;exact M)
         rw[B.bd G c O,E c u]
     .show(iu base j H i K).get c=none;rw[kJ];split
      .exact E
      .rename_i hh;refine B.dom c (by simp only[D];exact u) ?_;show(dG base j i H).get c=none;rw[gS,if_neg hh];exact E
     .show(iu base j H i K).get c=none;have hcn':K.next<=c:=by
       have:(iu base j H i K).next<=c:=u
       rwa [(gF base j H i K).1]at this
      rw[kJ];split
      .exact E c Ua
      .have G:Bd ({dG base j i H with log:=[]}:ae):=λd M=>by
        show(dG base j i H).get d=none;rw[gS];split
        .rfl
        .exact E d (by simp only[D]at M;exact M)
       exact B.bd G c hcn'
     .cases Y;exact⟨Ud,λ_=>rfl⟩
    .cases h
   .cases h
  .cases h;exact⟨Fd _,rfl,λ_ _ _=>rfl,λ_ _ _ h=>h,λh=>h,λx Y=>by cases Y⟩
  .cases h
theorem tM(Y:∀f args H v H',Bd H->call f args H=some (v,H')->vc H H'){B:Nat}(hB:B<=base){D:List Nat}:∀(l:List Nat) (τ E:List AV) (H K:ae) (O u:List pR),Bd H->(∀i∈l,base+i<H.next)->B<=H.next->
  ey P F call ops base D l τ H O=some (E,K,u)->H.next<=K.next/\K.log=H.log/\Bd K/\(∀b,b<B->H.get b=none->K.get b=none)/\(∀b,b<B->b∉u.flatMap (·.writes)->K.get b=H.get b)/\(∀x∈O,x∈u)
 |[],τ,E,H,K,O,u,hbd,_,_,h=>by cases h;exact⟨Fd _,rfl,hbd,λ_ _ h=>h,λ_ _ _=>rfl,λ_ h=>h⟩
 | i::l,τ,E,H,K,O,u,hbd,hl,hBn,h=>by
  unfold ey at h;split at h
  .rename_i τ1 H1 hs;have d:=iG Y hbd (hl i Ud) hs;obtain⟨a1,a2,a3,a4,a5,Z⟩:=tM Y hB l _ _ _ _ _ _ (d.bd hbd) (λj hj=>SW (hl j (by simp[hj])) d.next) (SK hBn d.next) h;refine⟨SK d.next a1,a2.trans d.log,a3,λb M h0=>a4 b M (d.dom b Ua Ua h0),λb M S=>(a5 b M S).trans (d.keep hbd b ?_),Z⟩;rintro⟨x,G,_⟩;cases G
  .rename_i τ1 H1 r hs;split at h
   .have d:=iG Y hbd (hl i Ud) hs;obtain⟨a1,a2,a3,a4,a5,Z⟩:=tM Y hB l _ _ _ _ _ _ (d.bd hbd) (λj hj=>SW (hl j (by simp[hj])) d.next) (SK hBn d.next) h;refine⟨SK d.next a1,a2.trans d.log,a3,λb M h0=>a4 b M (d.dom b Ua Ua h0),λb M S=>(a5 b M S).trans (d.keep hbd b ?_),λx G=>Z x (by simp[G])⟩;rintro⟨x,G,N|N|⟨N,h2,_⟩⟩
    .cases G;exact S (List.mem_flatMap.2 ⟨r,Z r Ud,N⟩)
    .have:=(d.made x G).1 b N;omega
    .have:=(d.made x G).2 N;omega
   .cases h
  .cases h
theorem Fu(M:∀f args H v H',Bd H->call f args H=some (v,H')->vc H H'){u:Bool}{O E:List AV}{H H':ae}(G:Bd H)(h:dJ P F call ops u O H=some (E,H')):vc H H':=by
 have j:Bd {H with next:=H.next+ops.size}:=λb D=>G b (SK (S7 _ _) D)
 cases u with
 |false=>simp only[dJ,SO,if_false]at h;obtain⟨o,l⟩:=Do M (Fd H.next) _ _ _ _ _ j (λi B=>by rw[Tw]at B;exact Nat.add_lt_add_left B _) h;exact⟨SK (S7 _ _) o.next,o.dom,o.keep,l,λ_=>o.bd j⟩
 |true=>
  simp only[dJ,if_true]at h;split at h
  .rename_i N K rs Z;cases h;obtain⟨a1,a2,a3,a4,a5,_⟩:=tM M (Fd H.next) _ _ _ _ _ _ _ j (λi B=>by rw[Tw]at B;exact Nat.add_lt_add_left B _) (S7 _ _) Z;refine⟨SK (S7 _ _) a1,a4,λb D Y=>a5 b D (λS=>Y ?_),λb D=>?_,λ_=>a3⟩
   .simp only[SC];exact .inl S
   .simp only[SC];right;rw[a2];exact D
  .cases h
theorem xy{M:Code->List AV->ae->Option (Ex×List AV×ae)}(h:∀c N H e u H',Bd H->M c N H=some (e,u,H')->vc H H'){f:FuncId}{args:List AV}{H:ae}{v:AV}{H':ae}(B:Bd H)
  (j:mV P M f args H=some (v,H')):vc H H':=by
 unfold mV at j;split at j
 .split at j
  .split at j
   .cases j
   .rename_i e u K O G;split at j
    .cases j;have D:=h _ _ {H with log:=[]} _ _ _ B G;refine⟨D.next,D.dom,λb E S=>D.keep b E (λY=>S ?_),λb E=>?_,λ_=>D.bd B⟩
     .simp only[SC,TT,decide_eq_true_eq];exact .inl ⟨Y,E⟩
     .simp only[SC];exact .inr E
    .cases j
   .cases j
  .cases j
 .cases j
end
end
end Go.Proofs.YtbofdbhnbodbiaaGreatDoor.Am
