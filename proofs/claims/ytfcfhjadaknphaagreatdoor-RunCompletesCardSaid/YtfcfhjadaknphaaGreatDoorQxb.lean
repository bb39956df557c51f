/- part -/
import Derived.Test.YtfcfhjadaknphaaGreatDoorQxa
import Derived.IntWalk
import Derived.Deep.AppendSrc
import Derived.MapKept
import Derived.Carry
import Derived.Lib.OthersKept
import Derived.Laws.RangeString
import Derived.LoopN
import Derived.Test.YtfcfhjadaknphaaGreatDoorRows
import Derived.WalkKit
import Derived.ProofKit
import Derived.OpenShut
import Derived.Outline
import Derived.Lib.Hide
import Derived.Deep.Slices
import Derived.Deep.Fields
import Derived.ChangeSame
import Derived.Deep.Draws
import Derived.Laws.AppendOwn
set_option linter.all false
set_option maxRecDepth 100000
set_option maxHeartbeats 0
namespace Go.Proofs.YtfcfhjadaknphaaGreatDoor.Am
section
section
variable {P:Program} {w:World} {σ:bR} {T:Nat->Prop} {H:af} {b:Nat}
theorem pw{n:Nat}{ρ:Operand->AV}{u:Operand->Value}(E:∀x,bN w σ T (ρ x) (u x)):∀(ps:List (Nat×Operand)) (rows r:List (List AV)) (j:Array Value),
  Flat w σ T rows n j.toList->fw n rows (ps.map λp=>(p.1,ρ p.2))=some r->
  ∃O:Array Value,Instr.fill (λi=>some (i*n,n)) j (ps.map λp=>(p.1,u p.2))=some O/\Flat w σ T r n O.toList/\r.length=rows.length
 |[],rows,r,j,hc,h=>by cases h;exact⟨j,rfl,hc,rfl⟩
 | (i,x)::ps,rows,r,j,hc,h=>by
  simp only[WS,fw]at h;split at h
  .rename_i cs S;split at h
   .rename_i Z;obtain⟨M,G,_⟩:=Z;have Y:=(E x).cells S;have e1:(u x).cells.size=n:=by rw[<-Array.length_toList,<-Y.1,M]
    have e2:j.size=rows.length*n:=by rw[<-Array.length_toList,hc.len]
    have hin:i*n+n<=rows.length*n:=by have:(i+1)*n<=rows.length*n:=Xa _ G;rw[XD]at this;omega
    have B:((u x).cells.zipIdx.foldl (λ(cs:Array Value) (p:Value×Nat)=>cs.setIfInBounds (i*n+p.2) p.1) j).toList=j.toList.take (i*n)++(u x).cells.toList++j.toList.drop (i*n+(u x).cells.toList.length):=by have:=vX (u x).cells.toList 0 (i*n) j YH;rw[<-Array.foldl_toList,Array.toList_zipIdx];simpa using this
    obtain⟨O,h1,h2,h3⟩:=pw E ps (rows.set i cs) r _ (by rw[B];exact hc.set G M Y) h;refine⟨O,?_,h2,by simpa using h3⟩;have D:(decide ((u x).cells.size≠n)||decide (i*n+(u x).cells.size > j.size))=false:=by simp[e1,e2];omega
    simp only[WS,Instr.fill,D,W7,if_false];exact h1
   .cases h
  .cases h
theorem Iu{x:Blk}{cs:Array Value}{e:TypeId}{k j:Nat}(D:k<=j)(u:j<=maxLen)(B:j*x.size<=cs.size):
  bN (World.push w (.cells cs e (0,0))) (σ.set b ⟨w.heap.size,0,x.size⟩) (bB (σ.set b ⟨w.heap.size,0,x.size⟩) (H.new b x)) (.sl b 0 k) (.slice (some ⟨w.heap.size,0,none⟩) k j):=by
 refine bN.sl b 0 k ⟨w.heap.size,0,x.size⟩ _ j (bR.set_eq _ _ _) (.inl rfl) D u λ_=>⟨YF,cs,e,?_,by simpa using B⟩
 show(w.heap.push _)[w.heap.size]? =_;simp
theorem yr(hW:bQ w σ H)(hb:σ b=none)(hlt:b<H.next){t e:TypeId}{len n:Nat}{ps:Array (Nat×Operand)}{ρ:Operand->AV}{j:Operand->Value}(O:∀x,bN w σ (bB σ H) (ρ x) (j x))
  {z:List AV} {rows:List (List AV)} (hu:P.underlying t=some (.slice e)) (hn:bj P e=some n) (D:(fa P e).bind AV.cells? =some z) (Y:z.length=n) (h0:0<n) (hl:len*n<=2^24)
  (h:fw n (List.replicate len z) (ps.toList.map λp=>(p.1,ρ p.2))=some rows) :
  Cp P (Instr.buildSlice t len (ps.map λ(i,x)=>(i,j x))) w σ H b (.sl b 0 len) (H.new b ⟨n,rows⟩):=by
 have G:(ps.map λ(i,x)=>(i,j x)).toList=ps.toList.map λp=>(p.1,j p.2):=by simp
 cases B:fa P e with
 |none=>rw[B]at D;cases D
 |some za=>
  rw[B]at D;simp only[XB]at D;obtain⟨z',hz1,Z⟩:=fU (P:=P) (w:=w) (σ:=σ) (T:=bB σ H) B;have S:=Z.cells D;have hlen:len<=2^24:=W5 (Nat.le_mul_of_pos_right len h0) hl;obtain⟨l,e1,e2,e3,_⟩:=Flat.zeros S Y h0 len len (Fd _);have hfl:Flat w σ (bB σ H) (List.replicate len z) n (l.toArray).toList:=by rw[W9 YC]at e3;exact e3
  obtain⟨M,f1,f2,f3⟩:=pw O ps.toList _ rows l.toArray hfl h;have E:M.size=len*n:=by rw[<-Array.length_toList,f2.len,f3];simp
  have hrl:rows.length=len:=by simpa using f3
  refine zP hW hb hlt (cs:=M) (e:=e) (v':=.slice (some ⟨w.heap.size,0,none⟩) len len) (l:=M.toList) ?_ f2 ?_ ?_
  .simp only[];rw[W9 (by rw[Xe,E,hrl];exact Fd _)]
  .have hgt:¬len*n > 2^24:=by omega
   simp only[Instr.buildSlice,Xo,run_underlying hu,W4,dt hn];rw[if_neg hgt];by_cases u:len*n=0
   .have hl0:len=0:=by
     rcases Nat.mul_eq_zero.1 u with h1|h1
     .exact h1
     .omega
    subst hl0;rw[if_pos u];have:l=[]:=by cases l with
     |nil=>rfl
     |cons a l=>simp at e2
    subst this;simp only[Xo,Xz,W4,u,G];have he:(Array.range 0).map (λx=>(#[]:Array Value)[x % (#[]:Array Value).size]!)=([]:List Value).toArray:=by simp
    rw[he,f1];rfl
   .rw[if_neg u];simp only[Xo,hz1,Xz,W4,G];rw[e1,f1];rfl
  .exact Iu (x:=⟨n,rows⟩) (Fd _) (by unfold maxLen;omega) (by rw[E];exact Fd _)
theorem zQ(hW:bQ w σ H)(hb:σ b=none)(hlt:b<H.next){t e:TypeId}{n by_ l c:Nat}{x y:AV}{x' y':Value}(hx:bN w σ (bB σ H) x x')(hy:bN w σ (bB σ H) y y')
  {z:List AV} (hu:P.underlying t=some (.slice e)) (hn:bj P e=some n) (O:iN P e=some by_) (E:(fa P e).bind AV.cells? =some z) (hl:mf x=some l) (hc:mf y=some c)
  (Z:z.length=n) (h0:0<n) (M:l<=c) (hcm:c<=2^62) (hcb:c*by_<=2^48) :
  Cp P (Instr.makeSlice t x' y') w σ H b (.sl b 0 l) (H.new b ⟨n,List.replicate l z⟩):=by
 obtain⟨kl,u,rfl,hl0,rfl⟩:=pr hx hl;obtain⟨kc,j,rfl,hc0,rfl⟩:=pr hy hc;cases B:fa P e with
 |none=>rw[B]at E;cases E
 |some za=>
  rw[B]at E;simp only[XB]at E;cases hi:P.info? e with
  |none=>simp[iN,hi]at O
  |some i=>
  have hib:i.bytes=by_:=by simpa[iN,hi]using O
  obtain⟨z',hz1,hz2⟩:=fU (P:=P) (w:=w) (σ:=σ) (T:=bB σ H) B;have Y:=hz2.cells E;obtain⟨l,e1,e2,e3,_⟩:=Flat.zeros Y Z h0 u.toNat j.toNat M;have wl:IntKind.i64.wrap u=u:=WY _ YC;have wc:IntKind.i64.wrap j=j:=WY _ YC;have S:((decide (j<0)||decide ((i.bytes:Int)*j > 2^48))||decide (u<0)||decide (u > j))=false:=by
   rw[hib];have:((by_:Int)*j)=((j.toNat*by_:Nat):Int):=by rw[Int.natCast_mul,Int.toNat_of_nonneg hc0,Int.mul_comm]
   have h2:((j.toNat*by_:Nat):Int)<=2^48:=by exact_mod_cast hcb
   simp only[Yu,decide_eq_false_iff_not];refine⟨⟨⟨YC,by rw[this];omega⟩,YC⟩,YC⟩
  refine zP hW hb hlt (x:=⟨n,List.replicate u.toNat z⟩) (cs:=l.toArray) (e:=e) (v':=.slice (some ⟨w.heap.size,0,none⟩) u.toNat j.toNat) (l:=l.take (u.toNat*n)) ?_ e3 ?_ ?_
  .simp
  .simp only[Instr.makeSlice,asInt,asIntOf,Xo,run_underlying hu,Xz,W4,ug hi,wl,wc,S,W7,if_false,run_askRoom,dt hn];by_cases D:j.toNat*n=0
   .rw[if_pos D];have G:l=[]:=by cases l with
     |nil=>rfl
     |cons a l=>simp at e2;omega
    subst G;simp only[Xo,Xz,W4,D];have he:(Array.range 0).map (λx=>(#[]:Array Value)[x % (#[]:Array Value).size]!)=([]:List Value).toArray:=by simp
    rw[he];rfl
   .rw[if_neg D];simp only[Xo,hz1,Xz,W4];rw[e1];rfl
  .exact Iu (x:=⟨n,List.replicate u.toNat z⟩) M (by unfold maxLen;omega) (by simp[e2])
theorem zR{m:List (List AV)}{n c o:Nat}(S:∀(i:Nat) (r:List AV),m[i]? =some r->r.length=n)(hc:∀(i:Nat) (r:List AV),m[i]? =some r->FX w σ T r c (o+i*n)):
  ∃l:List Value,(∀D:World,D.heap=w.heap->(loadCells ⟨c,o,none⟩ (m.length*n)).run P D=.ok l.toArray D)/\Flat w σ T m n l:=by
 have E:∀p,∃u,p<m.length*n->w.cell? ⟨c,o+p,none⟩=some u:=λp=>by
  by_cases hp:p<m.length*n
  .have hn:0<n:=by
    rcases XH n with Y|Y
    .subst Y;simp at hp
    .exact Y
   have hi:p / n<m.length:=by rw[Nat.div_lt_iff_lt_mul hn];exact hp
   have B:m[p / n]? =some m[p / n]:=mt hi;have G:p % n<m[p / n].length:=by rw[S _ _ B];exact Nat.mod_lt _ hn
   obtain⟨u,M,_⟩:=hc _ _ B (p % n) _ (mt G);refine⟨u,λ_=>?_⟩;rw[XG,Nat.mul_comm,Nat.div_add_mod]at M;exact M
  .exact⟨undef,λh=>absurd h hp⟩
 let f:=λp=>Classical.choose (E p)
 have hf:∀p,p<m.length*n->w.cell? ⟨c,o+p,none⟩=some (f p):=λp=>Classical.choose_spec (E p)
 refine⟨(List.range (m.length*n)).map f,λD O=>run_loadCells D _ _ f (λj G=>by rw[fT];rw[<-hf j G];unfold World.cell?;rw[O]),⟨YF,S,?_⟩⟩;intro i r j a u B ha Z;have G:j<n:=by rw[<-S i r B];exact aF ha
 have hp:=pt (aF B) G;rw[W6,Yz hp]at Z;cases Z;obtain⟨u,M,h2⟩:=hc i r B j a ha;rw[XG,hf _ hp]at M;cases M;exact h2
theorem Dr(hW:bQ w σ H){n:Nat}{x:AV}{x':Value}{m:List (List AV)}(M:bN w σ (bB σ H) x x')(h:gV H n x=some m):
  ∃(A:Option Addr) (j:Nat) (l:List Value),x'=.slice A m.length j/\(∀B:World,B.heap=w.heap->(Builtin.firstCells n m.length x').run P B=.ok l.toArray B)/\Flat w σ (bB σ H) m n l:=by
 unfold gV at h;split at h
 .cases h;cases M;exact⟨none,0,[],rfl,λ_ _=>rfl,Flat.nil n⟩
 .cases h;cases M with
  |emp A=>exact⟨A,0,[],rfl,λB _=>by cases A<;>simp[Builtin.firstCells,loadCells,loadCellsFrom],Flat.nil n⟩
 .rename_i rows;split at h
  .cases h;obtain⟨A,j,rfl,_,_,_⟩:=M.lst_inv;refine⟨A,j,[],rfl,?_,Flat.nil n⟩;intro B _;cases A<;>simp[Builtin.firstCells,loadCells,loadCellsFrom]
  .rename_i r rs;split at h
   .rename_i hr;cases h;obtain⟨A,j,rfl,hn,hm,ha⟩:=M.lst_inv;obtain⟨b,o,sz,rfl,hl,S⟩:=ha YF;obtain rfl:r.length=sz:=hl.even 0 r rfl;subst hr;obtain⟨l,Z,h2⟩:=zR (P:=P) (o:=o) (c:=b) hl.even (λi q D=>hl.row S D);exact⟨_,j,l,rfl,λB E=>by simp only[Builtin.firstCells];exact Z B E,h2⟩
   .cases h
 .rename_i b' i k;split at h
  .rename_i y hy;split at h
   .rename_i G;obtain⟨O,hik⟩:=G;cases h;obtain⟨pl,a,j,rfl,hs,hn,hm,ha⟩:=M.sl_inv;obtain⟨pl',cs',e',g1,Y⟩:=hW.live b' y hy;rw[hs]at g1;cases g1;replace Y:=Y.1 (M.sl_ok hs);have u:((y.rows.drop i).take k).length=k:=by simp;omega
    rw[u];have get:∀(q:Nat) (r:List AV),((y.rows.drop i).take k)[q]? =some r->y.rows[i+q]? =some r:=λq r D=>by
     have hi:=aF D;rw[u]at hi
     rwa [Xt hi,XE]at D
    rcases XH k with hk|hk
    .subst hk;exact⟨_,j,[],rfl,λB _=>by simp[Builtin.firstCells,loadCells,loadCellsFrom],by simpa using Flat.nil n⟩
    .obtain⟨rfl,cs,ty,hc,hr⟩:=ha YC;obtain⟨l,Z,h2⟩:=zR (P:=P) (w:=w) (σ:=σ) (T:=bB σ H) (m:=(y.rows.drop i).take k) (n:=n) (c:=pl.block) (o:=pl.base+i*pl.size) (λq r D=>by rw[<-O];exact Y.even _ r (get q r D)) (λq r D=>by
      have:=Y.row (get q r D);rw[XD,<-Nat.add_assoc]at this
      rwa [Y.size,O]at this ⊢)
     rw[u]at Z;exact⟨_,j,l,rfl,λB E=>by simp only[Builtin.firstCells];exact Z B E,h2⟩
   .cases h
  .cases h
 .cases h
theorem Flat.ones{rows:List (List AV)}{n:Nat}{l:List Value}(h:Flat w σ T rows n l)(G:(rows.all λr=>r.all AV.one)=true):∀u∈l,u.oneCell'=true:=by
 intro u Y;obtain⟨p,hp,rfl⟩:=XJ Y;have B:=h.len;have M:0<n:=by
  rcases XH n with D|D
  .subst D;rw[Nat.mul_zero]at B;omega
  .exact D
 have S:p / n<rows.length:=by rw[Nat.div_lt_iff_lt_mul M];omega
 have E:rows[p / n]? =some rows[p / n]:=mt S;have O:p % n<rows[p / n].length:=by rw[h.even _ _ E];exact Nat.mod_lt _ M
 have j:=h.rep (p / n) _ (p % n) _ l[p] E (mt O) (by rw[Nat.mul_comm,Nat.div_add_mod];exact mt hp);refine j.one ?_;rw[W2]at G;have:=G _ (WN S);rw[W2]at this;exact this _ (WN O)
theorem ip{t tx ty e S:TypeId}{n sLen sCap k E:Nat}{A B:Option Addr}{D:List Value}(ht:P.underlying t=some (.slice e))(G:P.underlying tx=some (.slice S))(M:bj P e=some n)
  (j:sLen+k<=sCap) (O:(Builtin.firstCells n k (.slice B k E)).run P w=.ok D.toArray w) {w':World} (u:(match A with|some a=>storeCells (a.add (sLen*n)) D|none=>Pure.pure ()).run P w=.ok () w') :
  (Builtin.append_ #[t,tx] ty #[.slice A sLen sCap,.slice B k E]).run P w=.ok (.slice A (sLen+k) sCap) w':=by
 cases A with
 |none=>simp only[Xz]at u;cases u;simp[Builtin.append_,run_underlying ht,run_underlying G,dt M,Builtin.lenOf,j,O]
 |some a=>simp only[]at u;simp[Builtin.append_,run_underlying ht,run_underlying G,dt M,Builtin.lenOf,j,O,u]
theorem F5(hW:bQ w σ H)(hb:σ b=none)(hlt:b<H.next){t tx ty e':TypeId}{s x v:AV}{s' x':Value}{H':af}(hx:bN w σ (bB σ H) x x')(hs:bN w σ (bB σ H) s s')
  (htx:P.underlying tx=some (.slice e')) (h:dO P H b t s x=some (v,H')):Cp P (Builtin.append_ #[t,tx] ty #[s',x']) w σ H b v H':=by
 unfold dO at h;split at h
 .rename_i e hu;split at h
  .rename_i n by_ z hn hby hz;split at h
   .rename_i l m hl hm;split at h
    .rename_i hc;obtain⟨c1,c2,h0,hzn,hone⟩:=hc;cases hi:P.info? e with
     |none=>simp[iN,hi]at hby
     |some i=>
     have hib:i.bytes=by_:=by simpa[iN,hi]using hby
     have hin:i.size=n:=by simpa[bj,hi]using hn
     cases hza:fa P e with
     |none=>rw[hza]at hz;cases hz
     |some za=>
     rw[hza]at hz;simp only[XB]at hz;obtain⟨z',hz1,hz2⟩:=fU (P:=P) (w:=w) (σ:=σ) (T:=bB σ H) hza;have hiz:i.zero=some z':=by
      simp only[zeroValue,Xo,ug hi,W4]at hz1;split at hz1
      .rename_i q hq;cases hz1;exact hq
      .cases hz1
     have hzr:=hz2.cells hz;obtain⟨A,G,olds,rfl,ho1,ho2⟩:=Dr (P:=P) hW hs hl;obtain⟨B,capx,D,rfl,hn1,Y⟩:=Dr (P:=P) hW hx hm;have grow:∀{K:af},(hWK:bQ w σ K)->(hext:fR w σ (bB σ H) w σ (bB σ K))->b<K.next->G<l.length+m.length->
       Cp P (Builtin.append_ #[t,tx] ty #[.slice A l.length G,.slice B m.length capx]) w σ H b (.sl b 0 (l.length+m.length)) (K.new b ⟨n,l++m⟩):=by
      intro K hWK hext hltK hcap;have E:=run_append_grow_src (P:=P) w t tx ty e i z' hu hi hiz A l.length G olds (by rw[hin];exact ho1 _ rfl) (.slice B m.length capx) m.length D
       ⟨.inl ⟨e',htx⟩,λ_=>rfl,by rw[hin];exact hn1 w rfl,by rw[hin];exact hn1 _ rfl,by rw[hin];exact Y.len,Y.ones hone⟩ hcap YC
       (by rw[hib];have:=Xa by_ (nextslicecap_le hcap);omega)
      generalize hgc:grownCap w (l.length+m.length) G e=gc at E;have hgc1:l.length+m.length<=gc/\gc<=maxLen:=by rw[<-hgc];have hcut:grownCap w (l.length+m.length) G e=(l.length+m.length)+w.tape w.drawn (.appendCap (l.length+m.length) G e) % (2^63-(l.length+m.length)):=rfl;rw[hcut];unfold maxLen;have:w.tape w.drawn (.appendCap (l.length+m.length) G e) % (2^63-(l.length+m.length))<2^63-(l.length+m.length):=Nat.mod_lt _ YC;omega
      have hE:fR w σ (bB σ H) w.drew σ (bB σ K):=hext.trans (fR.same σ _ rfl rfl rfl rfl);have hzs:z'.cells.size=n:=by rw[<-Array.length_toList,<-hzr.1,hzn]
      have Z:Flat w σ (bB σ H) (l++m) n (olds++D):=ho2.append Y;generalize hcs:((olds++D).toArray++Builtin.zeroCells z'.cells (gc-(l.length+m.length)):Array Value)=cs at E;have hcl:cs.size=gc*n:=by rw[<-hcs];have h1:=Z.len;simp only[LT]at h1;simp only[Array.size_append,List.size_toArray,LT,h1,Builtin.zeroCells,Array.size_map,Array.size_range,hzs];rw[<-Nat.add_mul];congr 1;omega
      have hcget:∀p u,p<(l++m).length*n->cs[p]? =some u->(olds++D)[p]? =some u:=λp u hp hu=>by rw[<-hcs,Array.getElem?_append_left (by simp only[List.size_toArray];rw[Z.len];exact hp)]at hu;simpa using hu
      obtain⟨g1,g2⟩:=(hWK.same (w':=w.drew) rfl rfl rfl rfl).new hb hltK (x:=⟨n,l++m⟩) (cs:=cs) (e:=e) Z.even (by rw[hcl];simp only[LT];exact Xa _ hgc1.1) (λi r j a u hr ha hu=>by
       have hj:j<n:=by rw[<-Z.even i r hr];exact aF ha
       exact(Z.rep i r j a u hr ha (hcget _ u (pt (aF hr) hj) hu)).mono hE)
      refine⟨_,_,_,E,?_,g1,hE.trans g2,λc O hc=>?_⟩
      .exact Iu (w:=w.drew) (x:=⟨n,l++m⟩) hgc1.1 hgc1.2 (by rw[hcl];exact Fd _)
      .by_cases hbc:b=c
       .exact .inr hbc.symm
       .rw[bR.set_ne _ _ hbc]at hc;exact .inl hc
     split at h
     ·
      cases hl;simp only[WT]at hs;cases hs;split at h
      .rename_i M;cases h;refine⟨.slice none 0 0,w,σ,?_,.nils,hW,fR.refl _ _ _,λc O hc=>.inl hc⟩;have:=ip (P:=P) (ty:=ty) (A:=none) (sLen:=0) (sCap:=0) (k:=m.length) hu htx hn YC (hn1 w rfl) (w':=w) rfl;rw[M]at this;simpa[M]using this
      .rename_i M;cases h;have:=grow hW (fR.refl _ _ _) hlt YH;simpa using this
     ·
      cases hl;simp only[WT]at hs;cases hs;split at h
      .rename_i M;cases h;refine⟨.slice A 0 0,w,σ,?_,.emp A,hW,fR.refl _ _ _,λc O hc=>.inl hc⟩;have hm':m=[]:=by cases m with
        |nil=>rfl
        |cons x m=>simp at M
       have hnews:D=[]:=by have:=Y.len;rw[hm']at this;simpa using this
       have:=ip (P:=P) (ty:=ty) (A:=A) (sLen:=0) (sCap:=0) (k:=m.length) hu htx hn YC (hn1 w rfl) (w':=w) (by rw[hnews];cases A<;>rfl);rw[M]at this;simpa[M]using this
      .rename_i M;cases h;have:=grow hW (fR.refl _ _ _) hlt YH;simpa using this
     .rename_i b' i k;cases h;obtain⟨O,a,cap',heq,hsig,hk,hcm,ha⟩:=hs.sl_inv;simp only[Value.slice.injEq]at heq;obtain⟨rfl,hkl,rfl⟩:=heq;simp only[gV]at hl;split at hl
      .rename_i y hy;split at hl
       .rename_i hcond;obtain⟨hyn,hik⟩:=hcond;cases hl;have hlen:((y.rows.drop i).take k).length=k:=by simp;omega
        obtain⟨pl',ds,e0,q1,q2⟩:=hW.live b' y hy;rw[hsig]at q1;cases q1;have hpk:=hs.sl_ok hsig;replace q2:=q2.1 hpk;have hps:O.size=n:=q2.size.trans hyn;have hget:∀(q:Nat) (r:List AV),((y.rows.drop i).take k)[q]? =some r->q<k/\y.rows[i+q]? =some r:=λq r hq=>by have hi:=aF hq;rw[hlen]at hi;rw[Xt hi,XE]at hq;exact⟨hi,hq⟩
        have Z:Flat w σ (bB σ H) ((y.rows.drop i).take k++m) n (olds++D):=ho2.append Y;by_cases S:((y.rows.drop i).take k).length+m.length<=G
        ·
         by_cases hc0:G=0
         .subst hc0;have M:m.length=0:=by omega
          have hk0:k=0:=by omega
          have hlk:((y.rows.drop i).take k)=[]:=by rw[hk0];simp
          have hm':m=[]:=by cases m with
           |nil=>rfl
           |cons x m=>simp at M
          have hnews:D=[]:=by have:=Y.len;rw[hm']at this;simpa using this
          have E:=ip (P:=P) (ty:=ty) (A:=some a) hu htx hn S (hn1 w rfl) (w':=w) (by rw[hnews];rfl);obtain⟨o1,o2⟩:=hW.over (k:=0) hy hsig hb hlt (mi.refl q2.block) (x':=⟨n,(y.rows.drop i).take k++m⟩) hps.symm Z.even (by rw[hlk,hm'];have:=q2.room;simp;omega) (by rw[hlk,hm'];intro i r j a u hr;simp at hr);refine⟨_,_,_,E,?_,o1,o2,λc O hc=>?_⟩
          .exact bN.sl b 0 _ _ a 0 (bR.set_eq _ _ _) (cR.ok_over hpk _ _) S YC YC
          .by_cases hbc:b=c
           .exact .inr hbc.symm
           .rw[bR.set_ne _ _ hbc]at hc;exact .inl hc
         .obtain⟨rfl,cs,ty',hcb,hcr⟩:=ha YC;rw[q2.block]at hcb;cases hcb;have hnl:D.length=m.length*n:=Y.len;have hcap:(k+m.length)*n<=G*n:=Xa _ YC;have hbound:O.base+i*O.size+k*n+D.length<=ds.size:=by rw[hnl,hps];rw[hps,XD]at hcr;rw[XD]at hcap;omega
          have hst:=run_storeCells_at (P:=P) O.block (O.base+i*O.size+k*n) e0 D 0 ds w q2.block (by simpa using hbound) (Y.ones hone);simp only[XQ]at hst;have hw:mi w (w.setRow O.block (ds.toList.take (O.base+i*O.size+k*n)++D++ds.toList.drop (O.base+i*O.size+k*n+D.length)).toArray) O.block ds _ e0:=
           ⟨rfl,rfl,rfl,YF,q2.block,setRow_heap w _ _ _ _ _ q2.block,by
            simp only[List.size_toArray,LT,Xb,Yh,Xe];rw[XF YC];omega,λd hd=>setRow_other w _ d _ hd⟩
          have E:=ip (P:=P) (ty:=ty) (A:=some ⟨O.block,O.base+i*O.size,none⟩) hu htx hn S (hn1 w rfl) (by simp only[fT];rw[hlen];exact hst);have hdl:ds.toList.length=ds.size:=Xe;obtain⟨o1,o2⟩:=hW.over (k:=i) hy hsig hb hlt hw (x':=⟨n,(y.rows.drop i).take k++m⟩) hps.symm Z.even (by
           simp only[LT,hlen];rw[XD];omega) (λq r j a u hr hj hu=>by
           simp only[]at hr hu;have hjn:j<n:=by rw[<-Z.even q r hr];exact aF hj
           rw[List.getElem?_toArray,iQ ds.toList D _ _ YC]at hu;rcases Fn q k with hq|hq
           .rw[WW YC]at hr;have:=pt hq hjn;rw[if_pos YC,Xh]at hu;refine q2.rep (i+q) r j a u (hget q r hr).2 hj ?_;rw[hyn,<-hu,hps];congr 1;rw[XD];omega
           .rw[WQ YC,hlen]at hr;have hqm:q-k<m.length:=aF hr;have h1:=pt hqm hjn;have h2:(q-k)*n+k*n=q*n:=by rw[<-Nat.add_mul,Nat.sub_add_cancel hq]
            rw[if_neg YC,if_pos YC]at hu;refine Y.rep (q-k) r j a u hr hj ?_;rw[<-hu];congr 1;omega)
          refine⟨_,_,_,E,?_,o1,o2,λc O hc=>?_⟩
          .refine bN.sl b 0 _ _ _ G (bR.set_eq _ _ _) (cR.ok_over hpk _ _) S hcm λ_=>⟨YF,_,e0,hw.new,?_⟩
           rw[hw.len];simp only[Xn];rw[XD]at hcr;omega
          .by_cases hbc:b=c
           .exact .inr hbc.symm
           .rw[bR.set_ne _ _ hbc]at hc;exact .inl hc
        ·
         have hsub:∀c x,(H.put b' none).get c=some x->H.get c=some x:=λc x hx=>by
          rw[af.get_put]at hx;split at hx
          .cases hx
          .exact hx
         exact grow (hW.sub hsub (Fd _)) (fR.sub hsub) hlt YC
       .cases hl
      .cases hl
     .cases h
    .cases h
   .cases h
  .cases h
 .cases h
theorem Flat.sub{rows:List (List AV)}{n:Nat}{l:List Value}(h:Flat w σ T rows n l):∀(i:Nat) (r:List AV) (j:Nat) (a:AV) (u:Value),rows[i]? =some r->r[j]? =some a->l[i*n+j]? =some u->bN w σ T a u:=h.rep
theorem F6(hW:bQ w σ H){c:Nat}{y:Blk}{D:cR}(hy:H.get c=some y)(hs:σ c=some D)(hpk:D.ok){i:Nat}{rows:List (List AV)}{us:List Value}(hf:Flat w σ (bB σ H) rows y.size us)(Y:i+rows.length<=y.rows.length)(hone:∀u∈us,u.oneCell'=true):
  ∃w',(storeCells ⟨D.block,D.base+i*D.size,none⟩ us).run P w=.ok () w'/\bQ w' σ (H.put c (some {y with rows:=y.rows.take i++rows++y.rows.drop (i+rows.length)}))/\fR w σ (bB σ H) w' σ (bB σ (H.put c (some {y with rows:=y.rows.take i++rows++y.rows.drop (i+rows.length)}))):=by
 obtain⟨pl',ds,e,g1,E⟩:=hW.live c y hy;rw[hs]at g1;cases g1;replace E:=E.1 hpk;have G:=E.size;have S:=E.room;have hm:(i+rows.length)*y.size<=y.rows.length*y.size:=Xa _ Y;have O:us.length=rows.length*y.size:=hf.len;rw[XD]at hm;have hdl:ds.toList.length=ds.size:=Xe;have Z:=run_storeCells_at (P:=P) D.block (D.base+i*D.size) e us 0 ds w E.block (by rw[O,G];omega) hone;simp only[XQ]at Z;have hw:mi w (w.setRow D.block (ds.toList.take (D.base+i*D.size)++us++ds.toList.drop (D.base+i*D.size+us.length)).toArray) D.block ds _ e:=
  ⟨rfl,rfl,rfl,YF,E.block,setRow_heap w _ _ _ _ _ E.block,by
   simp only[List.size_toArray,LT,Xb,Yh,Xe];rw[G,XF YC];omega,λd hd=>setRow_other w _ d _ hd⟩
 have hlen:(y.rows.take i++rows++y.rows.drop (i+rows.length)).length=y.rows.length:=by simp only[LT,Xb,Yh];omega
 refine⟨_,Z,hW.put hy hs hw (x':={y with rows:=y.rows.take i++rows++y.rows.drop (i+rows.length)}) G.symm ?_ ?_ ?_⟩
 .intro q s B;simp only[]at B;rw[iQ _ _ _ _ Y]at B;split at B
  .exact E.even q s B
  .split at B
   .exact hf.even _ s B
   .exact E.even q s B
 .simp only[hlen];exact S
 .intro q s j a u B hj M;simp only[]at B M;rw[iQ _ _ _ _ Y]at B;rw[List.getElem?_toArray,iQ ds.toList us (D.base+i*D.size) _ (by rw[O,G];omega),O,G]at M;by_cases h1:q<i
  .rw[if_pos h1]at B;have hjs:j<y.size:=by rw[<-E.even q s B];exact aF hj
   have:(q+1)*y.size<=i*y.size:=Xa _ h1;rw[XD]at this;rw[if_pos YC,Xh]at M;exact E.rep q s j a u B hj M
  .rw[if_neg h1]at B;have h1':i*y.size<=q*y.size:=Xa _ YC;by_cases h2:q<i+rows.length
   .rw[if_pos h2]at B;have hjs:j<y.size:=by rw[<-hf.even _ s B];exact aF hj
    have:(q+1)*y.size<=(i+rows.length)*y.size:=Xa _ h2;rw[XD,XD]at this;rw[if_neg YC,if_pos YC]at M;refine hf.rep (q-i) s j a u B hj ?_;rw[<-M];congr 1;rw[Nat.sub_mul];omega
   .rw[if_neg h2]at B;have:(i+rows.length)*y.size<=q*y.size:=Xa _ YC;rw[XD]at this;rw[if_neg YC,if_neg YC,Xh]at M;exact E.rep q s j a u B hj M
theorem Iv{b:Nat}(hW:bQ w σ H){t ty:TypeId}{x:AV}{x':Value}{H':af}(hx:bN w σ (bB σ H) x x')(h:gD P H t x=some H'):
  Cp P (Builtin.clear_ #[t] ty #[x']) w σ H b (.tup []) H':=by
 unfold gD at h;split at h
 .rename_i e hu;split at h
  .rename_i n z hn Z;split at h
   .cases h;cases hx;exact⟨.tuple #[],w,σ,by simp[Builtin.clear_,run_underlying hu],.tup [] [] rfl YF,hW,fR.refl _ _ _,λc pl S=>.inl S⟩
   .rename_i c i k;split at h
    .rename_i y hy;split at h
     .rename_i M;obtain⟨⟨q1,q2⟩,⟨q3,q4⟩,q5⟩:=M;cases h;obtain⟨pl,ad,cap,rfl,j,hnc,hmx,ha⟩:=hx.sl_inv;rcases XH k with rfl|hk
      .have e0:y.rows.take i++List.replicate 0 z++y.rows.drop (i+0)=y.rows:=by simp
       obtain⟨pl',ds,e',g1,B⟩:=hW.live c y hy;rw[j]at g1;cases g1;replace B:=B.1 (hx.sl_ok j);have D:=hW.put hy j (mi.refl B.block) (x':={y with rows:=y.rows.take i++List.replicate 0 z++y.rows.drop (i+0)}) B.size.symm (by simp only[e0];exact B.even) (by simp only[e0];exact B.room) (by simp only[e0];exact B.rep);exact⟨.tuple #[],w,σ,by simp[Builtin.clear_,run_underlying hu],.tup [] [] rfl YF,D.1,D.2,λc pl S=>.inl S⟩
      .obtain⟨rfl,cs,te,hcs,hroom⟩:=ha YC;cases E:fa P e with
       |none=>rw[E]at Z;cases Z
       |some z0=>
        rw[E]at Z;obtain⟨Y,h1,h2⟩:=fU (P:=P) (w:=w) (σ:=σ) (T:=bB σ H) E;have hr:=h2.cells Z;obtain⟨l,hl1,hl2,O,hl4⟩:=Flat.zeros (zs:=Y.cells) hr q2 q3 k k (Fd _);rw[W9 YC]at O;have hlz:(Builtin.zeroCells Y.cells k).toList=l:=by
         have hzs:Y.cells.size=n:=by rw[<-Array.length_toList,<-hr.1,q2]
         have:Builtin.zeroCells Y.cells k=l.toArray:=by rw[<-hl1,<-hzs];rfl
         rw[this]
        subst q1;have hfl:Flat w σ (bB σ H) (List.replicate k z) y.size l:=O;have G:∀u∈l,u.oneCell'=true:=λu hu'=>by obtain⟨a,ha1,ha2⟩:=hl4 u hu';exact ha1.one (W2.1 q5 a ha2)
        obtain⟨w',g1,B,g3⟩:=F6 (P:=P) hW hy j (hx.sl_ok j) hfl (by simpa using q4) G;simp only[List.length_replicate]at B g3;refine⟨.tuple #[],w',σ,?_,.tup [] [] rfl YF,B,g3,λc pl S=>.inl S⟩;have hk0:k≠0:=by omega
        obtain⟨k',rfl⟩:∃k',k=k'+1:=⟨k-1,YC⟩;simp[Builtin.clear_,run_underlying hu,h1,hlz,g1]
     .cases h
    .cases h
   .cases h
  .cases h
 .cases h
end
end
section
open Go.RowKit
section
variable {P:Program} {F:TypeId->Option (List TypeId)} {w:World} {σ:bR} {H:af} {b:Nat}
theorem Ds(S:bQ w σ H)(hb:σ b=none)(Z:b<H.next){x:Blk}{o:Obj}{k:Nat}(ho:∀cs e,o≠.cells cs e (0,0))(hh:uf (World.push w o) x ⟨w.heap.size,k,0⟩)(hk:0<k){s:Sem Value}{v:AV}{v':Value}
  (hs:s.run P w=.ok v' (World.push w o)) (hv:∀w2 T,bN w2 (σ.set b ⟨w.heap.size,k,0⟩) T v v'):Cp P s w σ H b v (H.new b x):=by
 have hnone:H.get b=none:=by
  cases hg:H.get b with
  |none=>rfl
  |some y=>obtain⟨E,_,_,D,_⟩:=S.live b y hg;rw[hb]at D;cases D
 have O:∀c,c<w.heap.size->(World.push w o).heap[c]? =w.heap[c]? :=λc u=>by show(w.heap.push _)[c]? =_;rw[Array.getElem?_push,if_neg (Nat.ne_of_lt u)]
 have hnok:¬cR.ok ⟨w.heap.size,k,0⟩:=by rintro(h|h)<;>simp only[]at h<;>omega
 have ext:fR w σ (bB σ H) (World.push w o) (σ.set b ⟨w.heap.size,k,0⟩) (bB (σ.set b ⟨w.heap.size,k,0⟩) (H.new b x)):=by
  refine⟨rfl,rfl,rfl,by simp[World.push],λc u _=>O c u,λc cs' e' u=>⟨cs',?_,rfl⟩,λc q hq=>bR.set_old hb hq,rfl,λc u=>O c (S.apart c u).1,?_⟩
  .rcases Fn c w.heap.size with Z|hge
   .rw[O c Z];exact u
   .rw[Array.getElem?_eq_none hge]at u;cases u
  .rintro c (hfr|⟨b',y,E,D,M,Y⟩)
   .exact .inl (.inl hfr)
   rw[af.get_new]at D;by_cases G:b=b'
   .subst G;rw[bR.set_eq]at M;cases M;exact .inr (by simp only[]at Y;omega)
   .rw[if_neg G]at D;rw[bR.set_ne _ _ G]at M;exact .inl (.inr ⟨b',y,E,D,M,Y⟩)
 refine⟨v',_,_,hs,hv _ _,⟨?_,?_,?_,λc u=>?_,?_,S.glob.mono ext⟩,ext,λc E u=>?_⟩
 .intro c E u;by_cases j:b=c
  .subst j;exact Z
  .rw[bR.set_ne _ _ j]at u;exact S.named c E u
 .intro c E u;by_cases j:b=c
  .subst j;rw[bR.set_eq]at u;cases u;simp[World.push]
  .rw[bR.set_ne _ _ j]at u;have:=S.lt c E u;simp[World.push];omega
 .intro c y hy;rw[af.get_new]at hy;by_cases j:b=c
  .subst j;rw[if_pos rfl]at hy;cases hy;exact⟨_,#[],0,bR.set_eq _ _ _,λhp=>absurd hp hnok,λ_=>hh⟩
  .rw[if_neg j]at hy;obtain⟨E,cs',e',D,M⟩:=S.live c y hy;exact⟨E,cs',e',by rw[bR.set_ne _ _ j];exact D,M.mono ext (O _ (S.lt c E D))⟩
 .have hlt':=(S.apart c u).1;refine⟨by simp[World.push];omega,?_⟩;rintro⟨b',y,E,D,M,Y⟩;rw[af.get_new]at D;by_cases G:b=b'
  .subst G;rw[bR.set_eq]at M;cases M;simp only[]at Y;omega
  .rw[if_neg G]at D;rw[bR.set_ne _ _ G]at M;exact(S.apart c u).2 ⟨b',y,E,D,M,Y⟩
 .intro c c' y y' E pl' D M Y h4 h5;rw[af.get_new]at D M;by_cases j:b=c
  .by_cases B:b=c'
   .exact j.symm.trans B
   .subst j;rw[bR.set_eq]at Y;cases Y;rw[bR.set_ne _ _ B]at h4;have:=S.lt c' pl' h4;simp only[]at h5;omega
  .by_cases B:b=c'
   .subst B;rw[bR.set_eq]at h4;cases h4;rw[bR.set_ne _ _ j]at Y;have:=S.lt c E Y;simp only[]at h5;omega
   .rw[if_neg j]at D;rw[if_neg B]at M;rw[bR.set_ne _ _ j]at Y;rw[bR.set_ne _ _ B]at h4;exact S.inj c c' y y' E pl' D M Y h4 h5
 .by_cases j:b=c
  .exact .inr j.symm
  .rw[bR.set_ne _ _ j]at u;exact .inl u
theorem RK(Z:bQ w σ H){c:Nat}{x x':Blk}{u:cR}(hg:H.get c=some x)(hs:σ c=some u){o o':Obj}(Y:w.heap[u.block]? =some o)(ho:∀cs e,o≠.cells cs e (0,0))(hn:¬u.ok)
  (hh:uf {w with heap:=w.heap.setIfInBounds u.block o'} x' u) :
  bQ {w with heap:=w.heap.setIfInBounds u.block o'} σ (H.put c (some x'))/\fR w σ (bB σ H) {w with heap:=w.heap.setIfInBounds u.block o'} σ (bB σ (H.put c (some x'))):=by
 have j:∀d,d≠u.block->(w.heap.setIfInBounds u.block o')[d]? =w.heap[d]? :=(MapKept.heap_set Y).2;have S:Ci σ (H.put c (some x'))=Ci σ H:=by
  funext d;apply propext;constructor
  .rintro⟨b',y,q,M,O,h3⟩;rw[af.get_put]at M;by_cases E:c=b'
   .subst E;exact⟨c,x,q,hg,O,h3⟩
   .rw[if_neg E]at M;exact⟨b',y,q,M,O,h3⟩
  .rintro⟨b',y,q,M,O,h3⟩;by_cases E:c=b'
   .subst E;exact⟨c,x',q,by rw[af.get_put,if_pos rfl],O,h3⟩
   .exact⟨b',y,q,by rw[af.get_put,if_neg E];exact M,O,h3⟩
 have hown:bB σ (H.put c (some x'))=bB σ H:=by funext d;simp[bB,S]
 have hT:Ci σ H u.block:=⟨c,x,u,hg,hs,rfl⟩;have ext:fR w σ (bB σ H) {w with heap:=w.heap.setIfInBounds u.block o'} σ (bB σ (H.put c (some x'))):=by rw[hown];refine⟨rfl,rfl,rfl,YF,λd _ D=>j d (by rintro rfl;exact D (.inr hT)),λd ds e D=>⟨ds,?_,rfl⟩,λ_ _ h=>h,rfl,λd D=>j d (by rintro rfl;exact(Z.apart _ D).2 hT),λ_ h=>.inl h⟩;rw[j d (by rintro rfl;rw[Y]at D;cases D;exact ho _ _ rfl)];exact D
 refine⟨⟨Z.named,λd q D=>by simpa using Z.lt d q D,?_,λd D=>by rw[S];simpa using Z.apart d D,?_,Z.glob.mono ext⟩,ext⟩
 .intro d y G;rw[af.get_put]at G;by_cases B:c=d
  .subst B;rw[if_pos rfl]at G;cases G;exact⟨u,#[],0,hs,λhp=>absurd hp hn,λ_=>hh⟩
  .rw[if_neg B]at G;obtain⟨q,ds,e',M,O⟩:=Z.live d y G;exact⟨q,ds,e',M,O.mono ext (j _ λhe=>B (Z.inj c d x y u q hg G hs M he.symm))⟩
 .intro d d' y y' q q' M O;have aux:∀d y,(H.put c (some x')).get d=some y->∃z,H.get d=some z:=λd y G=>by
   rw[af.get_put]at G;by_cases B:c=d
   .subst B;exact⟨x,hg⟩
   .rw[if_neg B]at G;exact⟨y,G⟩
  obtain⟨z,hz⟩:=aux d y M;obtain⟨z',hz'⟩:=aux d' y' O;exact Z.inj d d' z z' q q' hz hz'
theorem bN.mp_inv{T:Nat->Prop}{c:Nat}{v:Value}(hW:bQ w σ H)(h:bN w σ T (.mp c) v){x:Blk}(Z:H.get c=some x):
  ∃j B u,v=.map (some j.block)/\σ c=some j/\j.base=1/\j.size=0/\x.size=0/\¬j.ok/\w.heap[j.block]? =some (.map B u)/\B.toList.map FW=x.rows.map some:=by
 cases h with
 |mp _ j D h1 h2=>
 obtain⟨O,cs,e,M,g2⟩:=hW.live c x Z;rw[D]at M;cases M;have E:¬j.ok:=by rintro(h|h)<;>omega
 have G:=g2.2 E;rcases G.obj with⟨_,B,u,Y,S⟩|⟨k0,_⟩
 .exact⟨j,B,u,rfl,D,h2,h1,G.size,E,Y,S⟩
 .omega
theorem bN.it_inv{T:Nat->Prop}{c:Nat}{v:Value}(Z:bQ w σ H)(h:bN w σ T (.it c) v){x:Blk}(Y:H.get c=some x):
  ∃(u:cR) (s:ByteArray) (j:Nat),v=.pointer (some ⟨u.block,0,none⟩)/\σ c=some u/\u.base=2/\u.size=0/\x.size=0/\¬u.ok/\w.heap[u.block]? =some (.stringIter s j)/\x.rows=[[.str s.data.toList,.int .i64 j]]:=by
 cases h with
 |it _ u B h1 h2=>
 obtain⟨M,cs,e,G,g2⟩:=Z.live c x Y;rw[B]at G;cases G;have D:¬u.ok:=by rintro(h|h)<;>omega
 have E:=g2.2 D;rcases E.obj with⟨k0,_⟩|⟨_,s,j,S,O⟩
 .omega
 .exact⟨u,s,j,rfl,B,h2,h1,E.size,D,S,O⟩
theorem Pm{v:Value}{s:List UInt8}(h:FV v=some (.str s)):∃ba:ByteArray,v=.string ba/\ba.data.toList=s:=by cases v<;>simp[FV]at h;exact⟨_,rfl,h⟩
theorem JQ{T:Nat->Prop}{v:Value}{a:AV}(h:FV v=some a):bN w σ T a v:=by
 cases v<;>simp only[FV,W3,reduceCtorEq]at h<;>subst h
 .exact .bool _
 .exact .int _ _
 .exact .str _
theorem KR{T:Nat->Prop}{v:Value}{a:AV}(h:bN w σ T a v)(j:a.konst=true):FV v=some a:=by cases h<;>first|rfl|(simp[AV.konst]at j)
theorem Eh{T:Nat->Prop}{v:Value}{s:List UInt8}(h:bN w σ T (.str s) v):∃ba:ByteArray,v=.string ba/\ba.data.toList=s:=by
 cases h with
 |str ba=>exact⟨ba,rfl,rfl⟩
theorem nF{ba:ByteArray}:∀(l:List MapEntry) (rows:List (List AV)) (i:Nat),l.map FW=rows.map some->rows.all ue=true->
  (Instr.findNow .string (.string ba) l i=some none/\iK ba.data.toList rows i=none) \/
  ∃j e v,Instr.findNow .string (.string ba) l i=some (some (i+j,e.val))/\iK ba.data.toList rows i=some (i+j,v)/\l[j]? =some e/\FV e.val=some v/\e.key=.string ba
 |[],[],i,_,_=>.inl ⟨rfl,rfl⟩
 |[],r::rows,i,h,_=>by simp at h
 |e::l,[],i,h,_=>by simp at h
 | e::l,r::rows,i,h,hk=>by
  simp only[WS,List.cons.injEq]at h;simp only[List.all_cons,WZ]at hk;have G:=h.1;unfold FW at G;split at G
  .rename_i k v O hv;cases G;have Y:=hk.1;unfold ue at Y;split at Y
   .rename_i s Z S;cases S;obtain⟨D,E,rfl⟩:=Pm O;have u:Instr.sameNow .string (.string ba) e.key=some (ba==D):=by rw[E];rfl
    have B:(ba.data.toList==D.data.toList)=(ba==D):=by
     rw[Bool.eq_iff_iff,MapKept.bytes_beq];constructor
     .intro hh;have:ba.data.toList=D.data.toList:=by simpa using hh
      obtain⟨x⟩:=ba;obtain⟨y⟩:=D;simp only[]at this;congr 1;exact Array.toList_inj.1 this
     .rintro rfl;simp
    cases M:(ba==D)with
    |true=>have he:ba=D:=(MapKept.bytes_beq _ _).1 M;rw[M]at u B;exact .inr ⟨0,e,v,by simp[Instr.findNow,u],by simp[iK,B],rfl,hv,by rw[E,he]⟩
    |false=>
     rw[M]at u B;rcases nF (ba:=ba) l rows (i+1) h.2 hk.2 with⟨g1,g2⟩|⟨j,e',Z,g1,g2,g3,g4,g5⟩
     .exact .inl ⟨by simp[Instr.findNow,u,g1],by simp[iK,B,g2]⟩
     .exact .inr ⟨j+1,e',Z,by simp[Instr.findNow,u,g1];omega,by simp[iK,B,g2];omega,by simpa using g3,g4,g5⟩
   .cases Y
  .cases G
theorem V4{T:Nat->Prop}{a:AV}{x:Value}(h:bN w σ T a x):bN w σ T (.tup [a]) (.tuple #[x]):=.tup [a] [x] rfl λi D B j u=>by
 match i with
 |0=>cases j;cases u;exact h
 |i+1=>simp at j
theorem T9{T:Nat->Prop}{a b:AV}{x y:Value}(h:bN w σ T a x)(B:bN w σ T b y):bN w σ T (.tup [a,b]) (.tuple #[x,y]):=.tup [a,b] [x,y] rfl λi E D j u=>by
 match i with
 |0=>cases j;cases u;exact h
 |1=>cases j;cases u;exact B
 |i+2=>simp at j
theorem V5{T:Nat->Prop}{a b c:AV}{x y z:Value}(h:bN w σ T a x)(D:bN w σ T b y)(B:bN w σ T c z):bN w σ T (.tup [a,b,c]) (.tuple #[x,y,z]):=.tup [a,b,c] [x,y,z] rfl λi G E j u=>by
 match i with
 |0=>cases j;cases u;exact h
 |1=>cases j;cases u;exact D
 |2=>cases j;cases u;exact B
 |i+3=>simp at j
theorem JR{e:MapEntry}{k v:AV}(j:FV e.key=some k)(h2:FV e.val=some v):FW e=some [k,v]:=by unfold FW;rw[j,h2]
theorem nG{t:TypeId}{m k v:AV}{H':af}(h:gk P H t m k v=some H'):∃c x x',m=.mp c/\H.get c=some x/\H'=H.put c (some x')/\∀K:af,K.get c=some x->gk P K t m k v=some (K.put c (some x')):=by
 unfold gk at h;split at h
 .rename_i G M c s B;split at h
  .rename_i x j u;split at h
   .rename_i D;cases h;exact⟨c,x,_,rfl,u,rfl,λK E=>by simp only[gk,B,j,E];rw[if_pos D]⟩
   .cases h
  .cases h
 .cases h
theorem uk{j v:AV}{H':af}(h:jI H j=some (v,H')):∃c x,j=.it c/\H.get c=some x/\((H'=H/\∀K:af,K.get c=some x->jI K j=some (v,K))\/∃x',H'=H.put c (some x')/\∀K:af,K.get c=some x->jI K j=some (v,K.put c (some x'))):=by
 unfold jI at h;split at h
 .rename_i c;split at h
  .rename_i x B;split at h
   .rename_i s k E D;split at h
    .rename_i hp;cases h;exact⟨c,x,rfl,B,.inr ⟨_,rfl,λK u=>by simp only[jI,u,D];rw[if_pos hp]⟩⟩
    .rename_i hp;cases h;exact⟨c,x,rfl,B,.inl ⟨rfl,λK u=>by simp only[jI,u,D];rw[if_neg hp]⟩⟩
   .cases h
  .cases h
 .cases h
theorem zS{t:TypeId}{m k v:AV}{B:Bool}(h:kY P H t m k B=some v):∃c x,m=.mp c/\H.get c=some x/\∀K:af,K.get c=some x->kY P K t m k B=some v:=by
 unfold kY at h;split at h
 .rename_i O S c s G;split at h
  .rename_i z x u D E;split at h
   .rename_i j;exact⟨c,x,rfl,E,λK M=>by simp only[kY,G,u,D,M];rw[if_pos j];exact h⟩
   .cases h
  .cases h
 .cases h
theorem Ei(hW:bQ w σ H){t:TypeId}{m k v:AV}{m' k':Value}{E:Bool}(hm:bN w σ (bB σ H) m m')(hk:bN w σ (bB σ H) k k')(h:kY P H t m k E=some v):
  ∃v',(Instr.lookup t m' k' E).run P w=.ok v' w/\bN w σ (bB σ H) v v':=by
 unfold kY at h;split at h
 .rename_i kt et c s hu;split at h
  .rename_i z x B hz hx;split at h
   .rename_i D;cases h;obtain⟨pl,es,clk,rfl,hs,_,_,_,_,hb,u⟩:=hm.mp_inv hW hx;obtain⟨ba,rfl,rfl⟩:=Eh hk;obtain⟨Z,O,G⟩:=fU (P:=P) (w:=w) (σ:=σ) (T:=bB σ H) hz;have M:=λe=>MapKept.run_checkKey (P:=P) (w:=w) (k:=.string ba) B trivial e 9999
    rcases nF es.toList x.rows 0 u D with⟨Y,S⟩|⟨j,e,v,Y,S,g3,g4,g5⟩
    .rw[S];refine⟨if E then .tuple #[Z,.bool false]else Z,?_,?_⟩
     .simp only[Instr.lookup,Xo,run_underlying hu,W4,MapKept.run_getObj_map hb,Xz,M,MapKept.run_findKey B Y,O]
     .cases E
      .exact G
      .exact T9 G (.bool false)
    .rw[S];refine⟨if E then .tuple #[e.val,.bool true]else e.val,?_,?_⟩
     .simp only[Instr.lookup,Xo,run_underlying hu,W4,MapKept.run_getObj_map hb,Xz,M,MapKept.run_findKey B Y]
     .cases E
      .exact JQ g4
      .exact T9 (JQ g4) (.bool true)
   .cases h
  .cases h
 .cases h
theorem F7(hW:bQ w σ H){t:TypeId}{m k v:AV}{m' k' v':Value}(hm:bN w σ (bB σ H) m m')(hk:bN w σ (bB σ H) k k')(hv:bN w σ (bB σ H) v v'){H':af}(h:gk P H t m k v=some H'):
  ∃w',(Instr.mapUpdate t m' k' v').run P w=.ok () w'/\bQ w' σ H'/\fR w σ (bB σ H) w' σ (bB σ H'):=by
 unfold gk at h;split at h
 .rename_i kt et c s hu;split at h
  .rename_i x D hx;split at h
   .rename_i hc;cases h;obtain⟨E,S⟩:=hc;obtain⟨pl,es,clk,rfl,hs,hb1,M,G,hn,B,u⟩:=hm.mp_inv hW hx;obtain⟨ba,rfl,rfl⟩:=Eh hk;have O:=KR hv S;have Z:=λe=>MapKept.run_checkKey (P:=P) (w:=w) (k:=.string ba) D trivial e 9999
    rcases nF es.toList x.rows 0 u E with⟨g1,g2⟩|⟨j,e,v0,g1,g2,g3,g4,g5⟩
    .rw[g2];refine⟨_,by simp[Instr.mapUpdate,run_underlying hu,MapKept.run_getObj_map B,Z,MapKept.run_findKey D g1,MapKept.run_setObj_map _ B,Result.andThen];rfl,RK hW hx hs B (by intros;simp) hn ⟨G,M,.inl ⟨hb1,_,_,(MapKept.heap_set B).1,?_⟩⟩⟩;simp only[Array.toList_push,WL,WS,Xp,u];rw[JR (k:=.str ba.data.toList) (v:=v) rfl O]
    .have hj:es[j]? =some e:=by simpa using g3
     simp only[Xn]at g1 g2;rw[g2];refine⟨_,by simp[Instr.mapUpdate,run_underlying hu,MapKept.run_getObj_map B,Z,MapKept.run_findKey D g1,hj,g5,MapKept.run_keyThatStays (d:=.string) (k:=.string ba) trivial,MapKept.run_setObj_map _ B,Result.andThen];rfl,RK hW hx hs B (by intros;simp) hn ⟨G,M,.inl ⟨hb1,_,_,(MapKept.heap_set B).1,?_⟩⟩⟩;simp only[Array.toList_modify];refine XW λi=>?_
     have hi:=congrArg (λl=>l[i]?) u;simp only[W6]at hi;rw[W6,W6,List.getElem?_modify,Xc];by_cases Y:j=i
     .subst Y;have hl:j<x.rows.length:=by have:=(Xm.1 g3).1;have h2:=congrArg List.length u;simp at h2 this;omega
      rw[if_pos rfl,if_pos hl,g3];simp only[Xl,Option.map_eq_map];rw[JR (k:=.str ba.data.toList) (v:=v) rfl O]
     .simp only[if_neg Y];rw[show((λa=>a) <$> es.toList[i]?)=es.toList[i]? from by cases es.toList[i]?<;>rfl];exact hi
   .cases h
  .cases h
 .cases h
theorem KT(Y:bQ w σ H){it v:AV}{B:Value}(ty:TypeId)(hi:bN w σ (bB σ H) it B){H':af}(h:jI H it=some (v,H')):
  ∃v' w',(Instr.next B true ty).run P w=.ok v' w'/\bN w' σ (bB σ H') v v'/\bQ w' σ H'/\fR w σ (bB σ H) w' σ (bB σ H'):=by
 unfold jI at h;split at h
 .rename_i c;split at h
  .rename_i x hx;obtain⟨Z,s,j,rfl,hs,S,M,E,hn,D,u⟩:=hi.it_inv Y hx;rw[u]at h;simp only[]at h;have hlen:s.data.toList.length=s.size:=Xe;have G:(⟨s.data.toList.toArray⟩:ByteArray)=s:=by obtain⟨d⟩:=s;simp
   split at h
   .rename_i hp;cases h;have O:j<s.size:=by omega
    rw[G,Xx];refine⟨_,_,Lib.run_next_any_at w Z.block s j ty D O,V5 (.bool true) (.int _ _) (.int _ _),RK Y hx hs D (by intros;simp) hn ⟨E,M,.inr ⟨S,s,_,(MapKept.heap_set D).1,rfl⟩⟩⟩
   .rename_i hp;cases h;exact⟨_,w,Lib.run_next_end_at w Z.block s j ty D YC,V4 (.bool false),Y,fR.refl _ _ _⟩
  .cases h
 .cases h
end
end
section
section
variable {P:Program} {F:TypeId->Option (List TypeId)} {w:World} {σ:bR} {H:af} {b:Nat}
def cj(P:Program)(s:Sem Next)(w:World)(σ:bR)(H:af)(b:Nat)(v:AV)(H':af):Prop:=
 ∃v' w' σ',(s.run P w=.ok (.value v') w'\/(s.run P w=.ok .skip w'/\v'=undef))/\bN w' σ' (bB σ' H') v v'/\bQ w' σ' H'/\fR w σ (bB σ H) w' σ' (bB σ' H')/\∀c pl,σ' c=some pl->σ c=some pl\/c=b
theorem cj.of_done{s:Sem Value}{v:AV}{H':af}(h:Cp P s w σ H b v H'):cj P (do pure (.value (<-s))) w σ H b v H':=by obtain⟨B,u,j,E,D⟩:=h;exact⟨B,u,j,.inl (by simp[E]),D⟩
theorem cj.of_val{s:Sem Value}{v:AV}(u:bQ w σ H)(h:∃v',s.run P w=.ok v' w/\bN w σ (bB σ H) v v'):cj P (do pure (.value (<-s))) w σ H b v H:=by obtain⟨v',D,B⟩:=h;exact⟨v',w,σ,.inl (by simp[D]),B,u,fR.refl _ _ _,λc E j=>.inl j⟩
theorem cj.pure{s:Sem Next}{v:AV}{v':Value}(B:bQ w σ H)(h:s.run P w=.ok (.value v') w)(j:bN w σ (bB σ H) v v'):cj P s w σ H b v H:=
 ⟨v',w,σ,.inl h,j,B,fR.refl _ _ _,λc D u=>.inl u⟩
theorem gJ{r:Option AV}{v:AV}{H H':af}(h:(r.map λx=>hO.val x H)=some (.val v H')):r=some v/\H'=H:=by
 cases r with
 |none=>cases h
 |some x=>simp only[Xl,W3,hO.val.injEq]at h;exact⟨by rw[h.1],h.2.symm⟩
theorem RL{ρ:Operand->AV}{j:Operand->Value}(u:∀x,bN w σ (bB σ H) (ρ x) (j x))(x:Option Operand):Ir w σ (bB σ H) (x.map ρ) (x.map j):=by
 cases x with
 |none=>trivial
 |some a=>exact u a
theorem qF{α β:Type}{f:α->β}{l:List α}{x:β}(h:l.map f=[x]):∃a,l=[a]/\f a=x:=by
 match l,h with
 |[a],h=>exact⟨a,rfl,by simpa using h⟩
 |[],h=>simp at h
 |_::_::_,h=>simp at h
theorem qG{α β:Type}{f:α->β}{l:List α}{x y:β}(h:l.map f=[x,y]):∃a b,l=[a,b]/\f a=x/\f b=y:=by
 match l,h with
 |[a,b],h=>exact⟨a,b,rfl,by simpa using h⟩
 |[],h=>simp at h
 |[_],h=>simp at h
 |_::_::_::_,h=>simp at h
theorem Cq(hW:bQ w σ H)(hb:σ b=none)(hlt:b<H.next){ρ:Operand->AV}{B:Operand->Value}(E:∀x,bN w σ (bB σ H) (ρ x) (B x)){op:Builtin}{args:List Operand}{D:List TypeId}{ty:TypeId}{cn:Array Bool}{v:AV}{H':af}
  (h:bJ P H b op D.toArray (args.map ρ)=some (v,H')):cj P (builtin op D.toArray ty cn (args.toArray.map B)) w σ H b v H':=by
 unfold bJ at h;split at h
 .rename_i s u;obtain⟨G,rfl,S⟩:=qF u;split at h
  .rename_i hty;cases h;have O:=E G;rw[S]at O;generalize he:B G=x' at O;cases O with
   |str ba=>
   have hlen:ba.data.toList.length=ba.size:=Xe;cases j:D[0]? with
   |none=>simp[j]at hty
   |some t=>
   have hu:P.underlying t=some .string:=by simpa[j]using hty
   refine cj.pure hW (v':=.int .i64 ba.size) ?_ (by rw[hlen];exact .int _ _);simp[builtin,Builtin.len_,j,he,run_underlying hu,goInt]
  .cases h
 .rename_i x hne u;obtain⟨G,rfl,S⟩:=qF u;have O:=E G;rw[S]at O;cases j:D[0]? with
  |none=>simp[j]at h
  |some t=>
   simp only[List.getElem?_toArray,j,XB]at h;split at h
   .rename_i e hu;cases Z:Ip x with
    |none=>rw[Z]at h;cases h
    |some n=>
     rw[Z]at h;cases h;have hv:∃A c,B G=.slice A n c:=by
      unfold Ip at Z;split at Z
      .cases Z;generalize B G=y at O;cases O;exact⟨_,_,rfl⟩
      .cases Z;generalize B G=y at O;cases O;exact⟨_,_,rfl⟩
      .cases Z;obtain⟨A,c,h1,_⟩:=O.lst_inv;exact⟨A,c,h1⟩
      .cases Z;obtain⟨_,a,c,h1,_⟩:=O.sl_inv;exact⟨_,c,h1⟩
      .cases Z
     obtain⟨A,c,hv⟩:=hv;refine cj.pure hW (v':=.int .i64 n) ?_ (.int _ _);simp[builtin,Builtin.len_,j,hv,run_underlying hu,goInt]
   .rename_i n e hu;cases h;refine cj.pure hW (v':=.int .i64 n) ?_ (.int _ _);simp[builtin,Builtin.len_,j,run_underlying hu,goInt]
   .cases h
 .rename_i s x u;obtain⟨G,a1,rfl,S,h1⟩:=qG u;split at h
  .rename_i t tx j;split at h
   .rename_i e' hu;simp only[]at j;subst j;have Y:=E G;have M:=E a1;rw[S]at Y;rw[h1]at M;have:=cj.of_done (F5 (ty:=ty) hW hb hlt M Y hu h);simpa[builtin]using this
   .cases h
  .cases h
 .rename_i k a k' c u;obtain⟨G,a1,rfl,S,h1⟩:=qG u;split at h
  .rename_i hk;subst hk;cases h;have Y:=E G;have M:=E a1;rw[S]at Y;rw[h1]at M;generalize e0:B G=y0 at Y;generalize e1:B a1=y1 at M;cases Y;cases M;exact cj.pure hW (v':=.int k (if c<a then c else a)) (by simp[builtin,Builtin.min_,Builtin.min2,e0,e1]) (.int _ _)
  .cases h
 .rename_i k a k' c u;obtain⟨G,a1,rfl,S,h1⟩:=qG u;split at h
  .rename_i hk;subst hk;cases h;have Y:=E G;have M:=E a1;rw[S]at Y;rw[h1]at M;generalize e0:B G=y0 at Y;generalize e1:B a1=y1 at M;cases Y;cases M;exact cj.pure hW (v':=.int k (if c > a then c else a)) (by simp[builtin,Builtin.max_,Builtin.max2,e0,e1]) (.int _ _)
  .cases h
 .rename_i x u;obtain⟨G,rfl,S⟩:=qF u;split at h
  .rename_i t j;simp only[]at j;subst j;cases hc:gD P H t x with
   |none=>rw[hc]at h;cases h
   |some K=>rw[hc]at h;cases h;have M:=E G;rw[S]at M;have:=cj.of_done (Iv (ty:=ty) (b:=b) hW M hc);simpa[builtin]using this
  .cases h
 .cases h
theorem Dt(fit:Fit P F)(B:bQ w σ H)(hb:σ b=none)(G:b<H.next){o:Oper}{ρ:Operand->AV}{D:Operand->Value}(j:∀x,bN w σ (bB σ H) (ρ x) (D x)){v:AV}{H':af}
  (h:bA P F o.op ρ b H=some (.val v H')):cj P (execOp D o) w σ H b v H':=by
 obtain⟨dst,op,ty,pos,after,guard⟩:=o;simp only[]at h;cases op with
 |move x=>simp only[bA,W3,hO.val.injEq]at h;obtain⟨rfl,rfl⟩:=h;exact cj.pure B rfl (j x)
 |assign x=>simp only[bA,W3,hO.val.injEq]at h;obtain⟨rfl,rfl⟩:=h;exact cj.pure B rfl (j x)
 |pick c x y=>
  simp only[bA]at h;split at h
  .rename_i t O;simp only[W3,hO.val.injEq]at h;obtain⟨rfl,rfl⟩:=h;have:=j c;rw[O]at this;generalize hc':D c=c' at this;cases this;refine cj.pure B (v':=if t then D x else D y) (by simp[execOp,hc',asBool]) ?_;cases t
   .exact j y
   .exact j x
  .cases h
 |alloc t=>
  simp only[bA]at h;split at h
  .rename_i cs hcs;simp only[W3,hO.val.injEq]at h;obtain⟨rfl,rfl⟩:=h;exact cj.of_done (Is B hb G hcs)
  .cases h
 |box t x=>
  simp only[bA]at h;split at h
  .rename_i cs hcs;split at h
   .simp only[W3,hO.val.injEq]at h;obtain⟨rfl,rfl⟩:=h;exact cj.of_done (F4 B hb G (j x) hcs)
   .cases h
  .cases h
 |build t Y=>simp only[bA]at h;obtain⟨u,rfl⟩:=gJ h;exact cj.of_val B (F3 j u)
 |buildSlice t len Y=>
  simp only[bA]at h;split at h
  .rename_i e hu;split at h
   .rename_i n z hn hz;split at h
    .rename_i O;obtain⟨c1,c2,c3⟩:=O;cases hf:fw n (List.replicate len z) (Y.toList.map λp=>(p.1,ρ p.2))with
     |none=>rw[hf]at h;cases h
     |some rows=>rw[hf]at h;simp only[Xl,W3,hO.val.injEq]at h;obtain⟨rfl,rfl⟩:=h;exact cj.of_done (yr B hb G j hu hn hz c1 c2 c3 hf)
    .cases h
   .cases h
  .cases h
 |load t a=>simp only[bA]at h;obtain⟨u,rfl⟩:=gJ h;exact cj.of_val B (zO B (j a) u)
 |store t a x=>
  simp only[bA]at h;cases Z:io P H t (ρ a) (ρ x)with
  |none=>rw[Z]at h;cases h
  |some K=>rw[Z]at h;simp only[Xl,W3,hO.val.injEq]at h;obtain⟨rfl,rfl⟩:=h;obtain⟨w',u,h2,h3⟩:=It B (j a) (j x) Z;exact⟨undef,w',σ,.inr ⟨by simp[execOp,u],rfl⟩,.tup [] [] rfl YF,h2,h3,λc pl O=>.inl O⟩
 |nilCheck x=>simp only[bA]at h;have hx:=j x;split at h<;>(try (cases h;done))<;>(rename_i heq;simp only[W3,hO.val.injEq]at h;obtain⟨rfl,rfl⟩:=h;rw[heq]at hx;generalize he:D x=x' at hx;have hx2:=hx;cases hx2;exact cj.pure B (by simp only[execOp,he];rfl) hx)
 |binOp op t x y yt=>simp only[bA]at h;obtain⟨u,rfl⟩:=gJ h;exact cj.of_val B (KQ fit.flat (j x) (j y) u)
 |unOp op t x=>simp only[bA]at h;obtain⟨u,rfl⟩:=gJ h;exact cj.of_val B (Mq (j x) u)
 |convert s d x=>simp only[bA]at h;obtain⟨u,rfl⟩:=gJ h;exact cj.of_val B (Iq (j x) u)
 |makeFunc fn first cap=>
  cases fn with
  |func f=>
   simp only[bA]at h;split at h
   .rename_i hf;simp only[W3,hO.val.injEq]at h;obtain⟨rfl,rfl⟩:=h;have e:first=#[]:=Array.eq_empty_of_size_eq_zero hf
    subst e;refine cj.pure B (v':=.func (.func f) #[] (cap.toList.map D).toArray) (by simp[execOp,Instr.makeFunc];apply Array.ext';simp) (.fn f _ _ YF λi a v u h2=>?_);rw[W6]at u h2;cases O:cap.toList[i]? with
    |none=>rw[O]at u;cases u
    |some q=>rw[O]at u h2;cases u;cases h2;exact j q
   .cases h
  |_=>simp[bA]at h
 |makeSlice t l c=>
  simp only[bA]at h;split at h
  .rename_i e hu;split at h
   .rename_i n by_ z l' c' hn hby hz hl O;split at h
    .rename_i M;obtain⟨c1,c2,c3,c4,c5⟩:=M;simp only[W3,hO.val.injEq]at h;obtain⟨rfl,rfl⟩:=h;exact cj.of_done (zQ B hb G (j l) (j c) hu hn hby hz hl O c1 c2 c3 c4 c5)
    .cases h
   .cases h
  .cases h
 |slice t x lo hi mx=>
  simp only[bA]at h;split at h
  .cases h
  .rename_i M;obtain⟨u,rfl⟩:=gJ h;refine cj.of_val B (F2 B (j x) (RL j lo) (RL j hi) (RL j mx) (λhh=>?_) u);cases hi with
   | none=>cases mx with
    |none=>rfl
    |some m=>simp at M
   |some q=>simp at hh
 |fieldAddr s x f=>simp only[bA]at h;obtain⟨u,rfl⟩:=gJ h;exact cj.of_val B (yp (j x) u)
 |field s x f=>simp only[bA]at h;obtain⟨u,rfl⟩:=gJ h;exact cj.of_val B (FZ (j x) u)
 |indexAddr t x ix=>simp only[bA]at h;obtain⟨u,rfl⟩:=gJ h;exact cj.of_val B (yq B (j x) (j ix) u)
 |index t x ix=>simp only[bA]at h;obtain⟨u,rfl⟩:=gJ h;exact cj.of_val B (F0 (j x) (j ix) u)
 |extract x i=>
  simp only[bA]at h;split at h
  .rename_i vs hx;obtain⟨u,rfl⟩:=gJ h;have:=j x;rw[hx]at this;generalize he:D x=x' at this;cases this with
   |tup _ us hl hr=>
   have hi:=aF u;have hi':i<us.length:=by omega
   exact cj.pure B (v':=us[i]) (by simp[execOp,he,Instr.extract,hi']) (hr i v _ u (mt hi'))
  .cases h
 |makeMap t r=>
  cases r with
  |some r=>simp[bA]at h
  |none=>simp only[bA,W3,hO.val.injEq]at h;obtain⟨rfl,rfl⟩:=h;refine cj.of_done (Ds B hb G (k:=1) (o:=.map #[] 0) (by intros;simp) ⟨rfl,rfl,.inl ⟨rfl,#[],0,by show(w.heap.push _)[w.heap.size]? =_;simp,rfl⟩⟩ YG rfl λw2 T=>.mp b _ (bR.set_eq _ _ _) rfl rfl)
 |lookup t m k ok=>simp only[bA]at h;obtain⟨u,rfl⟩:=gJ h;exact cj.of_val B (Ei B (j m) (j k) u)
 |mapUpdate t m k x=>
  simp only[bA]at h;cases Z:gk P H t (ρ m) (ρ k) (ρ x)with
  |none=>rw[Z]at h;cases h
  |some K=>rw[Z]at h;simp only[Xl,W3,hO.val.injEq]at h;obtain⟨rfl,rfl⟩:=h;obtain⟨w',u,h2,h3⟩:=F7 B (j m) (j k) (j x) Z;exact⟨undef,w',σ,.inr ⟨by simp[execOp,u],rfl⟩,.tup [] [] rfl YF,h2,h3,λc pl O=>.inl O⟩
 |range t x=>
  simp only[bA]at h;split at h
  .rename_i s hu hx;simp only[W3,hO.val.injEq]at h;obtain⟨rfl,rfl⟩:=h;have:=j x;rw[hx]at this;obtain⟨ba,he,rfl⟩:=Eh this;refine cj.of_done (s:=Instr.range t (D x)) (Ds B hb G (k:=2) (o:=.stringIter ba 0) (by intros;simp) ⟨rfl,rfl,.inr ⟨rfl,ba,0,by show(w.heap.push _)[w.heap.size]? =_;simp,rfl⟩⟩ YG (by rw[he];exact run_range_string w t ba hu) λw2 T=>.it b _ (bR.set_eq _ _ _) rfl rfl)
  .cases h
 |next it s=>
  cases s with
  |false=>simp[bA]at h
  |true=>
   simp only[bA]at h;cases Z:jI H (ρ it)with
   |none=>rw[Z]at h;cases h
   |some r=>obtain⟨v0,K⟩:=r;rw[Z]at h;simp only[Xl,W3,hO.val.injEq]at h;obtain⟨rfl,rfl⟩:=h;obtain⟨v',w',u,h2,h3,h4⟩:=KT (P:=P) B ty (j it) Z;exact⟨v',w',σ,.inl (by simp[execOp,u]),h2,h3,h4,λc pl O=>.inl O⟩
 |call c=>
  simp only[bA]at h;obtain⟨callee,S,E⟩:=c;obtain⟨S⟩:=S;obtain⟨E⟩:=E;simp only[]at h;split at h
  .rename_i bi;cases hbi:bJ P H b bi E.toArray (S.map ρ)with
   |none=>rw[hbi]at h;cases h
   |some r=>
    obtain⟨v0,K⟩:=r;rw[hbi]at h;simp only[Xl,W3,hO.val.injEq]at h;obtain⟨rfl,rfl⟩:=h;have key:∀cn,cj P (builtin bi ⟨E⟩ ty cn ((⟨S⟩:Array Operand).map D)) w σ H b v0 K:=λcn=>Cq B hb G j hbi
    exact key _
  .rename_i f;split at h<;>simp at h
  .cases h
 |_=>simp[bA]at h
theorem F8(fit:Fit P F){o:Oper}{ρ:Operand->AV}{ρ':Operand->Value}(hρ:∀x,bN w σ (bB σ H) (ρ x) (ρ' x)){g:FuncId}{args:List AV}{fn:Func}{c:Code}
  (h:bA P F o.op ρ b H=some (.call g args)) (hg:P.funcs[g]? =some fn) (hc:fn.body=some c) :
  ∃vs:List Value,(execOp ρ' o).run P w=.ok (.enter g vs.toArray) w/\fP w σ (bB σ H) args vs:=by
 obtain⟨dst,op,ty,pos,after,guard⟩:=o;simp only[]at h;cases op with
 |call c=>
  simp only[bA]at h;obtain⟨callee,qs,types⟩:=c;obtain⟨qs⟩:=qs;simp only[]at h;split at h
  .rename_i bi;cases hbi:bJ P H b bi types (qs.map ρ)with
   |none=>rw[hbi]at h;cases h
   |some r=>rw[hbi]at h;cases h
  .rename_i f;split at h
   .rename_i g' cs hf;simp only[W3,hO.call.injEq]at h;obtain⟨rfl,rfl⟩:=h;have:=hρ f;rw[hf]at this;generalize he:ρ' f=f' at this;cases this with
    |fn _ _ us hl hr=>
    have hnm : ¬ fn.name = "runtime.NumGoroutine" := fit.names _ _ hg
    refine⟨qs.map ρ'++us,?_,by simp[hl],λi a v h1 h2=>?_⟩
    .simp[execOp,resolve,he,Deferred.ofValue,invoke,callFunc,hg,hnm,hc]
    .rcases Fn i qs.length with hi|hi
     .rw[WW (by simpa using hi),W6]at h1 h2;rw[mt hi]at h1 h2;cases h1;cases h2;exact hρ _
     .rw[WQ (by simpa using hi)]at h1 h2;simp only[Xd]at h1 h2;exact hr _ a v h1 h2
   .cases h
  .cases h
 |makeFunc fn first cap=>cases fn<;>simp only[bA]at h<;>(try split at h)<;>simp at h
 |makeMap t r=>cases r<;>simp[bA]at h
 |next it s=>cases s<;>simp[bA]at h
 |_=>
  exfalso;simp only[bA]at h
  repeat' (first|(cases h;done)|(simp at h;done)|split at h)
end
end
section
def c6(w:World)(σ:bR)(T:Nat->Prop)(τ:List AV)(a:Act):Prop:=fP w σ T τ a.tmps.toList/\a.defers=[]
theorem c6.mono{w w':World}{σ σ':bR}{T T':Nat->Prop}(e:fR w σ T w' σ' T'){j:List AV}{a:Act}(h:c6 w σ T j a):c6 w' σ' T' j a:=⟨h.1.mono e,h.2⟩
section
variable {P:Program} {F:TypeId->Option (List TypeId)} {w:World} {σ:bR} {T:Nat->Prop}
theorem mn:bN w σ T ca undef:=.tup [] [] rfl YF
theorem c6.eval{u:List AV}{a:Act}(h:c6 w σ T u a)(O:jy w T)(x:Operand):bN w σ T (kV u x) (a.eval x):=by
 cases x with
 |tmp t=>
  simp only[kV,Act.eval];have D:=h.1.1;simp only[Xe]at D;rcases Fn t u.length with B|B
  .have G:u.getD t ca=u[t]:=by simp[List.getD,B]
   have j:t<a.tmps.size:=D▸B;have E:a.tmps.getD t undef=a.tmps[t]:=by simp[Array.getD,j]
   rw[G,E];exact h.1.2 t _ _ (mt B) (by rw[Xh,Xj j])
  .have G:u.getD t ca=ca:=by simp[List.getD,ST B]
   have j:¬t<a.tmps.size:=Nat.not_lt.2 (D▸B);have E:a.tmps.getD t undef=undef:=by simp[Array.getD,j]
   rw[G,E];exact mn
 |const v=>
  simp only[kV,Act.eval];cases M:KP v with
  |none=>exact .junk _
  |some a=>exact FY M
 |global g=>exact O.rep g
 |func f=>exact .fn f [] [] rfl YF
theorem c6.put{E:List AV}{a:Act}(h:c6 w σ T E a)(D:Option Tmp){v:AV}{v':Value}(M:bN w σ T v v'):c6 w σ T (ik E D v) (a.put D v'):=by
 cases D with
 |none=>exact h
 |some d=>
  refine⟨⟨by simpa[ik,Act.put]using h.1.1,λi x u B j=>?_⟩,h.2⟩;simp only[ik,Act.put,Array.toList_setIfInBounds,Xc]at B j;by_cases G:d=i
  .subst G;simp only[if_true]at B j;split at B
   .split at j
    .cases B;cases j;exact M
    .cases j
   .cases B
  .rw[if_neg G]at B j;exact h.1.2 i x u B j
theorem jS{ops:Array Oper}{o:Oper}{D:List AV}{a:Act}{t:Bool}(h:c6 w σ T D a)(B:eK ops o D=some t):Region.wanted o (yielded ops a.tmps)=t:=by
 unfold eK at B;unfold Region.wanted;split at B
 .rename_i G;cases B;rw[G]
 .rename_i j Y G;rw[G];simp only[];unfold yielded;split at B
  .rename_i d hd;rw[hd];simp only[XB];have get:∀x,D[d]? =some x->∃u,a.tmps[d]? =some u/\bN w σ T x u:=λx hx=>by have E:=h.1.1;simp only[Xe]at E;have hlt:=aF hx;exact⟨a.tmps[d],Xj YC,h.1.2 d x _ hx (by rw[Xh,Xj YC])⟩
   split at B
   .rename_i b M;obtain⟨u,S,O⟩:=get _ M;rw[S];cases O;cases B;rfl
   .rename_i M;obtain⟨u,S,O⟩:=get _ M;rw[S];cases B;cases O with
    |tup _ Z E hr=>
    have:Z=[]:=by cases Z with
     |nil=>rfl
     |cons x l=>simp at E
    subst this;rfl
   .cases B
  .cases B
end
def s9(P:Program)(f:FuncId)(args:List AV)(H:af)(v:AV)(H':af):Prop:=
 ∀(w:World) (σ:bR) (vs:List Value),bQ w σ H->fP w σ (bB σ H) args vs->Calls P f vs.toArray w λe w'=>
  ∃v' σ',e=.returned v'/\bN w' σ' (bB σ' H') v v'/\bQ w' σ' H'/\fR w σ (bB σ H) w' σ' (bB σ' H')/\∀c pl,σ' c=some pl->σ c=some pl\/H.next<=c
structure gz(P:Program)(call:FuncId->List AV->af->Option (AV×af)):Prop where
 ok:∀f args H v H',call f args H=some (v,H')->s9 P f args H v H'
 next:∀f args H v H',call f args H=some (v,H')->H.next<=H'.next
 body:∀f args H v H',call f args H=some (v,H')->∃fn c,P.funcs[f]? =some fn/\fn.body=some c
def r7(w:World)(σ:bR)(H:af)(τ':List AV)(H':af)(a':Act)(w':World):Prop:=
 ∃σ',c6 w' σ' (bB σ' H') τ' a'/\bQ w' σ' H'/\fR w σ (bB σ H) w' σ' (bB σ' H')/\∀c pl,σ' c=some pl->σ c=some pl\/H.next<=c
section
variable {P:Program} {F:TypeId->Option (List TypeId)} {call:FuncId->List AV->af->Option (AV×af)} {ops:Array Oper} {base:Nat} {Q:Exit->Act->World->Prop}
theorem zT{o:Op}{ρ:Operand->AV}{b:Nat}{H H':af}{v:AV}(h:bA P F o ρ b H=some (.val v H')):H'.next=H.next:=by
 cases o with
 |store t a x=>
  simp only[bA]at h;cases u:io P H t (ρ a) (ρ x)with
  |none=>rw[u]at h;cases h
  |some K=>
   rw[u]at h;cases h;unfold io at u
   repeat' (first|(cases u;rfl)|(cases u;done)|split at u)
 |call c=>
  simp only[bA]at h;split at h
  .rename_i bi _;cases j:bJ P H b bi c.argTypes (c.args.toList.map ρ)with
   |none=>rw[j]at h;cases h
   |some r=>
    obtain⟨S,K⟩:=r;rw[j]at h;cases h;unfold bJ at j;split at j
    .repeat' (first|(cases j;rfl)|(cases j;done)|split at j)
    .split at j
     .rw[Ym]at j;obtain⟨n,_,E⟩:=j;cases E;rfl
     .cases j;rfl
     .cases j
    .split at j
     .split at j
      .unfold dO at j
       repeat' (first|(cases j;rfl)|(cases j;done)|split at j)
      .cases j
     .cases j
    .repeat' (first|(cases j;rfl)|(cases j;done)|split at j)
    .repeat' (first|(cases j;rfl)|(cases j;done)|split at j)
    .split at j
     .rw[Ym]at j;obtain⟨K1,D,E⟩:=j;cases E;unfold gD at D
      repeat' (first|(cases D;rfl)|(cases D;done)|split at D)
     .cases j
    .cases j
  .split at h<;>cases h
  .cases h
 |makeFunc Z first cap=>cases Z<;>simp only[bA]at h<;>(try split at h)<;>cases h<;>rfl
 |makeMap t r=>
  cases r with
  |none=>simp only[bA]at h;cases h;rfl
  |some r=>simp[bA]at h
 |mapUpdate t m k x=>
  simp only[bA]at h;cases u:gk P H t (ρ m) (ρ k) (ρ x)with
  |none=>rw[u]at h;cases h
  |some K=>rw[u]at h;cases h;obtain⟨c,y,O,_,_,rfl,_⟩:=nG u;rfl
 |next Y s=>
  cases s with
  |false=>simp[bA]at h
  |true=>
   simp only[bA]at h;cases u:jI H (ρ Y)with
   |none=>rw[u]at h;cases h
   |some r=>obtain⟨S,K⟩:=r;rw[u]at h;cases h;obtain⟨c,y,_,_,⟨rfl,_⟩|⟨O,rfl,_⟩⟩:=uk u<;>rfl
 |buildSlice t len B=>
  simp only[bA]at h;split at h
  .split at h
   .split at h
    .rename_i n z _ _ _;cases M:fw n (List.replicate len z) (B.toList.map λp=>(p.1,ρ p.2))with
     |none=>rw[M]at h;cases h
     |some G=>rw[M]at h;cases h;rfl
    .cases h
   .cases h
  .cases h
 |_=>
  simp only[bA]at h
  first
   |(obtain⟨_,rfl⟩:=gJ h;rfl)
   |(repeat' (first|(cases h;rfl)|(cases h;done)|(obtain⟨_,rfl⟩:=gJ h;rfl)|split at h))
theorem nH(E:gz P call){i:Nat}{D u:List AV}{H H':af}(h:kZ P F call ops base i D H=some (u,H')):H.next<=H'.next:=by
 unfold kZ at h;split at h
 .cases h
 .split at h
  .split at h
   .rename_i B;cases h;rw[zT B];exact Fd _
   .split at h
    .rename_i j;cases h;exact E.next _ _ _ _ _ j
    .cases h
   .cases h
  .cases h;exact Fd _
  .cases h
theorem F9(fit:Fit P F)(hc:gz P call){i:Nat}{τ S:List AV}{H H':af}{w:World}{σ:bR}{a:Act}(h:kZ P F call ops base i τ H=some (S,H'))(Y:bQ w σ H)(j:c6 w σ (bB σ H) τ a)
  (hb:σ (base+i)=none) (hlt:base+i<H.next) {K:Act->World->Prop}
  (hK:∀a' w' σ',c6 w' σ' (bB σ' H') S a'->bQ w' σ' H'->fR w σ (bB σ H) w' σ' (bB σ' H')->(∀c E,σ' c=some E->σ c=some E\/c=base+i\/H.next<=c)->K a' w'):wpOp P ops Q i K a w:=by
 unfold kZ at h;split at h
 .cases h
 .rename_i o ho;unfold wpOp;rw[ho];simp only[];split at h
  .rename_i u;rw[if_pos (jS j u)];left;unfold Oper.wp;split at h
   .rename_i v K' G;cases h;obtain⟨Z,w',σ',O,h2,h3,h4,h5⟩:=Dt fit Y hb hlt (o:=o) (j.eval Y.glob) G;have hk:=hK (a.put o.dst Z) w' σ' ((j.mono h4).put o.dst h2) h3 h4 (λc E B=>by
     rcases h5 c E B with M|M
     .exact .inl M
     .exact .inr (.inl M))
    rcases O with O|⟨O,rfl⟩
    .rw[O];exact hk
    .rw[O];exact hk
   .rename_i f args G;split at h
    .rename_i v K' D;cases h;obtain⟨fn,c,hf,hbd⟩:=hc.body _ _ _ _ _ D;obtain⟨vs,O,h2⟩:=F8 fit (o:=o) (b:=base+i) (j.eval Y.glob) G hf hbd;rw[O];refine(hc.ok _ _ _ _ _ D w σ vs Y h2).mono ?_;rintro e w' ⟨Z,σ',rfl,g1,g2,g3,g4⟩;exact hK (a.put o.dst Z) w' σ' ((j.mono g3).put o.dst g1) g2 g3 (λc E B=>by
      rcases g4 c E B with M|M
      .exact .inl M
      .exact .inr (.inr M))
    .cases h
   .cases h
  .rename_i u;rw[if_neg (by rw[jS j u];simp)];cases h;exact hK _ w σ (j.put o.dst mn) Y (fR.refl _ _ _) (λc E B=>.inl B)
  .cases h
theorem Du(B:gz P call):∀(l:List Nat) (u:List AV) (H:af) (j:List AV) (H':af),nC P F call ops base l u H=some (j,H')->H.next<=H'.next
 |[],u,H,j,H',h=>by cases h;exact Fd _
 | i::l,u,H,j,H',h=>by
  unfold nC at h;split at h
  .rename_i D G E;exact W5 (nH B E) (Du B l _ _ _ _ h)
  .cases h
theorem zU(fit:Fit P F)(Z:gz P call):∀(l:List Nat) (Y:List AV) (H:af) (u:List AV) (H':af),nC P F call ops base l Y H=some (u,H')->l.Nodup->∀(w:World) (σ:bR) (a:Act),
  bQ w σ H->c6 w σ (bB σ H) Y a->(∀i∈l,σ (base+i)=none/\base+i<H.next)->(∀a' w' σ',c6 w' σ' (bB σ' H') u a'->bQ w' σ' H'->fR w σ (bB σ H) w' σ' (bB σ' H')->
   (∀c B,σ' c=some B->σ c=some B\/(∃i∈l,c=base+i)\/H.next<=c)->Q .normal a' w')->wpOps P ops Q l a w
 | [],Y,H,u,H',h,_,w,σ,a,hW,hτ,_,hQ=>by cases h;exact hQ a w σ hτ hW (fR.refl _ _ _) (λc B G=>.inl G)
 | i::l,Y,H,u,H',h,hnd,w,σ,a,hW,hτ,hfr,hQ=>by
  unfold nC at h;split at h
  .rename_i τ1 H1 hs;rw[wpOps_cons];refine F9 fit Z hs hW hτ (hfr i YF).1 (hfr i YF).2 λa1 w1 M t1 r1 e1 n1=>?_
   have D:=Xw.1 hnd;refine zU fit Z l τ1 H1 u H' h D.2 w1 M a1 r1 t1 (λj hj=>?_) (λa' w' σ' t2 r2 e2 n2=>hQ a' w' σ' t2 r2 (e1.trans e2) (λc B G=>?_))
   .have hji:j≠i:=by rintro rfl;exact D.1 hj
    have O:=hfr j (by simp[hj]);refine⟨?_,Xf O.2 (nH Z hs)⟩;cases hs1:M (base+j)with
    |none=>rfl
    |some B=>
     rcases n1 _ B hs1 with E|E|E
     .rw[O.1]at E;cases E
     .omega
     .omega
   .rcases n2 c B G with E|⟨q,hq,rfl⟩|E
    .rcases n1 c B E with S|S|S
     .exact .inl S
     .exact .inr (.inl ⟨i,YF,S⟩)
     .exact .inr (.inr S)
    .exact .inr (.inl ⟨q,by simp[hq],rfl⟩)
    .exact .inr (.inr (W5 (nH Z hs) E))
  .cases h
def Ga:Ex->Exit
 |.normal=>.normal
 |.exit id=>.exit id
 |.ret=>.ret
def du(P:Program)(c:Code)(τ:List AV)(H:af)(e:Ex)(τ':List AV)(H':af):Prop:=
 H.next<=H'.next/\∀(w:World) (σ:bR) (a:Act),bQ w σ H->c6 w σ (bB σ H) τ a->∀Q:Exit->Act->World->Prop,(∀a' w',r7 w σ H τ' H' a' w'->Q (Ga e) a' w')->c.wp P Q a w
theorem r7.refl{w:World}{σ:bR}{H:af}{u:List AV}{a:Act}(B:bQ w σ H)(j:c6 w σ (bB σ H) u a):r7 w σ H u H a w:=⟨σ,j,B,fR.refl _ _ _,λc D h=>.inl h⟩
theorem iq(fit:Fit P F)(Z:gz P call){u:List AV}{H:af}{j:List AV}{H':af}{id:Nat}(h:eM P F call ops false u H=some (j,H')):du P (.region id ops false) u H .normal j H':=by
 simp only[eM,W7,if_false]at h;refine⟨W5 (Xu _ _) (Du Z _ _ _ _ _ h),λw σ a hW E Q hQ=>?_⟩;have M:bQ w σ {H with next:=H.next+ops.size}:=hW.congr (λ_=>rfl) (Xu _ _);have S:bB σ {H with next:=H.next+ops.size}=bB σ H:=bB.congr λ_=>rfl
 refine wp_region (zU fit Z _ u _ j H' h List.nodup_range w σ a M (by rw[S];exact E) (λi Y=>?_) (λa' w' B t r e n=>hQ a' w' ⟨B,t,r,by rw[S]at e;exact e,λc D G=>?_⟩))
 .rw[XR]at Y;refine⟨?_,Nat.add_lt_add_left Y _⟩;cases hs:σ (H.next+i)with
  |none=>rfl
  |some D=>have:=hW.named _ D hs;omega
 .rcases n c D G with O|⟨i,_,rfl⟩|O
  .exact .inl O
  .exact .inr (Xu _ _)
  .exact .inr (W5 (Xu _ _) O)
theorem r7.trans{w O M:World}{σ j:bR}{H G Y:af}{u:List AV}{S:Act}(e:fR w σ (bB σ H) O j (bB j G))(n:∀c B,j c=some B->σ c=some B\/H.next<=c)(hn:H.next<=G.next)(h:r7 O j G u Y S M):r7 w σ H u Y S M:=by
 obtain⟨D,t,r,e2,Z⟩:=h;refine⟨D,t,r,e.trans e2,λc B hc=>?_⟩;rcases Z c B hc with E|E
 .exact n c B E
 .exact .inr (W5 hn E)
def mo(tmps:Array Value):ResultVar->Sem Value
 |.tmp t=>Pure.pure (tmps.getD t undef)
 |.cell a t=>do loadVar t (<-asAddr (tmps.getD a undef))
theorem Iw(u:Func)(j:Array Value):results u j=(do let vs<-u.results.mapM (mo j);Pure.pure (if h:vs.size=1 then vs[0]else .tuple vs)):=by unfold results;congr 2
theorem Ej{w:World}{σ:bR}{H:af}(G:bQ w σ H){M:List AV}{a:Act}(D:c6 w σ (bB σ H) M a)(r:ResultVar){v:AV}(h:k9 P M H r=some v):
  ∃v',(mo a.tmps r).run P w=.ok v' w/\bN w σ (bB σ H) v v':=by
 cases r with
 |tmp t=>cases h;exact⟨_,rfl,D.eval G.glob (.tmp t)⟩
 |cell x t=>
  simp only[k9]at h;have j:=D.eval G.glob (.tmp x);simp only[kV,Act.eval]at j;obtain⟨v',E,O⟩:=zO G j h;refine⟨v',?_,O⟩;unfold oz at h;split at h
  .rename_i B;rw[B]at j;simp only[mo];generalize a.tmps.getD x undef=u at j E;cases j;simpa[Instr.loadAt,Instr.sureAddr,asAddr]using E
  .rename_i B;rw[B]at j;simp only[mo];generalize a.tmps.getD x undef=u at j E;cases j;simpa[Instr.loadAt,Instr.sureAddr,asAddr]using E
  .cases h
theorem resultList{w:World}{σ:bR}{H:af}(G:bQ w σ H){D:List AV}{a:Act}(j:c6 w σ (bB σ H) D a):∀(B:List ResultVar) (vs:List AV),ee (B.map (k9 P D H))=some vs->
  ∃us:List Value,(B.mapM (mo a.tmps)).run P w=.ok us w/\fP w σ (bB σ H) vs us
 |[],vs,h=>by cases h;exact⟨[],rfl,rfl,YF⟩
 | r::B,vs,h=>by
  simp only[WS]at h;cases E:k9 P D H r with
  |none=>rw[E]at h;cases h
  |some v=>
   rw[E]at h;simp only[ee]at h;split at h
   .rename_i l Y;cases h;obtain⟨v',h1,h2⟩:=Ej G j r E;obtain⟨us,Z,M⟩:=resultList G j B l Y;refine⟨v'::us,?_,by simp[M.1],λi x u S O=>?_⟩
    .rw[List.mapM_cons];simp only[Xo,h1,W4,Z,Xz]
    .match i with
     |0=>cases S;cases O;exact h2
     |i+1=>exact M.2 i x u (by simpa using S) (by simpa using O)
   .cases h
theorem r8{w:World}{σ:bR}{H:af}(S:bQ w σ H){O:List AV}{a:Act}(B:c6 w σ (bB σ H) O a){Y:Func}{v:AV}(h:mh P O H Y.results.toList=some v):
  ∃v',(results Y a.tmps).run P w=.ok v' w/\bN w σ (bB σ H) v v':=by
 unfold mh at h;rw[Iw,Array.mapM_eq_mapM_toList];split at h
 .rename_i v0 D;cases h;obtain⟨us,M,j⟩:=resultList S B _ _ D;have G:=j.1
  match us,G with
  |[u],_=>exact⟨u,by simp[M],j.2 0 _ u rfl rfl⟩
 .rename_i Z E D;cases h;obtain⟨us,M,j⟩:=resultList S B _ _ D;have G:us.length≠1:=by
   rw[<-j.1];intro h
   match Z,h with
   |[x],_=>exact E x rfl
  exact⟨.tuple us.toArray,by simp[M,G],.tup _ _ j.1 j.2⟩
 .cases h
theorem um{ex:Code->List AV->af->Option (Ex×List AV×af)}{Good:Code->Prop}(O:∀(g:Nat) (G:Func) (c:Code),P.funcs[g]? =some G->G.body=some c->Good c)
  (h:∀c τ H e B H',Good c->ex c τ H=some (e,B,H')->du P c τ H e B H'):gz P (nD P ex):=by
 have key:∀f j H v H',nD P ex f j H=some (v,H')->∃G c e B K,P.funcs[f]? =some G/\G.body=some c/\ex c (j++List.replicate (G.ntmps-j.length) ca) {H with log:=[]}=some (e,B,K)/\
   (e=.normal\/e=.ret)/\mh P B K G.results.toList=some v/\H'.next=K.next/\∀b,H'.get b=K.get b:=by
  intro f j H v H' E;unfold nD at E;split at E
  .rename_i G Z;split at E
   .rename_i c hb;split at E
    .cases E
    .rename_i e B K hne S;split at E
     .rename_i v0 hr;cases E;refine⟨G,c,e,B,K,Z,hb,S,?_,hr,rfl,λ_=>rfl⟩;cases e with
      |normal=>exact .inl rfl
      |ret=>exact .inr rfl
      |exit id=>exact absurd rfl (hne id)
     .cases E
    .cases E
   .cases E
  .cases E
 refine⟨λf j H v H' E=>?_,λf j H v H' E=>?_,λf j H v H' E=>?_⟩
 .obtain⟨G,c,e,B,K,Z,hb,S,he,hr,hn,hg⟩:=key f j H v H' E;obtain⟨n1,k1⟩:=h _ _ _ _ _ _ (O _ _ _ Z hb) S;intro w σ vs hW Y;have ho:bB σ {H with log:=[]}=bB σ H:=bB.congr λ_=>rfl
  refine calls_of_wp Z hb (k1 w σ _ (hW.congr (λ_=>rfl) (Fd _)) ⟨?_,rfl⟩ _ λa' w' haf=>?_)
  .rw[ho];refine⟨by simp[Y.1],λi x u h1 h2=>?_⟩;simp only[Array.toList_append,Array.toList_replicate]at h2;rcases Fn i j.length with hi|hi
   .rw[WW hi]at h1;rw[WW (by rw[<-Y.1];exact hi)]at h2;exact Y.2 i x u h1 h2
   .rw[WQ hi,X6]at h1;rw[WQ (by rw[<-Y.1];exact hi),X6]at h2;split at h1
    .split at h2
     .cases h1;cases h2;exact mn
     .cases h2
    .cases h1
  .obtain⟨D,t1,r1,e1,m1⟩:=haf;obtain⟨v',g1,g2⟩:=r8 (P:=P) r1 t1 hr;have hoK:bB D H'=bB D K:=bB.congr hg;have M:a'.defers=[]/\∃v,(results G a'.tmps).run P w'=.ok v w'/\∃v' D,Ending.returned v=.returned v'/\bN w' D (bB D H') _ v'/\bQ w' D H'/\fR w σ (bB σ H) w' D (bB D H')/\∀c pl,D c=some pl->σ c=some pl\/H.next<=c:=
    ⟨t1.2,v',g1,v',D,rfl,by rw[hoK];exact g2,r1.congr hg (by rw[hn];exact Fd _),by rw[hoK];rw[ho]at e1;exact e1,m1⟩
   rcases he with rfl|rfl
   .exact M
   .exact M
 .obtain⟨G,c,e,B,K,Z,hb,S,he,hr,hn,hg⟩:=key f j H v H' E;rw[hn];exact(h _ _ _ _ _ _ (O _ _ _ Z hb) S).1
 .obtain⟨G,c,e,B,K,Z,hb,_⟩:=key f j H v H' E;exact⟨G,c,Z,hb⟩
end
end
section
def Bd(H:af):Prop:=∀b,H.next<=b->H.get b=none
structure zr(H H':af):Prop where
 next:H.next<=H'.next
 dom:∀b,b<H.next->H.get b=none->H'.get b=none
 keep:∀b,b<H.next->b∉H'.log->H'.get b=H.get b
 log:∀b,b∈H.log->b∈H'.log
 bd:Bd H->Bd H'
theorem zr.refl(H:af):zr H H:=⟨Fd _,λ_ _ h=>h,λ_ _ _=>rfl,λ_ h=>h,λh=>h⟩
theorem zr.trans{H H' H'':af}(h:zr H H')(k:zr H' H''):zr H H'':=
  ⟨W5 h.next k.next,λb j D=>k.dom b (Xf j h.next) (h.dom b j D),
   λb j u=>(k.keep b (Xf j h.next) u).trans (h.keep b j (λB=>u (k.log b B))),λb j=>k.log b (h.log b j),λj=>k.bd (h.bd j)⟩
section
variable {P:Program} {F:TypeId->Option (List TypeId)}
structure zV(o:Op)(ρ:Operand->AV)(b:Nat)(H H':af):Prop where
 next:H'.next=H.next
 keep:∀c,c≠b->c∉aJ o ρ->H'.get c=H.get c
 keepL:∀c,c≠b->c∉H'.log->H'.get c=H.get c
 dom:∀c,c≠b->H.get c=none->H'.get c=none
 log:∀c,c∈H.log->c∈H'.log
theorem zV.same(o:Op)(ρ:Operand->AV)(b:Nat)(H:af):zV o ρ b H H:=⟨rfl,λ_ _ _=>rfl,λ_ _ _=>rfl,λ_ _ h=>h,λ_ h=>h⟩
theorem zV.new(o:Op)(ρ:Operand->AV)(b:Nat)(H:af)(x:Blk):zV o ρ b H (H.new b x):=
 ⟨rfl,λc j _=>by rw[af.get_new,if_neg (λe=>j e.symm)],λc j _=>by rw[af.get_new,if_neg (λe=>j e.symm)],λc j h=>by rw[af.get_new,if_neg (λe=>j e.symm)];exact h,λ_ h=>h⟩
theorem zV.put{o:Op}{ρ:Operand->AV}{b c:Nat}{H:af}{y:Blk}(D:Blk)(E:H.get c=some y)(G:c∈aJ o ρ):zV o ρ b H (H.put c (some D)):=by
 refine⟨rfl,λd B M=>?_,λd B j=>?_,λd B u=>?_,λd j=>XN _ j⟩
 .rw[af.get_put,if_neg (by rintro rfl;exact M G)]
 .rw[af.get_put,if_neg (by rintro rfl;exact j (by simp[af.put]))]
 .rw[af.get_put];split
  .rename_i e;subst e;rw[E]at u;cases u
  .exact u
theorem Ek{o:Op}{ρ:Operand->AV}{b:Nat}{H H':af}{v:AV}(h:bA P F o ρ b H=some (.val v H')):zV o ρ b H H':=by
 cases o with
 |store t a x=>
  simp only[bA]at h;cases B:io P H t (ρ a) (ρ x)with
  |none=>rw[B]at h;cases h
  |some K=>
   rw[B]at h;cases h;unfold io at B;split at B
   .rename_i c i off cs n ha hcs O;split at B
    .rename_i y Z;split at B
     .rename_i r hr;split at B
      .cases B;have hw:aJ (.store t a x) ρ=[c]:=by simp[aJ,ha,am]
       refine⟨rfl,λd M O=>?_,λd M G=>?_,λd M E=>?_,λd G=>XN _ G⟩
       .rw[af.get_put,if_neg (by rintro rfl;exact O (by rw[hw];simp))]
       .rw[af.get_put,if_neg (by rintro rfl;exact G (by simp[af.put]))]
       .rw[af.get_put];split
        .rename_i e;subst e;rw[Z]at E;cases E
        .exact E
      .cases B
     .cases B
    .cases B
   .cases B
 |call c=>
  simp only[bA]at h;split at h
  .rename_i bi S;cases j:bJ P H b bi c.argTypes (c.args.toList.map ρ)with
   |none=>rw[j]at h;cases h
   |some r=>
    obtain⟨v0,K⟩:=r;rw[j]at h;cases h;unfold bJ at j;split at j
    .split at j
     .cases j;exact .same _ _ _ _
     .cases j
    .split at j
     .rw[Ym]at j;obtain⟨n,_,O⟩:=j;cases O;exact .same _ _ _ _
     .cases j;exact .same _ _ _ _
     .cases j
    .rename_i s x heq;split at j
     .split at j
      .obtain⟨a0,a1,D,E,h1⟩:=qG heq;unfold dO at j;split at j
       .split at j
        .split at j
         .rename_i l m G hm;split at j
          .split at j
           .split at j
            .cases j;exact .same _ _ _ _
            .cases j;exact .new _ _ _ _ _
           .split at j
            .cases j;exact .same _ _ _ _
            .cases j;exact .new _ _ _ _ _
           .rename_i b' i k;cases j;have hw:aJ (.call c) ρ=[b']:=by simp[aJ,S,D,E,am]
            refine⟨rfl,λd M O=>?_,λd M G=>?_,λd M E=>?_,λd G=>XN _ G⟩
            .rw[af.get_new,if_neg (λe=>M e.symm),af.get_put,if_neg (by rintro rfl;exact O (by rw[hw];simp))]
            .rw[af.get_new,if_neg (λe=>M e.symm),af.get_put,if_neg (by rintro rfl;exact G (by simp[af.put,af.new]))]
            .rw[af.get_new,if_neg (λe=>M e.symm),af.get_put];split
             .rfl
             .exact E
           .cases j
          .cases j
         .cases j
        .cases j
       .cases j
      .cases j
     .cases j
    .split at j
     .cases j;exact .same _ _ _ _
     .cases j
    .split at j
     .cases j;exact .same _ _ _ _
     .cases j
    .rename_i x heq;split at j
     .rename_i t htt;cases u:gD P H t x with
      |none=>rw[u]at j;cases j
      |some K1=>
       rw[u]at j;cases j;obtain⟨a0,D,E⟩:=qF heq;unfold gD at u;split at u
       .split at u
        .split at u
         .cases u;exact .same _ _ _ _
         .rename_i d i k;split at u
          .rename_i y Z;split at u
           .cases u;have hw:aJ (.call c) ρ=[d]:=by simp[aJ,S,D,E,am]
            refine⟨rfl,λd' M O=>?_,λd' M G=>?_,λd' M E=>?_,λd' G=>XN _ G⟩
            .rw[af.get_put,if_neg (by rintro rfl;exact O (by rw[hw];simp))]
            .rw[af.get_put,if_neg (by rintro rfl;exact G (by simp[af.put]))]
            .rw[af.get_put];split
             .rename_i e;subst e;rw[Z]at E;cases E
             .exact E
           .cases u
          .cases u
         .cases u
        .cases u
       .cases u
     .cases j
    .cases j
  .split at h<;>cases h
  .cases h
 |makeFunc fn first cap=>cases fn<;>simp only[bA]at h<;>(try split at h)<;>cases h<;>exact .same _ _ _ _
 |makeMap t r=>
  cases r with
  |none=>simp only[bA]at h;cases h;exact .new _ _ _ _ _
  |some r=>simp[bA]at h
 |mapUpdate t m k x=>
  simp only[bA]at h;cases B:gk P H t (ρ m) (ρ k) (ρ x)with
  |none=>rw[B]at h;cases h
  |some K=>rw[B]at h;cases h;obtain⟨c,y,y',hm,Z,rfl,_⟩:=nG B;exact .put _ Z (by simp[aJ,hm,am])
 |next it s=>
  cases s with
  |false=>simp[bA]at h
  |true=>
   simp only[bA]at h;cases B:jI H (ρ it)with
   |none=>rw[B]at h;cases h
   |some r=>
    obtain⟨v0,K⟩:=r;rw[B]at h;cases h;obtain⟨c,y,hm,Z,⟨rfl,_⟩|⟨y',rfl,_⟩⟩:=uk B
    .exact .same _ _ _ _
    .exact .put _ Z (by simp[aJ,hm,am])
 |buildSlice t len Y=>
  simp only[bA]at h;split at h
  .split at h
   .split at h
    .rename_i n z _ _ _;cases hf:fw n (List.replicate len z) (Y.toList.map λp=>(p.1,ρ p.2))with
     |none=>rw[hf]at h;cases h
     |some rows=>rw[hf]at h;cases h;exact .new _ _ _ _ _
    .cases h
   .cases h
  .cases h
 |_=>
  simp only[bA]at h
  first
   |(obtain⟨_,rfl⟩:=gJ h;exact .same _ _ _ _)
   |(repeat' (first|(cases h;exact .same _ _ _ _)|(cases h;exact .new _ _ _ _ _)|(cases h;done)|(obtain⟨_,rfl⟩:=gJ h;exact .same _ _ _ _)|split at h))
theorem hY(base j:Nat):∀(k:Nat) (H:af),(eI base j k H).next=H.next/\(eI base j k H).log=H.log
 |0,H=>⟨rfl,rfl⟩
 | k+1,H=>by
  unfold eI;split
  .exact hY base j k H
  .exact hY base j k _
theorem i9(base u:Nat):∀(k:Nat) (H:af) (c:Nat),(eI base u k H).get c=if(∃j,j<k/\u.testBit j=false/\c=base+j)then none else H.get c
 |0,H,c=>by simp[eI]
 | k+1,H,c=>by
  unfold eI;rw[i9 base u k];by_cases S:∃j,j<k/\u.testBit j=false/\c=base+j
  .obtain⟨j,O⟩:=S;rw[if_pos ⟨j,O⟩,if_pos ⟨j,YC,O.2⟩]
  .rw[if_neg S];by_cases M:u.testBit k=true
   .rw[if_pos M,if_neg];rintro⟨j,O,G,D⟩;by_cases B:j=k
    .subst B;rw[M]at G;cases G
    .exact S ⟨j,YC,G,D⟩
   .rw[if_neg M];show(H.tr.set (base+k) none).get c=_;rw[Tr.get_set];by_cases D:base+k=c
    .rw[if_pos D,if_pos ⟨k,YC,by simpa using M,D.symm⟩]
    .rw[if_neg D,if_neg]
     .rfl
     rintro⟨j,O,G,E⟩;by_cases B:j=k
     .subst B;exact D E.symm
     .exact S ⟨j,YC,G,E⟩
theorem iR(base j:Nat)(H:af):∀(k:Nat) (K:af),(jJ base j H k K).next=K.next/\(jJ base j H k K).log=K.log
 |0,K=>⟨rfl,rfl⟩
 | k+1,K=>by
  unfold jJ;split
  .exact iR base j H k K
  .exact iR base j H k _
theorem mq(base u:Nat)(H:af):∀(k:Nat) (K:af) (c:Nat),(jJ base u H k K).get c=if(∃j,j<k/\u.testBit j=false/\c=base+j)then H.get c else K.get c
 |0,K,c=>by simp[jJ]
 | k+1,K,c=>by
  unfold jJ;rw[mq base u H k];by_cases S:∃j,j<k/\u.testBit j=false/\c=base+j
  .obtain⟨j,O⟩:=S;rw[if_pos ⟨j,O⟩,if_pos ⟨j,YC,O.2⟩]
  .rw[if_neg S];by_cases M:u.testBit k=true
   .rw[if_pos M,if_neg];rintro⟨j,O,G,D⟩;by_cases B:j=k
    .subst B;rw[M]at G;cases G
    .exact S ⟨j,YC,G,D⟩
   .rw[if_neg M];show(K.tr.set (base+k) (H.tr.get (base+k))).get c=_;rw[Tr.get_set];by_cases D:base+k=c
    .rw[if_pos D,if_pos ⟨k,YC,by simpa using M,D.symm⟩,<-D];rfl
    .rw[if_neg D,if_neg]
     .rfl
     rintro⟨j,O,G,E⟩;by_cases B:j=k
     .subst B;exact D E.symm
     .exact S ⟨j,YC,G,E⟩
structure QQ(B:Nat)(W:Nat->Prop)(H H':af):Prop where
 next:H.next<=H'.next
 dom:∀b,b<B->H.get b=none->H'.get b=none
 keep:∀b,b<B->¬W b->H'.get b=H.get b
 bd:Bd H->Bd H'
theorem QQ.refl(B:Nat)(W:Nat->Prop)(H:af):QQ B W H H:=⟨Fd _,λ_ _ h=>h,λ_ _ _=>rfl,λh=>h⟩
theorem QQ.trans{B:Nat}{W u:Nat->Prop}{H H' H'':af}(h:QQ B W H H')(k:QQ B u H' H'')(G:∀b,W b->u b):QQ B u H H'':=
 ⟨W5 h.next k.next,λb j M=>k.dom b j (h.dom b j M),λb j D=>(k.keep b j D).trans (h.keep b j (λE=>D (G b E))),λj=>k.bd (h.bd j)⟩
variable {call:FuncId->List AV->af->Option (AV×af)} {ops:Array Oper} {base:Nat}
theorem Mr{o:Op}{ρ:Operand->AV}{b:Nat}{H H':af}{v:AV}(h:bA P F o ρ b H=some (.val v H'))(D:b<H.next)(B:Bd H):Bd H':=by have u:=Ek h;intro c j;rw[u.next]at j;exact u.dom c YC (B c j)
theorem KU(hc:∀f args H v H',Bd H->call f args H=some (v,H')->zr H H'){B i:Nat}{Z G:List AV}{H H':af}(S:Bd H)(hB:B<=base)(O:base+i<H.next)(h:kZ P F call ops base i Z H=some (G,H')):QQ B (·∈H'.log) H H'/\∀c,c∈H.log->c∈H'.log:=by
 unfold kZ at h;split at h
 .cases h
 .split at h
  .split at h
   .rename_i E;cases h;have j:=Ek E;exact⟨⟨by rw[j.next];exact Fd _,λc u Y=>j.dom c YC Y,λc u M=>j.keepL c YC M,Mr E O⟩,j.log⟩
   .split at h
    .rename_i D;cases h;have j:=hc _ _ _ _ _ S D;exact⟨⟨j.next,λc u Y=>j.dom c YC Y,λc u M=>j.keep c YC M,j.bd⟩,j.log⟩
    .cases h
   .cases h
  .cases h;exact⟨.refl _ _ _,λ_ h=>h⟩
  .cases h
theorem Gb(O:∀f args H v H',Bd H->call f args H=some (v,H')->zr H H'){B:Nat}(S:B<=base):∀(l:List Nat) (D u:List AV) (H H':af),Bd H->(∀i∈l,base+i<H.next)->nC P F call ops base l D H=some (u,H')->
  QQ B (·∈H'.log) H H'/\∀c,c∈H.log->c∈H'.log
 |[],D,u,H,H',_,_,h=>by cases h;exact⟨.refl _ _ _,λ_ h=>h⟩
 | i::l,D,u,H,H',hbd,hl,h=>by
  unfold nC at h;split at h
  .rename_i Y H1 hs;obtain⟨G,Z⟩:=KU O hbd S (hl i YF) hs;obtain⟨h2,M⟩:=Gb O S l _ _ _ _ (G.bd hbd) (λj hj=>Xf (hl j (by simp[hj])) G.next) h;exact⟨G.trans h2 M,λc E=>M c (Z c E)⟩
  .cases h
def touched(r:Option rX)(c:Nat):Prop:=∃x,r=some x/\(c∈x.writes\/c∈x.made\/(x.isCall=true/\x.lo<=c/\c<x.hi))
structure QR(base i:Nat)(H H':af)(r:Option rX):Prop where
 next:H.next<=H'.next
 log:H'.log=H.log
 keep:Bd H->∀c,¬touched r c->H'.get c=H.get c
 dom:∀c,c<H.next->c≠base+i->H.get c=none->H'.get c=none
 bd:Bd H->Bd H'
 made:∀x,r=some x->(∀c∈x.made,c=base+i)/\(x.isCall=true->x.lo=H.next)
theorem jT(hc:∀f args H v H',Bd H->call f args H=some (v,H')->zr H H'){i j:Nat}{τ τ':List AV}{H H':af}{r:Option rX}(G:Bd H)(hlt:base+i<H.next)(h:bZ P F call ops base i j τ H=some (τ',H',r)):QR base i H H' r:=by
 unfold bZ at h;split at h
 .cases h
 .rename_i o ho;split at h
  .split at h
   .rename_i v K O;cases h;have B:=Ek O;refine⟨by show H.next<=K.next;rw[B.next];exact Fd _,rfl,λ_ c hn=>?_,λc _ hcb E=>B.dom c hcb E,λE c u=>Mr O hlt E c u,λx Z=>?_⟩
    .refine B.keep c (λe=>hn ⟨_,rfl,.inr (.inl (by simp[e]))⟩) (λhw=>hn ⟨_,rfl,.inl hw⟩)
    .cases Z;exact⟨YF,YF⟩
   .rename_i f args O;split at h
    .rename_i v K Y;cases h;have D:(eI base j i H).next=H.next:=(hY base j i H).1
     have hbd1:Bd ({eI base j i H with log:=[]}:af):=λd M=>by
      show(eI base j i H).get d=none;rw[i9];split
      .rfl
      .exact G d (by simp only[D]at M;exact M)
     have B:=hc _ _ _ _ _ hbd1 Y;have hn2:=B.next;simp only[D]at hn2;refine⟨by show H.next<=(jJ base j H i K).next;rw[(iR base j H i K).1];exact hn2,rfl,λE c hn=>?_,λc u hcb E=>?_,λE c u=>?_,λx Z=>?_⟩
     .show(jJ base j H i K).get c=H.get c;rw[mq];split
      .rfl
      .rename_i hh;have hg:({eI base j i H with log:=[]}:af).get c=H.get c:=by show(eI base j i H).get c=_;rw[i9,if_neg hh]
       rcases Fn c H.next with u|u
       .by_cases hl:c∈K.log
        .cases hgc:(eI base j i H).get c with
         |none=>have h1:({eI base j i H with log:=[]}:af).get c=none:=hgc;rw[B.dom c (by simp only[D];exact u) h1,<-hg,h1]
         |some y=>exact absurd ⟨_,rfl,.inl (Ye.2 ⟨hl,by simp[hgc]⟩)⟩ hn
        .rw[B.keep c (by simp only[D];exact u) hl];exact hg
       .rcases Fn c K.next with S|S
        .exact absurd ⟨_,rfl,.inr (.inr ⟨rfl,u,S⟩)⟩ hn
        .have G:Bd ({eI base j i H with log:=[]}:af):=λd M=>by
          show(eI base j i H).get d=none;rw[i9];split
          .rfl
          .exact E d (by simp only[D]at M;exact M)
         rw[B.bd G c S,E c u]
     .show(jJ base j H i K).get c=none;rw[mq];split
      .exact E
      .rename_i hh;refine B.dom c (by simp only[D];exact u) ?_;show(eI base j i H).get c=none;rw[i9,if_neg hh];exact E
     .show(jJ base j H i K).get c=none;have hcn':K.next<=c:=by
       have:(jJ base j H i K).next<=c:=u
       rwa [(iR base j H i K).1]at this
      rw[mq];split
      .exact E c YC
      .have G:Bd ({eI base j i H with log:=[]}:af):=λd M=>by
        show(eI base j i H).get d=none;rw[i9];split
        .rfl
        .exact E d (by simp only[D]at M;exact M)
       exact B.bd G c hcn'
     .cases Z;exact⟨YF,λ_=>rfl⟩
    .cases h
   .cases h
  .cases h;exact⟨Fd _,rfl,λ_ _ _=>rfl,λ_ _ _ h=>h,λh=>h,λx Z=>by cases Z⟩
  .cases h
theorem vY(Z:∀f args H v H',Bd H->call f args H=some (v,H')->zr H H'){B:Nat}(hB:B<=base){D:List Nat}:∀(l:List Nat) (τ E:List AV) (H K:af) (S u:List rX),Bd H->(∀i∈l,base+i<H.next)->B<=H.next->
  fK P F call ops base D l τ H S=some (E,K,u)->H.next<=K.next/\K.log=H.log/\Bd K/\(∀b,b<B->H.get b=none->K.get b=none)/\(∀b,b<B->b∉u.flatMap (·.writes)->K.get b=H.get b)/\(∀x∈S,x∈u)
 |[],τ,E,H,K,S,u,hbd,_,_,h=>by cases h;exact⟨Fd _,rfl,hbd,λ_ _ h=>h,λ_ _ _=>rfl,λ_ h=>h⟩
 | i::l,τ,E,H,K,S,u,hbd,hl,hBn,h=>by
  unfold fK at h;split at h
  .rename_i τ1 H1 hs;have d:=jT Z hbd (hl i YF) hs;obtain⟨a1,a2,a3,a4,a5,a6⟩:=vY Z hB l _ _ _ _ _ _ (d.bd hbd) (λj hj=>Xf (hl j (by simp[hj])) d.next) (W5 hBn d.next) h;refine⟨W5 d.next a1,a2.trans d.log,a3,λb M h0=>a4 b M (d.dom b YC YC h0),λb M Y=>(a5 b M Y).trans (d.keep hbd b ?_),a6⟩;rintro⟨x,G,_⟩;cases G
  .rename_i τ1 H1 r hs;split at h
   .have d:=jT Z hbd (hl i YF) hs;obtain⟨a1,a2,a3,a4,a5,a6⟩:=vY Z hB l _ _ _ _ _ _ (d.bd hbd) (λj hj=>Xf (hl j (by simp[hj])) d.next) (W5 hBn d.next) h;refine⟨W5 d.next a1,a2.trans d.log,a3,λb M h0=>a4 b M (d.dom b YC YC h0),λb M Y=>(a5 b M Y).trans (d.keep hbd b ?_),λx G=>a6 x (by simp[G])⟩;rintro⟨x,G,O|O|⟨O,h2,_⟩⟩
    .cases G;exact Y (List.mem_flatMap.2 ⟨r,a6 r YF,O⟩)
    .have:=(d.made x G).1 b O;omega
    .have:=(d.made x G).2 O;omega
   .cases h
  .cases h
theorem Ix(M:∀f args H v H',Bd H->call f args H=some (v,H')->zr H H'){u:Bool}{S E:List AV}{H H':af}(G:Bd H)(h:eM P F call ops u S H=some (E,H')):zr H H':=by
 have j:Bd {H with next:=H.next+ops.size}:=λb D=>G b (W5 (Xu _ _) D)
 cases u with
 |false=>simp only[eM,W7,if_false]at h;obtain⟨o,l⟩:=Gb M (Fd H.next) _ _ _ _ _ j (λi B=>by rw[XR]at B;exact Nat.add_lt_add_left B _) h;exact⟨W5 (Xu _ _) o.next,o.dom,o.keep,l,λ_=>o.bd j⟩
 |true=>
  simp only[eM,if_true]at h;split at h
  .rename_i O K rs hd;cases h;obtain⟨a1,a2,a3,a4,a5,_⟩:=vY M (Fd H.next) _ _ _ _ _ _ _ j (λi B=>by rw[XR]at B;exact Nat.add_lt_add_left B _) (Xu _ _) hd;refine⟨W5 (Xu _ _) a1,a4,λb D Z=>a5 b D (λY=>Z ?_),λb D=>?_,λ_=>a3⟩
   .simp only[WM];exact .inl Y
   .simp only[WM];right;rw[a2];exact D
  .cases h
theorem zW{M:Code->List AV->af->Option (Ex×List AV×af)}(h:∀c O H e u H',Bd H->M c O H=some (e,u,H')->zr H H'){f:FuncId}{args:List AV}{H:af}{v:AV}{H':af}(B:Bd H)
  (j:nD P M f args H=some (v,H')):zr H H':=by
 unfold nD at j;split at j
 .split at j
  .split at j
   .cases j
   .rename_i e u K S G;split at j
    .cases j;have D:=h _ _ {H with log:=[]} _ _ _ B G;refine⟨D.next,D.dom,λb E Y=>D.keep b E (λZ=>Y ?_),λb E=>?_,λ_=>D.bd B⟩
     .simp only[WM,Ye,decide_eq_true_eq];exact .inl ⟨Z,E⟩
     .simp only[WM];exact .inr E
    .cases j
   .cases j
  .cases j
 .cases j
theorem Ms(f:Nat):∀(c:Code) (M:List AV) (H:af) (e:Ex) (B:List AV) (H':af),Bd H->iI P F f c M H=some (e,B,H')->zr H H':=by
 induction f with
 |zero=>intro c M H e B H' _ h;cases h
 |succ f u=>
  intro c M H e B H' j h;cases c with
  |skip=>cases h;exact .refl _
  |label l=>cases h;exact .refl _
  |exit O=>cases h;exact .refl _
  |ret=>cases h;exact .refl _
  |region O ops S=>
   simp only[iI]at h;split at h
   .rename_i hr;cases h;exact Ix (λf Z H v H' hb D=>zW u hb D) j hr
   .cases h
  |seq x y=>
   simp only[iI]at h;split at h
   .rename_i E;have G:=u _ _ _ _ _ _ j E;exact G.trans (u _ _ _ _ _ _ (G.bd j) h)
   .exact u _ _ _ _ _ _ j h
  |cond x Y c2=>
   simp only[iI]at h;split at h
   .exact u _ _ _ _ _ _ j h
   .exact u _ _ _ _ _ _ j h
   .cases h
  |block O Y=>
   simp only[iI]at h;split at h
   .rename_i E;split at h
    .cases h;exact u _ _ _ _ _ _ j E
    .cases h;exact u _ _ _ _ _ _ j E
   .exact u _ _ _ _ _ _ j h
  |loop Y=>
   simp only[iI]at h;split at h
   .rename_i E;have G:=u _ _ _ _ _ _ j E;exact G.trans (u _ _ _ _ _ _ (G.bd j) h)
   .exact u _ _ _ _ _ _ j h
  |_=>simp[iI]at h
end
end
end Go.Proofs.YtfcfhjadaknphaaGreatDoor.Am
section
namespace Go.Proofs.YtfcfhjadaknphaaGreatDoor
open Go.ChangeShapes Go.WideShapes Go.ChangeAt Go.RowKit
abbrev Rel(α:Type):=World->(Nat->Prop)->α->List Value->Prop
def rInt(k:IntKind):Rel Int:=λ_ _ n cs=>cs=[.int k n]/\(Lit.int k n).wf=true
def rBool:Rel Bool:=λ_ _ b cs=>cs=[.bool b]
def rSlice{α:Type}(size:Nat)(R:Rel α):Rel (List α):=λw F l cs=>
 ∃A c,cs=[.slice A l.length c]/\l.length<=c/\c<=maxLen/\
  (0<l.length->∃b o,A=some ⟨b,o,none⟩/\F b/\
   ∀i x,l[i]? =some x->∃cs',cs'.length=size/\R w F x cs'/\∀j u,cs'[j]? =some u->w.cell? ⟨b,o+i*size+j,none⟩=some u)
def Rel.Stays{α:Type}(R:Rel α):Prop:=∀(w w':World) (F F':Nat->Prop) (x:α) (cs:List Value),
 (∀b,F b->b<w.heap.size->w'.heap[b]? =w.heap[b]?)->(∀b,F b->b<w.heap.size->F' b)->R w F x cs->R w' F' x cs
theorem lt_of_cell{w:World}{b o:Nat}{u:Value}(h:w.cell? ⟨b,o,none⟩=some u):b<w.heap.size:=by
 rcases Fn b w.heap.size with j|B
 .exact j
 .simp[World.cell?,Array.getElem?_eq_none B]at h
theorem cell_kept{w w':World}{b o:Nat}{u:Value}(j:b<w.heap.size->w'.heap[b]? =w.heap[b]?)(h:w.cell? ⟨b,o,none⟩=some u):w'.cell? ⟨b,o,none⟩=some u:=
 (World.cell?_of_block (w:=w) (w':=w') (a:=⟨b,o,none⟩) (j (lt_of_cell h))).trans h
theorem rInt_stays(k:IntKind):(rInt k).Stays:=λ_ _ _ _ _ _ _ _ h=>h
theorem rBool_stays:rBool.Stays:=λ_ _ _ _ _ _ _ _ h=>h
theorem rSlice_stays{α:Type}{size:Nat}{R:Rel α}(hs:0<size)(hR:R.Stays):(rSlice size R).Stays:=by
 intro w w' F F' l cs O Y ⟨A,c,h1,h2,h3,h4⟩;refine⟨A,c,h1,h2,h3,λG=>?_⟩;obtain⟨b,o,hA,E,S⟩:=h4 G;have hb:b<w.heap.size:=by obtain⟨D,M,_,B⟩:=S 0 l[0] (mt G);exact lt_of_cell (B 0 D[0] (mt YC))
 refine⟨b,o,hA,Y b E hb,λi x Z=>?_⟩;obtain⟨D,M,hr,B⟩:=S i x Z;exact⟨D,M,hR w w' F F' x D O Y hr,λj u hu=>cell_kept (O b E) (B j u hu)⟩
def Sl{α:Type}(size:Nat)(R:Rel α)(w:World)(F:Nat->Prop)(v:Value)(l:List α):Prop:=rSlice size R w F l [v]
section
variable {α:Type} {size:Nat} {R:Rel α} {w w':World} {F F':Nat->Prop} {v:Value} {l:List α}
theorem Sl.form(h:Sl size R w F v l):∃A c,v=.slice A l.length c/\l.length<=c/\c<=maxLen:=by obtain⟨A,c,B,u,j,_⟩:=h;exact⟨A,c,by simpa using B,u,j⟩
theorem Sl.at_{A:Option Addr}{n c:Nat}(h:Sl size R w F (.slice A n c) l){i:Nat}(O:i<l.length):
  ∃b o cs,A=some ⟨b,o,none⟩/\F b/\cs.length=size/\R w F l[i] cs/\∀j u,cs[j]? =some u->w.cell? ⟨b,o+i*size+j,none⟩=some u:=by
 obtain⟨A',c',D,h2,h3,h4⟩:=h;obtain⟨b,o,Z,Y,S⟩:=h4 YC;have e:A=A':=by injection D with D;injection D
 obtain⟨E,M,G,B⟩:=S i l[i] (mt O);exact⟨b,o,E,e.trans Z,Y,M,G,B⟩
theorem Sl.stays(j:0<size)(B:R.Stays)(h:Sl size R w F v l)(u:∀b,F b->b<w.heap.size->w'.heap[b]? =w.heap[b]?)(D:∀b,F b->b<w.heap.size->F' b):Sl size R w' F' v l:=
 rSlice_stays j B w w' F F' l [v] u D h
theorem Sl.below{B:Nat}(u:0<size)(E:R.Stays)(h:Sl size R w (·<B) v l)(D:Below B w w'):Sl size R w' (·<B) v l:=
 h.stays u E (λb j _=>D.block b j) (λ_ h _=>h)
theorem Sl.nil:Sl size R w F (.slice none 0 0) ([]:List α):=⟨none,0,rfl,YF,by simp[maxLen],λh=>absurd h YF⟩
theorem Sl.len{A:Option Addr}{n c:Nat}(h:Sl size R w F (.slice A n c) l):n=l.length/\n<=c/\c<=maxLen:=by obtain⟨O,M,B,u,j⟩:=h.form;injection B with G E D;subst E D;exact⟨rfl,u,j⟩
end
section
variable {a w:World} {row:Option Nat}
end
def Blk(w:World)(g:Nat)(t:TypeId)(cs:List Value):Prop:=w.heap[g]? =some (.cells cs.toArray t (0,0))
section
variable {w w':World} {g:Nat} {t:TypeId} {cs:List Value}
theorem Blk.lt(h:Blk w g t cs):g<w.heap.size:=by
 rcases Fn g w.heap.size with j|u
 .exact j
 .unfold Blk at h;rw[Array.getElem?_eq_none u]at h;cases h
theorem Blk.free(h:Blk w g t cs)(i:Nat):w.frozen? ⟨g,i,none⟩=false:=by unfold Blk at h;simp[World.frozen?,h]
theorem Blk.new(w:World)(t:TypeId)(cs:List Value){g:Nat}(j:w.heap.size=g):Blk (w.alloc (.cells cs.toArray t)) g t cs:=by subst j;exact heap_alloc_new w _
theorem Blk.alloc(h:Blk w g t cs)(o:Obj):Blk (w.alloc o) g t cs:=(Below.heap_alloc w o g h.lt).trans h
theorem Blk.below{B:Nat}(h:Blk w g t cs)(u:Below B w w')(j:g<B):Blk w' g t cs:=(u.block g j).trans h
theorem Blk.keep(h:Blk w g t cs)(j:Below w.heap.size w w'):Blk w' g t cs:=h.below j h.lt
theorem Blk.only{j:Nat}(h:Blk w g t cs)(B:w.grownBy w' (some j))(u:g≠j):Blk w' g t cs:=(B.block g h.lt (λe=>u (by injection e))).trans h
end
section
variable {H:Type} {enc:TypeId×Value->H} {P:Program} {w:World} {base:Nat} {spare:Nat->Bool} {held:Bool}
def Opens(H:Type)(enc:TypeId×Value->H)(P:Program)(w:World)(base:Nat)(spare:Nat->Bool)(held:Bool){α:Type}(t:TypeId)(R:Rel α):Prop:=
 ∀(fuel:Nat) (cs:List Value) (x:DataW H×List MemPlace),DataW.trod enc P w base spare held fuel t cs=some x->∃d,R w (·<w.heap.size) d cs
theorem opens_int{t:TypeId}{k:IntKind}(ht:P.underlying t=some (.int k)):Opens H enc P w base spare held t (rInt k):=λ_ _ _ h=>by obtain⟨n,u,_,j⟩:=DataW.trod_int ht h;exact⟨n,u,j⟩
theorem opens_slice{α:Type}{t e:TypeId}{size:Nat}{R:Rel α}(ht:P.underlying t=some (.slice e))(hc:P.cellsOf e=size)(hs:0<size)(he:Opens H enc P w base spare held e R):
  Opens H enc P w base spare held t (rSlice size R):=λfuel cs x h=>by
 rcases Deep.open_slice ht h with⟨rfl,_⟩|⟨a,len,cap,m,n,D,Pl,rfl,hb,hl,hm,Z,G,hi⟩
 .exact⟨[],Sl.nil⟩
 rw[hc]at hi;have hlm:len<=m:=by rw[Z];split<;>omega
 have O:∀i,i<len->∃d B,R w (·<w.heap.size) d B/\B.length=size/\∀j u,B[j]? =some u->w.cell? (a.add (i*size+j))=some u:=by
  intro i hil;obtain⟨B,h1,Y⟩:=hi i YC;obtain⟨d,hd⟩:=he _ _ _ Y;obtain⟨_,hcl,hat⟩:=World.cells?_some h1;refine⟨d,B,hd,hcl,λj u hu=>?_⟩;have hj:j<size:=by rw[<-hcl];exact(Xm.1 hu).1
  rw[<-Deep.add_add,hat j hj,hu]
 have:∃l:List α,l.length=len/\∀i x,l[i]? =some x->∃B,R w (·<w.heap.size) x B/\B.length=size/\∀j u,B[j]? =some u->w.cell? (a.add (i*size+j))=some u:=by
  clear G Z hlm hi hl h
  induction len with
  |zero=>exact⟨[],rfl,λi x h=>by simp at h⟩
  |succ k ih=>
   obtain⟨l,hl,hl2⟩:=ih (λi hi=>O i YC);obtain⟨d,B,h1,Y⟩:=O k YC;refine⟨l++[d],by simp[hl],λi x G=>?_⟩;rcases Fn i l.length with h|h
   .rw[WW h]at G;exact hl2 i x G
   .rw[WQ h]at G;have hi0:i-l.length=0:=by
     rcases XH (i-l.length)with h0|h0
     .exact h0
     .rw[ST (by simp only[Yp];omega)]at G;cases G
    rw[hi0]at G;simp at G;subst G;obtain rfl:i=k:=by omega
    exact⟨B,h1,Y⟩
 obtain⟨l,hll,S⟩:=this;subst hll;refine⟨l,some a,cap,rfl,hl,hm,λhn=>?_⟩;have M:a=⟨a.block,a.off,none⟩:=by
  obtain⟨B,_,Y,h3⟩:=S 0 l[0] (mt hn);have E:=h3 0 B[0] (mt YC);rw[show 0*size+0=0 from by omega,Addr.add_zero']at E;unfold World.cell? at E;cases M:a.spot with
  |none=>cases a;simp_all
  |some s=>split at E<;>simp[M]at E
 have hblk:a.block<w.heap.size:=by obtain⟨B,_,Y,h3⟩:=S 0 l[0] (mt hn);have E:=h3 0 B[0] (mt YC);rw[show 0*size+0=0 from by omega,Addr.add_zero',M]at E;exact lt_of_cell E
 refine⟨a.block,a.off,by rw[<-M],hblk,λi x G=>?_⟩;obtain⟨B,h1,Y,h3⟩:=S i x G;refine⟨B,Y,h1,λj u hu=>?_⟩;have:=h3 j u hu;rw[M,Addr.add_lit]at this;rw[XG];exact this
end
section
variable {H:Type} {enc:TypeId×Value->H} {P:Program}
theorem trodAll_below(D:laidOutB P=true){W G:World}(E:Below W.heap.size W G){sp:Nat->Bool}:∀(ts:List TypeId) (vs:List Value) (ds:List (DataW H)) (ps:List MemPlace),
  (∀t∈ts,P.readableRec t=true/\t<P.types.size)->DataW.TrodAll enc P W 0 (λ_=>true) true ts vs ds ps->(∀x∈ps,x.block<W.heap.size)->(∀x∈ps,sp x.block=true)->DataW.TrodAll enc P G 0 sp true ts vs ds ps
 | [],vs,ds,ps,_,h,_,_=>by obtain⟨rfl,rfl,rfl⟩:=trodAll_nil h;exact trodAll_mk0
 | t::ts,vs,ds,ps,hr,h,hlt,hsp=>by obtain⟨v,u,d,B,p,q,rfl,rfl,rfl,S,O⟩:=trodAll_cons h;refine trodAll_cons_mk ?_ (trodAll_below D E ts u B q (λt M=>hr t (XN _ M)) O (λx j=>hlt x (W8 _ j)) (λx j=>hsp x (W8 _ j)));exact WideElems.Trod_stays D (hr t Yr).1 (hr t Yr).2 S (λx j=>E.same (hlt x (XK _ j))) (λx j=>hsp x (XK _ j))
theorem law_post{f:Func}{s:ChangeSpec}{apart S E Y:Bool}{W W':World}{args:Array Value}{ds gs:List (DataW H)}{u:List MemPlace}{tb:TypeId}
  (hl:laidOutB P=true) (hr:∀t∈f.params.toList,P.readableRec t=true/\t<P.types.size) (B:s.vars=[]) (hrt:f.resultTypes=#[tb]) (htb:P.underlying tb=some .bool)
  (hW:DataW.Whole enc P f.params.toList s.vars apart W args.toList ds gs u)
  (hsr:(s.fn H (ds++gs)).results=[.lit (.bool true)]) (hsa:(s.fn H (ds++gs)).args=ds) (hsv:(s.fn H (ds++gs)).vars=[]) (hb:Below W.heap.size W W') :
  s.post enc P f apart S E Y W args (.bool true) W':=by
 have O:∀p∈u,p.block<W.heap.size:=λp hp=>hW.lt p hp
 have hold:∀p∈u,(λb=>decide (b<W.heap.size)) p.block=true:=λp hp=>by simpa using O p hp
 obtain⟨G,pv,hA,hV,rfl,hz,hn⟩:=hW;have hW:DataW.Whole enc P f.params.toList s.vars apart W args.toList ds gs (G++pv):=⟨G,pv,hA,hV,rfl,hz,hn⟩;rw[B]at hV;obtain⟨rfl,rfl⟩:=trodVars_none hV;have D:∀sp:Nat->Bool,(∀p∈G,sp p.block=true)->DataW.TrodAll enc P W' 0 sp true f.params.toList args.toList (s.fn H (ds++[])).args G:=λsp hsp=>by rw[hsa];exact trodAll_below hl hb _ _ _ _ hr hA (λx hx=>O x (by simpa using hx)) hsp
 have M:∀(b:Nat) (sp:Nat->Bool) (hd:Bool),DataW.TrodAll enc P W' b sp hd f.resultTypes.toList ((Value.bool true).resultList f.resultTypes.size) (s.fn H (ds++[])).results []:=λb sp hd=>by rw[hsr,hrt];exact trodAll_cons_mk (shut_bool htb _) trodAll_mk0
 have hvs:∀sp:Nat->Bool,DataW.TrodVars enc P W' sp s.vars (s.fn H (ds++[])).vars []:=λsp=>by rw[B,hsv];rfl
 refine⟨ds,[],G++[],[],G,[],hW,M _ _ _,D _ (λp hp=>hold p (by simpa using hp)),hvs _,World.keptBut_mono (λp hp=>⟨hp,?_⟩) (hb.frame (·∈G++[])),λ_=>?_⟩
 .rw[WM]at hp;exact Or.inr hp
 .refine⟨?_,_,_,([]++G)++[],⟨[]++G,[],trodAll_append (D _ (λ_ _=>rfl)) (M _ _ _),hvs _,rfl,?_,?_⟩,?_⟩
  .intro j t r hj hr';rw[hrt]at hj hr'
   match j with
   |0=>
    simp at hj;subst hj;have:r=.bool true:=by simpa[Value.resultList]using hr'.symm
    subst this;exact okWide_bool_mk htb _
   |j+1=>simp at hj
  .intro b Z hp;have hin:MemPlace.cell b Z∈G++[]:=by simpa using hp
   rw[hb.frozen (O _ hin)];exact hz b Z hin
  .intro ha;have:=hn ha;simpa using this
  .intro p hp _;simpa using hp
end
end Go.Proofs.YtfcfhjadaknphaaGreatDoor
end
