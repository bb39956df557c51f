/- part -/
import Derived.Test.YtfckbjehkbhkgaaGreatQwa
import Derived.IntWalk
import Derived.Deep.AppendSrc
import Derived.MapKept
import Derived.Carry
import Derived.Lib.OthersKept
import Derived.Laws.RangeString
import Derived.LoopN
import Derived.Test.YtfckbjehkbhkgaaGreatRows
import Derived.WalkKit
import Derived.ProofKit
import Derived.OpenShut
import Derived.Handy
import Derived.Outline
import Derived.Lib.Hide
import Derived.Deep.Slices
import Derived.Deep.Fields
import Derived.ChangeSame
import Derived.Deep.Draws
import Derived.Laws.AppendOwn
import Derived.Laws.OwnMore
import Derived.Laws.MakeOwn
import Derived.OwnWalk
set_option linter.all false
set_option maxRecDepth 100000
set_option maxHeartbeats 0
namespace Go.Proofs.YtfckbjehkbhkgaaGreat.Am
section
section
variable {P:Program} {w:World} {σ:bO} {T:Nat->Prop} {H:ah} {b:Nat}
theorem pZ{n:Nat}{ρ:Operand->AV}{u:Operand->Value}(E:∀x,bC w σ T (ρ x) (u x)):∀(ps:List (Nat×Operand)) (rows r:List (List AV)) (j:Array Value),
  Flat w σ T rows n j.toList->fK n rows (ps.map λp=>(p.1,ρ p.2))=some r->
  ∃N:Array Value,Instr.fill (λi=>some (i*n,n)) j (ps.map λp=>(p.1,u p.2))=some N/\Flat w σ T r n N.toList/\r.length=rows.length
 |[],rows,r,j,hc,h=>by cases h;exact⟨j,rfl,hc,rfl⟩
 | (i,x)::ps,rows,r,j,hc,h=>by
  simp only[aai,fK]at h;split at h
  .rename_i cs O;split at h
   .rename_i Y;obtain⟨M,G,_⟩:=Y;have S:=(E x).cells O;have e1:(u x).cells.size=n:=by rw[<-Array.length_toList,<-S.1,M]
    have e2:j.size=rows.length*n:=by rw[<-Array.length_toList,hc.len]
    have Z:i*n+n<=rows.length*n:=by have:(i+1)*n<=rows.length*n:=abl _ G;rw[abM]at this;omega
    have B:((u x).cells.zipIdx.foldl (λ(cs:Array Value) (p:Value×Nat)=>cs.setIfInBounds (i*n+p.2) p.1) j).toList=j.toList.take (i*n)++(u x).cells.toList++j.toList.drop (i*n+(u x).cells.toList.length):=by have:=xF (u x).cells.toList 0 (i*n) j acS;rw[<-Array.foldl_toList,Array.toList_zipIdx];simpa using this
    obtain⟨N,h1,h2,h3⟩:=pZ E ps (rows.set i cs) r _ (by rw[B];exact hc.set G M S) h;refine⟨N,?_,h2,by simpa using h3⟩;have D:(decide ((u x).cells.size≠n)||decide (i*n+(u x).cells.size > j.size))=false:=by simp[e1,e2];omega
    simp only[aai,Instr.fill,D,abj,if_false];exact h1
   .cases h
  .cases h
theorem LJ{x:Blk}{cs:Array Value}{e:TypeId}{k j:Nat}(D:k<=j)(u:j<=maxLen)(B:j*x.size<=cs.size):
  bC (World.push w (.cells cs e (0,0))) (σ.set b ⟨w.heap.size,0,x.size⟩) (aX (σ.set b ⟨w.heap.size,0,x.size⟩) (H.new b x)) (.sl b 0 k) (.slice (some ⟨w.heap.size,0,none⟩) k j):=by
 refine bC.sl b 0 k ⟨w.heap.size,0,x.size⟩ _ j (bO.set_eq _ _ _) (.inl rfl) D u λ_=>⟨acQ,cs,e,?_,by simpa using B⟩
 show(w.heap.push _)[w.heap.size]? =_;simp
theorem zU(hW:bJ w σ H)(hb:σ b=none)(hlt:b<H.next){t e:TypeId}{len n:Nat}{ps:Array (Nat×Operand)}{ρ:Operand->AV}{j:Operand->Value}(N:∀x,bC w σ (aX σ H) (ρ x) (j x))
  {z:List AV} {rows:List (List AV)} (hu:P.underlying t=some (.slice e)) (hn:bk P e=some n) (D:(fB P e).bind AV.cells? =some z) (S:z.length=n) (h0:0<n) (hl:len*n<=2^24)
  (h:fK n (List.replicate len z) (ps.toList.map λp=>(p.1,ρ p.2))=some rows) :
  Ej P (Instr.buildSlice t len (ps.map λ(i,x)=>(i,j x))) w σ H b (.sl b 0 len) (H.new b ⟨n,rows⟩):=by
 have G:(ps.map λ(i,x)=>(i,j x)).toList=ps.toList.map λp=>(p.1,j p.2):=by simp
 cases B:fB P e with
 |none=>rw[B]at D;cases D
 |some za=>
  rw[B]at D;simp only[abQ]at D;obtain⟨z',Z,Y⟩:=ga (P:=P) (w:=w) (σ:=σ) (T:=aX σ H) B;have O:=Y.cells D;have hlen:len<=2^24:=abe (Nat.le_mul_of_pos_right len h0) hl;obtain⟨l,e1,e2,e3,_⟩:=Flat.zeros O S h0 len len (Fd _);have hfl:Flat w σ (aX σ H) (List.replicate len z) n (l.toArray).toList:=by rw[aaT acN]at e3;exact e3
  obtain⟨M,f1,f2,f3⟩:=pZ N ps.toList _ rows l.toArray hfl h;have E:M.size=len*n:=by rw[<-Array.length_toList,f2.len,f3];simp
  have hrl:rows.length=len:=by simpa using f3
  refine Bk hW hb hlt (cs:=M) (e:=e) (v':=.slice (some ⟨w.heap.size,0,none⟩) len len) (l:=M.toList) ?_ f2 ?_ ?_
  .simp only[];rw[aaT (by rw[abo,E,hrl];exact Fd _)]
  .have hgt:¬len*n > 2^24:=by omega
   simp only[Instr.buildSlice,abx,run_underlying hu,abd,dP hn];rw[if_neg hgt];by_cases u:len*n=0
   .have hl0:len=0:=by
     rcases Nat.mul_eq_zero.1 u with h1|h1
     .exact h1
     .omega
    subst hl0;rw[if_pos u];have:l=[]:=by cases l with
     |nil=>rfl
     |cons a l=>simp at e2
    subst this;simp only[abx,abO,abd,u,G];have he:(Array.range 0).map (λx=>(#[]:Array Value)[x % (#[]:Array Value).size]!)=([]:List Value).toArray:=by simp
    rw[he,f1];rfl
   .rw[if_neg u];simp only[abx,Z,abO,abd,G];rw[e1,f1];rfl
  .exact LJ (x:=⟨n,rows⟩) (Fd _) (by unfold maxLen;omega) (by rw[E];exact Fd _)
theorem Bl(hW:bJ w σ H)(hb:σ b=none)(hlt:b<H.next){t e:TypeId}{n by_ l c:Nat}{x y:AV}{x' y':Value}(hx:bC w σ (aX σ H) x x')(hy:bC w σ (aX σ H) y y')
  {z:List AV} (hu:P.underlying t=some (.slice e)) (hn:bk P e=some n) (N:iR P e=some by_) (E:(fB P e).bind AV.cells? =some z) (hl:gQ x=some l) (hc:gQ y=some c)
  (Y:z.length=n) (h0:0<n) (M:l<=c) (hcm:c<=2^62) (hcb:c*by_<=2^48) :
  Ej P (Instr.makeSlice t x' y') w σ H b (.sl b 0 l) (H.new b ⟨n,List.replicate l z⟩):=by
 obtain⟨kl,u,rfl,hl0,rfl⟩:=pX hx hl;obtain⟨kc,j,rfl,hc0,rfl⟩:=pX hy hc;cases B:fB P e with
 |none=>rw[B]at E;cases E
 |some za=>
  rw[B]at E;simp only[abQ]at E;cases hi:P.info? e with
  |none=>simp[iR,hi]at N
  |some i=>
  have hib:i.bytes=by_:=by simpa[iR,hi]using N
  obtain⟨z',hz1,Z⟩:=ga (P:=P) (w:=w) (σ:=σ) (T:=aX σ H) B;have S:=Z.cells E;obtain⟨l,e1,e2,e3,_⟩:=Flat.zeros S Y h0 u.toNat j.toNat M;have wl:IntKind.i64.wrap u=u:=abg _ acN;have wc:IntKind.i64.wrap j=j:=abg _ acN;have O:((decide (j<0)||decide ((i.bytes:Int)*j > 2^48))||decide (u<0)||decide (u > j))=false:=by
   rw[hib];have:((by_:Int)*j)=((j.toNat*by_:Nat):Int):=by rw[Int.natCast_mul,abD hc0,Int.mul_comm]
   have h2:((j.toNat*by_:Nat):Int)<=2^48:=by exact_mod_cast hcb
   simp only[Bool.or_eq_false_iff,decide_eq_false_iff_not];refine⟨⟨⟨acN,by rw[this];omega⟩,acN⟩,acN⟩
  refine Bk hW hb hlt (x:=⟨n,List.replicate u.toNat z⟩) (cs:=l.toArray) (e:=e) (v':=.slice (some ⟨w.heap.size,0,none⟩) u.toNat j.toNat) (l:=l.take (u.toNat*n)) ?_ e3 ?_ ?_
  .simp
  .simp only[Instr.makeSlice,asInt,asIntOf,abx,run_underlying hu,abO,abd,vj hi,wl,wc,O,abj,if_false,run_askRoom,dP hn];by_cases D:j.toNat*n=0
   .rw[if_pos D];have G:l=[]:=by cases l with
     |nil=>rfl
     |cons a l=>simp at e2;omega
    subst G;simp only[abx,abO,abd,D];have he:(Array.range 0).map (λx=>(#[]:Array Value)[x % (#[]:Array Value).size]!)=([]:List Value).toArray:=by simp
    rw[he];rfl
   .rw[if_neg D];simp only[abx,hz1,abO,abd];rw[e1];rfl
  .exact LJ (x:=⟨n,List.replicate u.toNat z⟩) M (by unfold maxLen;omega) (by simp[e2])
theorem Bm{m:List (List AV)}{n c o:Nat}(O:∀(i:Nat) (r:List AV),m[i]? =some r->r.length=n)(hc:∀(i:Nat) (r:List AV),m[i]? =some r->IY w σ T r c (o+i*n)):
  ∃l:List Value,(∀D:World,D.heap=w.heap->(loadCells ⟨c,o,none⟩ (m.length*n)).run P D=.ok l.toArray D)/\Flat w σ T m n l:=by
 have E:∀p,∃u,p<m.length*n->w.cell? ⟨c,o+p,none⟩=some u:=λp=>by
  by_cases hp:p<m.length*n
  .have Z:0<n:=by
    rcases abZ n with S|S
    .subst S;simp at hp
    .exact S
   have hi:p / n<m.length:=by rw[Nat.div_lt_iff_lt_mul Z];exact hp
   have B:m[p / n]? =some m[p / n]:=mt hi;have G:p % n<m[p / n].length:=by rw[O _ _ B];exact Nat.mod_lt _ Z
   obtain⟨u,M,_⟩:=hc _ _ B (p % n) _ (mt G);refine⟨u,λ_=>?_⟩;rw[abW,Nat.mul_comm,Nat.div_add_mod]at M;exact M
  .exact⟨undef,λh=>absurd h hp⟩
 let f:=λp=>Classical.choose (E p)
 have hf:∀p,p<m.length*n->w.cell? ⟨c,o+p,none⟩=some (f p):=λp=>Classical.choose_spec (E p)
 refine⟨(List.range (m.length*n)).map f,λD N=>run_loadCells D _ _ f (λj G=>by rw[fZ];rw[<-hf j G];unfold World.cell?;rw[N]),⟨acQ,O,?_⟩⟩;intro i r j a u B ha Y;have G:j<n:=by rw[<-O i r B];exact aH ha
 have hp:=pY (aH B) G;rw[abn,acM hp]at Y;cases Y;obtain⟨u,M,h2⟩:=hc i r B j a ha;rw[abW,hf _ hp]at M;cases M;exact h2
theorem FV(hW:bJ w σ H){n:Nat}{x:AV}{x':Value}{m:List (List AV)}(M:bC w σ (aX σ H) x x')(h:hY H n x=some m):
  ∃(A:Option Addr) (j:Nat) (l:List Value),x'=.slice A m.length j/\(∀B:World,B.heap=w.heap->(Builtin.firstCells n m.length x').run P B=.ok l.toArray B)/\Flat w σ (aX σ H) m n l:=by
 unfold hY at h;split at h
 .cases h;cases M;exact⟨none,0,[],rfl,λ_ _=>rfl,Flat.nil n⟩
 .cases h;cases M with
  |emp A=>exact⟨A,0,[],rfl,λB _=>by cases A<;>simp[Builtin.firstCells,loadCells,loadCellsFrom],Flat.nil n⟩
 .rename_i rows;split at h
  .cases h;obtain⟨A,j,rfl,_,_,_⟩:=M.lst_inv;refine⟨A,j,[],rfl,?_,Flat.nil n⟩;intro B _;cases A<;>simp[Builtin.firstCells,loadCells,loadCellsFrom]
  .rename_i r rs;split at h
   .rename_i hr;cases h;obtain⟨A,j,rfl,hn,hm,ha⟩:=M.lst_inv;obtain⟨b,o,sz,rfl,hl,O⟩:=ha acQ;obtain rfl:r.length=sz:=hl.even 0 r rfl;subst hr;obtain⟨l,Y,h2⟩:=Bm (P:=P) (o:=o) (c:=b) hl.even (λi q D=>hl.row O D);exact⟨_,j,l,rfl,λB E=>by simp only[Builtin.firstCells];exact Y B E,h2⟩
   .cases h
 .rename_i b' i k;split at h
  .rename_i y hy;split at h
   .rename_i G;obtain⟨N,hik⟩:=G;cases h;obtain⟨Z,a,j,rfl,hs,hn,hm,ha⟩:=M.sl_inv;obtain⟨pl',cs',e',g1,S⟩:=hW.live b' y hy;rw[hs]at g1;cases g1;replace S:=S.1 (M.sl_ok hs);have u:((y.rows.drop i).take k).length=k:=by simp;omega
    rw[u];have get:∀(q:Nat) (r:List AV),((y.rows.drop i).take k)[q]? =some r->y.rows[i+q]? =some r:=λq r D=>by
     have hi:=aH D;rw[u]at hi
     rwa [abJ hi,abY]at D
    rcases abZ k with hk|hk
    .subst hk;exact⟨_,j,[],rfl,λB _=>by simp[Builtin.firstCells,loadCells,loadCellsFrom],by simpa using Flat.nil n⟩
    .obtain⟨rfl,cs,ty,hc,hr⟩:=ha acN;obtain⟨l,Y,h2⟩:=Bm (P:=P) (w:=w) (σ:=σ) (T:=aX σ H) (m:=(y.rows.drop i).take k) (n:=n) (c:=Z.block) (o:=Z.base+i*Z.size) (λq r D=>by rw[<-N];exact S.even _ r (get q r D)) (λq r D=>by
      have:=S.row (get q r D);rw[abM,<-Nat.add_assoc]at this
      rwa [S.size,N]at this ⊢)
     rw[u]at Y;exact⟨_,j,l,rfl,λB E=>by simp only[Builtin.firstCells];exact Y B E,h2⟩
   .cases h
  .cases h
 .cases h
theorem Flat.ones{rows:List (List AV)}{n:Nat}{l:List Value}(h:Flat w σ T rows n l)(G:(rows.all λr=>r.all AV.one)=true):∀u∈l,u.oneCell'=true:=by
 intro u S;obtain⟨p,hp,rfl⟩:=abC S;have B:=h.len;have M:0<n:=by
  rcases abZ n with D|D
  .subst D;rw[Nat.mul_zero]at B;omega
  .exact D
 have O:p / n<rows.length:=by rw[Nat.div_lt_iff_lt_mul M];omega
 have E:rows[p / n]? =some rows[p / n]:=mt O;have N:p % n<rows[p / n].length:=by rw[h.even _ _ E];exact Nat.mod_lt _ M
 have j:=h.rep (p / n) _ (p % n) _ l[p] E (mt N) (by rw[Nat.mul_comm,Nat.div_add_mod];exact mt hp);refine j.one ?_;rw[abh]at G;have:=G _ (LT O);rw[abh]at this;exact this _ (LT N)
theorem iz{t tx ty e O:TypeId}{n sLen sCap k E:Nat}{A B:Option Addr}{D:List Value}(ht:P.underlying t=some (.slice e))(G:P.underlying tx=some (.slice O))(M:bk P e=some n)
  (j:sLen+k<=sCap) (N:(Builtin.firstCells n k (.slice B k E)).run P w=.ok D.toArray w) {w':World} (u:(match A with|some a=>storeCells (a.add (sLen*n)) D|none=>Pure.pure ()).run P w=.ok () w') :
  (Builtin.append_ #[t,tx] ty #[.slice A sLen sCap,.slice B k E]).run P w=.ok (.slice A (sLen+k) sCap) w':=by
 cases A with
 |none=>simp only[abO]at u;cases u;simp[Builtin.append_,run_underlying ht,run_underlying G,dP M,Builtin.lenOf,j,N]
 |some a=>simp only[]at u;simp[Builtin.append_,run_underlying ht,run_underlying G,dP M,Builtin.lenOf,j,N,u]
theorem I7(hW:bJ w σ H)(hb:σ b=none)(hlt:b<H.next){t tx ty e':TypeId}{s x v:AV}{s' x':Value}{H':ah}(hx:bC w σ (aX σ H) x x')(hs:bC w σ (aX σ H) s s')
  (htx:P.underlying tx=some (.slice e')) (h:eh P H b t s x=some (v,H')):Ej P (Builtin.append_ #[t,tx] ty #[s',x']) w σ H b v H':=by
 unfold eh at h;split at h
 .rename_i e hu;split at h
  .rename_i n by_ z hn hby hz;split at h
   .rename_i l m hl hm;split at h
    .rename_i hc;obtain⟨c1,c2,h0,hzn,hone⟩:=hc;cases hi:P.info? e with
     |none=>simp[iR,hi]at hby
     |some i=>
     have hib:i.bytes=by_:=by simpa[iR,hi]using hby
     have hin:i.size=n:=by simpa[bk,hi]using hn
     cases hza:fB P e with
     |none=>rw[hza]at hz;cases hz
     |some za=>
     rw[hza]at hz;simp only[abQ]at hz;obtain⟨z',hz1,hz2⟩:=ga (P:=P) (w:=w) (σ:=σ) (T:=aX σ H) hza;have hiz:i.zero=some z':=by
      simp only[zeroValue,abx,vj hi,abd]at hz1;split at hz1
      .rename_i q hq;cases hz1;exact hq
      .cases hz1
     have hzr:=hz2.cells hz;obtain⟨A,G,Z,rfl,ho1,ho2⟩:=FV (P:=P) hW hs hl;obtain⟨B,capx,D,rfl,hn1,S⟩:=FV (P:=P) hW hx hm;have grow:∀{K:ah},(hWK:bJ w σ K)->(hext:fT w σ (aX σ H) w σ (aX σ K))->b<K.next->G<l.length+m.length->
       Ej P (Builtin.append_ #[t,tx] ty #[.slice A l.length G,.slice B m.length capx]) w σ H b (.sl b 0 (l.length+m.length)) (K.new b ⟨n,l++m⟩):=by
      intro K hWK hext hltK hcap;have E:=run_append_grow_src (P:=P) w t tx ty e i z' hu hi hiz A l.length G Z (by rw[hin];exact ho1 _ rfl) (.slice B m.length capx) m.length D
       ⟨.inl ⟨e',htx⟩,λ_=>rfl,by rw[hin];exact hn1 w rfl,by rw[hin];exact hn1 _ rfl,by rw[hin];exact S.len,S.ones hone⟩ hcap acN
       (by rw[hib];have:=abl by_ (nextslicecap_le hcap);omega)
      generalize hgc:grownCap w (l.length+m.length) G e=gc at E;have hgc1:l.length+m.length<=gc/\gc<=maxLen:=by rw[<-hgc];have hcut:grownCap w (l.length+m.length) G e=(l.length+m.length)+w.tape w.drawn (.appendCap (l.length+m.length) G e) % (2^63-(l.length+m.length)):=rfl;rw[hcut];unfold maxLen;have:w.tape w.drawn (.appendCap (l.length+m.length) G e) % (2^63-(l.length+m.length))<2^63-(l.length+m.length):=Nat.mod_lt _ acN;omega
      have hE:fT w σ (aX σ H) w.drew σ (aX σ K):=hext.trans (fT.same σ _ rfl rfl rfl rfl);have hzs:z'.cells.size=n:=by rw[<-Array.length_toList,<-hzr.1,hzn]
      have Y:Flat w σ (aX σ H) (l++m) n (Z++D):=ho2.append S;generalize hcs:((Z++D).toArray++Builtin.zeroCells z'.cells (gc-(l.length+m.length)):Array Value)=cs at E;have hcl:cs.size=gc*n:=by rw[<-hcs];have h1:=Y.len;simp only[aal]at h1;simp only[Array.size_append,List.size_toArray,aal,h1,Builtin.zeroCells,Array.size_map,Array.size_range,hzs];rw[<-Nat.add_mul];congr 1;omega
      have hcget:∀p u,p<(l++m).length*n->cs[p]? =some u->(Z++D)[p]? =some u:=λp u hp hu=>by rw[<-hcs,Array.getElem?_append_left (by simp only[List.size_toArray];rw[Y.len];exact hp)]at hu;simpa using hu
      obtain⟨g1,g2⟩:=(hWK.same (w':=w.drew) rfl rfl rfl rfl).new hb hltK (x:=⟨n,l++m⟩) (cs:=cs) (e:=e) Y.even (by rw[hcl];simp only[aal];exact abl _ hgc1.1) (λi r j a u hr ha hu=>by
       have hj:j<n:=by rw[<-Y.even i r hr];exact aH ha
       exact(Y.rep i r j a u hr ha (hcget _ u (pY (aH hr) hj) hu)).mono hE)
      refine⟨_,_,_,E,?_,g1,hE.trans g2,λc N hc=>?_⟩
      .exact LJ (w:=w.drew) (x:=⟨n,l++m⟩) hgc1.1 hgc1.2 (by rw[hcl];exact Fd _)
      .by_cases hbc:b=c
       .exact .inr hbc.symm
       .rw[bO.set_ne _ _ hbc]at hc;exact .inl hc
     split at h
     ·
      cases hl;simp only[abq]at hs;cases hs;split at h
      .rename_i M;cases h;refine⟨.slice none 0 0,w,σ,?_,.nils,hW,fT.refl _ _ _,λc N hc=>.inl hc⟩;have:=iz (P:=P) (ty:=ty) (A:=none) (sLen:=0) (sCap:=0) (k:=m.length) hu htx hn acN (hn1 w rfl) (w':=w) rfl;rw[M]at this;simpa[M]using this
      .rename_i M;cases h;have:=grow hW (fT.refl _ _ _) hlt acS;simpa using this
     ·
      cases hl;simp only[abq]at hs;cases hs;split at h
      .rename_i M;cases h;refine⟨.slice A 0 0,w,σ,?_,.emp A,hW,fT.refl _ _ _,λc N hc=>.inl hc⟩;have hm':m=[]:=by cases m with
        |nil=>rfl
        |cons x m=>simp at M
       have hnews:D=[]:=by have:=S.len;rw[hm']at this;simpa using this
       have:=iz (P:=P) (ty:=ty) (A:=A) (sLen:=0) (sCap:=0) (k:=m.length) hu htx hn acN (hn1 w rfl) (w':=w) (by rw[hnews];cases A<;>rfl);rw[M]at this;simpa[M]using this
      .rename_i M;cases h;have:=grow hW (fT.refl _ _ _) hlt acS;simpa using this
     .rename_i b' i k;cases h;obtain⟨N,a,cap',heq,hsig,hk,hcm,ha⟩:=hs.sl_inv;simp only[Value.slice.injEq]at heq;obtain⟨rfl,hkl,rfl⟩:=heq;simp only[hY]at hl;split at hl
      .rename_i y hy;split at hl
       .rename_i hcond;obtain⟨hyn,hik⟩:=hcond;cases hl;have hlen:((y.rows.drop i).take k).length=k:=by simp;omega
        obtain⟨pl',ds,e0,q1,q2⟩:=hW.live b' y hy;rw[hsig]at q1;cases q1;have hpk:=hs.sl_ok hsig;replace q2:=q2.1 hpk;have hps:N.size=n:=q2.size.trans hyn;have hget:∀(q:Nat) (r:List AV),((y.rows.drop i).take k)[q]? =some r->q<k/\y.rows[i+q]? =some r:=λq r hq=>by have hi:=aH hq;rw[hlen]at hi;rw[abJ hi,abY]at hq;exact⟨hi,hq⟩
        have Y:Flat w σ (aX σ H) ((y.rows.drop i).take k++m) n (Z++D):=ho2.append S;by_cases O:((y.rows.drop i).take k).length+m.length<=G
        ·
         by_cases hc0:G=0
         .subst hc0;have M:m.length=0:=by omega
          have hk0:k=0:=by omega
          have hlk:((y.rows.drop i).take k)=[]:=by rw[hk0];simp
          have hm':m=[]:=by cases m with
           |nil=>rfl
           |cons x m=>simp at M
          have hnews:D=[]:=by have:=S.len;rw[hm']at this;simpa using this
          have E:=iz (P:=P) (ty:=ty) (A:=some a) hu htx hn O (hn1 w rfl) (w':=w) (by rw[hnews];rfl);obtain⟨o1,o2⟩:=hW.over (k:=0) hy hsig hb hlt (mJ.refl q2.block) (x':=⟨n,(y.rows.drop i).take k++m⟩) hps.symm Y.even (by rw[hlk,hm'];have:=q2.room;simp;omega) (by rw[hlk,hm'];intro i r j a u hr;simp at hr);refine⟨_,_,_,E,?_,o1,o2,λc N hc=>?_⟩
          .exact bC.sl b 0 _ _ a 0 (bO.set_eq _ _ _) (de.ok_over hpk _ _) O acN acN
          .by_cases hbc:b=c
           .exact .inr hbc.symm
           .rw[bO.set_ne _ _ hbc]at hc;exact .inl hc
         .obtain⟨rfl,cs,ty',hcb,hcr⟩:=ha acN;rw[q2.block]at hcb;cases hcb;have hnl:D.length=m.length*n:=S.len;have hcap:(k+m.length)*n<=G*n:=abl _ acN;have hbound:N.base+i*N.size+k*n+D.length<=ds.size:=by rw[hnl,hps];rw[hps,abM]at hcr;rw[abM]at hcap;omega
          have hst:=run_storeCells_at (P:=P) N.block (N.base+i*N.size+k*n) e0 D 0 ds w q2.block (by simpa using hbound) (S.ones hone);simp only[acz]at hst;have hw:mJ w (w.setRow N.block (ds.toList.take (N.base+i*N.size+k*n)++D++ds.toList.drop (N.base+i*N.size+k*n+D.length)).toArray) N.block ds _ e0:=
           ⟨rfl,rfl,rfl,acQ,q2.block,setRow_heap w _ _ _ _ _ q2.block,by
            simp only[List.size_toArray,aal,abm,acH,abo];rw[abV acN];omega,λd hd=>setRow_other w _ d _ hd⟩
          have E:=iz (P:=P) (ty:=ty) (A:=some ⟨N.block,N.base+i*N.size,none⟩) hu htx hn O (hn1 w rfl) (by simp only[fZ];rw[hlen];exact hst);have hdl:ds.toList.length=ds.size:=abo;obtain⟨o1,o2⟩:=hW.over (k:=i) hy hsig hb hlt hw (x':=⟨n,(y.rows.drop i).take k++m⟩) hps.symm Y.even (by
           simp only[aal,hlen];rw[abM];omega) (λq r j a u hr hj hu=>by
           simp only[]at hr hu;have hjn:j<n:=by rw[<-Y.even q r hr];exact aH hj
           rw[List.getElem?_toArray,iT ds.toList D _ _ acN]at hu;rcases LE q k with hq|hq
           .rw[aaW acN]at hr;have:=pY hq hjn;rw[if_pos acN,abv]at hu;refine q2.rep (i+q) r j a u (hget q r hr).2 hj ?_;rw[hyn,<-hu,hps];congr 1;rw[abM];omega
           .rw[aaL acN,hlen]at hr;have hqm:q-k<m.length:=aH hr;have h1:=pY hqm hjn;have h2:(q-k)*n+k*n=q*n:=by rw[<-Nat.add_mul,Nat.sub_add_cancel hq]
            rw[if_neg acN,if_pos acN]at hu;refine S.rep (q-k) r j a u hr hj ?_;rw[<-hu];congr 1;omega)
          refine⟨_,_,_,E,?_,o1,o2,λc N hc=>?_⟩
          .refine bC.sl b 0 _ _ _ G (bO.set_eq _ _ _) (de.ok_over hpk _ _) O hcm λ_=>⟨acQ,_,e0,hw.new,?_⟩
           rw[hw.len];simp only[abI];rw[abM]at hcr;omega
          .by_cases hbc:b=c
           .exact .inr hbc.symm
           .rw[bO.set_ne _ _ hbc]at hc;exact .inl hc
        ·
         have hsub:∀c x,(H.put b' none).get c=some x->H.get c=some x:=λc x hx=>by
          rw[ah.get_put]at hx;split at hx
          .cases hx
          .exact hx
         exact grow (hW.sub hsub (Fd _)) (fT.sub hsub) hlt acN
       .cases hl
      .cases hl
     .cases h
    .cases h
   .cases h
  .cases h
 .cases h
theorem Flat.sub{rows:List (List AV)}{n:Nat}{l:List Value}(h:Flat w σ T rows n l):∀(i:Nat) (r:List AV) (j:Nat) (a:AV) (u:Value),rows[i]? =some r->r[j]? =some a->l[i*n+j]? =some u->bC w σ T a u:=h.rep
theorem I8(hW:bJ w σ H){c:Nat}{y:Blk}{D:de}(hy:H.get c=some y)(hs:σ c=some D)(hpk:D.ok){i:Nat}{rows:List (List AV)}{us:List Value}(hf:Flat w σ (aX σ H) rows y.size us)(S:i+rows.length<=y.rows.length)(Z:∀u∈us,u.oneCell'=true):
  ∃w',(storeCells ⟨D.block,D.base+i*D.size,none⟩ us).run P w=.ok () w'/\bJ w' σ (H.put c (some {y with rows:=y.rows.take i++rows++y.rows.drop (i+rows.length)}))/\fT w σ (aX σ H) w' σ (aX σ (H.put c (some {y with rows:=y.rows.take i++rows++y.rows.drop (i+rows.length)}))):=by
 obtain⟨pl',ds,e,g1,E⟩:=hW.live c y hy;rw[hs]at g1;cases g1;replace E:=E.1 hpk;have G:=E.size;have O:=E.room;have hm:(i+rows.length)*y.size<=y.rows.length*y.size:=abl _ S;have N:us.length=rows.length*y.size:=hf.len;rw[abM]at hm;have hdl:ds.toList.length=ds.size:=abo;have Y:=run_storeCells_at (P:=P) D.block (D.base+i*D.size) e us 0 ds w E.block (by rw[N,G];omega) Z;simp only[acz]at Y;have hw:mJ w (w.setRow D.block (ds.toList.take (D.base+i*D.size)++us++ds.toList.drop (D.base+i*D.size+us.length)).toArray) D.block ds _ e:=
  ⟨rfl,rfl,rfl,acQ,E.block,setRow_heap w _ _ _ _ _ E.block,by
   simp only[List.size_toArray,aal,abm,acH,abo];rw[G,abV acN];omega,λd hd=>setRow_other w _ d _ hd⟩
 have hlen:(y.rows.take i++rows++y.rows.drop (i+rows.length)).length=y.rows.length:=by simp only[aal,abm,acH];omega
 refine⟨_,Y,hW.put hy hs hw (x':={y with rows:=y.rows.take i++rows++y.rows.drop (i+rows.length)}) G.symm ?_ ?_ ?_⟩
 .intro q s B;simp only[]at B;rw[iT _ _ _ _ S]at B;split at B
  .exact E.even q s B
  .split at B
   .exact hf.even _ s B
   .exact E.even q s B
 .simp only[hlen];exact O
 .intro q s j a u B hj M;simp only[]at B M;rw[iT _ _ _ _ S]at B;rw[List.getElem?_toArray,iT ds.toList us (D.base+i*D.size) _ (by rw[N,G];omega),N,G]at M;by_cases h1:q<i
  .rw[if_pos h1]at B;have hjs:j<y.size:=by rw[<-E.even q s B];exact aH hj
   have:(q+1)*y.size<=i*y.size:=abl _ h1;rw[abM]at this;rw[if_pos acN,abv]at M;exact E.rep q s j a u B hj M
  .rw[if_neg h1]at B;have h1':i*y.size<=q*y.size:=abl _ acN;by_cases h2:q<i+rows.length
   .rw[if_pos h2]at B;have hjs:j<y.size:=by rw[<-hf.even _ s B];exact aH hj
    have:(q+1)*y.size<=(i+rows.length)*y.size:=abl _ h2;rw[abM,abM]at this;rw[if_neg acN,if_pos acN]at M;refine hf.rep (q-i) s j a u B hj ?_;rw[<-M];congr 1;rw[Nat.sub_mul];omega
   .rw[if_neg h2]at B;have:(i+rows.length)*y.size<=q*y.size:=abl _ acN;rw[abM]at this;rw[if_neg acN,if_neg acN,abv]at M;exact E.rep q s j a u B hj M
theorem LK{b:Nat}(hW:bJ w σ H){t ty:TypeId}{x:AV}{x':Value}{H':ah}(Z:bC w σ (aX σ H) x x')(h:gM P H t x=some H'):
  Ej P (Builtin.clear_ #[t] ty #[x']) w σ H b (.tup []) H':=by
 unfold gM at h;split at h
 .rename_i e hu;split at h
  .rename_i n z hn Y;split at h
   .cases h;cases Z;exact⟨.tuple #[],w,σ,by simp[Builtin.clear_,run_underlying hu],.tup [] [] rfl acQ,hW,fT.refl _ _ _,λc pl O=>.inl O⟩
   .rename_i c i k;split at h
    .rename_i y hy;split at h
     .rename_i M;obtain⟨⟨q1,q2⟩,⟨q3,q4⟩,q5⟩:=M;cases h;obtain⟨pl,ad,cap,rfl,j,hnc,hmx,ha⟩:=Z.sl_inv;rcases abZ k with rfl|hk
      .have e0:y.rows.take i++List.replicate 0 z++y.rows.drop (i+0)=y.rows:=by simp
       obtain⟨pl',ds,e',g1,B⟩:=hW.live c y hy;rw[j]at g1;cases g1;replace B:=B.1 (Z.sl_ok j);have D:=hW.put hy j (mJ.refl B.block) (x':={y with rows:=y.rows.take i++List.replicate 0 z++y.rows.drop (i+0)}) B.size.symm (by simp only[e0];exact B.even) (by simp only[e0];exact B.room) (by simp only[e0];exact B.rep);exact⟨.tuple #[],w,σ,by simp[Builtin.clear_,run_underlying hu],.tup [] [] rfl acQ,D.1,D.2,λc pl O=>.inl O⟩
      .obtain⟨rfl,cs,te,hcs,hroom⟩:=ha acN;cases E:fB P e with
       |none=>rw[E]at Y;cases Y
       |some z0=>
        rw[E]at Y;obtain⟨S,h1,h2⟩:=ga (P:=P) (w:=w) (σ:=σ) (T:=aX σ H) E;have hr:=h2.cells Y;obtain⟨l,hl1,hl2,N,hl4⟩:=Flat.zeros (zs:=S.cells) hr q2 q3 k k (Fd _);rw[aaT acN]at N;have hlz:(Builtin.zeroCells S.cells k).toList=l:=by
         have hzs:S.cells.size=n:=by rw[<-Array.length_toList,<-hr.1,q2]
         have:Builtin.zeroCells S.cells k=l.toArray:=by rw[<-hl1,<-hzs];rfl
         rw[this]
        subst q1;have hfl:Flat w σ (aX σ H) (List.replicate k z) y.size l:=N;have G:∀u∈l,u.oneCell'=true:=λu hu'=>by obtain⟨a,ha1,ha2⟩:=hl4 u hu';exact ha1.one (abh.1 q5 a ha2)
        obtain⟨w',g1,B,g3⟩:=I8 (P:=P) hW hy j (Z.sl_ok j) hfl (by simpa using q4) G;simp only[List.length_replicate]at B g3;refine⟨.tuple #[],w',σ,?_,.tup [] [] rfl acQ,B,g3,λc pl O=>.inl O⟩;have hk0:k≠0:=by omega
        obtain⟨k',rfl⟩:∃k',k=k'+1:=⟨k-1,acN⟩;simp[Builtin.clear_,run_underlying hu,h1,hlz,g1]
     .cases h
    .cases h
   .cases h
  .cases h
 .cases h
end
end
section
open Go.RowKit
section
variable {P:Program} {F:TypeId->Option (List TypeId)} {w:World} {σ:bO} {H:ah} {b:Nat}
theorem FW(O:bJ w σ H)(hb:σ b=none)(Y:b<H.next){x:Blk}{o:Obj}{k:Nat}(ho:∀cs e,o≠.cells cs e (0,0))(hh:vh (World.push w o) x ⟨w.heap.size,k,0⟩)(hk:0<k){s:Sem Value}{v:AV}{v':Value}
  (hs:s.run P w=.ok v' (World.push w o)) (hv:∀w2 T,bC w2 (σ.set b ⟨w.heap.size,k,0⟩) T v v'):Ej P s w σ H b v (H.new b x):=by
 have hnone:H.get b=none:=by
  cases hg:H.get b with
  |none=>rfl
  |some y=>obtain⟨E,_,_,D,_⟩:=O.live b y hg;rw[hb]at D;cases D
 have N:∀c,c<w.heap.size->(World.push w o).heap[c]? =w.heap[c]? :=λc u=>by show(w.heap.push _)[c]? =_;rw[Array.getElem?_push,if_neg (Nat.ne_of_lt u)]
 have hnok:¬de.ok ⟨w.heap.size,k,0⟩:=by rintro(h|h)<;>simp only[]at h<;>omega
 have ext:fT w σ (aX σ H) (World.push w o) (σ.set b ⟨w.heap.size,k,0⟩) (aX (σ.set b ⟨w.heap.size,k,0⟩) (H.new b x)):=by
  refine⟨rfl,rfl,rfl,by simp[World.push],λc u _=>N c u,λc Z e' u=>⟨Z,?_,rfl⟩,λc q hq=>bO.set_old hb hq,rfl,λc u=>N c (O.apart c u).1,?_⟩
  .rcases LE c w.heap.size with Y|hge
   .rw[N c Y];exact u
   .rw[Array.getElem?_eq_none hge]at u;cases u
  .rintro c (hfr|⟨b',y,E,D,M,S⟩)
   .exact .inl (.inl hfr)
   rw[ah.get_new]at D;by_cases G:b=b'
   .subst G;rw[bO.set_eq]at M;cases M;exact .inr (by simp only[]at S;omega)
   .rw[if_neg G]at D;rw[bO.set_ne _ _ G]at M;exact .inl (.inr ⟨b',y,E,D,M,S⟩)
 refine⟨v',_,_,hs,hv _ _,⟨?_,?_,?_,λc u=>?_,?_,O.glob.mono ext⟩,ext,λc E u=>?_⟩
 .intro c E u;by_cases j:b=c
  .subst j;exact Y
  .rw[bO.set_ne _ _ j]at u;exact O.named c E u
 .intro c E u;by_cases j:b=c
  .subst j;rw[bO.set_eq]at u;cases u;simp[World.push]
  .rw[bO.set_ne _ _ j]at u;have:=O.lt c E u;simp[World.push];omega
 .intro c y hy;rw[ah.get_new]at hy;by_cases j:b=c
  .subst j;rw[if_pos rfl]at hy;cases hy;exact⟨_,#[],0,bO.set_eq _ _ _,λhp=>absurd hp hnok,λ_=>hh⟩
  .rw[if_neg j]at hy;obtain⟨E,Z,e',D,M⟩:=O.live c y hy;exact⟨E,Z,e',by rw[bO.set_ne _ _ j];exact D,M.mono ext (N _ (O.lt c E D))⟩
 .have hlt':=(O.apart c u).1;refine⟨by simp[World.push];omega,?_⟩;rintro⟨b',y,E,D,M,S⟩;rw[ah.get_new]at D;by_cases G:b=b'
  .subst G;rw[bO.set_eq]at M;cases M;simp only[]at S;omega
  .rw[if_neg G]at D;rw[bO.set_ne _ _ G]at M;exact(O.apart c u).2 ⟨b',y,E,D,M,S⟩
 .intro c c' y y' E pl' D M S h4 h5;rw[ah.get_new]at D M;by_cases j:b=c
  .by_cases B:b=c'
   .exact j.symm.trans B
   .subst j;rw[bO.set_eq]at S;cases S;rw[bO.set_ne _ _ B]at h4;have:=O.lt c' pl' h4;simp only[]at h5;omega
  .by_cases B:b=c'
   .subst B;rw[bO.set_eq]at h4;cases h4;rw[bO.set_ne _ _ j]at S;have:=O.lt c E S;simp only[]at h5;omega
   .rw[if_neg j]at D;rw[if_neg B]at M;rw[bO.set_ne _ _ j]at S;rw[bO.set_ne _ _ B]at h4;exact O.inj c c' y y' E pl' D M S h4 h5
 .by_cases j:b=c
  .exact .inr j.symm
  .rw[bO.set_ne _ _ j]at u;exact .inl u
theorem Wk(Y:bJ w σ H){c:Nat}{x x':Blk}{u:de}(hg:H.get c=some x)(hs:σ c=some u){o Z:Obj}(S:w.heap[u.block]? =some o)(ho:∀cs e,o≠.cells cs e (0,0))(hn:¬u.ok)
  (hh:vh {w with heap:=w.heap.setIfInBounds u.block Z} x' u) :
  bJ {w with heap:=w.heap.setIfInBounds u.block Z} σ (H.put c (some x'))/\fT w σ (aX σ H) {w with heap:=w.heap.setIfInBounds u.block Z} σ (aX σ (H.put c (some x'))):=by
 have j:∀d,d≠u.block->(w.heap.setIfInBounds u.block Z)[d]? =w.heap[d]? :=(MapKept.heap_set S).2;have O:Ef σ (H.put c (some x'))=Ef σ H:=by
  funext d;apply propext;constructor
  .rintro⟨b',y,q,M,N,h3⟩;rw[ah.get_put]at M;by_cases E:c=b'
   .subst E;exact⟨c,x,q,hg,N,h3⟩
   .rw[if_neg E]at M;exact⟨b',y,q,M,N,h3⟩
  .rintro⟨b',y,q,M,N,h3⟩;by_cases E:c=b'
   .subst E;exact⟨c,x',q,by rw[ah.get_put,if_pos rfl],N,h3⟩
   .exact⟨b',y,q,by rw[ah.get_put,if_neg E];exact M,N,h3⟩
 have hown:aX σ (H.put c (some x'))=aX σ H:=by funext d;simp[aX,O]
 have hT:Ef σ H u.block:=⟨c,x,u,hg,hs,rfl⟩;have ext:fT w σ (aX σ H) {w with heap:=w.heap.setIfInBounds u.block Z} σ (aX σ (H.put c (some x'))):=by rw[hown];refine⟨rfl,rfl,rfl,acQ,λd _ D=>j d (by rintro rfl;exact D (.inr hT)),λd ds e D=>⟨ds,?_,rfl⟩,λ_ _ h=>h,rfl,λd D=>j d (by rintro rfl;exact(Y.apart _ D).2 hT),λ_ h=>.inl h⟩;rw[j d (by rintro rfl;rw[S]at D;cases D;exact ho _ _ rfl)];exact D
 refine⟨⟨Y.named,λd q D=>by simpa using Y.lt d q D,?_,λd D=>by rw[O];simpa using Y.apart d D,?_,Y.glob.mono ext⟩,ext⟩
 .intro d y G;rw[ah.get_put]at G;by_cases B:c=d
  .subst B;rw[if_pos rfl]at G;cases G;exact⟨u,#[],0,hs,λhp=>absurd hp hn,λ_=>hh⟩
  .rw[if_neg B]at G;obtain⟨q,ds,e',M,N⟩:=Y.live d y G;exact⟨q,ds,e',M,N.mono ext (j _ λhe=>B (Y.inj c d x y u q hg G hs M he.symm))⟩
 .intro d d' y y' q q' M N;have aux:∀d y,(H.put c (some x')).get d=some y->∃z,H.get d=some z:=λd y G=>by
   rw[ah.get_put]at G;by_cases B:c=d
   .subst B;exact⟨x,hg⟩
   .rw[if_neg B]at G;exact⟨y,G⟩
  obtain⟨z,hz⟩:=aux d y M;obtain⟨z',hz'⟩:=aux d' y' N;exact Y.inj d d' z z' q q' hz hz'
theorem bC.mp_inv{T:Nat->Prop}{c:Nat}{v:Value}(Z:bJ w σ H)(h:bC w σ T (.mp c) v){x:Blk}(Y:H.get c=some x):
  ∃j B u,v=.map (some j.block)/\σ c=some j/\j.base=1/\j.size=0/\x.size=0/\¬j.ok/\w.heap[j.block]? =some (.map B u)/\B.toList.map IX=x.rows.map some:=by
 cases h with
 |mp _ j D h1 h2=>
 obtain⟨N,cs,e,M,g2⟩:=Z.live c x Y;rw[D]at M;cases M;have E:¬j.ok:=by rintro(h|h)<;>omega
 have G:=g2.2 E;rcases G.obj with⟨_,B,u,S,O⟩|⟨k0,_⟩
 .exact⟨j,B,u,rfl,D,h2,h1,G.size,E,S,O⟩
 .omega
theorem bC.it_inv{T:Nat->Prop}{c:Nat}{v:Value}(Y:bJ w σ H)(h:bC w σ T (.it c) v){x:Blk}(S:H.get c=some x):
  ∃(u:de) (s:ByteArray) (j:Nat),v=.pointer (some ⟨u.block,0,none⟩)/\σ c=some u/\u.base=2/\u.size=0/\x.size=0/\¬u.ok/\w.heap[u.block]? =some (.stringIter s j)/\x.rows=[[.str s.data.toList,.int .i64 j]]:=by
 cases h with
 |it _ u B h1 Z=>
 obtain⟨M,cs,e,G,g2⟩:=Y.live c x S;rw[B]at G;cases G;have D:¬u.ok:=by rintro(h|h)<;>omega
 have E:=g2.2 D;rcases E.obj with⟨k0,_⟩|⟨_,s,j,O,N⟩
 .omega
 .exact⟨u,s,j,rfl,B,Z,h1,E.size,D,O,N⟩
theorem Ts{v:Value}{s:List UInt8}(h:LD v=some (.str s)):∃ba:ByteArray,v=.string ba/\ba.data.toList=s:=by cases v<;>simp[LD]at h;exact⟨_,rfl,h⟩
theorem Nn{T:Nat->Prop}{v:Value}{a:AV}(h:LD v=some a):bC w σ T a v:=by
 cases v<;>simp only[LD,aaS,reduceCtorEq]at h<;>subst h
 .exact .bool _
 .exact .int _ _
 .exact .str _
theorem OH{T:Nat->Prop}{v:Value}{a:AV}(h:bC w σ T a v)(j:a.konst=true):LD v=some a:=by cases h<;>first|rfl|(simp[AV.konst]at j)
theorem GY{T:Nat->Prop}{v:Value}{s:List UInt8}(h:bC w σ T (.str s) v):∃ba:ByteArray,v=.string ba/\ba.data.toList=s:=by
 cases h with
 |str ba=>exact⟨ba,rfl,rfl⟩
theorem og{ba:ByteArray}:∀(l:List MapEntry) (rows:List (List AV)) (i:Nat),l.map IX=rows.map some->rows.all FU=true->
  (Instr.findNow .string (.string ba) l i=some none/\pV ba.data.toList rows i=none) \/
  ∃j e v,Instr.findNow .string (.string ba) l i=some (some (i+j,e.val))/\pV ba.data.toList rows i=some (i+j,v)/\l[j]? =some e/\LD e.val=some v/\e.key=.string ba
 |[],[],i,_,_=>.inl ⟨rfl,rfl⟩
 |[],r::rows,i,h,_=>by simp at h
 |e::l,[],i,h,_=>by simp at h
 | e::l,r::rows,i,h,hk=>by
  simp only[aai,List.cons.injEq]at h;simp only[List.all_cons,aas]at hk;have G:=h.1;unfold IX at G;split at G
  .rename_i k v N Z;cases G;have S:=hk.1;unfold FU at S;split at S
   .rename_i s Y O;cases O;obtain⟨D,E,rfl⟩:=Ts N;have u:Instr.sameNow .string (.string ba) e.key=some (ba==D):=by rw[E];rfl
    have B:(ba.data.toList==D.data.toList)=(ba==D):=by
     rw[Bool.eq_iff_iff,MapKept.bytes_beq];constructor
     .intro hh;have:ba.data.toList=D.data.toList:=by simpa using hh
      obtain⟨x⟩:=ba;obtain⟨y⟩:=D;simp only[]at this;congr 1;exact Array.toList_inj.1 this
     .rintro rfl;simp
    cases M:(ba==D)with
    |true=>have he:ba=D:=(MapKept.bytes_beq _ _).1 M;rw[M]at u B;exact .inr ⟨0,e,v,by simp[Instr.findNow,u],by simp[pV,B],rfl,Z,by rw[E,he]⟩
    |false=>
     rw[M]at u B;rcases og (ba:=ba) l rows (i+1) h.2 hk.2 with⟨g1,g2⟩|⟨j,e',Y,g1,g2,g3,g4,g5⟩
     .exact .inl ⟨by simp[Instr.findNow,u,g1],by simp[pV,B,g2]⟩
     .exact .inr ⟨j+1,e',Y,by simp[Instr.findNow,u,g1];omega,by simp[pV,B,g2];omega,by simpa using g3,g4,g5⟩
   .cases S
  .cases G
theorem aam{T:Nat->Prop}{a:AV}{x:Value}(h:bC w σ T a x):bC w σ T (.tup [a]) (.tuple #[x]):=.tup [a] [x] rfl λi D B j u=>by
 match i with
 |0=>cases j;cases u;exact h
 |i+1=>simp at j
theorem Yw{T:Nat->Prop}{a b:AV}{x y:Value}(h:bC w σ T a x)(B:bC w σ T b y):bC w σ T (.tup [a,b]) (.tuple #[x,y]):=.tup [a,b] [x,y] rfl λi E D j u=>by
 match i with
 |0=>cases j;cases u;exact h
 |1=>cases j;cases u;exact B
 |i+2=>simp at j
theorem aan{T:Nat->Prop}{a b c:AV}{x y z:Value}(h:bC w σ T a x)(D:bC w σ T b y)(B:bC w σ T c z):bC w σ T (.tup [a,b,c]) (.tuple #[x,y,z]):=.tup [a,b,c] [x,y,z] rfl λi G E j u=>by
 match i with
 |0=>cases j;cases u;exact h
 |1=>cases j;cases u;exact D
 |2=>cases j;cases u;exact B
 |i+3=>simp at j
theorem No{e:MapEntry}{k v:AV}(j:LD e.key=some k)(h2:LD e.val=some v):IX e=some [k,v]:=by unfold IX;rw[j,h2]
theorem oh{t:TypeId}{m k v:AV}{H':ah}(h:gy P H t m k v=some H'):∃c x x',m=.mp c/\H.get c=some x/\H'=H.put c (some x')/\∀K:ah,K.get c=some x->gy P K t m k v=some (K.put c (some x')):=by
 unfold gy at h;split at h
 .rename_i G M c s B;split at h
  .rename_i x j u;split at h
   .rename_i D;cases h;exact⟨c,x,_,rfl,u,rfl,λK E=>by simp only[gy,B,j,E];rw[if_pos D]⟩
   .cases h
  .cases h
 .cases h
theorem vl{j v:AV}{H':ah}(h:jN H j=some (v,H')):∃c x,j=.it c/\H.get c=some x/\((H'=H/\∀K:ah,K.get c=some x->jN K j=some (v,K))\/∃x',H'=H.put c (some x')/\∀K:ah,K.get c=some x->jN K j=some (v,K.put c (some x'))):=by
 unfold jN at h;split at h
 .rename_i c;split at h
  .rename_i x B;split at h
   .rename_i s k E D;split at h
    .rename_i hp;cases h;exact⟨c,x,rfl,B,.inr ⟨_,rfl,λK u=>by simp only[jN,u,D];rw[if_pos hp]⟩⟩
    .rename_i hp;cases h;exact⟨c,x,rfl,B,.inl ⟨rfl,λK u=>by simp only[jN,u,D];rw[if_neg hp]⟩⟩
   .cases h
  .cases h
 .cases h
theorem Bn{t:TypeId}{m k v:AV}{B:Bool}(h:lB P H t m k B=some v):∃c x,m=.mp c/\H.get c=some x/\∀K:ah,K.get c=some x->lB P K t m k B=some v:=by
 unfold lB at h;split at h
 .rename_i N O c s G;split at h
  .rename_i z x u D E;split at h
   .rename_i j;exact⟨c,x,rfl,E,λK M=>by simp only[lB,G,u,D,M];rw[if_pos j];exact h⟩
   .cases h
  .cases h
 .cases h
theorem GZ(hW:bJ w σ H){t:TypeId}{m k v:AV}{Z k':Value}{E:Bool}(hm:bC w σ (aX σ H) m Z)(hk:bC w σ (aX σ H) k k')(h:lB P H t m k E=some v):
  ∃v',(Instr.lookup t Z k' E).run P w=.ok v' w/\bC w σ (aX σ H) v v':=by
 unfold lB at h;split at h
 .rename_i kt et c s hu;split at h
  .rename_i z x B hz hx;split at h
   .rename_i D;cases h;obtain⟨pl,es,clk,rfl,hs,_,_,_,_,hb,u⟩:=hm.mp_inv hW hx;obtain⟨ba,rfl,rfl⟩:=GY hk;obtain⟨Y,N,G⟩:=ga (P:=P) (w:=w) (σ:=σ) (T:=aX σ H) hz;have M:=λe=>MapKept.run_checkKey (P:=P) (w:=w) (k:=.string ba) B trivial e 9999
    rcases og es.toList x.rows 0 u D with⟨S,O⟩|⟨j,e,v,S,O,g3,g4,g5⟩
    .rw[O];refine⟨if E then .tuple #[Y,.bool false]else Y,?_,?_⟩
     .simp only[Instr.lookup,abx,run_underlying hu,abd,MapKept.run_getObj_map hb,abO,M,MapKept.run_findKey B S,N]
     .cases E
      .exact G
      .exact Yw G (.bool false)
    .rw[O];refine⟨if E then .tuple #[e.val,.bool true]else e.val,?_,?_⟩
     .simp only[Instr.lookup,abx,run_underlying hu,abd,MapKept.run_getObj_map hb,abO,M,MapKept.run_findKey B S]
     .cases E
      .exact Nn g4
      .exact Yw (Nn g4) (.bool true)
   .cases h
  .cases h
 .cases h
theorem I9(hW:bJ w σ H){t:TypeId}{m k v:AV}{m' k' v':Value}(hm:bC w σ (aX σ H) m m')(hk:bC w σ (aX σ H) k k')(hv:bC w σ (aX σ H) v v'){H':ah}(h:gy P H t m k v=some H'):
  ∃w',(Instr.mapUpdate t m' k' v').run P w=.ok () w'/\bJ w' σ H'/\fT w σ (aX σ H) w' σ (aX σ H'):=by
 unfold gy at h;split at h
 .rename_i kt et c s hu;split at h
  .rename_i x D hx;split at h
   .rename_i hc;cases h;obtain⟨E,O⟩:=hc;obtain⟨pl,es,clk,rfl,hs,Z,M,G,hn,B,u⟩:=hm.mp_inv hW hx;obtain⟨ba,rfl,rfl⟩:=GY hk;have N:=OH hv O;have Y:=λe=>MapKept.run_checkKey (P:=P) (w:=w) (k:=.string ba) D trivial e 9999
    rcases og es.toList x.rows 0 u E with⟨g1,g2⟩|⟨j,e,v0,g1,g2,g3,g4,g5⟩
    .rw[g2];refine⟨_,by simp[Instr.mapUpdate,run_underlying hu,MapKept.run_getObj_map B,Y,MapKept.run_findKey D g1,MapKept.run_setObj_map _ B,Result.andThen];rfl,Wk hW hx hs B (by intros;simp) hn ⟨G,M,.inl ⟨Z,_,_,(MapKept.heap_set B).1,?_⟩⟩⟩;simp only[Array.toList_push,ST,aai,abF,u];rw[No (k:=.str ba.data.toList) (v:=v) rfl N]
    .have hj:es[j]? =some e:=by simpa using g3
     simp only[abI]at g1 g2;rw[g2];refine⟨_,by simp[Instr.mapUpdate,run_underlying hu,MapKept.run_getObj_map B,Y,MapKept.run_findKey D g1,hj,g5,MapKept.run_keyThatStays (d:=.string) (k:=.string ba) trivial,MapKept.run_setObj_map _ B,Result.andThen];rfl,Wk hW hx hs B (by intros;simp) hn ⟨G,M,.inl ⟨Z,_,_,(MapKept.heap_set B).1,?_⟩⟩⟩;simp only[Array.toList_modify];refine acp λi=>?_
     have hi:=congrArg (λl=>l[i]?) u;simp only[abn]at hi;rw[abn,abn,List.getElem?_modify,abs];by_cases S:j=i
     .subst S;have hl:j<x.rows.length:=by have:=(abL.1 g3).1;have h2:=congrArg List.length u;simp at h2 this;omega
      rw[if_pos rfl,if_pos hl,g3];simp only[abp,Option.map_eq_map];rw[No (k:=.str ba.data.toList) (v:=v) rfl N]
     .simp only[if_neg S];rw[show((λa=>a) <$> es.toList[i]?)=es.toList[i]? from by cases es.toList[i]?<;>rfl];exact hi
   .cases h
  .cases h
 .cases h
theorem OI(S:bJ w σ H){Z v:AV}{B:Value}(ty:TypeId)(hi:bC w σ (aX σ H) Z B){H':ah}(h:jN H Z=some (v,H')):
  ∃v' w',(Instr.next B true ty).run P w=.ok v' w'/\bC w' σ (aX σ H') v v'/\bJ w' σ H'/\fT w σ (aX σ H) w' σ (aX σ H'):=by
 unfold jN at h;split at h
 .rename_i c;split at h
  .rename_i x hx;obtain⟨Y,s,j,rfl,hs,O,M,E,hn,D,u⟩:=hi.it_inv S hx;rw[u]at h;simp only[]at h;have hlen:s.data.toList.length=s.size:=abo;have G:(⟨s.data.toList.toArray⟩:ByteArray)=s:=by obtain⟨d⟩:=s;simp
   split at h
   .rename_i hp;cases h;have N:j<s.size:=by omega
    rw[G,abw];refine⟨_,_,Lib.run_next_any_at w Y.block s j ty D N,aan (.bool true) (.int _ _) (.int _ _),Wk S hx hs D (by intros;simp) hn ⟨E,M,.inr ⟨O,s,_,(MapKept.heap_set D).1,rfl⟩⟩⟩
   .rename_i hp;cases h;exact⟨_,w,Lib.run_next_end_at w Y.block s j ty D acN,aam (.bool false),S,fT.refl _ _ _⟩
  .cases h
 .cases h
end
end
section
section
variable {P:Program} {F:TypeId->Option (List TypeId)} {w:World} {σ:bO} {H:ah} {b:Nat}
def cu(P:Program)(s:Sem Next)(w:World)(σ:bO)(H:ah)(b:Nat)(v:AV)(H':ah):Prop:=
 ∃v' w' σ',(s.run P w=.ok (.value v') w'\/(s.run P w=.ok .skip w'/\v'=undef))/\bC w' σ' (aX σ' H') v v'/\bJ w' σ' H'/\fT w σ (aX σ H) w' σ' (aX σ' H')/\∀c pl,σ' c=some pl->σ c=some pl\/c=b
theorem cu.of_done{s:Sem Value}{v:AV}{H':ah}(h:Ej P s w σ H b v H'):cu P (do pure (.value (<-s))) w σ H b v H':=by obtain⟨B,u,j,E,D⟩:=h;exact⟨B,u,j,.inl (by simp[E]),D⟩
theorem cu.of_val{s:Sem Value}{v:AV}(u:bJ w σ H)(h:∃v',s.run P w=.ok v' w/\bC w σ (aX σ H) v v'):cu P (do pure (.value (<-s))) w σ H b v H:=by obtain⟨v',D,B⟩:=h;exact⟨v',w,σ,.inl (by simp[D]),B,u,fT.refl _ _ _,λc E j=>.inl j⟩
theorem cu.pure{s:Sem Next}{v:AV}{v':Value}(B:bJ w σ H)(h:s.run P w=.ok (.value v') w)(j:bC w σ (aX σ H) v v'):cu P s w σ H b v H:=
 ⟨v',w,σ,.inl h,j,B,fT.refl _ _ _,λc D u=>.inl u⟩
theorem gR{r:Option AV}{v:AV}{H H':ah}(h:(r.map λx=>ik.val x H)=some (.val v H')):r=some v/\H'=H:=by
 cases r with
 |none=>cases h
 |some x=>simp only[abp,aaS,ik.val.injEq]at h;exact⟨by rw[h.1],h.2.symm⟩
theorem Wl{ρ:Operand->AV}{j:Operand->Value}(u:∀x,bC w σ (aX σ H) (ρ x) (j x))(x:Option Operand):LG w σ (aX σ H) (x.map ρ) (x.map j):=by
 cases x with
 |none=>trivial
 |some a=>exact u a
theorem rN{α β:Type}{f:α->β}{l:List α}{x:β}(h:l.map f=[x]):∃a,l=[a]/\f a=x:=by
 match l,h with
 |[a],h=>exact⟨a,rfl,by simpa using h⟩
 |[],h=>simp at h
 |_::_::_,h=>simp at h
theorem rO{α β:Type}{f:α->β}{l:List α}{x y:β}(h:l.map f=[x,y]):∃a b,l=[a,b]/\f a=x/\f b=y:=by
 match l,h with
 |[a,b],h=>exact⟨a,b,rfl,by simpa using h⟩
 |[],h=>simp at h
 |[_],h=>simp at h
 |_::_::_::_,h=>simp at h
theorem Ek(hW:bJ w σ H)(hb:σ b=none)(hlt:b<H.next){ρ:Operand->AV}{B:Operand->Value}(E:∀x,bC w σ (aX σ H) (ρ x) (B x)){op:Builtin}{args:List Operand}{D:List TypeId}{ty:TypeId}{cn:Array Bool}{v:AV}{H':ah}
  (h:bE P H b op D.toArray (args.map ρ)=some (v,H')):cu P (builtin op D.toArray ty cn (args.toArray.map B)) w σ H b v H':=by
 unfold bE at h;split at h
 .rename_i s u;obtain⟨G,rfl,O⟩:=rN u;split at h
  .rename_i hty;cases h;have N:=E G;rw[O]at N;generalize he:B G=x' at N;cases N with
   |str ba=>
   have hlen:ba.data.toList.length=ba.size:=abo;cases j:D[0]? with
   |none=>simp[j]at hty
   |some t=>
   have hu:P.underlying t=some .string:=by simpa[j]using hty
   refine cu.pure hW (v':=.int .i64 ba.size) ?_ (by rw[hlen];exact .int _ _);simp[builtin,Builtin.len_,j,he,run_underlying hu,goInt]
  .cases h
 .rename_i x hne u;obtain⟨G,rfl,O⟩:=rN u;have N:=E G;rw[O]at N;cases j:D[0]? with
  |none=>simp[j]at h
  |some t=>
   simp only[List.getElem?_toArray,j,abQ]at h;split at h
   .rename_i e hu;cases Y:LC x with
    |none=>rw[Y]at h;cases h
    |some n=>
     rw[Y]at h;cases h;have hv:∃A c,B G=.slice A n c:=by
      unfold LC at Y;split at Y
      .cases Y;generalize B G=y at N;cases N;exact⟨_,_,rfl⟩
      .cases Y;generalize B G=y at N;cases N;exact⟨_,_,rfl⟩
      .cases Y;obtain⟨A,c,Z,_⟩:=N.lst_inv;exact⟨A,c,Z⟩
      .cases Y;obtain⟨_,a,c,Z,_⟩:=N.sl_inv;exact⟨_,c,Z⟩
      .cases Y
     obtain⟨A,c,hv⟩:=hv;refine cu.pure hW (v':=.int .i64 n) ?_ (.int _ _);simp[builtin,Builtin.len_,j,hv,run_underlying hu,goInt]
   .rename_i n e hu;cases h;refine cu.pure hW (v':=.int .i64 n) ?_ (.int _ _);simp[builtin,Builtin.len_,j,run_underlying hu,goInt]
   .cases h
 .rename_i s x u;obtain⟨G,a1,rfl,O,Z⟩:=rO u;split at h
  .rename_i t tx j;split at h
   .rename_i e' hu;simp only[]at j;subst j;have S:=E G;have M:=E a1;rw[O]at S;rw[Z]at M;have:=cu.of_done (I7 (ty:=ty) hW hb hlt M S hu h);simpa[builtin]using this
   .cases h
  .cases h
 .rename_i k a k' c u;obtain⟨G,a1,rfl,O,Z⟩:=rO u;split at h
  .rename_i hk;subst hk;cases h;have S:=E G;have M:=E a1;rw[O]at S;rw[Z]at M;generalize e0:B G=y0 at S;generalize e1:B a1=y1 at M;cases S;cases M;exact cu.pure hW (v':=.int k (if c<a then c else a)) (by simp[builtin,Builtin.min_,Builtin.min2,e0,e1]) (.int _ _)
  .cases h
 .rename_i k a k' c u;obtain⟨G,a1,rfl,O,Z⟩:=rO u;split at h
  .rename_i hk;subst hk;cases h;have S:=E G;have M:=E a1;rw[O]at S;rw[Z]at M;generalize e0:B G=y0 at S;generalize e1:B a1=y1 at M;cases S;cases M;exact cu.pure hW (v':=.int k (if c > a then c else a)) (by simp[builtin,Builtin.max_,Builtin.max2,e0,e1]) (.int _ _)
  .cases h
 .rename_i x u;obtain⟨G,rfl,O⟩:=rN u;split at h
  .rename_i t j;simp only[]at j;subst j;cases hc:gM P H t x with
   |none=>rw[hc]at h;cases h
   |some K=>rw[hc]at h;cases h;have M:=E G;rw[O]at M;have:=cu.of_done (LK (ty:=ty) (b:=b) hW M hc);simpa[builtin]using this
  .cases h
 .cases h
theorem FX(fit:Fit P F)(B:bJ w σ H)(hb:σ b=none)(G:b<H.next){o:Oper}{ρ:Operand->AV}{D:Operand->Value}(j:∀x,bC w σ (aX σ H) (ρ x) (D x)){v:AV}{H':ah}
  (h:bu P F o.op ρ b H=some (.val v H')):cu P (execOp D o) w σ H b v H':=by
 obtain⟨dst,op,ty,pos,after,guard⟩:=o;simp only[]at h;cases op with
 |move x=>simp only[bu,aaS,ik.val.injEq]at h;obtain⟨rfl,rfl⟩:=h;exact cu.pure B rfl (j x)
 |assign x=>simp only[bu,aaS,ik.val.injEq]at h;obtain⟨rfl,rfl⟩:=h;exact cu.pure B rfl (j x)
 |pick c x y=>
  simp only[bu]at h;split at h
  .rename_i t N;simp only[aaS,ik.val.injEq]at h;obtain⟨rfl,rfl⟩:=h;have:=j c;rw[N]at this;generalize hc':D c=c' at this;cases this;refine cu.pure B (v':=if t then D x else D y) (by simp[execOp,hc',asBool]) ?_;cases t
   .exact j y
   .exact j x
  .cases h
 |alloc t=>
  simp only[bu]at h;split at h
  .rename_i cs hcs;simp only[aaS,ik.val.injEq]at h;obtain⟨rfl,rfl⟩:=h;exact cu.of_done (LH B hb G hcs)
  .cases h
 |box t x=>
  simp only[bu]at h;split at h
  .rename_i cs hcs;split at h
   .simp only[aaS,ik.val.injEq]at h;obtain⟨rfl,rfl⟩:=h;exact cu.of_done (I6 B hb G (j x) hcs)
   .cases h
  .cases h
 |build t S=>simp only[bu]at h;obtain⟨u,rfl⟩:=gR h;exact cu.of_val B (I5 j u)
 |buildSlice t len S=>
  simp only[bu]at h;split at h
  .rename_i e hu;split at h
   .rename_i n z hn hz;split at h
    .rename_i N;obtain⟨c1,c2,c3⟩:=N;cases hf:fK n (List.replicate len z) (S.toList.map λp=>(p.1,ρ p.2))with
     |none=>rw[hf]at h;cases h
     |some rows=>rw[hf]at h;simp only[abp,aaS,ik.val.injEq]at h;obtain⟨rfl,rfl⟩:=h;exact cu.of_done (zU B hb G j hu hn hz c1 c2 c3 hf)
    .cases h
   .cases h
  .cases h
 |load t a=>simp only[bu]at h;obtain⟨u,rfl⟩:=gR h;exact cu.of_val B (Bj B (j a) u)
 |store t a x=>
  simp only[bu]at h;cases Y:iy P H t (ρ a) (ρ x)with
  |none=>rw[Y]at h;cases h
  |some K=>rw[Y]at h;simp only[abp,aaS,ik.val.injEq]at h;obtain⟨rfl,rfl⟩:=h;obtain⟨w',u,Z,h3⟩:=LI B (j a) (j x) Y;exact⟨undef,w',σ,.inr ⟨by simp[execOp,u],rfl⟩,.tup [] [] rfl acQ,Z,h3,λc pl N=>.inl N⟩
 |nilCheck x=>simp only[bu]at h;have hx:=j x;split at h<;>(try (cases h;done))<;>(rename_i heq;simp only[aaS,ik.val.injEq]at h;obtain⟨rfl,rfl⟩:=h;rw[heq]at hx;generalize he:D x=x' at hx;have hx2:=hx;cases hx2;exact cu.pure B (by simp only[execOp,he];rfl) hx)
 |binOp op t x y yt=>simp only[bu]at h;obtain⟨u,rfl⟩:=gR h;exact cu.of_val B (OG fit.flat (j x) (j y) u)
 |unOp op t x=>simp only[bu]at h;obtain⟨u,rfl⟩:=gR h;exact cu.of_val B (Qn (j x) u)
 |convert s d x=>simp only[bu]at h;obtain⟨u,rfl⟩:=gR h;exact cu.of_val B (LF (j x) u)
 |makeFunc fn first cap=>
  cases fn with
  |func f=>
   simp only[bu]at h;split at h
   .rename_i hf;simp only[aaS,ik.val.injEq]at h;obtain⟨rfl,rfl⟩:=h;have e:first=#[]:=Array.eq_empty_of_size_eq_zero hf
    subst e;refine cu.pure B (v':=.func (.func f) #[] (cap.toList.map D).toArray) (by simp[execOp,Instr.makeFunc];apply Array.ext';simp) (.fn f _ _ acQ λi a v u Z=>?_);rw[abn]at u Z;cases N:cap.toList[i]? with
    |none=>rw[N]at u;cases u
    |some q=>rw[N]at u Z;cases u;cases Z;exact j q
   .cases h
  |_=>simp[bu]at h
 |makeSlice t l c=>
  simp only[bu]at h;split at h
  .rename_i e hu;split at h
   .rename_i n by_ z l' c' hn hby hz hl N;split at h
    .rename_i M;obtain⟨c1,c2,c3,c4,c5⟩:=M;simp only[aaS,ik.val.injEq]at h;obtain⟨rfl,rfl⟩:=h;exact cu.of_done (Bl B hb G (j l) (j c) hu hn hby hz hl N c1 c2 c3 c4 c5)
    .cases h
   .cases h
  .cases h
 |slice t x lo hi mx=>
  simp only[bu]at h;split at h
  .cases h
  .rename_i M;obtain⟨u,rfl⟩:=gR h;refine cu.of_val B (I4 B (j x) (Wl j lo) (Wl j hi) (Wl j mx) (λhh=>?_) u);cases hi with
   | none=>cases mx with
    |none=>rfl
    |some m=>simp at M
   |some q=>simp at hh
 |fieldAddr s x f=>simp only[bu]at h;obtain⟨u,rfl⟩:=gR h;exact cu.of_val B (zS (j x) u)
 |field s x f=>simp only[bu]at h;obtain⟨u,rfl⟩:=gR h;exact cu.of_val B (I1 (j x) u)
 |indexAddr t x ix=>simp only[bu]at h;obtain⟨u,rfl⟩:=gR h;exact cu.of_val B (zT B (j x) (j ix) u)
 |index t x ix=>simp only[bu]at h;obtain⟨u,rfl⟩:=gR h;exact cu.of_val B (I2 (j x) (j ix) u)
 |extract x i=>
  simp only[bu]at h;split at h
  .rename_i vs hx;obtain⟨u,rfl⟩:=gR h;have:=j x;rw[hx]at this;generalize he:D x=x' at this;cases this with
   |tup _ us hl hr=>
   have hi:=aH u;have hi':i<us.length:=by omega
   exact cu.pure B (v':=us[i]) (by simp[execOp,he,Instr.extract,hi']) (hr i v _ u (mt hi'))
  .cases h
 |makeMap t r=>
  cases r with
  |some r=>simp[bu]at h
  |none=>simp only[bu,aaS,ik.val.injEq]at h;obtain⟨rfl,rfl⟩:=h;refine cu.of_done (FW B hb G (k:=1) (o:=.map #[] 0) (by intros;simp) ⟨rfl,rfl,.inl ⟨rfl,#[],0,by show(w.heap.push _)[w.heap.size]? =_;simp,rfl⟩⟩ acR rfl λw2 T=>.mp b _ (bO.set_eq _ _ _) rfl rfl)
 |lookup t m k ok=>simp only[bu]at h;obtain⟨u,rfl⟩:=gR h;exact cu.of_val B (GZ B (j m) (j k) u)
 |mapUpdate t m k x=>
  simp only[bu]at h;cases Y:gy P H t (ρ m) (ρ k) (ρ x)with
  |none=>rw[Y]at h;cases h
  |some K=>rw[Y]at h;simp only[abp,aaS,ik.val.injEq]at h;obtain⟨rfl,rfl⟩:=h;obtain⟨w',u,Z,h3⟩:=I9 B (j m) (j k) (j x) Y;exact⟨undef,w',σ,.inr ⟨by simp[execOp,u],rfl⟩,.tup [] [] rfl acQ,Z,h3,λc pl N=>.inl N⟩
 |range t x=>
  simp only[bu]at h;split at h
  .rename_i s hu hx;simp only[aaS,ik.val.injEq]at h;obtain⟨rfl,rfl⟩:=h;have:=j x;rw[hx]at this;obtain⟨ba,he,rfl⟩:=GY this;refine cu.of_done (s:=Instr.range t (D x)) (FW B hb G (k:=2) (o:=.stringIter ba 0) (by intros;simp) ⟨rfl,rfl,.inr ⟨rfl,ba,0,by show(w.heap.push _)[w.heap.size]? =_;simp,rfl⟩⟩ acR (by rw[he];exact run_range_string w t ba hu) λw2 T=>.it b _ (bO.set_eq _ _ _) rfl rfl)
  .cases h
 |next it s=>
  cases s with
  |false=>simp[bu]at h
  |true=>
   simp only[bu]at h;cases Y:jN H (ρ it)with
   |none=>rw[Y]at h;cases h
   |some r=>obtain⟨v0,K⟩:=r;rw[Y]at h;simp only[abp,aaS,ik.val.injEq]at h;obtain⟨rfl,rfl⟩:=h;obtain⟨v',w',u,Z,h3,h4⟩:=OI (P:=P) B ty (j it) Y;exact⟨v',w',σ,.inl (by simp[execOp,u]),Z,h3,h4,λc pl N=>.inl N⟩
 |call c=>
  simp only[bu]at h;obtain⟨callee,O,E⟩:=c;obtain⟨O⟩:=O;obtain⟨E⟩:=E;simp only[]at h;split at h
  .rename_i bi;cases hbi:bE P H b bi E.toArray (O.map ρ)with
   |none=>rw[hbi]at h;cases h
   |some r=>
    obtain⟨v0,K⟩:=r;rw[hbi]at h;simp only[abp,aaS,ik.val.injEq]at h;obtain⟨rfl,rfl⟩:=h;have key:∀cn,cu P (builtin bi ⟨E⟩ ty cn ((⟨O⟩:Array Operand).map D)) w σ H b v0 K:=λcn=>Ek B hb G j hbi
    exact key _
  .rename_i f;split at h<;>simp at h
  .cases h
 |_=>simp[bu]at h
theorem Ja(fit:Fit P F){o:Oper}{ρ:Operand->AV}{ρ':Operand->Value}(hρ:∀x,bC w σ (aX σ H) (ρ x) (ρ' x)){g:FuncId}{args:List AV}{fn:Func}{c:Code}
  (h:bu P F o.op ρ b H=some (.call g args)) (hg:P.funcs[g]? =some fn) (hc:fn.body=some c) :
  ∃vs:List Value,(execOp ρ' o).run P w=.ok (.enter g vs.toArray) w/\fX w σ (aX σ H) args vs:=by
 obtain⟨dst,op,ty,pos,after,guard⟩:=o;simp only[]at h;cases op with
 |call c=>
  simp only[bu]at h;obtain⟨callee,qs,types⟩:=c;obtain⟨qs⟩:=qs;simp only[]at h;split at h
  .rename_i bi;cases hbi:bE P H b bi types (qs.map ρ)with
   |none=>rw[hbi]at h;cases h
   |some r=>rw[hbi]at h;cases h
  .rename_i f;split at h
   .rename_i g' cs hf;simp only[aaS,ik.call.injEq]at h;obtain⟨rfl,rfl⟩:=h;have:=hρ f;rw[hf]at this;generalize he:ρ' f=f' at this;cases this with
    |fn _ _ us hl hr=>
    have hnm : ¬ fn.name = "runtime.NumGoroutine" := fit.names _ _ hg
    refine⟨qs.map ρ'++us,?_,by simp[hl],λi a v h1 h2=>?_⟩
    .simp[execOp,resolve,he,Deferred.ofValue,invoke,callFunc,hg,hnm,hc]
    .rcases LE i qs.length with hi|hi
     .rw[aaW (by simpa using hi),abn]at h1 h2;rw[mt hi]at h1 h2;cases h1;cases h2;exact hρ _
     .rw[aaL (by simpa using hi)]at h1 h2;simp only[acl]at h1 h2;exact hr _ a v h1 h2
   .cases h
  .cases h
 |makeFunc fn first cap=>cases fn<;>simp only[bu]at h<;>(try split at h)<;>simp at h
 |makeMap t r=>cases r<;>simp[bu]at h
 |next it s=>cases s<;>simp[bu]at h
 |_=>
  exfalso;simp only[bu]at h
  repeat' (first|(cases h;done)|(simp at h;done)|split at h)
end
end
section
def dC(w:World)(σ:bO)(T:Nat->Prop)(τ:List AV)(a:Act):Prop:=fX w σ T τ a.tmps.toList/\a.defers=[]
theorem dC.mono{w w':World}{σ σ':bO}{T T':Nat->Prop}(e:fT w σ T w' σ' T'){j:List AV}{a:Act}(h:dC w σ T j a):dC w' σ' T' j a:=⟨h.1.mono e,h.2⟩
section
variable {P:Program} {F:TypeId->Option (List TypeId)} {w:World} {σ:bO} {T:Nat->Prop}
theorem mM:bC w σ T bY undef:=.tup [] [] rfl acQ
theorem dC.eval{u:List AV}{a:Act}(h:dC w σ T u a)(N:kC w T)(x:Operand):bC w σ T (lj u x) (a.eval x):=by
 cases x with
 |tmp t=>
  simp only[lj,Act.eval];have D:=h.1.1;simp only[abo]at D;rcases LE t u.length with B|B
  .have G:u.getD t bY=u[t]:=by simp[List.getD,B]
   have j:t<a.tmps.size:=D▸B;have E:a.tmps.getD t undef=a.tmps[t]:=by simp[Array.getD,j]
   rw[G,E];exact h.1.2 t _ _ (mt B) (by rw[abv,abu j])
  .have G:u.getD t bY=bY:=by simp[List.getD,aah B]
   have j:¬t<a.tmps.size:=Nat.not_lt.2 (D▸B);have E:a.tmps.getD t undef=undef:=by simp[Array.getD,j]
   rw[G,E];exact mM
 |const v=>
  simp only[lj,Act.eval];cases M:OF v with
  |none=>exact .junk _
  |some a=>exact IZ M
 |global g=>exact N.rep g
 |func f=>exact .fn f [] [] rfl acQ
theorem dC.put{E:List AV}{a:Act}(h:dC w σ T E a)(D:Option Tmp){v:AV}{v':Value}(M:bC w σ T v v'):dC w σ T (iw E D v) (a.put D v'):=by
 cases D with
 |none=>exact h
 |some d=>
  refine⟨⟨by simpa[iw,Act.put]using h.1.1,λi x u B j=>?_⟩,h.2⟩;simp only[iw,Act.put,Array.toList_setIfInBounds,abs]at B j;by_cases G:d=i
  .subst G;simp only[if_true]at B j;split at B
   .split at j
    .cases B;cases j;exact M
    .cases j
   .cases B
  .rw[if_neg G]at B j;exact h.1.2 i x u B j
theorem j1{ops:Array Oper}{o:Oper}{D:List AV}{a:Act}{t:Bool}(h:dC w σ T D a)(B:ff ops o D=some t):Region.wanted o (yielded ops a.tmps)=t:=by
 unfold ff at B;unfold Region.wanted;split at B
 .rename_i G;cases B;rw[G]
 .rename_i j S G;rw[G];simp only[];unfold yielded;split at B
  .rename_i d hd;rw[hd];simp only[abQ];have get:∀x,D[d]? =some x->∃u,a.tmps[d]? =some u/\bC w σ T x u:=λx Z=>by have E:=h.1.1;simp only[abo]at E;have hlt:=aH Z;exact⟨a.tmps[d],abu acN,h.1.2 d x _ Z (by rw[abv,abu acN])⟩
   split at B
   .rename_i b M;obtain⟨u,O,N⟩:=get _ M;rw[O];cases N;cases B;rfl
   .rename_i M;obtain⟨u,O,N⟩:=get _ M;rw[O];cases B;cases N with
    |tup _ Y E hr=>
    have:Y=[]:=by cases Y with
     |nil=>rfl
     |cons x l=>simp at E
    subst this;rfl
   .cases B
  .cases B
end
def p7(P:Program)(f:FuncId)(args:List AV)(H:ah)(v:AV)(H':ah):Prop:=
 ∀(w:World) (σ:bO) (vs:List Value),bJ w σ H->fX w σ (aX σ H) args vs->Calls P f vs.toArray w λe w'=>
  ∃v' σ',e=.returned v'/\bC w' σ' (aX σ' H') v v'/\bJ w' σ' H'/\fT w σ (aX σ H) w' σ' (aX σ' H')/\∀c pl,σ' c=some pl->σ c=some pl\/H.next<=c
structure fU(P:Program)(call:FuncId->List AV->ah->Option (AV×ah)):Prop where
 ok:∀f args H v H',call f args H=some (v,H')->p7 P f args H v H'
 next:∀f args H v H',call f args H=some (v,H')->H.next<=H'.next
 body:∀f args H v H',call f args H=some (v,H')->∃fn c,P.funcs[f]? =some fn/\fn.body=some c
def tf(w:World)(σ:bO)(H:ah)(τ':List AV)(H':ah)(a':Act)(w':World):Prop:=
 ∃σ',dC w' σ' (aX σ' H') τ' a'/\bJ w' σ' H'/\fT w σ (aX σ H) w' σ' (aX σ' H')/\∀c pl,σ' c=some pl->σ c=some pl\/H.next<=c
section
variable {P:Program} {F:TypeId->Option (List TypeId)} {call:FuncId->List AV->ah->Option (AV×ah)} {ops:Array Oper} {base:Nat} {Q:Exit->Act->World->Prop}
theorem Bo{o:Op}{ρ:Operand->AV}{b:Nat}{H H':ah}{v:AV}(h:bu P F o ρ b H=some (.val v H')):H'.next=H.next:=by
 cases o with
 |store t a x=>
  simp only[bu]at h;cases u:iy P H t (ρ a) (ρ x)with
  |none=>rw[u]at h;cases h
  |some K=>
   rw[u]at h;cases h;unfold iy at u
   repeat' (first|(cases u;rfl)|(cases u;done)|split at u)
 |call c=>
  simp only[bu]at h;split at h
  .rename_i bi _;cases j:bE P H b bi c.argTypes (c.args.toList.map ρ)with
   |none=>rw[j]at h;cases h
   |some r=>
    obtain⟨O,K⟩:=r;rw[j]at h;cases h;unfold bE at j;split at j
    .repeat' (first|(cases j;rfl)|(cases j;done)|split at j)
    .split at j
     .rw[acF]at j;obtain⟨n,_,E⟩:=j;cases E;rfl
     .cases j;rfl
     .cases j
    .split at j
     .split at j
      .unfold eh at j
       repeat' (first|(cases j;rfl)|(cases j;done)|split at j)
      .cases j
     .cases j
    .repeat' (first|(cases j;rfl)|(cases j;done)|split at j)
    .repeat' (first|(cases j;rfl)|(cases j;done)|split at j)
    .split at j
     .rw[acF]at j;obtain⟨K1,D,E⟩:=j;cases E;unfold gM at D
      repeat' (first|(cases D;rfl)|(cases D;done)|split at D)
     .cases j
    .cases j
  .split at h<;>cases h
  .cases h
 |makeFunc Y first Z=>cases Y<;>simp only[bu]at h<;>(try split at h)<;>cases h<;>rfl
 |makeMap t r=>
  cases r with
  |none=>simp only[bu]at h;cases h;rfl
  |some r=>simp[bu]at h
 |mapUpdate t m k x=>
  simp only[bu]at h;cases u:gy P H t (ρ m) (ρ k) (ρ x)with
  |none=>rw[u]at h;cases h
  |some K=>rw[u]at h;cases h;obtain⟨c,y,N,_,_,rfl,_⟩:=oh u;rfl
 |next S s=>
  cases s with
  |false=>simp[bu]at h
  |true=>
   simp only[bu]at h;cases u:jN H (ρ S)with
   |none=>rw[u]at h;cases h
   |some r=>obtain⟨O,K⟩:=r;rw[u]at h;cases h;obtain⟨c,y,_,_,⟨rfl,_⟩|⟨N,rfl,_⟩⟩:=vl u<;>rfl
 |buildSlice t len B=>
  simp only[bu]at h;split at h
  .split at h
   .split at h
    .rename_i n z _ _ _;cases M:fK n (List.replicate len z) (B.toList.map λp=>(p.1,ρ p.2))with
     |none=>rw[M]at h;cases h
     |some G=>rw[M]at h;cases h;rfl
    .cases h
   .cases h
  .cases h
 |_=>
  simp only[bu]at h
  first
   |(obtain⟨_,rfl⟩:=gR h;rfl)
   |(repeat' (first|(cases h;rfl)|(cases h;done)|(obtain⟨_,rfl⟩:=gR h;rfl)|split at h))
theorem oo(E:fU P call){i:Nat}{D u:List AV}{H H':ah}(h:lC P F call ops base i D H=some (u,H')):H.next<=H'.next:=by
 unfold lC at h;split at h
 .cases h
 .split at h
  .split at h
   .rename_i B;cases h;rw[Bo B];exact Fd _
   .split at h
    .rename_i j;cases h;exact E.next _ _ _ _ _ j
    .cases h
   .cases h
  .cases h;exact Fd _
  .cases h
theorem Jb(fit:Fit P F)(hc:fU P call){i:Nat}{τ O:List AV}{H H':ah}{w:World}{σ:bO}{a:Act}(h:lC P F call ops base i τ H=some (O,H'))(S:bJ w σ H)(j:dC w σ (aX σ H) τ a)
  (hb:σ (base+i)=none) (Z:base+i<H.next) {K:Act->World->Prop}
  (hK:∀a' w' σ',dC w' σ' (aX σ' H') O a'->bJ w' σ' H'->fT w σ (aX σ H) w' σ' (aX σ' H')->(∀c E,σ' c=some E->σ c=some E\/c=base+i\/H.next<=c)->K a' w'):wpOp P ops Q i K a w:=by
 unfold lC at h;split at h
 .cases h
 .rename_i o ho;unfold wpOp;rw[ho];simp only[];split at h
  .rename_i u;rw[if_pos (j1 j u)];left;unfold Oper.wp;split at h
   .rename_i v K' G;cases h;obtain⟨Y,w',σ',N,h2,h3,h4,h5⟩:=FX fit S hb Z (o:=o) (j.eval S.glob) G;have hk:=hK (a.put o.dst Y) w' σ' ((j.mono h4).put o.dst h2) h3 h4 (λc E B=>by
     rcases h5 c E B with M|M
     .exact .inl M
     .exact .inr (.inl M))
    rcases N with N|⟨N,rfl⟩
    .rw[N];exact hk
    .rw[N];exact hk
   .rename_i f args G;split at h
    .rename_i v K' D;cases h;obtain⟨fn,c,hf,hbd⟩:=hc.body _ _ _ _ _ D;obtain⟨vs,N,h2⟩:=Ja fit (o:=o) (b:=base+i) (j.eval S.glob) G hf hbd;rw[N];refine(hc.ok _ _ _ _ _ D w σ vs S h2).mono ?_;rintro e w' ⟨Y,σ',rfl,g1,g2,g3,g4⟩;exact hK (a.put o.dst Y) w' σ' ((j.mono g3).put o.dst g1) g2 g3 (λc E B=>by
      rcases g4 c E B with M|M
      .exact .inl M
      .exact .inr (.inr M))
    .cases h
   .cases h
  .rename_i u;rw[if_neg (by rw[j1 j u];simp)];cases h;exact hK _ w σ (j.put o.dst mM) S (fT.refl _ _ _) (λc E B=>.inl B)
  .cases h
theorem FY(B:fU P call):∀(l:List Nat) (u:List AV) (H:ah) (j:List AV) (H':ah),oa P F call ops base l u H=some (j,H')->H.next<=H'.next
 |[],u,H,j,H',h=>by cases h;exact Fd _
 | i::l,u,H,j,H',h=>by
  unfold oa at h;split at h
  .rename_i D G E;exact abe (oo B E) (FY B l _ _ _ _ h)
  .cases h
theorem Bp(fit:Fit P F)(Y:fU P call):∀(l:List Nat) (S:List AV) (H:ah) (u:List AV) (H':ah),oa P F call ops base l S H=some (u,H')->l.Nodup->∀(w:World) (σ:bO) (a:Act),
  bJ w σ H->dC w σ (aX σ H) S a->(∀i∈l,σ (base+i)=none/\base+i<H.next)->(∀Z w' σ',dC w' σ' (aX σ' H') u Z->bJ w' σ' H'->fT w σ (aX σ H) w' σ' (aX σ' H')->
   (∀c B,σ' c=some B->σ c=some B\/(∃i∈l,c=base+i)\/H.next<=c)->Q .normal Z w')->wpOps P ops Q l a w
 | [],S,H,u,H',h,_,w,σ,a,hW,hτ,_,hQ=>by cases h;exact hQ a w σ hτ hW (fT.refl _ _ _) (λc B G=>.inl G)
 | i::l,S,H,u,H',h,hnd,w,σ,a,hW,hτ,hfr,hQ=>by
  unfold oa at h;split at h
  .rename_i τ1 H1 hs;rw[wpOps_cons];refine Jb fit Y hs hW hτ (hfr i acQ).1 (hfr i acQ).2 λa1 w1 M t1 r1 e1 n1=>?_
   have D:=abG.1 hnd;refine Bp fit Y l τ1 H1 u H' h D.2 w1 M a1 r1 t1 (λj hj=>?_) (λZ w' σ' t2 r2 e2 n2=>hQ Z w' σ' t2 r2 (e1.trans e2) (λc B G=>?_))
   .have hji:j≠i:=by rintro rfl;exact D.1 hj
    have N:=hfr j (by simp[hj]);refine⟨?_,abk N.2 (oo Y hs)⟩;cases hs1:M (base+j)with
    |none=>rfl
    |some B=>
     rcases n1 _ B hs1 with E|E|E
     .rw[N.1]at E;cases E
     .omega
     .omega
   .rcases n2 c B G with E|⟨q,hq,rfl⟩|E
    .rcases n1 c B E with O|O|O
     .exact .inl O
     .exact .inr (.inl ⟨i,acQ,O⟩)
     .exact .inr (.inr O)
    .exact .inr (.inl ⟨q,by simp[hq],rfl⟩)
    .exact .inr (.inr (abe (oo Y hs) E))
  .cases h
def Jc:Ex->Exit
 |.normal=>.normal
 |.exit id=>.exit id
 |.ret=>.ret
def dQ(P:Program)(c:Code)(τ:List AV)(H:ah)(e:Ex)(τ':List AV)(H':ah):Prop:=
 H.next<=H'.next/\∀(w:World) (σ:bO) (a:Act),bJ w σ H->dC w σ (aX σ H) τ a->∀Q:Exit->Act->World->Prop,(∀a' w',tf w σ H τ' H' a' w'->Q (Jc e) a' w')->c.wp P Q a w
theorem tf.refl{w:World}{σ:bO}{H:ah}{u:List AV}{a:Act}(B:bJ w σ H)(j:dC w σ (aX σ H) u a):tf w σ H u H a w:=⟨σ,j,B,fT.refl _ _ _,λc D h=>.inl h⟩
theorem iA(fit:Fit P F)(Y:fU P call){u:List AV}{H:ah}{j:List AV}{H':ah}{id:Nat}(h:fg P F call ops false u H=some (j,H')):dQ P (.region id ops false) u H .normal j H':=by
 simp only[fg,abj,if_false]at h;refine⟨abe (abB _ _) (FY Y _ _ _ _ _ h),λw σ a Z E Q hQ=>?_⟩;have M:bJ w σ {H with next:=H.next+ops.size}:=Z.congr (λ_=>rfl) (abB _ _);have O:aX σ {H with next:=H.next+ops.size}=aX σ H:=aX.congr λ_=>rfl
 refine wp_region (Bp fit Y _ u _ j H' h List.nodup_range w σ a M (by rw[O];exact E) (λi S=>?_) (λa' w' B t r e n=>hQ a' w' ⟨B,t,r,by rw[O]at e;exact e,λc D G=>?_⟩))
 .rw[acd]at S;refine⟨?_,Nat.add_lt_add_left S _⟩;cases hs:σ (H.next+i)with
  |none=>rfl
  |some D=>have:=Z.named _ D hs;omega
 .rcases n c D G with N|⟨i,_,rfl⟩|N
  .exact .inl N
  .exact .inr (abB _ _)
  .exact .inr (abe (abB _ _) N)
theorem tf.trans{w N M:World}{σ j:bO}{H G S:ah}{u:List AV}{O:Act}(e:fT w σ (aX σ H) N j (aX j G))(n:∀c B,j c=some B->σ c=some B\/H.next<=c)(Z:H.next<=G.next)(h:tf N j G u S O M):tf w σ H u S O M:=by
 obtain⟨D,t,r,e2,Y⟩:=h;refine⟨D,t,r,e.trans e2,λc B hc=>?_⟩;rcases Y c B hc with E|E
 .exact n c B E
 .exact .inr (abe Z E)
def mN(tmps:Array Value):ResultVar->Sem Value
 |.tmp t=>Pure.pure (tmps.getD t undef)
 |.cell a t=>do loadVar t (<-asAddr (tmps.getD a undef))
theorem LL(u:Func)(j:Array Value):results u j=(do let vs<-u.results.mapM (mN j);Pure.pure (if h:vs.size=1 then vs[0]else .tuple vs)):=by unfold results;congr 2
theorem G0{w:World}{σ:bO}{H:ah}(G:bJ w σ H){M:List AV}{a:Act}(D:dC w σ (aX σ H) M a)(r:ResultVar){v:AV}(h:lD P M H r=some v):
  ∃v',(mN a.tmps r).run P w=.ok v' w/\bC w σ (aX σ H) v v':=by
 cases r with
 |tmp t=>cases h;exact⟨_,rfl,D.eval G.glob (.tmp t)⟩
 |cell x t=>
  simp only[lD]at h;have j:=D.eval G.glob (.tmp x);simp only[lj,Act.eval]at j;obtain⟨v',E,N⟩:=Bj G j h;refine⟨v',?_,N⟩;unfold ph at h;split at h
  .rename_i B;rw[B]at j;simp only[mN];generalize a.tmps.getD x undef=u at j E;cases j;simpa[Instr.loadAt,Instr.sureAddr,asAddr]using E
  .rename_i B;rw[B]at j;simp only[mN];generalize a.tmps.getD x undef=u at j E;cases j;simpa[Instr.loadAt,Instr.sureAddr,asAddr]using E
  .cases h
theorem resultList{w:World}{σ:bO}{H:ah}(E:bJ w σ H){B:List AV}{a:Act}(j:dC w σ (aX σ H) B a):∀(rs:List ResultVar) (vs:List AV),cX (rs.map (lD P B H))=some vs->
  ∃us:List Value,(rs.mapM (mN a.tmps)).run P w=.ok us w/\fX w σ (aX σ H) vs us
 |[],vs,h=>by cases h;exact⟨[],rfl,rfl,acQ⟩
 | r::rs,vs,h=>by
  simp only[aai]at h;cases D:lD P B H r with
  |none=>rw[D]at h;cases h
  |some v=>
   rw[D]at h;simp only[cX]at h;split at h
   .rename_i l O;cases h;obtain⟨v',Y,h2⟩:=G0 E j r D;obtain⟨us,S,G⟩:=resultList E j rs l O;refine⟨v'::us,?_,by simp[G.1],λi x u N M=>?_⟩
    .rw[List.mapM_cons];simp only[abx,Y,abd,S,abO]
    .match i with
     |0=>cases N;cases M;exact h2
     |i+1=>exact G.2 i x u (by simpa using N) (by simpa using M)
   .cases h
theorem tg{w:World}{σ:bO}{H:ah}(O:bJ w σ H){N:List AV}{a:Act}(B:dC w σ (aX σ H) N a){S:Func}{v:AV}(h:mI P N H S.results.toList=some v):
  ∃v',(results S a.tmps).run P w=.ok v' w/\bC w σ (aX σ H) v v':=by
 unfold mI at h;rw[LL,Array.mapM_eq_mapM_toList];split at h
 .rename_i Z D;cases h;obtain⟨us,M,j⟩:=resultList O B _ _ D;have G:=j.1
  match us,G with
  |[u],_=>exact⟨u,by simp[M],j.2 0 _ u rfl rfl⟩
 .rename_i Y E D;cases h;obtain⟨us,M,j⟩:=resultList O B _ _ D;have G:us.length≠1:=by
   rw[<-j.1];intro h
   match Y,h with
   |[x],_=>exact E x rfl
  exact⟨.tuple us.toArray,by simp[M,G],.tup _ _ j.1 j.2⟩
 .cases h
theorem vm{ex:Code->List AV->ah->Option (Ex×List AV×ah)}{Good:Code->Prop}(N:∀(g:Nat) (G:Func) (c:Code),P.funcs[g]? =some G->G.body=some c->Good c)
  (h:∀c τ H e B H',Good c->ex c τ H=some (e,B,H')->dQ P c τ H e B H'):fU P (pW P ex):=by
 have key:∀f j H v H',pW P ex f j H=some (v,H')->∃G c e B K,P.funcs[f]? =some G/\G.body=some c/\ex c (j++List.replicate (G.ntmps-j.length) bY) {H with log:=[]}=some (e,B,K)/\
   (e=.normal\/e=.ret)/\mI P B K G.results.toList=some v/\H'.next=K.next/\∀b,H'.get b=K.get b:=by
  intro f j H v H' E;unfold pW at E;split at E
  .rename_i G Y;split at E
   .rename_i c Z;split at E
    .cases E
    .rename_i e B K hne O;split at E
     .rename_i v0 hr;cases E;refine⟨G,c,e,B,K,Y,Z,O,?_,hr,rfl,λ_=>rfl⟩;cases e with
      |normal=>exact .inl rfl
      |ret=>exact .inr rfl
      |exit id=>exact absurd rfl (hne id)
     .cases E
    .cases E
   .cases E
  .cases E
 refine⟨λf j H v H' E=>?_,λf j H v H' E=>?_,λf j H v H' E=>?_⟩
 .obtain⟨G,c,e,B,K,Y,Z,O,he,hr,hn,hg⟩:=key f j H v H' E;obtain⟨n1,k1⟩:=h _ _ _ _ _ _ (N _ _ _ Y Z) O;intro w σ vs hW S;have ho:aX σ {H with log:=[]}=aX σ H:=aX.congr λ_=>rfl
  refine calls_of_wp Y Z (k1 w σ _ (hW.congr (λ_=>rfl) (Fd _)) ⟨?_,rfl⟩ _ λa' w' haf=>?_)
  .rw[ho];refine⟨by simp[S.1],λi x u h1 h2=>?_⟩;simp only[Array.toList_append,Array.toList_replicate]at h2;rcases LE i j.length with hi|hi
   .rw[aaW hi]at h1;rw[aaW (by rw[<-S.1];exact hi)]at h2;exact S.2 i x u h1 h2
   .rw[aaL hi,acu]at h1;rw[aaL (by rw[<-S.1];exact hi),acu]at h2;split at h1
    .split at h2
     .cases h1;cases h2;exact mM
     .cases h2
    .cases h1
  .obtain⟨D,t1,r1,e1,m1⟩:=haf;obtain⟨v',g1,g2⟩:=tg (P:=P) r1 t1 hr;have hoK:aX D H'=aX D K:=aX.congr hg;have M:a'.defers=[]/\∃v,(results G a'.tmps).run P w'=.ok v w'/\∃v' D,Ending.returned v=.returned v'/\bC w' D (aX D H') _ v'/\bJ w' D H'/\fT w σ (aX σ H) w' D (aX D H')/\∀c pl,D c=some pl->σ c=some pl\/H.next<=c:=
    ⟨t1.2,v',g1,v',D,rfl,by rw[hoK];exact g2,r1.congr hg (by rw[hn];exact Fd _),by rw[hoK];rw[ho]at e1;exact e1,m1⟩
   rcases he with rfl|rfl
   .exact M
   .exact M
 .obtain⟨G,c,e,B,K,Y,Z,O,he,hr,hn,hg⟩:=key f j H v H' E;rw[hn];exact(h _ _ _ _ _ _ (N _ _ _ Y Z) O).1
 .obtain⟨G,c,e,B,K,Y,Z,_⟩:=key f j H v H' E;exact⟨G,c,Y,Z⟩
end
end
section
def Bd(H:ah):Prop:=∀b,H.next<=b->H.get b=none
structure zn(H H':ah):Prop where
 next:H.next<=H'.next
 dom:∀b,b<H.next->H.get b=none->H'.get b=none
 keep:∀b,b<H.next->b∉H'.log->H'.get b=H.get b
 log:∀b,b∈H.log->b∈H'.log
 bd:Bd H->Bd H'
theorem zn.refl(H:ah):zn H H:=⟨Fd _,λ_ _ h=>h,λ_ _ _=>rfl,λ_ h=>h,λh=>h⟩
theorem zn.trans{H H' H'':ah}(h:zn H H')(k:zn H' H''):zn H H'':=
  ⟨abe h.next k.next,λb j D=>k.dom b (abk j h.next) (h.dom b j D),
   λb j u=>(k.keep b (abk j h.next) u).trans (h.keep b j (λB=>u (k.log b B))),λb j=>k.log b (h.log b j),λj=>k.bd (h.bd j)⟩
section
variable {P:Program} {F:TypeId->Option (List TypeId)}
structure Bq(o:Op)(ρ:Operand->AV)(b:Nat)(H H':ah):Prop where
 next:H'.next=H.next
 keep:∀c,c≠b->c∉aK o ρ->H'.get c=H.get c
 keepL:∀c,c≠b->c∉H'.log->H'.get c=H.get c
 dom:∀c,c≠b->H.get c=none->H'.get c=none
 log:∀c,c∈H.log->c∈H'.log
theorem Bq.same(o:Op)(ρ:Operand->AV)(b:Nat)(H:ah):Bq o ρ b H H:=⟨rfl,λ_ _ _=>rfl,λ_ _ _=>rfl,λ_ _ h=>h,λ_ h=>h⟩
theorem Bq.new(o:Op)(ρ:Operand->AV)(b:Nat)(H:ah)(x:Blk):Bq o ρ b H (H.new b x):=
 ⟨rfl,λc j _=>by rw[ah.get_new,if_neg (λe=>j e.symm)],λc j _=>by rw[ah.get_new,if_neg (λe=>j e.symm)],λc j h=>by rw[ah.get_new,if_neg (λe=>j e.symm)];exact h,λ_ h=>h⟩
theorem Bq.put{o:Op}{ρ:Operand->AV}{b c:Nat}{H:ah}{y:Blk}(D:Blk)(E:H.get c=some y)(G:c∈aK o ρ):Bq o ρ b H (H.put c (some D)):=by
 refine⟨rfl,λd B M=>?_,λd B j=>?_,λd B u=>?_,λd j=>acb _ j⟩
 .rw[ah.get_put,if_neg (by rintro rfl;exact M G)]
 .rw[ah.get_put,if_neg (by rintro rfl;exact j (by simp[ah.put]))]
 .rw[ah.get_put];split
  .rename_i e;subst e;rw[E]at u;cases u
  .exact u
theorem G1{o:Op}{ρ:Operand->AV}{b:Nat}{H H':ah}{v:AV}(h:bu P F o ρ b H=some (.val v H')):Bq o ρ b H H':=by
 cases o with
 |store t a x=>
  simp only[bu]at h;cases B:iy P H t (ρ a) (ρ x)with
  |none=>rw[B]at h;cases h
  |some K=>
   rw[B]at h;cases h;unfold iy at B;split at B
   .rename_i c i off cs n ha hcs N;split at B
    .rename_i y Y;split at B
     .rename_i r hr;split at B
      .cases B;have hw:aK (.store t a x) ρ=[c]:=by simp[aK,ha,ai]
       refine⟨rfl,λd M N=>?_,λd M G=>?_,λd M E=>?_,λd G=>acb _ G⟩
       .rw[ah.get_put,if_neg (by rintro rfl;exact N (by rw[hw];simp))]
       .rw[ah.get_put,if_neg (by rintro rfl;exact G (by simp[ah.put]))]
       .rw[ah.get_put];split
        .rename_i e;subst e;rw[Y]at E;cases E
        .exact E
      .cases B
     .cases B
    .cases B
   .cases B
 |call c=>
  simp only[bu]at h;split at h
  .rename_i bi O;cases j:bE P H b bi c.argTypes (c.args.toList.map ρ)with
   |none=>rw[j]at h;cases h
   |some r=>
    obtain⟨v0,K⟩:=r;rw[j]at h;cases h;unfold bE at j;split at j
    .split at j
     .cases j;exact .same _ _ _ _
     .cases j
    .split at j
     .rw[acF]at j;obtain⟨n,_,N⟩:=j;cases N;exact .same _ _ _ _
     .cases j;exact .same _ _ _ _
     .cases j
    .rename_i s x Z;split at j
     .split at j
      .obtain⟨a0,a1,D,E,h1⟩:=rO Z;unfold eh at j;split at j
       .split at j
        .split at j
         .rename_i l m G hm;split at j
          .split at j
           .split at j
            .cases j;exact .same _ _ _ _
            .cases j;exact .new _ _ _ _ _
           .split at j
            .cases j;exact .same _ _ _ _
            .cases j;exact .new _ _ _ _ _
           .rename_i b' i k;cases j;have hw:aK (.call c) ρ=[b']:=by simp[aK,O,D,E,ai]
            refine⟨rfl,λd M N=>?_,λd M G=>?_,λd M E=>?_,λd G=>acb _ G⟩
            .rw[ah.get_new,if_neg (λe=>M e.symm),ah.get_put,if_neg (by rintro rfl;exact N (by rw[hw];simp))]
            .rw[ah.get_new,if_neg (λe=>M e.symm),ah.get_put,if_neg (by rintro rfl;exact G (by simp[ah.put,ah.new]))]
            .rw[ah.get_new,if_neg (λe=>M e.symm),ah.get_put];split
             .rfl
             .exact E
           .cases j
          .cases j
         .cases j
        .cases j
       .cases j
      .cases j
     .cases j
    .split at j
     .cases j;exact .same _ _ _ _
     .cases j
    .split at j
     .cases j;exact .same _ _ _ _
     .cases j
    .rename_i x Z;split at j
     .rename_i t htt;cases u:gM P H t x with
      |none=>rw[u]at j;cases j
      |some K1=>
       rw[u]at j;cases j;obtain⟨a0,D,E⟩:=rN Z;unfold gM at u;split at u
       .split at u
        .split at u
         .cases u;exact .same _ _ _ _
         .rename_i d i k;split at u
          .rename_i y Y;split at u
           .cases u;have hw:aK (.call c) ρ=[d]:=by simp[aK,O,D,E,ai]
            refine⟨rfl,λd' M N=>?_,λd' M G=>?_,λd' M E=>?_,λd' G=>acb _ G⟩
            .rw[ah.get_put,if_neg (by rintro rfl;exact N (by rw[hw];simp))]
            .rw[ah.get_put,if_neg (by rintro rfl;exact G (by simp[ah.put]))]
            .rw[ah.get_put];split
             .rename_i e;subst e;rw[Y]at E;cases E
             .exact E
           .cases u
          .cases u
         .cases u
        .cases u
       .cases u
     .cases j
    .cases j
  .split at h<;>cases h
  .cases h
 |makeFunc fn first cap=>cases fn<;>simp only[bu]at h<;>(try split at h)<;>cases h<;>exact .same _ _ _ _
 |makeMap t r=>
  cases r with
  |none=>simp only[bu]at h;cases h;exact .new _ _ _ _ _
  |some r=>simp[bu]at h
 |mapUpdate t m k x=>
  simp only[bu]at h;cases B:gy P H t (ρ m) (ρ k) (ρ x)with
  |none=>rw[B]at h;cases h
  |some K=>rw[B]at h;cases h;obtain⟨c,y,y',hm,Y,rfl,_⟩:=oh B;exact .put _ Y (by simp[aK,hm,ai])
 |next it s=>
  cases s with
  |false=>simp[bu]at h
  |true=>
   simp only[bu]at h;cases B:jN H (ρ it)with
   |none=>rw[B]at h;cases h
   |some r=>
    obtain⟨v0,K⟩:=r;rw[B]at h;cases h;obtain⟨c,y,hm,Y,⟨rfl,_⟩|⟨y',rfl,_⟩⟩:=vl B
    .exact .same _ _ _ _
    .exact .put _ Y (by simp[aK,hm,ai])
 |buildSlice t len S=>
  simp only[bu]at h;split at h
  .split at h
   .split at h
    .rename_i n z _ _ _;cases hf:fK n (List.replicate len z) (S.toList.map λp=>(p.1,ρ p.2))with
     |none=>rw[hf]at h;cases h
     |some rows=>rw[hf]at h;cases h;exact .new _ _ _ _ _
    .cases h
   .cases h
  .cases h
 |_=>
  simp only[bu]at h
  first
   |(obtain⟨_,rfl⟩:=gR h;exact .same _ _ _ _)
   |(repeat' (first|(cases h;exact .same _ _ _ _)|(cases h;exact .new _ _ _ _ _)|(cases h;done)|(obtain⟨_,rfl⟩:=gR h;exact .same _ _ _ _)|split at h))
theorem io(base j:Nat):∀(k:Nat) (H:ah),(eZ base j k H).next=H.next/\(eZ base j k H).log=H.log
 |0,H=>⟨rfl,rfl⟩
 | k+1,H=>by
  unfold eZ;split
  .exact io base j k H
  .exact io base j k _
theorem jp(base u:Nat):∀(k:Nat) (H:ah) (c:Nat),(eZ base u k H).get c=if(∃j,j<k/\u.testBit j=false/\c=base+j)then none else H.get c
 |0,H,c=>by simp[eZ]
 | k+1,H,c=>by
  unfold eZ;rw[jp base u k];by_cases O:∃j,j<k/\u.testBit j=false/\c=base+j
  .obtain⟨j,N⟩:=O;rw[if_pos ⟨j,N⟩,if_pos ⟨j,acN,N.2⟩]
  .rw[if_neg O];by_cases M:u.testBit k=true
   .rw[if_pos M,if_neg];rintro⟨j,N,G,D⟩;by_cases B:j=k
    .subst B;rw[M]at G;cases G
    .exact O ⟨j,acN,G,D⟩
   .rw[if_neg M];show(H.tr.set (base+k) none).get c=_;rw[Tr.get_set];by_cases D:base+k=c
    .rw[if_pos D,if_pos ⟨k,acN,by simpa using M,D.symm⟩]
    .rw[if_neg D,if_neg]
     .rfl
     rintro⟨j,N,G,E⟩;by_cases B:j=k
     .subst B;exact D E.symm
     .exact O ⟨j,acN,G,E⟩
theorem iU(base j:Nat)(H:ah):∀(k:Nat) (K:ah),(jO base j H k K).next=K.next/\(jO base j H k K).log=K.log
 |0,K=>⟨rfl,rfl⟩
 | k+1,K=>by
  unfold jO;split
  .exact iU base j H k K
  .exact iU base j H k _
theorem mO(base u:Nat)(H:ah):∀(k:Nat) (K:ah) (c:Nat),(jO base u H k K).get c=if(∃j,j<k/\u.testBit j=false/\c=base+j)then H.get c else K.get c
 |0,K,c=>by simp[jO]
 | k+1,K,c=>by
  unfold jO;rw[mO base u H k];by_cases O:∃j,j<k/\u.testBit j=false/\c=base+j
  .obtain⟨j,N⟩:=O;rw[if_pos ⟨j,N⟩,if_pos ⟨j,acN,N.2⟩]
  .rw[if_neg O];by_cases M:u.testBit k=true
   .rw[if_pos M,if_neg];rintro⟨j,N,G,D⟩;by_cases B:j=k
    .subst B;rw[M]at G;cases G
    .exact O ⟨j,acN,G,D⟩
   .rw[if_neg M];show(K.tr.set (base+k) (H.tr.get (base+k))).get c=_;rw[Tr.get_set];by_cases D:base+k=c
    .rw[if_pos D,if_pos ⟨k,acN,by simpa using M,D.symm⟩,<-D];rfl
    .rw[if_neg D,if_neg]
     .rfl
     rintro⟨j,N,G,E⟩;by_cases B:j=k
     .subst B;exact D E.symm
     .exact O ⟨j,acN,G,E⟩
structure Vy(B:Nat)(W:Nat->Prop)(H H':ah):Prop where
 next:H.next<=H'.next
 dom:∀b,b<B->H.get b=none->H'.get b=none
 keep:∀b,b<B->¬W b->H'.get b=H.get b
 bd:Bd H->Bd H'
theorem Vy.refl(B:Nat)(W:Nat->Prop)(H:ah):Vy B W H H:=⟨Fd _,λ_ _ h=>h,λ_ _ _=>rfl,λh=>h⟩
theorem Vy.trans{B:Nat}{W u:Nat->Prop}{H H' H'':ah}(h:Vy B W H H')(k:Vy B u H' H'')(G:∀b,W b->u b):Vy B u H H'':=
 ⟨abe h.next k.next,λb j M=>k.dom b j (h.dom b j M),λb j D=>(k.keep b j D).trans (h.keep b j (λE=>D (G b E))),λj=>k.bd (h.bd j)⟩
variable {call:FuncId->List AV->ah->Option (AV×ah)} {ops:Array Oper} {base:Nat}
theorem Qo{o:Op}{ρ:Operand->AV}{b:Nat}{H H':ah}{v:AV}(h:bu P F o ρ b H=some (.val v H'))(D:b<H.next)(B:Bd H):Bd H':=by have u:=G1 h;intro c j;rw[u.next]at j;exact u.dom c acN (B c j)
theorem OJ(Z:∀f args H v H',Bd H->call f args H=some (v,H')->zn H H'){B i:Nat}{Y G:List AV}{H H':ah}(O:Bd H)(hB:B<=base)(N:base+i<H.next)(h:lC P F call ops base i Y H=some (G,H')):Vy B (·∈H'.log) H H'/\∀c,c∈H.log->c∈H'.log:=by
 unfold lC at h;split at h
 .cases h
 .split at h
  .split at h
   .rename_i E;cases h;have j:=G1 E;exact⟨⟨by rw[j.next];exact Fd _,λc u S=>j.dom c acN S,λc u M=>j.keepL c acN M,Qo E N⟩,j.log⟩
   .split at h
    .rename_i D;cases h;have j:=Z _ _ _ _ _ O D;exact⟨⟨j.next,λc u S=>j.dom c acN S,λc u M=>j.keep c acN M,j.bd⟩,j.log⟩
    .cases h
   .cases h
  .cases h;exact⟨.refl _ _ _,λ_ h=>h⟩
  .cases h
theorem Jd(N:∀f args H v H',Bd H->call f args H=some (v,H')->zn H H'){B:Nat}(O:B<=base):∀(l:List Nat) (D u:List AV) (H H':ah),Bd H->(∀i∈l,base+i<H.next)->oa P F call ops base l D H=some (u,H')->
  Vy B (·∈H'.log) H H'/\∀c,c∈H.log->c∈H'.log
 |[],D,u,H,H',_,_,h=>by cases h;exact⟨.refl _ _ _,λ_ h=>h⟩
 | i::l,D,u,H,H',hbd,hl,h=>by
  unfold oa at h;split at h
  .rename_i S H1 Z;obtain⟨G,Y⟩:=OJ N hbd O (hl i acQ) Z;obtain⟨h2,M⟩:=Jd N O l _ _ _ _ (G.bd hbd) (λj hj=>abk (hl j (by simp[hj])) G.next) h;exact⟨G.trans h2 M,λc E=>M c (Y c E)⟩
  .cases h
def touched(r:Option sZ)(c:Nat):Prop:=∃x,r=some x/\(c∈x.writes\/c∈x.made\/(x.isCall=true/\x.lo<=c/\c<x.hi))
structure VA(base i:Nat)(H H':ah)(r:Option sZ):Prop where
 next:H.next<=H'.next
 log:H'.log=H.log
 keep:Bd H->∀c,¬touched r c->H'.get c=H.get c
 dom:∀c,c<H.next->c≠base+i->H.get c=none->H'.get c=none
 bd:Bd H->Bd H'
 made:∀x,r=some x->(∀c∈x.made,c=base+i)/\(x.isCall=true->x.lo=H.next)
theorem j3(hc:∀f args H v H',Bd H->call f args H=some (v,H')->zn H H'){i j:Nat}{τ τ':List AV}{H H':ah}{r:Option sZ}(G:Bd H)(hlt:base+i<H.next)(h:bW P F call ops base i j τ H=some (τ',H',r)):VA base i H H' r:=by
 unfold bW at h;split at h
 .cases h
 .rename_i o ho;split at h
  .split at h
   .rename_i v K N;cases h;have B:=G1 N;refine⟨by show H.next<=K.next;rw[B.next];exact Fd _,rfl,λ_ c hn=>?_,λc _ hcb E=>B.dom c hcb E,λE c u=>Qo N hlt E c u,λx Y=>?_⟩
    .refine B.keep c (λe=>hn ⟨_,rfl,.inr (.inl (by simp[e]))⟩) (λhw=>hn ⟨_,rfl,.inl hw⟩)
    .cases Y;exact⟨acQ,acQ⟩
   .rename_i f args N;split at h
    .rename_i v K S;cases h;have D:(eZ base j i H).next=H.next:=(io base j i H).1
     have hbd1:Bd ({eZ base j i H with log:=[]}:ah):=λd M=>by
      show(eZ base j i H).get d=none;rw[jp];split
      .rfl
      .exact G d (by simp only[D]at M;exact M)
     have B:=hc _ _ _ _ _ hbd1 S;have Z:=B.next;simp only[D]at Z;refine⟨by show H.next<=(jO base j H i K).next;rw[(iU base j H i K).1];exact Z,rfl,λE c hn=>?_,λc u hcb E=>?_,λE c u=>?_,λx Y=>?_⟩
     .show(jO base j H i K).get c=H.get c;rw[mO];split
      .rfl
      .rename_i hh;have hg:({eZ base j i H with log:=[]}:ah).get c=H.get c:=by show(eZ base j i H).get c=_;rw[jp,if_neg hh]
       rcases LE c H.next with u|u
       .by_cases hl:c∈K.log
        .cases hgc:(eZ base j i H).get c with
         |none=>have h1:({eZ base j i H with log:=[]}:ah).get c=none:=hgc;rw[B.dom c (by simp only[D];exact u) h1,<-hg,h1]
         |some y=>exact absurd ⟨_,rfl,.inl (acn.2 ⟨hl,by simp[hgc]⟩)⟩ hn
        .rw[B.keep c (by simp only[D];exact u) hl];exact hg
       .rcases LE c K.next with O|O
        .exact absurd ⟨_,rfl,.inr (.inr ⟨rfl,u,O⟩)⟩ hn
        .have G:Bd ({eZ base j i H with log:=[]}:ah):=λd M=>by
          show(eZ base j i H).get d=none;rw[jp];split
          .rfl
          .exact E d (by simp only[D]at M;exact M)
         rw[B.bd G c O,E c u]
     .show(jO base j H i K).get c=none;rw[mO];split
      .exact E
      .rename_i hh;refine B.dom c (by simp only[D];exact u) ?_;show(eZ base j i H).get c=none;rw[jp,if_neg hh];exact E
     .show(jO base j H i K).get c=none;have hcn':K.next<=c:=by
       have:(jO base j H i K).next<=c:=u
       rwa [(iU base j H i K).1]at this
      rw[mO];split
      .exact E c acN
      .have G:Bd ({eZ base j i H with log:=[]}:ah):=λd M=>by
        show(eZ base j i H).get d=none;rw[jp];split
        .rfl
        .exact E d (by simp only[D]at M;exact M)
       exact B.bd G c hcn'
     .cases Y;exact⟨acQ,λ_=>rfl⟩
    .cases h
   .cases h
  .cases h;exact⟨Fd _,rfl,λ_ _ _=>rfl,λ_ _ _ h=>h,λh=>h,λx Y=>by cases Y⟩
  .cases h
theorem xG(S:∀f args H v H',Bd H->call f args H=some (v,H')->zn H H'){B:Nat}(hB:B<=base){D:List Nat}:∀(l:List Nat) (τ E:List AV) (H K:ah) (rs u:List sZ),Bd H->(∀i∈l,base+i<H.next)->B<=H.next->
  fS P F call ops base D l τ H rs=some (E,K,u)->H.next<=K.next/\K.log=H.log/\Bd K/\(∀b,b<B->H.get b=none->K.get b=none)/\(∀b,b<B->b∉u.flatMap (·.writes)->K.get b=H.get b)/\(∀x∈rs,x∈u)
 |[],τ,E,H,K,rs,u,hbd,_,_,h=>by cases h;exact⟨Fd _,rfl,hbd,λ_ _ h=>h,λ_ _ _=>rfl,λ_ h=>h⟩
 | i::l,τ,E,H,K,rs,u,hbd,hl,hBn,h=>by
  unfold fS at h;split at h
  .rename_i Z H1 hs;have d:=j3 S hbd (hl i acQ) hs;obtain⟨a1,a2,a3,a4,a5,Y⟩:=xG S hB l _ _ _ _ _ _ (d.bd hbd) (λj hj=>abk (hl j (by simp[hj])) d.next) (abe hBn d.next) h;refine⟨abe d.next a1,a2.trans d.log,a3,λb M h0=>a4 b M (d.dom b acN acN h0),λb M O=>(a5 b M O).trans (d.keep hbd b ?_),Y⟩;rintro⟨x,G,_⟩;cases G
  .rename_i Z H1 r hs;split at h
   .have d:=j3 S hbd (hl i acQ) hs;obtain⟨a1,a2,a3,a4,a5,Y⟩:=xG S hB l _ _ _ _ _ _ (d.bd hbd) (λj hj=>abk (hl j (by simp[hj])) d.next) (abe hBn d.next) h;refine⟨abe d.next a1,a2.trans d.log,a3,λb M h0=>a4 b M (d.dom b acN acN h0),λb M O=>(a5 b M O).trans (d.keep hbd b ?_),λx G=>Y x (by simp[G])⟩;rintro⟨x,G,N|N|⟨N,h2,_⟩⟩
    .cases G;exact O (List.mem_flatMap.2 ⟨r,Y r acQ,N⟩)
    .have:=(d.made x G).1 b N;omega
    .have:=(d.made x G).2 N;omega
   .cases h
  .cases h
theorem LM(M:∀f args H v H',Bd H->call f args H=some (v,H')->zn H H'){u:Bool}{O E:List AV}{H H':ah}(G:Bd H)(h:fg P F call ops u O H=some (E,H')):zn H H':=by
 have j:Bd {H with next:=H.next+ops.size}:=λb D=>G b (abe (abB _ _) D)
 cases u with
 |false=>simp only[fg,abj,if_false]at h;obtain⟨o,l⟩:=Jd M (Fd H.next) _ _ _ _ _ j (λi B=>by rw[acd]at B;exact Nat.add_lt_add_left B _) h;exact⟨abe (abB _ _) o.next,o.dom,o.keep,l,λ_=>o.bd j⟩
 |true=>
  simp only[fg,if_true]at h;split at h
  .rename_i N K rs Z;cases h;obtain⟨a1,a2,a3,a4,a5,_⟩:=xG M (Fd H.next) _ _ _ _ _ _ _ j (λi B=>by rw[acd]at B;exact Nat.add_lt_add_left B _) (abB _ _) Z;refine⟨abe (abB _ _) a1,a4,λb D Y=>a5 b D (λS=>Y ?_),λb D=>?_,λ_=>a3⟩
   .simp only[aak];exact .inl S
   .simp only[aak];right;rw[a2];exact D
  .cases h
theorem Br{M:Code->List AV->ah->Option (Ex×List AV×ah)}(h:∀c N H e u H',Bd H->M c N H=some (e,u,H')->zn H H'){f:FuncId}{args:List AV}{H:ah}{v:AV}{H':ah}(B:Bd H)
  (j:pW P M f args H=some (v,H')):zn H H':=by
 unfold pW at j;split at j
 .split at j
  .split at j
   .cases j
   .rename_i e u K O G;split at j
    .cases j;have D:=h _ _ {H with log:=[]} _ _ _ B G;refine⟨D.next,D.dom,λb E S=>D.keep b E (λY=>S ?_),λb E=>?_,λ_=>D.bd B⟩
     .simp only[aak,acn,decide_eq_true_eq];exact .inl ⟨Y,E⟩
     .simp only[aak];exact .inr E
    .cases j
   .cases j
  .cases j
 .cases j
end
end
end Go.Proofs.YtfckbjehkbhkgaaGreat.Am
section
namespace Go.Proofs.YtfckbjehkbhkgaaGreat
open Go.ChangeShapes Go.WideShapes Go.ChangeAt Go.RowKit
abbrev Rel(α:Type):=World->(Nat->Prop)->α->List Value->Prop
def rInt(k:IntKind):Rel Int:=λ_ _ n cs=>cs=[.int k n]/\(Lit.int k n).wf=true
def rBool:Rel Bool:=λ_ _ b cs=>cs=[.bool b]
def rSlice{α:Type}(size:Nat)(R:Rel α):Rel (List α):=λw F l cs=>
 ∃A c,cs=[.slice A l.length c]/\l.length<=c/\c<=maxLen/\
  (0<l.length->∃b o,A=some ⟨b,o,none⟩/\F b/\
   ∀i x,l[i]? =some x->∃cs',cs'.length=size/\R w F x cs'/\∀j u,cs'[j]? =some u->w.cell? ⟨b,o+i*size+j,none⟩=some u)
def Rel.Stays{α:Type}(R:Rel α):Prop:=∀(w w':World) (F F':Nat->Prop) (x:α) (cs:List Value),
 (∀b,F b->b<w.heap.size->w'.heap[b]? =w.heap[b]?)->(∀b,F b->b<w.heap.size->F' b)->R w F x cs->R w' F' x cs
theorem lt_of_cell{w:World}{b o:Nat}{u:Value}(h:w.cell? ⟨b,o,none⟩=some u):b<w.heap.size:=by
 rcases LE b w.heap.size with j|B
 .exact j
 .simp[World.cell?,Array.getElem?_eq_none B]at h
theorem cell_kept{w w':World}{b o:Nat}{u:Value}(j:b<w.heap.size->w'.heap[b]? =w.heap[b]?)(h:w.cell? ⟨b,o,none⟩=some u):w'.cell? ⟨b,o,none⟩=some u:=
 (World.cell?_of_block (w:=w) (w':=w') (a:=⟨b,o,none⟩) (j (lt_of_cell h))).trans h
theorem rInt_stays(k:IntKind):(rInt k).Stays:=λ_ _ _ _ _ _ _ _ h=>h
theorem rBool_stays:rBool.Stays:=λ_ _ _ _ _ _ _ _ h=>h
theorem rSlice_stays{α:Type}{size:Nat}{R:Rel α}(hs:0<size)(hR:R.Stays):(rSlice size R).Stays:=by
 intro w w' F F' l cs N S ⟨A,c,h1,h2,h3,h4⟩;refine⟨A,c,h1,h2,h3,λG=>?_⟩;obtain⟨b,o,hA,E,O⟩:=h4 G;have hb:b<w.heap.size:=by obtain⟨D,M,_,B⟩:=O 0 l[0] (mt G);exact lt_of_cell (B 0 D[0] (mt acN))
 refine⟨b,o,hA,S b E hb,λi x Y=>?_⟩;obtain⟨D,M,hr,B⟩:=O i x Y;exact⟨D,M,hR w w' F F' x D N S hr,λj u Z=>cell_kept (N b E) (B j u Z)⟩
def Sl{α:Type}(size:Nat)(R:Rel α)(w:World)(F:Nat->Prop)(v:Value)(l:List α):Prop:=rSlice size R w F l [v]
section
variable {α:Type} {size:Nat} {R:Rel α} {w w':World} {F F':Nat->Prop} {v:Value} {l:List α}
theorem Sl.form(h:Sl size R w F v l):∃A c,v=.slice A l.length c/\l.length<=c/\c<=maxLen:=by obtain⟨A,c,B,u,j,_⟩:=h;exact⟨A,c,by simpa using B,u,j⟩
theorem Sl.at_{A:Option Addr}{n c:Nat}(h:Sl size R w F (.slice A n c) l){i:Nat}(N:i<l.length):
  ∃b o cs,A=some ⟨b,o,none⟩/\F b/\cs.length=size/\R w F l[i] cs/\∀j u,cs[j]? =some u->w.cell? ⟨b,o+i*size+j,none⟩=some u:=by
 obtain⟨A',c',D,h2,h3,Z⟩:=h;obtain⟨b,o,Y,S,O⟩:=Z acN;have e:A=A':=by injection D with D;injection D
 obtain⟨E,M,G,B⟩:=O i l[i] (mt N);exact⟨b,o,E,e.trans Y,S,M,G,B⟩
theorem Sl.stays(j:0<size)(B:R.Stays)(h:Sl size R w F v l)(u:∀b,F b->b<w.heap.size->w'.heap[b]? =w.heap[b]?)(D:∀b,F b->b<w.heap.size->F' b):Sl size R w' F' v l:=
 rSlice_stays j B w w' F F' l [v] u D h
theorem Sl.below{B:Nat}(u:0<size)(E:R.Stays)(h:Sl size R w (·<B) v l)(D:Below B w w'):Sl size R w' (·<B) v l:=
 h.stays u E (λb j _=>D.block b j) (λ_ h _=>h)
theorem Sl.nil:Sl size R w F (.slice none 0 0) ([]:List α):=⟨none,0,rfl,acQ,by simp[maxLen],λh=>absurd h acQ⟩
theorem Sl.len{A:Option Addr}{n c:Nat}(h:Sl size R w F (.slice A n c) l):n=l.length/\n<=c/\c<=maxLen:=by obtain⟨N,M,B,u,j⟩:=h.form;injection B with G E D;subst E D;exact⟨rfl,u,j⟩
end
section
variable {a w:World} {row:Option Nat}
end
def Blk(w:World)(g:Nat)(t:TypeId)(cs:List Value):Prop:=w.heap[g]? =some (.cells cs.toArray t (0,0))
section
variable {w w':World} {g:Nat} {t:TypeId} {cs:List Value}
theorem Blk.lt(h:Blk w g t cs):g<w.heap.size:=by
 rcases LE g w.heap.size with j|u
 .exact j
 .unfold Blk at h;rw[Array.getElem?_eq_none u]at h;cases h
theorem Blk.free(h:Blk w g t cs)(i:Nat):w.frozen? ⟨g,i,none⟩=false:=by unfold Blk at h;simp[World.frozen?,h]
theorem Blk.new(w:World)(t:TypeId)(cs:List Value){g:Nat}(j:w.heap.size=g):Blk (w.alloc (.cells cs.toArray t)) g t cs:=by subst j;exact heap_alloc_new w _
theorem Blk.alloc(h:Blk w g t cs)(o:Obj):Blk (w.alloc o) g t cs:=(Below.heap_alloc w o g h.lt).trans h
theorem Blk.below{B:Nat}(h:Blk w g t cs)(u:Below B w w')(j:g<B):Blk w' g t cs:=(u.block g j).trans h
theorem Blk.keep(h:Blk w g t cs)(j:Below w.heap.size w w'):Blk w' g t cs:=h.below j h.lt
theorem Blk.only{j:Nat}(h:Blk w g t cs)(B:w.grownBy w' (some j))(u:g≠j):Blk w' g t cs:=(B.block g h.lt (λe=>u (by injection e))).trans h
end
section
variable {H:Type} {enc:TypeId×Value->H} {P:Program} {w:World} {base:Nat} {spare:Nat->Bool} {held:Bool}
def Opens(H:Type)(enc:TypeId×Value->H)(P:Program)(w:World)(base:Nat)(spare:Nat->Bool)(held:Bool){α:Type}(t:TypeId)(R:Rel α):Prop:=
 ∀(fuel:Nat) (cs:List Value) (x:DataW H×List MemPlace),DataW.trod enc P w base spare held fuel t cs=some x->∃d,R w (·<w.heap.size) d cs
theorem opens_int{t:TypeId}{k:IntKind}(ht:P.underlying t=some (.int k)):Opens H enc P w base spare held t (rInt k):=λ_ _ _ h=>by obtain⟨n,u,_,j⟩:=DataW.trod_int ht h;exact⟨n,u,j⟩
theorem opens_slice{α:Type}{t e:TypeId}{size:Nat}{R:Rel α}(ht:P.underlying t=some (.slice e))(hc:P.cellsOf e=size)(hs:0<size)(he:Opens H enc P w base spare held e R):
  Opens H enc P w base spare held t (rSlice size R):=λfuel cs x h=>by
 rcases Deep.open_slice ht h with⟨rfl,_⟩|⟨a,len,cap,m,n,D,Pl,rfl,hb,hl,hm,Y,G,hi⟩
 .exact⟨[],Sl.nil⟩
 rw[hc]at hi;have hlm:len<=m:=by rw[Y];split<;>omega
 have N:∀i,i<len->∃d B,R w (·<w.heap.size) d B/\B.length=size/\∀j u,B[j]? =some u->w.cell? (a.add (i*size+j))=some u:=by
  intro i hil;obtain⟨B,h1,S⟩:=hi i acN;obtain⟨d,hd⟩:=he _ _ _ S;obtain⟨_,Z,hat⟩:=World.cells?_some h1;refine⟨d,B,hd,Z,λj u hu=>?_⟩;have hj:j<size:=by rw[<-Z];exact(abL.1 hu).1
  rw[<-Deep.add_add,hat j hj,hu]
 have:∃l:List α,l.length=len/\∀i x,l[i]? =some x->∃B,R w (·<w.heap.size) x B/\B.length=size/\∀j u,B[j]? =some u->w.cell? (a.add (i*size+j))=some u:=by
  clear G Y hlm hi hl h
  induction len with
  |zero=>exact⟨[],rfl,λi x h=>by simp at h⟩
  |succ k ih=>
   obtain⟨l,hl,hl2⟩:=ih (λi hi=>N i acN);obtain⟨d,B,h1,S⟩:=N k acN;refine⟨l++[d],by simp[hl],λi x G=>?_⟩;rcases LE i l.length with h|h
   .rw[aaW h]at G;exact hl2 i x G
   .rw[aaL h]at G;have hi0:i-l.length=0:=by
     rcases abZ (i-l.length)with h0|h0
     .exact h0
     .rw[aah (by simp only[ach];omega)]at G;cases G
    rw[hi0]at G;simp at G;subst G;obtain rfl:i=k:=by omega
    exact⟨B,h1,S⟩
 obtain⟨l,hll,O⟩:=this;subst hll;refine⟨l,some a,cap,rfl,hl,hm,λhn=>?_⟩;have M:a=⟨a.block,a.off,none⟩:=by
  obtain⟨B,_,S,h3⟩:=O 0 l[0] (mt hn);have E:=h3 0 B[0] (mt acN);rw[show 0*size+0=0 from by omega,Addr.add_zero']at E;unfold World.cell? at E;cases M:a.spot with
  |none=>cases a;simp_all
  |some s=>split at E<;>simp[M]at E
 have hblk:a.block<w.heap.size:=by obtain⟨B,_,S,h3⟩:=O 0 l[0] (mt hn);have E:=h3 0 B[0] (mt acN);rw[show 0*size+0=0 from by omega,Addr.add_zero',M]at E;exact lt_of_cell E
 refine⟨a.block,a.off,by rw[<-M],hblk,λi x G=>?_⟩;obtain⟨B,h1,S,h3⟩:=O i x G;refine⟨B,S,h1,λj u hu=>?_⟩;have:=h3 j u hu;rw[M,Addr.add_lit]at this;rw[abW];exact this
theorem opens_fields{t:TypeId}{M:Array Field}{E:Nat}{cs:List Value}{x:DataW H×List MemPlace}(ht:P.underlying t=some (.struct M))
  (h:DataW.trod enc P w base spare held E t cs=some x):cs.length=P.cellsOf t/\∀(i:Nat) (ty u n:Nat) (B:List Value),(M[i]?).map (λf=>(f.type,f.offset))=some (ty,u)->P.cellsOf ty=n->(cs.drop u).take n=B->
   ∃m y,DataW.trod enc P w base spare held m ty B=some y:=by
 obtain⟨xs,n,_,_,O,N,Y⟩:=DataW.trod_struct ht h;refine⟨O,λi ty u k B D S G=>?_⟩;cases j:M[i]? with
 |none=>rw[j]at D;cases D
 |some f=>rw[j]at D;simp only[abp,aaS,Prod.mk.injEq]at D;obtain⟨rfl,rfl⟩:=D;refine⟨n,xs[i]'(by have:=(acm.1 j).1;omega),?_⟩;have:=Y i f j;rw[S,G]at this;rw[this];exact mt _
end
section
variable {H:Type} {enc:TypeId×Value->H} {P:Program}
theorem trodAll_below(D:laidOutB P=true){W G:World}(E:Below W.heap.size W G){sp:Nat->Bool}:∀(ts:List TypeId) (vs:List Value) (ds:List (DataW H)) (ps:List MemPlace),
  (∀t∈ts,P.readableRec t=true/\t<P.types.size)->DataW.TrodAll enc P W 0 (λ_=>true) true ts vs ds ps->(∀x∈ps,x.block<W.heap.size)->(∀x∈ps,sp x.block=true)->DataW.TrodAll enc P G 0 sp true ts vs ds ps
 | [],vs,ds,ps,_,h,_,_=>by obtain⟨rfl,rfl,rfl⟩:=trodAll_nil h;exact trodAll_mk0
 | t::ts,vs,ds,ps,hr,h,hlt,hsp=>by obtain⟨v,u,d,B,p,q,rfl,rfl,rfl,O,N⟩:=trodAll_cons h;refine trodAll_cons_mk ?_ (trodAll_below D E ts u B q (λt M=>hr t (acb _ M)) N (λx j=>hlt x (aaY _ j)) (λx j=>hsp x (aaY _ j)));exact WideElems.Trod_stays D (hr t acJ).1 (hr t acJ).2 O (λx j=>E.same (hlt x (abR _ j))) (λx j=>hsp x (abR _ j))
theorem law_post{f:Func}{s:ChangeSpec}{apart O E S:Bool}{W W':World}{args:Array Value}{ds gs:List (DataW H)}{u:List MemPlace}{tb:TypeId}
  (hl:laidOutB P=true) (hr:∀t∈f.params.toList,P.readableRec t=true/\t<P.types.size) (B:s.vars=[]) (hrt:f.resultTypes=#[tb]) (htb:P.underlying tb=some .bool)
  (hW:DataW.Whole enc P f.params.toList s.vars apart W args.toList ds gs u)
  (hsr:(s.fn H (ds++gs)).results=[.lit (.bool true)]) (hsa:(s.fn H (ds++gs)).args=ds) (hsv:(s.fn H (ds++gs)).vars=[]) (hb:Below W.heap.size W W') :
  s.post enc P f apart O E S W args (.bool true) W':=by
 have N:∀p∈u,p.block<W.heap.size:=λp hp=>hW.lt p hp
 have hold:∀p∈u,(λb=>decide (b<W.heap.size)) p.block=true:=λp hp=>by simpa using N p hp
 obtain⟨G,pv,hA,hV,rfl,hz,hn⟩:=hW;have hW:DataW.Whole enc P f.params.toList s.vars apart W args.toList ds gs (G++pv):=⟨G,pv,hA,hV,rfl,hz,hn⟩;rw[B]at hV;obtain⟨rfl,rfl⟩:=trodVars_none hV;have D:∀sp:Nat->Bool,(∀p∈G,sp p.block=true)->DataW.TrodAll enc P W' 0 sp true f.params.toList args.toList (s.fn H (ds++[])).args G:=λsp hsp=>by rw[hsa];exact trodAll_below hl hb _ _ _ _ hr hA (λx hx=>N x (by simpa using hx)) hsp
 have M:∀(b:Nat) (sp:Nat->Bool) (hd:Bool),DataW.TrodAll enc P W' b sp hd f.resultTypes.toList ((Value.bool true).resultList f.resultTypes.size) (s.fn H (ds++[])).results []:=λb sp hd=>by rw[hsr,hrt];exact trodAll_cons_mk (shut_bool htb _) trodAll_mk0
 have Z:∀sp:Nat->Bool,DataW.TrodVars enc P W' sp s.vars (s.fn H (ds++[])).vars []:=λsp=>by rw[B,hsv];rfl
 refine⟨ds,[],G++[],[],G,[],hW,M _ _ _,D _ (λp hp=>hold p (by simpa using hp)),Z _,World.keptBut_mono (λp hp=>⟨hp,?_⟩) (hb.frame (·∈G++[])),λ_=>?_⟩
 .rw[aak]at hp;exact Or.inr hp
 .refine⟨?_,_,_,([]++G)++[],⟨[]++G,[],trodAll_append (D _ (λ_ _=>rfl)) (M _ _ _),Z _,rfl,?_,?_⟩,?_⟩
  .intro j t r hj hr';rw[hrt]at hj hr'
   match j with
   |0=>
    simp at hj;subst hj;have:r=.bool true:=by simpa[Value.resultList]using hr'.symm
    subst this;exact okWide_bool_mk htb _
   |j+1=>simp at hj
  .intro b Y hp;have hin:MemPlace.cell b Y∈G++[]:=by simpa using hp
   rw[hb.frozen (N _ hin)];exact hz b Y hin
  .intro ha;have:=hn ha;simpa using this
  .intro p hp _;simpa using hp
end
end Go.Proofs.YtfckbjehkbhkgaaGreat
end
section
namespace Go.Proofs.YtfckbjehkbhkgaaGreat
open Go.ChangeShapes Go.WideShapes Go.ChangeAt Go.RowKit
structure Elem(P:Program)(t e:TypeId)(z:Value)(size bytes:Nat):Prop where
 ht:P.underlying t=some (.slice e)
 hi:∃i,P.info? e=some i/\i.zero=some z/\i.size=size/\i.bytes=bytes
 hz:z.cells.size=size
 hs:0<size
theorem elem_mk{P:Program}{t e:TypeId}{z:Value}{size bytes:Nat}(ht:P.underlying t=some (.slice e))(B:(P.info? e).map (λi=>(i.zero,i.size,i.bytes))=some (some z,size,bytes))
  (j:z.cells.size=size) (u:0<size):Elem P t e z size bytes:=
 ⟨ht,by obtain⟨i,M,G,E,D⟩:=info_parts B;exact⟨i,M,G,E,D⟩,j,u⟩
def Flat(w:World)(size:Nat)(A:Option Addr)(n:Nat)(xs:List Value):Prop:=
 xs.length=n*size/\(0<n->∃b o,A=some ⟨b,o,none⟩/\∀j u,xs[j]? =some u->w.cell? ⟨b,o+j,none⟩=some u)
theorem run_append_nil_src{P:Program}(w:World)(base:Nat)(t ty e:TypeId)(i:TypeInfo)(size:Nat)(ht:P.underlying t=some (.slice e))(B:P.info? e=some i)
  (v:Value) (n:Nat) (xs:List Value) (j:w.ownsRow base e size v n xs) (c:Nat):(Builtin.append_ #[t,t] ty #[v,.slice none 0 c]).run P w=.ok v w:=by
 rcases j.2 with⟨rfl,rfl⟩|⟨g,E,D,rfl,_,_,u,_⟩
 .simp[Builtin.append_,run_underlying ht,sizeOf,typeInfo,B,Builtin.lenOf,Builtin.firstCells]
 .simp[Builtin.append_,run_underlying ht,sizeOf,typeInfo,B,Builtin.lenOf,Builtin.firstCells,u,storeCells]
section
variable {P:Program} {w:World} {t e:TypeId} {z:Value} {size bytes:Nat}
theorem run_app(E:Elem P t e z size bytes)(ty:TypeId)(base:Nat)(v:Value)(n:Nat)(xs:List Value)(D:w.ownsRow base e size v n xs)
  (A:Option Addr) (m c:Nat) (B:List Value) (Y:Flat w size A m B) (h1:∀u∈B,u.oneCell'=true)
  (h63:n+m<=maxLen) (M:(n+m)*bytes<=140737488355328) (N:base<=w.heap.size) :
  ∃v' w',(Builtin.append_ #[t,t] ty #[v,.slice A m c]).run P w=.ok v' w'/\w'.ownsRow base e size v' (n+m) (xs++B)/\w.grownBy w' v.ownBlock:=by
 obtain⟨i,hi,Z,hsz,hby⟩:=E.hi;rcases A with _|ad
 .have hm:m=0:=by
   rcases abZ m with O|O
   .exact O
   .obtain⟨b,o,h,_⟩:=Y.2 O;cases h
  subst hm;have hn:B=[]:=ace (by simpa using Y.1);subst hn;exact⟨v,w,run_append_nil_src w base t ty e i size E.ht hi v n xs D c,by simpa using D,World.grownBy.refl w _⟩
 .have G:∀j u,B[j]? =some u->w.cell? (ad.add j)=some u:=by
   intro j u hu;rcases abZ m with O|O
   .subst O;have hn:B=[]:=ace (by simpa using Y.1);subst hn;simp at hu
   .obtain⟨b,o,h,hc⟩:=Y.2 O;injection h with h;subst h;rw[Addr.add_lit];exact hc j u hu
  obtain⟨v',w',S,h2,h3,_⟩:=run_append_own (P:=P) w base t ty e i z size bytes E.ht hi Z hsz hby E.hz E.hs v n xs D ad m c B Y.1 G h1 h63 M N;exact⟨v',w',S,h2,h3⟩
theorem wp_app{o:Oper}{a:Act}{K:Act->World->Prop}{Q:Exit->Act->World->Prop}(s x:Operand)
  (Y:o.op=.call {callee:=.builtin .append,args:=#[s,x],argTypes:=#[t,t]}) (E:Elem P t e z size bytes) (base:Nat)
  (v:Value) (n:Nat) (xs:List Value) (S:a.eval s=v) (M:w.ownsRow base e size v n xs)
  (A:Option Addr) (m c:Nat) (j:List Value) (O:a.eval x=.slice A m c) (Z:Flat w size A m j) (h1:∀u∈j,u.oneCell'=true)
  (N:n+m<=maxLen) (B:(n+m)*bytes<=140737488355328) (D:base<=w.heap.size)
  (h:∀v' w',w'.ownsRow base e size v' (n+m) (xs++j)->w.grownBy w' v.ownBlock->K (a.put o.dst v') w'):o.wp P a w K Q:=by
 obtain⟨v',w',G,h2,h3⟩:=run_app E o.type base v n xs M A m c j Z h1 N B D;unfold Oper.wp execOp;simp only[Y,resolve,invoke,builtin,abx,abO,abd,List.map_toArray,aai,abF,S,O,G];exact h v' w' h2 h3
theorem wpList_app{ops:Array Oper}{D:List Oper}{o:Oper}{a:Act}{Q:Exit->Act->World->Prop}(N:o.guard=none)(s x:Operand)
  (Z:o.op=.call {callee:=.builtin .append,args:=#[s,x],argTypes:=#[t,t]}) (E:Elem P t e z size bytes) (base:Nat)
  (v:Value) (n:Nat) (xs:List Value) (Y:a.eval s=v) (M:w.ownsRow base e size v n xs)
  (A:Option Addr) (m c:Nat) (j:List Value) (S:a.eval x=.slice A m c) (hf:Flat w size A m j) (h1:∀u∈j,u.oneCell'=true)
  (O:n+m<=maxLen) (B:(n+m)*bytes<=140737488355328) (G:base<=w.heap.size)
  (h:∀v' w',w'.ownsRow base e size v' (n+m) (xs++j)->w.grownBy w' v.ownBlock->wpList P ops Q D (a.put o.dst v') w'):wpList P ops Q (o::D) a w:=
 wpList_plain N λ_ hK=>wp_app s x Z E base v n xs Y M A m c j S hf h1 O B G λv' w' h2 h3=>hK _ _ (h v' w' h2 h3)
end
theorem own_from{w:World}{base:Nat}{e:TypeId}{size n:Nat}{v:Value}{xs:List Value}(h:w.ownsRow base e size v n xs):∀k,v.ownBlock=some k->base<=k:=λk j=>(h.lt k j).1
theorem Flat.kept{w w':World}{size n:Nat}{A:Option Addr}{xs:List Value}(h:Flat w size A n xs)(M:Below w.heap.size w w'):Flat w' size A n xs:=by refine⟨h.1,λE=>?_⟩;obtain⟨b,o,N,G⟩:=h.2 E;exact⟨b,o,N,λj u D=>cell_kept (λB=>M.block b B) (G j u D)⟩
theorem Sl.one{α:Type}{size:Nat}{R:Rel α}{w:World}{F:Nat->Prop}{b:Nat}{e:TypeId}{cs:List Value}{x:α}(G:w.heap.size=b)(E:cs.length=size)(N:F b)
  (M:R (w.alloc (.cells cs.toArray e)) F x cs):Sl size R (w.alloc (.cells cs.toArray e)) F (.slice (some ⟨b,0,none⟩) 1 1) [x]:=by
 subst G;refine⟨_,1,rfl,acQ,by simp[maxLen],λ_=>⟨_,0,rfl,N,λi y B=>?_⟩⟩
 match i with
 |0=>simp at B;subst B;refine⟨cs,E,M,λj u D=>?_⟩;rw[cell_of_row _ _ _ cs.toArray e (0,0) (heap_alloc_new w _)];simpa using D
 |i+1=>simp at B
end Go.Proofs.YtfckbjehkbhkgaaGreat
end
