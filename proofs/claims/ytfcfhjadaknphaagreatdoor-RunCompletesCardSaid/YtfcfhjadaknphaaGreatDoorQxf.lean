/- part -/
import Derived.Test.YtfcfhjadaknphaaGreatDoorQxe
import Derived.Sort.OwnSortedInts
set_option linter.all false
set_option maxRecDepth 100000
set_option maxHeartbeats 0
namespace Go.Proofs.YtfcfhjadaknphaaGreatDoor.Am
def Fz.slm{α:Type}{K:SH}{b n size:Nat}{l:List α}{f g:α->List AV}{rows:List (List AV)}(Z:(b,⟨size,rows⟩)∈K)(S:rows=l.map f)(O:0<size)(Y:n=l.length)(hl:∀y∈l,(f y).length=(g y).length)
  (hc:∀y∈l,∀(q:Nat) (a E:AV),(f y)[q]? =some a->(g y)[q]? =some E->Fz K a E):Fz K (.sl b 0 n) (.lst (l.map g)):=by
 subst S;subst Y;cases l with
 |nil=>exact .sl0 b 0
 |cons x l=>
  have get:∀(j:Nat) (r B:List AV),((x::l).map f)[0+j]? =some r->((x::l).map g)[j]? =some B->∃y∈x::l,r=f y/\B=g y:=λj r B u D=>by
   rw[Xn,W6]at u;rw[W6]at D;cases M:(x::l)[j]? with
   |none=>rw[M]at u;cases u
   |some y=>rw[M]at u D;cases u;cases D;exact⟨y,XC M,rfl,rfl⟩
  refine .sl b 0 _ ⟨size,(x::l).map f⟩ _ Z O YF YF YF (λj r B u D=>?_) (λj r B q a E u D h3 h4=>?_)
  .obtain⟨y,G,rfl,rfl⟩:=get j r B u D;exact hl y G
  .obtain⟨y,G,rfl,rfl⟩:=get j r B u D;exact hc y G q a E h3 h4
def Fz.sls{α:Type}{K:SH}{b n size:Nat}{l:List α}{f:α->List AV}{rows:List (List AV)}(E:(b,⟨size,rows⟩)∈K)(B:rows=l.map f)(u:0<size)(D:n=l.length):Fz K (.sl b 0 n) (.lst (l.map f)):=
 Fz.slm E B u D (λ_ _=>rfl) λy _ q a M G j=>by rw[G]at j;cases j;exact .refl _
inductive fi (K:SH):List AV->List AV->Prop where
 |nil:fi K [] []
 |cons {a b:AV} {l m:List AV}:Fz K a b->fi K l m->fi K (a::l) (b::m)
def fi.at_{K:SH}{l m:List AV}(h:fi K l m):l.length=m.length/\∀(i:Nat) (a b:AV),l[i]? =some a->m[i]? =some b->Fz K a b:=by
 induction h with
 |nil=>exact⟨rfl,λi a b h=>by simp at h⟩
 |cons D E j=>
  refine⟨by simp[j.1],λi a b B u=>?_⟩
  match i with
  |0=>cases B;cases u;exact D
  |i+1=>exact j.2 i a b (by simpa using B) (by simpa using u)
def Fz.aggs{K:SH}{l m:List AV}(h:fi K l m):Fz K (.agg l) (.agg m):=.agg l m h.at_.1 h.at_.2
def Fz.tups{K:SH}{l m:List AV}(h:fi K l m):Fz K (.tup l) (.tup m):=.tup l m h.at_.1 h.at_.2
def aE.all{L:SH}{v j:AV}(h:Fz L v j):aE [v] L [j] []:=.drop (K:=L) (R:=[]) YF rfl λi a D u B=>by
 match i with
 |0=>cases u;cases B;exact h
 |i+1=>simp at u
def PD{α:Type}(i n:Nat)(A B:α)(h:i<n):(List.replicate i A++List.replicate (n-i) B).set i A=List.replicate (i+1) A++List.replicate (n-(i+1)) B:=by rw[Ys _ _ YF,List.length_replicate,X9];obtain⟨k,j⟩:∃k,n-i=k+1:=⟨n-i-1,YC⟩;rw[j,List.replicate_succ,List.set_cons_zero,show n-(i+1)=k by omega,List.replicate_succ',WU,List.singleton_append]
def PE{α:Type}(i n:Nat)(A B:α)(h:i<n):(List.replicate i A++List.replicate (n-i) B)[i]? =some B:=by rw[WQ YF,List.length_replicate,X9];obtain⟨k,j⟩:∃k,n-i=k+1:=⟨n-i-1,YC⟩;rw[j,List.replicate_succ];rfl
def ai:Option Nat->Nat->AV
 |none,_=>.emp
 |some b,n=>.sl b 0 n
def ab(o:Option Nat)(size:Nat)(rows:List (List AV)):SH:=match o with
 |none=>[]
 |some b=>[(b,⟨size,rows⟩)]
def fQ.app{b:Nat}{x:Blk}{L j:SH}(h:fQ b x L j):∀M:SH,fQ b x (M++L) (M++j)
 |[]=>h
 |p::M=>.there p (h.app M)
def aE.forget{vs:List AV}{L K R:SH}(u:L.Perm (K++R)):aE vs L vs R:=.drop u rfl λi a D B j=>by rw[B]at j;cases j;exact .refl _
def aE.box{vs:List AV}{L K R:SH}{b n:Nat}{r D:List AV}(S:L.Perm (K++(b,⟨n,[r]⟩)::R))(E:fi K r D):aE vs L vs ((b,⟨n,[D]⟩)::R):=by
 refine⟨K,(b,⟨n,[r]⟩)::R,S,⟨rfl,λi a a2 B u=>by rw[B]at u;cases u;exact .refl _⟩,rfl,λi p q B u=>?_⟩
 match i with
 |0=>
  cases B;cases u;refine⟨rfl,rfl,rfl,λj s s2 O g2=>?_⟩
  match j with
  |0=>cases O;cases g2;exact⟨E.at_.1,E.at_.2⟩
  |j+1=>simp at O
 |i+1=>simp only[X5]at B u;rw[B]at u;cases u;exact⟨rfl,rfl,rfl,λj r r2 Z M=>by rw[Z]at M;cases M;exact⟨rfl,λk a a2 Y G=>by rw[Y]at G;cases G;exact .refl _⟩⟩
def Fz.slot{α:Type}{o:Option Nat}{size:Nat}{l:List α}{f g:α->List AV}{rows:List (List AV)}(j:rows=l.map f)(G:o=none->rows=[])(B:0<size)(D:∀y∈l,(f y).length=(g y).length)
  (E:∀y∈l,∀(q:Nat) (a u:AV),(f y)[q]? =some a->(g y)[q]? =some u->Fz (ab o size rows) a u):Fz (ab o size rows) (ai o l.length) (.lst (l.map g)):=by
 cases o with
 |none=>
  have:=G rfl;subst j;have:l=[]:=by simpa using this
  subst this;exact .emp
 |some b=>exact Fz.slm (WP.2 rfl) j B rfl D E
def bF{β:Type}(n:Nat)(S:Nat->β->List AV×SH)(G:Nat->β->Prop){B:List AV->SH->W.Kn->Prop}{vs:List AV}{L:SH}(O:β)(h0:G 0 O)(hz:aE vs L (S 0 O).1 (S 0 O).2)
  (h:∀i o,i<=n->G i o->B (S i o).1 (S i o).2 λD M=>∃j u,i<j/\j<=n/\G j u/\aE D M (S j u).1 (S j u).2):W.loop B vs L:=by
 refine⟨λk vs L=>∃i o,i<=n/\G i o/\k=n-i/\vs=(S i o).1/\L=(S i o).2,⟨n,_,_,hz,0,O,Xq _,h0,rfl,rfl,rfl⟩,?_⟩;rintro k vs L ⟨i,o,hi,hG,rfl,rfl,rfl⟩;have e:(λD M=>∃m E L2,m<n-i/\aE D M E L2/\∃j u,j<=n/\G j u/\m=n-j/\E=(S j u).1/\L2=(S j u).2)=λD M=>∃j u,i<j/\j<=n/\G j u/\aE D M (S j u).1 (S j u).2:=by
  funext D M;apply propext;constructor
  .rintro⟨m,E,L2,h1,h2,j,u,Z,Y,rfl,rfl,rfl⟩;exact⟨j,u,YC,Z,Y,h2⟩
  .rintro⟨j,u,h1,h2,Z,Y⟩;exact⟨n-j,_,_,YC,Y,j,u,h2,Z,rfl,rfl,rfl⟩
 rw[e];exact h i o hi hG
section
open Go.RowKit
theorem j4{w w':World}{σ:bR}{T:Nat->Prop}(h:Below w.heap.size w w')(u:∀c,σ.fr c->c<w.heap.size):fR w σ T w' σ T:=
 ⟨h.os,h.tape,h.output,h.size,λc j _=>h.block c j,λc B e j=>⟨B,by rw[h.block c (X7.1 j).1];exact j,rfl⟩,λ_ _ h=>h,rfl,λc j=>h.block c (u c j),λ_ h=>.inl h⟩
theorem wo{w w':World}{σ:bR}{H:af}(j:bQ w σ H)(h:Below w.heap.size w w'):bQ w' σ H:=
 ⟨j.named,λb B D=>Xf (j.lt b B D) h.size,λb x D=>by
  obtain⟨B,M,e,E,G⟩:=j.live b x D;exact⟨B,M,e,E,G.mono (j4 h λc u=>(j.apart c u).1) (h.block _ (j.lt b B E))⟩,λc u=>⟨Xf (j.apart c u).1 h.size,(j.apart c u).2⟩,j.inj,j.glob.mono (j4 h λc u=>(j.apart c u).1)⟩
theorem K7{w w':World}{σ:bR}{H:af}{b g:Nat}(hW:bQ w σ H)(D:Below w.heap.size w w')(hb:σ b=none)(hlt:b<H.next)(hg:w.heap.size<=g){x:Blk}{cs:Array Value}{e:TypeId}(hgb:w'.heap[g]? =some (.cells cs e (0,0)))
  (even:∀(i:Nat) (r:List AV),x.rows[i]? =some r->r.length=x.size) (room:x.rows.length*x.size<=cs.size)
  (rep:∀(i:Nat) (r:List AV) (j:Nat) (a:AV) (u:Value),x.rows[i]? =some r->r[j]? =some a->cs[i*x.size+j]? =some u->bN w σ (bB σ H) a u) :
  bQ w' (σ.set b ⟨g,0,x.size⟩) (H.new b x)/\fR w σ (bB σ H) w' (σ.set b ⟨g,0,x.size⟩) (bB (σ.set b ⟨g,0,x.size⟩) (H.new b x)):=by
 have hnone:H.get b=none:=by
  cases hg:H.get b with
  |none=>rfl
  |some y=>obtain⟨Y,_,_,G,_⟩:=hW.live b y hg;rw[hb]at G;cases G
 have hgl:g<w'.heap.size:=(X7.1 hgb).1;have ext:fR w σ (bB σ H) w' (σ.set b ⟨g,0,x.size⟩) (bB (σ.set b ⟨g,0,x.size⟩) (H.new b x)):=by
  refine⟨D.os,D.tape,D.output,D.size,λc M _=>D.block c M,λc cs' e' M=>⟨cs',by rw[D.block c (X7.1 M).1];exact M,rfl⟩,λc q hq=>bR.set_old hb hq,rfl,λc M=>D.block c (hW.apart c M).1,?_⟩;rintro c (hfr|⟨b',y,Y,G,O,Z⟩)
  .exact .inl (.inl hfr)
  rw[af.get_new]at G;by_cases S:b=b'
  .subst S;rw[bR.set_eq]at O;cases O;exact .inr (by simp only[]at Z;omega)
  .rw[if_neg S]at G;rw[bR.set_ne _ _ S]at O;exact .inl (.inr ⟨b',y,Y,G,O,Z⟩)
 refine⟨⟨?_,?_,?_,?_,?_,hW.glob.mono ext⟩,ext⟩
 .intro c Y M;by_cases B:b=c
  .subst B;exact hlt
  .rw[bR.set_ne _ _ B]at M;exact hW.named c Y M
 .intro c Y M;by_cases B:b=c
  .subst B;rw[bR.set_eq]at M;cases M;exact hgl
  .rw[bR.set_ne _ _ B]at M;exact Xf (hW.lt c Y M) D.size
 .intro c y hy;rw[af.get_new]at hy;by_cases B:b=c
  .subst B;rw[if_pos rfl]at hy;cases hy;exact⟨_,cs,e,bR.set_eq _ _ _,.of (.inl rfl) ⟨rfl,hgb,even,by simpa using room,λi r j a u G O Z=>(rep i r j a u G O (by simpa using Z)).mono ext⟩⟩
  .rw[if_neg B]at hy;obtain⟨Y,cs',e',G,O⟩:=hW.live c y hy;exact⟨Y,cs',e',by rw[bR.set_ne _ _ B];exact G,O.mono ext (D.block _ (hW.lt c Y G))⟩
 .intro c M;refine⟨Xf (hW.apart c M).1 D.size,?_⟩;rintro⟨b',y,Y,G,O,Z⟩;rw[af.get_new]at G;by_cases S:b=b'
  .subst S;rw[bR.set_eq]at O;cases O;have:=(hW.apart c M).1;simp only[]at Z;omega
  .rw[if_neg S]at G;rw[bR.set_ne _ _ S]at O;exact(hW.apart c M).2 ⟨b',y,Y,G,O,Z⟩
 .intro c c' y y' Y pl' G O Z h4 h5;rw[af.get_new]at G O;by_cases B:b=c
  .by_cases E:b=c'
   .exact B.symm.trans E
   .subst B;rw[bR.set_eq]at Z;cases Z;rw[bR.set_ne _ _ E]at h4;have:=hW.lt c' pl' h4;simp only[]at h5;omega
  .by_cases E:b=c'
   .subst E;rw[bR.set_eq]at h4;cases h4;rw[bR.set_ne _ _ B]at Z;have:=hW.lt c Y Z;simp only[]at h5;omega
   .rw[if_neg B]at G;rw[if_neg E]at O;rw[bR.set_ne _ _ B]at Z;rw[bR.set_ne _ _ E]at h4;exact hW.inj c c' y y' Y pl' G O Z h4 h5
theorem J9{w:World}{σ:bR}{T:Nat->Prop}{a:AV}{vs:List Value}(h:fP w σ T [a] vs):∃v,vs=[v]/\bN w σ T a v:=by
 match vs,h with
 |[v],h=>exact⟨v,rfl,h.2 0 a v rfl rfl⟩
 |[],h=>exact absurd h.1 YF
 |_::_::_,h=>exact absurd h.1 YF
section
variable {P:Program} {f:FuncId} {e:TypeId} {size bytes:Nat}
def EE(P:Program)(f:FuncId)(e:TypeId)(size bytes:Nat):Prop:=∀(A:Option Addr) (n c:Nat) (xs:List Value) (w:World),Go.Proofs.YtfcfhjadaknphaaGreatDoor.Flat w size A n xs->(∀x∈xs,x.oneCell'=true)->n*bytes<=140737488355328->(A=none->n=0)->
 Calls P f #[.slice A n c] w λe' w'=>∃v,e'=.returned v/\w'.ownsRow w.heap.size e size v n xs/\Below w.heap.size w w'
theorem Ao(hcl:EE P f e size bytes)(S:∃fn c,P.funcs[f]? =some fn/\fn.body=some c)(rows:List (List AV))(hne:rows≠[])(hone:(rows.all λr=>r.all AV.one)=true)(hev:∀r∈rows,r.length=size)(hbig:rows.length*bytes<=140737488355328):
  ac P f [.lst rows] [] λv L=>∃b,v=.sl b 0 rows.length/\L=[(b,⟨size,rows⟩)]:=by
 have E:∀(i:Nat) (r:List AV),rows[i]? =some r->r.length=size:=λi r hr=>hev r (XC hr)
 refine⟨S,λH hb hs=>⟨.sl H.next 0 rows.length,({H with next:=H.next+1}:af).new H.next ⟨size,rows⟩,[(H.next,⟨size,rows⟩)],?_,?_,H.next,rfl,rfl⟩⟩
 .intro w M vs hW hvs;obtain⟨v,rfl,hv⟩:=J9 hvs;obtain⟨A,cap,rfl,hn,hm,ha⟩:=hv.lst_inv;obtain⟨b,o,sz,rfl,hl,hrep⟩:=ha hne;have hl0:0<rows.length:=List.length_pos_iff.2 hne;obtain rfl:size=sz:=by rw[<-hl.even 0 rows[0] (mt hl0)];exact(E 0 rows[0] (mt hl0)).symm
  have hdm:∀p,p<rows.length*size->p / size<rows.length/\p % size<size/\p=p / size*size+p % size:=λp hp=>
   ⟨(Nat.div_lt_iff_lt_mul hl.pos).2 hp,Nat.mod_lt _ hl.pos,by rw[Nat.mul_comm];exact(Nat.div_add_mod _ _).symm⟩
  let xs:List Value:=(List.range (rows.length*size)).map λp=>(w.cell? ⟨b,o+p,none⟩).getD undef
  have Z:xs.length=rows.length*size:=by simp[xs]
  have D:∀p u,xs[p]? =some u->w.cell? ⟨b,o+p,none⟩=some u:=λp u hu=>by
   have hp:p<rows.length*size:=by rw[<-Z];exact aF hu
   simp only[xs,W6,Yz hp,Xl,W3]at hu;obtain⟨d1,d2,d3⟩:=hdm p hp;obtain⟨q,hq⟩:=hl.cell (p / size) (p % size) d1 d2;rw[XG,<-d3]at hq;rw[hq]at hu ⊢;simp only[XU]at hu;rw[hu]
  have hrp:∀(i:Nat) (r:List AV) (j:Nat) (a:AV) (u:Value),rows[i]? =some r->r[j]? =some a->xs[i*size+j]? =some u->bN w M (bB M H) a u:=λi r j a u Y h2 h3=>hrep i r j a u Y h2 (by rw[XG];exact D _ u h3)
  have O:∀x∈xs,x.oneCell'=true:=λx hx=>by
   obtain⟨p,hp,rfl⟩:=XJ hx;have hp':p<rows.length*size:=by omega
   obtain⟨d1,d2,d3⟩:=hdm p hp';have hr:rows[p / size]? =some rows[p / size]:=mt d1;have hj:p % size<rows[p / size].length:=by rw[E _ _ hr];exact d2
   have Y:=hrp (p / size) _ (p % size) _ xs[p] hr (mt hj) (by rw[<-d3];exact mt hp);exact Y.one (W2.1 (W2.1 hone _ (WN d1)) _ (WN hj))
  refine(hcl (some ⟨b,o,none⟩) rows.length cap xs w ⟨Z,λ_=>⟨b,o,rfl,D⟩⟩ O hbig (λh=>by cases h)).mono ?_;rintro e' w' ⟨v',rfl,hown,hbl⟩;rcases hown.2 with⟨_,h0⟩|⟨g,cap',cur,rfl,hg,hgb,hnc,hcm,hcs,ht⟩
  .omega
  have hσ:M H.next=none:=by
   cases hq:M H.next with
   |none=>rfl
   |some pl=>exact absurd (hW.named _ pl hq) (Nat.lt_irrefl _)
  have hW1:bQ w M {H with next:=H.next+1}:=hW.congr (λ_=>rfl) (Yi _);have G:bB M ({H with next:=H.next+1}:af)=bB M H:=bB.congr λ_=>rfl
  have hle:rows.length*size<=cur.size:=by rw[hcs];exact Xa _ hnc
  obtain⟨g1,g2⟩:=K7 (b:=H.next) (g:=g) (x:=⟨size,rows⟩) hW1 hbl hσ (Nat.lt_succ_self _) hg hgb E hle (λi r j a u Y h2 h3=>by
   rw[G];refine hrp i r j a u Y h2 ?_;have hj:j<size:=by rw[<-E i r Y];exact aF h2
   rw[<-ht,Xt (pt (aF Y) hj),Xh];exact h3)
  refine⟨_,_,rfl,?_,g1,by rw[G]at g2;exact g2,λc pl B=>?_⟩
  .refine bN.sl H.next 0 rows.length ⟨g,0,size⟩ ⟨g,0,none⟩ cap' (bR.set_eq _ _ _) (.inl rfl) hnc hcm λ_=>⟨YF,cur,e,hgb,YH⟩
  .by_cases hbc:H.next=c
   .subst hbc;exact .inr (Fd _)
   .rw[bR.set_ne _ _ hbc]at B;exact .inl B
 .refine⟨Yi _,λc B=>?_,⟨YF,λp hp=>?_⟩,λc x B _=>⟨?_,?_⟩,λc B h0=>?_,λc B hlt=>?_⟩
  .have B:H.next+1<=c:=B;rw[af.get_new,if_neg YC];exact hb c YC
  .simp only[WP]at hp;subst hp;rw[af.get_new,if_pos rfl]
  .rw[af.get_new,if_neg];exact B;rintro rfl;rw[hb _ (Fd _)]at B;cases B
  .simp only[WS,Xp,WP];rintro rfl;rw[hb _ (Fd _)]at B;cases B
  .rw[af.get_new,if_neg YC];exact h0
  .simp only[WS,Xp,WP]at B;omega
theorem II(G:EE P f e size bytes)(j:∃Y c,P.funcs[f]? =some Y/\Y.body=some c):ac P f [.lst []] [] λv L=>v=.lst []/\L=[]:=by
 refine⟨j,λH hb hs=>⟨.lst [],H,[],?_,.refl hb hs,rfl,rfl⟩⟩;intro w σ vs S D;obtain⟨v,rfl,hv⟩:=J9 D;obtain⟨A,O,rfl,hn,hm,_⟩:=hv.lst_inv;refine(G A 0 O [] w ⟨YF,YC⟩ YF YC (λ_=>rfl)).mono ?_;rintro e' w' ⟨v',rfl,u,B⟩;refine⟨v',σ,rfl,?_,wo S B,j4 B λc M=>(S.apart c M).1,λc pl M=>.inl M⟩;rcases u.2 with⟨rfl,_⟩|⟨g,Z,cur,rfl,hg,hgb,hnc,E,hcs,ht⟩
 .exact .lst0 _ _ (by unfold maxLen;omega)
 .exact .lst0 _ _ E
theorem IJ(E:∀(A:Option Addr) (c:Nat) (w:World),Calls P f #[.slice A 0 c] w λY w'=>∃B,Y=.returned (.slice B 0 0)/\Below w.heap.size w w')(j:∃S c,P.funcs[f]? =some S/\S.body=some c):ac P f [.lst []] [] λv L=>v=.emp/\L=[]:=by refine⟨j,λH hb hs=>⟨.emp,H,[],?_,.refl hb hs,rfl,rfl⟩⟩;intro w Z vs O D;obtain⟨v,rfl,hv⟩:=J9 D;obtain⟨A,M,rfl,hn,hm,_⟩:=hv.lst_inv;refine(E A M w).mono ?_;rintro Y w' ⟨B,rfl,u⟩;exact⟨_,Z,rfl,.emp B,wo O u,j4 u λc G=>(O.apart c G).1,λc pl G=>.inl G⟩
end
end
section
open Go.RowKit
def aQ:Option Nat->Nat->AV
 |none,_=>.lst []
 |some b,n=>.sl b 0 n
def hZ{P:Program}{f:FuncId}{e:TypeId}{size u:Nat}(D:EE P f e size u)(j:∃O c,P.funcs[f]? =some O/\O.body=some c)(rows:List (List AV))(B:(rows.all λr=>r.all AV.one)=true)(M:∀r∈rows,r.length=size)(E:rows.length*u<=140737488355328):
  ac P f [.lst rows] [] λv L=>∃o,v=aQ o rows.length/\L=ab o size rows/\(o=none->rows=[]):=by
 rcases List.eq_nil_or_concat rows with rfl|⟨Z,y,G⟩
 .exact(II D j).mono λv L ⟨Y,S⟩=>⟨none,Y,S,λ_=>rfl⟩
 .refine(Ao D j rows (by rw[G];simp) B M E).mono ?_;rintro v L ⟨b,rfl,rfl⟩;exact⟨some b,rfl,rfl,λh=>by cases h⟩
end
section
structure W.callM(P:Program)(g:FuncId)(args:List AV)(L:SH)(KL:AV->SH->Prop):Prop where
 h:ac P g args L KL
structure W.dcallM(P:Program)(us:List W.WR)(i:Nat)(g:FuncId)(args:List AV)(L:SH)(KN:AV->SH->List Nat->Prop):Prop where
 h:∃Kc R:SH,L.Perm (Kc++R)/\(∀x∈us,W.free x ⟨i,[],Kc.names,[],true,[]⟩)/\ac P g args Kc λv Kc'=>KN v (Kc'++R) Kc.names
section
variable {P:Program} {g:FuncId} {args:List AV} {L:SH} {KL:AV->SH->Prop} {KN:AV->SH->List Nat->Prop} {us:List W.WR} {i:Nat} {v:AV}
theorem IK(h:W.callM P g args L KL):W.call P (.fn g []) args L KL:=by rw[Pr,Xr];exact h.h
theorem R6(j:ao P g args v)(h:KL v L):W.callM P g args L KL:=⟨j.call h⟩
theorem Ka(h:ac P g args L KL):W.callM P g args L KL:=⟨h⟩
theorem EF{K R:SH}{j:AV->SH->Prop}(h:ac P g args K j)(D:L.Perm (K++R))(B:∀v u,j v u->KL v (u++R)):W.callM P g args L KL:=⟨h.frame D B⟩
theorem gq{b:Nat}{x:Blk}{u:SH}{j:AV->SH->Prop}(h:ac P g args [(b,x)] j)(E:fQ b x L u)(D:∀v B,j v B->KL v (B++u)):W.callM P g args L KL:=⟨h.frame E.perm D⟩
theorem Ap{j b2:Nat}{x1 x2:Blk}{u L2:SH}(B:fQ j x1 L u)(h2:fQ b2 x2 u L2):L.Perm ([(j,x1),(b2,x2)]++L2):=B.perm.trans (h2.perm.cons _)
theorem MV{j b2:Nat}{x1 x2:Blk}{B L2:SH}{u:AV->SH->Prop}(h:ac P g args [(j,x1),(b2,x2)] u)(G:fQ j x1 L B)(h2:fQ b2 x2 B L2)(E:∀v D,u v D->KL v (D++L2)):W.callM P g args L KL:=⟨h.frame (Ap G h2) E⟩
theorem uz{b:Nat}{x:Blk}{j:SH}{u:AV->SH->Prop}(h:ac P g args [(b,x)] u)(G:fQ b x L j)(E:∀y∈us,W.free y ⟨i,[],[b],[],true,[]⟩)(D:∀v B,u v B->KN v (B++j) [b]):W.dcallM P us i g args L KN:=
 ⟨[(b,x)],j,G.perm,E,h.mono D⟩
theorem K8{j b2:Nat}{x1 x2:Blk}{B L2:SH}{u:AV->SH->Prop}(h:ac P g args [(j,x1),(b2,x2)] u)(M:fQ j x1 L B)(h2:fQ b2 x2 B L2)(G:∀y∈us,W.free y ⟨i,[],[j,b2],[],true,[]⟩)(E:∀v D,u v D->KN v (D++L2) [j,b2]):W.dcallM P us i g args L KN:=
 ⟨[(j,x1),(b2,x2)],L2,Ap M h2,G,h.mono E⟩
theorem aE.keep1{u:AV}{b:Nat}{x:Blk}{j:SH}(E:fQ b x L j)(D:Fz j v u):aE [v] L [u] [(b,x)]:=by
 refine .drop (K:=j) (E.perm.trans (W1 (l₁:=[(b,x)]))) rfl λi a M B G=>?_
 match i with
 |0=>cases B;cases G;exact D
 |i+1=>simp at B
theorem aE.keep2{j:AV}{B b2:Nat}{x1 x2:Blk}{D L2:SH}(G:fQ B x1 L D)(h2:fQ b2 x2 D L2)(E:Fz L2 v j):aE [v] L [j] [(B,x1),(b2,x2)]:=by
 refine .drop (K:=L2) ((Ap G h2).trans W1) rfl λi a O u M=>?_
 match i with
 |0=>cases u;cases M;exact E
 |i+1=>simp at u
theorem ac.nd{f:FuncId}{Q:AV->SH->Prop}(B:∃u c,P.funcs[f]? =some u/\u.body=some c)(h:L.names.Nodup->ac P f args L Q):ac P f args L Q:=⟨B,λH D j=>(h j.nd).2 H D j⟩
theorem ac.pre{f:FuncId}{args2:List AV}{L2:SH}{Q:AV->SH->Prop}(hz:aE args L args2 L2)(h:ac P f args2 L2 Q):ac P f args L Q:=⟨h.1,λH hb hs=>by
 obtain⟨H2,E,S,f3,f4⟩:=my hz hs hb;obtain⟨v,H',L',h1,h2,h3⟩:=h.2 H2 E.bd E.sub;refine⟨v,H',L',λw G M hW D=>?_,E.trans (h2.low (by rw[S];exact Fd _)) (Fd _),h3⟩;obtain⟨g1,O,g3⟩:=f3 w G hW;refine(h1 w G M g1 (g3 M D)).mono ?_;rintro e w' ⟨Y,B,rfl,k1,k2,j,k4⟩;exact⟨Y,B,rfl,k1,k2,⟨j.os,j.tape,j.output,j.size,λc u hT=>j.keep c u (λh=>hT (O c h)),j.shape,j.sig,j.eqfr,j.frame,λc u=>(j.own c u).imp (O c) id⟩,λc Z u=>by rw[<-S];exact k4 c Z u⟩⟩
theorem aE.vals{vs j:List AV}(h:fi [] vs j):aE vs L j L:=.drop (K:=[]) (.refl _) h.at_.1 h.at_.2
theorem aU(k:FuncId)(h:W.callM P k args L KL):W.callM P k args L KL:=h
theorem dR(k:FuncId)(h:W.dcallM P us i k args L KN):W.dcallM P us i k args L KN:=h
theorem Kb(h:W.dcallM P us i g args L KN):W.dcall P us i (.fn g []) args L KN:=by rw[MD,Xr];exact h.h
theorem PF(h:ao P g args v)(B:∀x∈us,W.free x ⟨i,[],[],[],true,[]⟩)(j:KN v L []):W.dcallM P us i g args L KN:=
 ⟨[],L,.refl _,B,ac.mono h λu K ⟨E,D⟩=>by subst E;subst D;exact j⟩
end
theorem PI{n:Nat}{a:AV}{L:SH}{K:AV->Prop}(h:W.load false n a L K):W.load false n a L K:=h
theorem PJ{j:Nat}{x:AV}{K:AV->Prop}(h:W.faddr j x K):W.faddr j x K:=h
theorem UD{n:Nat}{x j:AV}{L:SH}{K:AV->Prop}(h:W.idx n x j L K):W.idx n x j L K:=h
theorem UE{x:AV}{K:AV->Prop}(h:W.len x K):W.len x K:=h
theorem UF{i:Nat}{x:AV}{K:AV->Prop}(h:W.ext i x K):W.ext i x K:=h
theorem R7{us:List W.WR}{y:W.WR}{A:Prop}(h:W.calm us y A):W.calm us y A:=h
theorem R8{r:W.Fp}{K:W.Fp->Prop}(h:W.note r K):W.note r K:=h
theorem R9{c x y:AV}{K:AV->Prop}(h:W.pick c x y K):W.pick c x y K:=h
theorem Q4{x:AV}{j:Bool}{A:(AV->SH->Prop)->Prop}{L:SH}{K:AV->SH->Prop}(h:W.grd x j A L K):W.grd x j A L K:=h
theorem MW{x:AV}{j:Bool}{A:(AV->SH->W.Fp->Prop)->Prop}{L:SH}{K:AV->SH->W.Fp->Prop}(h:W.dgrd x j A L K):W.dgrd x j A L K:=h
theorem V7{op:UnOp}{x:AV}{K:AV->Prop}(h:W.un op x K):W.un op x K:=h
theorem Q5{x:AV}{L:SH}{K:AV->SH->Prop}(h:W.box x L K):W.box x L K:=h
theorem Sa{v:AV}{L:SH}{K:AV->SH->Prop}(h:W.frz1 v L K):W.frz1 v L K:=h
theorem PK{n:Nat}{a v:AV}{L:SH}{K:SH->Prop}(h:W.store n a v L K):W.store n a v L K:=h
theorem Sb{len n:Nat}{x j:AV}{K:AV->Prop}(h:W.idxP len n x j K):W.idxP len n x j K:=h
theorem Gy{n:Nat}{z:List AV}{len:Nat}{ps:List (Nat×AV)}{L:SH}{K:AV->SH->Prop}(h:W.bslice n z len ps L K):W.bslice n z len ps L K:=h
theorem Gz{n by_:Nat}{z:List AV}{l c:AV}{L:SH}{K:AV->SH->Prop}(h:W.mslice n by_ z l c L K):W.mslice n by_ z l c L K:=h
theorem MX{x:AV}{K:AV->Prop}(h:W.nilchk x K):W.nilchk x K:=h
end
section
section
variable {P:Program} {g:FuncId} {args:List AV} {L:SH} {KL:AV->SH->Prop}
theorem Fr.permS{B:Nat}{E L'':SH}{H H':af}(h:Fr B L H E H')(hp:E.Perm L''):Fr B L H L'' H':=
 ⟨h.next,h.bd,h.sub.perm hp,λb x D u=>⟨(h.keep b x D u).1,λG=>(h.keep b x D u).2 ((hp.map Prod.fst).mem_iff.2 G)⟩,h.dom,λb M j=>h.fresh b ((hp.map Prod.fst).mem_iff.2 M) j⟩
theorem zu{B:AV->SH->Prop}(h:ac P g args [] B)(G:∀v D,B v D->∃j:SH,(D++L).Perm j/\(j.names.Nodup->KL v j)):W.callM P g args L KL:=by refine⟨⟨h.1,λH M E=>?_⟩⟩;obtain⟨v,H',j,Y,S,L'',hp,O⟩:=(h.frame (K:=[]) (R:=L) (R2:=λv Z=>∃j:SH,Z.Perm j/\(j.names.Nodup->KL v j)) (.refl _) G).2 H M E;have u:=S.permS hp;exact⟨v,H',L'',Y,u,O u.sub.nd⟩
theorem GA(M:SH){o:Option Nat}{i n by_ j:Nat}{R:SH}{rows m:List (List AV)}{k:Nat}(B:rows.length=i)(O:o=none->rows=[])(G:k=m.length)(Y:0<m.length)(h2:2*(i+m.length)*by_<=2^48)(E:2*(i+m.length)<=2^62)(h4:(m.all λr=>r.all AV.one)=true)
  (h:∀b,(∀p∈M,b≠p.1)->KL (.sl b 0 (i+m.length)) ((b,⟨n,rows++m⟩)::(j,⟨n,m⟩)::(M++R))):W.append n by_ (ai o i) (.sl j 0 k) ((j,⟨n,m⟩)::(M++(ab o n rows++R))) KL:=by
 subst G;cases o with
 |none=>
  have u:=O rfl;subst u;simp only[WT]at B;subst B;have:=EC (KL:=KL) (L:=(j,⟨n,m⟩)::(M++R)) (by_:=by_) (lq (.head _) rfl rfl) (by simpa using h2) (by simpa using E) h4 (by show m.length≠0;omega) (λb D=>by
   have:=h b λp hp e=>D (by rw[e];exact Xs (XN _ (XK _ hp)))
   simpa using this)
  exact this
 |some b=>subst B;exact lm (y:=⟨n,rows⟩) (l:=rows) (by simp[ab]) rfl YF YF (lq (.head _) rfl rfl) h2 E h4 (.there _ (fQ.app (.here R) M)) (λS D=>h S λp hp e=>D (by rw[e];exact Xs (XN _ (XK _ hp))))
end
end
section
section
variable {P:Program} {F:TypeId->Option (List TypeId)} {K:AV->Prop} {KL:AV->SH->Prop} {L:SH}
theorem GB{n:Nat}{rows:List (List AV)}{i j:Nat}{r:List AV}{v:AV}(h:K v)(u:rows[i]? =some r:=by first|assumption|rfl)(h2:r[j]? =some v:=by rfl):W.load false n (.pptr rows i j) L K:=Aj u h2 h
theorem MY{α:Type}[Inhabited α]{f:α->List AV}{l:List α}{n:Nat}{i:Int}{j:Nat}{v:AV}(h:K v)(u:inB i l.length=true:=by assumption)(h2:(f (l.getD i.toNat default))[j]? =some v:=by rfl):W.load false n (.pptr (l.map f) i.toNat j) L K:=Aj (co u) h2 h
theorem GC{n b i j:Nat}{x:Blk}{r:List AV}{v:AV}(h:K v)(u:(b,x)∈L:=by repeat constructor)(B:x.rows[i]? =some r:=by first|assumption|rfl)(h2:r[j]? =some v:=by rfl):W.load false n (.ptr b i j) L K:=Ak u B h2 h
theorem zw{n:Nat}{rows:List (List AV)}{i:Nat}{r:List AV}(h:K (.agg r))(j:rows[i]? =some r:=by first|assumption|rfl)(h2:r.length=n:=by rfl):W.load true n (.pptr rows i 0) L K:=Pw j h2 h
theorem Kd{n b i:Nat}{x:Blk}{r:List AV}(h:K (.agg r))(j:(b,x)∈L:=by repeat constructor)(u:x.rows[i]? =some r:=by first|assumption|rfl)(h2:r.length=n:=by rfl):W.load true n (.ptr b i 0) L K:=Px j u h2 h
theorem Q6{t:TypeId}{k:IntKind}{a b:Int}(h:K (.int k (a.tmod b)))(j:b≠0:=by first|assumption|decide|omega|exact of_decide_eq_false YD):W.bin P F .rem t (.int k a) (.int k b) K:=Gw j h
theorem Q7{t:TypeId}{k:IntKind}{a b:Int}(h:K (.int k (k.wrap (a.tdiv b))))(j:b≠0:=by first|assumption|decide|omega|exact of_decide_eq_false YD):W.bin P F .quo t (.int k a) (.int k b) K:=Uy j h
theorem GD{p:Bool}{A B:Prop}(h:A)(hp:p=true:=by first|assumption|rfl):W.cond (.bool p) A B:=ML hp h
theorem GE{p:Bool}{A B:Prop}(h:B)(hp:p=false:=by first|assumption|rfl):W.cond (.bool p) A B:=Gv hp h
theorem uA{n:Nat}{rows:List (List AV)}{k:IntKind}{j:Nat}{r:List AV}(h:K (.pptr rows j 0))(u:rows[j]? =some r:=by first|assumption|rfl)(h2:r.length=n:=by rfl):W.idx n (.lst rows) (.int k (j:Int)) L K:=Py u h2 h
theorem PL{n:Nat}{rows:List (List AV)}{k:IntKind}{i:Int}{r:List AV}(h:K (.pptr rows i.toNat 0))(u:0<=i:=by first|decide|omega)(j:rows[i.toNat]? =some r:=by first|assumption|rfl)(h2:r.length=n:=by rfl):W.idx n (.lst rows) (.int k i) L K:=J3 u j h2 h
theorem PM{α:Type}[Inhabited α]{f:α->List AV}{l:List α}{n:Nat}{k:IntKind}{i:Int}(h:K (.pptr (l.map f) i.toNat 0))(j:inB i l.length=true:=by assumption)(h2:(f (l.getD i.toNat default)).length=n:=by rfl):W.idx n (.lst (l.map f)) (.int k i) L K:=J3 (cT j) (co j) h2 h
theorem eQ{n b m:Nat}{k:IntKind}{i:Nat}{y:Blk}(h:K (.ptr b i 0))(u:i<m:=by first|assumption|omega)(j:(b,y)∈L:=by repeat constructor)(h2:y.size=n:=by rfl):W.idx n (.sl b 0 m) (.int k (i:Int)) L K:=MS u j h2 h
theorem PN{n b j m:Nat}{k:IntKind}{i:Int}{y:Blk}(h:K (.ptr b (j+i.toNat) 0))(D:0<=i:=by first|decide|omega)(B:i.toNat<m:=by first|assumption|omega)(u:(b,y)∈L:=by repeat constructor)(h2:y.size=n:=by rfl):W.idx n (.sl b j m) (.int k i) L K:=Ew D B u h2 h
theorem UG{i:Nat}{vs:List AV}{v:AV}(h:K v)(j:vs[i]? =some v:=by rfl):W.ext i (.tup vs) K:=UC j h
theorem MZ{p:Bool}{x y:AV}(h:K x)(hp:p=true:=by first|assumption|rfl):W.pick (.bool p) x y K:=ME hp h
theorem M3{p:Bool}{x y:AV}(h:K y)(hp:p=false:=by first|assumption|rfl):W.pick (.bool p) x y K:=MF hp h
theorem EG{p j:Bool}{A:(AV->SH->Prop)->Prop}(h:A KL)(hp:p=j:=by first|assumption|rfl):W.grd (.bool p) j A L KL:=Pu hp h
theorem EH{p j:Bool}{A:(AV->SH->Prop)->Prop}(h:KL ca L)(hp:p=!j:=by first|assumption|rfl):W.grd (.bool p) j A L KL:=Pv hp h
theorem M4{u:AV->SH->W.Fp->Prop}{p j:Bool}{A:(AV->SH->W.Fp->Prop)->Prop}(h:A u)(hp:p=j:=by first|assumption|rfl):W.dgrd (.bool p) j A L u:=MG hp h
theorem M5{u:AV->SH->W.Fp->Prop}{p j:Bool}{A:(AV->SH->W.Fp->Prop)->Prop}(h:u ca L ⟨[],[],[],L.names⟩)(hp:p=!j:=by first|assumption|rfl):W.dgrd (.bool p) j A L u:=MH hp h
theorem PO{b i j:Nat}{x:Blk}{u:SH}(h:KL (.pptr x.rows i j) u)(D:fQ b x L u:=by repeat constructor)(h2:0<x.size:=by first|exact Yv _|decide|simp)(B:0<x.rows.length:=by first|exact Yv _|decide|simp):W.frz1 (.ptr b i j) L KL:=EA D h2 B h
theorem GF{u:SH->Prop}{n b:Nat}{v:AV}{m:Nat}{r cs:List AV}{j:SH}(h:u j)(B:zt b ⟨m,[r]⟩ ⟨m,[cs]⟩ L j:=by repeat constructor)(h2:v.cells? =some cs:=by rfl)(E:cs.length=n:=by rfl)(h4:cs.all AV.one=true:=by rfl)(D:r.length=n:=by rfl):W.store n (.ptr b 0 0) v L u:=bI B h2 E h4 D h
theorem xS{B:SH->Prop}{b i j:Nat}{v:AV}{x:Blk}{r:List AV}{u:SH}(h:B u)(D:zt b x ⟨x.size,x.rows.set i (r.set j v)⟩ L u:=by repeat constructor)(G:x.rows[i]? =some r:=by first|assumption|rfl)(h2:v.cells? =some [v]:=by rfl)(h4:v.one=true:=by rfl)(E:j<r.length:=by first|decide|exact Nat.lt_of_sub_pos (Yv _)|simp|omega):W.store 1 (.ptr b i j) v L B:=xR D G h2 h4 E rfl h
theorem GG{u:SH->Prop}{n b i:Nat}{v:AV}{x:Blk}{r cs:List AV}{j:SH}(h:u j)(B:zt b x ⟨x.size,x.rows.set i cs⟩ L j:=by repeat constructor)(G:x.rows[i]? =some r:=by first|assumption|rfl)(h2:v.cells? =some cs:=by rfl)(E:cs.length=n:=by rfl)(h4:cs.all AV.one=true:=by rfl)(D:r.length=n:=by rfl):W.store n (.ptr b i 0) v L u:=Gx B G h2 E h4 D rfl h
theorem M6{len n:Nat}{rows:List (List AV)}{j u:Nat}{k:IntKind}{i:Int}(h:K (.pptr rows j (u+i.toNat*n)))(D:0<=i:=by first|decide|omega|exact Yq _)(B:i.toNat<len:=by first|decide|omega):W.idxP len n (.pptr rows j u) (.int k i) K:=Al D B h
theorem GH{n by_:Nat}{z:List AV}{k u:IntKind}{i j:Nat}(h:∀b,b∉L.names->KL (.sl b 0 i) ((b,⟨n,List.replicate i z⟩)::L))(D:i<=j:=by omega)(h2:j<=2^62:=by omega)(B:j*by_<=2^48:=by omega):W.mslice n by_ z (.int k (i:Int)) (.int u (j:Int)) L KL:=fY D h2 B h
theorem GI{n:Nat}{z:List AV}{len:Nat}{ps:List (Nat×AV)}{rows:List (List AV)}(h:∀b,b∉L.names->KL (.sl b 0 len) ((b,⟨n,rows⟩)::L))(j:len*n<=2^24:=by decide)(h2:fw n (List.replicate len z) ps=some rows:=by rfl):W.bslice n z len ps L KL:=MT j h2 h
theorem Q8{x:AV}{cs:List AV}(h:∀b,b∉L.names->KL (.ptr b 0 0) ((b,⟨cs.length,[cs]⟩)::L))(j:x.cells? =some cs:=by rfl)(h2:cs.all AV.one=true:=by rfl):W.box x L KL:=An j h2 h
theorem PP{z:List AV}{ps:List (Nat×Nat×AV)}{cs:List AV}(h:K (.agg cs))(j:W0.fillR z ps=some cs:=by rfl):W.build z ps K:=Pz j h
end
end
abbrev AV.YJ(x:Int):AV:=.int .i64 x
abbrev R:=AV->SH->Prop
abbrev Vs:=List AV
abbrev Kn:=W.Kn
abbrev Fp:=W.Fp
abbrev Ns:=List Nat
def rz:Fp:=⟨[],[],[],[]⟩
def rm(i:Nat)(r:Fp):W.WR:=⟨i,r.reads,r.writes,r.made,false,r.old⟩
def rc(i:Nat)(r:Fp):W.WR:=⟨i,r.reads,r.writes,r.made,true,r.old⟩
@[irreducible] def wl (x:AV) (L:SH) (K:AV->Prop):Prop:=W.load false 1 x L K
@[irreducible] def Sc (n:Nat) (x:AV) (L:SH) (K:AV->Prop):Prop:=W.load true n x L K
@[irreducible] def K9 (o:Nat) (x:AV) (L:SH) (K:AV->Prop):Prop:=W.faddr o x λa=>wl a L K
@[irreducible] def La (o:Nat) (x:AV) (L:SH) (K:AV->Prop):Prop:=W.nilchk x λa=>K9 o a L K
@[irreducible] def T1 (n:Nat) (x i:AV) (L:SH) (K:AV->Prop):Prop:=W.idx n x i L λa=>wl a L K
@[irreducible] def T2 (n:Nat) (x i:AV) (L:SH) (K:AV->Prop):Prop:=W.idx n x i L λa=>Sc n a L K
@[irreducible] def Lb (n o:Nat) (x i:AV) (L:SH) (K:AV->Prop):Prop:=W.idx n x i L λa=>K9 o a L K
@[irreducible] def wb (op:BinOp) (t:TypeId) (x y:AV) (K:AV->Prop):Prop:=W.bin Tryz.prog Fl op t x y K
@[irreducible] def wk (x:AV) (A B:Prop):Prop:=W.cond x A B
@[irreducible] def wg (x:AV) (w:Bool) (A:(AV->Prop)->Prop) (L:SH) (K:R):Prop:=W.grd x w (λk=>A λv=>k v L) L K
@[irreducible] def V8 (x:AV) (w:Bool) (y:AV) (L:SH) (K:R):Prop:=W.grd x w (λk=>k y L) L K
@[irreducible] def wc (f:AV) (args:List AV) (L:SH) (K:R):Prop:=W.call Tryz.prog f args L K
@[irreducible] def wd (us:List W.WR) (i:Nat) (f:AV) (args:List AV) (L:SH) (K:AV->SH->Ns->Prop):Prop:=W.dcall Tryz.prog us i f args L K
@[irreducible] def wn (a b c d:Ns) (K:Fp->Prop):Prop:=W.note ⟨a,b,c,d⟩ K
@[irreducible] def dl (us:List W.WR) (i:Nat) (x:AV) (L:SH) (K:AV->Fp->Prop):Prop:=W.calm us ⟨i,am x,[],[],false,[]⟩ (wl x L λv=>W.note ⟨am x,[],[],[]⟩ λr=>K v r)
@[irreducible] def dr (us:List W.WR) (i n:Nat) (x:AV) (L:SH) (K:AV->Fp->Prop):Prop:=W.calm us ⟨i,am x,[],[],false,[]⟩ (Sc n x L λv=>W.note ⟨am x,[],[],[]⟩ λr=>K v r)
@[irreducible] def T3 (o:Nat) (x:AV) (us:List W.WR) (i:Nat) (L:SH) (K:AV->Fp->Prop):Prop:=W.faddr o x λa=>dl us i a L K
@[irreducible] def di (us:List W.WR) (i n:Nat) (x ix:AV) (L:SH) (K:AV->Fp->Prop):Prop:=W.calm us ⟨i,gE x,[],[],false,[]⟩ (W.idx n x ix L λv=>W.note ⟨gE x,[],[],[]⟩ λr=>K v r)
@[irreducible] def ds (us:List W.WR) (i n:Nat) (x y:AV) (L:SH) (K:SH->Fp->Prop):Prop:=W.calm us ⟨i,am x,am x,[],false,[]⟩ (W.store n x y L λL=>W.note ⟨am x,am x,[],[]⟩ λr=>K L r)
@[irreducible] def V9 (z:List AV) (n:Nat) (y:AV) (L:SH) (K:R):Prop:=W.alloc z L λx L1=>W.store n x y L1 λL2=>W.frz1 x L2 K
@[irreducible] def Wa (y:AV) (L:SH) (K:R):Prop:=W.box y L λx L1=>W.frz1 x L1 K
def Sd{x:AV}{L:SH}{K:AV->Prop}(j:W.load false 1 x L K):wl x L K:=by unfold wl;exact j
def M7{n:Nat}{x:AV}{L:SH}{K:AV->Prop}(j:W.load true n x L K):Sc n x L K:=by unfold Sc;exact j
def M8{o:Nat}{x:AV}{L:SH}{K:AV->Prop}(j:W.faddr o x λa=>wl a L K):K9 o x L K:=by unfold K9;exact j
def M9{o:Nat}{x:AV}{L:SH}{K:AV->Prop}(j:W.nilchk x λa=>K9 o a L K):La o x L K:=by unfold La;exact j
def DF{n:Nat}{x i:AV}{L:SH}{K:AV->Prop}(j:W.idx n x i L λa=>wl a L K):T1 n x i L K:=by unfold T1;exact j
def Q9{n:Nat}{x i:AV}{L:SH}{K:AV->Prop}(j:W.idx n x i L λa=>Sc n a L K):T2 n x i L K:=by unfold T2;exact j
def Na{n o:Nat}{x i:AV}{L:SH}{K:AV->Prop}(j:W.idx n x i L λa=>K9 o a L K):Lb n o x i L K:=by unfold Lb;exact j
def ep{op:BinOp}{t:TypeId}{x y:AV}{K:AV->Prop}(j:W.bin Tryz.prog Fl op t x y K):wb op t x y K:=by unfold wb;exact j
def Se{x:AV}{A B:Prop}(j:W.cond x A B):wk x A B:=by unfold wk;exact j
def UH{x:AV}{w:Bool}{A:(AV->Prop)->Prop}{L:SH}{K:R}(j:W.grd x w (λk=>A λv=>k v L) L K):wg x w A L K:=by unfold wg;exact j
def Ra{x:AV}{w:Bool}{y:AV}{L:SH}{K:R}(j:W.grd x w (λk=>k y L) L K):V8 x w y L K:=by unfold V8;exact j
def pD{f:AV}{args:List AV}{L:SH}{K:R}(j:W.call Tryz.prog f args L K):wc f args L K:=by unfold wc;exact j
def Wb{us:List W.WR}{i:Nat}{f:AV}{args:List AV}{L:SH}{K:AV->SH->Ns->Prop}(j:W.dcall Tryz.prog us i f args L K):wd us i f args L K:=by unfold wd;exact j
def Wc{a b c d:Ns}{K:Fp->Prop}(j:W.note ⟨a,b,c,d⟩ K):wn a b c d K:=by unfold wn;exact j
def UI{us:List W.WR}{i:Nat}{x:AV}{L:SH}{K:AV->Fp->Prop}(j:W.calm us ⟨i,am x,[],[],false,[]⟩ (wl x L λv=>W.note ⟨am x,[],[],[]⟩ λr=>K v r)):dl us i x L K:=by unfold dl;exact j
def UJ{us:List W.WR}{i n:Nat}{x:AV}{L:SH}{K:AV->Fp->Prop}(j:W.calm us ⟨i,am x,[],[],false,[]⟩ (Sc n x L λv=>W.note ⟨am x,[],[],[]⟩ λr=>K v r)):dr us i n x L K:=by unfold dr;exact j
def Rb{o:Nat}{x:AV}{us:List W.WR}{i:Nat}{L:SH}{K:AV->Fp->Prop}(j:W.faddr o x λa=>dl us i a L K):T3 o x us i L K:=by unfold T3;exact j
def Sf{us:List W.WR}{i n:Nat}{x j:AV}{L:SH}{K:AV->Fp->Prop}(u:W.calm us ⟨i,gE x,[],[],false,[]⟩ (W.idx n x j L λv=>W.note ⟨gE x,[],[],[]⟩ λr=>K v r)):di us i n x j L K:=by unfold di;exact u
def UK{us:List W.WR}{i n:Nat}{x y:AV}{L:SH}{K:SH->Fp->Prop}(j:W.calm us ⟨i,am x,am x,[],false,[]⟩ (W.store n x y L λL=>W.note ⟨am x,am x,[],[]⟩ λr=>K L r)):ds us i n x y L K:=by unfold ds;exact j
def PQ{rows:List (List AV)}{i j:Nat}{r:List AV}{v:AV}{L:SH}{K:AV->Prop}(k:K v)(u:rows[i]? =some r:=by first|assumption|rfl)(h2:r[j]? =some v:=by rfl):wl (.pptr rows i j) L K:=Sd (GB k u h2)
def UL{b i j:Nat}{x:Blk}{r:List AV}{v:AV}{L:SH}{K:AV->Prop}(k:K v)(u:(b,x)∈L:=by repeat constructor)(B:x.rows[i]? =some r:=by first|assumption|rfl)(h2:r[j]? =some v:=by rfl):wl (.ptr b i j) L K:=Sd (GC k u B h2)
def Rc{o:Nat}{rows:List (List AV)}{i j:Nat}{r:List AV}{v:AV}{L:SH}{K:AV->Prop}(k:K v)(u:rows[i]? =some r:=by first|assumption|rfl)(h2:r[j+o]? =some v:=by rfl):K9 o (.pptr rows i j) L K:=M8 (wj (PQ k u h2))
def Rd{o b i j:Nat}{x:Blk}{r:List AV}{v:AV}{L:SH}{K:AV->Prop}(k:K v)(u:(b,x)∈L:=by repeat constructor)(B:x.rows[i]? =some r:=by first|assumption|rfl)(h2:r[j+o]? =some v:=by rfl):K9 o (.ptr b i j) L K:=M8 (wi (UL k u B h2))
def Sg{o b i j:Nat}{x:Blk}{r:List AV}{v:AV}{L:SH}{K:AV->Prop}(k:K v)(u:(b,x)∈L:=by repeat constructor)(B:x.rows[i]? =some r:=by first|assumption|rfl)(h2:r[j+o]? =some v:=by rfl):La o (.ptr b i j) L K:=M9 (J4 (Rd k u B h2))
def UM{n:Nat}{rows:List (List AV)}{B:IntKind}{j:Nat}{r:List AV}{v:AV}{L:SH}{K:AV->Prop}(k:K v)(u:rows[j]? =some r:=by first|assumption|rfl)(h2:r.length=n:=by rfl)(D:r[0]? =some v:=by rfl):T1 n (.lst rows) (.int B (j:Int)) L K:=DF (uA (PQ k u D) u h2)
def UN{n:Nat}{rows:List (List AV)}{B:IntKind}{j:Nat}{r:List AV}{L:SH}{K:AV->Prop}(k:K (.agg r))(u:rows[j]? =some r:=by first|assumption|rfl)(h2:r.length=n:=by rfl):T2 n (.lst rows) (.int B (j:Int)) L K:=Q9 (uA (M7 (zw k u h2)) u h2)
def Sh{n o:Nat}{rows:List (List AV)}{B:IntKind}{j:Nat}{r:List AV}{v:AV}{L:SH}{K:AV->Prop}(k:K v)(u:rows[j]? =some r:=by first|assumption|rfl)(h2:r.length=n:=by rfl)(D:r[0+o]? =some v:=by rfl):Lb n o (.lst rows) (.int B (j:Int)) L K:=Na (uA (Rc k u D) u h2)
def Aq{us:List W.WR}{i:Nat}{A:Prop}(k:A):W.calm us ⟨i,[],[],[],false,[]⟩ A:=EB (λx _=>by simp[W.free]) k
def UO{us:List W.WR}{j:Nat}{rows:List (List AV)}{i u:Nat}{r:List AV}{v:AV}{L:SH}{K:AV->Fp->Prop}(k:K v rz)(B:rows[i]? =some r:=by first|assumption|rfl)(h2:r[u]? =some v:=by rfl):dl us j (.pptr rows i u) L K:=UI (Aq (PQ (tg k) B h2))
def Wd{us:List W.WR}{j n:Nat}{rows:List (List AV)}{i:Nat}{r:List AV}{L:SH}{K:AV->Fp->Prop}(k:K (.agg r) rz)(u:rows[i]? =some r:=by first|assumption|rfl)(h2:r.length=n:=by rfl):dr us j n (.pptr rows i 0) L K:=UJ (Aq (M7 (zw (tg k) u h2)))
def UP{us:List W.WR}{j o:Nat}{rows:List (List AV)}{i u:Nat}{r:List AV}{v:AV}{L:SH}{K:AV->Fp->Prop}(k:K v rz)(B:rows[i]? =some r:=by first|assumption|rfl)(h2:r[u+o]? =some v:=by rfl):T3 o (.pptr rows i u) us j L K:=Rb (wj (UO k B h2))
def We{us:List W.WR}{m n:Nat}{rows:List (List AV)}{u:IntKind}{j:Nat}{r:List AV}{L:SH}{K:AV->Fp->Prop}(k:K (.pptr rows j 0) rz)(B:rows[j]? =some r:=by first|assumption|rfl)(h2:r.length=n:=by rfl):di us m n (.lst rows) (.int u (j:Int)) L K:=Sf (Aq (uA (tg k) B h2))
def Si{z cs:List AV}{n:Nat}{L:SH}{K:R}(k:K (.pptr [cs] 0 0) L)(u:cs.length=n:=by rfl)(h2:z.length=n:=by rfl)(j:cs.all AV.one=true:=by rfl)(h4:0<n:=by decide):V9 z n (.agg cs) L K:=by
 unfold V9;refine Ey λb B=>?_
 refine bI (.here _) rfl u j h2 ?_;exact EA (.here _) (by show 0<z.length;omega) (Yv _) k
def Ar{y:AV}{cs:List AV}{L:SH}{K:R}(k:K (.pptr [cs] 0 0) L)(u:y.cells? =some cs:=by rfl)(h2:cs.all AV.one=true:=by rfl)(j:0<cs.length:=by exact Yv _):Wa y L K:=by unfold Wa;exact An u h2 λb B=>EA (.here _) j (Yv _) k
def GJ{n:Nat}{rows:List (List AV)}{i j:Nat}{r cs:List AV}{L:SH}{K:AV->Prop}(k:K (.agg cs))(B:rows[i]? =some r:=by first|assumption|rfl)(u:(r.drop j).take n=cs:=by rfl)(h2:j+n<=r.length:=by exact Nat.le_of_ble_eq_true rfl):W.load true n (.pptr rows i j) L K:=MQ B h2 u k
def GK{n b i j:Nat}{x:Blk}{r cs:List AV}{L:SH}{K:AV->Prop}(k:K (.agg cs))(u:(b,x)∈L:=by repeat constructor)(D:x.rows[i]? =some r:=by first|assumption|rfl)(B:(r.drop j).take n=cs:=by rfl)(h2:j+n<=r.length:=by exact Nat.le_of_ble_eq_true rfl):W.load true n (.ptr b i j) L K:=MR u D h2 B k
def dw{P:Program}{F:TypeId->Option (List TypeId)}{t:TypeId}{j:IntKind}{a b c:Int}{K:AV->Prop}(k:K (.int j c))(e:j.wrap (a+b)=c:=by assumption):W.bin P F .add t (.int j a) (.int j b) K:=MO (by rw[e];exact k)
def j9{P:Program}{F:TypeId->Option (List TypeId)}{t:TypeId}{j:IntKind}{a b c:Int}{K:AV->Prop}(k:K (.int j c))(e:j.wrap (a-b)=c:=by assumption):W.bin P F .sub t (.int j a) (.int j b) K:=MP (by rw[e];exact k)
def Re{a b:Bool}{K:AV->Prop}(k:K (.bool (decide (a=b)))):W.bin Tryz.prog Fl .eql 4 (.bool a) (.bool b) K:=by rw[Uw _ (show Tryz.prog.underlying 4=some .bool by kernel_rfl)];cases a<;>cases b<;>exact k
def Rf{a b:Bool}{K:AV->Prop}(k:K (.bool (decide (a≠b)))):W.bin Tryz.prog Fl .neq 4 (.bool a) (.bool b) K:=by rw[Ux _ (show Tryz.prog.underlying 4=some .bool by kernel_rfl)];cases a<;>cases b<;>exact k
def EI{us:List W.WR}{y:W.WR}{A:Prop}(h:A)(j:∀x∈us,W.free x y:=by(simp only[rm,rc,rz,W.free,c8,↓reduceIte,Nat.reduceEqDiff,am,gE,Yl,Xk,Xv,not_false_eq_true,implies_true,and_true,true_and,and_self,W7,reduceCtorEq,forall_const,false_implies,WP,forall_eq,Xr,XM,WX,or_false,false_or,forall_eq_or_imp,not_or])<;>(repeat' constructor)<;>first|assumption|(exact Ne.symm YD)|(intro u;subst u;simp[SH.names]at *;done)):W.calm us y A:=EB j h
def nM{g:FuncId}{args:List AV}{L:SH}{i:Nat}{u:R}{B:AV->SH->List Nat->Prop}(h:ac Tryz.prog g args L u)(E:∀v j,u v j->B v j L.names):W.dcallM Tryz.prog [] i g args L B:=
 ⟨L,[],YF,nofun,h.mono λv j D=>by simpa using E v j D⟩
def dK{g:FuncId}{args:List AV}{L:SH}{j KL:R}(h:ac Tryz.prog g args L j)(B:∀v u,j v u->KL v u):W.callM Tryz.prog g args L KL:=Ka (h.mono B)
def Wf(ht:J1){f:FuncId}{j:Func}{args:List AV}{L:SH}{Q:R}{p:Prop}(u:Tryz.prog.funcs[f]? =some j)(D:j.body=some (j.body.getD .skip))(B:W.func Tryz.prog Fl ht j (j.body.getD .skip) args L Q=p)(h:p):ac Tryz.prog f args L Q:=
 IG (ht:=ht) fit u D (Eq.mpr B h)
structure PG(g:FuncId)(args:List AV)(K:AV->Prop):Prop where
 h:∃v,ao Tryz.prog g args v/\K v
def pm{g:FuncId}{args:List AV}{K:AV->Prop}{v:AV}(h:ao Tryz.prog g args v)(k:K v):PG g args K:=⟨v,h,k⟩
def UQ{g:FuncId}{args:List AV}{L:SH}{KL:R}(h:PG g args λv=>KL v L):W.callM Tryz.prog g args L KL:=h.h.elim λ_ x=>R6 x.1 x.2
def UR{L:SH}{j:AV->SH->List Nat->Prop}{us:List W.WR}{i:Nat}{g:FuncId}{args:List AV}(h:PG g args λv=>j v L [])(u:∀x∈us,W.free x ⟨i,[],[],[],true,[]⟩:=by(simp only[rm,rc,rz,W.free,c8,↓reduceIte,Nat.reduceEqDiff,am,gE,Yl,Xk,Xv,not_false_eq_true,implies_true,and_true,true_and,and_self,W7,reduceCtorEq,forall_const,false_implies,WP,forall_eq,Xr,XM,WX,or_false,false_or,forall_eq_or_imp,not_or])<;>(repeat' constructor)<;>first|assumption|(exact Ne.symm YD)|(intro B;subst B;simp[SH.names]at *;done)):W.dcallM Tryz.prog us i g args L j:=h.h.elim λ_ x=>PF x.1 u x.2
def pf(g:FuncId){args:List AV}{K:AV->Prop}{G:Prop}(k:PG g args K)(h:PG g args K->G:=by intro k;first|with_reducible exact UQ k|with_reducible exact UR k|fail):G:=h k
section
inductive X where
 |s (i:Nat)
 |g (i:Nat)
 |v (a:AV)
 |t (l:List Nat)
inductive RO where
 |pick (c x y:X)
 |alloc (z:List AV)
 |box (x:X)
 |build (z:List AV) (ps:List (Nat×Nat×X))
 |bslice (n:Nat) (z:List AV) (len:Nat) (ps:List (Nat×X))
 |l (x:X)
 |load (n:Nat) (x:X)
 |ro (n:Nat) (x:X)
 |store (n:Nat) (x y:X)
 |nilchk (x:X)
 |bin (op:BinOp) (t:TypeId) (x y:X)
 |un (op:UnOp) (x:X)
 |conv (k:IntKind) (x:X)
 |convS (x:X)
 |fn (f:FuncId) (l:List X)
 |mslice (n b:Nat) (z:List AV) (l c:X)
 |slice (n:Nat) (x:X) (lo hi mx:Option X)
 |sliceS (x:X) (lo hi:Option X)
 |faddr (o:Nat) (x:X)
 |fld (ag:Bool) (n o:Nat) (x:X)
 |idx (n:Nat) (x i:X)
 |idxP (len n:Nat) (x i:X)
 |ixS (x i:X)
 |ixA (ag:Bool) (len n:Nat) (x i:X)
 |ext (i:Nat) (x:X)
 |len (x:X)
 |lenS (x:X)
 |app (n b:Nat) (s x:X)
 |clr (n:Nat) (z:List AV) (x:X)
 |mnx (m:Bool) (x y:X)
 |mkmap
 |look (z:AV) (ok:Bool) (m k:X)
 |mup (m k v:X)
 |rngS (x:X)
 |nxt (x:X)
 |call (f:X) (l:List X)
 |fl (o:Nat) (x:X)
 |nfl (o:Nat) (x:X)
 |il (n:Nat) (x i:X)
 |ir (n:Nat) (x i:X)
 |ifl (n o:Nat) (x i:X)
 |cp (z:List AV) (n:Nat) (x:X)
 |bx (x:X)
 |bad
inductive N3 where
 |a
 |b
 |c
inductive RT where
 |op (o:RO) (p:N3) (k:RT)
 |go (g:X) (w:Bool) (o:RO) (k:RT)
 |gh (g:X) (w:Bool) (o:RO) (k:RT)
 |gm (g:X) (w:Bool) (x:X) (k:RT)
 |dop (us:List Nat) (i:Nat) (o:RO) (p:N3) (k:RT)
 |dg (us:List Nat) (i:Nat) (g:X) (w:Bool) (o:RO) (k:RT)
 |dm (i:Nat) (g:X) (w:Bool) (x:X) (k:RT)
 |tt (k:RT)
 |clr (k:RT)
 |keep (l:List Nat) (k:RT)
 |frz (x:X) (k:RT)
 |cnd (x:X) (a b:RT)
 |join (p:Nat) (q:Bool) (ls:List Nat) (k:RT)
 |loop (p:Nat) (q:Bool) (ls:List Nat) (vs:List X)
 |jmp (lab:Nat) (vs:List X)
 |cut (p:Nat) (q:Bool) (ls:List Nat) (vs:List X)
 |ret (vs:List X)
 |bad
structure Rg where
 key:Nat
 live:List Nat
 mis:List Nat
 labs:List Nat
 tree:RT
structure Hp where
 live:List Nat
 labs:List Nat:=[]
 q:Bool:=true
 mis:List Nat:=[]
structure RF where
 hs:List (Nat×Hp)
 fz:List (Nat×List Nat)
 ps:List Rg
namespace Cm
def xlev:X->List Nat
 |.s i=>[i]
 |_=>[]
def xs(l:List X):List Nat:=l.flatMap xlev
def ox:Option X->List Nat
 |some x=>xlev x
 |none=>[]
def rlev:RO->List Nat
 |.pick c x y=>xs [c,x,y]
 |.box x|.l x|.load _ x|.ro _ x|.nilchk x|.un _ x|.conv _ x|.convS x|.faddr _ x|.fld _ _ _ x|.ext _ x|.len x|.lenS x|.clr _ _ x|.fl _ x|.nfl _ x|.cp _ _ x|.bx x=>xlev x
 |.build _ ps=>xs (ps.map (·.2.2))
 |.bslice _ _ _ ps=>xs (ps.map (·.2))
 |.store _ x y|.bin _ _ x y|.mslice _ _ _ x y|.idx _ x y|.idxP _ _ x y|.ixS x y|.ixA _ _ _ x y|.app _ _ x y|.mnx _ x y|.il _ x y|.ir _ x y|.ifl _ _ x y=>xs [x,y]
 |.fn _ l=>xs l
 |.look _ _ x y=>xs [x,y]
 |.mup x y z=>xs [x,y,z]
 |.rngS x|.nxt x=>xlev x
 |.slice _ x a b c=>xlev x++ox a++ox b++ox c
 |.sliceS x a b=>xlev x++ox a++ox b
 |.call f l=>xs (f::l)
 |_=>[]
def hp:RO->Bool
 |.alloc _|.box _|.bslice ..|.mslice ..|.store ..|.app ..|.clr ..|.call ..|.fn ..|.mkmap|.mup ..|.rngS _|.nxt _=>true
 |_=>false
def has(n:Nat)(l:List Nat):Bool:=l.any (·==n)
def reads(n:Nat):RT->Bool
 |.op o _ k=>has n (rlev o)||reads n k
 |.go g _ o k|.gh g _ o k=>has n (xlev g++rlev o)||reads n k
 |.gm g _ x k=>has n (xs [g,x])||reads n k
 |.dop _ _ o _ k=>has n (rlev o)||reads n k
 |.dg _ _ g _ o k=>has n (xlev g++rlev o)||reads n k
 |.dm _ g _ x k=>has n (xs [g,x])||reads n k
 |.tt k|.clr k|.keep _ k=>reads n k
 |.frz x k=>has n (xlev x)||reads n k
 |.cnd x a b=>has n (xlev x)||(reads n a||reads n b)
 |.join _ _ _ k=>reads n k
 |.loop _ _ _ vs|.jmp _ vs|.cut _ _ _ vs|.ret vs=>has n (xs vs)
 |.bad=>false
def n3:N3->Nat
 |.a=>1
 |.b=>2
 |.c=>3
def up:N3->N3
 |.a=>.b
 |_=>.c
def peep(n:Nat):RT->RT
 |.op o p k=>
  let k:=peep (n+n3 p) k
  match o,k with
  |.faddr f x,.op (.l (.s y)) _ k2=>bif y==n&&!reads y k2 then .op (.fl f x) .b k2 else .op o p k
  |.faddr f x,.dop us i (.l (.s y)) _ k2=>bif y==n&&!reads y k2 then .dop us i (.fl f x) .b k2 else .op o p k
  |.nilchk x,.op (.fl f (.s y)) q k2=>bif y==n&&!reads y k2 then .op (.nfl f x) (up q) k2 else .op o p k
  |.idx m x i,.op (.l (.s y)) _ k2=>bif y==n&&!reads y k2 then .op (.il m x i) .b k2 else .op o p k
  |.idx m x i,.op (.ro m2 (.s y)) _ k2=>bif y==n&&m==m2&&!reads y k2 then .op (.ir m x i) .b k2 else .op o p k
  |.idx m x i,.op (.fl f (.s y)) q k2=>bif y==n&&!reads y k2 then .op (.ifl m f x i) (up q) k2 else .op o p k
  |.alloc z,.op (.store m (.s y) x) _ (.frz (.s y2) k2)=>bif y==n&&y2==n&&!has n (xlev x)&&!reads y k2 then .op (.cp z m x) .c k2 else .op o p k
  |.box x,.frz (.s y) k2=>bif y==n&&!reads y k2 then .op (.bx x) .b k2 else .op o p k
  |_,_=>.op o p k
 |.go g w o k=>.go g w o (peep (n+1) k)
 |.gh g w o k=>.gh g w o (peep (n+1) k)
 |.gm g w x k=>.gm g w x (peep (n+1) k)
 |.dop us i o p k=>
  let k:=peep (n+n3 p) k
  match o,k with
  |.faddr f x,.dop us i (.l (.s y)) _ k2=>bif y==n&&!reads y k2 then .dop us i (.fl f x) .b k2 else .dop us i o p k
  |_,_=>.dop us i o p k
 |.dg us i g w o k=>.dg us i g w o (peep (n+1) k)
 |.dm i g w x k=>.dm i g w x (peep (n+1) k)
 |.tt k=>.tt (peep n k)
 |.clr k=>.clr (peep n k)
 |.frz x k=>.frz x (peep (n+1) k)
 |.cnd x a b=>.cnd x (peep n a) (peep n b)
 |.join p q ls k=>.join p q ls (peep n k)
 |t=>t
def idx(i:Nat):List Nat->Nat
 |[]=>0
 |a::l=>bif a==i then 0 else idx i l+1
def rx(n:List Nat):X->X
 |.s i=>.s (idx i n)
 |x=>x
def rxs(n:List Nat)(l:List X):List X:=l.map (rx n)
def rro(n:List Nat):RO->RO
 |.pick c x y=>.pick (rx n c) (rx n x) (rx n y)
 |.box x=>.box (rx n x)
 |.build z ps=>.build z (ps.map λp=>(p.1,p.2.1,rx n p.2.2))
 |.bslice m z len ps=>.bslice m z len (ps.map λp=>(p.1,rx n p.2))
 |.l x=>.l (rx n x)
 |.load m x=>.load m (rx n x)
 |.ro m x=>.ro m (rx n x)
 |.store m x y=>.store m (rx n x) (rx n y)
 |.nilchk x=>.nilchk (rx n x)
 |.bin o t x y=>.bin o t (rx n x) (rx n y)
 |.un o x=>.un o (rx n x)
 |.conv k x=>.conv k (rx n x)
 |.convS x=>.convS (rx n x)
 |.fn f l=>.fn f (rxs n l)
 |.mslice m b z l c=>.mslice m b z (rx n l) (rx n c)
 |.slice m x a b c=>.slice m (rx n x) (a.map (rx n)) (b.map (rx n)) (c.map (rx n))
 |.sliceS x a b=>.sliceS (rx n x) (a.map (rx n)) (b.map (rx n))
 |.faddr o x=>.faddr o (rx n x)
 |.fld a m o x=>.fld a m o (rx n x)
 |.idx m x i=>.idx m (rx n x) (rx n i)
 |.idxP l m x i=>.idxP l m (rx n x) (rx n i)
 |.ixS x i=>.ixS (rx n x) (rx n i)
 |.ixA a l m x i=>.ixA a l m (rx n x) (rx n i)
 |.ext i x=>.ext i (rx n x)
 |.len x=>.len (rx n x)
 |.lenS x=>.lenS (rx n x)
 |.app m b s x=>.app m b (rx n s) (rx n x)
 |.clr m z x=>.clr m z (rx n x)
 |.mnx m x y=>.mnx m (rx n x) (rx n y)
 |.look z k x y=>.look z k (rx n x) (rx n y)
 |.mup x y z=>.mup (rx n x) (rx n y) (rx n z)
 |.rngS x=>.rngS (rx n x)
 |.nxt x=>.nxt (rx n x)
 |.call f l=>.call (rx n f) (rxs n l)
 |.fl o x=>.fl o (rx n x)
 |.nfl o x=>.nfl o (rx n x)
 |.il m x i=>.il m (rx n x) (rx n i)
 |.ir m x i=>.ir m (rx n x) (rx n i)
 |.ifl m o x i=>.ifl m o (rx n x) (rx n i)
 |.cp z m x=>.cp z m (rx n x)
 |.bx x=>.bx (rx n x)
 |o=>o
def lv:RT->List Nat
 |.op o _ k=>rlev o++lv k
 |.go g _ o k|.gh g _ o k=>xlev g++(rlev o++lv k)
 |.gm g _ x k=>xs [g,x]++lv k
 |.dop _ _ o _ k=>rlev o++lv k
 |.dg _ _ g _ o k=>xlev g++(rlev o++lv k)
 |.dm _ g _ x k=>xs [g,x]++lv k
 |.tt k|.clr k|.keep _ k=>lv k
 |.frz x k=>xlev x++lv k
 |.cnd x a b=>xlev x++(lv a++lv b)
 |.join _ _ _ k=>lv k
 |.loop _ _ _ vs|.jmp _ vs|.cut _ _ _ vs|.ret vs=>xs vs
 |.bad=>[]
def pu(n:Nat)(p:N3)(e:List Nat):List Nat:=match p with
 |.a=>n::e
 |.b=>(n+1)::n::e
 |.c=>(n+2)::(n+1)::n::e
def isCall:RO->Bool
 |.call ..=>true
 |_=>false
def kp(e:List Nat)(k:RT):List Nat:=match k with
 |.cut ..=>e
 |k=>let u:=lv k;e.filter λi=>has i u
def mk(e l:List Nat)(k:RT):RT:=bif l.length==e.length then k else .keep (l.map λi=>idx i e) k
def rel(e:List Nat)(n:Nat):RT->RT
 |.op o p k=>bif isCall o then .op (rro e o) p (mk (pu n p e) (kp (pu n p e) k) (rel (kp (pu n p e) k) (n+n3 p) k))else .op (rro e o) p (rel (pu n p e) (n+n3 p) k)
 |.go g w o k=>.go (rx e g) w (rro e o) (rel (n::e) (n+1) k)
 |.gh g w o k=>.gh (rx e g) w (rro e o) (rel (n::e) (n+1) k)
 |.gm g w x k=>.gm (rx e g) w (rx e x) (rel (n::e) (n+1) k)
 |.dop us i o p k=>bif isCall o then .dop us i (rro e o) p (mk (pu n p e) (kp (pu n p e) k) (rel (kp (pu n p e) k) (n+n3 p) k))else .dop us i (rro e o) p (rel (pu n p e) (n+n3 p) k)
 |.dg us i g w o k=>.dg us i (rx e g) w (rro e o) (rel (n::e) (n+1) k)
 |.dm i g w x k=>.dm i (rx e g) w (rx e x) (rel (n::e) (n+1) k)
 |.tt k=>.tt (rel e n k)
 |.clr k=>.clr (rel e n k)
 |.keep l k=>.keep l (rel e n k)
 |.frz x k=>.frz (rx e x) (rel (n::e) (n+1) k)
 |.cnd x a b=>.cnd (rx e x) (mk e (kp e a) (rel (kp e a) n a)) (mk e (kp e b) (rel (kp e b) n b))
 |.join p q ls k=>.join p q ls (rel e n k)
 |.loop p q ls vs=>.loop p q ls (rxs e vs)
 |.jmp lab vs=>.jmp lab (rxs e vs)
 |.cut p q ls vs=>.cut p q ls (rxs e vs)
 |.ret vs=>.ret (rxs e vs)
 |.bad=>.bad
def down:Nat->List Nat
 |0=>[]
 |n+1=>n::down n
abbrev Sl:=List (Nat×X)
abbrev CT:=Sl->Nat->RT
def lk{α:Type}:List (Nat×α)->Nat->Option α
 |[],_=>none
 |(a,b)::l,k=>bif a==k then some b else lk l k
def sl0(live:List Nat)(n:Nat):Sl:=match live with
 |[]=>[]
 |t::l=>(t,.s n)::sl0 l (n-1)
def slp(live:List Nat):Sl:=sl0 live (live.length-1)++[(1000000,.v .junk)]
def get(sl:Sl)(t:Nat):X:=match lk sl t with
 |some x=>x
 |none=>(lk sl 1000000).getD (.v ca)
section
variable (P:Program) (h:RF)
def opd(sl:Sl):Operand->X
 |.tmp t=>get sl t
 |.const (.string s)=>.t (s.data.toList.map UInt8.toNat)
 |.const v=>.v ((KP v).getD .junk)
 |.global g=>.g g
 |.func f=>.v (.fn f [])
def res(o:Op)(sl:Sl):RO:=
 let a:=opd sl
 match o with
 |.pick c x y=>.pick (a c) (a x) (a y)
 | .alloc t=>match W0.zof P t with
  |some z=>.alloc z
  |none=>.bad
 |.box _ x=>.box (a x)
 | .build t ps=>match P.underlying t,fa P t with
  | some (.struct fs),some (.agg z)=>match ee (ps.toList.map λp=>(kX P fs p.1).map λq=>(q.1,q.2,a p.2))with
   |some l=>.build z l
   |none=>.bad
  | some (.array _ e),some (.agg z)=>match bj P e with
   |some n=>.build z (ps.toList.map λp=>(p.1*n,n,a p.2))
   |none=>.bad
  |_,_=>.bad
 | .buildSlice t len ps=>match P.underlying t with
  | some (.slice e)=>match bj P e,W0.zof P e with
   |some n,some z=>.bslice n z len (ps.toList.map λp=>(p.1,a p.2))
   |_,_=>.bad
  |_=>.bad
 | .load t x=>match ff P t,bj P t with
  |some true,some n=>.ro n (a x)
  |some false,some n=>bif n==1 then .l (a x)else .load n (a x)
  |_,_=>.bad
 | .store t x y=>match bj P t with
  |some n=>.store n (a x) (a y)
  |none=>.bad
 |.nilCheck x=>.nilchk (a x)
 |.binOp o t x y _=>.bin o t (a x) (a y)
 |.unOp o _ x=>.un o (a x)
 | .convert s d x=>match P.underlying s,P.underlying d with
  |some (.int _),some (.int kd)=>.conv kd (a x)
  |some .string,some .string=>.convS (a x)
  |_,_=>.bad
 |.makeFunc (.func f) _ cap=>.fn f (cap.toList.map a)
 | .makeSlice t l c=>match P.underlying t with
  | some (.slice e)=>match bj P e,iN P e,W0.zof P e with
   |some n,some b,some z=>.mslice n b z (a l) (a c)
   |_,_,_=>.bad
  |_=>.bad
 | .slice t x lo hi mx=>match P.underlying t with
  | some (.slice e)=>match bj P e with
   |some n=>.slice n (a x) (lo.map a) (hi.map a) (mx.map a)
   |none=>.bad
  |some .string=>.sliceS (a x) (lo.map a) (hi.map a)
  |_=>.bad
 | .fieldAddr s x f=>match P.underlying s with
  | some (.struct fs)=>match fs[f]? with
   |some f=>.faddr f.offset (a x)
   |none=>.bad
  |_=>.bad
 | .field s x f=>match P.underlying s with
  | some (.struct fs)=>match fs[f]? with
   | some f=>match ff P f.type,bj P f.type with
    |some ag,some n=>.fld ag n f.offset (a x)
    |_,_=>.bad
   |none=>.bad
  |_=>.bad
 | .indexAddr t x i=>match P.underlying t with
  | some (.slice e)=>match bj P e with
   |some n=>.idx n (a x) (a i)
   |none=>.bad
  | some (.array len e)=>match bj P e with
   |some n=>.idxP len n (a x) (a i)
   |none=>.bad
  |_=>.bad
 | .index t x i=>match P.underlying t with
  |some .string=>.ixS (a x) (a i)
  | some (.array len e)=>match ff P e,bj P e with
   |some ag,some n=>.ixA ag len n (a x) (a i)
   |_,_=>.bad
  |_=>.bad
 |.extract x i=>.ext i (a x)
 |.makeMap _ none=>.mkmap
 | .lookup t m y ok=>match P.underlying t with
  | some (.map kt et)=>match P.underlying kt,fa P et with
   |some .string,some z=>.look z ok (a m) (a y)
   |_,_=>.bad
  |_=>.bad
 |.mapUpdate _ m y x=>.mup (a m) (a y) (a x)
 |.range _ x=>.rngS (a x)
 |.next it true=>.nxt (a it)
 | .call c=>match c.callee with
  | .builtin .len=>match c.args.toList,(c.argTypes[0]?).bind P.underlying with
   |[x],some (.slice _)=>.len (a x)
   |[x],some .string=>.lenS (a x)
   |_,_=>.bad
  | .builtin .append=>match c.args.toList,c.argTypes.toList with
   | [s,x],t::_=>match P.underlying t with
    | some (.slice e)=>match bj P e,iN P e with
     |some n,some b=>.app n b (a s) (a x)
     |_,_=>.bad
    |_=>.bad
   |_,_=>.bad
  | .builtin .clear=>match c.args.toList,c.argTypes.toList with
   | [x],[t]=>match P.underlying t with
    | some (.slice e)=>match bj P e,W0.zof P e with
     |some n,some z=>.clr n z (a x)
     |_,_=>.bad
    |_=>.bad
   |_,_=>.bad
  | .builtin .min=>match c.args.toList with
   |[x,y]=>.mnx false (a x) (a y)
   |_=>.bad
  | .builtin .max=>match c.args.toList with
   |[x,y]=>.mnx true (a x) (a y)
   |_=>.bad
  |.value f=>.call (a f) (c.args.toList.map a)
  |_=>.bad
 |_=>.bad
def alias(o:Op)(sl:Sl):Option X:=match o with
 |.move x|.assign x=>some (opd sl x)
 | .call c=>match c.callee with
  | .builtin .len=>match (c.argTypes[0]?).bind P.underlying with
   |some (.array n _)=>some (.v (.int .i64 n))
   |_=>none
  |_=>none
 |_=>none
def put(sl:Sl)(d:Option Tmp)(x:X):Sl:=match d with
 |some t=>(t,x)::sl
 |none=>sl
def dstOf(ops:List Oper)(j:Nat):Nat:=((ops[j]?).bind (·.dst)).getD 0
def vals(sl:Sl)(live:List Nat):List X:=live.map λt=>get sl t
def ent(key:Nat)(k:CT):CT:=λsl n=>match lk h.hs key with
 |some p=>.cut key p.q p.labs (vals sl p.live)
 |none=>k sl n
def frzs:List Nat->CT->CT
 |[],k,sl,n=>k sl n
 |d::ds,k,sl,n=>.frz (get sl d) (frzs ds k (put sl (some d) (.s n)) (n+1))
def sqs(all:List Oper)(id:Nat)(k:CT):Nat->List Oper->CT
 |_,[],sl,n=>k sl n
 |i,o::l,sl,n=>
  let k:=ent h (3*(100*id+i+1)+2) (sqs all id k (i+1) l)
  match o.guard,alias P o.op sl with
  |none,some x=>k (put sl o.dst x) n
  |none,none=>.op (res P o.op sl) .a (k (put sl o.dst (.s n)) (n+1))
  |some (j,w),some x=>.gm (get sl (dstOf all j)) w x (k (put sl o.dst (.s n)) (n+1))
  |some (j,w),none=>
   let q:=res P o.op sl
   let g:=get sl (dstOf all j)
   let k:=k (put sl o.dst (.s n)) (n+1)
   bif hp q then .gh g w q k else .go g w q k
def memo(o:Op):Bool:=W.isCallV o||W.isMem o
def us(m:Nat)(rs:List Nat)(i:Nat):List Nat:=match rs with
 |[]=>[]
 |r::l=>bif m.testBit r then us m l (i+1)else i::us m l (i+1)
def drs(all:List Oper)(id:Nat)(ms:List Nat)(k:CT):Nat->List Oper->List Nat->CT
 |_,[],_,sl,n=>.clr (k sl n)
 |i,o::l,rs,sl,n=>
  let u:=us (ms.getD i 0) rs 0
  let rs2:=bif memo o.op then i::rs else rs
  let k:=λ(sl:Sl) (n:Nat)=>drs all id ms k (i+1) l rs2 sl n
  match o.guard,alias P o.op sl with
  |none,some x=>k (put sl o.dst x) n
  |none,none=>bif memo o.op then .dop u i (res P o.op sl) .a (k (put sl o.dst (.s n)) (n+1))else .op (res P o.op sl) .a (k (put sl o.dst (.s n)) (n+1))
  |some (j,w),some x=>.dm i (get sl (dstOf all j)) w x (k (put sl o.dst (.s n)) (n+1))
  |some (j,w),none=>.dg u i (get sl (dstOf all j)) w (res P o.op sl) (k (put sl o.dst (.s n)) (n+1))
def frz(id:Nat)(k:CT):CT:=frzs ((lk h.fz id).getD []) k
def reg(id:Nat)(ops:Array Oper)(draw:Bool)(k:CT):CT:=λsl n=>bif draw then .tt (drs P ops.toList id (cz ops.toList []) (frz h id k) 0 ops.toList [] sl n)
 else sqs P h ops.toList id (frz h id k) 0 ops.toList sl n
def jmp(key:Nat)(live:List Nat):CT:=λsl n=>.jmp key (vals sl live)
def jkey(a b:Code):Nat:=3*((lh a).getD 0+1000*(match gK b with|some r=>r+1|none=>0))+1
def hpOf(key:Nat):Hp:=(lk h.hs key).getD ⟨[],[],true,[]⟩
def code:Code->CT->(Nat->CT)->CT->CT
 |.skip,kn,_,_,sl,n=>kn sl n
 |.label _,kn,_,_,sl,n=>kn sl n
 |.region id ops draw,kn,_,_,sl,n=>ent h (3*(100*id)+2) (reg P h id ops draw kn) sl n
 |.seq a b,kn,kx,kr,sl,n=>
  let key:=jkey a b
  match lk h.hs key with
  |none=>code a (code b kn kx kr) kx kr sl n
  |some p=>.join key p.q p.labs (code a (jmp key p.live) kx kr sl n)
 |.cond x a b,kn,kx,kr,sl,n=>.cnd (opd sl x) (code a kn kx kr sl n) (code b kn kx kr sl n)
 |.block id b,kn,kx,kr,sl,n=>code b kn (λi=>bif i==id then kn else kx i) kr sl n
 |.loop b,_,_,_,sl,n=>
  let key:=3*(gK b).getD 0
  let p:=hpOf h key
  .loop key p.q p.labs (vals sl p.live)
 |.exit id,_,kx,_,sl,n=>kx id sl n
 |.ret,_,_,kr,sl,n=>kr sl n
 |_,_,_,_,_,_=>.bad
def fin(n:Nat)(t:RT):RT:=rel (down n) n (peep n t)
def mkp(key:Nat)(own:Bool)(k:CT):Rg:=
 let p:=hpOf h key
 let l:=p.live++p.mis
 ⟨key,p.live,p.mis,bif own then key::p.labs else p.labs,fin l.length (k (slp l) l.length)⟩
def pif(key:Nat)(k:CT):List Rg:=match lk h.hs key with
 |some _=>[mkp h key false k]
 |none=>[]
def cutp(all:List Oper)(id:Nat)(k:CT)(i:Nat):List Oper->List Rg
 |[]=>[]
 |o::l=>pif h (3*(100*id+i+1)+2) (sqs P h all id k (i+1) l)++cutp all id k (i+1) l
def pcs:Code->CT->(Nat->CT)->CT->List Rg
 |.region id ops draw,kn,_,_=>pif h (3*(100*id)+2) (reg P h id ops draw kn)++bif draw then []else cutp P h ops.toList id (frz h id kn) 0 ops.toList
 |.seq a b,kn,kx,kr=>
  let key:=jkey a b
  pif h key (code P h b kn kx kr)++(pcs a (match lk h.hs key with|none=>code P h b kn kx kr|some p=>jmp key p.live) kx kr++pcs b kn kx kr)
 |.cond _ a b,kn,kx,kr=>pcs a kn kx kr++pcs b kn kx kr
 |.block id b,kn,kx,kr=>pcs b kn (λi=>bif i==id then kn else kx i) kr
 |.loop b,_,kx,kr=>
  let key:=3*(gK b).getD 0
  let kn2:=jmp key (hpOf h key).live
  mkp h key true (code P h b kn2 kx kr)::pcs b kn2 kx kr
 |_,_,_,_=>[]
def ress:List ResultVar->List X->CT
 |[],vs,_,_=>.ret vs.reverse
 |.tmp t::rs,vs,sl,n=>ress rs (get sl t::vs) sl n
 |.cell a t::rs,vs,sl,n=>.op (res P (.load t (.tmp a)) sl) .a (ress rs (.s n::vs) sl (n+1))
end
end Cm
def cg(P:Program)(fn:Func)(hs:List (Nat×Hp))(fz:List (Nat×List Nat)):RF:=
 let h:RF:=⟨hs,fz,[]⟩
 let c:=fn.body.getD .skip
 let live:=List.range (fn.params.size+fn.nfree)
 let kr:Cm.CT:=Cm.ress P fn.results.toList []
 ⟨hs,fz,⟨0,live,[],[],Cm.fin live.length (Cm.code P h c kr (λ_ _ _=>.bad) kr (Cm.sl0 live (live.length-1)) live.length)⟩::Cm.pcs P h c kr (λ_ _ _=>.bad) kr⟩
def nv{α:Type}(a:α){b:α}(h:a=b:=by((conv=>lhs;reduce)<;>rfl)):α:=b
end
section
def q0:R:=λ_ _=>False
namespace Cm
def nth:List AV->Nat->AV
 |[],_=>.junk
 |a::_,0=>a
 |_::l,n+1=>nth l n
def nthR:List W.WR->Nat->W.WR
 |[],_=>rm 0 rz
 |a::_,0=>a
 |_::l,n+1=>nthR l n
def bys:List Nat->List UInt8
 |[]=>[]
 |a::l=>UInt8.ofNat a::bys l
def ev(e:List AV):X->AV
 |.s i=>nth e i
 |.g i=>TZ i
 |.v a=>a
 |.t l=>.str (bys l)
def evs(e:List AV):List X->List AV
 |[]=>[]
 |x::l=>ev e x::evs e l
def evo(e:List AV):Option X->Option AV
 |none=>none
 |some x=>some (ev e x)
def evp(e:List AV):List (Nat×Nat×X)->List (Nat×Nat×AV)
 |[]=>[]
 |(a,b,x)::l=>(a,b,ev e x)::evp e l
def evq(e:List AV):List (Nat×X)->List (Nat×AV)
 |[]=>[]
 |(a,x)::l=>(a,ev e x)::evq e l
def ps:N3->AV->List AV->List AV
 |.a,v,e=>v::e
 |.b,v,e=>v::.junk::e
 |.c,v,e=>v::.junk::.junk::e
def vv:RO->List AV->SH->(AV->Prop)->Prop
 |.pick c x y,e,L=>W.pick (ev e c) (ev e x) (ev e y)
 |.build z ps,e,L=>W.build z (evp e ps)
 |.l x,e,L=>wl (ev e x) L
 |.load n x,e,L=>W.load false n (ev e x) L
 |.ro n x,e,L=>Sc n (ev e x) L
 |.nilchk x,e,L=>W.nilchk (ev e x)
 |.bin o t x y,e,L=>wb o t (ev e x) (ev e y)
 |.un o x,e,L=>W.un o (ev e x)
 |.conv k x,e,L=>W.conv k (ev e x)
 |.convS x,e,L=>W.convS (ev e x)
 |.slice n x a b c,e,L=>W.slice n (ev e x) (evo e a) (evo e b) (evo e c) L
 |.sliceS x a b,e,L=>W.sliceS (ev e x) (evo e a) (evo e b)
 |.faddr o x,e,L=>W.faddr o (ev e x)
 |.fld a n o x,e,L=>W.fld a n o (ev e x)
 |.idx n x i,e,L=>W.idx n (ev e x) (ev e i) L
 |.idxP l n x i,e,L=>W.idxP l n (ev e x) (ev e i)
 |.ixS x i,e,L=>W.ixS (ev e x) (ev e i)
 |.ixA a l n x i,e,L=>W.ixA a l n (ev e x) (ev e i)
 |.ext i x,e,L=>W.ext i (ev e x)
 |.len x,e,L=>W.len (ev e x)
 |.lenS x,e,L=>W.lenS (ev e x)
 |.mnx m x y,e,L=>W.mnx m (ev e x) (ev e y)
 |.look z k x y,e,L=>W.look z k (ev e x) (ev e y) L
 |.fl o x,e,L=>K9 o (ev e x) L
 |.nfl o x,e,L=>La o (ev e x) L
 |.il n x i,e,L=>T1 n (ev e x) (ev e i) L
 |.ir n x i,e,L=>T2 n (ev e x) (ev e i) L
 |.ifl n o x i,e,L=>Lb n o (ev e x) (ev e i) L
 |_,_,_=>λ_=>False
def vo:RO->List AV->SH->R->Prop
 |.alloc z,e,L,K=>W.alloc z L K
 |.box x,e,L,K=>W.box (ev e x) L K
 |.bslice n z len ps,e,L,K=>W.bslice n z len (evq e ps) L K
 |.mslice n b z l c,e,L,K=>W.mslice n b z (ev e l) (ev e c) L K
 |.store n x y,e,L,K=>W.store n (ev e x) (ev e y) L λL=>K (.tup []) L
 |.app n b s x,e,L,K=>W.append n b (ev e s) (ev e x) L K
 |.clr n z x,e,L,K=>W.clear n z (ev e x) L λL=>K (.tup []) L
 |.mkmap,e,L,K=>W.mkmap L K
 |.mup x y z,e,L,K=>W.mup (ev e x) (ev e y) (ev e z) L λL=>K (.tup []) L
 |.rngS x,e,L,K=>W.rngS (ev e x) L K
 |.nxt x,e,L,K=>W.nxt (ev e x) L K
 |.call f l,e,L,K=>wc (ev e f) (evs e l) L K
 |.fn f l,e,L,K=>K (.fn f (evs e l)) L
 |.cp z n x,e,L,K=>V9 z n (ev e x) L K
 |.bx x,e,L,K=>Wa (ev e x) L K
 |o,e,L,K=>vv o e L λv=>K v L
def vd(u:List W.WR)(i:Nat):RO->List AV->SH->(AV->SH->Fp->Prop)->Prop
 |.l x,e,L,K=>dl u i (ev e x) L λv r=>K v L r
 |.ro n x,e,L,K=>dr u i n (ev e x) L λv r=>K v L r
 |.idx n x j,e,L,K=>di u i n (ev e x) (ev e j) L λv r=>K v L r
 |.store n x y,e,L,K=>ds u i n (ev e x) (ev e y) L λL r=>K (.tup []) L r
 |.fl o x,e,L,K=>T3 o (ev e x) u i L λv r=>K v L r
 |.call f l,e,L,K=>wd u i (ev e f) (evs e l) L λv L2 ks=>wn [] ks [] L.names λr=>K v L2 r
 |.app n b s x,e,L,K=>W.calm u ⟨i,am (ev e s)++am (ev e x),am (ev e s),[],false,[]⟩ (W.append n b (ev e s) (ev e x) L λv L=>wn (am (ev e s)++am (ev e x)) (am (ev e s)) (am v) [] λr=>K v L r)
 |.clr n z x,e,L,K=>W.calm u ⟨i,am (ev e x),am (ev e x),[],false,[]⟩ (W.clear n z (ev e x) L λL=>wn (am (ev e x)) (am (ev e x)) [] [] λr=>K (.tup []) L r)
 |.slice n x a b c,e,L,K=>W.calm u ⟨i,gE (ev e x),[],[],false,[]⟩ (W.slice n (ev e x) (evo e a) (evo e b) (evo e c) L λv=>wn (gE (ev e x)) [] [] [] λr=>K v L r)
 |.idxP l n x j,e,L,K=>W.calm u ⟨i,gE (ev e x),[],[],false,[]⟩ (W.idxP l n (ev e x) (ev e j) λv=>wn (gE (ev e x)) [] [] [] λr=>K v L r)
 |.alloc z,e,L,K=>W.calm u ⟨i,[],[],[],false,[]⟩ (W.alloc z L λv L=>wn [] [] (am v) [] λr=>K v L r)
 |.box x,e,L,K=>W.calm u ⟨i,[],[],[],false,[]⟩ (W.box (ev e x) L λv L=>wn [] [] (am v) [] λr=>K v L r)
 |.bslice n z len ps,e,L,K=>W.calm u ⟨i,[],[],[],false,[]⟩ (W.bslice n z len (evq e ps) L λv L=>wn [] [] (am v) [] λr=>K v L r)
 |.mslice n b z l c,e,L,K=>W.calm u ⟨i,[],[],[],false,[]⟩ (W.mslice n b z (ev e l) (ev e c) L λv L=>wn [] [] (am v) [] λr=>K v L r)
 |_,_,_,_=>False
def mem:RO->Bool
 |.l _|.ro ..|.load ..|.idx ..|.idxP ..|.store ..|.fl ..|.call ..|.app ..|.clr ..|.slice ..|.alloc _|.box _|.bslice ..|.mslice ..=>true
 |_=>false
def rcd:RO->Nat->Fp->W.WR
 |.call _ _,i,r=>rc i r
 |_,i,r=>rm i r
def rec2(o:RO)(i:Nat)(r:Fp)(rs:List W.WR):List W.WR:=bif mem o then rcd o i r::rs else rs
def vd2(u:List W.WR)(i:Nat)(o:RO)(e:List AV)(L:SH)(K:AV->SH->Fp->Prop):Prop:=bif mem o then vd u i o e L K else vo o e L λv L=>K v L rz
def lkk:List (Nat×Kn)->Nat->Kn
 |[],_=>λ_ _=>False
 |(a,b)::l,k=>bif a==k then b else lkk l k
def lks(ks:List (Nat×Kn)):List Nat->List Kn
 |[]=>[]
 |a::l=>lkk ks a::lks ks l
def sel(e:List AV):List Nat->List AV
 |[]=>[]
 |a::l=>nth e a::sel e l
def usl(rs:List W.WR):List Nat->List W.WR
 |[]=>[]
 |a::l=>nthR rs a::usl rs l
def zp:List Nat->List Kn->List (Nat×Kn)
 |a::l,b::m=>(a,b)::zp l m
 |_,_=>[]
def retv(e:List AV):List X->AV
 |[x]=>ev e x
 |l=>.tup (evs e l)
section
variable (Q:R) (T:R->Nat->List Kn->Vs->SH->Kn->Prop) (J C:R->Nat->List Kn->Vs->SH->Prop)
def V:RT->List AV->List W.WR->List (Nat×Kn)->SH->Prop
 |.op o p k,e,rs,ks,L=>vo o e L λv L=>V k (ps p v e) rs ks L
 |.go g w o k,e,rs,ks,L=>wg (ev e g) w (vv o e L) L λv L=>V k (v::e) rs ks L
 |.gh g w o k,e,rs,ks,L=>W.grd (ev e g) w (vo o e L) L λv L=>V k (v::e) rs ks L
 |.gm g w x k,e,rs,ks,L=>V8 (ev e g) w (ev e x) L λv L=>V k (v::e) rs ks L
 |.dop us i o p k,e,rs,ks,L=>vd (usl rs us) i o e L λv L r=>V k (ps p v e) (rcd o i r::rs) ks L
 |.dg us i g w o k,e,rs,ks,L=>W.dgrd (ev e g) w (vd2 (usl rs us) i o e L) L λv L r=>V k (v::e) (rec2 o i r rs) ks L
 |.dm i g w x k,e,rs,ks,L=>W.dgrd (ev e g) w (λK=>K (ev e x) L rz) L λv L r=>V k (v::e) rs ks L
 |.tt k,e,rs,ks,L=>(true=true)/\V k e [] ks L
 |.clr k,e,rs,ks,L=>V k e [] ks L
 |.keep l k,e,rs,ks,L=>V k (sel e l) rs ks L
 |.frz x k,e,rs,ks,L=>W.frz1 (ev e x) L λv L=>V k (v::e) rs ks L
 |.cnd x a b,e,rs,ks,L=>wk (ev e x) (V a e rs ks L) (V b e rs ks L)
 |.join p q ls k,e,rs,ks,L=>W.join (J (bif q then Q else q0) p (lks ks ls)) λj=>V k e rs ((p,j)::ks) L
 |.loop p q ls vs,e,rs,ks,L=>W.loop (T (bif q then Q else q0) p (lks ks ls)) (evs e vs) L
 |.jmp lab vs,e,rs,ks,L=>lkk ks lab (evs e vs) L
 |.cut p q ls vs,e,rs,ks,L=>C (bif q then Q else q0) p (lks ks ls) (evs e vs) L
 |.ret vs,e,rs,ks,L=>Q (retv e vs) L
 |.bad,_,_,_,_=>False
def Vz(t:RT)(e:List AV)(rs:List W.WR)(ks:List (Nat×Kn))(L:SH):Prop:=V Q T J C t e rs ks L
theorem V_call{f:X}{l:List X}{p:N3}{k:RT}{e:List AV}{j:List W.WR}{u:List (Nat×Kn)}{L:SH}:V Q T J C (.op (.call f l) p k) e j u L=wc (ev e f) (evs e l) L λv L=>Vz Q T J C k (ps p v e) j u L:=rfl
theorem V_dcall{us:List Nat}{i:Nat}{f:X}{l:List X}{p:N3}{k:RT}{e:List AV}{j:List W.WR}{u:List (Nat×Kn)}{L:SH}:V Q T J C (.dop us i (.call f l) p k) e j u L=wd (usl j us) i (ev e f) (evs e l) L λv L2 ns=>wn [] ns [] L.names λr=>Vz Q T J C k (ps p v e) (rc i r::j) u L2:=rfl
theorem Vz_cut{p:Nat}{q:Bool}{ls:List Nat}{vs:List X}{e:List AV}{u:List W.WR}{j:List (Nat×Kn)}{L:SH}:Vz Q T J C (.cut p q ls vs) e u j L=C (bif q then Q else q0) p (lks j ls) (evs e vs) L:=rfl
theorem Vz_keep{l:List Nat}{k:RT}{e:List AV}{j:List W.WR}{u:List (Nat×Kn)}{L:SH}:Vz Q T J C (.keep l k) e j u L=Vz Q T J C k (sel e l) j u L:=rfl
theorem Vz_clr{k:RT}{e:List AV}{u:List W.WR}{j:List (Nat×Kn)}{L:SH}:Vz Q T J C (.clr k) e u j L=Vz Q T J C k e [] j L:=rfl
theorem V_cnd{x:X}{a b:RT}{e:List AV}{j:List W.WR}{u:List (Nat×Kn)}{L:SH}:V Q T J C (.cnd x a b) e j u L=wk (ev e x) (Vz Q T J C a e j u L) (Vz Q T J C b e j u L):=rfl
end
def fp:List Rg->Nat->Rg
 |[],_=>⟨0,[],[],[],.bad⟩
 |a::l,k=>bif a.key==k then a else fp l k
def sp(p:Rg)(vs:Vs):List AV:=(p.live++p.mis).map λt=>c8 p.live vs t
def jk:List Nat->List AV
 |[]=>[]
 |_::l=>.junk::jk l
end Cm
open Cm
def Pc(r:RF):Nat->R->Nat->List Kn->Vs->SH->Prop
 |0,_,_,_,_,_=>False
 |f+1,Q,p,kl,e,L=>V Q (λQ p kl vs L n=>Pc r f Q p (n::kl) (sp (fp r.ps p) vs) L) (λQ p kl vs L=>Pc r f Q p kl (sp (fp r.ps p) vs) L) (λQ p kl vs L=>Pc r f Q p kl vs L) (fp r.ps p).tree e [] (zp (fp r.ps p).labs kl) L
def Lp(r:RF)(f:Nat)(Q:R)(p:Nat)(kl:List Kn)(vs:Vs)(L:SH)(n:Kn):Prop:=Pc r f Q p (n::kl) (sp (fp r.ps p) vs) L
def Jp(r:RF)(f:Nat)(Q:R)(p:Nat)(kl:List Kn)(vs:Vs)(L:SH):Prop:=Pc r f Q p kl (sp (fp r.ps p) vs) L
theorem Sj{r:RF}{Q:R}{f p a:Nat}{live mis labs:List Nat}{t:RT}{j:List Kn}{e:Vs}{L:SH}(h:fp r.ps p=⟨a,live,mis,labs,t⟩):Pc r (f+1) Q p j e L=V Q (Lp r f) (Jp r f) (Pc r f) t e [] (zp labs j) L:=by show V Q _ _ _ (fp r.ps p).tree e [] (zp (fp r.ps p).labs j) L=_;rw[h];rfl
theorem PR(live:List Nat)(vs:Vs)(t:Nat)(h:t∉live):c8 live vs t=.junk:=by
 induction live generalizing vs with
 |nil=>rfl
 |cons d ds u=>
  cases vs with
  |nil=>rfl
  |cons v vs=>
   have j:=not_or.1 λe=>h (WX.2 e)
   simp only[c8,if_neg λe=>j.1 (Eq.symm e)];exact u vs j.2
theorem GL:∀{live:List Nat} {vs:Vs},live.Nodup->vs.length=live.length->live.map (c8 live vs)=vs
 |[],[],_,_=>rfl
 |[],_::_,_,h=>by cases h
 |_::_,[],_,h=>by cases h
 | d::ds,v::vs,hn,h=>by have j:=Xw.1 hn;have u:=GL (live:=ds) (vs:=vs) j.2 (by simpa using h);simp only[WS,c8,if_true];congr 1;refine Eq.trans (List.map_congr_left λt ht=>?_) u;rw[if_neg (show d≠t from λe=>j.1 (e▸ht))]
theorem Rh{a:Nat}{live mis labs:List Nat}{t:RT}{vs:Vs}(hn:(live++mis).Nodup)(h:vs.length=live.length):sp ⟨a,live,mis,labs,t⟩ vs=vs++jk mis:=by
 obtain⟨G,E,j⟩:=List.nodup_append.1 hn;unfold sp;dsimp only;rw[List.map_append,GL G h];congr 1;clear hn E
 induction mis with
 |nil=>rfl
 |cons m M u=>rw[WS,PR live vs m λe=>j m e m (.head _) rfl,u λx D y B=>j x D y (.tail _ B)];rfl
theorem Ri{r:RF}{Q:R}{f g p a:Nat}{live mis labs:List Nat}{t:RT}{j:List Kn}{e:Vs}{L:SH}{N:R->Prop}(k:N Q)(h:fp r.ps p=⟨a,live,mis,labs,t⟩:=by rfl)(u:g=f+1:=by rfl)(B:∀Q,V Q (Lp r f) (Jp r f) (Pc r f) t e [] (zp labs j) L=N Q:=by intro Q;dsimp only[Cm.jk,List.cons_append,List.nil_append,Cm.V_call,Cm.V_dcall,Cm.V_cnd,Cm.Vz_cut,Cm.Vz_keep,Cm.Vz_clr,Cm.sel,Cm.V,Cm.vo,Cm.vv,Cm.vd,Cm.vd2,Cm.mem,Cm.rcd,Cm.rec2,Cm.ev,Cm.evs,Cm.evo,Cm.evp,Cm.evq,Cm.nth,Cm.nthR,Cm.ps,Cm.lkk,Cm.lks,Cm.usl,Cm.zp,Cm.retv,Cm.bys,UInt8.reduceOfNat,Int.reduceOfNat,Int.reduceNegSucc,cond_true,cond_false,Nat.reduceBEq]<;>rfl):Pc r g Q p j e L:=by subst u;rw[Sj h,B];exact k
theorem Ke{Q:R}{T:R->Nat->List Kn->Vs->SH->Kn->Prop}{J C:R->Nat->List Kn->Vs->SH->Prop}{t:RT}{e:Vs}{j:List W.WR}{u:List (Nat×Kn)}{L:SH}{N:R->Prop}(k:N Q)(B:∀Q,V Q T J C t e j u L=N Q:=by intro Q;dsimp only[Cm.jk,List.cons_append,List.nil_append,Cm.V_call,Cm.V_dcall,Cm.V_cnd,Cm.Vz_cut,Cm.Vz_keep,Cm.Vz_clr,Cm.sel,Cm.V,Cm.vo,Cm.vv,Cm.vd,Cm.vd2,Cm.mem,Cm.rcd,Cm.rec2,Cm.ev,Cm.evs,Cm.evo,Cm.evp,Cm.evq,Cm.nth,Cm.nthR,Cm.ps,Cm.lkk,Cm.lks,Cm.usl,Cm.zp,Cm.retv,Cm.bys,UInt8.reduceOfNat,Int.reduceOfNat,Int.reduceNegSucc,cond_true,cond_false,Nat.reduceBEq]<;>rfl):Vz Q T J C t e j u L:=by unfold Vz;rw[B];exact k
theorem Rj{r:RF}{Q:R}{f g p a:Nat}{live mis labs:List Nat}{t:RT}{j:List Kn}{vs:Vs}{L:SH}{n:Kn}{N:R->Kn->Prop}(k:N Q n)(h:fp r.ps p=⟨a,live,mis,labs,t⟩:=by rfl)(hn:(live++mis).Nodup:=by decide)(hl:vs.length=live.length:=by rfl)(u:g=f+1:=by rfl)(B:∀Q n,V Q (Lp r f) (Jp r f) (Pc r f) t (vs++jk mis) [] (zp labs (n::j)) L=N Q n:=by intro Q n;dsimp only[Cm.jk,List.cons_append,List.nil_append,Cm.V_call,Cm.V_dcall,Cm.V_cnd,Cm.Vz_cut,Cm.Vz_keep,Cm.Vz_clr,Cm.sel,Cm.V,Cm.vo,Cm.vv,Cm.vd,Cm.vd2,Cm.mem,Cm.rcd,Cm.rec2,Cm.ev,Cm.evs,Cm.evo,Cm.evp,Cm.evq,Cm.nth,Cm.nthR,Cm.ps,Cm.lkk,Cm.lks,Cm.usl,Cm.zp,Cm.retv,Cm.bys,UInt8.reduceOfNat,Int.reduceOfNat,Int.reduceNegSucc,cond_true,cond_false,Nat.reduceBEq]<;>rfl):Lp r g Q p j vs L n:=by subst u;unfold Lp;rw[h,Rh hn hl,Sj h,B];exact k
theorem Rk{r:RF}{Q:R}{f g p a:Nat}{live mis labs:List Nat}{t:RT}{j:List Kn}{vs:Vs}{L:SH}{N:R->Prop}(k:N Q)(h:fp r.ps p=⟨a,live,mis,labs,t⟩:=by rfl)(hn:(live++mis).Nodup:=by decide)(hl:vs.length=live.length:=by rfl)(u:g=f+1:=by rfl)(B:∀Q,V Q (Lp r f) (Jp r f) (Pc r f) t (vs++jk mis) [] (zp labs j) L=N Q:=by intro Q;dsimp only[Cm.jk,List.cons_append,List.nil_append,Cm.V_call,Cm.V_dcall,Cm.V_cnd,Cm.Vz_cut,Cm.Vz_keep,Cm.Vz_clr,Cm.sel,Cm.V,Cm.vo,Cm.vv,Cm.vd,Cm.vd2,Cm.mem,Cm.rcd,Cm.rec2,Cm.ev,Cm.evs,Cm.evo,Cm.evp,Cm.evq,Cm.nth,Cm.nthR,Cm.ps,Cm.lkk,Cm.lks,Cm.usl,Cm.zp,Cm.retv,Cm.bys,UInt8.reduceOfNat,Int.reduceOfNat,Int.reduceNegSucc,cond_true,cond_false,Nat.reduceBEq]<;>rfl):Jp r g Q p j vs L:=by subst u;unfold Jp;rw[h,Rh hn hl,Sj h,B];exact k
def Rl:List (Nat×Hp)->Nat->Option (List Nat)
 |[],_=>none
 |(a,p)::l,k=>bif a % 3==1&&(a / 3) % 1000==k then some p.live else Rl l k
def Cj(r:RF)(fn:Func):J1:=⟨Rl r.hs,λk=>(hpOf r (3*k)).live,λk=>(Cm.lk r.fz k).getD [],λk=>mks k (fn.body.getD .skip)⟩
where mks (k:Nat):Code->List Nat
 |.region id ops _=>bif id==k then cz ops.toList []else []
 |.seq a b|.cond _ a b=>mks k a++mks k b
 |.block _ b|.loop b=>mks k b
 |_=>[]
theorem Wg{Q:R}{T:R->Nat->List Kn->Vs->SH->Kn->Prop}{J C:R->Nat->List Kn->Vs->SH->Prop}{t:RT}{e:Vs}{j:List W.WR}{u:List (Nat×Kn)}{L:SH}(k:Vz Q T J C t e j u L):Vz Q T J C t e j u L:=k
theorem Wh{r:RF}{Q:R}{g p:Nat}{j:List Kn}{e:Vs}{L:SH}(k:Pc r g Q p j e L):Pc r g Q p j e L:=k
theorem Wi{r:RF}{Q:R}{g p:Nat}{j:List Kn}{e:Vs}{L:SH}(k:Jp r g Q p j e L):Jp r g Q p j e L:=k
theorem vw{A B:Prop}(k:B)(h:B->A:=by intro k;first|exact Ri k|exact Rj k|exact Rk k|exact Ke k|fail):A:=h k
attribute [irreducible] Vz Pc Lp Jp
theorem fv(r:RF){f:FuncId}{fn:Func}{args:List AV}{L:SH}{Q:R}(j:Tryz.prog.funcs[f]? =some fn)(h:Pc r 20 Q 0 [] args L)(hb:fn.body=some (fn.body.getD .skip):=by kernel_rfl)(u:W.func Tryz.prog Fl (Cj r fn) fn (fn.body.getD .skip) args L Q=Pc r 20 Q 0 [] args L:=by kernel_rfl):ac Tryz.prog f args L Q:=Wf _ j hb u h
end
def ke:RF:=nv (cg Tryz.prog Tryz.f110 [(135130,⟨[7,12,15],[],true,[]⟩),(48043,⟨[4,5,6,7,8,12,15,27,51],[135130],false,[]⟩),(39034,⟨[4,5,6,7,8,12,15,27,42],[135130],false,[]⟩),(908,⟨[3,4,5,6,7,8,12,26],[],true,[]⟩)] [(0,[6,8])])
abbrev oA(Q:R)(a b c d e f g h:AV)(i:SH):Prop:=Pc ke 19 Q 908 [] [a,b,c,g,d,e,f,h] i
abbrev pE(a b c d e f:AV)(L:SH)(Q:R):Prop:=Pc ke 20 Q 0 [] [a,b,c,d,e,f] L
def yu(G E D B u j:AV)(L:SH)(Q:R)(h:pE G E D B u j L Q):ac Tryz.prog 110 [G,E,D,B,u,j] L Q:=
 fv ke Tryz.func110 h
section
inductive eZ (o:Option Nat) (n:Nat) (rows:List (List AV)):SH->SH->Prop where
 |here (R:SH):eZ o n rows (ab o n rows++R) R
 |last:eZ o n rows (ab o n rows) []
 |there (p:Nat×Blk) {L L':SH}:eZ o n rows L L'->eZ o n rows (p::L) (p::L')
 |skip (o2:Option Nat) (n2:Nat) (rows2:List (List AV)) {L L':SH}:eZ o n rows L L'->eZ o n rows (ab o2 n2 rows2++L) (ab o2 n2 rows2++L')
theorem eZ.some'{b n:Nat}{rows:List (List AV)}{L L':SH}(h:eZ (some b) n rows L L'):fQ b ⟨n,rows⟩ L L':=by
 induction h with
 |here R=>exact .here R
 |last=>exact .here []
 |there p h u=>exact .there p u
 |skip B D j h u=>exact u.app _
theorem eZ.none'{n:Nat}{rows:List (List AV)}{L L':SH}(h:eZ none n rows L L'):L=L':=by
 induction h with
 |here R=>rfl
 |last=>rfl
 |there p h u=>rw[u]
 |skip B D j h u=>rw[u]
theorem eZ.perm{o:Option Nat}{n:Nat}{rows:List (List AV)}{L L':SH}(h:eZ o n rows L L'):L.Perm (ab o n rows++L'):=by
 cases o with
 |none=>rw[h.none'];exact .refl _
 |some b=>exact h.some'.perm
theorem fQ.mem'{b:Nat}{x:Blk}{L L':SH}(h:fQ b x L L'):(b,x)∈L:=by
 induction h with
 |here L=>simp
 |there p h j=>simp[j]
section
variable {KL:AV->SH->Prop} {L L':SH}
theorem bG{o:Option Nat}{i n by_ M k:Nat}{rows m:List (List AV)}(E:(M,(⟨n,m⟩:Blk))∈L)(B:eZ o n rows L L')(u:rows.length=i)(Y:o=none->rows=[])(S:k=m.length)(hm:0<m.length)(h2:2*(i+m.length)*by_<=2^48)(G:2*(i+m.length)<=2^62)(h4:(m.all λr=>r.all AV.one)=true)
  (h:∀b,b∉L.names->KL (.sl b 0 (i+m.length)) ((b,⟨n,rows++m⟩)::L')):W.append n by_ (ai o i) (.sl M 0 k) L KL:=by
 subst S;cases o with
 |none=>have j:=Y rfl;subst j;simp only[WT]at u;subst u;have O:=B.none';subst O;have:=EC (KL:=KL) (L:=L) (by_:=by_) (lq E rfl rfl) (by simpa using h2) (by simpa using G) h4 (by show m.length≠0;omega) (λb D=>by simpa using h b D);exact this
 |some b=>subst u;exact lm (y:=⟨n,rows⟩) (l:=rows) B.some'.mem' rfl YF YF (lq E rfl rfl) h2 G h4 B.some' (λZ D=>h Z D)
theorem pF{α:Type}{f:α->List AV}{l:List α}{o:Option Nat}{i n by_:Nat}{rows:List (List AV)}(G:eZ o n rows L L')(M:∀x,(f x).length=n)(j:rows.length=i)(Y:o=none->rows=[])(h2:2*(i+l.length)*by_<=2^48)(O:2*(i+l.length)<=2^62)(h4:∀x,(f x).all AV.one=true)
  (h:∀B,(B=none->rows++l.map f=[])->KL (ai B (i+l.length)) (ab B n (rows++l.map f)++L')):W.append n by_ (ai o i) (.lst (l.map f)) L KL:=by
 have u:((l.map f).all λr=>r.all AV.one)=true:=by rw[W2];intro r j;obtain⟨x,_,rfl⟩:=Xi.1 j;exact h4 x
 cases o with
 |none=>
  have D:=Y rfl;subst D;simp only[WT]at j;subst j;have E:=G.none';subst E;refine⟨[],l.map f,rfl,qI M,by simpa using h2,by simpa using O,u,λe=>?_,λe b S=>?_⟩
  .have E:l=[]:=by simpa using e
   subst E;exact h none λ_=>rfl
  .have:=h (some b) nofun;simpa[ai,ab]using this
 |some b=>subst j;refine lm (y:=⟨n,rows⟩) (l:=rows) G.some'.mem' rfl YF YF (qI M) (by simpa using h2) (by simpa using O) u G.some' (λZ S=>?_);have:=h (some Z) nofun;simpa[ai,ab]using this
inductive dD:SH->SH->Prop where
 |nil (L:SH):dD L []
 |one {b:Nat} {x:Blk} {L L' R:SH}:fQ b x L L'->dD L' R->dD L ((b,x)::R)
 |slot {o:Option Nat} {n:Nat} {rows:List (List AV)} {L L' R:SH}:eZ o n rows L L'->dD L' R->dD L (ab o n rows++R)
 |slotl {o:Option Nat} {n:Nat} {rows:List (List AV)} {L L':SH}:eZ o n rows L L'->dD L (ab o n rows)
theorem dD.perm{L R:SH}(h:dD L R):∃K,L.Perm (K++R):=by
 induction h with
 |nil L=>exact⟨L,YF⟩
 |one j hp u=>obtain⟨K,B⟩:=u;exact⟨K,(j.perm.trans ((B.cons _).trans XV.symm))⟩
 |slot j hp u=>obtain⟨K,B⟩:=u;refine⟨K,j.perm.trans ((B.append_left _).trans ?_)⟩;rw[<-List.append_assoc,<-List.append_assoc];exact W1.append_right _
 |slotl j=>exact⟨_,j.perm.trans W1⟩
theorem aE.pick{vs j:List AV}{R:SH}(h:dD L R)(u:vs=j):aE vs L j R:=by subst u;obtain⟨K,B⟩:=h.perm;exact aE.forget B
end
end
def Fr.perm{B:Nat}{L E L'':SH}{H H':af}(h:Fr B L H E H')(hp:E.Perm L''):Fr B L H L'' H':=
 ⟨h.next,h.bd,h.sub.perm hp,λb x D u=>⟨(h.keep b x D u).1,λG=>(h.keep b x D u).2 ((hp.map Prod.fst).mem_iff.2 G)⟩,h.dom,λb M j=>h.fresh b ((hp.map Prod.fst).mem_iff.2 M) j⟩
def ac.perm{P:Program}{f:FuncId}{args:List AV}{L:SH}{Q:AV->SH->Prop}(h:ac P f args L λv j=>∃L'',j.Perm L''/\Q v L''):ac P f args L Q:=⟨h.1,λH B u=>by
 obtain⟨v,M,j,G,E,L'',hp,D⟩:=h.2 H B u;exact⟨v,M,L'',G,E.perm hp,D⟩⟩
def fi.refl(K:SH):∀l:List AV,fi K l l
 |[]=>.nil
 |a::l=>.cons (.refl a) (fi.refl K l)
def aE.row{vs:List AV}{L K R:SH}{b n:Nat}{rows rows':List (List AV)}(S:L.Perm (K++(b,⟨n,rows⟩)::R))(B:rows.length=rows'.length)(O:∀(j:Nat) (r E:List AV),rows[j]? =some r->rows'[j]? =some E->fi K r E):aE vs L vs ((b,⟨n,rows'⟩)::R):=by
 refine⟨K,(b,⟨n,rows⟩)::R,S,⟨rfl,λi a a2 D u=>by rw[D]at u;cases u;exact .refl _⟩,rfl,λi p q D u=>?_⟩
 match i with
 |0=>cases D;cases u;exact⟨rfl,rfl,B,λj s s2 g1 g2=>(O j s s2 g1 g2).at_⟩
 |i+1=>simp only[X5]at D u;rw[D]at u;cases u;exact⟨rfl,rfl,rfl,λj r r2 Z M=>by rw[Z]at M;cases M;exact⟨rfl,λk a a2 Y G=>by rw[Y]at G;cases G;exact .refl _⟩⟩
inductive wq:SH->SH->SH->Prop where
 |nil (L:SH):wq L [] L
 |one {b:Nat} {x:Blk} {L L' R K:SH}:fQ b x L L'->wq L' R K->wq L ((b,x)::R) K
 |slot {o:Option Nat} {n:Nat} {rows:List (List AV)} {L L' R K:SH}:eZ o n rows L L'->wq L' R K->wq L (ab o n rows++R) K
def wq.perm{L R K:SH}(h:wq L R K):L.Perm (K++R):=by
 induction h with
 |nil L=>simp
 |one u hp j=>exact(u.perm.trans ((j.cons _).trans XV.symm))
 |slot u hp j=>refine u.perm.trans ((j.append_left _).trans ?_);rw[<-List.append_assoc,<-List.append_assoc];exact W1.append_right _
def aE.pickE{vs j:List AV}{L R R2:SH}(h:dD L R)(u:vs=j)(B:R=R2):aE vs L j R2:=by subst B;exact aE.pick h u
def aE.rowA{vs E:List AV}{L A R K:SH}{b n:Nat}{rows rows':List (List AV)}(h:wq L (A++(b,⟨n,rows⟩)::R) K)(G:rows.length=rows'.length)(hr:∀(j:Nat) (r O:List AV),rows[j]? =some r->rows'[j]? =some O->fi K r O)(hv:vs=E):aE vs L E (A++(b,⟨n,rows'⟩)::R):=by
 subst hv;refine⟨K,_,h.perm,⟨rfl,λi a S B u=>by rw[B]at u;cases u;exact .refl _⟩,YF,λi p q B u=>?_⟩;have D:p=q->p.1=q.1/\p.2.size=q.2.size/\p.2.rows.length=q.2.rows.length/\∀(j:Nat) (r M:List AV),p.2.rows[j]? =some r->q.2.rows[j]? =some M->r.length=M.length/\∀(k:Nat) (a S:AV),r[k]? =some a->M[k]? =some S->Fz K a S:=λe=>by subst e;exact⟨rfl,rfl,rfl,λj r M h3 h4=>by rw[h3]at h4;cases h4;exact⟨rfl,λk a S h5 Z=>by rw[h5]at Z;cases Z;exact .refl _⟩⟩
 rcases Fn i A.length with Y|Y
 .rw[WW Y]at B u;rw[B]at u;cases u;exact D rfl
 .rw[WQ Y]at B u;generalize i-A.length=k at B u
  match k with
  |0=>cases B;cases u;exact⟨rfl,rfl,G,λj r O g1 g2=>(hr j r O g1 g2).at_⟩
  |k+1=>simp only[X5]at B u;rw[B]at u;cases u;exact D rfl
section
section
variable {KL:AV->SH->Prop} {L L':SH}
theorem iv{α:Type}{f:α->List AV}{l:List α}{b i n by_:Nat}{rows:List (List AV)}{L L':SH}{KL:AV->SH->Prop}(D:fQ b ⟨n,rows⟩ L L')(E:∀x,(f x).length=n)(u:rows.length=i)(h2:2*(i+l.length)*by_<=2^48)(M:2*(i+l.length)<=2^62)(h4:∀x,(f x).all AV.one=true)
  (h:∀j,j∉L.names->KL (.sl j 0 (i+l.length)) ((j,⟨n,rows++l.map f⟩)::L')):W.append n by_ (.sl b 0 i) (.lst (l.map f)) L KL:=by
 have B:((l.map f).all λr=>r.all AV.one)=true:=by rw[W2];intro r u;obtain⟨x,_,rfl⟩:=Xi.1 u;exact h4 x
 subst u;exact lm (y:=⟨n,rows⟩) (l:=rows) D.mem' rfl YF YF (qI E) (by simpa using h2) (by simpa using M) B D (λj G=>by simpa using h j G)
end
theorem pG{P:Program}{KL:AV->SH->Prop}{g:FuncId}{args:List AV}{L:SH}{R:AV->SH->Prop}(h:ac P g args [] R)(B:∀v K,R v K->KL v (L++K)):W.callM P g args L KL:=
 ⟨.perm (h.frame (K:=[]) (R:=L) (.refl _) λu K j=>⟨L++K,W1,B u K j⟩)⟩
theorem As{α β:Type}{f:α->β}{l m:List α}{n:Nat}(h:l.take n=m):((l.map f).drop 0).take n=m.map f:=by rw[List.drop_zero,<-List.map_take,h]
end
section
open Go.RowKit Go.Sort
def wu(l:List Int):List Int:=l.mergeSort λx y=>decide (x<=y)
def qJ(l:List Int):(wu l).length=l.length:=by simp[wu]
def GM{xs:List Int}{i:Nat}{r:List AV}(h:(xs.map ah)[i]? =some r):∃x,xs[i]? =some x/\r=[.int .i64 x]:=by
 rw[W6]at h;cases j:xs[i]? with
 |none=>rw[j]at h;cases h
 |some x=>rw[j]at h;cases h;exact⟨x,rfl,rfl⟩
def GN{P:Program}{f:FuncId}(hbody:∃fn c,P.funcs[f]? =some fn/\fn.body=some c)(b:Nat)(xs G:List Int)(hlen:G.length=xs.length)(v:AV)(ret:Addr->Nat->Value)
  (hrep:∀(w':World) (σ:bR) (T:Nat->Prop) (B:cR) (a:Addr) (D:Nat),σ b=some B->B.ok->xs.length<=D->D<=maxLen->(0<D->a=⟨B.block,B.base+0*B.size,none⟩/\∃cs e,w'.heap[B.block]? =some (.cells cs e (0,0))/\B.base+(0+D)*B.size<=cs.size)->bN w' σ T v (ret a D))
  (hpos:∀(S Y D:Nat) (w:World),Holds (Value.int .i64) w S Y xs.toArray->S<w.heap.size->xs.length<=D->Calls P f #[.slice (some ⟨S,Y,none⟩) xs.length D] w λe w'=>e=.returned (ret ⟨S,Y,none⟩ D)/\∃n os,w'=grow (putRow (Value.int .i64) (Sort.ahead w n) S Y G.toArray) os)
  (hzero:xs.length=0->∀(a:Addr) (D:Nat) (w:World),Calls P f #[.slice (some a) 0 D] w λe w'=>e=.returned (ret a D)/\w'=w) :
  ac P f [.sl b 0 xs.length] [(b,⟨1,xs.map ah⟩)] λu L=>u=v/\L=[(b,⟨1,G.map ah⟩)]:=by
 refine⟨hbody,λH hb hs=>⟨v,H.put b (some ⟨1,G.map ah⟩),[(b,⟨1,G.map ah⟩)],?_,?_,rfl,rfl⟩⟩
 .intro w σ vs hW hvs;obtain⟨v,rfl,hv⟩:=J9 hvs;obtain⟨B,a,D,rfl,E,hnc,hmx,ha⟩:=hv.sl_inv;have hg:H.get b=some ⟨1,xs.map ah⟩:=hs.get (b,⟨1,xs.map ah⟩) YF;obtain⟨pl',cs,e,g1,O⟩:=hW.live b _ hg;rw[E]at g1;cases g1;replace O:=O.1 (hv.sl_ok E);have hsz:B.size=1:=O.size;rcases XH xs.length with h0|h0
  .have hx:xs=[]:=XA.1 h0;have hy:G=[]:=XA.1 YC;have hz:=hzero h0 a D w;rw[h0];refine hz.mono ?_;rintro e' w' ⟨rfl,rfl⟩;have hput:=hW.put hg E (mi.refl O.block) (x':=⟨1,G.map ah⟩) O.size.symm (by simp[hy]) (by simpa[hy,hx]using O.room) (by simp[hy]);exact⟨_,σ,rfl,hrep _ _ _ B a D E (hv.sl_ok E) hnc hmx ha,hput.1,hput.2,λc B M=>.inl M⟩
  .have ha':=ha;obtain⟨rfl,cs',te,hcs',hroom⟩:=ha YC;rw[O.block]at hcs';cases hcs';have hr:=O.room;simp only[Xd,Nat.mul_one]at hr;have hcell:∀(i:Nat) (x:Int),xs[i]? =some x->cs[B.base+i]? =some (.int .i64 x):=λi x hx=>by
    have hi:=aF hx;have Z:B.base+i<cs.size:=by omega
    have:=O.rep i [.int .i64 x] 0 (.int .i64 x) cs[B.base+i] (by simp[hx,ah]) rfl (by simp[Xj Z]);cases hq:cs[B.base+i]with
    |_=>rw[hq]at this;cases this<;>rw[Xj Z,hq]
   have hH:Holds (Value.int .i64) w B.block (B.base+0*B.size) xs.toArray:=λj hj=>by
    have hj':j<xs.length:=by simpa using hj
    refine⟨?_,by simp[World.frozen?,O.block]⟩;have:=hcell j xs[j] (mt hj');simp[World.cell?,O.block,this,hj']
   refine(hpos B.block (B.base+0*B.size) D w hH (hW.lt b B E) hnc).mono ?_;rintro e' w' ⟨rfl,n,os,rfl⟩;have hz:B.base+0*B.size=B.base:=by omega
   rw[show putRow (Value.int .i64) (Sort.ahead w n) B.block (B.base+0*B.size) G.toArray=putRow (Value.int .i64) (Sort.ahead w n) B.block B.base G.toArray by rw[hz]];have hw:mi w (putRow (Value.int .i64) (Sort.ahead w n) B.block B.base G.toArray) B.block cs (putCells (Value.int .i64) B.base G.toArray cs) e:=
    ⟨rfl,rfl,rfl,by simp[Sort.ahead],O.block,by simp[putRow,mapBlock,Sort.ahead,Array.getElem?_modify,O.block,onCells],by simp[putCells],λd hd=>by
     have:B.block≠d:=λe=>hd e.symm
     simp[putRow,mapBlock,Sort.ahead,Array.getElem?_modify,this]⟩
   obtain⟨p1,p2⟩:=hW.put hg E hw (x':=⟨1,G.map ah⟩) O.size.symm (λi r hr=>by obtain⟨x,_,rfl⟩:=GM hr;rfl) (by simp only[Xd,Nat.mul_one];omega) (λi r j a u hr hj hu=>by
    obtain⟨x,hx,rfl⟩:=GM hr
    match j,hj with
    |0,hj=>
     cases hj;have hi:=aF hx;have Z:B.base+i<cs.size:=by omega
     simp only[Nat.mul_one,XQ]at hu;have:(putCells (Value.int .i64) B.base G.toArray cs)[B.base+i]? =some (.int .i64 x):=by
      have hx':G[i]=x:=by rw[mt hi]at hx;exact Yf hx
      simp[putCells,Z,hi,hx']
     rw[this]at hu;cases hu;exact .int _ _
    |j+1,hj=>simp at hj)
   generalize hw1:putRow (Value.int .i64) (Sort.ahead w n) B.block B.base G.toArray=w1 at p1 p2;have hbl:Below w1.heap.size w1 (grow w1 os):=⟨rfl,rfl,rfl,by simp[grow],λk hk=>heap_grow_old _ _ hk⟩;have hE:=p2.trans (j4 hbl λc M=>(p1.apart c M).1);exact⟨_,σ,rfl,hrep _ _ _ B _ D E (hv.sl_ok E) hnc hmx (λh=>⟨rfl,by obtain⟨cs2,k1,k2⟩:=hE.shape _ _ _ O.block;exact⟨cs2,_,k1,YC⟩⟩),wo p1 hbl,p2.trans (j4 hbl λc M=>(p1.apart c M).1),λc B M=>.inl M⟩
 .have hg:H.get b=some ⟨1,xs.map ah⟩:=hs.get (b,⟨1,xs.map ah⟩) YF;refine⟨Fd _,λc M=>?_,⟨YF,λp hp=>?_⟩,λc x M hn=>⟨?_,?_⟩,λc M h0=>?_,λc M hlt=>?_⟩
  .rw[af.get_put,if_neg];exact hb c M;rintro rfl;rw[hb _ M]at hg;cases hg
  .simp only[WP]at hp;subst hp;rw[af.get_put,if_pos rfl]
  .rw[af.get_put,if_neg];exact M;rintro rfl;exact hn YF
  .simpa using hn
  .rw[af.get_put,if_neg];exact h0;rintro rfl;rw[hg]at h0;cases h0
  .simpa using M
def Kf(b:Nat)(xs:List Int)(E:xs.length<4611686018427387904):ac Tryz.prog 155 [.sl b 0 xs.length] [(b,⟨1,xs.map ah⟩)] λv L=>v=.tup []/\L=[(b,⟨1,(wu xs).map ah⟩)]:=
 GN ⟨_,_,Tryz.func155,rfl⟩ b xs (wu xs) (qJ xs) (.tup []) (λ_ _=>.tuple #[]) (λ_ _ _ _ _ _ _ _ _ _ _=>.tup [] [] rfl YF)
  (λD B j w G u _=>Tryz.slices_Sort_int D B j xs w G u E) (λ_ a j w=>Tryz.slices_Sort_int_none (some a) j w)
def pH(l:List Int):(Lib.compact l).length<=l.length:=by unfold Lib.compact Lib.compactUpTo;rw[Xd];exact W5 (X2 _ _) YF
def At(b:Nat)(xs:List Int)(Z:xs.length<=9223372036854775807):ac Tryz.prog 156 [.sl b 0 xs.length] [(b,⟨1,xs.map ah⟩)] λv L=>v=.sl b 0 (Lib.compact xs).length/\L=[(b,⟨1,(Lib.compact xs++List.replicate (xs.length-(Lib.compact xs).length) 0).map ah⟩)]:=
 GN ⟨_,_,Tryz.func156,rfl⟩ b xs _ (by have:=pH xs;simp;omega) (.sl b 0 (Lib.compact xs).length) (λa j=>.slice (some a) (Lib.compact xs).length j)
  (λw_ σ T S a j E G D h3 h4=>.sl b 0 _ S a j E G (W5 (pH xs) D) h3 h4)
  (λM B j w hH O u=>(Tryz.slices_Compact_int M B j xs w hH Z u).mono λe w' ⟨E,q,D⟩=>⟨E,q,#[],by rw[D,grow_empty]⟩)
  (λG a j w=>by
   have Y:xs=[]:=XA.1 G;subst Y;exact Tryz.slices_Compact_int_empty (some a) j w)
def DG(xs:List Int)(G:xs.length*8<=140737488355328):ac Tryz.prog 162 [.lst (xs.map ah)] [] λv L=>∃o,v=ai o xs.length/\L=ab o 1 (xs.map ah)/\(o=none->xs=[]):=by
 rcases List.eq_nil_or_concat xs with rfl|⟨Y,y,j⟩
 .exact(IJ cloneI_zero ⟨_,_,Tryz.func162,rfl⟩).mono λv L ⟨B,S⟩=>⟨none,B,S,λ_=>rfl⟩
 .have u:xs.map ah≠[]:=by rw[j];simp
  refine(Ao (λA n c xs w M B E O=>cloneI_any A n c xs w M B E O) ⟨_,_,Tryz.func162,rfl⟩ (xs.map ah) u (by simp[ah,AV.one]) (λr D=>by obtain⟨x,_,rfl⟩:=Xi.1 D;rfl) (by simpa using G)).mono ?_;rintro v L ⟨b,rfl,rfl⟩;exact⟨some b,by simp[ai],rfl,λh=>by cases h⟩
end
section
open Go.RowKit
def Lc(xs:List Bool)(B:xs.length<=140737488355328):ac Tryz.prog 185 [.lst (xs.map aD)] [] λv L=>∃o,v=aQ o xs.length/\L=ab o 1 (xs.map aD)/\(o=none->xs=[]):=by refine(hZ (λA n c xs w D G u E=>cloneB_any A n c xs w D G u E) ⟨_,_,Tryz.func185,rfl⟩ (xs.map aD) (by simp[aD,AV.one]) (λr j=>by obtain⟨x,_,rfl⟩:=Xi.1 j;rfl) (by simpa using B)).mono ?_;rintro v L ⟨o,rfl,rfl,h⟩;exact⟨o,YF,rfl,λe=>by simpa using h e⟩
end
section
open Go.RowKit
def DH(xs:List ThrD)(B:xs.length*24<=140737488355328):ac Tryz.prog 186 [.lst (xs.map ThrD.enc)] [] λv L=>∃o,v=aQ o xs.length/\L=ab o 3 (xs.map ThrD.enc)/\(o=none->xs=[]):=by refine(hZ (λA n c xs w D G u E=>cloneT_any A n c xs w D G u E) ⟨_,_,Tryz.func186,rfl⟩ (xs.map ThrD.enc) (by simp[ThrD.enc,AV.one]) (λr j=>by obtain⟨x,_,rfl⟩:=Xi.1 j;rfl) (by simpa using B)).mono ?_;rintro v L ⟨o,rfl,rfl,h⟩;exact⟨o,YF,rfl,λe=>by simpa using h e⟩
end
def sa:RF:=nv (cg Tryz.prog Tryz.f82 [(12,⟨[2,33,34,35],[],true,[]⟩)] [(0,[2,3]),(5,[6])])
abbrev Cs(a b:AV)(L:SH)(Q:R):Prop:=Pc sa 20 Q 0 [] [a,b] L
def Au(u j:AV)(L:SH)(Q:R)(h:Cs u j L Q):ac Tryz.prog 82 [u,j] L Q:=
 fv sa Tryz.func82 h
def pI:RF:=nv (cg Tryz.prog Tryz.f109 [(9,⟨[2,3,20,21],[],true,[]⟩)] [(0,[1]),(1,[3])])
abbrev Av(a:AV)(L:SH)(Q:R):Prop:=Pc pI 20 Q 0 [] [a] L
def yv(j:AV)(L:SH)(Q:R)(h:Av j L Q):ac Tryz.prog 109 [j] L Q:=
 fv pI Tryz.func109 h
def mz:RF:=nv (cg Tryz.prog Tryz.f44 [] [(0,[5,6]),(3,[11])])
abbrev wv(a b c d e:AV)(L:SH)(Q:R):Prop:=Pc mz 20 Q 0 [] [a,b,c,d,e] L
def uB(E D B u j:AV)(L:SH)(Q:R)(h:wv E D B u j L Q):ac Tryz.prog 44 [E,D,B,u,j] L Q:=
 fv mz Tryz.func44 h
def mA:RF:=nv (cg Tryz.prog Tryz.f84 [(96091,⟨[2,3,79],[],true,[]⟩),(87082,⟨[2,3,7,71],[],true,[]⟩),(78073,⟨[2,3,7,61],[],true,[]⟩),(63058,⟨[2,3,7,43],[],true,[]⟩),(48043,⟨[2,3,7,26],[],true,[]⟩),(39034,⟨[2,3,7,18],[],true,[]⟩),(30025,⟨[2,3,7,8],[],true,[]⟩)] [(0,[3])])
abbrev wx(a b c:AV)(L:SH)(Q:R):Prop:=Pc mA 20 Q 0 [] [a,b,c] L
def uC(B u j:AV)(L:SH)(Q:R)(h:wx B u j L Q):ac Tryz.prog 84 [B,u,j] L Q:=
 fv mA Tryz.func84 h
def pJ:RF:=nv (cg Tryz.prog Tryz.f85 [(75070,⟨[2,4,5,6,11,109],[],true,[]⟩),(33028,⟨[2,4,5,6,11,60],[],true,[]⟩)] [(0,[5,6])])
abbrev eR(a b c d e:AV)(L:SH)(Q:R):Prop:=Pc pJ 20 Q 0 [] [a,b,c,d,e] L
def yw(E D B u j:AV)(L:SH)(Q:R)(h:eR E D B u j L Q):ac Tryz.prog 85 [E,D,B,u,j] L Q:=
 fv pJ Tryz.func85 h
def pK:RF:=nv (cg Tryz.prog Tryz.f190 [] [(0,[2])])
abbrev Aw(a b:AV)(L:SH)(Q:R):Prop:=Pc pK 20 Q 0 [] [a,b] L
def yx(u j:AV)(L:SH)(Q:R)(h:Aw u j L Q):ac Tryz.prog 190 [u,j] L Q:=
 fv pK Tryz.func190 h
def iw:RF:=nv (cg Tryz.prog Tryz.f154 [(2411,⟨[1,2,32],[],true,[]⟩),(9,⟨[1,2,3,11,12,13],[],true,[]⟩)] [(4,[5])])
abbrev yz(Q:R)(a b c:AV)(d:SH):Prop:=Pc iw 18 Q 2411 [] [a,b,c] d
abbrev yA(Q:R):Vs->SH->Kn->Prop:=Lp iw 19 Q 9 []
abbrev Ax(a:AV)(L:SH)(Q:R):Prop:=Pc iw 20 Q 0 [] [a] L
def yB(j:AV)(L:SH)(Q:R)(h:Ax j L Q):ac Tryz.prog 154 [j] L Q:=
 fv iw Tryz.func154 h
def oC:RF:=nv (cg Tryz.prog Tryz.f159 [(9,⟨[1,2,3,7,11,12,13],[],true,[]⟩)] [(0,[3]),(4,[9])])
abbrev yC(a b c:AV)(L:SH)(Q:R):Prop:=Pc oC 20 Q 0 [] [a,b,c] L
def wA(B u j:AV)(L:SH)(Q:R)(h:yC B u j L Q):ac Tryz.prog 159 [B,u,j] L Q:=
 fv oC Tryz.func159 h
def kf:RF:=nv (cg Tryz.prog Tryz.f160 [(9,⟨[1,2,5,9,10,11],[],true,[]⟩)] [(0,[2]),(4,[7])])
abbrev ti(a b:AV)(L:SH)(Q:R):Prop:=Pc kf 20 Q 0 [] [a,b] L
def qZ(u j:AV)(L:SH)(Q:R)(h:ti u j L Q):ac Tryz.prog 160 [u,j] L Q:=
 fv kf Tryz.func160 h
def oD:RF:=nv (cg Tryz.prog Tryz.f83 [] [])
abbrev yD(a b:AV)(L:SH)(Q:R):Prop:=Pc oD 20 Q 0 [] [a,b] L
def wB(u j:AV)(L:SH)(Q:R)(h:yD u j L Q):ac Tryz.prog 83 [u,j] L Q:=
 fv oD Tryz.func83 h
def fx:RF:=nv (cg Tryz.prog Tryz.f132 [] [])
abbrev jA(a b:AV)(L:SH)(Q:R):Prop:=Pc fx 20 Q 0 [] [a,b] L
def je(u j:AV)(L:SH)(Q:R)(h:jA u j L Q):ac Tryz.prog 132 [u,j] L Q:=
 fv fx Tryz.func132 h
def gA:RF:=nv (cg Tryz.prog Tryz.f175 [(6,⟨[0,1,7,8],[],true,[]⟩)] [])
abbrev kW(a b:AV)(L:SH)(Q:R):Prop:=Pc gA 20 Q 0 [] [a,b] L
def kg(u j:AV)(L:SH)(Q:R)(h:kW u j L Q):ac Tryz.prog 175 [u,j] L Q:=
 fv gA Tryz.func175 h
def fb:RF:=nv (cg Tryz.prog Tryz.f189 [(6,⟨[0,1,7,8],[],true,[]⟩)] [])
abbrev jf(a b:AV)(L:SH)(Q:R):Prop:=Pc fb 20 Q 0 [] [a,b] L
def iU(u j:AV)(L:SH)(Q:R)(h:jf u j L Q):ac Tryz.prog 189 [u,j] L Q:=
 fv fb Tryz.func189 h
def eT:RF:=nv (cg Tryz.prog Tryz.f157 [(15,⟨[0,1,5,6],[],true,[]⟩)] [])
abbrev iV(a b:AV)(L:SH)(Q:R):Prop:=Pc eT 20 Q 0 [] [a,b] L
def iJ(u j:AV)(L:SH)(Q:R)(h:iV u j L Q):ac Tryz.prog 157 [u,j] L Q:=
 fv eT Tryz.func157 h
def mB:RF:=nv (cg Tryz.prog Tryz.f158 [] [])
abbrev wC(a b:AV)(L:SH)(Q:R):Prop:=Pc mB 20 Q 0 [] [a,b] L
def uD(u j:AV)(L:SH)(Q:R)(h:wC u j L Q):ac Tryz.prog 158 [u,j] L Q:=
 fv mB Tryz.func158 h
structure az where
 op:Int
 a:Int
 b:Int
 c:Int
 n:Int
 site:Int
 deriving Inhabited
def az.enc(i:az):List AV:=[.YJ i.op,.YJ i.a,.YJ i.b,.YJ i.c,.YJ i.n,.YJ i.site]
structure eG where
 regs:Int
 ins:List az
def eG.enc(c:eG):List AV:=[.YJ c.regs,.lst (c.ins.map az.enc)]
def kh(b:Bool):Int:=if b then 1 else 0
def Ay(op a:Int):Int×Bool:=if op=4 then(IntKind.i64.wrap (0-a),true)else if op=5 then(kh (decide (a=0)),true)else(0,false)
def jV(op a b:Int):Int×Bool:=
 if op=6 then(IntKind.i64.wrap (a+b),true)else
 if op=7 then(IntKind.i64.wrap (a-b),true)else
 if op=8 then(IntKind.i64.wrap (a*b),true)else
 if op=9 then(if b=0 then 0 else IntKind.i64.wrap (a.tdiv b),true)else
 if op=10 then(if b=0 then 0 else a.tmod b,true)else
 if op=11 then(kh (decide (a=b)),true)else
 if op=12 then(kh (decide (a≠b)),true)else
 if op=13 then(kh (decide (a<b)),true)else
 if op=14 then(kh (decide (a<=b)),true)else
 if op=15 then(kh (decide (b<a)),true)else
 if op=16 then(kh (decide (b<=a)),true)else
 if op=17 then(kh (decide (a≠0)&&decide (b≠0)),true)else
 if op=18 then(kh (decide (a≠0)||decide (b≠0)),true)else(0,false)
def jD(d:Array Int)(G:∀i j,i<j->j<d.size->d[i]!<=d[j]!):∀m,m<=d.size->
  (Lib.compactUpTo d m).Pairwise (·<·)/\(∀x∈Lib.compactUpTo d m,∃j,j<m/\x=d[j]!)/\(∀j,j<m->d[j]!∈Lib.compactUpTo d m)
 |0,_=>⟨by simp[Lib.compactUpTo],by simp[Lib.compactUpTo],by intro j D;omega⟩
 | m+1,hm=>by
  obtain⟨Z,h2,M⟩:=jD d G m YC;rw[Lib.compactUpTo_succ];by_cases B:Lib.keeps d m=true
  .rw[if_pos B];refine⟨?_,?_,?_⟩
   .rw[List.pairwise_append];refine⟨Z,YF,?_⟩;intro x u y O;obtain⟨j,D,rfl⟩:=h2 x u;simp at O;subst O;have hle:=G j m D YC;have hne:d[j]!≠d[m]! :=by
     intro S;have E:0<m:=by omega
     have h4:d[m]!≠d[m-1]! :=by intro Y;rw[Lib.keeps_neg E Y]at B;cases B
     have Y:d[j]!<=d[m-1]! :=by
      rcases Fn j (m-1)with h|h
      .exact G j (m-1) h YC
      .rw[show j=m-1 from by omega];exact Int.le_refl _
     have h6:d[m-1]!<=d[m]! :=G (m-1) m YC YC;exact h4 YC
    omega
   .intro x u;rw[WM]at u;rcases u with u|u
    .obtain⟨j,D,e⟩:=h2 x u;exact⟨j,YC,e⟩
    .simp at u;exact⟨m,YC,u⟩
   .intro j D;rw[WM];rcases Fn j m with h|h
    .exact .inl (M j h)
    .rw[show j=m from by omega];exact .inr YF
  .rw[if_neg B,Xr];have E:0<m:=by
    rcases XH m with h|h
    .subst h;exact absurd (Lib.keeps_lt_one d 0 YC) B
    .exact h
   have S:d[m]! =d[m-1]! :=by apply Classical.byContradiction;intro h;exact B (Lib.keeps_pos h)
   refine⟨Z,λx u=>?_,λj D=>?_⟩
   .obtain⟨j,D,e⟩:=h2 x u;exact⟨j,YC,e⟩
   .rcases Fn j m with h|h
    .exact M j h
    .rw[show j=m from by omega,S];exact M (m-1) YC
def PY(l:List Int)(j:Nat)(u:j<l.length):l.toArray[j]! =l[j]:=by rw[getElem!_pos _ _ (by simpa using u)];simp
def AD(l:List Int):∀i j,i<j->j<(wu l).toArray.size->(wu l).toArray[i]!<=(wu l).toArray[j]! :=by
 intro i j B D;have u:j<(wu l).length:=by simpa using D
 rw[PY _ i YC,PY _ j u];have hp:(wu l).Pairwise (λx y=>(decide (x<=y))=true):=List.pairwise_mergeSort (λa b c=>by simp;omega) (λa b=>by simp;omega) l;have:=(List.pairwise_iff_getElem.1 hp) i j YC u B;simpa using this
def Cu(l:List Int):List Int:=Lib.compact (wu l)
def EQ(l:List Int)(x:Int):x∈Cu l↔x∈l:=by
 obtain⟨M,G,E⟩:=jD (wu l).toArray (AD _) (wu l).length YF;have D:∀y,y∈wu l↔y∈l:=λy=>by simp[wu,List.mem_mergeSort]
 unfold Cu Lib.compact;constructor
 .intro B;obtain⟨j,u,rfl⟩:=G x B;rw[PY _ j u];exact(D _).1 (WN _)
 .intro B;obtain⟨j,u,rfl⟩:=XJ ((D x).2 B);rw[<-PY _ j u];exact E j u
def Km(l:List Int):(Cu l).Pairwise (·<·):=
 (jD (wu l).toArray (AD _) (wu l).length YF).1
def uI:RF:=nv (cg Tryz.prog Tryz.f184 [] [])
abbrev ER(a:AV)(L:SH)(Q:R):Prop:=Pc uI 20 Q 0 [] [a] L
def Cv(j:AV)(L:SH)(Q:R)(h:ER j L Q):ac Tryz.prog 184 [j] L Q:=
 fv uI Tryz.func184 h
def uJ:RF:=nv (cg Tryz.prog Tryz.f148 [] [])
abbrev ES(a b:AV)(L:SH)(Q:R):Prop:=Pc uJ 20 Q 0 [] [a,b] L
def Cw(u j:AV)(L:SH)(Q:R)(h:ES u j L Q):ac Tryz.prog 148 [u,j] L Q:=
 fv uJ Tryz.func148 h
def sd:RF:=nv (cg Tryz.prog Tryz.f149 [] [])
abbrev Cx(a b c:AV)(L:SH)(Q:R):Prop:=Pc sd 20 Q 0 [] [a,b,c] L
def AE(B u j:AV)(L:SH)(Q:R)(h:Cx B u j L Q):ac Tryz.prog 149 [B,u,j] L Q:=
 fv sd Tryz.func149 h
def pP:RF:=nv (cg Tryz.prog Tryz.f192 [] [])
abbrev AF(a b:AV)(L:SH)(Q:R):Prop:=Pc pP 20 Q 0 [] [a,b] L
def yG(u j:AV)(L:SH)(Q:R)(h:AF u j L Q):ac Tryz.prog 192 [u,j] L Q:=
 fv pP Tryz.func192 h
def kj:RF:=nv (cg Tryz.prog Tryz.f163 [(12,⟨[1,2,3,15,16,17],[],true,[]⟩)] [])
abbrev yH(Q:R):Vs->SH->Kn->Prop:=Lp kj 19 Q 12 []
abbrev AG(a:AV)(L:SH)(Q:R):Prop:=Pc kj 20 Q 0 [] [a] L
def yI(j:AV)(L:SH)(Q:R)(h:AG j L Q):ac Tryz.prog 163 [j] L Q:=
 fv kj Tryz.func163 h
def km:RF:=nv (cg Tryz.prog Tryz.f191 [] [])
abbrev tj(a b:AV)(L:SH)(Q:R):Prop:=Pc km 20 Q 0 [] [a,b] L
def re(u j:AV)(L:SH)(Q:R)(h:tj u j L Q):ac Tryz.prog 191 [u,j] L Q:=
 fv km Tryz.func191 h
def mE:RF:=nv (cg Tryz.prog Tryz.f164 [(78073,⟨[2,4,6],[],true,[]⟩),(73,⟨[2,4,6],[],true,[]⟩)] [(0,[2,3])])
abbrev wF(a b:AV)(L:SH)(Q:R):Prop:=Pc mE 20 Q 0 [] [a,b] L
def eC(u j:AV)(L:SH)(Q:R)(h:wF u j L Q):ac Tryz.prog 164 [u,j] L Q:=
 fv mE Tryz.func164 h
def jE:RF:=nv (cg Tryz.prog Tryz.f112 [(18,⟨[2,3,4,6],[],true,[]⟩)] [(0,[2]),(8,[7])])
abbrev wG(Q:R):Vs->SH->Kn->Prop:=Lp jE 19 Q 18 []
abbrev yJ(a b:AV)(L:SH)(Q:R):Prop:=Pc jE 20 Q 0 [] [a,b] L
def wH(u j:AV)(L:SH)(Q:R)(h:yJ u j L Q):ac Tryz.prog 112 [u,j] L Q:=
 fv jE Tryz.func112 h
def dy:RF:=nv (cg Tryz.prog Tryz.f102 [(51,⟨[10,51,52,53],[],true,[]⟩),(27,⟨[2,5,30,31,32],[],true,[]⟩),(12,⟨[2,5,17,18,19],[],true,[]⟩)] [(0,[2]),(5,[7]),(10,[9])])
abbrev pg(Q:R):Vs->SH->Kn->Prop:=Lp dy 17 Q 51 []
abbrev ph(Q:R):Vs->SH->Kn->Prop:=Lp dy 18 Q 27 []
abbrev pi(Q:R):Vs->SH->Kn->Prop:=Lp dy 19 Q 12 []
abbrev jo(a b:AV)(L:SH)(Q:R):Prop:=Pc dy 20 Q 0 [] [a,b] L
def pj(u j:AV)(L:SH)(Q:R)(h:jo u j L Q):ac Tryz.prog 102 [u,j] L Q:=
 fv dy Tryz.func102 h
def qd:RF:=nv (cg Tryz.prog Tryz.f147 [(12,⟨[18],[],true,[]⟩)] [])
abbrev AY(a:AV)(L:SH)(Q:R):Prop:=Pc qd 20 Q 0 [] [a] L
def yQ(j:AV)(L:SH)(Q:R)(h:AY j L Q):ac Tryz.prog 147 [j] L Q:=
 fv qd Tryz.func147 h
def ly:RF:=nv (cg Tryz.prog Tryz.f183 [(6,⟨[0,5,6],[],true,[]⟩)] [])
abbrev uV(a:AV)(L:SH)(Q:R):Prop:=Pc ly 20 Q 0 [] [a] L
def tE(j:AV)(L:SH)(Q:R)(h:uV j L Q):ac Tryz.prog 183 [j] L Q:=
 fv ly Tryz.func183 h
def mR:RF:=nv (cg Tryz.prog Tryz.f80 [(12,⟨[0,1,5],[],true,[]⟩)] [])
abbrev xk(a b:AV)(L:SH)(Q:R):Prop:=Pc mR 20 Q 0 [] [a,b] L
def vt(u j:AV)(L:SH)(Q:R)(h:xk u j L Q):ac Tryz.prog 80 [u,j] L Q:=
 fv mR Tryz.func80 h
