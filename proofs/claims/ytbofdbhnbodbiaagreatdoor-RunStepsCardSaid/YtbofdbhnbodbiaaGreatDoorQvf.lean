/- A part of the proof; the statement is proved in the last part. -/
import Derived.Test.YtbofdbhnbodbiaaGreatDoorQve
import Derived.Test.YtbofdbhnbodbiaaGreatDoorRows
import Derived.WalkKit
import Derived.ProofKit
import Derived.OpenShut
import Derived.Handy
import Derived.Outline
import Derived.Lib.Hide
import Derived.Deep.Slices
import Derived.Deep.Fields
import Derived.ChangeSame
import Derived.Carry
import Derived.Deep.Draws
import Derived.Laws.AppendOwn
import Derived.Laws.OwnMore
import Derived.Laws.MakeOwn
import Derived.OwnWalk
import Derived.WalkSpells
import Derived.Deep.DeepMust
set_option linter.all false
set_option maxRecDepth 100000
set_option maxHeartbeats 20000000
namespace Go.Proofs.YtbofdbhnbodbiaaGreatDoor.Am
def Fz.slm{α:Type}{K:SH}{b n size:Nat}{l:List α}{f g:α->List AV}{rows:List (List AV)}(Y:(b,⟨size,rows⟩)∈K)(O:rows=l.map f)(N:0<size)(S:n=l.length)(Z:∀y∈l,(f y).length=(g y).length)
  (hc:∀y∈l,∀(q:Nat) (a E:AV),(f y)[q]? =some a->(g y)[q]? =some E->Fz K a E):Fz K (.sl b 0 n) (.lst (l.map g)):=by
 subst O;subst S;cases l with
 |nil=>exact .sl0 b 0
 |cons x l=>
  have get:∀(j:Nat) (r B:List AV),((x::l).map f)[0+j]? =some r->((x::l).map g)[j]? =some B->∃y∈x::l,r=f y/\B=g y:=λj r B u D=>by
   rw[Tm,SJ]at u;rw[SJ]at D;cases M:(x::l)[j]? with
   |none=>rw[M]at u;cases u
   |some y=>rw[M]at u D;cases u;cases D;exact⟨y,S8 M,rfl,rfl⟩
  refine .sl b 0 _ ⟨size,(x::l).map f⟩ _ Y N Ud Ud Ud (λj r B u D=>?_) (λj r B q a E u D h3 h4=>?_)
  .obtain⟨y,G,rfl,rfl⟩:=get j r B u D;exact Z y G
  .obtain⟨y,G,rfl,rfl⟩:=get j r B u D;exact hc y G q a E h3 h4
def Fz.sls{α:Type}{K:SH}{b n size:Nat}{l:List α}{f:α->List AV}{rows:List (List AV)}(E:(b,⟨size,rows⟩)∈K)(B:rows=l.map f)(u:0<size)(D:n=l.length):Fz K (.sl b 0 n) (.lst (l.map f)):=
 Fz.slm E B u D (λ_ _=>rfl) λy _ q a M G j=>by rw[G]at j;cases j;exact .refl _
inductive fU (K:SH):List AV->List AV->Prop where
 |nil:fU K [] []
 |cons {a b:AV} {l m:List AV}:Fz K a b->fU K l m->fU K (a::l) (b::m)
def fU.at_{K:SH}{l m:List AV}(h:fU K l m):l.length=m.length/\∀(i:Nat) (a b:AV),l[i]? =some a->m[i]? =some b->Fz K a b:=by
 induction h with
 |nil=>exact⟨rfl,λi a b h=>by simp at h⟩
 |cons D E j=>
  refine⟨by simp[j.1],λi a b B u=>?_⟩
  match i with
  |0=>cases B;cases u;exact D
  |i+1=>exact j.2 i a b (by simpa using B) (by simpa using u)
def Fz.aggs{K:SH}{l m:List AV}(h:fU K l m):Fz K (.agg l) (.agg m):=.agg l m h.at_.1 h.at_.2
def Fz.tups{K:SH}{l m:List AV}(h:fU K l m):Fz K (.tup l) (.tup m):=.tup l m h.at_.1 h.at_.2
def az.all{L:SH}{v j:AV}(h:Fz L v j):az [v] L [j] []:=.drop (K:=L) (R:=[]) Ud rfl λi a D u B=>by
 match i with
 |0=>cases u;cases B;exact h
 |i+1=>simp at u
def LI{α:Type}(i n:Nat)(A B:α)(h:i<n):(List.replicate i A++List.replicate (n-i) B).set i A=List.replicate (i+1) A++List.replicate (n-(i+1)) B:=by rw[List.set_append_right _ _ Ud,List.length_replicate,T7];obtain⟨k,j⟩:∃k,n-i=k+1:=⟨n-i-1,Ua⟩;rw[j,List.replicate_succ,List.set_cons_zero,show n-(i+1)=k by omega,List.replicate_succ',S3,List.singleton_append]
def LJ{α:Type}(i n:Nat)(A B:α)(h:i<n):(List.replicate i A++List.replicate (n-i) B)[i]? =some B:=by rw[SA Ud,List.length_replicate,T7];obtain⟨k,j⟩:∃k,n-i=k+1:=⟨n-i-1,Ua⟩;rw[j,List.replicate_succ];rfl
def aj:Option Nat->Nat->AV
 |none,_=>.emp
 |some b,n=>.sl b 0 n
def ab(o:Option Nat)(size:Nat)(rows:List (List AV)):SH:=match o with
 |none=>[]
 |some b=>[(b,⟨size,rows⟩)]
def eJ.app{b:Nat}{x:Blk}{L j:SH}(h:eJ b x L j):∀M:SH,eJ b x (M++L) (M++j)
 |[]=>h
 |p::M=>.there p (h.app M)
def az.forget{vs:List AV}{L K R:SH}(u:L.Perm (K++R)):az vs L vs R:=.drop u rfl λi a D B j=>by rw[B]at j;cases j;exact .refl _
def az.box{vs:List AV}{L K R:SH}{b n:Nat}{r D:List AV}(O:L.Perm (K++(b,⟨n,[r]⟩)::R))(E:fU K r D):az vs L vs ((b,⟨n,[D]⟩)::R):=by
 refine⟨K,(b,⟨n,[r]⟩)::R,O,⟨rfl,λi a a2 B u=>by rw[B]at u;cases u;exact .refl _⟩,rfl,λi p q B u=>?_⟩
 match i with
 |0=>
  cases B;cases u;refine⟨rfl,rfl,rfl,λj s s2 N Z=>?_⟩
  match j with
  |0=>cases N;cases Z;exact⟨E.at_.1,E.at_.2⟩
  |j+1=>simp at N
 |i+1=>simp only[TJ]at B u;rw[B]at u;cases u;exact⟨rfl,rfl,rfl,λj r r2 Y M=>by rw[Y]at M;cases M;exact⟨rfl,λk a a2 S G=>by rw[S]at G;cases G;exact .refl _⟩⟩
def Fz.slot{α:Type}{o:Option Nat}{size:Nat}{l:List α}{f g:α->List AV}{rows:List (List AV)}(j:rows=l.map f)(G:o=none->rows=[])(B:0<size)(D:∀y∈l,(f y).length=(g y).length)
  (E:∀y∈l,∀(q:Nat) (a u:AV),(f y)[q]? =some a->(g y)[q]? =some u->Fz (ab o size rows) a u):Fz (ab o size rows) (aj o l.length) (.lst (l.map g)):=by
 cases o with
 |none=>
  have:=G rfl;subst j;have:l=[]:=by simpa using this
  subst this;exact .emp
 |some b=>exact Fz.slm (Sz.2 rfl) j B rfl D E
def bD{β:Type}(n:Nat)(S:Nat->β->List AV×SH)(G:Nat->β->Prop){B:List AV->SH->W.Kn->Prop}{vs:List AV}{L:SH}(N:β)(h0:G 0 N)(hz:az vs L (S 0 N).1 (S 0 N).2)
  (h:∀i o,i<=n->G i o->B (S i o).1 (S i o).2 λD M=>∃j u,i<j/\j<=n/\G j u/\az D M (S j u).1 (S j u).2):W.loop B vs L:=by
 refine⟨λk vs L=>∃i o,i<=n/\G i o/\k=n-i/\vs=(S i o).1/\L=(S i o).2,⟨n,_,_,hz,0,N,SL _,h0,rfl,rfl,rfl⟩,?_⟩;rintro k vs L ⟨i,o,hi,hG,rfl,rfl,rfl⟩;have e:(λD M=>∃m E L2,m<n-i/\az D M E L2/\∃j u,j<=n/\G j u/\m=n-j/\E=(S j u).1/\L2=(S j u).2)=λD M=>∃j u,i<j/\j<=n/\G j u/\az D M (S j u).1 (S j u).2:=by
  funext D M;apply propext;constructor
  .rintro⟨m,E,L2,h1,Z,j,u,Y,O,rfl,rfl,rfl⟩;exact⟨j,u,Ua,Y,O,Z⟩
  .rintro⟨j,u,h1,Z,Y,O⟩;exact⟨n-j,_,_,Ua,O,j,u,Z,Y,rfl,rfl,rfl⟩
 rw[e];exact h i o hi hG
end Go.Proofs.YtbofdbhnbodbiaaGreatDoor.Am
section
namespace Go.Proofs.YtbofdbhnbodbiaaGreatDoor
open Go.ChangeShapes Go.WideShapes Go.ChangeAt Go.RowKit
abbrev Rel(α:Type):=World->(Nat->Prop)->α->List Value->Prop
def rInt(k:IntKind):Rel Int:=λ_ _ n cs=>cs=[.int k n]/\(Lit.int k n).wf=true
def rBool:Rel Bool:=λ_ _ b cs=>cs=[.bool b]
def rSlice{α:Type}(size:Nat)(R:Rel α):Rel (List α):=λw F l cs=>
 ∃A c,cs=[.slice A l.length c]/\l.length<=c/\c<=maxLen/\
  (0<l.length->∃b o,A=some ⟨b,o,none⟩/\F b/\
   ∀i x,l[i]? =some x->∃cs',cs'.length=size/\R w F x cs'/\∀j u,cs'[j]? =some u->w.cell? ⟨b,o+i*size+j,none⟩=some u)
def Rel.Stays{α:Type}(R:Rel α):Prop:=∀(w w':World) (F F':Nat->Prop) (x:α) (cs:List Value),
 (∀b,F b->b<w.heap.size->w'.heap[b]? =w.heap[b]?)->(∀b,F b->b<w.heap.size->F' b)->R w F x cs->R w' F' x cs
theorem lt_of_cell{w:World}{b o:Nat}{u:Value}(h:w.cell? ⟨b,o,none⟩=some u):b<w.heap.size:=by
 rcases Fn b w.heap.size with j|B
 .exact j
 .simp[World.cell?,Array.getElem?_eq_none B]at h
theorem cell_kept{w w':World}{b o:Nat}{u:Value}(j:b<w.heap.size->w'.heap[b]? =w.heap[b]?)(h:w.cell? ⟨b,o,none⟩=some u):w'.cell? ⟨b,o,none⟩=some u:=
 (World.cell?_of_block (w:=w) (w':=w') (a:=⟨b,o,none⟩) (j (lt_of_cell h))).trans h
theorem rInt_stays(k:IntKind):(rInt k).Stays:=λ_ _ _ _ _ _ _ _ h=>h
theorem rBool_stays:rBool.Stays:=λ_ _ _ _ _ _ _ _ h=>h
theorem rSlice_stays{α:Type}{size:Nat}{R:Rel α}(hs:0<size)(hR:R.Stays):(rSlice size R).Stays:=by
 intro w w' F F' l cs N S ⟨A,c,h1,h2,h3,h4⟩;refine⟨A,c,h1,h2,h3,λG=>?_⟩;obtain⟨b,o,hA,E,O⟩:=h4 G;have hb:b<w.heap.size:=by obtain⟨D,M,_,B⟩:=O 0 l[0] (mt G);exact lt_of_cell (B 0 D[0] (mt Ua))
 refine⟨b,o,hA,S b E hb,λi x Y=>?_⟩;obtain⟨D,M,hr,B⟩:=O i x Y;exact⟨D,M,hR w w' F F' x D N S hr,λj u Z=>cell_kept (N b E) (B j u Z)⟩
def Sl{α:Type}(size:Nat)(R:Rel α)(w:World)(F:Nat->Prop)(v:Value)(l:List α):Prop:=rSlice size R w F l [v]
section
variable {α:Type} {size:Nat} {R:Rel α} {w w':World} {F F':Nat->Prop} {v:Value} {l:List α}
theorem Sl.form(h:Sl size R w F v l):∃A c,v=.slice A l.length c/\l.length<=c/\c<=maxLen:=by obtain⟨A,c,B,u,j,_⟩:=h;exact⟨A,c,by simpa using B,u,j⟩
theorem Sl.at_{A:Option Addr}{n c:Nat}(h:Sl size R w F (.slice A n c) l){i:Nat}(N:i<l.length):
  ∃b o cs,A=some ⟨b,o,none⟩/\F b/\cs.length=size/\R w F l[i] cs/\∀j u,cs[j]? =some u->w.cell? ⟨b,o+i*size+j,none⟩=some u:=by
 obtain⟨A',c',D,h2,h3,Z⟩:=h;obtain⟨b,o,Y,S,O⟩:=Z Ua;have e:A=A':=by injection D with D;injection D
 obtain⟨E,M,G,B⟩:=O i l[i] (mt N);exact⟨b,o,E,e.trans Y,S,M,G,B⟩
theorem Sl.stays(j:0<size)(B:R.Stays)(h:Sl size R w F v l)(u:∀b,F b->b<w.heap.size->w'.heap[b]? =w.heap[b]?)(D:∀b,F b->b<w.heap.size->F' b):Sl size R w' F' v l:=
 rSlice_stays j B w w' F F' l [v] u D h
theorem Sl.below{B:Nat}(u:0<size)(E:R.Stays)(h:Sl size R w (·<B) v l)(D:Below B w w'):Sl size R w' (·<B) v l:=
 h.stays u E (λb j _=>D.block b j) (λ_ h _=>h)
theorem Sl.nil:Sl size R w F (.slice none 0 0) ([]:List α):=⟨none,0,rfl,Ud,by simp[maxLen],λh=>absurd h Ud⟩
theorem Sl.len{A:Option Addr}{n c:Nat}(h:Sl size R w F (.slice A n c) l):n=l.length/\n<=c/\c<=maxLen:=by obtain⟨G,E,B,u,j⟩:=h.form;injection B with e1 e2 D;subst e2 D;exact⟨rfl,u,j⟩
end
section
variable {a w:World} {row:Option Nat}
end
def Blk(w:World)(g:Nat)(t:TypeId)(cs:List Value):Prop:=w.heap[g]? =some (.cells cs.toArray t (0,0))
section
variable {w w':World} {g:Nat} {t:TypeId} {cs:List Value}
theorem Blk.lt(h:Blk w g t cs):g<w.heap.size:=by
 rcases Fn g w.heap.size with j|u
 .exact j
 .unfold Blk at h;rw[Array.getElem?_eq_none u]at h;cases h
theorem Blk.free(h:Blk w g t cs)(i:Nat):w.frozen? ⟨g,i,none⟩=false:=by unfold Blk at h;simp[World.frozen?,h]
theorem Blk.new(w:World)(t:TypeId)(cs:List Value){g:Nat}(j:w.heap.size=g):Blk (w.alloc (.cells cs.toArray t)) g t cs:=by subst j;exact heap_alloc_new w _
theorem Blk.alloc(h:Blk w g t cs)(o:Obj):Blk (w.alloc o) g t cs:=(Below.heap_alloc w o g h.lt).trans h
theorem Blk.below{B:Nat}(h:Blk w g t cs)(u:Below B w w')(j:g<B):Blk w' g t cs:=(u.block g j).trans h
theorem Blk.keep(h:Blk w g t cs)(j:Below w.heap.size w w'):Blk w' g t cs:=h.below j h.lt
theorem Blk.only{j:Nat}(h:Blk w g t cs)(B:w.grownBy w' (some j))(u:g≠j):Blk w' g t cs:=(B.block g h.lt (λe=>u (by injection e))).trans h
end
section
variable {H:Type} {enc:TypeId×Value->H} {P:Program} {w:World} {base:Nat} {spare:Nat->Bool} {held:Bool}
def Opens(H:Type)(enc:TypeId×Value->H)(P:Program)(w:World)(base:Nat)(spare:Nat->Bool)(held:Bool){α:Type}(t:TypeId)(R:Rel α):Prop:=
 ∀(fuel:Nat) (cs:List Value) (x:DataW H×List MemPlace),DataW.trod enc P w base spare held fuel t cs=some x->∃d,R w (·<w.heap.size) d cs
theorem opens_int{t:TypeId}{k:IntKind}(ht:P.underlying t=some (.int k)):Opens H enc P w base spare held t (rInt k):=λ_ _ _ h=>by obtain⟨n,u,_,j⟩:=DataW.trod_int ht h;exact⟨n,u,j⟩
theorem opens_slice{α:Type}{t e:TypeId}{size:Nat}{R:Rel α}(ht:P.underlying t=some (.slice e))(hc:P.cellsOf e=size)(hs:0<size)(he:Opens H enc P w base spare held e R):
  Opens H enc P w base spare held t (rSlice size R):=λfuel cs x h=>by
 rcases Deep.open_slice ht h with⟨rfl,_⟩|⟨a,len,cap,m,n,D,Pl,rfl,hb,hl,hm,Y,G,hi⟩
 .exact⟨[],Sl.nil⟩
 rw[hc]at hi;have hlm:len<=m:=by rw[Y];split<;>omega
 have N:∀i,i<len->∃d B,R w (·<w.heap.size) d B/\B.length=size/\∀j u,B[j]? =some u->w.cell? (a.add (i*size+j))=some u:=by
  intro i hil;obtain⟨B,h1,S⟩:=hi i Ua;obtain⟨d,hd⟩:=he _ _ _ S;obtain⟨_,Z,hat⟩:=World.cells?_some h1;refine⟨d,B,hd,Z,λj u hu=>?_⟩;have hj:j<size:=by rw[<-Z];exact(Tf.1 hu).1
  rw[<-Deep.add_add,hat j hj,hu]
 have:∃l:List α,l.length=len/\∀i x,l[i]? =some x->∃B,R w (·<w.heap.size) x B/\B.length=size/\∀j u,B[j]? =some u->w.cell? (a.add (i*size+j))=some u:=by
  clear G Y hlm hi hl h
  induction len with
  |zero=>exact⟨[],rfl,λi x h=>by simp at h⟩
  |succ k ih=>
   obtain⟨l,hl,hl2⟩:=ih (λi hi=>N i Ua);obtain⟨d,B,h1,S⟩:=N k Ua;refine⟨l++[d],by simp[hl],λi x G=>?_⟩;rcases Fn i l.length with h|h
   .rw[SE h]at G;exact hl2 i x G
   .rw[SA h]at G;have hi0:i-l.length=0:=by
     rcases Ts (i-l.length)with h0|h0
     .exact h0
     .rw[LE (by simp only[List.length_singleton];omega)]at G;cases G
    rw[hi0]at G;simp at G;subst G;obtain rfl:i=k:=by omega
    exact⟨B,h1,S⟩
 obtain⟨l,hll,O⟩:=this;subst hll;refine⟨l,some a,cap,rfl,hl,hm,λhn=>?_⟩;have M:a=⟨a.block,a.off,none⟩:=by
  obtain⟨B,_,S,h3⟩:=O 0 l[0] (mt hn);have E:=h3 0 B[0] (mt Ua);rw[show 0*size+0=0 from by omega,Addr.add_zero']at E;unfold World.cell? at E;cases M:a.spot with
  |none=>cases a;simp_all
  |some s=>split at E<;>simp[M]at E
 have hblk:a.block<w.heap.size:=by obtain⟨B,_,S,h3⟩:=O 0 l[0] (mt hn);have E:=h3 0 B[0] (mt Ua);rw[show 0*size+0=0 from by omega,Addr.add_zero',M]at E;exact lt_of_cell E
 refine⟨a.block,a.off,by rw[<-M],hblk,λi x G=>?_⟩;obtain⟨B,h1,S,h3⟩:=O i x G;refine⟨B,S,h1,λj u hu=>?_⟩;have:=h3 j u hu;rw[M,Addr.add_lit]at this;rw[Tq];exact this
theorem opens_fields{t:TypeId}{G:Array Field}{fuel:Nat}{cs:List Value}{x:DataW H×List MemPlace}(ht:P.underlying t=some (.struct G))
  (h:DataW.trod enc P w base spare held fuel t cs=some x):cs.length=P.cellsOf t/\∀(i:Nat) (ty u n:Nat) (B:List Value),(G[i]?).map (λf=>(f.type,f.offset))=some (ty,u)->P.cellsOf ty=n->(cs.drop u).take n=B->
   ∃m y,DataW.trod enc P w base spare held m ty B=some y:=by
 obtain⟨xs,n,_,_,N,M,S⟩:=DataW.trod_struct ht h;refine⟨N,λi ty u k B D O E=>?_⟩;cases j:G[i]? with
 |none=>rw[j]at D;cases D
 |some f=>rw[j]at D;simp only[S0,SF,Prod.mk.injEq]at D;obtain⟨rfl,rfl⟩:=D;refine⟨n,xs[i]'(by have:=(TK.1 j).1;omega),?_⟩;have:=S i f j;rw[O,E]at this;rw[this];exact mt _
end
section
variable {H:Type} {enc:TypeId×Value->H} {P:Program}
theorem trodAll_below(D:laidOutB P=true){W G:World}(E:Below W.heap.size W G){sp:Nat->Bool}:∀(ts:List TypeId) (vs:List Value) (ds:List (DataW H)) (ps:List MemPlace),
  (∀t∈ts,P.readableRec t=true/\t<P.types.size)->DataW.TrodAll enc P W 0 (λ_=>true) true ts vs ds ps->(∀x∈ps,x.block<W.heap.size)->(∀x∈ps,sp x.block=true)->DataW.TrodAll enc P G 0 sp true ts vs ds ps
 | [],vs,ds,ps,_,h,_,_=>by obtain⟨rfl,rfl,rfl⟩:=trodAll_nil h;exact trodAll_mk0
 | t::ts,vs,ds,ps,hr,h,hlt,hsp=>by obtain⟨v,u,d,B,p,q,rfl,rfl,rfl,O,N⟩:=trodAll_cons h;refine trodAll_cons_mk ?_ (trodAll_below D E ts u B q (λt M=>hr t (Tv _ M)) N (λx j=>hlt x (SP _ j)) (λx j=>hsp x (SP _ j)));exact WideElems.Trod_stays D (hr t T5).1 (hr t T5).2 O (λx j=>E.same (hlt x (Tt _ j))) (λx j=>hsp x (Tt _ j))
theorem law_post{f:Func}{s:ChangeSpec}{apart O E S:Bool}{W W':World}{args:Array Value}{ds gs:List (DataW H)}{u:List MemPlace}{tb:TypeId}
  (hl:laidOutB P=true) (hr:∀t∈f.params.toList,P.readableRec t=true/\t<P.types.size) (B:s.vars=[]) (hrt:f.resultTypes=#[tb]) (htb:P.underlying tb=some .bool)
  (hW:DataW.Whole enc P f.params.toList s.vars apart W args.toList ds gs u)
  (hsr:(s.fn H (ds++gs)).results=[.lit (.bool true)]) (hsa:(s.fn H (ds++gs)).args=ds) (hsv:(s.fn H (ds++gs)).vars=[]) (hb:Below W.heap.size W W') :
  s.post enc P f apart O E S W args (.bool true) W':=by
 have N:∀p∈u,p.block<W.heap.size:=λp hp=>hW.lt p hp
 have hold:∀p∈u,(λb=>decide (b<W.heap.size)) p.block=true:=λp hp=>by simpa using N p hp
 obtain⟨G,pv,hA,hV,rfl,hz,hn⟩:=hW;have hW:DataW.Whole enc P f.params.toList s.vars apart W args.toList ds gs (G++pv):=⟨G,pv,hA,hV,rfl,hz,hn⟩;rw[B]at hV;obtain⟨rfl,rfl⟩:=trodVars_none hV;have D:∀sp:Nat->Bool,(∀p∈G,sp p.block=true)->DataW.TrodAll enc P W' 0 sp true f.params.toList args.toList (s.fn H (ds++[])).args G:=λsp hsp=>by rw[hsa];exact trodAll_below hl hb _ _ _ _ hr hA (λx hx=>N x (by simpa using hx)) hsp
 have M:∀(b:Nat) (sp:Nat->Bool) (hd:Bool),DataW.TrodAll enc P W' b sp hd f.resultTypes.toList ((Value.bool true).resultList f.resultTypes.size) (s.fn H (ds++[])).results []:=λb sp hd=>by rw[hsr,hrt];exact trodAll_cons_mk (shut_bool htb _) trodAll_mk0
 have Z:∀sp:Nat->Bool,DataW.TrodVars enc P W' sp s.vars (s.fn H (ds++[])).vars []:=λsp=>by rw[B,hsv];rfl
 refine⟨ds,[],G++[],[],G,[],hW,M _ _ _,D _ (λp hp=>hold p (by simpa using hp)),Z _,World.keptBut_mono (λp hp=>⟨hp,?_⟩) (hb.frame (·∈G++[])),λ_=>?_⟩
 .rw[SC]at hp;exact Or.inr hp
 .refine⟨?_,_,_,([]++G)++[],⟨[]++G,[],trodAll_append (D _ (λ_ _=>rfl)) (M _ _ _),Z _,rfl,?_,?_⟩,?_⟩
  .intro j t r hj hr';rw[hrt]at hj hr'
   match j with
   |0=>
    simp at hj;subst hj;have:r=.bool true:=by simpa[Value.resultList]using hr'.symm
    subst this;exact okWide_bool_mk htb _
   |j+1=>simp at hj
  .intro b Y hp;have hin:MemPlace.cell b Y∈G++[]:=by simpa using hp
   rw[hb.frozen (N _ hin)];exact hz b Y hin
  .intro ha;have:=hn ha;simpa using this
  .intro p hp _;simpa using hp
end
end Go.Proofs.YtbofdbhnbodbiaaGreatDoor
end
section
namespace Go.Proofs.YtbofdbhnbodbiaaGreatDoor
open Go.ChangeShapes Go.WideShapes Go.ChangeAt Go.RowKit
structure Elem(P:Program)(t e:TypeId)(z:Value)(size bytes:Nat):Prop where
 ht:P.underlying t=some (.slice e)
 hi:∃i,P.info? e=some i/\i.zero=some z/\i.size=size/\i.bytes=bytes
 hz:z.cells.size=size
 hs:0<size
theorem elem_mk{P:Program}{t e:TypeId}{z:Value}{size bytes:Nat}(ht:P.underlying t=some (.slice e))(B:(P.info? e).map (λi=>(i.zero,i.size,i.bytes))=some (some z,size,bytes))
  (j:z.cells.size=size) (u:0<size):Elem P t e z size bytes:=
 ⟨ht,by obtain⟨i,M,G,E,D⟩:=info_parts B;exact⟨i,M,G,E,D⟩,j,u⟩
def Flat(w:World)(size:Nat)(A:Option Addr)(n:Nat)(xs:List Value):Prop:=
 xs.length=n*size/\(0<n->∃b o,A=some ⟨b,o,none⟩/\∀j u,xs[j]? =some u->w.cell? ⟨b,o+j,none⟩=some u)
theorem run_append_nil_src{P:Program}(w:World)(base:Nat)(t ty e:TypeId)(i:TypeInfo)(size:Nat)(ht:P.underlying t=some (.slice e))(B:P.info? e=some i)
  (v:Value) (n:Nat) (xs:List Value) (j:w.ownsRow base e size v n xs) (c:Nat):(Builtin.append_ #[t,t] ty #[v,.slice none 0 c]).run P w=.ok v w:=by
 rcases j.2 with⟨rfl,rfl⟩|⟨g,E,D,rfl,_,_,u,_⟩
 .simp[Builtin.append_,run_underlying ht,sizeOf,typeInfo,B,Builtin.lenOf,Builtin.firstCells]
 .simp[Builtin.append_,run_underlying ht,sizeOf,typeInfo,B,Builtin.lenOf,Builtin.firstCells,u,storeCells]
section
variable {P:Program} {w:World} {t e:TypeId} {z:Value} {size bytes:Nat}
theorem run_app(E:Elem P t e z size bytes)(ty:TypeId)(base:Nat)(v:Value)(n:Nat)(xs:List Value)(D:w.ownsRow base e size v n xs)
  (A:Option Addr) (m c:Nat) (B:List Value) (Y:Flat w size A m B) (h1:∀u∈B,u.oneCell'=true)
  (h63:n+m<=maxLen) (M:(n+m)*bytes<=140737488355328) (N:base<=w.heap.size) :
  ∃v' w',(Builtin.append_ #[t,t] ty #[v,.slice A m c]).run P w=.ok v' w'/\w'.ownsRow base e size v' (n+m) (xs++B)/\w.grownBy w' v.ownBlock:=by
 obtain⟨i,hi,Z,hsz,hby⟩:=E.hi;rcases A with _|ad
 .have hm:m=0:=by
   rcases Ts m with O|O
   .exact O
   .obtain⟨b,o,h,_⟩:=Y.2 O;cases h
  subst hm;have hn:B=[]:=TM (by simpa using Y.1);subst hn;exact⟨v,w,run_append_nil_src w base t ty e i size E.ht hi v n xs D c,by simpa using D,World.grownBy.refl w _⟩
 .have G:∀j u,B[j]? =some u->w.cell? (ad.add j)=some u:=by
   intro j u hu;rcases Ts m with O|O
   .subst O;have hn:B=[]:=TM (by simpa using Y.1);subst hn;simp at hu
   .obtain⟨b,o,h,hc⟩:=Y.2 O;injection h with h;subst h;rw[Addr.add_lit];exact hc j u hu
  obtain⟨v',w',S,h2,h3,_⟩:=run_append_own (P:=P) w base t ty e i z size bytes E.ht hi Z hsz hby E.hz E.hs v n xs D ad m c B Y.1 G h1 h63 M N;exact⟨v',w',S,h2,h3⟩
theorem wp_app{o:Oper}{a:Act}{K:Act->World->Prop}{Q:Exit->Act->World->Prop}(s x:Operand)
  (Y:o.op=.call {callee:=.builtin .append,args:=#[s,x],argTypes:=#[t,t]}) (E:Elem P t e z size bytes) (base:Nat)
  (v:Value) (n:Nat) (xs:List Value) (S:a.eval s=v) (M:w.ownsRow base e size v n xs)
  (A:Option Addr) (m c:Nat) (j:List Value) (O:a.eval x=.slice A m c) (Z:Flat w size A m j) (h1:∀u∈j,u.oneCell'=true)
  (N:n+m<=maxLen) (B:(n+m)*bytes<=140737488355328) (D:base<=w.heap.size)
  (h:∀v' w',w'.ownsRow base e size v' (n+m) (xs++j)->w.grownBy w' v.ownBlock->K (a.put o.dst v') w'):o.wp P a w K Q:=by
 obtain⟨v',w',G,h2,h3⟩:=run_app E o.type base v n xs M A m c j Z h1 N B D;unfold Oper.wp execOp;simp only[Y,resolve,invoke,builtin,S4,Tj,SI,List.map_toArray,Sx,S6,S,O,G];exact h v' w' h2 h3
theorem wpList_app{ops:Array Oper}{D:List Oper}{o:Oper}{a:Act}{Q:Exit->Act->World->Prop}(N:o.guard=none)(s x:Operand)
  (Z:o.op=.call {callee:=.builtin .append,args:=#[s,x],argTypes:=#[t,t]}) (E:Elem P t e z size bytes) (base:Nat)
  (v:Value) (n:Nat) (xs:List Value) (Y:a.eval s=v) (M:w.ownsRow base e size v n xs)
  (A:Option Addr) (m c:Nat) (j:List Value) (S:a.eval x=.slice A m c) (hf:Flat w size A m j) (h1:∀u∈j,u.oneCell'=true)
  (O:n+m<=maxLen) (B:(n+m)*bytes<=140737488355328) (G:base<=w.heap.size)
  (h:∀v' w',w'.ownsRow base e size v' (n+m) (xs++j)->w.grownBy w' v.ownBlock->wpList P ops Q D (a.put o.dst v') w'):wpList P ops Q (o::D) a w:=
 wpList_plain N λ_ hK=>wp_app s x Z E base v n xs Y M A m c j S hf h1 O B G λv' w' h2 h3=>hK _ _ (h v' w' h2 h3)
end
theorem own_from{w:World}{base:Nat}{e:TypeId}{size n:Nat}{v:Value}{xs:List Value}(h:w.ownsRow base e size v n xs):∀k,v.ownBlock=some k->base<=k:=λk j=>(h.lt k j).1
theorem Flat.kept{w w':World}{size n:Nat}{A:Option Addr}{xs:List Value}(h:Flat w size A n xs)(M:Below w.heap.size w w'):Flat w' size A n xs:=by refine⟨h.1,λE=>?_⟩;obtain⟨b,o,N,G⟩:=h.2 E;exact⟨b,o,N,λj u D=>cell_kept (λB=>M.block b B) (G j u D)⟩
theorem Sl.one{α:Type}{size:Nat}{R:Rel α}{w:World}{F:Nat->Prop}{b:Nat}{e:TypeId}{cs:List Value}{x:α}(G:w.heap.size=b)(E:cs.length=size)(N:F b)
  (M:R (w.alloc (.cells cs.toArray e)) F x cs):Sl size R (w.alloc (.cells cs.toArray e)) F (.slice (some ⟨b,0,none⟩) 1 1) [x]:=by
 subst G;refine⟨_,1,rfl,Ud,by simp[maxLen],λ_=>⟨_,0,rfl,N,λi y B=>?_⟩⟩
 match i with
 |0=>simp at B;subst B;refine⟨cs,E,M,λj u D=>?_⟩;rw[cell_of_row _ _ _ cs.toArray e (0,0) (heap_alloc_new w _)];simpa using D
 |i+1=>simp at B
end Go.Proofs.YtbofdbhnbodbiaaGreatDoor
end
section
namespace Go.Proofs.YtbofdbhnbodbiaaGreatDoor
open Go.ChangeShapes Go.WideShapes Go.ChangeAt Go.RowKit
abbrev Ints:=Sl (α:=Int) 1 (rInt .i64)
def Fit(l:List Int):Prop:=∀x∈l,(Lit.int .i64 x).wf=true
def Ints.fit{A:Option Addr}{n c:Nat}{l:List Int}{w:World}{F:Nat->Prop}(h:Ints w F (.slice A n c) l):Fit l:=by intro x j;obtain⟨i,u,rfl⟩:=TG j;obtain⟨b,o,M,G,E,_,B,D⟩:=h.at_ u;exact B.2
end Go.Proofs.YtbofdbhnbodbiaaGreatDoor
end
section
namespace Go.Proofs.YtbofdbhnbodbiaaGreatDoor
open Go.ChangeShapes Go.WideShapes Go.ChangeAt Go.RowKit
structure WD where
 nc:Nat
 rw:List Bool
 mx:List Int
 nf:Nat
 nt:Nat
structure LockD where
 owner:Int
 readers:List Int
structure ThrD where
 status:Int
 cond:Int
 atomic:Bool
structure SyncD where
 locks:List LockD
 tx:Int
 done:List Bool
 threads:List ThrD
def rLk:Rel Bool:=λ_ _ b cs=>∃s,cs=[.string s,.bool b]
def rCd:Rel Int:=λ_ _ m cs=>∃s,cs=[.string s,.int .i64 m]/\(Lit.int .i64 m).wf=true
def rLock:Rel LockD:=λw F l cs=>∃A n c,cs=[.int .i64 l.owner,.slice A n c]/\(Lit.int .i64 l.owner).wf=true/\Ints w F (.slice A n c) l.readers
def rThr:Rel ThrD:=λ_ _ t cs=>cs=[.int .i64 t.status,.int .i64 t.cond,.bool t.atomic]/\(Lit.int .i64 t.status).wf=true/\(Lit.int .i64 t.cond).wf=true
def rLk_stays:rLk.Stays:=λ_ _ _ _ _ _ _ _ h=>h
def rCd_stays:rCd.Stays:=λ_ _ _ _ _ _ _ _ h=>h
def rThr_stays:rThr.Stays:=λ_ _ _ _ _ _ _ _ h=>h
def rLock_stays:rLock.Stays:=λw G F N l M j u ⟨A,n,c,E,D,B⟩=>⟨A,n,c,E,D,B.stays Ue (rInt_stays _) j u⟩
structure WV where
 cA:Option Addr
 nc:Nat
 cc:Nat
 lA:Option Addr
 nl:Nat
 lc:Nat
 dA:Option Addr
 nd:Nat
 dc:Nat
 fA:Option Addr
 nf:Nat
 fc:Nat
 tA:Option Addr
 nt:Nat
 tc:Nat
 sA:Option Addr
 ns:Nat
 sc:Nat
structure WOk(w:World)(F:Nat->Prop)(v:WV)(d:WD):Prop where
 nc:v.nc=d.nc/\v.nc<=maxLen
 nf:v.nf=d.nf/\v.nf<=maxLen
 nt:v.nt=d.nt/\v.nt<=maxLen
 locks:Sl 2 rLk w F (.slice v.lA v.nl v.lc) d.rw
 conds:Sl 2 rCd w F (.slice v.dA v.nd v.dc) d.mx
structure SV where
 kA:Option Addr
 nk:Nat
 kc:Nat
 tx:Int
 eA:Option Addr
 ne:Nat
 ec:Nat
 hA:Option Addr
 nh:Nat
 hc:Nat
structure SOk(w:World)(F:Nat->Prop)(v:SV)(d:SyncD):Prop where
 locks:Sl 2 rLock w F (.slice v.kA v.nk v.kc) d.locks
 done:Sl 1 rBool w F (.slice v.eA v.ne v.ec) d.done
 threads:Sl 3 rThr w F (.slice v.hA v.nh v.hc) d.threads
 tx:v.tx=d.tx
 wf:(Lit.int .i64 d.tx).wf=true
abbrev WV.val(v:WV):Value:=.agg #[.slice v.cA v.nc v.cc,.slice v.lA v.nl v.lc,.slice v.dA v.nd v.dc,.slice v.fA v.nf v.fc,.slice v.tA v.nt v.tc,.slice v.sA v.ns v.sc]
abbrev SV.val(v:SV):Value:=.agg #[.slice v.kA v.nk v.kc,.int .i64 v.tx,.slice v.eA v.ne v.ec,.slice v.hA v.nh v.hc]
def WOk.stays{w w':World}{F B:Nat->Prop}{v:WV}{d:WD}(h:WOk w F v d)(j:∀b,F b->b<w.heap.size->w'.heap[b]? =w.heap[b]?)(u:∀b,F b->b<w.heap.size->B b):WOk w' B v d:=
 ⟨h.nc,h.nf,h.nt,h.locks.stays Ue rLk_stays j u,h.conds.stays Ue rCd_stays j u⟩
def SOk.stays{w w':World}{F B:Nat->Prop}{v:SV}{d:SyncD}(h:SOk w F v d)(j:∀b,F b->b<w.heap.size->w'.heap[b]? =w.heap[b]?)(u:∀b,F b->b<w.heap.size->B b):SOk w' B v d:=
 ⟨h.locks.stays Ue rLock_stays j u,h.done.stays Ue rBool_stays j u,h.threads.stays Ue rThr_stays j u,h.tx,h.wf⟩
def inB(i:Int)(n:Nat):Bool:=decide (0<=i)&&decide (i<n)
def fitsS(d:WD)(s:SyncD):Bool:=s.locks.length==d.rw.length&&(s.done.length==d.nf)&&(s.threads.length==d.nt)&&d.mx.all (λm=>inB m d.rw.length)
def rwAt(d:WD)(i:Int):Bool:=d.rw.getD i.toNat false
def allowedS(d:WD)(kind obj:Int):Bool:=
 if kind=1\/kind=2\/kind=5\/kind=12\/kind=13\/kind=14\/kind=15 then obj==-1
 else if kind=3\/kind=4 then inB obj d.nc
 else if kind=6\/kind=7 then inB obj d.rw.length&&!rwAt d obj
 else if kind=8\/kind=9\/kind=10\/kind=11 then inB obj d.rw.length&&rwAt d obj
 else if kind=16\/kind=17\/kind=18\/kind=19 then inB obj d.mx.length
 else if kind=20\/kind=21 then inB obj d.nt
 else if kind=22\/kind=23 then inB obj d.nf
 else false
end Go.Proofs.YtbofdbhnbodbiaaGreatDoor
end
namespace Go.Proofs.YtbofdbhnbodbiaaGreatDoor.Am
section
open Go.RowKit
theorem iM{w w':World}{σ:bE}{T:Nat->Prop}(h:Below w.heap.size w w')(u:∀c,σ.fr c->c<w.heap.size):eH w σ T w' σ T:=
 ⟨h.os,h.tape,h.output,h.size,λc j _=>h.block c j,λc B e j=>⟨B,by rw[h.block c (TK.1 j).1];exact j,rfl⟩,λ_ _ h=>h,rfl,λc j=>h.block c (u c j),λ_ h=>.inl h⟩
theorem tU{w w':World}{σ:bE}{H:ae}(j:bv w σ H)(h:Below w.heap.size w w'):bv w' σ H:=
 ⟨j.named,λb B D=>SW (j.lt b B D) h.size,λb x D=>by
  obtain⟨B,M,e,E,G⟩:=j.live b x D;exact⟨B,M,e,E,G.mono (iM h λc u=>(j.apart c u).1) (h.block _ (j.lt b B E))⟩,λc u=>⟨SW (j.apart c u).1 h.size,(j.apart c u).2⟩,j.inj,j.glob.mono (iM h λc u=>(j.apart c u).1)⟩
theorem HM{w w':World}{σ:bE}{H:ae}{b g:Nat}(Z:bv w σ H)(D:Below w.heap.size w w')(hb:σ b=none)(hlt:b<H.next)(hg:w.heap.size<=g){x:Blk}{cs:Array Value}{e:TypeId}(hgb:w'.heap[g]? =some (.cells cs e (0,0)))
  (even:∀(i:Nat) (r:List AV),x.rows[i]? =some r->r.length=x.size) (room:x.rows.length*x.size<=cs.size)
  (rep:∀(i:Nat) (r:List AV) (j:Nat) (a:AV) (u:Value),x.rows[i]? =some r->r[j]? =some a->cs[i*x.size+j]? =some u->bn w σ (aQ σ H) a u) :
  bv w' (σ.set b ⟨g,0,x.size⟩) (H.new b x)/\eH w σ (aQ σ H) w' (σ.set b ⟨g,0,x.size⟩) (aQ (σ.set b ⟨g,0,x.size⟩) (H.new b x)):=by
 have hnone:H.get b=none:=by
  cases hg:H.get b with
  |none=>rfl
  |some y=>obtain⟨S,_,_,G,_⟩:=Z.live b y hg;rw[hb]at G;cases G
 have hgl:g<w'.heap.size:=(TK.1 hgb).1;have ext:eH w σ (aQ σ H) w' (σ.set b ⟨g,0,x.size⟩) (aQ (σ.set b ⟨g,0,x.size⟩) (H.new b x)):=by
  refine⟨D.os,D.tape,D.output,D.size,λc M _=>D.block c M,λc cs' e' M=>⟨cs',by rw[D.block c (TK.1 M).1];exact M,rfl⟩,λc q hq=>bE.set_old hb hq,rfl,λc M=>D.block c (Z.apart c M).1,?_⟩;rintro c (hfr|⟨b',y,S,G,N,Y⟩)
  .exact .inl (.inl hfr)
  rw[ae.get_new]at G;by_cases O:b=b'
  .subst O;rw[bE.set_eq]at N;cases N;exact .inr (by simp only[]at Y;omega)
  .rw[if_neg O]at G;rw[bE.set_ne _ _ O]at N;exact .inl (.inr ⟨b',y,S,G,N,Y⟩)
 refine⟨⟨?_,?_,?_,?_,?_,Z.glob.mono ext⟩,ext⟩
 .intro c S M;by_cases B:b=c
  .subst B;exact hlt
  .rw[bE.set_ne _ _ B]at M;exact Z.named c S M
 .intro c S M;by_cases B:b=c
  .subst B;rw[bE.set_eq]at M;cases M;exact hgl
  .rw[bE.set_ne _ _ B]at M;exact SW (Z.lt c S M) D.size
 .intro c y hy;rw[ae.get_new]at hy;by_cases B:b=c
  .subst B;rw[if_pos rfl]at hy;cases hy;exact⟨_,cs,e,bE.set_eq _ _ _,.of (.inl rfl) ⟨rfl,hgb,even,by simpa using room,λi r j a u G N Y=>(rep i r j a u G N (by simpa using Y)).mono ext⟩⟩
  .rw[if_neg B]at hy;obtain⟨S,cs',e',G,N⟩:=Z.live c y hy;exact⟨S,cs',e',by rw[bE.set_ne _ _ B];exact G,N.mono ext (D.block _ (Z.lt c S G))⟩
 .intro c M;refine⟨SW (Z.apart c M).1 D.size,?_⟩;rintro⟨b',y,S,G,N,Y⟩;rw[ae.get_new]at G;by_cases O:b=b'
  .subst O;rw[bE.set_eq]at N;cases N;have:=(Z.apart c M).1;simp only[]at Y;omega
  .rw[if_neg O]at G;rw[bE.set_ne _ _ O]at N;exact(Z.apart c M).2 ⟨b',y,S,G,N,Y⟩
 .intro c c' y y' S pl' G N Y h4 h5;rw[ae.get_new]at G N;by_cases B:b=c
  .by_cases E:b=c'
   .exact B.symm.trans E
   .subst B;rw[bE.set_eq]at Y;cases Y;rw[bE.set_ne _ _ E]at h4;have:=Z.lt c' pl' h4;simp only[]at h5;omega
  .by_cases E:b=c'
   .subst E;rw[bE.set_eq]at h4;cases h4;rw[bE.set_ne _ _ B]at Y;have:=Z.lt c S Y;simp only[]at h5;omega
   .rw[if_neg B]at G;rw[if_neg E]at N;rw[bE.set_ne _ _ B]at Y;rw[bE.set_ne _ _ E]at h4;exact Z.inj c c' y y' S pl' G N Y h4 h5
theorem GQ{w:World}{σ:bE}{T:Nat->Prop}{a:AV}{vs:List Value}(h:eG w σ T [a] vs):∃v,vs=[v]/\bn w σ T a v:=by
 match vs,h with
 |[v],h=>exact⟨v,rfl,h.2 0 a v rfl rfl⟩
 |[],h=>exact absurd h.1 Ud
 |_::_::_,h=>exact absurd h.1 Ud
section
variable {P:Program} {f:FuncId} {e:TypeId} {size bytes:Nat}
def Ca(P:Program)(f:FuncId)(e:TypeId)(size bytes:Nat):Prop:=∀(A:Option Addr) (n c:Nat) (xs:List Value) (w:World),Go.Proofs.YtbofdbhnbodbiaaGreatDoor.Flat w size A n xs->(∀x∈xs,x.oneCell'=true)->n*bytes<=140737488355328->(A=none->n=0)->
 Calls P f #[.slice A n c] w λe' w'=>∃v,e'=.returned v/\w'.ownsRow w.heap.size e size v n xs/\Below w.heap.size w w'
theorem xR(hcl:Ca P f e size bytes)(O:∃fn c,P.funcs[f]? =some fn/\fn.body=some c)(rows:List (List AV))(hne:rows≠[])(hone:(rows.all λr=>r.all AV.one)=true)(hev:∀r∈rows,r.length=size)(hbig:rows.length*bytes<=140737488355328):
  ac P f [.lst rows] [] λv L=>∃b,v=.sl b 0 rows.length/\L=[(b,⟨size,rows⟩)]:=by
 have E:∀(i:Nat) (r:List AV),rows[i]? =some r->r.length=size:=λi r hr=>hev r (S8 hr)
 refine⟨O,λH hb hs=>⟨.sl H.next 0 rows.length,({H with next:=H.next+1}:ae).new H.next ⟨size,rows⟩,[(H.next,⟨size,rows⟩)],?_,?_,H.next,rfl,rfl⟩⟩
 .intro w M vs hW hvs;obtain⟨v,rfl,hv⟩:=GQ hvs;obtain⟨A,cap,rfl,hn,hm,ha⟩:=hv.lst_inv;obtain⟨b,o,sz,rfl,hl,hrep⟩:=ha hne;have hl0:0<rows.length:=List.length_pos_iff.2 hne;obtain rfl:size=sz:=by rw[<-hl.even 0 rows[0] (mt hl0)];exact(E 0 rows[0] (mt hl0)).symm
  have hdm:∀p,p<rows.length*size->p / size<rows.length/\p % size<size/\p=p / size*size+p % size:=λp hp=>
   ⟨(Nat.div_lt_iff_lt_mul hl.pos).2 hp,Nat.mod_lt _ hl.pos,by rw[Nat.mul_comm];exact(Nat.div_add_mod _ _).symm⟩
  let xs:List Value:=(List.range (rows.length*size)).map λp=>(w.cell? ⟨b,o+p,none⟩).getD undef
  have Y:xs.length=rows.length*size:=by simp[xs]
  have D:∀p u,xs[p]? =some u->w.cell? ⟨b,o+p,none⟩=some u:=λp u Z=>by
   have hp:p<rows.length*size:=by rw[<-Y];exact aA Z
   simp only[xs,SJ,T9 hp,S0,SF]at Z;obtain⟨d1,d2,d3⟩:=hdm p hp;obtain⟨q,hq⟩:=hl.cell (p / size) (p % size) d1 d2;rw[Tq,<-d3]at hq;rw[hq]at Z ⊢;simp only[TC]at Z;rw[Z]
  have hrp:∀(i:Nat) (r:List AV) (j:Nat) (a:AV) (u:Value),rows[i]? =some r->r[j]? =some a->xs[i*size+j]? =some u->bn w M (aQ M H) a u:=λi r j a u S h2 h3=>hrep i r j a u S h2 (by rw[Tq];exact D _ u h3)
  have N:∀x∈xs,x.oneCell'=true:=λx hx=>by
   obtain⟨p,hp,rfl⟩:=TG hx;have hp':p<rows.length*size:=by omega
   obtain⟨d1,d2,d3⟩:=hdm p hp';have hr:rows[p / size]? =some rows[p / size]:=mt d1;have hj:p % size<rows[p / size].length:=by rw[E _ _ hr];exact d2
   have S:=hrp (p / size) _ (p % size) _ xs[p] hr (mt hj) (by rw[<-d3];exact mt hp);exact S.one (SM.1 (SM.1 hone _ (Sy d1)) _ (Sy hj))
  refine(hcl (some ⟨b,o,none⟩) rows.length cap xs w ⟨Y,λ_=>⟨b,o,rfl,D⟩⟩ N hbig (λh=>by cases h)).mono ?_;rintro e' w' ⟨v',rfl,hown,hbl⟩;rcases hown.2 with⟨_,h0⟩|⟨g,cap',cur,rfl,hg,hgb,hnc,hcm,hcs,ht⟩
  .omega
  have hσ:M H.next=none:=by
   cases hq:M H.next with
   |none=>rfl
   |some pl=>exact absurd (hW.named _ pl hq) (Nat.lt_irrefl _)
  have hW1:bv w M {H with next:=H.next+1}:=hW.congr (λ_=>rfl) (TY _);have G:aQ M ({H with next:=H.next+1}:ae)=aQ M H:=aQ.congr λ_=>rfl
  have hle:rows.length*size<=cur.size:=by rw[hcs];exact SR _ hnc
  obtain⟨g1,g2⟩:=HM (b:=H.next) (g:=g) (x:=⟨size,rows⟩) hW1 hbl hσ (Nat.lt_succ_self _) hg hgb E hle (λi r j a u S h2 h3=>by
   rw[G];refine hrp i r j a u S h2 ?_;have hj:j<size:=by rw[<-E i r S];exact aA h2
   rw[<-ht,S5 (mX (aA S) hj),SY];exact h3)
  refine⟨_,_,rfl,?_,g1,by rw[G]at g2;exact g2,λc pl B=>?_⟩
  .refine bn.sl H.next 0 rows.length ⟨g,0,size⟩ ⟨g,0,none⟩ cap' (bE.set_eq _ _ _) (.inl rfl) hnc hcm λ_=>⟨Ud,cur,e,hgb,by simp;omega⟩
  .by_cases hbc:H.next=c
   .subst hbc;exact .inr (Fd _)
   .rw[bE.set_ne _ _ hbc]at B;exact .inl B
 .refine⟨TY _,λc B=>?_,⟨Ud,λp hp=>?_⟩,λc x B _=>⟨?_,?_⟩,λc B h0=>?_,λc B hlt=>?_⟩
  .have B:H.next+1<=c:=B;rw[ae.get_new,if_neg Ua];exact hb c Ua
  .simp only[Sz]at hp;subst hp;rw[ae.get_new,if_pos rfl]
  .rw[ae.get_new,if_neg];exact B;rintro rfl;rw[hb _ (Fd _)]at B;cases B
  .simp only[Sx,S6,Sz];rintro rfl;rw[hb _ (Fd _)]at B;cases B
  .rw[ae.get_new,if_neg Ua];exact h0
  .simp only[Sx,S6,Sz]at B;omega
theorem FF(G:Ca P f e size bytes)(j:∃S c,P.funcs[f]? =some S/\S.body=some c):ac P f [.lst []] [] λv L=>v=.lst []/\L=[]:=by
 refine⟨j,λH hb hs=>⟨.lst [],H,[],?_,.refl hb hs,rfl,rfl⟩⟩;intro w Z vs O D;obtain⟨v,rfl,hv⟩:=GQ D;obtain⟨A,N,rfl,hn,hm,_⟩:=hv.lst_inv;refine(G A 0 N [] w ⟨Ud,Ua⟩ Ud Ua (λ_=>rfl)).mono ?_;rintro e' w' ⟨v',rfl,u,B⟩;refine⟨v',Z,rfl,?_,tU O B,iM B λc M=>(O.apart c M).1,λc pl M=>.inl M⟩;rcases u.2 with⟨rfl,_⟩|⟨g,Y,cur,rfl,hg,hgb,hnc,E,hcs,ht⟩
 .exact .lst0 _ _ (by unfold maxLen;omega)
 .exact .lst0 _ _ E
theorem FG(E:∀(A:Option Addr) (c:Nat) (w:World),Calls P f #[.slice A 0 c] w λS w'=>∃B,S=.returned (.slice B 0 0)/\Below w.heap.size w w')(j:∃O c,P.funcs[f]? =some O/\O.body=some c):ac P f [.lst []] [] λv L=>v=.emp/\L=[]:=by refine⟨j,λH hb hs=>⟨.emp,H,[],?_,.refl hb hs,rfl,rfl⟩⟩;intro w Y vs N D;obtain⟨v,rfl,Z⟩:=GQ D;obtain⟨A,M,rfl,hn,hm,_⟩:=Z.lst_inv;refine(E A M w).mono ?_;rintro S w' ⟨B,rfl,u⟩;exact⟨_,Y,rfl,.emp B,tU N u,iM u λc G=>(N.apart c G).1,λc pl G=>.inl G⟩
end
end
section
open Go.RowKit
def aJ:Option Nat->Nat->AV
 |none,_=>.lst []
 |some b,n=>.sl b 0 n
def tV{P:Program}{f:FuncId}{e:TypeId}{size u:Nat}(D:Ca P f e size u)(j:∃N c,P.funcs[f]? =some N/\N.body=some c)(rows:List (List AV))(B:(rows.all λr=>r.all AV.one)=true)(M:∀r∈rows,r.length=size)(E:rows.length*u<=140737488355328):
  ac P f [.lst rows] [] λv L=>∃o,v=aJ o rows.length/\L=ab o size rows/\(o=none->rows=[]):=by
 rcases List.eq_nil_or_concat rows with rfl|⟨Y,y,G⟩
 .exact(FF D j).mono λv L ⟨S,O⟩=>⟨none,S,O,λ_=>rfl⟩
 .refine(xR D j rows (by rw[G];simp) B M E).mono ?_;rintro v L ⟨b,rfl,rfl⟩;exact⟨some b,rfl,rfl,λh=>by cases h⟩
end
section
structure W.callM(P:Program)(g:FuncId)(args:List AV)(L:SH)(KL:AV->SH->Prop):Prop where
 h:ac P g args L KL
structure W.dcallM(P:Program)(us:List W.WR)(i:Nat)(g:FuncId)(args:List AV)(L:SH)(KN:AV->SH->List Nat->Prop):Prop where
 h:∃Kc R:SH,L.Perm (Kc++R)/\(∀x∈us,W.free x ⟨i,[],Kc.names,[],true,[]⟩)/\ac P g args Kc λv Kc'=>KN v (Kc'++R) Kc.names
section
variable {P:Program} {g:FuncId} {args:List AV} {L:SH} {KL:AV->SH->Prop} {KN:AV->SH->List Nat->Prop} {us:List W.WR} {i:Nat} {v:AV}
theorem FH(h:W.callM P g args L KL):W.call P (.fn g []) args L KL:=by rw[Lu,Ta];exact h.h
theorem NQ(j:aq P g args v)(h:KL v L):W.callM P g args L KL:=⟨j.call h⟩
theorem GR(h:ac P g args L KL):W.callM P g args L KL:=⟨h⟩
theorem Cb{K R:SH}{j:AV->SH->Prop}(h:ac P g args K j)(D:L.Perm (K++R))(B:∀v u,j v u->KL v (u++R)):W.callM P g args L KL:=⟨h.frame D B⟩
theorem fE{b:Nat}{x:Blk}{u:SH}{j:AV->SH->Prop}(h:ac P g args [(b,x)] j)(E:eJ b x L u)(D:∀v B,j v B->KL v (B++u)):W.callM P g args L KL:=⟨h.frame E.perm D⟩
theorem xS{j b2:Nat}{x1 x2:Blk}{u L2:SH}(B:eJ j x1 L u)(h2:eJ b2 x2 u L2):L.Perm ([(j,x1),(b2,x2)]++L2):=B.perm.trans (h2.perm.cons _)
theorem Jo{j b2:Nat}{x1 x2:Blk}{B L2:SH}{u:AV->SH->Prop}(h:ac P g args [(j,x1),(b2,x2)] u)(G:eJ j x1 L B)(h2:eJ b2 x2 B L2)(E:∀v D,u v D->KL v (D++L2)):W.callM P g args L KL:=⟨h.frame (xS G h2) E⟩
theorem r9{b:Nat}{x:Blk}{j:SH}{u:AV->SH->Prop}(h:ac P g args [(b,x)] u)(G:eJ b x L j)(E:∀y∈us,W.free y ⟨i,[],[b],[],true,[]⟩)(D:∀v B,u v B->KN v (B++j) [b]):W.dcallM P us i g args L KN:=
 ⟨[(b,x)],j,G.perm,E,h.mono D⟩
theorem HN{j b2:Nat}{x1 x2:Blk}{B L2:SH}{u:AV->SH->Prop}(h:ac P g args [(j,x1),(b2,x2)] u)(M:eJ j x1 L B)(h2:eJ b2 x2 B L2)(G:∀y∈us,W.free y ⟨i,[],[j,b2],[],true,[]⟩)(E:∀v D,u v D->KN v (D++L2) [j,b2]):W.dcallM P us i g args L KN:=
 ⟨[(j,x1),(b2,x2)],L2,xS M h2,G,h.mono E⟩
theorem az.keep1{u:AV}{b:Nat}{x:Blk}{j:SH}(D:eJ b x L j)(B:Fz j v u):az [v] L [u] [(b,x)]:=by
 refine .drop (K:=j) (D.perm.trans (SG (l₁:=[(b,x)]))) rfl λi a E e1 e2=>?_
 match i with
 |0=>cases e1;cases e2;exact B
 |i+1=>simp at e1
theorem az.keep2{j:AV}{u b2:Nat}{x1 x2:Blk}{B L2:SH}(E:eJ u x1 L B)(h2:eJ b2 x2 B L2)(D:Fz L2 v j):az [v] L [j] [(u,x1),(b2,x2)]:=by
 refine .drop (K:=L2) ((xS E h2).trans SG) rfl λi a G e1 e2=>?_
 match i with
 |0=>cases e1;cases e2;exact D
 |i+1=>simp at e1
theorem ac.nd{f:FuncId}{Q:AV->SH->Prop}(B:∃u c,P.funcs[f]? =some u/\u.body=some c)(h:L.names.Nodup->ac P f args L Q):ac P f args L Q:=⟨B,λH D j=>(h j.nd).2 H D j⟩
theorem ac.pre{f:FuncId}{args2:List AV}{L2:SH}{Q:AV->SH->Prop}(hz:az args L args2 L2)(h:ac P f args2 L2 Q):ac P f args L Q:=⟨h.1,λH hb hs=>by
 obtain⟨H2,E,O,f3,f4⟩:=kM hz hs hb;obtain⟨v,H',L',h1,h2,h3⟩:=h.2 H2 E.bd E.sub;refine⟨v,H',L',λw G M hW D=>?_,E.trans (h2.low (by rw[O];exact Fd _)) (Fd _),h3⟩;obtain⟨g1,N,g3⟩:=f3 w G hW;refine(h1 w G M g1 (g3 M D)).mono ?_;rintro e w' ⟨S,B,rfl,k1,k2,j,Z⟩;exact⟨S,B,rfl,k1,k2,⟨j.os,j.tape,j.output,j.size,λc u hT=>j.keep c u (λh=>hT (N c h)),j.shape,j.sig,j.eqfr,j.frame,λc u=>(j.own c u).imp (N c) id⟩,λc Y u=>by rw[<-O];exact Z c Y u⟩⟩
theorem az.vals{vs j:List AV}(h:fU [] vs j):az vs L j L:=.drop (K:=[]) (.refl _) h.at_.1 h.at_.2
theorem bb(k:FuncId)(h:W.callM P k args L KL):W.callM P k args L KL:=h
theorem eh(k:FuncId)(h:W.dcallM P us i k args L KN):W.dcallM P us i k args L KN:=h
theorem GS(h:W.dcallM P us i g args L KN):W.dcall P us i (.fn g []) args L KN:=by rw[I6,Ta];exact h.h
theorem LK(h:aq P g args v)(B:∀x∈us,W.free x ⟨i,[],[],[],true,[]⟩)(j:KN v L []):W.dcallM P us i g args L KN:=
 ⟨[],L,.refl _,B,ac.mono h λu K ⟨E,D⟩=>by subst E;subst D;exact j⟩
end
theorem LL{j:Nat}{x:AV}{K:AV->Prop}(h:W.faddr j x K):W.faddr j x K:=h
theorem Qa{n:Nat}{x j:AV}{L:SH}{K:AV->Prop}(h:W.idx n x j L K):W.idx n x j L K:=h
theorem Qb{x:AV}{K:AV->Prop}(h:W.len x K):W.len x K:=h
theorem Qc{i:Nat}{x:AV}{K:AV->Prop}(h:W.ext i x K):W.ext i x K:=h
theorem NR{us:List W.WR}{y:W.WR}{A:Prop}(h:W.calm us y A):W.calm us y A:=h
theorem NS{r:W.Fp}{K:W.Fp->Prop}(h:W.note r K):W.note r K:=h
theorem NT{c x y:AV}{K:AV->Prop}(h:W.pick c x y K):W.pick c x y K:=h
theorem M3{x:AV}{j:Bool}{A:(AV->SH->Prop)->Prop}{L:SH}{K:AV->SH->Prop}(h:W.grd x j A L K):W.grd x j A L K:=h
theorem Jq{x:AV}{j:Bool}{A:(AV->SH->W.Fp->Prop)->Prop}{L:SH}{K:AV->SH->W.Fp->Prop}(h:W.dgrd x j A L K):W.dgrd x j A L K:=h
theorem RM{op:UnOp}{x:AV}{K:AV->Prop}(h:W.un op x K):W.un op x K:=h
theorem Qd{x:AV}{L:SH}{K:AV->SH->Prop}(h:W.box x L K):W.box x L K:=h
theorem NU{v:AV}{L:SH}{K:AV->SH->Prop}(h:W.frz1 v L K):W.frz1 v L K:=h
theorem LM{n:Nat}{a v:AV}{L:SH}{K:SH->Prop}(h:W.store n a v L K):W.store n a v L K:=h
theorem NV{len n:Nat}{x j:AV}{K:AV->Prop}(h:W.idxP len n x j K):W.idxP len n x j K:=h
theorem Jr{n:Nat}{z:List AV}{len:Nat}{ps:List (Nat×AV)}{L:SH}{K:AV->SH->Prop}(h:W.bslice n z len ps L K):W.bslice n z len ps L K:=h
theorem Js{n by_:Nat}{z:List AV}{l c:AV}{L:SH}{K:AV->SH->Prop}(h:W.mslice n by_ z l c L K):W.mslice n by_ z l c L K:=h
theorem Jt{x:AV}{K:AV->Prop}(h:W.nilchk x K):W.nilchk x K:=h
end
section
section
variable {P:Program} {g:FuncId} {args:List AV} {L:SH} {KL:AV->SH->Prop}
theorem Fr.permS{B:Nat}{E L'':SH}{H H':ae}(h:Fr B L H E H')(hp:E.Perm L''):Fr B L H L'' H':=
 ⟨h.next,h.bd,h.sub.perm hp,λb x D u=>⟨(h.keep b x D u).1,λG=>(h.keep b x D u).2 ((hp.map Prod.fst).mem_iff.2 G)⟩,h.dom,λb M j=>h.fresh b ((hp.map Prod.fst).mem_iff.2 M) j⟩
theorem w6{B:AV->SH->Prop}(h:ac P g args [] B)(G:∀v D,B v D->∃j:SH,(D++L).Perm j/\(j.names.Nodup->KL v j)):W.callM P g args L KL:=by refine⟨⟨h.1,λH M E=>?_⟩⟩;obtain⟨v,Z,j,S,O,L'',hp,N⟩:=(h.frame (K:=[]) (R:=L) (R2:=λv Y=>∃j:SH,Y.Perm j/\(j.names.Nodup->KL v j)) (.refl _) G).2 H M E;have u:=O.permS hp;exact⟨v,Z,L'',S,u,N u.sub.nd⟩
theorem DK(M:SH){o:Option Nat}{i n by_ j:Nat}{R:SH}{rows m:List (List AV)}{k:Nat}(B:rows.length=i)(N:o=none->rows=[])(G:k=m.length)(S:0<m.length)(h2:2*(i+m.length)*by_<=2^48)(E:2*(i+m.length)<=2^62)(h4:(m.all λr=>r.all AV.one)=true)
  (h:∀b,(∀p∈M,b≠p.1)->KL (.sl b 0 (i+m.length)) ((b,⟨n,rows++m⟩)::(j,⟨n,m⟩)::(M++R))):W.append n by_ (aj o i) (.sl j 0 k) ((j,⟨n,m⟩)::(M++(ab o n rows++R))) KL:=by
 subst G;cases o with
 |none=>
  have u:=N rfl;subst u;simp only[S2]at B;subst B;have:=B8 (KL:=KL) (L:=(j,⟨n,m⟩)::(M++R)) (by_:=by_) (jG (.head _) rfl rfl) (by simpa using h2) (by simpa using E) h4 (by show m.length≠0;omega) (λb D=>by
   have:=h b λp hp e=>D (by rw[e];exact S9 (Tv _ (Tt _ hp)))
   simpa using this)
  exact this
 |some b=>subst B;exact jF (y:=⟨n,rows⟩) (l:=rows) (by simp[ab]) rfl Ud Ud (jG (.head _) rfl rfl) h2 E h4 (.there _ (eJ.app (.here R) M)) (λO D=>h O λp hp e=>D (by rw[e];exact S9 (Tv _ (Tt _ hp))))
end
end
section
section
variable {P:Program} {F:TypeId->Option (List TypeId)} {K:AV->Prop} {KL:AV->SH->Prop} {L:SH}
theorem DL{n:Nat}{rows:List (List AV)}{i j:Nat}{r:List AV}{v:AV}(h:K v)(u:rows[i]? =some r:=by first|assumption|rfl)(h2:r[j]? =some v:=by rfl):W.load false n (.pptr rows i j) L K:=DI u h2 h
theorem DM{n b i j:Nat}{x:Blk}{r:List AV}{v:AV}(h:K v)(u:(b,x)∈L:=by repeat constructor)(B:x.rows[i]? =some r:=by first|assumption|rfl)(h2:r[j]? =some v:=by rfl):W.load false n (.ptr b i j) L K:=xO u B h2 h
theorem w7{n:Nat}{rows:List (List AV)}{i:Nat}{r:List AV}(h:K (.agg r))(j:rows[i]? =some r:=by first|assumption|rfl)(h2:r.length=n:=by rfl):W.load true n (.pptr rows i 0) L K:=Lz j h2 h
theorem GT{n b i:Nat}{x:Blk}{r:List AV}(h:K (.agg r))(j:(b,x)∈L:=by repeat constructor)(u:x.rows[i]? =some r:=by first|assumption|rfl)(h2:r.length=n:=by rfl):W.load true n (.ptr b i 0) L K:=LA j u h2 h
theorem M4{t:TypeId}{k:IntKind}{a b:Int}(h:K (.int k (a.tmod b)))(j:b≠0:=by first|assumption|decide|omega|exact of_decide_eq_false Ub):W.bin P F .rem t (.int k a) (.int k b) K:=DH j h
theorem M5{t:TypeId}{k:IntKind}{a b:Int}(h:K (.int k (k.wrap (a.tdiv b))))(j:b≠0:=by first|assumption|decide|omega|exact of_decide_eq_false Ub):W.bin P F .quo t (.int k a) (.int k b) K:=P5 j h
theorem DN{p:Bool}{A B:Prop}(h:A)(hp:p=true:=by first|assumption|rfl):W.cond (.bool p) A B:=Je hp h
theorem DO{p:Bool}{A B:Prop}(h:B)(hp:p=false:=by first|assumption|rfl):W.cond (.bool p) A B:=DG hp h
theorem sa{n:Nat}{rows:List (List AV)}{k:IntKind}{j:Nat}{r:List AV}(h:K (.pptr rows j 0))(u:rows[j]? =some r:=by first|assumption|rfl)(h2:r.length=n:=by rfl):W.idx n (.lst rows) (.int k (j:Int)) L K:=LB u h2 h
theorem LN{n:Nat}{rows:List (List AV)}{k:IntKind}{i:Int}{r:List AV}(h:K (.pptr rows i.toNat 0))(u:0<=i:=by first|decide|omega)(j:rows[i.toNat]? =some r:=by first|assumption|rfl)(h2:r.length=n:=by rfl):W.idx n (.lst rows) (.int k i) L K:=LC u j h2 h
theorem dN{n b m:Nat}{k:IntKind}{i:Nat}{y:Blk}(h:K (.ptr b i 0))(u:i<m:=by first|assumption|omega)(j:(b,y)∈L:=by repeat constructor)(h2:y.size=n:=by rfl):W.idx n (.sl b 0 m) (.int k (i:Int)) L K:=Jl u j h2 h
theorem LO{n b j m:Nat}{k:IntKind}{i:Int}{y:Blk}(h:K (.ptr b (j+i.toNat) 0))(D:0<=i:=by first|decide|omega)(B:i.toNat<m:=by first|assumption|omega)(u:(b,y)∈L:=by repeat constructor)(h2:y.size=n:=by rfl):W.idx n (.sl b j m) (.int k i) L K:=B4 D B u h2 h
theorem Qe{i:Nat}{vs:List AV}{v:AV}(h:K v)(j:vs[i]? =some v:=by rfl):W.ext i (.tup vs) K:=P9 j h
theorem Ju{p:Bool}{x y:AV}(h:K x)(hp:p=true:=by first|assumption|rfl):W.pick (.bool p) x y K:=I7 hp h
theorem Jv{p:Bool}{x y:AV}(h:K y)(hp:p=false:=by first|assumption|rfl):W.pick (.bool p) x y K:=I8 hp h
theorem Cc{p j:Bool}{A:(AV->SH->Prop)->Prop}(h:A KL)(hp:p=j:=by first|assumption|rfl):W.grd (.bool p) j A L KL:=Lx hp h
theorem Cd{p j:Bool}{A:(AV->SH->Prop)->Prop}(h:KL bK L)(hp:p=!j:=by first|assumption|rfl):W.grd (.bool p) j A L KL:=Ly hp h
theorem Jw{u:AV->SH->W.Fp->Prop}{p j:Bool}{A:(AV->SH->W.Fp->Prop)->Prop}(h:A u)(hp:p=j:=by first|assumption|rfl):W.dgrd (.bool p) j A L u:=I9 hp h
theorem Jx{u:AV->SH->W.Fp->Prop}{p j:Bool}{A:(AV->SH->W.Fp->Prop)->Prop}(h:u bK L ⟨[],[],[],L.names⟩)(hp:p=!j:=by first|assumption|rfl):W.dgrd (.bool p) j A L u:=Ja hp h
theorem LP{b i j:Nat}{x:Blk}{u:SH}(h:KL (.pptr x.rows i j) u)(D:eJ b x L u:=by repeat constructor)(h2:0<x.size:=by first|exact T8 _|decide|simp)(B:0<x.rows.length:=by first|exact T8 _|decide|simp):W.frz1 (.ptr b i j) L KL:=B6 D h2 B h
theorem DP{u:SH->Prop}{n b:Nat}{v:AV}{m:Nat}{r cs:List AV}{j:SH}(h:u j)(B:wZ b ⟨m,[r]⟩ ⟨m,[cs]⟩ L j:=by repeat constructor)(h2:v.cells? =some cs:=by rfl)(E:cs.length=n:=by rfl)(h4:cs.all AV.one=true:=by rfl)(D:r.length=n:=by rfl):W.store n (.ptr b 0 0) v L u:=a8 B h2 E h4 D h
theorem vl{B:SH->Prop}{b i j:Nat}{v:AV}{x:Blk}{r:List AV}{u:SH}(h:B u)(D:wZ b x ⟨x.size,x.rows.set i (r.set j v)⟩ L u:=by repeat constructor)(G:x.rows[i]? =some r:=by first|assumption|rfl)(h2:v.cells? =some [v]:=by rfl)(h4:v.one=true:=by rfl)(E:j<r.length:=by first|decide|exact Nat.lt_of_sub_pos (T8 _)|simp|omega):W.store 1 (.ptr b i j) v L B:=vk D G h2 h4 E rfl h
theorem DQ{u:SH->Prop}{n b i:Nat}{v:AV}{x:Blk}{r cs:List AV}{j:SH}(h:u j)(B:wZ b x ⟨x.size,x.rows.set i cs⟩ L j:=by repeat constructor)(G:x.rows[i]? =some r:=by first|assumption|rfl)(h2:v.cells? =some cs:=by rfl)(E:cs.length=n:=by rfl)(h4:cs.all AV.one=true:=by rfl)(D:r.length=n:=by rfl):W.store n (.ptr b i 0) v L u:=DJ B G h2 E h4 D rfl h
theorem Jy{len n:Nat}{rows:List (List AV)}{j u:Nat}{k:IntKind}{i:Int}(h:K (.pptr rows j (u+i.toNat*n)))(D:0<=i:=by first|decide|omega|exact Int.natCast_nonneg _)(B:i.toNat<len:=by first|decide|omega):W.idxP len n (.pptr rows j u) (.int k i) K:=xP D B h
theorem Jz{n by_:Nat}{z:List AV}{k u:IntKind}{i j:Nat}(h:∀b,b∉L.names->KL (.sl b 0 i) ((b,⟨n,List.replicate i z⟩)::L))(D:i<=j:=by omega)(h2:j<=2^62:=by omega)(B:j*by_<=2^48:=by omega):W.mslice n by_ z (.int k (i:Int)) (.int u (j:Int)) L KL:=ft D h2 B h
theorem JA{n:Nat}{z:List AV}{len:Nat}{ps:List (Nat×AV)}{rows:List (List AV)}(h:∀b,b∉L.names->KL (.sl b 0 len) ((b,⟨n,rows⟩)::L))(j:len*n<=2^24:=by decide)(h2:eg n (List.replicate len z) ps=some rows:=by rfl):W.bslice n z len ps L KL:=Jm j h2 h
theorem Qf{x:AV}{cs:List AV}(h:∀b,b∉L.names->KL (.ptr b 0 0) ((b,⟨cs.length,[cs]⟩)::L))(j:x.cells? =some cs:=by rfl)(h2:cs.all AV.one=true:=by rfl):W.box x L KL:=xQ j h2 h
theorem LQ{z:List AV}{ps:List (Nat×Nat×AV)}{cs:List AV}(h:K (.agg cs))(j:W0.fillR z ps=some cs:=by rfl):W.build z ps K:=LD j h
end
end
abbrev AV.Uf(x:Int):AV:=.int .i64 x
abbrev R:=AV->SH->Prop
abbrev Vs:=List AV
abbrev Kn:=W.Kn
abbrev Fp:=W.Fp
abbrev Ns:=List Nat
def rz:Fp:=⟨[],[],[],[]⟩
def rm(i:Nat)(r:Fp):W.WR:=⟨i,r.reads,r.writes,r.made,false,r.old⟩
def rc(i:Nat)(r:Fp):W.WR:=⟨i,r.reads,r.writes,r.made,true,r.old⟩
@[irreducible] def wl (x:AV) (L:SH) (K:AV->Prop):Prop:=W.load false 1 x L K
@[irreducible] def NW (n:Nat) (x:AV) (L:SH) (K:AV->Prop):Prop:=W.load true n x L K
@[irreducible] def HO (o:Nat) (x:AV) (L:SH) (K:AV->Prop):Prop:=W.faddr o x λa=>wl a L K
@[irreducible] def HP (o:Nat) (x:AV) (L:SH) (K:AV->Prop):Prop:=W.nilchk x λa=>HO o a L K
@[irreducible] def Pw (n:Nat) (x i:AV) (L:SH) (K:AV->Prop):Prop:=W.idx n x i L λa=>wl a L K
@[irreducible] def Px (n:Nat) (x i:AV) (L:SH) (K:AV->Prop):Prop:=W.idx n x i L λa=>NW n a L K
@[irreducible] def HQ (n o:Nat) (x i:AV) (L:SH) (K:AV->Prop):Prop:=W.idx n x i L λa=>HO o a L K
@[irreducible] def wb (op:BinOp) (t:TypeId) (x y:AV) (K:AV->Prop):Prop:=W.bin Tryz.prog Fl op t x y K
@[irreducible] def wk (x:AV) (A B:Prop):Prop:=W.cond x A B
@[irreducible] def wg (x:AV) (w:Bool) (A:(AV->Prop)->Prop) (L:SH) (K:R):Prop:=W.grd x w (λk=>A λv=>k v L) L K
@[irreducible] def RN (x:AV) (w:Bool) (y:AV) (L:SH) (K:R):Prop:=W.grd x w (λk=>k y L) L K
@[irreducible] def wc (f:AV) (args:List AV) (L:SH) (K:R):Prop:=W.call Tryz.prog f args L K
@[irreducible] def wd (us:List W.WR) (i:Nat) (f:AV) (args:List AV) (L:SH) (K:AV->SH->Ns->Prop):Prop:=W.dcall Tryz.prog us i f args L K
@[irreducible] def wn (a b c d:Ns) (K:Fp->Prop):Prop:=W.note ⟨a,b,c,d⟩ K
@[irreducible] def dl (us:List W.WR) (i:Nat) (x:AV) (L:SH) (K:AV->Fp->Prop):Prop:=W.calm us ⟨i,af x,[],[],false,[]⟩ (wl x L λv=>W.note ⟨af x,[],[],[]⟩ λr=>K v r)
@[irreducible] def dr (us:List W.WR) (i n:Nat) (x:AV) (L:SH) (K:AV->Fp->Prop):Prop:=W.calm us ⟨i,af x,[],[],false,[]⟩ (NW n x L λv=>W.note ⟨af x,[],[],[]⟩ λr=>K v r)
@[irreducible] def Py (o:Nat) (x:AV) (us:List W.WR) (i:Nat) (L:SH) (K:AV->Fp->Prop):Prop:=W.faddr o x λa=>dl us i a L K
@[irreducible] def di (us:List W.WR) (i n:Nat) (x ix:AV) (L:SH) (K:AV->Fp->Prop):Prop:=W.calm us ⟨i,fk x,[],[],false,[]⟩ (W.idx n x ix L λv=>W.note ⟨fk x,[],[],[]⟩ λr=>K v r)
@[irreducible] def ds (us:List W.WR) (i n:Nat) (x y:AV) (L:SH) (K:SH->Fp->Prop):Prop:=W.calm us ⟨i,af x,af x,[],false,[]⟩ (W.store n x y L λL=>W.note ⟨af x,af x,[],[]⟩ λr=>K L r)
@[irreducible] def RQ (z:List AV) (n:Nat) (y:AV) (L:SH) (K:R):Prop:=W.alloc z L λx L1=>W.store n x y L1 λL2=>W.frz1 x L2 K
@[irreducible] def RS (y:AV) (L:SH) (K:R):Prop:=W.box y L λx L1=>W.frz1 x L1 K
def NX{x:AV}{L:SH}{K:AV->Prop}(j:W.load false 1 x L K):wl x L K:=by unfold wl;exact j
def JB{n:Nat}{x:AV}{L:SH}{K:AV->Prop}(j:W.load true n x L K):NW n x L K:=by unfold NW;exact j
def JC{o:Nat}{x:AV}{L:SH}{K:AV->Prop}(j:W.faddr o x λa=>wl a L K):HO o x L K:=by unfold HO;exact j
def JD{o:Nat}{x:AV}{L:SH}{K:AV->Prop}(j:W.nilchk x λa=>HO o a L K):HP o x L K:=by unfold HP;exact j
def Bc{n:Nat}{x i:AV}{L:SH}{K:AV->Prop}(j:W.idx n x i L λa=>wl a L K):Pw n x i L K:=by unfold Pw;exact j
def M6{n:Nat}{x i:AV}{L:SH}{K:AV->Prop}(j:W.idx n x i L λa=>NW n a L K):Px n x i L K:=by unfold Px;exact j
def JE{n o:Nat}{x i:AV}{L:SH}{K:AV->Prop}(j:W.idx n x i L λa=>HO o a L K):HQ n o x i L K:=by unfold HQ;exact j
def jt{op:BinOp}{t:TypeId}{x y:AV}{K:AV->Prop}(j:W.bin Tryz.prog Fl op t x y K):wb op t x y K:=by unfold wb;exact j
def NY{x:AV}{A B:Prop}(j:W.cond x A B):wk x A B:=by unfold wk;exact j
def Qg{x:AV}{w:Bool}{A:(AV->Prop)->Prop}{L:SH}{K:R}(j:W.grd x w (λk=>A λv=>k v L) L K):wg x w A L K:=by unfold wg;exact j
def M7{x:AV}{w:Bool}{y:AV}{L:SH}{K:R}(j:W.grd x w (λk=>k y L) L K):RN x w y L K:=by unfold RN;exact j
def nA{f:AV}{args:List AV}{L:SH}{K:R}(j:W.call Tryz.prog f args L K):wc f args L K:=by unfold wc;exact j
def RU{us:List W.WR}{i:Nat}{f:AV}{args:List AV}{L:SH}{K:AV->SH->Ns->Prop}(j:W.dcall Tryz.prog us i f args L K):wd us i f args L K:=by unfold wd;exact j
def RV{a b c d:Ns}{K:Fp->Prop}(j:W.note ⟨a,b,c,d⟩ K):wn a b c d K:=by unfold wn;exact j
def Qh{us:List W.WR}{i:Nat}{x:AV}{L:SH}{K:AV->Fp->Prop}(j:W.calm us ⟨i,af x,[],[],false,[]⟩ (wl x L λv=>W.note ⟨af x,[],[],[]⟩ λr=>K v r)):dl us i x L K:=by unfold dl;exact j
def Qi{us:List W.WR}{i n:Nat}{x:AV}{L:SH}{K:AV->Fp->Prop}(j:W.calm us ⟨i,af x,[],[],false,[]⟩ (NW n x L λv=>W.note ⟨af x,[],[],[]⟩ λr=>K v r)):dr us i n x L K:=by unfold dr;exact j
def M8{o:Nat}{x:AV}{us:List W.WR}{i:Nat}{L:SH}{K:AV->Fp->Prop}(j:W.faddr o x λa=>dl us i a L K):Py o x us i L K:=by unfold Py;exact j
def NZ{us:List W.WR}{i n:Nat}{x j:AV}{L:SH}{K:AV->Fp->Prop}(u:W.calm us ⟨i,fk x,[],[],false,[]⟩ (W.idx n x j L λv=>W.note ⟨fk x,[],[],[]⟩ λr=>K v r)):di us i n x j L K:=by unfold di;exact u
def Qj{us:List W.WR}{i n:Nat}{x y:AV}{L:SH}{K:SH->Fp->Prop}(j:W.calm us ⟨i,af x,af x,[],false,[]⟩ (W.store n x y L λL=>W.note ⟨af x,af x,[],[]⟩ λr=>K L r)):ds us i n x y L K:=by unfold ds;exact j
def LR{rows:List (List AV)}{i j:Nat}{r:List AV}{v:AV}{L:SH}{K:AV->Prop}(k:K v)(u:rows[i]? =some r:=by first|assumption|rfl)(h2:r[j]? =some v:=by rfl):wl (.pptr rows i j) L K:=NX (DL k u h2)
def Qk{b i j:Nat}{x:Blk}{r:List AV}{v:AV}{L:SH}{K:AV->Prop}(k:K v)(u:(b,x)∈L:=by repeat constructor)(B:x.rows[i]? =some r:=by first|assumption|rfl)(h2:r[j]? =some v:=by rfl):wl (.ptr b i j) L K:=NX (DM k u B h2)
def M9{o:Nat}{rows:List (List AV)}{i j:Nat}{r:List AV}{v:AV}{L:SH}{K:AV->Prop}(k:K v)(u:rows[i]? =some r:=by first|assumption|rfl)(h2:r[j+o]? =some v:=by rfl):HO o (.pptr rows i j) L K:=JC (tS (LR k u h2))
def Na{o b i j:Nat}{x:Blk}{r:List AV}{v:AV}{L:SH}{K:AV->Prop}(k:K v)(u:(b,x)∈L:=by repeat constructor)(B:x.rows[i]? =some r:=by first|assumption|rfl)(h2:r[j+o]? =some v:=by rfl):HO o (.ptr b i j) L K:=JC (tR (Qk k u B h2))
def N0{o b i j:Nat}{x:Blk}{r:List AV}{v:AV}{L:SH}{K:AV->Prop}(k:K v)(u:(b,x)∈L:=by repeat constructor)(B:x.rows[i]? =some r:=by first|assumption|rfl)(h2:r[j+o]? =some v:=by rfl):HP o (.ptr b i j) L K:=JD (GK (Na k u B h2))
def Ql{n:Nat}{rows:List (List AV)}{B:IntKind}{j:Nat}{r:List AV}{v:AV}{L:SH}{K:AV->Prop}(k:K v)(u:rows[j]? =some r:=by first|assumption|rfl)(h2:r.length=n:=by rfl)(D:r[0]? =some v:=by rfl):Pw n (.lst rows) (.int B (j:Int)) L K:=Bc (sa (LR k u D) u h2)
def Qm{n:Nat}{rows:List (List AV)}{B:IntKind}{j:Nat}{r:List AV}{L:SH}{K:AV->Prop}(k:K (.agg r))(u:rows[j]? =some r:=by first|assumption|rfl)(h2:r.length=n:=by rfl):Px n (.lst rows) (.int B (j:Int)) L K:=M6 (sa (JB (w7 k u h2)) u h2)
def N1{n o:Nat}{rows:List (List AV)}{B:IntKind}{j:Nat}{r:List AV}{v:AV}{L:SH}{K:AV->Prop}(k:K v)(u:rows[j]? =some r:=by first|assumption|rfl)(h2:r.length=n:=by rfl)(D:r[0+o]? =some v:=by rfl):HQ n o (.lst rows) (.int B (j:Int)) L K:=JE (sa (M9 k u D) u h2)
def xT{us:List W.WR}{i:Nat}{A:Prop}(k:A):W.calm us ⟨i,[],[],[],false,[]⟩ A:=B7 (λx _=>by simp[W.free]) k
def Qn{us:List W.WR}{j:Nat}{rows:List (List AV)}{i u:Nat}{r:List AV}{v:AV}{L:SH}{K:AV->Fp->Prop}(k:K v rz)(B:rows[i]? =some r:=by first|assumption|rfl)(h2:r[u]? =some v:=by rfl):dl us j (.pptr rows i u) L K:=Qh (xT (LR (qL k) B h2))
def RW{us:List W.WR}{j n:Nat}{rows:List (List AV)}{i:Nat}{r:List AV}{L:SH}{K:AV->Fp->Prop}(k:K (.agg r) rz)(u:rows[i]? =some r:=by first|assumption|rfl)(h2:r.length=n:=by rfl):dr us j n (.pptr rows i 0) L K:=Qi (xT (JB (w7 (qL k) u h2)))
def Qo{us:List W.WR}{j o:Nat}{rows:List (List AV)}{i u:Nat}{r:List AV}{v:AV}{L:SH}{K:AV->Fp->Prop}(k:K v rz)(B:rows[i]? =some r:=by first|assumption|rfl)(h2:r[u+o]? =some v:=by rfl):Py o (.pptr rows i u) us j L K:=M8 (tS (Qn k B h2))
def RX{us:List W.WR}{m n:Nat}{rows:List (List AV)}{u:IntKind}{j:Nat}{r:List AV}{L:SH}{K:AV->Fp->Prop}(k:K (.pptr rows j 0) rz)(B:rows[j]? =some r:=by first|assumption|rfl)(h2:r.length=n:=by rfl):di us m n (.lst rows) (.int u (j:Int)) L K:=NZ (xT (sa (qL k) B h2))
def N2{z cs:List AV}{n:Nat}{L:SH}{K:R}(k:K (.pptr [cs] 0 0) L)(u:cs.length=n:=by rfl)(h2:z.length=n:=by rfl)(j:cs.all AV.one=true:=by rfl)(h4:0<n:=by decide):RQ z n (.agg cs) L K:=by
 unfold RQ;refine GL λb B=>?_
 refine a8 (.here _) rfl u j h2 ?_;exact B6 (.here _) (by show 0<z.length;omega) (T8 _) k
def xU{y:AV}{cs:List AV}{L:SH}{K:R}(k:K (.pptr [cs] 0 0) L)(u:y.cells? =some cs:=by rfl)(h2:cs.all AV.one=true:=by rfl)(j:0<cs.length:=by exact T8 _):RS y L K:=by unfold RS;exact xQ u h2 λb B=>B6 (.here _) j (T8 _) k
def DR{n:Nat}{rows:List (List AV)}{i j:Nat}{r cs:List AV}{L:SH}{K:AV->Prop}(k:K (.agg cs))(B:rows[i]? =some r:=by first|assumption|rfl)(u:(r.drop j).take n=cs:=by rfl)(h2:j+n<=r.length:=by exact Nat.le_of_ble_eq_true rfl):W.load true n (.pptr rows i j) L K:=Jj B h2 u k
def DS{n b i j:Nat}{x:Blk}{r cs:List AV}{L:SH}{K:AV->Prop}(k:K (.agg cs))(u:(b,x)∈L:=by repeat constructor)(D:x.rows[i]? =some r:=by first|assumption|rfl)(B:(r.drop j).take n=cs:=by rfl)(h2:j+n<=r.length:=by exact Nat.le_of_ble_eq_true rfl):W.load true n (.ptr b i j) L K:=Jk u D h2 B k
def qM{P:Program}{F:TypeId->Option (List TypeId)}{t:TypeId}{j:IntKind}{a b c:Int}{K:AV->Prop}(k:K (.int j c))(e:j.wrap (a+b)=c:=by assumption):W.bin P F .add t (.int j a) (.int j b) K:=Jh (by rw[e];exact k)
def iS{P:Program}{F:TypeId->Option (List TypeId)}{t:TypeId}{j:IntKind}{a b c:Int}{K:AV->Prop}(k:K (.int j c))(e:j.wrap (a-b)=c:=by assumption):W.bin P F .sub t (.int j a) (.int j b) K:=Ji (by rw[e];exact k)
def Nb{a b:Bool}{K:AV->Prop}(k:K (.bool (decide (a=b)))):W.bin Tryz.prog Fl .eql 4 (.bool a) (.bool b) K:=by rw[P3 _ (show Tryz.prog.underlying 4=some .bool by kernel_rfl)];cases a<;>cases b<;>exact k
def Nc{a b:Bool}{K:AV->Prop}(k:K (.bool (decide (a≠b)))):W.bin Tryz.prog Fl .neq 4 (.bool a) (.bool b) K:=by rw[P4 _ (show Tryz.prog.underlying 4=some .bool by kernel_rfl)];cases a<;>cases b<;>exact k
def Ce{us:List W.WR}{y:W.WR}{A:Prop}(h:A)(j:∀x∈us,W.free x y:=by(simp only[rm,rc,rz,W.free,cF,↓reduceIte,Nat.reduceEqDiff,af,fk,T1,Tb,Th,not_false_eq_true,implies_true,and_true,true_and,and_self,SO,reduceCtorEq,forall_const,false_implies,Sz,forall_eq,Ta,Tu,SB,or_false,false_or,forall_eq_or_imp,not_or])<;>(repeat' constructor)<;>first|assumption|(exact Ne.symm Ub)|(intro u;subst u;simp[SH.names]at *;done)):W.calm us y A:=B7 j h
def lQ{g:FuncId}{args:List AV}{L:SH}{i:Nat}{u:R}{B:AV->SH->List Nat->Prop}(h:ac Tryz.prog g args L u)(E:∀v j,u v j->B v j L.names):W.dcallM Tryz.prog [] i g args L B:=
 ⟨L,[],Ud,nofun,h.mono λv j D=>by simpa using E v j D⟩
def vm{g:FuncId}{args:List AV}{L:SH}{j KL:R}(h:ac Tryz.prog g args L j)(B:∀v u,j v u->KL v u):W.callM Tryz.prog g args L KL:=GR (h.mono B)
def RY(ht:GI){f:FuncId}{j:Func}{args:List AV}{L:SH}{Q:R}{p:Prop}(u:Tryz.prog.funcs[f]? =some j)(D:j.body=some (j.body.getD .skip))(B:W.func Tryz.prog Fl ht j (j.body.getD .skip) args L Q=p)(h:p):ac Tryz.prog f args L Q:=
 FD (ht:=ht) fit u D (Eq.mpr B h)
structure PG(g:FuncId)(args:List AV)(K:AV->Prop):Prop where
 h:∃v,aq Tryz.prog g args v/\K v
def pm{g:FuncId}{args:List AV}{K:AV->Prop}{v:AV}(h:aq Tryz.prog g args v)(k:K v):PG g args K:=⟨v,h,k⟩
def R0{g:FuncId}{args:List AV}{L:SH}{KL:R}(h:PG g args λv=>KL v L):W.callM Tryz.prog g args L KL:=h.h.elim λ_ x=>NQ x.1 x.2
def R3{L:SH}{j:AV->SH->List Nat->Prop}{us:List W.WR}{i:Nat}{g:FuncId}{args:List AV}(h:PG g args λv=>j v L [])(u:∀x∈us,W.free x ⟨i,[],[],[],true,[]⟩:=by(simp only[rm,rc,rz,W.free,cF,↓reduceIte,Nat.reduceEqDiff,af,fk,T1,Tb,Th,not_false_eq_true,implies_true,and_true,true_and,and_self,SO,reduceCtorEq,forall_const,false_implies,Sz,forall_eq,Ta,Tu,SB,or_false,false_or,forall_eq_or_imp,not_or])<;>(repeat' constructor)<;>first|assumption|(exact Ne.symm Ub)|(intro B;subst B;simp[SH.names]at *;done)):W.dcallM Tryz.prog us i g args L j:=h.h.elim λ_ x=>LK x.1 u x.2
def pf(g:FuncId){args:List AV}{K:AV->Prop}{G:Prop}(k:PG g args K)(h:PG g args K->G:=by intro k;first|with_reducible exact R0 k|with_reducible exact R3 k|fail):G:=h k
section
inductive X where
 |s (i:Nat)
 |g (i:Nat)
 |v (a:AV)
 |t (l:List Nat)
inductive RO where
 |pick (c x y:X)
 |alloc (z:List AV)
 |box (x:X)
 |build (z:List AV) (ps:List (Nat×Nat×X))
 |bslice (n:Nat) (z:List AV) (len:Nat) (ps:List (Nat×X))
 |l (x:X)
 |load (n:Nat) (x:X)
 |ro (n:Nat) (x:X)
 |store (n:Nat) (x y:X)
 |nilchk (x:X)
 |bin (op:BinOp) (t:TypeId) (x y:X)
 |un (op:UnOp) (x:X)
 |conv (k:IntKind) (x:X)
 |convS (x:X)
 |fn (f:FuncId) (l:List X)
 |mslice (n b:Nat) (z:List AV) (l c:X)
 |slice (n:Nat) (x:X) (lo hi mx:Option X)
 |sliceS (x:X) (lo hi:Option X)
 |faddr (o:Nat) (x:X)
 |fld (ag:Bool) (n o:Nat) (x:X)
 |idx (n:Nat) (x i:X)
 |idxP (len n:Nat) (x i:X)
 |ixS (x i:X)
 |ixA (ag:Bool) (len n:Nat) (x i:X)
 |ext (i:Nat) (x:X)
 |len (x:X)
 |lenS (x:X)
 |app (n b:Nat) (s x:X)
 |clr (n:Nat) (z:List AV) (x:X)
 |mnx (m:Bool) (x y:X)
 |mkmap
 |look (z:AV) (ok:Bool) (m k:X)
 |mup (m k v:X)
 |rngS (x:X)
 |nxt (x:X)
 |call (f:X) (l:List X)
 |fl (o:Nat) (x:X)
 |nfl (o:Nat) (x:X)
 |il (n:Nat) (x i:X)
 |ir (n:Nat) (x i:X)
 |ifl (n o:Nat) (x i:X)
 |cp (z:List AV) (n:Nat) (x:X)
 |bx (x:X)
 |bad
inductive N3 where
 |a
 |b
 |c
inductive RT where
 |op (o:RO) (p:N3) (k:RT)
 |go (g:X) (w:Bool) (o:RO) (k:RT)
 |gh (g:X) (w:Bool) (o:RO) (k:RT)
 |gm (g:X) (w:Bool) (x:X) (k:RT)
 |dop (us:List Nat) (i:Nat) (o:RO) (p:N3) (k:RT)
 |dg (us:List Nat) (i:Nat) (g:X) (w:Bool) (o:RO) (k:RT)
 |dm (i:Nat) (g:X) (w:Bool) (x:X) (k:RT)
 |tt (k:RT)
 |clr (k:RT)
 |keep (l:List Nat) (k:RT)
 |frz (x:X) (k:RT)
 |cnd (x:X) (a b:RT)
 |join (p:Nat) (q:Bool) (ls:List Nat) (k:RT)
 |loop (p:Nat) (q:Bool) (ls:List Nat) (vs:List X)
 |jmp (lab:Nat) (vs:List X)
 |cut (p:Nat) (q:Bool) (ls:List Nat) (vs:List X)
 |ret (vs:List X)
 |bad
structure Nd where
 key:Nat
 live:List Nat
 mis:List Nat
 labs:List Nat
 tree:RT
structure Hp where
 live:List Nat
 labs:List Nat:=[]
 q:Bool:=true
 mis:List Nat:=[]
structure RF where
 hs:List (Nat×Hp)
 fz:List (Nat×List Nat)
 ps:List Nd
namespace Cm
def xlev:X->List Nat
 |.s i=>[i]
 |_=>[]
def xs(l:List X):List Nat:=l.flatMap xlev
def ox:Option X->List Nat
 |some x=>xlev x
 |none=>[]
def rlev:RO->List Nat
 |.pick c x y=>xs [c,x,y]
 |.box x|.l x|.load _ x|.ro _ x|.nilchk x|.un _ x|.conv _ x|.convS x|.faddr _ x|.fld _ _ _ x|.ext _ x|.len x|.lenS x|.clr _ _ x|.fl _ x|.nfl _ x|.cp _ _ x|.bx x=>xlev x
 |.build _ ps=>xs (ps.map (·.2.2))
 |.bslice _ _ _ ps=>xs (ps.map (·.2))
 |.store _ x y|.bin _ _ x y|.mslice _ _ _ x y|.idx _ x y|.idxP _ _ x y|.ixS x y|.ixA _ _ _ x y|.app _ _ x y|.mnx _ x y|.il _ x y|.ir _ x y|.ifl _ _ x y=>xs [x,y]
 |.fn _ l=>xs l
 |.look _ _ x y=>xs [x,y]
 |.mup x y z=>xs [x,y,z]
 |.rngS x|.nxt x=>xlev x
 |.slice _ x a b c=>xlev x++ox a++ox b++ox c
 |.sliceS x a b=>xlev x++ox a++ox b
 |.call f l=>xs (f::l)
 |_=>[]
def hp:RO->Bool
 |.alloc _|.box _|.bslice ..|.mslice ..|.store ..|.app ..|.clr ..|.call ..|.fn ..|.mkmap|.mup ..|.rngS _|.nxt _=>true
 |_=>false
def has(n:Nat)(l:List Nat):Bool:=l.any (·==n)
def reads(n:Nat):RT->Bool
 |.op o _ k=>has n (rlev o)||reads n k
 |.go g _ o k|.gh g _ o k=>has n (xlev g++rlev o)||reads n k
 |.gm g _ x k=>has n (xs [g,x])||reads n k
 |.dop _ _ o _ k=>has n (rlev o)||reads n k
 |.dg _ _ g _ o k=>has n (xlev g++rlev o)||reads n k
 |.dm _ g _ x k=>has n (xs [g,x])||reads n k
 |.tt k|.clr k|.keep _ k=>reads n k
 |.frz x k=>has n (xlev x)||reads n k
 |.cnd x a b=>has n (xlev x)||(reads n a||reads n b)
 |.join _ _ _ k=>reads n k
 |.loop _ _ _ vs|.jmp _ vs|.cut _ _ _ vs|.ret vs=>has n (xs vs)
 |.bad=>false
def n3:N3->Nat
 |.a=>1
 |.b=>2
 |.c=>3
def up:N3->N3
 |.a=>.b
 |_=>.c
def peep(n:Nat):RT->RT
 |.op o p k=>
  let k:=peep (n+n3 p) k
  match o,k with
  |.faddr f x,.op (.l (.s y)) _ k2=>bif y==n&&!reads y k2 then .op (.fl f x) .b k2 else .op o p k
  |.faddr f x,.dop us i (.l (.s y)) _ k2=>bif y==n&&!reads y k2 then .dop us i (.fl f x) .b k2 else .op o p k
  |.nilchk x,.op (.fl f (.s y)) q k2=>bif y==n&&!reads y k2 then .op (.nfl f x) (up q) k2 else .op o p k
  |.idx m x i,.op (.l (.s y)) _ k2=>bif y==n&&!reads y k2 then .op (.il m x i) .b k2 else .op o p k
  |.idx m x i,.op (.ro m2 (.s y)) _ k2=>bif y==n&&m==m2&&!reads y k2 then .op (.ir m x i) .b k2 else .op o p k
  |.idx m x i,.op (.fl f (.s y)) q k2=>bif y==n&&!reads y k2 then .op (.ifl m f x i) (up q) k2 else .op o p k
  |.alloc z,.op (.store m (.s y) x) _ (.frz (.s y2) k2)=>bif y==n&&y2==n&&!has n (xlev x)&&!reads y k2 then .op (.cp z m x) .c k2 else .op o p k
  |.box x,.frz (.s y) k2=>bif y==n&&!reads y k2 then .op (.bx x) .b k2 else .op o p k
  |_,_=>.op o p k
 |.go g w o k=>.go g w o (peep (n+1) k)
 |.gh g w o k=>.gh g w o (peep (n+1) k)
 |.gm g w x k=>.gm g w x (peep (n+1) k)
 |.dop us i o p k=>
  let k:=peep (n+n3 p) k
  match o,k with
  |.faddr f x,.dop us i (.l (.s y)) _ k2=>bif y==n&&!reads y k2 then .dop us i (.fl f x) .b k2 else .dop us i o p k
  |_,_=>.dop us i o p k
 |.dg us i g w o k=>.dg us i g w o (peep (n+1) k)
 |.dm i g w x k=>.dm i g w x (peep (n+1) k)
 |.tt k=>.tt (peep n k)
 |.clr k=>.clr (peep n k)
 |.frz x k=>.frz x (peep (n+1) k)
 |.cnd x a b=>.cnd x (peep n a) (peep n b)
 |.join p q ls k=>.join p q ls (peep n k)
 |t=>t
def idx(i:Nat):List Nat->Nat
 |[]=>0
 |a::l=>bif a==i then 0 else idx i l+1
def rx(n:List Nat):X->X
 |.s i=>.s (idx i n)
 |x=>x
def rxs(n:List Nat)(l:List X):List X:=l.map (rx n)
def rro(n:List Nat):RO->RO
 |.pick c x y=>.pick (rx n c) (rx n x) (rx n y)
 |.box x=>.box (rx n x)
 |.build z ps=>.build z (ps.map λp=>(p.1,p.2.1,rx n p.2.2))
 |.bslice m z len ps=>.bslice m z len (ps.map λp=>(p.1,rx n p.2))
 |.l x=>.l (rx n x)
 |.load m x=>.load m (rx n x)
 |.ro m x=>.ro m (rx n x)
 |.store m x y=>.store m (rx n x) (rx n y)
 |.nilchk x=>.nilchk (rx n x)
 |.bin o t x y=>.bin o t (rx n x) (rx n y)
 |.un o x=>.un o (rx n x)
 |.conv k x=>.conv k (rx n x)
 |.convS x=>.convS (rx n x)
 |.fn f l=>.fn f (rxs n l)
 |.mslice m b z l c=>.mslice m b z (rx n l) (rx n c)
 |.slice m x a b c=>.slice m (rx n x) (a.map (rx n)) (b.map (rx n)) (c.map (rx n))
 |.sliceS x a b=>.sliceS (rx n x) (a.map (rx n)) (b.map (rx n))
 |.faddr o x=>.faddr o (rx n x)
 |.fld a m o x=>.fld a m o (rx n x)
 |.idx m x i=>.idx m (rx n x) (rx n i)
 |.idxP l m x i=>.idxP l m (rx n x) (rx n i)
 |.ixS x i=>.ixS (rx n x) (rx n i)
 |.ixA a l m x i=>.ixA a l m (rx n x) (rx n i)
 |.ext i x=>.ext i (rx n x)
 |.len x=>.len (rx n x)
 |.lenS x=>.lenS (rx n x)
 |.app m b s x=>.app m b (rx n s) (rx n x)
 |.clr m z x=>.clr m z (rx n x)
 |.mnx m x y=>.mnx m (rx n x) (rx n y)
 |.look z k x y=>.look z k (rx n x) (rx n y)
 |.mup x y z=>.mup (rx n x) (rx n y) (rx n z)
 |.rngS x=>.rngS (rx n x)
 |.nxt x=>.nxt (rx n x)
 |.call f l=>.call (rx n f) (rxs n l)
 |.fl o x=>.fl o (rx n x)
 |.nfl o x=>.nfl o (rx n x)
 |.il m x i=>.il m (rx n x) (rx n i)
 |.ir m x i=>.ir m (rx n x) (rx n i)
 |.ifl m o x i=>.ifl m o (rx n x) (rx n i)
 |.cp z m x=>.cp z m (rx n x)
 |.bx x=>.bx (rx n x)
 |o=>o
def lv:RT->List Nat
 |.op o _ k=>rlev o++lv k
 |.go g _ o k|.gh g _ o k=>xlev g++(rlev o++lv k)
 |.gm g _ x k=>xs [g,x]++lv k
 |.dop _ _ o _ k=>rlev o++lv k
 |.dg _ _ g _ o k=>xlev g++(rlev o++lv k)
 |.dm _ g _ x k=>xs [g,x]++lv k
 |.tt k|.clr k|.keep _ k=>lv k
 |.frz x k=>xlev x++lv k
 |.cnd x a b=>xlev x++(lv a++lv b)
 |.join _ _ _ k=>lv k
 |.loop _ _ _ vs|.jmp _ vs|.cut _ _ _ vs|.ret vs=>xs vs
 |.bad=>[]
def pu(n:Nat)(p:N3)(e:List Nat):List Nat:=match p with
 |.a=>n::e
 |.b=>(n+1)::n::e
 |.c=>(n+2)::(n+1)::n::e
def isCall:RO->Bool
 |.call ..=>true
 |_=>false
def kp(e:List Nat)(k:RT):List Nat:=match k with
 |.cut ..=>e
 |k=>let u:=lv k;e.filter λi=>has i u
def mk(e l:List Nat)(k:RT):RT:=bif l.length==e.length then k else .keep (l.map λi=>idx i e) k
def rel(e:List Nat)(n:Nat):RT->RT
 |.op o p k=>bif isCall o then .op (rro e o) p (mk (pu n p e) (kp (pu n p e) k) (rel (kp (pu n p e) k) (n+n3 p) k))else .op (rro e o) p (rel (pu n p e) (n+n3 p) k)
 |.go g w o k=>.go (rx e g) w (rro e o) (rel (n::e) (n+1) k)
 |.gh g w o k=>.gh (rx e g) w (rro e o) (rel (n::e) (n+1) k)
 |.gm g w x k=>.gm (rx e g) w (rx e x) (rel (n::e) (n+1) k)
 |.dop us i o p k=>bif isCall o then .dop us i (rro e o) p (mk (pu n p e) (kp (pu n p e) k) (rel (kp (pu n p e) k) (n+n3 p) k))else .dop us i (rro e o) p (rel (pu n p e) (n+n3 p) k)
 |.dg us i g w o k=>.dg us i (rx e g) w (rro e o) (rel (n::e) (n+1) k)
 |.dm i g w x k=>.dm i (rx e g) w (rx e x) (rel (n::e) (n+1) k)
 |.tt k=>.tt (rel e n k)
 |.clr k=>.clr (rel e n k)
 |.keep l k=>.keep l (rel e n k)
 |.frz x k=>.frz (rx e x) (rel (n::e) (n+1) k)
 |.cnd x a b=>.cnd (rx e x) (mk e (kp e a) (rel (kp e a) n a)) (mk e (kp e b) (rel (kp e b) n b))
 |.join p q ls k=>.join p q ls (rel e n k)
 |.loop p q ls vs=>.loop p q ls (rxs e vs)
 |.jmp lab vs=>.jmp lab (rxs e vs)
 |.cut p q ls vs=>.cut p q ls (rxs e vs)
 |.ret vs=>.ret (rxs e vs)
 |.bad=>.bad
def down:Nat->List Nat
 |0=>[]
 |n+1=>n::down n
abbrev Sl:=List (Nat×X)
abbrev CT:=Sl->Nat->RT
def lk{α:Type}:List (Nat×α)->Nat->Option α
 |[],_=>none
 |(a,b)::l,k=>bif a==k then some b else lk l k
def sl0(live:List Nat)(n:Nat):Sl:=match live with
 |[]=>[]
 |t::l=>(t,.s n)::sl0 l (n-1)
def slp(live:List Nat):Sl:=sl0 live (live.length-1)++[(1000000,.v .junk)]
def get(sl:Sl)(t:Nat):X:=match lk sl t with
 |some x=>x
 |none=>(lk sl 1000000).getD (.v bK)
section
variable (P:Program) (h:RF)
def opd(sl:Sl):Operand->X
 |.tmp t=>get sl t
 |.const (.string s)=>.t (s.data.toList.map UInt8.toNat)
 |.const v=>.v ((Hv v).getD .junk)
 |.global g=>.g g
 |.func f=>.v (.fn f [])
def res(o:Op)(sl:Sl):RO:=
 let a:=opd sl
 match o with
 |.pick c x y=>.pick (a c) (a x) (a y)
 | .alloc t=>match W0.zof P t with
  |some z=>.alloc z
  |none=>.bad
 |.box _ x=>.box (a x)
 | .build t ps=>match P.underlying t,dU P t with
  | some (.struct fs),some (.agg z)=>match cf (ps.toList.map λp=>(jx P fs p.1).map λq=>(q.1,q.2,a p.2))with
   |some l=>.build z l
   |none=>.bad
  | some (.array _ e),some (.agg z)=>match aP P e with
   |some n=>.build z (ps.toList.map λp=>(p.1*n,n,a p.2))
   |none=>.bad
  |_,_=>.bad
 | .buildSlice t len ps=>match P.underlying t with
  | some (.slice e)=>match aP P e,W0.zof P e with
   |some n,some z=>.bslice n z len (ps.toList.map λp=>(p.1,a p.2))
   |_,_=>.bad
  |_=>.bad
 | .load t x=>match dY P t,aP P t with
  |some true,some n=>.ro n (a x)
  |some false,some n=>bif n==1 then .l (a x)else .load n (a x)
  |_,_=>.bad
 | .store t x y=>match aP P t with
  |some n=>.store n (a x) (a y)
  |none=>.bad
 |.nilCheck x=>.nilchk (a x)
 |.binOp o t x y _=>.bin o t (a x) (a y)
 |.unOp o _ x=>.un o (a x)
 | .convert s d x=>match P.underlying s,P.underlying d with
  |some (.int _),some (.int kd)=>.conv kd (a x)
  |some .string,some .string=>.convS (a x)
  |_,_=>.bad
 |.makeFunc (.func f) _ cap=>.fn f (cap.toList.map a)
 | .makeSlice t l c=>match P.underlying t with
  | some (.slice e)=>match aP P e,gB P e,W0.zof P e with
   |some n,some b,some z=>.mslice n b z (a l) (a c)
   |_,_,_=>.bad
  |_=>.bad
 | .slice t x lo hi mx=>match P.underlying t with
  | some (.slice e)=>match aP P e with
   |some n=>.slice n (a x) (lo.map a) (hi.map a) (mx.map a)
   |none=>.bad
  |some .string=>.sliceS (a x) (lo.map a) (hi.map a)
  |_=>.bad
 | .fieldAddr s x f=>match P.underlying s with
  | some (.struct fs)=>match fs[f]? with
   |some f=>.faddr f.offset (a x)
   |none=>.bad
  |_=>.bad
 | .field s x f=>match P.underlying s with
  | some (.struct fs)=>match fs[f]? with
   | some f=>match dY P f.type,aP P f.type with
    |some ag,some n=>.fld ag n f.offset (a x)
    |_,_=>.bad
   |none=>.bad
  |_=>.bad
 | .indexAddr t x i=>match P.underlying t with
  | some (.slice e)=>match aP P e with
   |some n=>.idx n (a x) (a i)
   |none=>.bad
  | some (.array len e)=>match aP P e with
   |some n=>.idxP len n (a x) (a i)
   |none=>.bad
  |_=>.bad
 | .index t x i=>match P.underlying t with
  |some .string=>.ixS (a x) (a i)
  | some (.array len e)=>match dY P e,aP P e with
   |some ag,some n=>.ixA ag len n (a x) (a i)
   |_,_=>.bad
  |_=>.bad
 |.extract x i=>.ext i (a x)
 |.makeMap _ none=>.mkmap
 | .lookup t m y ok=>match P.underlying t with
  | some (.map kt et)=>match P.underlying kt,dU P et with
   |some .string,some z=>.look z ok (a m) (a y)
   |_,_=>.bad
  |_=>.bad
 |.mapUpdate _ m y x=>.mup (a m) (a y) (a x)
 |.range _ x=>.rngS (a x)
 |.next it true=>.nxt (a it)
 | .call c=>match c.callee with
  | .builtin .len=>match c.args.toList,(c.argTypes[0]?).bind P.underlying with
   |[x],some (.slice _)=>.len (a x)
   |[x],some .string=>.lenS (a x)
   |_,_=>.bad
  | .builtin .append=>match c.args.toList,c.argTypes.toList with
   | [s,x],t::_=>match P.underlying t with
    | some (.slice e)=>match aP P e,gB P e with
     |some n,some b=>.app n b (a s) (a x)
     |_,_=>.bad
    |_=>.bad
   |_,_=>.bad
  | .builtin .clear=>match c.args.toList,c.argTypes.toList with
   | [x],[t]=>match P.underlying t with
    | some (.slice e)=>match aP P e,W0.zof P e with
     |some n,some z=>.clr n z (a x)
     |_,_=>.bad
    |_=>.bad
   |_,_=>.bad
  | .builtin .min=>match c.args.toList with
   |[x,y]=>.mnx false (a x) (a y)
   |_=>.bad
  | .builtin .max=>match c.args.toList with
   |[x,y]=>.mnx true (a x) (a y)
   |_=>.bad
  |.value f=>.call (a f) (c.args.toList.map a)
  |_=>.bad
 |_=>.bad
def alias(o:Op)(sl:Sl):Option X:=match o with
 |.move x|.assign x=>some (opd sl x)
 | .call c=>match c.callee with
  | .builtin .len=>match (c.argTypes[0]?).bind P.underlying with
   |some (.array n _)=>some (.v (.int .i64 n))
   |_=>none
  |_=>none
 |_=>none
def put(sl:Sl)(d:Option Tmp)(x:X):Sl:=match d with
 |some t=>(t,x)::sl
 |none=>sl
def dstOf(ops:List Oper)(j:Nat):Nat:=((ops[j]?).bind (·.dst)).getD 0
def vals(sl:Sl)(live:List Nat):List X:=live.map λt=>get sl t
def ent(key:Nat)(k:CT):CT:=λsl n=>match lk h.hs key with
 |some p=>.cut key p.q p.labs (vals sl p.live)
 |none=>k sl n
def frzs:List Nat->CT->CT
 |[],k,sl,n=>k sl n
 |d::ds,k,sl,n=>.frz (get sl d) (frzs ds k (put sl (some d) (.s n)) (n+1))
def sqs(all:List Oper)(id:Nat)(k:CT):Nat->List Oper->CT
 |_,[],sl,n=>k sl n
 |i,o::l,sl,n=>
  let k:=ent h (3*(100*id+i+1)+2) (sqs all id k (i+1) l)
  match o.guard,alias P o.op sl with
  |none,some x=>k (put sl o.dst x) n
  |none,none=>.op (res P o.op sl) .a (k (put sl o.dst (.s n)) (n+1))
  |some (j,w),some x=>.gm (get sl (dstOf all j)) w x (k (put sl o.dst (.s n)) (n+1))
  |some (j,w),none=>
   let q:=res P o.op sl
   let g:=get sl (dstOf all j)
   let k:=k (put sl o.dst (.s n)) (n+1)
   bif hp q then .gh g w q k else .go g w q k
def memo(o:Op):Bool:=W.isCallV o||W.isMem o
def us(m:Nat)(rs:List Nat)(i:Nat):List Nat:=match rs with
 |[]=>[]
 |r::l=>bif m.testBit r then us m l (i+1)else i::us m l (i+1)
def drs(all:List Oper)(id:Nat)(ms:List Nat)(k:CT):Nat->List Oper->List Nat->CT
 |_,[],_,sl,n=>.clr (k sl n)
 |i,o::l,rs,sl,n=>
  let u:=us (ms.getD i 0) rs 0
  let rs2:=bif memo o.op then i::rs else rs
  let k:=λ(sl:Sl) (n:Nat)=>drs all id ms k (i+1) l rs2 sl n
  match o.guard,alias P o.op sl with
  |none,some x=>k (put sl o.dst x) n
  |none,none=>bif memo o.op then .dop u i (res P o.op sl) .a (k (put sl o.dst (.s n)) (n+1))else .op (res P o.op sl) .a (k (put sl o.dst (.s n)) (n+1))
  |some (j,w),some x=>.dm i (get sl (dstOf all j)) w x (k (put sl o.dst (.s n)) (n+1))
  |some (j,w),none=>.dg u i (get sl (dstOf all j)) w (res P o.op sl) (k (put sl o.dst (.s n)) (n+1))
def frz(id:Nat)(k:CT):CT:=frzs ((lk h.fz id).getD []) k
def reg(id:Nat)(ops:Array Oper)(draw:Bool)(k:CT):CT:=λsl n=>bif draw then .tt (drs P ops.toList id (bS ops.toList []) (frz h id k) 0 ops.toList [] sl n)
 else sqs P h ops.toList id (frz h id k) 0 ops.toList sl n
def jmp(key:Nat)(live:List Nat):CT:=λsl n=>.jmp key (vals sl live)
def jkey(a b:Code):Nat:=3*((jE a).getD 0+1000*(match fq b with|some r=>r+1|none=>0))+1
def hpOf(key:Nat):Hp:=(lk h.hs key).getD ⟨[],[],true,[]⟩
def code:Code->CT->(Nat->CT)->CT->CT
 |.skip,kn,_,_,sl,n=>kn sl n
 |.label _,kn,_,_,sl,n=>kn sl n
 |.region id ops draw,kn,_,_,sl,n=>ent h (3*(100*id)+2) (reg P h id ops draw kn) sl n
 |.seq a b,kn,kx,kr,sl,n=>
  let key:=jkey a b
  match lk h.hs key with
  |none=>code a (code b kn kx kr) kx kr sl n
  |some p=>.join key p.q p.labs (code a (jmp key p.live) kx kr sl n)
 |.cond x a b,kn,kx,kr,sl,n=>.cnd (opd sl x) (code a kn kx kr sl n) (code b kn kx kr sl n)
 |.block id b,kn,kx,kr,sl,n=>code b kn (λi=>bif i==id then kn else kx i) kr sl n
 |.loop b,_,_,_,sl,n=>
  let key:=3*(fq b).getD 0
  let p:=hpOf h key
  .loop key p.q p.labs (vals sl p.live)
 |.exit id,_,kx,_,sl,n=>kx id sl n
 |.ret,_,_,kr,sl,n=>kr sl n
 |_,_,_,_,_,_=>.bad
def fin(n:Nat)(t:RT):RT:=rel (down n) n (peep n t)
def mkp(key:Nat)(own:Bool)(k:CT):Nd:=
 let p:=hpOf h key
 let l:=p.live++p.mis
 ⟨key,p.live,p.mis,bif own then key::p.labs else p.labs,fin l.length (k (slp l) l.length)⟩
def pif(key:Nat)(k:CT):List Nd:=match lk h.hs key with
 |some _=>[mkp h key false k]
 |none=>[]
def cutp(all:List Oper)(id:Nat)(k:CT)(i:Nat):List Oper->List Nd
 |[]=>[]
 |o::l=>pif h (3*(100*id+i+1)+2) (sqs P h all id k (i+1) l)++cutp all id k (i+1) l
def pcs:Code->CT->(Nat->CT)->CT->List Nd
 |.region id ops draw,kn,_,_=>pif h (3*(100*id)+2) (reg P h id ops draw kn)++bif draw then []else cutp P h ops.toList id (frz h id kn) 0 ops.toList
 |.seq a b,kn,kx,kr=>
  let key:=jkey a b
  pif h key (code P h b kn kx kr)++(pcs a (match lk h.hs key with|none=>code P h b kn kx kr|some p=>jmp key p.live) kx kr++pcs b kn kx kr)
 |.cond _ a b,kn,kx,kr=>pcs a kn kx kr++pcs b kn kx kr
 |.block id b,kn,kx,kr=>pcs b kn (λi=>bif i==id then kn else kx i) kr
 |.loop b,_,kx,kr=>
  let key:=3*(fq b).getD 0
  let kn2:=jmp key (hpOf h key).live
  mkp h key true (code P h b kn2 kx kr)::pcs b kn2 kx kr
 |_,_,_,_=>[]
def ress:List ResultVar->List X->CT
 |[],vs,_,_=>.ret vs.reverse
 |.tmp t::rs,vs,sl,n=>ress rs (get sl t::vs) sl n
 |.cell a t::rs,vs,sl,n=>.op (res P (.load t (.tmp a)) sl) .a (ress rs (.s n::vs) sl (n+1))
end
end Cm
def bO(P:Program)(fn:Func)(hs:List (Nat×Hp))(fz:List (Nat×List Nat)):RF:=
 let h:RF:=⟨hs,fz,[]⟩
 let c:=fn.body.getD .skip
 let live:=List.range (fn.params.size+fn.nfree)
 let kr:Cm.CT:=Cm.ress P fn.results.toList []
 ⟨hs,fz,⟨0,live,[],[],Cm.fin live.length (Cm.code P h c kr (λ_ _ _=>.bad) kr (Cm.sl0 live (live.length-1)) live.length)⟩::Cm.pcs P h c kr (λ_ _ _=>.bad) kr⟩
def nv{α:Type}(a:α){b:α}(h:a=b:=by((conv=>lhs;reduce)<;>rfl)):α:=b
end
section
def q0:R:=λ_ _=>False
namespace Cm
def nth:List AV->Nat->AV
 |[],_=>.junk
 |a::_,0=>a
 |_::l,n+1=>nth l n
def nthR:List W.WR->Nat->W.WR
 |[],_=>rm 0 rz
 |a::_,0=>a
 |_::l,n+1=>nthR l n
def bys:List Nat->List UInt8
 |[]=>[]
 |a::l=>UInt8.ofNat a::bys l
def ev(e:List AV):X->AV
 |.s i=>nth e i
 |.g i=>Pu i
 |.v a=>a
 |.t l=>.str (bys l)
def evs(e:List AV):List X->List AV
 |[]=>[]
 |x::l=>ev e x::evs e l
def evo(e:List AV):Option X->Option AV
 |none=>none
 |some x=>some (ev e x)
def evp(e:List AV):List (Nat×Nat×X)->List (Nat×Nat×AV)
 |[]=>[]
 |(a,b,x)::l=>(a,b,ev e x)::evp e l
def evq(e:List AV):List (Nat×X)->List (Nat×AV)
 |[]=>[]
 |(a,x)::l=>(a,ev e x)::evq e l
def ps:N3->AV->List AV->List AV
 |.a,v,e=>v::e
 |.b,v,e=>v::.junk::e
 |.c,v,e=>v::.junk::.junk::e
def vv:RO->List AV->SH->(AV->Prop)->Prop
 |.pick c x y,e,L=>W.pick (ev e c) (ev e x) (ev e y)
 |.build z ps,e,L=>W.build z (evp e ps)
 |.l x,e,L=>wl (ev e x) L
 |.load n x,e,L=>W.load false n (ev e x) L
 |.ro n x,e,L=>NW n (ev e x) L
 |.nilchk x,e,L=>W.nilchk (ev e x)
 |.bin o t x y,e,L=>wb o t (ev e x) (ev e y)
 |.un o x,e,L=>W.un o (ev e x)
 |.conv k x,e,L=>W.conv k (ev e x)
 |.convS x,e,L=>W.convS (ev e x)
 |.slice n x a b c,e,L=>W.slice n (ev e x) (evo e a) (evo e b) (evo e c) L
 |.sliceS x a b,e,L=>W.sliceS (ev e x) (evo e a) (evo e b)
 |.faddr o x,e,L=>W.faddr o (ev e x)
 |.fld a n o x,e,L=>W.fld a n o (ev e x)
 |.idx n x i,e,L=>W.idx n (ev e x) (ev e i) L
 |.idxP l n x i,e,L=>W.idxP l n (ev e x) (ev e i)
 |.ixS x i,e,L=>W.ixS (ev e x) (ev e i)
 |.ixA a l n x i,e,L=>W.ixA a l n (ev e x) (ev e i)
 |.ext i x,e,L=>W.ext i (ev e x)
 |.len x,e,L=>W.len (ev e x)
 |.lenS x,e,L=>W.lenS (ev e x)
 |.mnx m x y,e,L=>W.mnx m (ev e x) (ev e y)
 |.look z k x y,e,L=>W.look z k (ev e x) (ev e y) L
 |.fl o x,e,L=>HO o (ev e x) L
 |.nfl o x,e,L=>HP o (ev e x) L
 |.il n x i,e,L=>Pw n (ev e x) (ev e i) L
 |.ir n x i,e,L=>Px n (ev e x) (ev e i) L
 |.ifl n o x i,e,L=>HQ n o (ev e x) (ev e i) L
 |_,_,_=>λ_=>False
def vo:RO->List AV->SH->R->Prop
 |.alloc z,e,L,K=>W.alloc z L K
 |.box x,e,L,K=>W.box (ev e x) L K
 |.bslice n z len ps,e,L,K=>W.bslice n z len (evq e ps) L K
 |.mslice n b z l c,e,L,K=>W.mslice n b z (ev e l) (ev e c) L K
 |.store n x y,e,L,K=>W.store n (ev e x) (ev e y) L λL=>K (.tup []) L
 |.app n b s x,e,L,K=>W.append n b (ev e s) (ev e x) L K
 |.clr n z x,e,L,K=>W.clear n z (ev e x) L λL=>K (.tup []) L
 |.mkmap,e,L,K=>W.mkmap L K
 |.mup x y z,e,L,K=>W.mup (ev e x) (ev e y) (ev e z) L λL=>K (.tup []) L
 |.rngS x,e,L,K=>W.rngS (ev e x) L K
 |.nxt x,e,L,K=>W.nxt (ev e x) L K
 |.call f l,e,L,K=>wc (ev e f) (evs e l) L K
 |.fn f l,e,L,K=>K (.fn f (evs e l)) L
 |.cp z n x,e,L,K=>RQ z n (ev e x) L K
 |.bx x,e,L,K=>RS (ev e x) L K
 |o,e,L,K=>vv o e L λv=>K v L
def vd(u:List W.WR)(i:Nat):RO->List AV->SH->(AV->SH->Fp->Prop)->Prop
 |.l x,e,L,K=>dl u i (ev e x) L λv r=>K v L r
 |.ro n x,e,L,K=>dr u i n (ev e x) L λv r=>K v L r
 |.idx n x j,e,L,K=>di u i n (ev e x) (ev e j) L λv r=>K v L r
 |.store n x y,e,L,K=>ds u i n (ev e x) (ev e y) L λL r=>K (.tup []) L r
 |.fl o x,e,L,K=>Py o (ev e x) u i L λv r=>K v L r
 |.call f l,e,L,K=>wd u i (ev e f) (evs e l) L λv L2 ks=>wn [] ks [] L.names λr=>K v L2 r
 |.app n b s x,e,L,K=>W.calm u ⟨i,af (ev e s)++af (ev e x),af (ev e s),[],false,[]⟩ (W.append n b (ev e s) (ev e x) L λv L=>wn (af (ev e s)++af (ev e x)) (af (ev e s)) (af v) [] λr=>K v L r)
 |.clr n z x,e,L,K=>W.calm u ⟨i,af (ev e x),af (ev e x),[],false,[]⟩ (W.clear n z (ev e x) L λL=>wn (af (ev e x)) (af (ev e x)) [] [] λr=>K (.tup []) L r)
 |.slice n x a b c,e,L,K=>W.calm u ⟨i,fk (ev e x),[],[],false,[]⟩ (W.slice n (ev e x) (evo e a) (evo e b) (evo e c) L λv=>wn (fk (ev e x)) [] [] [] λr=>K v L r)
 |.idxP l n x j,e,L,K=>W.calm u ⟨i,fk (ev e x),[],[],false,[]⟩ (W.idxP l n (ev e x) (ev e j) λv=>wn (fk (ev e x)) [] [] [] λr=>K v L r)
 |.alloc z,e,L,K=>W.calm u ⟨i,[],[],[],false,[]⟩ (W.alloc z L λv L=>wn [] [] (af v) [] λr=>K v L r)
 |.box x,e,L,K=>W.calm u ⟨i,[],[],[],false,[]⟩ (W.box (ev e x) L λv L=>wn [] [] (af v) [] λr=>K v L r)
 |.bslice n z len ps,e,L,K=>W.calm u ⟨i,[],[],[],false,[]⟩ (W.bslice n z len (evq e ps) L λv L=>wn [] [] (af v) [] λr=>K v L r)
 |.mslice n b z l c,e,L,K=>W.calm u ⟨i,[],[],[],false,[]⟩ (W.mslice n b z (ev e l) (ev e c) L λv L=>wn [] [] (af v) [] λr=>K v L r)
 |_,_,_,_=>False
def mem:RO->Bool
 |.l _|.ro ..|.load ..|.idx ..|.idxP ..|.store ..|.fl ..|.call ..|.app ..|.clr ..|.slice ..|.alloc _|.box _|.bslice ..|.mslice ..=>true
 |_=>false
def rcd:RO->Nat->Fp->W.WR
 |.call _ _,i,r=>rc i r
 |_,i,r=>rm i r
def rec2(o:RO)(i:Nat)(r:Fp)(rs:List W.WR):List W.WR:=bif mem o then rcd o i r::rs else rs
def vd2(u:List W.WR)(i:Nat)(o:RO)(e:List AV)(L:SH)(K:AV->SH->Fp->Prop):Prop:=bif mem o then vd u i o e L K else vo o e L λv L=>K v L rz
def lkk:List (Nat×Kn)->Nat->Kn
 |[],_=>λ_ _=>False
 |(a,b)::l,k=>bif a==k then b else lkk l k
def lks(ks:List (Nat×Kn)):List Nat->List Kn
 |[]=>[]
 |a::l=>lkk ks a::lks ks l
def sel(e:List AV):List Nat->List AV
 |[]=>[]
 |a::l=>nth e a::sel e l
def usl(rs:List W.WR):List Nat->List W.WR
 |[]=>[]
 |a::l=>nthR rs a::usl rs l
def zp:List Nat->List Kn->List (Nat×Kn)
 |a::l,b::m=>(a,b)::zp l m
 |_,_=>[]
def retv(e:List AV):List X->AV
 |[x]=>ev e x
 |l=>.tup (evs e l)
section
variable (Q:R) (T:R->Nat->List Kn->Vs->SH->Kn->Prop) (J C:R->Nat->List Kn->Vs->SH->Prop)
def V:RT->List AV->List W.WR->List (Nat×Kn)->SH->Prop
 |.op o p k,e,rs,ks,L=>vo o e L λv L=>V k (ps p v e) rs ks L
 |.go g w o k,e,rs,ks,L=>wg (ev e g) w (vv o e L) L λv L=>V k (v::e) rs ks L
 |.gh g w o k,e,rs,ks,L=>W.grd (ev e g) w (vo o e L) L λv L=>V k (v::e) rs ks L
 |.gm g w x k,e,rs,ks,L=>RN (ev e g) w (ev e x) L λv L=>V k (v::e) rs ks L
 |.dop us i o p k,e,rs,ks,L=>vd (usl rs us) i o e L λv L r=>V k (ps p v e) (rcd o i r::rs) ks L
 |.dg us i g w o k,e,rs,ks,L=>W.dgrd (ev e g) w (vd2 (usl rs us) i o e L) L λv L r=>V k (v::e) (rec2 o i r rs) ks L
 |.dm i g w x k,e,rs,ks,L=>W.dgrd (ev e g) w (λK=>K (ev e x) L rz) L λv L r=>V k (v::e) rs ks L
 |.tt k,e,rs,ks,L=>(true=true)/\V k e [] ks L
 |.clr k,e,rs,ks,L=>V k e [] ks L
 |.keep l k,e,rs,ks,L=>V k (sel e l) rs ks L
 |.frz x k,e,rs,ks,L=>W.frz1 (ev e x) L λv L=>V k (v::e) rs ks L
 |.cnd x a b,e,rs,ks,L=>wk (ev e x) (V a e rs ks L) (V b e rs ks L)
 |.join p q ls k,e,rs,ks,L=>W.join (J (bif q then Q else q0) p (lks ks ls)) λj=>V k e rs ((p,j)::ks) L
 |.loop p q ls vs,e,rs,ks,L=>W.loop (T (bif q then Q else q0) p (lks ks ls)) (evs e vs) L
 |.jmp lab vs,e,rs,ks,L=>lkk ks lab (evs e vs) L
 |.cut p q ls vs,e,rs,ks,L=>C (bif q then Q else q0) p (lks ks ls) (evs e vs) L
 |.ret vs,e,rs,ks,L=>Q (retv e vs) L
 |.bad,_,_,_,_=>False
def Vz(t:RT)(e:List AV)(rs:List W.WR)(ks:List (Nat×Kn))(L:SH):Prop:=V Q T J C t e rs ks L
theorem V_call{f:X}{l:List X}{p:N3}{k:RT}{e:List AV}{j:List W.WR}{u:List (Nat×Kn)}{L:SH}:V Q T J C (.op (.call f l) p k) e j u L=wc (ev e f) (evs e l) L λv L=>Vz Q T J C k (ps p v e) j u L:=rfl
theorem V_dcall{us:List Nat}{i:Nat}{f:X}{l:List X}{p:N3}{k:RT}{e:List AV}{j:List W.WR}{u:List (Nat×Kn)}{L:SH}:V Q T J C (.dop us i (.call f l) p k) e j u L=wd (usl j us) i (ev e f) (evs e l) L λv L2 ns=>wn [] ns [] L.names λr=>Vz Q T J C k (ps p v e) (rc i r::j) u L2:=rfl
theorem Vz_cut{p:Nat}{q:Bool}{ls:List Nat}{vs:List X}{e:List AV}{u:List W.WR}{j:List (Nat×Kn)}{L:SH}:Vz Q T J C (.cut p q ls vs) e u j L=C (bif q then Q else q0) p (lks j ls) (evs e vs) L:=rfl
theorem Vz_keep{l:List Nat}{k:RT}{e:List AV}{j:List W.WR}{u:List (Nat×Kn)}{L:SH}:Vz Q T J C (.keep l k) e j u L=Vz Q T J C k (sel e l) j u L:=rfl
theorem Vz_clr{k:RT}{e:List AV}{u:List W.WR}{j:List (Nat×Kn)}{L:SH}:Vz Q T J C (.clr k) e u j L=Vz Q T J C k e [] j L:=rfl
theorem V_cnd{x:X}{a b:RT}{e:List AV}{j:List W.WR}{u:List (Nat×Kn)}{L:SH}:V Q T J C (.cnd x a b) e j u L=wk (ev e x) (Vz Q T J C a e j u L) (Vz Q T J C b e j u L):=rfl
end
def fp:List Nd->Nat->Nd
 |[],_=>⟨0,[],[],[],.bad⟩
 |a::l,k=>bif a.key==k then a else fp l k
def sp(p:Nd)(vs:Vs):List AV:=(p.live++p.mis).map λt=>cF p.live vs t
def jk:List Nat->List AV
 |[]=>[]
 |_::l=>.junk::jk l
end Cm
open Cm
def Pc(r:RF):Nat->R->Nat->List Kn->Vs->SH->Prop
 |0,_,_,_,_,_=>False
 |f+1,Q,p,kl,e,L=>V Q (λQ p kl vs L n=>Pc r f Q p (n::kl) (sp (fp r.ps p) vs) L) (λQ p kl vs L=>Pc r f Q p kl (sp (fp r.ps p) vs) L) (λQ p kl vs L=>Pc r f Q p kl vs L) (fp r.ps p).tree e [] (zp (fp r.ps p).labs kl) L
def Lp(r:RF)(f:Nat)(Q:R)(p:Nat)(kl:List Kn)(vs:Vs)(L:SH)(n:Kn):Prop:=Pc r f Q p (n::kl) (sp (fp r.ps p) vs) L
def Jp(r:RF)(f:Nat)(Q:R)(p:Nat)(kl:List Kn)(vs:Vs)(L:SH):Prop:=Pc r f Q p kl (sp (fp r.ps p) vs) L
theorem N4{r:RF}{Q:R}{f p a:Nat}{live mis labs:List Nat}{t:RT}{j:List Kn}{e:Vs}{L:SH}(h:fp r.ps p=⟨a,live,mis,labs,t⟩):Pc r (f+1) Q p j e L=V Q (Lp r f) (Jp r f) (Pc r f) t e [] (zp labs j) L:=by show V Q _ _ _ (fp r.ps p).tree e [] (zp (fp r.ps p).labs j) L=_;rw[h];rfl
theorem LS(live:List Nat)(vs:Vs)(t:Nat)(h:t∉live):cF live vs t=.junk:=by
 induction live generalizing vs with
 |nil=>rfl
 |cons d ds u=>
  cases vs with
  |nil=>rfl
  |cons v vs=>
   have j:=not_or.1 λe=>h (SB.2 e)
   simp only[cF,if_neg λe=>j.1 (Eq.symm e)];exact u vs j.2
theorem DT:∀{live:List Nat} {vs:Vs},live.Nodup->vs.length=live.length->live.map (cF live vs)=vs
 |[],[],_,_=>rfl
 |[],_::_,_,h=>by cases h
 |_::_,[],_,h=>by cases h
 | d::ds,v::vs,hn,h=>by have j:=Tc.1 hn;have u:=DT (live:=ds) (vs:=vs) j.2 (by simpa using h);simp only[Sx,cF,if_true];congr 1;refine Eq.trans (List.map_congr_left λt ht=>?_) u;rw[if_neg (show d≠t from λe=>j.1 (e▸ht))]
theorem Nf{a:Nat}{live mis labs:List Nat}{t:RT}{vs:Vs}(hn:(live++mis).Nodup)(h:vs.length=live.length):sp ⟨a,live,mis,labs,t⟩ vs=vs++jk mis:=by
 obtain⟨G,E,j⟩:=List.nodup_append.1 hn;unfold sp;dsimp only;rw[List.map_append,DT G h];congr 1;clear hn E
 induction mis with
 |nil=>rfl
 |cons m M u=>rw[Sx,LS live vs m λe=>j m e m (.head _) rfl,u λx D y B=>j x D y (.tail _ B)];rfl
theorem Ng{r:RF}{Q:R}{f g p a:Nat}{live mis labs:List Nat}{t:RT}{j:List Kn}{e:Vs}{L:SH}{N:R->Prop}(k:N Q)(h:fp r.ps p=⟨a,live,mis,labs,t⟩:=by rfl)(u:g=f+1:=by rfl)(B:∀Q,V Q (Lp r f) (Jp r f) (Pc r f) t e [] (zp labs j) L=N Q:=by intro Q;dsimp only[Cm.jk,List.cons_append,List.nil_append,Cm.V_call,Cm.V_dcall,Cm.V_cnd,Cm.Vz_cut,Cm.Vz_keep,Cm.Vz_clr,Cm.sel,Cm.V,Cm.vo,Cm.vv,Cm.vd,Cm.vd2,Cm.mem,Cm.rcd,Cm.rec2,Cm.ev,Cm.evs,Cm.evo,Cm.evp,Cm.evq,Cm.nth,Cm.nthR,Cm.ps,Cm.lkk,Cm.lks,Cm.usl,Cm.zp,Cm.retv,Cm.bys,UInt8.reduceOfNat,Int.reduceOfNat,Int.reduceNegSucc,cond_true,cond_false,Nat.reduceBEq]<;>rfl):Pc r g Q p j e L:=by subst u;rw[N4 h,B];exact k
theorem GU{Q:R}{T:R->Nat->List Kn->Vs->SH->Kn->Prop}{J C:R->Nat->List Kn->Vs->SH->Prop}{t:RT}{e:Vs}{j:List W.WR}{u:List (Nat×Kn)}{L:SH}{N:R->Prop}(k:N Q)(B:∀Q,V Q T J C t e j u L=N Q:=by intro Q;dsimp only[Cm.jk,List.cons_append,List.nil_append,Cm.V_call,Cm.V_dcall,Cm.V_cnd,Cm.Vz_cut,Cm.Vz_keep,Cm.Vz_clr,Cm.sel,Cm.V,Cm.vo,Cm.vv,Cm.vd,Cm.vd2,Cm.mem,Cm.rcd,Cm.rec2,Cm.ev,Cm.evs,Cm.evo,Cm.evp,Cm.evq,Cm.nth,Cm.nthR,Cm.ps,Cm.lkk,Cm.lks,Cm.usl,Cm.zp,Cm.retv,Cm.bys,UInt8.reduceOfNat,Int.reduceOfNat,Int.reduceNegSucc,cond_true,cond_false,Nat.reduceBEq]<;>rfl):Vz Q T J C t e j u L:=by unfold Vz;rw[B];exact k
theorem Nh{r:RF}{Q:R}{f g p a:Nat}{live mis labs:List Nat}{t:RT}{j:List Kn}{vs:Vs}{L:SH}{n:Kn}{N:R->Kn->Prop}(k:N Q n)(h:fp r.ps p=⟨a,live,mis,labs,t⟩:=by rfl)(hn:(live++mis).Nodup:=by decide)(hl:vs.length=live.length:=by rfl)(u:g=f+1:=by rfl)(B:∀Q n,V Q (Lp r f) (Jp r f) (Pc r f) t (vs++jk mis) [] (zp labs (n::j)) L=N Q n:=by intro Q n;dsimp only[Cm.jk,List.cons_append,List.nil_append,Cm.V_call,Cm.V_dcall,Cm.V_cnd,Cm.Vz_cut,Cm.Vz_keep,Cm.Vz_clr,Cm.sel,Cm.V,Cm.vo,Cm.vv,Cm.vd,Cm.vd2,Cm.mem,Cm.rcd,Cm.rec2,Cm.ev,Cm.evs,Cm.evo,Cm.evp,Cm.evq,Cm.nth,Cm.nthR,Cm.ps,Cm.lkk,Cm.lks,Cm.usl,Cm.zp,Cm.retv,Cm.bys,UInt8.reduceOfNat,Int.reduceOfNat,Int.reduceNegSucc,cond_true,cond_false,Nat.reduceBEq]<;>rfl):Lp r g Q p j vs L n:=by subst u;unfold Lp;rw[h,Nf hn hl,N4 h,B];exact k
theorem Ni{r:RF}{Q:R}{f g p a:Nat}{live mis labs:List Nat}{t:RT}{j:List Kn}{vs:Vs}{L:SH}{N:R->Prop}(k:N Q)(h:fp r.ps p=⟨a,live,mis,labs,t⟩:=by rfl)(hn:(live++mis).Nodup:=by decide)(hl:vs.length=live.length:=by rfl)(u:g=f+1:=by rfl)(B:∀Q,V Q (Lp r f) (Jp r f) (Pc r f) t (vs++jk mis) [] (zp labs j) L=N Q:=by intro Q;dsimp only[Cm.jk,List.cons_append,List.nil_append,Cm.V_call,Cm.V_dcall,Cm.V_cnd,Cm.Vz_cut,Cm.Vz_keep,Cm.Vz_clr,Cm.sel,Cm.V,Cm.vo,Cm.vv,Cm.vd,Cm.vd2,Cm.mem,Cm.rcd,Cm.rec2,Cm.ev,Cm.evs,Cm.evo,Cm.evp,Cm.evq,Cm.nth,Cm.nthR,Cm.ps,Cm.lkk,Cm.lks,Cm.usl,Cm.zp,Cm.retv,Cm.bys,UInt8.reduceOfNat,Int.reduceOfNat,Int.reduceNegSucc,cond_true,cond_false,Nat.reduceBEq]<;>rfl):Jp r g Q p j vs L:=by subst u;unfold Jp;rw[h,Nf hn hl,N4 h,B];exact k
def Nj:List (Nat×Hp)->Nat->Option (List Nat)
 |[],_=>none
 |(a,p)::l,k=>bif a % 3==1&&(a / 3) % 1000==k then some p.live else Nj l k
def vS(r:RF)(fn:Func):GI:=⟨Nj r.hs,λk=>(hpOf r (3*k)).live,λk=>(Cm.lk r.fz k).getD [],λk=>mks k (fn.body.getD .skip)⟩
where mks (k:Nat):Code->List Nat
 |.region id ops _=>bif id==k then bS ops.toList []else []
 |.seq a b|.cond _ a b=>mks k a++mks k b
 |.block _ b|.loop b=>mks k b
 |_=>[]
theorem R4{Q:R}{T:R->Nat->List Kn->Vs->SH->Kn->Prop}{J C:R->Nat->List Kn->Vs->SH->Prop}{t:RT}{e:Vs}{j:List W.WR}{u:List (Nat×Kn)}{L:SH}(k:Vz Q T J C t e j u L):Vz Q T J C t e j u L:=k
theorem R5{r:RF}{Q:R}{g p:Nat}{j:List Kn}{e:Vs}{L:SH}(k:Pc r g Q p j e L):Pc r g Q p j e L:=k
theorem R6{r:RF}{Q:R}{g p:Nat}{j:List Kn}{e:Vs}{L:SH}(k:Jp r g Q p j e L):Jp r g Q p j e L:=k
theorem vw{A B:Prop}(k:B)(h:B->A:=by intro k;first|exact Ng k|exact Nh k|exact Ni k|exact GU k|fail):A:=h k
attribute [irreducible] Vz Pc Lp Jp
theorem fv(r:RF){f:FuncId}{fn:Func}{args:List AV}{L:SH}{Q:R}(j:Tryz.prog.funcs[f]? =some fn)(h:Pc r 20 Q 0 [] args L)(hb:fn.body=some (fn.body.getD .skip):=by kernel_rfl)(u:W.func Tryz.prog Fl (vS r fn) fn (fn.body.getD .skip) args L Q=Pc r 20 Q 0 [] args L:=by kernel_rfl):ac Tryz.prog f args L Q:=RY _ j hb u h
end
def iT:RF:=nv (bO Tryz.prog Tryz.f73 [(135130,⟨[7,12,15],[],true,[]⟩),(48043,⟨[4,5,6,7,8,12,15,27,51],[135130],false,[]⟩),(39034,⟨[4,5,6,7,8,12,15,27,42],[135130],false,[]⟩),(908,⟨[3,4,5,6,7,8,12,26],[],true,[]⟩)] [(0,[6,8])])
abbrev mh(Q:R)(a b c d e f g h:AV)(i:SH):Prop:=Pc iT 19 Q 908 [] [a,b,c,g,d,e,f,h] i
abbrev nB(a b c d e f:AV)(L:SH)(Q:R):Prop:=Pc iT 20 Q 0 [] [a,b,c,d,e,f] L
def vT(B t1 t2 t3 u j:AV)(L:SH)(Q:R)(h:nB B t1 t2 t3 u j L Q):ac Tryz.prog 73 [B,t1,t2,t3,u,j] L Q:=
 fv iT Tryz.func73 h
section
inductive ea (o:Option Nat) (n:Nat) (rows:List (List AV)):SH->SH->Prop where
 |here (R:SH):ea o n rows (ab o n rows++R) R
 |last:ea o n rows (ab o n rows) []
 |there (p:Nat×Blk) {L L':SH}:ea o n rows L L'->ea o n rows (p::L) (p::L')
 |skip (o2:Option Nat) (n2:Nat) (rows2:List (List AV)) {L L':SH}:ea o n rows L L'->ea o n rows (ab o2 n2 rows2++L) (ab o2 n2 rows2++L')
theorem ea.some'{b n:Nat}{rows:List (List AV)}{L L':SH}(h:ea (some b) n rows L L'):eJ b ⟨n,rows⟩ L L':=by
 induction h with
 |here R=>exact .here R
 |last=>exact .here []
 |there p h u=>exact .there p u
 |skip B D j h u=>exact u.app _
theorem ea.none'{n:Nat}{rows:List (List AV)}{L L':SH}(h:ea none n rows L L'):L=L':=by
 induction h with
 |here R=>rfl
 |last=>rfl
 |there p h u=>rw[u]
 |skip B D j h u=>rw[u]
theorem ea.perm{o:Option Nat}{n:Nat}{rows:List (List AV)}{L L':SH}(h:ea o n rows L L'):L.Perm (ab o n rows++L'):=by
 cases o with
 |none=>rw[h.none'];exact .refl _
 |some b=>exact h.some'.perm
theorem eJ.mem'{b:Nat}{x:Blk}{L L':SH}(h:eJ b x L L'):(b,x)∈L:=by
 induction h with
 |here L=>simp
 |there p h j=>simp[j]
section
variable {KL:AV->SH->Prop} {L L':SH}
theorem bF{o:Option Nat}{i n by_ M k:Nat}{rows m:List (List AV)}(E:(M,(⟨n,m⟩:Blk))∈L)(B:ea o n rows L L')(u:rows.length=i)(S:o=none->rows=[])(O:k=m.length)(Z:0<m.length)(h2:2*(i+m.length)*by_<=2^48)(G:2*(i+m.length)<=2^62)(h4:(m.all λr=>r.all AV.one)=true)
  (h:∀b,b∉L.names->KL (.sl b 0 (i+m.length)) ((b,⟨n,rows++m⟩)::L')):W.append n by_ (aj o i) (.sl M 0 k) L KL:=by
 subst O;cases o with
 |none=>have j:=S rfl;subst j;simp only[S2]at u;subst u;have N:=B.none';subst N;have:=B8 (KL:=KL) (L:=L) (by_:=by_) (jG E rfl rfl) (by simpa using h2) (by simpa using G) h4 (by show m.length≠0;omega) (λb D=>by simpa using h b D);exact this
 |some b=>subst u;exact jF (y:=⟨n,rows⟩) (l:=rows) B.some'.mem' rfl Ud Ud (jG E rfl rfl) h2 G h4 B.some' (λY D=>h Y D)
theorem nC{α:Type}{f:α->List AV}{l:List α}{o:Option Nat}{i n by_:Nat}{rows:List (List AV)}(G:ea o n rows L L')(M:∀x,(f x).length=n)(j:rows.length=i)(S:o=none->rows=[])(h2:2*(i+l.length)*by_<=2^48)(N:2*(i+l.length)<=2^62)(h4:∀x,(f x).all AV.one=true)
  (h:∀B,(B=none->rows++l.map f=[])->KL (aj B (i+l.length)) (ab B n (rows++l.map f)++L')):W.append n by_ (aj o i) (.lst (l.map f)) L KL:=by
 have u:((l.map f).all λr=>r.all AV.one)=true:=by rw[SM];intro r j;obtain⟨x,_,rfl⟩:=Tl.1 j;exact h4 x
 cases o with
 |none=>
  have D:=S rfl;subst D;simp only[S2]at j;subst j;have E:=G.none';subst E;refine⟨[],l.map f,rfl,oU M,by simpa using h2,by simpa using N,u,λe=>?_,λe b O=>?_⟩
  .have E:l=[]:=by simpa using e
   subst E;exact h none λ_=>rfl
  .have:=h (some b) nofun;simpa[aj,ab]using this
 |some b=>subst j;refine jF (y:=⟨n,rows⟩) (l:=rows) G.some'.mem' rfl Ud Ud (oU M) (by simpa using h2) (by simpa using N) u G.some' (λY O=>?_);have:=h (some Y) nofun;simpa[aj,ab]using this
inductive fV:SH->SH->Prop where
 |nil (L:SH):fV L []
 |one {b:Nat} {x:Blk} {L L' R:SH}:eJ b x L L'->fV L' R->fV L ((b,x)::R)
 |slot {o:Option Nat} {n:Nat} {rows:List (List AV)} {L L' R:SH}:ea o n rows L L'->fV L' R->fV L (ab o n rows++R)
 |slotl {o:Option Nat} {n:Nat} {rows:List (List AV)} {L L':SH}:ea o n rows L L'->fV L (ab o n rows)
theorem fV.perm{L R:SH}(h:fV L R):∃K,L.Perm (K++R):=by
 induction h with
 |nil L=>exact⟨L,Ud⟩
 |one j hp u=>obtain⟨K,B⟩:=u;exact⟨K,(j.perm.trans ((B.cons _).trans TD.symm))⟩
 |slot j hp u=>obtain⟨K,B⟩:=u;refine⟨K,j.perm.trans ((B.append_left _).trans ?_)⟩;rw[<-S3,<-S3];exact SG.append_right _
 |slotl j=>exact⟨_,j.perm.trans SG⟩
theorem az.pick{vs j:List AV}{R:SH}(h:fV L R)(u:vs=j):az vs L j R:=by subst u;obtain⟨K,B⟩:=h.perm;exact az.forget B
end
end
def Fr.perm{B:Nat}{L E L'':SH}{H H':ae}(h:Fr B L H E H')(hp:E.Perm L''):Fr B L H L'' H':=
 ⟨h.next,h.bd,h.sub.perm hp,λb x D u=>⟨(h.keep b x D u).1,λG=>(h.keep b x D u).2 ((hp.map Prod.fst).mem_iff.2 G)⟩,h.dom,λb M j=>h.fresh b ((hp.map Prod.fst).mem_iff.2 M) j⟩
def ac.perm{P:Program}{f:FuncId}{args:List AV}{L:SH}{Q:AV->SH->Prop}(h:ac P f args L λv j=>∃L'',j.Perm L''/\Q v L''):ac P f args L Q:=⟨h.1,λH B u=>by
 obtain⟨v,M,j,G,E,L'',hp,D⟩:=h.2 H B u;exact⟨v,M,L'',G,E.perm hp,D⟩⟩
def fU.refl(K:SH):∀l:List AV,fU K l l
 |[]=>.nil
 |a::l=>.cons (.refl a) (fU.refl K l)
def az.row{vs:List AV}{L K R:SH}{b n:Nat}{rows rows':List (List AV)}(O:L.Perm (K++(b,⟨n,rows⟩)::R))(B:rows.length=rows'.length)(N:∀(j:Nat) (r E:List AV),rows[j]? =some r->rows'[j]? =some E->fU K r E):az vs L vs ((b,⟨n,rows'⟩)::R):=by
 refine⟨K,(b,⟨n,rows⟩)::R,O,⟨rfl,λi a a2 D u=>by rw[D]at u;cases u;exact .refl _⟩,rfl,λi p q D u=>?_⟩
 match i with
 |0=>cases D;cases u;exact⟨rfl,rfl,B,λj s s2 g1 Z=>(N j s s2 g1 Z).at_⟩
 |i+1=>simp only[TJ]at D u;rw[D]at u;cases u;exact⟨rfl,rfl,rfl,λj r r2 Y M=>by rw[Y]at M;cases M;exact⟨rfl,λk a a2 S G=>by rw[S]at G;cases G;exact .refl _⟩⟩
inductive tW:SH->SH->SH->Prop where
 |nil (L:SH):tW L [] L
 |one {b:Nat} {x:Blk} {L L' R K:SH}:eJ b x L L'->tW L' R K->tW L ((b,x)::R) K
 |slot {o:Option Nat} {n:Nat} {rows:List (List AV)} {L L' R K:SH}:ea o n rows L L'->tW L' R K->tW L (ab o n rows++R) K
def tW.perm{L R K:SH}(h:tW L R K):L.Perm (K++R):=by
 induction h with
 |nil L=>simp
 |one u hp j=>exact(u.perm.trans ((j.cons _).trans TD.symm))
 |slot u hp j=>refine u.perm.trans ((j.append_left _).trans ?_);rw[<-S3,<-S3];exact SG.append_right _
def az.pickE{vs j:List AV}{L R R2:SH}(h:fV L R)(u:vs=j)(B:R=R2):az vs L j R2:=by subst B;exact az.pick h u
def az.rowA{vs E:List AV}{L A R K:SH}{b n:Nat}{rows rows':List (List AV)}(h:tW L (A++(b,⟨n,rows⟩)::R) K)(G:rows.length=rows'.length)(hr:∀(j:Nat) (r N:List AV),rows[j]? =some r->rows'[j]? =some N->fU K r N)(hv:vs=E):az vs L E (A++(b,⟨n,rows'⟩)::R):=by
 subst hv;refine⟨K,_,h.perm,⟨rfl,λi a O B u=>by rw[B]at u;cases u;exact .refl _⟩,Ud,λi p q B u=>?_⟩;have D:p=q->p.1=q.1/\p.2.size=q.2.size/\p.2.rows.length=q.2.rows.length/\∀(j:Nat) (r M:List AV),p.2.rows[j]? =some r->q.2.rows[j]? =some M->r.length=M.length/\∀(k:Nat) (a O:AV),r[k]? =some a->M[k]? =some O->Fz K a O:=λe=>by subst e;exact⟨rfl,rfl,rfl,λj r M h3 Z=>by rw[h3]at Z;cases Z;exact⟨rfl,λk a O h5 Y=>by rw[h5]at Y;cases Y;exact .refl _⟩⟩
 rcases Fn i A.length with S|S
 .rw[SE S]at B u;rw[B]at u;cases u;exact D rfl
 .rw[SA S]at B u;generalize i-A.length=k at B u
  match k with
  |0=>cases B;cases u;exact⟨rfl,rfl,G,λj r N g1 g2=>(hr j r N g1 g2).at_⟩
  |k+1=>simp only[TJ]at B u;rw[B]at u;cases u;exact D rfl
end Go.Proofs.YtbofdbhnbodbiaaGreatDoor.Am
