/- A part of the proof; the statement is proved in the last part. -/
import Derived.Test.YtdnpdghlggbklaaGreatDoorQte
import Derived.Test.YtdnpdghlggbklaaGreatDoorRows
import Derived.WalkKit
import Derived.ProofKit
import Derived.OpenShut
import Derived.Handy
import Derived.Outline
import Derived.Lib.Hide
import Derived.Deep.Slices
import Derived.Deep.Fields
import Derived.ChangeSame
import Derived.Carry
import Derived.Deep.Draws
import Derived.Laws.AppendOwn
import Derived.Laws.OwnMore
import Derived.Laws.MakeOwn
import Derived.OwnWalk
import Derived.WalkSpells
import Derived.Deep.DeepMust
set_option linter.unusedSimpArgs false
set_option linter.unusedVariables false
namespace Go.Proofs.YtdnpdghlggbklaaGreatDoor.Am
abbrev bC:=List UInt8
structure MO where
 name:bC
 index:Int
 size:Int
 volatile:Bool
 init:Int
 deriving Inhabited,DecidableEq
structure MP where
 name:bC
 rw:Bool
 deriving Inhabited,DecidableEq
structure MQ where
 name:bC
 mutex:Int
 deriving Inhabited,DecidableEq
structure MR where
 thread:Int
 stmt:Int
 line:Int
 deriving Inhabited,DecidableEq
structure Ph where
 cells:List MO
 locks:List MP
 conds:List MQ
 futures:List bC
 threads:List bC
 sites:List MR
 deriving Inhabited,DecidableEq
structure LockD where
 owner:Int
 readers:List Int
 deriving Inhabited,DecidableEq
structure ThrD where
 status:Int
 cond:Int
 atomic:Bool
 deriving Inhabited,DecidableEq
structure SyncD where
 locks:List LockD
 tx:Int
 done:List Bool
 threads:List ThrD
 deriving Inhabited,DecidableEq
def MO.enc(c:MO):List AV:=[.str c.name,.int .i64 c.index,.int .i64 c.size,.bool c.volatile,.int .i64 c.init]
def MP.enc(c:MP):List AV:=[.str c.name,.bool c.rw]
def MQ.enc(c:MQ):List AV:=[.str c.name,.int .i64 c.mutex]
def MR.enc(c:MR):List AV:=[.int .i64 c.thread,.int .i64 c.stmt,.int .i64 c.line]
def av(s:bC):List AV:=[.str s]
def aj(n:Int):List AV:=[.int .i64 n]
def bj(b:Bool):List AV:=[.bool b]
def LockD.enc(l:LockD):List AV:=[.int .i64 l.owner,.lst (l.readers.map aj)]
def ThrD.enc(t:ThrD):List AV:=[.int .i64 t.status,.int .i64 t.cond,.bool t.atomic]
def Ph.enc(w:Ph):List AV:=[.lst (w.cells.map MO.enc),.lst (w.locks.map MP.enc),.lst (w.conds.map MQ.enc),.lst (w.futures.map av),.lst (w.threads.map av),.lst (w.sites.map MR.enc)]
def SyncD.enc(s:SyncD):List AV:=[.lst (s.locks.map LockD.enc),.int .i64 s.tx,.lst (s.done.map bj),.lst (s.threads.map ThrD.enc)]
theorem ay{α β:Type}{f:α→β}{l:List α}{i:Nat}(h:i<l.length):(l.map f)[i]? =some (f l[i]):=by simp[h]
theorem RH{α β:Type}{f:α→β}{l:List α}{i:Nat}{x:α}(h:l[i]? =some x):(l.map f)[i]? =some (f x):=by simp[h]
theorem aA{i n:Nat}(h:i<n)(hn:n<2^62):IntKind.i64.wrap ((i:Int)+1)=((i+1:Nat):Int):=by rw[YU _ ZJ];omega
theorem bE{i n:Nat}(h:i<n):decide ((i:Int)<(n:Int))=true:=by simpa using h
theorem bI{i n:Nat}(h:n≤i):decide ((i:Int)<(n:Int))=false:=by simpa using h
theorem eQ{vs vs2:List AV}{L L2:SH}(hv:vs=vs2)(hL:L=L2):aG vs L vs2 L2:=by subst hv;subst hL;exact .refl _ _
theorem qf(n:Nat)(S:Nat→List AV×SH)(G:Nat→Prop){B:List AV→SH→W.Kn→Prop}{vs:List AV}{L:SH}(h0:G 0)(hv:vs=(S 0).1)(hL:L=(S 0).2)
  (h:∀i,i≤n→G i→B (S i).1 (S i).2 λvs' L'=>∃j,i<j∧j≤n∧G j∧aG vs' L' (S j).1 (S j).2):W.loop B vs L:=by
 refine⟨λk vs L=>∃i,i≤n∧G i∧k=n-i∧vs=(S i).1∧L=(S i).2,⟨n,_,_,.refl _ _,0,YK _,h0,rfl,hv,hL⟩,?_⟩;rintro k vs L ⟨i,hi,hG,rfl,rfl,rfl⟩;have e:(λvs' L'=>∃m vs2 L2,m<n-i∧aG vs' L' vs2 L2∧∃j,j≤n∧G j∧m=n-j∧vs2=(S j).1∧L2=(S j).2)=λvs' L'=>∃j,i<j∧j≤n∧G j∧aG vs' L' (S j).1 (S j).2:=by
  funext vs' L';apply propext;constructor
  ·rintro⟨m,vs2,L2,h1,h2,j,h3,h4,rfl,rfl,rfl⟩;exact⟨j,ZJ,h3,h4,h2⟩
  ·rintro⟨j,h1,h2,h3,h4⟩;exact⟨n-j,_,_,ZJ,h4,j,h2,h3,rfl,rfl,rfl⟩
 rw[e];exact h i hi hG
def inB(i:Int)(n:Nat):Bool:=decide (0≤i)&&decide (i<(n:Int))
theorem ax{i:Int}{n:Nat}:inB i n=true↔0≤i∧i<n:=by simp[inB]
theorem fN{i:Int}{n:Nat}(h:inB i n=true):0≤i:=(ax.1 h).1
theorem dU{α:Type}[Inhabited α]{f:α→List AV}{l:List α}{i:Int}(h:inB i l.length=true):(l.map f)[i.toNat]? =some (f (l.getD i.toNat default)):=by
 obtain⟨h1,h2⟩:=ax.1 h;have:i.toNat<l.length:=by omega
 simp[this]
section
set_option maxRecDepth 100000
set_option linter.unusedSimpArgs false
theorem Fz.slm{α:Type}{K:SH}{b n size:Nat}{l:List α}{f g:α→List AV}{rows:List (List AV)}(hm:(b,⟨size,rows⟩)∈K)(hr:rows=l.map f)(hs:0<size)(hn:n=l.length)(hl:∀y∈l,(f y).length=(g y).length)
  (hc:∀y∈l,∀(q:Nat) (a a2:AV),(f y)[q]? =some a→(g y)[q]? =some a2→Fz K a a2):Fz K (.sl b 0 n) (.lst (l.map g)):=by
 subst hr;subst hn;cases l with
 |nil=>exact .sl0 b 0
 |cons x l=>
  have get:∀(j:Nat) (r r2:List AV),((x::l).map f)[0+j]? =some r→((x::l).map g)[j]? =some r2→∃y∈x::l,r=f y∧r2=g y:=λj r r2 h1 h2=>by
   rw[Y2,Ym]at h1;rw[Ym]at h2;cases hj:(x::l)[j]? with
   |none=>rw[hj]at h1;cases h1
   |some y=>rw[hj]at h1 h2;cases h1;cases h2;exact⟨y,YN hj,rfl,rfl⟩
  refine .sl b 0 _ ⟨size,(x::l).map f⟩ _ hm hs ZM ZM ZM (λj r r2 h1 h2=>?_) (λj r r2 q a a2 h1 h2 h3 h4=>?_)
  ·obtain⟨y,hy,rfl,rfl⟩:=get j r r2 h1 h2;exact hl y hy
  ·obtain⟨y,hy,rfl,rfl⟩:=get j r r2 h1 h2;exact hc y hy q a a2 h3 h4
theorem Fz.sls{α:Type}{K:SH}{b n size:Nat}{l:List α}{f:α→List AV}{rows:List (List AV)}(hm:(b,⟨size,rows⟩)∈K)(hr:rows=l.map f)(hs:0<size)(hn:n=l.length):Fz K (.sl b 0 n) (.lst (l.map f)):=
 Fz.slm hm hr hs hn (λ_ _=>rfl) λy _ q a a2 h1 h2=>by rw[h1]at h2;cases h2;exact .refl _
inductive iV (K:SH):List AV→List AV→Prop where
 |nil:iV K [] []
 |cons {a b:AV} {l m:List AV}:Fz K a b→iV K l m→iV K (a::l) (b::m)
theorem iV.at_{K:SH}{l m:List AV}(h:iV K l m):l.length=m.length∧∀(i:Nat) (a b:AV),l[i]? =some a→m[i]? =some b→Fz K a b:=by
 induction h with
 |nil=>exact⟨rfl,λi a b h=>by simp at h⟩
 |cons h1 h2 ih=>
  refine⟨by simp[ih.1],λi a b ha hb=>?_⟩
  match i with
  |0=>cases ha;cases hb;exact h1
  |i+1=>exact ih.2 i a b (by simpa using ha) (by simpa using hb)
theorem Fz.aggs{K:SH}{l m:List AV}(h:iV K l m):Fz K (.agg l) (.agg m):=.agg l m h.at_.1 h.at_.2
theorem Fz.tups{K:SH}{l m:List AV}(h:iV K l m):Fz K (.tup l) (.tup m):=.tup l m h.at_.1 h.at_.2
theorem aG.all{L:SH}{v v2:AV}(h:Fz L v v2):aG [v] L [v2] []:=.drop (K:=L) (R:=[]) ZM rfl λi a a2 h1 h2=>by
 match i with
 |0=>cases h1;cases h2;exact h
 |i+1=>simp at h1
theorem RI{α:Type}(i n:Nat)(A B:α)(h:i<n):(List.replicate i A++List.replicate (n-i) B).set i A=List.replicate (i+1) A++List.replicate (n-(i+1)) B:=by rw[List.set_append_right _ _ ZM,List.length_replicate,Nat.sub_self];obtain⟨k,hk⟩:∃k,n-i=k+1:=⟨n-i-1,ZJ⟩;rw[hk,List.replicate_succ,List.set_cons_zero,show n-(i+1)=k by omega,List.replicate_succ',YP,List.singleton_append]
theorem RJ{α:Type}(i n:Nat)(A B:α)(h:i<n):(List.replicate i A++List.replicate (n-i) B)[i]? =some B:=by rw[Yh ZM,List.length_replicate,Nat.sub_self];obtain⟨k,hk⟩:∃k,n-i=k+1:=⟨n-i-1,ZJ⟩;rw[hk,List.replicate_succ];rfl
def ao:Option Nat→Nat→AV
 |none,_=>.emp
 |some b,n=>.sl b 0 n
def ae(o:Option Nat)(size:Nat)(rows:List (List AV)):SH:=match o with
 |none=>[]
 |some b=>[(b,⟨size,rows⟩)]
theorem eP.app{b:Nat}{x:Blk}{L L':SH}(h:eP b x L L'):∀M:SH,eP b x (M++L) (M++L')
 |[]=>h
 |p::M=>.there p (h.app M)
theorem aG.forget{vs:List AV}{L K R:SH}(hL:L.Perm (K++R)):aG vs L vs R:=.drop hL rfl λi a a2 h1 h2=>by rw[h1]at h2;cases h2;exact .refl _
theorem aG.box{vs:List AV}{L K R:SH}{b n:Nat}{r r':List AV}(hL:L.Perm (K++(b,⟨n,[r]⟩)::R))(hr:iV K r r'):aG vs L vs ((b,⟨n,[r']⟩)::R):=by
 refine⟨K,(b,⟨n,[r]⟩)::R,hL,⟨rfl,λi a a2 h1 h2=>by rw[h1]at h2;cases h2;exact .refl _⟩,rfl,λi p q h1 h2=>?_⟩
 match i with
 |0=>
  cases h1;cases h2;refine⟨rfl,rfl,rfl,λj s s2 g1 g2=>?_⟩
  match j with
  |0=>cases g1;cases g2;exact⟨hr.at_.1,hr.at_.2⟩
  |j+1=>simp at g1
 |i+1=>simp only[Zv]at h1 h2;rw[h1]at h2;cases h2;exact⟨rfl,rfl,rfl,λj r r2 h3 h4=>by rw[h3]at h4;cases h4;exact⟨rfl,λk a a2 h5 h6=>by rw[h5]at h6;cases h6;exact .refl _⟩⟩
theorem Fz.slot{α:Type}{o:Option Nat}{size:Nat}{l:List α}{f g:α→List AV}{rows:List (List AV)}(hr:rows=l.map f)(h0:o=none→rows=[])(hs:0<size)(hl:∀y∈l,(f y).length=(g y).length)
  (hc:∀y∈l,∀(q:Nat) (a a2:AV),(f y)[q]? =some a→(g y)[q]? =some a2→Fz (ae o size rows) a a2):Fz (ae o size rows) (ao o l.length) (.lst (l.map g)):=by
 cases o with
 |none=>
  have:=h0 rfl;subst hr;have:l=[]:=by simpa using this
  subst this;exact .emp
 |some b=>exact Fz.slm (Ye.2 rfl) hr hs rfl hl hc
theorem bW{β:Type}(n:Nat)(S:Nat→β→List AV×SH)(G:Nat→β→Prop){B:List AV→SH→W.Kn→Prop}{vs:List AV}{L:SH}(b0:β)(h0:G 0 b0)(hz:aG vs L (S 0 b0).1 (S 0 b0).2)
  (h:∀i o,i≤n→G i o→B (S i o).1 (S i o).2 λvs' L'=>∃j o',i<j∧j≤n∧G j o'∧aG vs' L' (S j o').1 (S j o').2):W.loop B vs L:=by
 refine⟨λk vs L=>∃i o,i≤n∧G i o∧k=n-i∧vs=(S i o).1∧L=(S i o).2,⟨n,_,_,hz,0,b0,YK _,h0,rfl,rfl,rfl⟩,?_⟩;rintro k vs L ⟨i,o,hi,hG,rfl,rfl,rfl⟩;have e:(λvs' L'=>∃m vs2 L2,m<n-i∧aG vs' L' vs2 L2∧∃j o',j≤n∧G j o'∧m=n-j∧vs2=(S j o').1∧L2=(S j o').2)=λvs' L'=>∃j o',i<j∧j≤n∧G j o'∧aG vs' L' (S j o').1 (S j o').2:=by
  funext vs' L';apply propext;constructor
  ·rintro⟨m,vs2,L2,h1,h2,j,o',h3,h4,rfl,rfl,rfl⟩;exact⟨j,o',ZJ,h3,h4,h2⟩
  ·rintro⟨j,o',h1,h2,h3,h4⟩;exact⟨n-j,_,_,ZJ,h4,j,o',h2,h3,rfl,rfl,rfl⟩
 rw[e];exact h i o hi hG
end
end Go.Proofs.YtdnpdghlggbklaaGreatDoor.Am
section
namespace Go.Proofs.YtdnpdghlggbklaaGreatDoor
open Go.ChangeShapes Go.WideShapes Go.ChangeAt Go.RowKit
abbrev Rel(α:Type):=World→(Nat→Prop)→α→List Value→Prop
def rInt(k:IntKind):Rel Int:=λ_ _ n cs=>cs=[.int k n]∧(Lit.int k n).wf=true
def rBool:Rel Bool:=λ_ _ b cs=>cs=[.bool b]
def rSlice{α:Type}(size:Nat)(R:Rel α):Rel (List α):=λw F l cs=>
 ∃A c,cs=[.slice A l.length c]∧l.length≤c∧c≤maxLen∧
  (0<l.length→∃b o,A=some ⟨b,o,none⟩∧F b∧
   ∀i x,l[i]? =some x→∃cs',cs'.length=size∧R w F x cs'∧∀j u,cs'[j]? =some u→w.cell? ⟨b,o+i*size+j,none⟩=some u)
def Rel.Stays{α:Type}(R:Rel α):Prop:=∀(w w':World) (F F':Nat→Prop) (x:α) (cs:List Value),
 (∀b,F b→b<w.heap.size→w'.heap[b]? =w.heap[b]?)→(∀b,F b→b<w.heap.size→F' b)→R w F x cs→R w' F' x cs
theorem lt_of_cell{w:World}{b o:Nat}{u:Value}(h:w.cell? ⟨b,o,none⟩=some u):b<w.heap.size:=by
 rcases X9 b w.heap.size with hlt|hge
 ·exact hlt
 ·simp[World.cell?,Array.getElem?_eq_none hge]at h
theorem cell_kept{w w':World}{b o:Nat}{u:Value}(hk:b<w.heap.size→w'.heap[b]? =w.heap[b]?)(h:w.cell? ⟨b,o,none⟩=some u):w'.cell? ⟨b,o,none⟩=some u:=
 (World.cell?_of_block (w:=w) (w':=w') (a:=⟨b,o,none⟩) (hk (lt_of_cell h))).trans h
theorem rInt_stays(k:IntKind):(rInt k).Stays:=λ_ _ _ _ _ _ _ _ h=>h
theorem rBool_stays:rBool.Stays:=λ_ _ _ _ _ _ _ _ h=>h
theorem rSlice_stays{α:Type}{size:Nat}{R:Rel α}(hs:0<size)(hR:R.Stays):(rSlice size R).Stays:=by
 intro w w' F F' l cs hk hF ⟨A,c,h1,h2,h3,h4⟩;refine⟨A,c,h1,h2,h3,λhn=>?_⟩;obtain⟨b,o,hA,hFb,hc⟩:=h4 hn;have hb:b<w.heap.size:=by obtain⟨cs',hl,_,hcell⟩:=hc 0 l[0] (X6 hn);exact lt_of_cell (hcell 0 cs'[0] (X6 ZJ))
 refine⟨b,o,hA,hF b hFb hb,λi x hx=>?_⟩;obtain⟨cs',hl,hr,hcell⟩:=hc i x hx;exact⟨cs',hl,hR w w' F F' x cs' hk hF hr,λj u hu=>cell_kept (hk b hFb) (hcell j u hu)⟩
def Sl{α:Type}(size:Nat)(R:Rel α)(w:World)(F:Nat→Prop)(v:Value)(l:List α):Prop:=rSlice size R w F l [v]
section
variable {α:Type} {size:Nat} {R:Rel α} {w w':World} {F F':Nat→Prop} {v:Value} {l:List α}
theorem Sl.form(h:Sl size R w F v l):∃A c,v=.slice A l.length c∧l.length≤c∧c≤maxLen:=by obtain⟨A,c,h1,h2,h3,_⟩:=h;exact⟨A,c,by simpa using h1,h2,h3⟩
theorem Sl.at_{A:Option Addr}{n c:Nat}(h:Sl size R w F (.slice A n c) l){i:Nat}(hi:i<l.length):
  ∃b o cs,A=some ⟨b,o,none⟩∧F b∧cs.length=size∧R w F l[i] cs∧∀j u,cs[j]? =some u→w.cell? ⟨b,o+i*size+j,none⟩=some u:=by
 obtain⟨A',c',h1,h2,h3,h4⟩:=h;obtain⟨b,o,hA,hF,hc⟩:=h4 ZJ;have e:A=A':=by injection h1 with h1;injection h1
 obtain⟨cs',hl,hr,hcell⟩:=hc i l[i] (X6 hi);exact⟨b,o,cs',e.trans hA,hF,hl,hr,hcell⟩
theorem Sl.stays(hs:0<size)(hR:R.Stays)(h:Sl size R w F v l)(hk:∀b,F b→b<w.heap.size→w'.heap[b]? =w.heap[b]?)(hF:∀b,F b→b<w.heap.size→F' b):Sl size R w' F' v l:=
 rSlice_stays hs hR w w' F F' l [v] hk hF h
theorem Sl.below{B:Nat}(hs:0<size)(hR:R.Stays)(h:Sl size R w (·<B) v l)(hb:Below B w w'):Sl size R w' (·<B) v l:=
 h.stays hs hR (λb hb' _=>hb.block b hb') (λ_ h _=>h)
theorem Sl.nil:Sl size R w F (.slice none 0 0) ([]:List α):=⟨none,0,rfl,ZM,by simp[maxLen],λh=>absurd h ZM⟩
theorem Sl.len{A:Option Addr}{n c:Nat}(h:Sl size R w F (.slice A n c) l):n=l.length∧n≤c∧c≤maxLen:=by obtain⟨A',c',h1,h2,h3⟩:=h.form;injection h1 with e1 e2 e3;subst e2 e3;exact⟨rfl,h2,h3⟩
end
section
variable {a w:World} {row:Option Nat}
end
def Blk(w:World)(g:Nat)(t:TypeId)(cs:List Value):Prop:=w.heap[g]? =some (.cells cs.toArray t (0,0))
section
variable {w w':World} {g:Nat} {t:TypeId} {cs:List Value}
theorem Blk.lt(h:Blk w g t cs):g<w.heap.size:=by
 rcases X9 g w.heap.size with hlt|hge
 ·exact hlt
 ·unfold Blk at h;rw[Array.getElem?_eq_none hge]at h;cases h
theorem Blk.free(h:Blk w g t cs)(i:Nat):w.frozen? ⟨g,i,none⟩=false:=by unfold Blk at h;simp[World.frozen?,h]
theorem Blk.new(w:World)(t:TypeId)(cs:List Value){g:Nat}(hg:w.heap.size=g):Blk (w.alloc (.cells cs.toArray t)) g t cs:=by subst hg;exact heap_alloc_new w _
theorem Blk.alloc(h:Blk w g t cs)(o:Obj):Blk (w.alloc o) g t cs:=(Below.heap_alloc w o g h.lt).trans h
theorem Blk.below{B:Nat}(h:Blk w g t cs)(hb:Below B w w')(hg:g<B):Blk w' g t cs:=(hb.block g hg).trans h
theorem Blk.keep(h:Blk w g t cs)(hb:Below w.heap.size w w'):Blk w' g t cs:=h.below hb h.lt
theorem Blk.only{g':Nat}(h:Blk w g t cs)(hb:w.grownBy w' (some g'))(hg:g≠g'):Blk w' g t cs:=(hb.block g h.lt (λe=>hg (by injection e))).trans h
end
section
variable {H:Type} {enc:TypeId×Value→H} {P:Program} {w:World} {base:Nat} {spare:Nat→Bool} {held:Bool}
def Opens(H:Type)(enc:TypeId×Value→H)(P:Program)(w:World)(base:Nat)(spare:Nat→Bool)(held:Bool){α:Type}(t:TypeId)(R:Rel α):Prop:=
 ∀(fuel:Nat) (cs:List Value) (x:DataW H×List MemPlace),DataW.trod enc P w base spare held fuel t cs=some x→∃d,R w (·<w.heap.size) d cs
theorem opens_int{t:TypeId}{k:IntKind}(ht:P.underlying t=some (.int k)):Opens H enc P w base spare held t (rInt k):=λ_ _ _ h=>by obtain⟨n,h1,_,h3⟩:=DataW.trod_int ht h;exact⟨n,h1,h3⟩
theorem opens_slice{α:Type}{t e:TypeId}{size:Nat}{R:Rel α}(ht:P.underlying t=some (.slice e))(hc:P.cellsOf e=size)(hs:0<size)(he:Opens H enc P w base spare held e R):
  Opens H enc P w base spare held t (rSlice size R):=λfuel cs x h=>by
 rcases Deep.open_slice ht h with⟨rfl,_⟩|⟨a,len,cap,m,n,D,Pl,rfl,hb,hl,hm,hmm,hx,hi⟩
 ·exact⟨[],Sl.nil⟩
 rw[hc]at hi;have hlm:len≤m:=by rw[hmm];split<;>omega
 have hall:∀i,i<len→∃d cs',R w (·<w.heap.size) d cs'∧cs'.length=size∧∀j u,cs'[j]? =some u→w.cell? (a.add (i*size+j))=some u:=by
  intro i hil;obtain⟨cs',h1,h2⟩:=hi i ZJ;obtain⟨d,hd⟩:=he _ _ _ h2;obtain⟨_,hcl,hat⟩:=World.cells?_some h1;refine⟨d,cs',hd,hcl,λj u hu=>?_⟩;have hj:j<size:=by rw[←hcl];exact(YR.1 hu).1
  rw[←Deep.add_add,hat j hj,hu]
 have:∃l:List α,l.length=len∧∀i x,l[i]? =some x→∃cs',R w (·<w.heap.size) x cs'∧cs'.length=size∧∀j u,cs'[j]? =some u→w.cell? (a.add (i*size+j))=some u:=by
  clear hx hmm hlm hi hl h
  induction len with
  |zero=>exact⟨[],rfl,λi x h=>by simp at h⟩
  |succ k ih=>
   obtain⟨l,hl,hl2⟩:=ih (λi hi=>hall i ZJ);obtain⟨d,cs',h1,h2⟩:=hall k ZJ;refine⟨l++[d],by simp[hl],λi x hx=>?_⟩;rcases X9 i l.length with h|h
   ·rw[Yp h]at hx;exact hl2 i x hx
   ·rw[Yh h]at hx;have hi0:i-l.length=0:=by
     rcases Y0 (i-l.length)with h0|h0
     ·exact h0
     ·rw[X8 (by simp only[List.length_singleton];omega)]at hx;cases hx
    rw[hi0]at hx;simp at hx;subst hx;obtain rfl:i=k:=by omega
    exact⟨cs',h1,h2⟩
 obtain⟨l,hll,hel⟩:=this;subst hll;refine⟨l,some a,cap,rfl,hl,hm,λhn=>?_⟩;have hsp:a=⟨a.block,a.off,none⟩:=by
  obtain⟨cs',_,h2,h3⟩:=hel 0 l[0] (X6 hn);have hc0:=h3 0 cs'[0] (X6 ZJ);rw[show 0*size+0=0 from by omega,Addr.add_zero']at hc0;unfold World.cell? at hc0;cases hsp:a.spot with
  |none=>cases a;simp_all
  |some s=>split at hc0<;>simp[hsp]at hc0
 have hblk:a.block<w.heap.size:=by obtain⟨cs',_,h2,h3⟩:=hel 0 l[0] (X6 hn);have hc0:=h3 0 cs'[0] (X6 ZJ);rw[show 0*size+0=0 from by omega,Addr.add_zero',hsp]at hc0;exact lt_of_cell hc0
 refine⟨a.block,a.off,by rw[←hsp],hblk,λi x hx=>?_⟩;obtain⟨cs',h1,h2,h3⟩:=hel i x hx;refine⟨cs',h2,h1,λj u hu=>?_⟩;have:=h3 j u hu;rw[hsp,Addr.add_lit]at this;rw[YZ];exact this
end
section
variable {H:Type} {enc:TypeId×Value→H} {P:Program}
theorem trodAll_below(hl:laidOutB P=true){W W':World}(hb:Below W.heap.size W W'){sp:Nat→Bool}:∀(ts:List TypeId) (vs:List Value) (ds:List (DataW H)) (ps:List MemPlace),
  (∀t∈ts,P.readableRec t=true∧t<P.types.size)→DataW.TrodAll enc P W 0 (λ_=>true) true ts vs ds ps→(∀x∈ps,x.block<W.heap.size)→(∀x∈ps,sp x.block=true)→DataW.TrodAll enc P W' 0 sp true ts vs ds ps
 | [],vs,ds,ps,_,h,_,_=>by obtain⟨rfl,rfl,rfl⟩:=trodAll_nil h;exact trodAll_mk0
 | t::ts,vs,ds,ps,hr,h,hlt,hsp=>by obtain⟨v,vs',d,ds',p,q,rfl,rfl,rfl,h0,h1⟩:=trodAll_cons h;refine trodAll_cons_mk ?_ (trodAll_below hl hb ts vs' ds' q (λt ht=>hr t (Y4 _ ht)) h1 (λx hx=>hlt x (Yq _ hx)) (λx hx=>hsp x (Yq _ hx)));exact WideElems.Trod_stays hl (hr t ZB).1 (hr t ZB).2 h0 (λx hx=>hb.same (hlt x (Y1 _ hx))) (λx hx=>hsp x (Y1 _ hx))
theorem law_post{f:Func}{s:ChangeSpec}{apart fresh handsOn again:Bool}{W W':World}{args:Array Value}{ds gs:List (DataW H)}{before:List MemPlace}{tb:TypeId}
  (hl:laidOutB P=true) (hr:∀t∈f.params.toList,P.readableRec t=true∧t<P.types.size) (hvars:s.vars=[]) (hrt:f.resultTypes=#[tb]) (htb:P.underlying tb=some .bool)
  (hW:DataW.Whole enc P f.params.toList s.vars apart W args.toList ds gs before)
  (hsr:(s.fn H (ds++gs)).results=[.lit (.bool true)]) (hsa:(s.fn H (ds++gs)).args=ds) (hsv:(s.fn H (ds++gs)).vars=[]) (hb:Below W.heap.size W W') :
  s.post enc P f apart fresh handsOn again W args (.bool true) W':=by
 have hlt:∀p∈before,p.block<W.heap.size:=λp hp=>hW.lt p hp
 have hold:∀p∈before,(λb=>decide (b<W.heap.size)) p.block=true:=λp hp=>by simpa using hlt p hp
 obtain⟨pa,pv,hA,hV,rfl,hz,hn⟩:=hW;have hW:DataW.Whole enc P f.params.toList s.vars apart W args.toList ds gs (pa++pv):=⟨pa,pv,hA,hV,rfl,hz,hn⟩;rw[hvars]at hV;obtain⟨rfl,rfl⟩:=trodVars_none hV;have hargs:∀sp:Nat→Bool,(∀p∈pa,sp p.block=true)→DataW.TrodAll enc P W' 0 sp true f.params.toList args.toList (s.fn H (ds++[])).args pa:=λsp hsp=>by rw[hsa];exact trodAll_below hl hb _ _ _ _ hr hA (λx hx=>hlt x (by simpa using hx)) hsp
 have hres:∀(b:Nat) (sp:Nat→Bool) (hd:Bool),DataW.TrodAll enc P W' b sp hd f.resultTypes.toList ((Value.bool true).resultList f.resultTypes.size) (s.fn H (ds++[])).results []:=λb sp hd=>by rw[hsr,hrt];exact trodAll_cons_mk (shut_bool htb _) trodAll_mk0
 have hvs:∀sp:Nat→Bool,DataW.TrodVars enc P W' sp s.vars (s.fn H (ds++[])).vars []:=λsp=>by rw[hvars,hsv];rfl
 refine⟨ds,[],pa++[],[],pa,[],hW,hres _ _ _,hargs _ (λp hp=>hold p (by simpa using hp)),hvs _,World.keptBut_mono (λp hp=>⟨hp,?_⟩) (hb.frame (·∈pa++[])),λ_=>?_⟩
 ·rw[Yg]at hp;exact Or.inr hp
 ·refine⟨?_,_,_,([]++pa)++[],⟨[]++pa,[],trodAll_append (hargs _ (λ_ _=>rfl)) (hres _ _ _),hvs _,rfl,?_,?_⟩,?_⟩
  ·intro j t r hj hr';rw[hrt]at hj hr'
   match j with
   |0=>
    simp at hj;subst hj;have:r=.bool true:=by simpa[Value.resultList]using hr'.symm
    subst this;exact okWide_bool_mk htb _
   |j+1=>simp at hj
  ·intro b off hp;have hin:MemPlace.cell b off∈pa++[]:=by simpa using hp
   rw[hb.frozen (hlt _ hin)];exact hz b off hin
  ·intro ha;have:=hn ha;simpa using this
  ·intro p hp _;simpa using hp
end
end Go.Proofs.YtdnpdghlggbklaaGreatDoor
end
section
namespace Go.Proofs.YtdnpdghlggbklaaGreatDoor
open Go.ChangeShapes Go.WideShapes Go.ChangeAt Go.RowKit
structure Elem(P:Program)(t e:TypeId)(z:Value)(size bytes:Nat):Prop where
 ht:P.underlying t=some (.slice e)
 hi:∃i,P.info? e=some i∧i.zero=some z∧i.size=size∧i.bytes=bytes
 hz:z.cells.size=size
 hs:0<size
theorem elem_mk{P:Program}{t e:TypeId}{z:Value}{size bytes:Nat}(ht:P.underlying t=some (.slice e))(hi:(P.info? e).map (λi=>(i.zero,i.size,i.bytes))=some (some z,size,bytes))
  (hz:z.cells.size=size) (hs:0<size):Elem P t e z size bytes:=
 ⟨ht,by obtain⟨i,h1,h2,h3,h4⟩:=info_parts hi;exact⟨i,h1,h2,h3,h4⟩,hz,hs⟩
def Flat(w:World)(size:Nat)(A:Option Addr)(n:Nat)(xs:List Value):Prop:=
 xs.length=n*size∧(0<n→∃b o,A=some ⟨b,o,none⟩∧∀j u,xs[j]? =some u→w.cell? ⟨b,o+j,none⟩=some u)
theorem run_append_nil_src{P:Program}(w:World)(base:Nat)(t ty e:TypeId)(i:TypeInfo)(size:Nat)(ht:P.underlying t=some (.slice e))(hi:P.info? e=some i)
  (v:Value) (n:Nat) (xs:List Value) (hown:w.ownsRow base e size v n xs) (c:Nat):(Builtin.append_ #[t,t] ty #[v,.slice none 0 c]).run P w=.ok v w:=by
 rcases hown.2 with⟨rfl,rfl⟩|⟨g,cap,cur,rfl,_,_,hnc,_⟩
 ·simp[Builtin.append_,run_underlying ht,sizeOf,typeInfo,hi,Builtin.lenOf,Builtin.firstCells]
 ·simp[Builtin.append_,run_underlying ht,sizeOf,typeInfo,hi,Builtin.lenOf,Builtin.firstCells,hnc,storeCells]
section
variable {P:Program} {w:World} {t e:TypeId} {z:Value} {size bytes:Nat}
theorem run_app(E:Elem P t e z size bytes)(ty:TypeId)(base:Nat)(v:Value)(n:Nat)(xs:List Value)(hown:w.ownsRow base e size v n xs)
  (A:Option Addr) (m c:Nat) (news:List Value) (hf:Flat w size A m news) (h1:∀u∈news,u.oneCell'=true)
  (h63:n+m≤maxLen) (hbytes:(n+m)*bytes≤140737488355328) (hbase:base≤w.heap.size) :
  ∃v' w',(Builtin.append_ #[t,t] ty #[v,.slice A m c]).run P w=.ok v' w'∧w'.ownsRow base e size v' (n+m) (xs++news)∧w.grownBy w' v.ownBlock:=by
 obtain⟨i,hi,hz0,hsz,hby⟩:=E.hi;rcases A with _|ad
 ·have hm:m=0:=by
   rcases Y0 m with h0|h0
   ·exact h0
   ·obtain⟨b,o,h,_⟩:=hf.2 h0;cases h
  subst hm;have hn:news=[]:=YV (by simpa using hf.1);subst hn;exact⟨v,w,run_append_nil_src w base t ty e i size E.ht hi v n xs hown c,by simpa using hown,World.grownBy.refl w _⟩
 ·have hcells:∀j u,news[j]? =some u→w.cell? (ad.add j)=some u:=by
   intro j u hu;rcases Y0 m with h0|h0
   ·subst h0;have hn:news=[]:=YV (by simpa using hf.1);subst hn;simp at hu
   ·obtain⟨b,o,h,hc⟩:=hf.2 h0;injection h with h;subst h;rw[Addr.add_lit];exact hc j u hu
  obtain⟨v',w',hrun,h2,h3,_⟩:=run_append_own (P:=P) w base t ty e i z size bytes E.ht hi hz0 hsz hby E.hz E.hs v n xs hown ad m c news hf.1 hcells h1 h63 hbytes hbase;exact⟨v',w',hrun,h2,h3⟩
theorem wp_app{o:Oper}{a:Act}{K:Act→World→Prop}{Q:Exit→Act→World→Prop}(s x:Operand)
  (ho:o.op=.call {callee:=.builtin .append,args:=#[s,x],argTypes:=#[t,t]}) (E:Elem P t e z size bytes) (base:Nat)
  (v:Value) (n:Nat) (xs:List Value) (hs:a.eval s=v) (hown:w.ownsRow base e size v n xs)
  (A:Option Addr) (m c:Nat) (news:List Value) (hx:a.eval x=.slice A m c) (hf:Flat w size A m news) (h1:∀u∈news,u.oneCell'=true)
  (h63:n+m≤maxLen) (hbytes:(n+m)*bytes≤140737488355328) (hbase:base≤w.heap.size)
  (h:∀v' w',w'.ownsRow base e size v' (n+m) (xs++news)→w.grownBy w' v.ownBlock→K (a.put o.dst v') w'):o.wp P a w K Q:=by
 obtain⟨v',w',hrun,h2,h3⟩:=run_app E o.type base v n xs hown A m c news hf h1 h63 hbytes hbase;unfold Oper.wp execOp;simp only[ho,resolve,invoke,builtin,YE,YS,Yk,List.map_toArray,Yb,YT,hs,hx,hrun];exact h v' w' h2 h3
theorem wpList_app{ops:Array Oper}{rest:List Oper}{o:Oper}{a:Act}{Q:Exit→Act→World→Prop}(hgd:o.guard=none)(s x:Operand)
  (ho:o.op=.call {callee:=.builtin .append,args:=#[s,x],argTypes:=#[t,t]}) (E:Elem P t e z size bytes) (base:Nat)
  (v:Value) (n:Nat) (xs:List Value) (hs:a.eval s=v) (hown:w.ownsRow base e size v n xs)
  (A:Option Addr) (m c:Nat) (news:List Value) (hx:a.eval x=.slice A m c) (hf:Flat w size A m news) (h1:∀u∈news,u.oneCell'=true)
  (h63:n+m≤maxLen) (hbytes:(n+m)*bytes≤140737488355328) (hbase:base≤w.heap.size)
  (h:∀v' w',w'.ownsRow base e size v' (n+m) (xs++news)→w.grownBy w' v.ownBlock→wpList P ops Q rest (a.put o.dst v') w'):wpList P ops Q (o::rest) a w:=
 wpList_plain hgd λ_ hK=>wp_app s x ho E base v n xs hs hown A m c news hx hf h1 h63 hbytes hbase λv' w' h2 h3=>hK _ _ (h v' w' h2 h3)
end
theorem own_from{w:World}{base:Nat}{e:TypeId}{size n:Nat}{v:Value}{xs:List Value}(h:w.ownsRow base e size v n xs):∀k,v.ownBlock=some k→base≤k:=λk hk=>(h.lt k hk).1
theorem Flat.kept{w w':World}{size n:Nat}{A:Option Addr}{xs:List Value}(h:Flat w size A n xs)(hb:Below w.heap.size w w'):Flat w' size A n xs:=by refine⟨h.1,λhn=>?_⟩;obtain⟨b,o,hA,hc⟩:=h.2 hn;exact⟨b,o,hA,λj u hu=>cell_kept (λhlt=>hb.block b hlt) (hc j u hu)⟩
theorem Sl.one{α:Type}{size:Nat}{R:Rel α}{w:World}{F:Nat→Prop}{b:Nat}{e:TypeId}{cs:List Value}{x:α}(hb:w.heap.size=b)(hl:cs.length=size)(hF:F b)
  (hR:R (w.alloc (.cells cs.toArray e)) F x cs):Sl size R (w.alloc (.cells cs.toArray e)) F (.slice (some ⟨b,0,none⟩) 1 1) [x]:=by
 subst hb;refine⟨_,1,rfl,ZM,by simp[maxLen],λ_=>⟨_,0,rfl,hF,λi y hy=>?_⟩⟩
 match i with
 |0=>simp at hy;subst hy;refine⟨cs,hl,hR,λj u hu=>?_⟩;rw[cell_of_row _ _ _ cs.toArray e (0,0) (heap_alloc_new w _)];simpa using hu
 |i+1=>simp at hy
end Go.Proofs.YtdnpdghlggbklaaGreatDoor
end
section
namespace Go.Proofs.YtdnpdghlggbklaaGreatDoor
open Go.ChangeShapes Go.WideShapes Go.ChangeAt Go.RowKit
abbrev Ints:=Sl (α:=Int) 1 (rInt .i64)
def Fit(l:List Int):Prop:=∀x∈l,(Lit.int .i64 x).wf=true
theorem Ints.fit{A:Option Addr}{n c:Nat}{l:List Int}{w:World}{F:Nat→Prop}(h:Ints w F (.slice A n c) l):Fit l:=by intro x hx;obtain⟨i,hi,rfl⟩:=Zc hx;obtain⟨b,o,cs,hA,hb,_,hR,hc⟩:=h.at_ hi;exact hR.2
end Go.Proofs.YtdnpdghlggbklaaGreatDoor
end
section
namespace Go.Proofs.YtdnpdghlggbklaaGreatDoor
open Go.ChangeShapes Go.WideShapes Go.ChangeAt Go.RowKit
structure WD where
 nc:Nat
 rw:List Bool
 mx:List Int
 nf:Nat
 nt:Nat
structure LockD where
 owner:Int
 readers:List Int
structure ThrD where
 status:Int
 cond:Int
 atomic:Bool
structure SyncD where
 locks:List LockD
 tx:Int
 done:List Bool
 threads:List ThrD
def rLk:Rel Bool:=λ_ _ b cs=>∃s,cs=[.string s,.bool b]
def rCd:Rel Int:=λ_ _ m cs=>∃s,cs=[.string s,.int .i64 m]∧(Lit.int .i64 m).wf=true
def rLock:Rel LockD:=λw F l cs=>∃A n c,cs=[.int .i64 l.owner,.slice A n c]∧(Lit.int .i64 l.owner).wf=true∧Ints w F (.slice A n c) l.readers
def rThr:Rel ThrD:=λ_ _ t cs=>cs=[.int .i64 t.status,.int .i64 t.cond,.bool t.atomic]∧(Lit.int .i64 t.status).wf=true∧(Lit.int .i64 t.cond).wf=true
theorem rLk_stays:rLk.Stays:=λ_ _ _ _ _ _ _ _ h=>h
theorem rCd_stays:rCd.Stays:=λ_ _ _ _ _ _ _ _ h=>h
theorem rThr_stays:rThr.Stays:=λ_ _ _ _ _ _ _ _ h=>h
theorem rLock_stays:rLock.Stays:=λw w' F F' l cs hk hF ⟨A,n,c,h1,h2,h3⟩=>⟨A,n,c,h1,h2,h3.stays ZN (rInt_stays _) hk hF⟩
structure WV where
 cA:Option Addr
 nc:Nat
 cc:Nat
 lA:Option Addr
 nl:Nat
 lc:Nat
 dA:Option Addr
 nd:Nat
 dc:Nat
 fA:Option Addr
 nf:Nat
 fc:Nat
 tA:Option Addr
 nt:Nat
 tc:Nat
 sA:Option Addr
 ns:Nat
 sc:Nat
structure WOk(w:World)(F:Nat→Prop)(v:WV)(d:WD):Prop where
 nc:v.nc=d.nc∧v.nc≤maxLen
 nf:v.nf=d.nf∧v.nf≤maxLen
 nt:v.nt=d.nt∧v.nt≤maxLen
 locks:Sl 2 rLk w F (.slice v.lA v.nl v.lc) d.rw
 conds:Sl 2 rCd w F (.slice v.dA v.nd v.dc) d.mx
structure SV where
 kA:Option Addr
 nk:Nat
 kc:Nat
 tx:Int
 eA:Option Addr
 ne:Nat
 ec:Nat
 hA:Option Addr
 nh:Nat
 hc:Nat
structure SOk(w:World)(F:Nat→Prop)(v:SV)(d:SyncD):Prop where
 locks:Sl 2 rLock w F (.slice v.kA v.nk v.kc) d.locks
 done:Sl 1 rBool w F (.slice v.eA v.ne v.ec) d.done
 threads:Sl 3 rThr w F (.slice v.hA v.nh v.hc) d.threads
 tx:v.tx=d.tx
 wf:(Lit.int .i64 d.tx).wf=true
abbrev WV.val(v:WV):Value:=.agg #[.slice v.cA v.nc v.cc,.slice v.lA v.nl v.lc,.slice v.dA v.nd v.dc,.slice v.fA v.nf v.fc,.slice v.tA v.nt v.tc,.slice v.sA v.ns v.sc]
abbrev SV.val(v:SV):Value:=.agg #[.slice v.kA v.nk v.kc,.int .i64 v.tx,.slice v.eA v.ne v.ec,.slice v.hA v.nh v.hc]
theorem WOk.stays{w w':World}{F F':Nat→Prop}{v:WV}{d:WD}(h:WOk w F v d)(hk:∀b,F b→b<w.heap.size→w'.heap[b]? =w.heap[b]?)(hF:∀b,F b→b<w.heap.size→F' b):WOk w' F' v d:=
 ⟨h.nc,h.nf,h.nt,h.locks.stays ZN rLk_stays hk hF,h.conds.stays ZN rCd_stays hk hF⟩
theorem SOk.stays{w w':World}{F F':Nat→Prop}{v:SV}{d:SyncD}(h:SOk w F v d)(hk:∀b,F b→b<w.heap.size→w'.heap[b]? =w.heap[b]?)(hF:∀b,F b→b<w.heap.size→F' b):SOk w' F' v d:=
 ⟨h.locks.stays ZN rLock_stays hk hF,h.done.stays ZN rBool_stays hk hF,h.threads.stays ZN rThr_stays hk hF,h.tx,h.wf⟩
def inB(i:Int)(n:Nat):Bool:=decide (0≤i)&&decide (i<n)
def fitsS(d:WD)(s:SyncD):Bool:=s.locks.length==d.rw.length&&(s.done.length==d.nf)&&(s.threads.length==d.nt)&&d.mx.all (λm=>inB m d.rw.length)
def rwAt(d:WD)(i:Int):Bool:=d.rw.getD i.toNat false
def allowedS(d:WD)(kind obj:Int):Bool:=
 if kind=1∨kind=2∨kind=5∨kind=12∨kind=13∨kind=14∨kind=15 then obj==-1
 else if kind=3∨kind=4 then inB obj d.nc
 else if kind=6∨kind=7 then inB obj d.rw.length&&!rwAt d obj
 else if kind=8∨kind=9∨kind=10∨kind=11 then inB obj d.rw.length&&rwAt d obj
 else if kind=16∨kind=17∨kind=18∨kind=19 then inB obj d.mx.length
 else if kind=20∨kind=21 then inB obj d.nt
 else if kind=22∨kind=23 then inB obj d.nf
 else false
end Go.Proofs.YtdnpdghlggbklaaGreatDoor
end
namespace Go.Proofs.YtdnpdghlggbklaaGreatDoor.Am
section
open Go.RowKit
theorem jt{w w':World}{σ:bD}{T:Nat→Prop}(h:Below w.heap.size w w')(hfr:∀c,σ.fr c→c<w.heap.size):eI w σ T w' σ T:=
 ⟨h.os,h.tape,h.output,h.size,λc hc _=>h.block c hc,λc cs e hc=>⟨cs,by rw[h.block c (Zo.1 hc).1];exact hc,rfl⟩,λ_ _ h=>h,rfl,λc hc=>h.block c (hfr c hc),λ_ h=>.inl h⟩
theorem AI{w w':World}{σ:bD}{H:ac}(hW:bu w σ H)(h:Below w.heap.size w w'):bu w' σ H:=
 ⟨hW.named,λb pl hb=>Yw (hW.lt b pl hb) h.size,λb x hb=>by
  obtain⟨pl,cs,e,h1,h2⟩:=hW.live b x hb;exact⟨pl,cs,e,h1,h2.mono (jt h λc hc=>(hW.apart c hc).1) (h.block _ (hW.lt b pl h1))⟩,λc hc=>⟨Yw (hW.apart c hc).1 h.size,(hW.apart c hc).2⟩,hW.inj,hW.glob.mono (jt h λc hc=>(hW.apart c hc).1)⟩
theorem NL{w w':World}{σ:bD}{H:ac}{b g:Nat}(hW:bu w σ H)(hbl:Below w.heap.size w w')(hb:σ b=none)(hlt:b<H.next)(hg:w.heap.size≤g){x:Blk}{cs:Array Value}{e:TypeId}(hgb:w'.heap[g]? =some (.cells cs e (0,0)))
  (even:∀(i:Nat) (r:List AV),x.rows[i]? =some r→r.length=x.size) (room:x.rows.length*x.size≤cs.size)
  (rep:∀(i:Nat) (r:List AV) (j:Nat) (a:AV) (u:Value),x.rows[i]? =some r→r[j]? =some a→cs[i*x.size+j]? =some u→bb w σ (aK σ H) a u) :
  bu w' (σ.set b ⟨g,0,x.size⟩) (H.new b x)∧eI w σ (aK σ H) w' (σ.set b ⟨g,0,x.size⟩) (aK (σ.set b ⟨g,0,x.size⟩) (H.new b x)):=by
 have hnone:H.get b=none:=by
  cases hg:H.get b with
  |none=>rfl
  |some y=>obtain⟨pl,_,_,h1,_⟩:=hW.live b y hg;rw[hb]at h1;cases h1
 have hgl:g<w'.heap.size:=(Zo.1 hgb).1;have ext:eI w σ (aK σ H) w' (σ.set b ⟨g,0,x.size⟩) (aK (σ.set b ⟨g,0,x.size⟩) (H.new b x)):=by
  refine⟨hbl.os,hbl.tape,hbl.output,hbl.size,λc hc _=>hbl.block c hc,λc cs' e' hc=>⟨cs',by rw[hbl.block c (Zo.1 hc).1];exact hc,rfl⟩,λc q hq=>bD.set_old hb hq,rfl,λc hc=>hbl.block c (hW.apart c hc).1,?_⟩;rintro c (hfr|⟨b',y,pl,h1,h2,h3⟩)
  ·exact .inl (.inl hfr)
  rw[ac.get_new]at h1;by_cases hbb:b=b'
  ·subst hbb;rw[bD.set_eq]at h2;cases h2;exact .inr (by simp only[]at h3;omega)
  ·rw[if_neg hbb]at h1;rw[bD.set_ne _ _ hbb]at h2;exact .inl (.inr ⟨b',y,pl,h1,h2,h3⟩)
 refine⟨⟨?_,?_,?_,?_,?_,hW.glob.mono ext⟩,ext⟩
 ·intro c pl hc;by_cases hbc:b=c
  ·subst hbc;exact hlt
  ·rw[bD.set_ne _ _ hbc]at hc;exact hW.named c pl hc
 ·intro c pl hc;by_cases hbc:b=c
  ·subst hbc;rw[bD.set_eq]at hc;cases hc;exact hgl
  ·rw[bD.set_ne _ _ hbc]at hc;exact Yw (hW.lt c pl hc) hbl.size
 ·intro c y hy;rw[ac.get_new]at hy;by_cases hbc:b=c
  ·subst hbc;rw[if_pos rfl]at hy;cases hy;exact⟨_,cs,e,bD.set_eq _ _ _,.of (.inl rfl) ⟨rfl,hgb,even,by simpa using room,λi r j a u h1 h2 h3=>(rep i r j a u h1 h2 (by simpa using h3)).mono ext⟩⟩
  ·rw[if_neg hbc]at hy;obtain⟨pl,cs',e',h1,h2⟩:=hW.live c y hy;exact⟨pl,cs',e',by rw[bD.set_ne _ _ hbc];exact h1,h2.mono ext (hbl.block _ (hW.lt c pl h1))⟩
 ·intro c hc;refine⟨Yw (hW.apart c hc).1 hbl.size,?_⟩;rintro⟨b',y,pl,h1,h2,h3⟩;rw[ac.get_new]at h1;by_cases hbb:b=b'
  ·subst hbb;rw[bD.set_eq]at h2;cases h2;have:=(hW.apart c hc).1;simp only[]at h3;omega
  ·rw[if_neg hbb]at h1;rw[bD.set_ne _ _ hbb]at h2;exact(hW.apart c hc).2 ⟨b',y,pl,h1,h2,h3⟩
 ·intro c c' y y' pl pl' h1 h2 h3 h4 h5;rw[ac.get_new]at h1 h2;by_cases hbc:b=c
  ·by_cases hbc':b=c'
   ·exact hbc.symm.trans hbc'
   ·subst hbc;rw[bD.set_eq]at h3;cases h3;rw[bD.set_ne _ _ hbc']at h4;have:=hW.lt c' pl' h4;simp only[]at h5;omega
  ·by_cases hbc':b=c'
   ·subst hbc';rw[bD.set_eq]at h4;cases h4;rw[bD.set_ne _ _ hbc]at h3;have:=hW.lt c pl h3;simp only[]at h5;omega
   ·rw[if_neg hbc]at h1;rw[if_neg hbc']at h2;rw[bD.set_ne _ _ hbc]at h3;rw[bD.set_ne _ _ hbc']at h4;exact hW.inj c c' y y' pl pl' h1 h2 h3 h4 h5
theorem MS{w:World}{σ:bD}{T:Nat→Prop}{a:AV}{vs:List Value}(h:eH w σ T [a] vs):∃v,vs=[v]∧bb w σ T a v:=by
 match vs,h with
 |[v],h=>exact⟨v,rfl,h.2 0 a v rfl rfl⟩
 |[],h=>exact absurd h.1 ZM
 |_::_::_,h=>exact absurd h.1 ZM
section
variable {P:Program} {f:FuncId} {e:TypeId} {size bytes:Nat}
def Ie(P:Program)(f:FuncId)(e:TypeId)(size bytes:Nat):Prop:=∀(A:Option Addr) (n c:Nat) (xs:List Value) (w:World),Go.Proofs.YtdnpdghlggbklaaGreatDoor.Flat w size A n xs→(∀x∈xs,x.oneCell'=true)→n*bytes≤140737488355328→(A=none→n=0)→
 Calls P f #[.slice A n c] w λe' w'=>∃v,e'=.returned v∧w'.ownsRow w.heap.size e size v n xs∧Below w.heap.size w w'
theorem Ew(hcl:Ie P f e size bytes)(hbody:∃fn c,P.funcs[f]? =some fn∧fn.body=some c)(rows:List (List AV))(hne:rows≠[])(hone:(rows.all λr=>r.all AV.one)=true)(hev:∀r∈rows,r.length=size)(hbig:rows.length*bytes≤140737488355328):
  af P f [.lst rows] [] λv L=>∃b,v=.sl b 0 rows.length∧L=[(b,⟨size,rows⟩)]:=by
 have hsz:∀(i:Nat) (r:List AV),rows[i]? =some r→r.length=size:=λi r hr=>hev r (YN hr)
 refine⟨hbody,λH hb hs=>⟨.sl H.next 0 rows.length,({H with next:=H.next+1}:ac).new H.next ⟨size,rows⟩,[(H.next,⟨size,rows⟩)],?_,?_,H.next,rfl,rfl⟩⟩
 ·intro w σ vs hW hvs;obtain⟨v,rfl,hv⟩:=MS hvs;obtain⟨A,cap,rfl,hn,hm,ha⟩:=hv.lst_inv;obtain⟨b,o,sz,rfl,hl,hrep⟩:=ha hne;have hl0:0<rows.length:=List.length_pos_iff.2 hne;obtain rfl:size=sz:=by rw[←hl.even 0 rows[0] (X6 hl0)];exact(hsz 0 rows[0] (X6 hl0)).symm
  have hdm:∀p,p<rows.length*size→p / size<rows.length∧p % size<size∧p=p / size*size+p % size:=λp hp=>
   ⟨(Nat.div_lt_iff_lt_mul hl.pos).2 hp,Nat.mod_lt _ hl.pos,by rw[Nat.mul_comm];exact(Nat.div_add_mod _ _).symm⟩
  let xs:List Value:=(List.range (rows.length*size)).map λp=>(w.cell? ⟨b,o+p,none⟩).getD undef
  have hxl:xs.length=rows.length*size:=by simp[xs]
  have hcell:∀p u,xs[p]? =some u→w.cell? ⟨b,o+p,none⟩=some u:=λp u hu=>by
   have hp:p<rows.length*size:=by rw[←hxl];exact aB hu
   simp only[xs,Ym,ZG hp,Yz,Yi]at hu;obtain⟨d1,d2,d3⟩:=hdm p hp;obtain⟨q,hq⟩:=hl.cell (p / size) (p % size) d1 d2;rw[YZ,←d3]at hq;rw[hq]at hu ⊢;simp only[Zr]at hu;rw[hu]
  have hrp:∀(i:Nat) (r:List AV) (j:Nat) (a:AV) (u:Value),rows[i]? =some r→r[j]? =some a→xs[i*size+j]? =some u→bb w σ (aK σ H) a u:=λi r j a u h1 h2 h3=>hrep i r j a u h1 h2 (by rw[YZ];exact hcell _ u h3)
  have hone':∀x∈xs,x.oneCell'=true:=λx hx=>by
   obtain⟨p,hp,rfl⟩:=Zc hx;have hp':p<rows.length*size:=by omega
   obtain⟨d1,d2,d3⟩:=hdm p hp';have hr:rows[p / size]? =some rows[p / size]:=X6 d1;have hj:p % size<rows[p / size].length:=by rw[hsz _ _ hr];exact d2
   have h1:=hrp (p / size) _ (p % size) _ xs[p] hr (X6 hj) (by rw[←d3];exact X6 hp);exact h1.one (Yo.1 (Yo.1 hone _ (Yr d1)) _ (Yr hj))
  refine(hcl (some ⟨b,o,none⟩) rows.length cap xs w ⟨hxl,λ_=>⟨b,o,rfl,hcell⟩⟩ hone' hbig (λh=>by cases h)).mono ?_;rintro e' w' ⟨v',rfl,hown,hbl⟩;rcases hown.2 with⟨_,h0⟩|⟨g,cap',cur,rfl,hg,hgb,hnc,hcm,hcs,ht⟩
  ·omega
  have hσ:σ H.next=none:=by
   cases hq:σ H.next with
   |none=>rfl
   |some pl=>exact absurd (hW.named _ pl hq) (Nat.lt_irrefl _)
  have hW1:bu w σ {H with next:=H.next+1}:=hW.congr (λ_=>rfl) (Zu _);have hOwn:aK σ ({H with next:=H.next+1}:ac)=aK σ H:=aK.congr λ_=>rfl
  have hle:rows.length*size≤cur.size:=by rw[hcs];exact Yt _ hnc
  obtain⟨g1,g2⟩:=NL (b:=H.next) (g:=g) (x:=⟨size,rows⟩) hW1 hbl hσ (Nat.lt_succ_self _) hg hgb hsz hle (λi r j a u h1 h2 h3=>by
   rw[hOwn];refine hrp i r j a u h1 h2 ?_;have hj:j<size:=by rw[←hsz i r h1];exact aB h2
   rw[←ht,YG (pY (aB h1) hj),Yy];exact h3)
  refine⟨_,_,rfl,?_,g1,by rw[hOwn]at g2;exact g2,λc pl hc=>?_⟩
  ·refine bb.sl H.next 0 rows.length ⟨g,0,size⟩ ⟨g,0,none⟩ cap' (bD.set_eq _ _ _) (.inl rfl) hnc hcm λ_=>⟨ZM,cur,e,hgb,by simp;omega⟩
  ·by_cases hbc:H.next=c
   ·subst hbc;exact .inr (X7 _)
   ·rw[bD.set_ne _ _ hbc]at hc;exact .inl hc
 ·refine⟨Zu _,λc hc=>?_,⟨ZM,λp hp=>?_⟩,λc x hc _=>⟨?_,?_⟩,λc hc h0=>?_,λc hc hlt=>?_⟩
  ·have hc:H.next+1≤c:=hc;rw[ac.get_new,if_neg ZJ];exact hb c ZJ
  ·simp only[Ye]at hp;subst hp;rw[ac.get_new,if_pos rfl]
  ·rw[ac.get_new,if_neg];exact hc;rintro rfl;rw[hb _ (X7 _)]at hc;cases hc
  ·simp only[Yb,YT,Ye];rintro rfl;rw[hb _ (X7 _)]at hc;cases hc
  ·rw[ac.get_new,if_neg ZJ];exact h0
  ·simp only[Yb,YT,Ye]at hc;omega
theorem Ly(hcl:Ie P f e size bytes)(hbody:∃fn c,P.funcs[f]? =some fn∧fn.body=some c):af P f [.lst []] [] λv L=>v=.lst []∧L=[]:=by
 refine⟨hbody,λH hb hs=>⟨.lst [],H,[],?_,.refl hb hs,rfl,rfl⟩⟩;intro w σ vs hW hvs;obtain⟨v,rfl,hv⟩:=MS hvs;obtain⟨A,cap,rfl,hn,hm,_⟩:=hv.lst_inv;refine(hcl A 0 cap [] w ⟨ZM,ZJ⟩ ZM ZJ (λ_=>rfl)).mono ?_;rintro e' w' ⟨v',rfl,hown,hbl⟩;refine⟨v',σ,rfl,?_,AI hW hbl,jt hbl λc hc=>(hW.apart c hc).1,λc pl hc=>.inl hc⟩;rcases hown.2 with⟨rfl,_⟩|⟨g,cap',cur,rfl,hg,hgb,hnc,hcm,hcs,ht⟩
 ·exact .lst0 _ _ (by unfold maxLen;omega)
 ·exact .lst0 _ _ hcm
theorem Lz(hcl:∀(A:Option Addr) (c:Nat) (w:World),Calls P f #[.slice A 0 c] w λe' w'=>∃B,e'=.returned (.slice B 0 0)∧Below w.heap.size w w')(hbody:∃fn c,P.funcs[f]? =some fn∧fn.body=some c):af P f [.lst []] [] λv L=>v=.emp∧L=[]:=by refine⟨hbody,λH hb hs=>⟨.emp,H,[],?_,.refl hb hs,rfl,rfl⟩⟩;intro w σ vs hW hvs;obtain⟨v,rfl,hv⟩:=MS hvs;obtain⟨A,cap,rfl,hn,hm,_⟩:=hv.lst_inv;refine(hcl A cap w).mono ?_;rintro e' w' ⟨B,rfl,hbl⟩;exact⟨_,σ,rfl,.emp B,AI hW hbl,jt hbl λc hc=>(hW.apart c hc).1,λc pl hc=>.inl hc⟩
end
end
section
open Go.RowKit
def aS:Option Nat→Nat→AV
 |none,_=>.lst []
 |some b,n=>.sl b 0 n
theorem fZ{P:Program}{f:FuncId}{e:TypeId}{size bytes:Nat}(hcl:Ie P f e size bytes)(hbody:∃fn c,P.funcs[f]? =some fn∧fn.body=some c)(rows:List (List AV))(hone:(rows.all λr=>r.all AV.one)=true)(hev:∀r∈rows,r.length=size)(hbig:rows.length*bytes≤140737488355328):
  af P f [.lst rows] [] λv L=>∃o,v=aS o rows.length∧L=ae o size rows∧(o=none→rows=[]):=by
 rcases List.eq_nil_or_concat rows with rfl|⟨ys,y,hxs⟩
 ·exact(Ly hcl hbody).mono λv L ⟨h1,h2⟩=>⟨none,h1,h2,λ_=>rfl⟩
 ·refine(Ew hcl hbody rows (by rw[hxs];simp) hone hev hbig).mono ?_;rintro v L ⟨b,rfl,rfl⟩;exact⟨some b,rfl,rfl,λh=>by cases h⟩
end
end Go.Proofs.YtdnpdghlggbklaaGreatDoor.Am
section
namespace Go.Proofs.YtdnpdghlggbklaaGreatDoor
open Go.ChangeShapes Go.WideShapes Go.ChangeAt Go.RowKit
theorem elemWc:Elem Tryz.prog 24 126 (.agg #[.string ⟨#[]⟩,.int .i64 0,.int .i64 0,.bool false,.int .i64 0]) 5 48:=elem_mk Tryz.underlying24 (by kernel_rfl) rfl ZN
set_option maxHeartbeats 1000000 in
set_option maxRecDepth 100000 in
theorem cloneWc_any(A:Option Addr)(n c:Nat)(xs:List Value)(w:World)(hf:Flat w 5 A n xs)(h1:∀x∈xs,x.oneCell'=true)(hn:n*48≤140737488355328)(hA:A=none→n=0):
  Calls Tryz.prog 41 #[.slice A n c] w λe w'=>∃v,e=.returned v∧w'.ownsRow w.heap.size 126 5 v n xs∧Below w.heap.size w w':=by
 have HF:=Lib.hid hf;have H1:=Lib.hid h1;clear hf h1;have heq:=λ(W:World) (a:Option Addr) (l c:Nat)=>Lib.run_eql_slice_nil (P:=Tryz.prog) W 24 126 a l c 0 0 Tryz.underlying24;cases A with
 |none=>
  obtain rfl:n=0:=hA rfl;have hx:xs=[]:=YV (by have:=HF.out.1;simpa using this);have Hx:=Lib.hid hx;clear hx HF H1
  go_enter Tryz.func41,Tryz.ntmps41
  go_wp2_with fail
  go_ret
  exact⟨_,rfl,by rw[Hx.out];exact Zp _ _ _ _,Below.refl _ _⟩
 |some a=>
  clear hA;have M0:Hid ((w.alloc (.cells #[] 126)).ownsRow w.heap.size 126 5 (.slice (some ⟨w.heap.size,0,none⟩) 0 0) 0 []):=Lib.hid (Zl w #[] 0 (X7 _) (by simp[maxLen]) ZM)
  go_enter Tryz.func41,Tryz.ntmps41
  go_wp2_with (at_builtin;go_must (refine wpList_app rfl (.tmp 5) (.tmp 6) rfl elemWc w.heap.size _ 0 [] rfl M0.out (some a) n c xs rfl (HF.out.kept ((Below.refl _ _).alloc (X7 _) _)) H1.out (by simp only[maxLen];omega) ZJ ZM ?_);intro v1 w1 hown1 hg1)
  have hb1:=((Below.refl w.heap.size w).alloc (X7 _) _).grown hg1 ZM (own_from M0.out)
  go_wp2_with fail
  go_ret
  exact⟨_,rfl,by simpa using hown1,hb1⟩
theorem elemWl:Elem Tryz.prog 25 129 (.agg #[.string ⟨#[]⟩,.bool false]) 2 24:=elem_mk Tryz.underlying25 (by kernel_rfl) rfl ZN
set_option maxHeartbeats 1000000 in
set_option maxRecDepth 100000 in
theorem cloneWl_any(A:Option Addr)(n c:Nat)(xs:List Value)(w:World)(hf:Flat w 2 A n xs)(h1:∀x∈xs,x.oneCell'=true)(hn:n*24≤140737488355328)(hA:A=none→n=0):
  Calls Tryz.prog 42 #[.slice A n c] w λe w'=>∃v,e=.returned v∧w'.ownsRow w.heap.size 129 2 v n xs∧Below w.heap.size w w':=by
 have HF:=Lib.hid hf;have H1:=Lib.hid h1;clear hf h1;have heq:=λ(W:World) (a:Option Addr) (l c:Nat)=>Lib.run_eql_slice_nil (P:=Tryz.prog) W 25 129 a l c 0 0 Tryz.underlying25;cases A with
 |none=>
  obtain rfl:n=0:=hA rfl;have hx:xs=[]:=YV (by have:=HF.out.1;simpa using this);have Hx:=Lib.hid hx;clear hx HF H1
  go_enter Tryz.func42,Tryz.ntmps42
  go_wp2_with fail
  go_ret
  exact⟨_,rfl,by rw[Hx.out];exact Zp _ _ _ _,Below.refl _ _⟩
 |some a=>
  clear hA;have M0:Hid ((w.alloc (.cells #[] 129)).ownsRow w.heap.size 129 2 (.slice (some ⟨w.heap.size,0,none⟩) 0 0) 0 []):=Lib.hid (Zl w #[] 0 (X7 _) (by simp[maxLen]) ZM)
  go_enter Tryz.func42,Tryz.ntmps42
  go_wp2_with (at_builtin;go_must (refine wpList_app rfl (.tmp 5) (.tmp 6) rfl elemWl w.heap.size _ 0 [] rfl M0.out (some a) n c xs rfl (HF.out.kept ((Below.refl _ _).alloc (X7 _) _)) H1.out (by simp only[maxLen];omega) ZJ ZM ?_);intro v1 w1 hown1 hg1)
  have hb1:=((Below.refl w.heap.size w).alloc (X7 _) _).grown hg1 ZM (own_from M0.out)
  go_wp2_with fail
  go_ret
  exact⟨_,rfl,by simpa using hown1,hb1⟩
theorem elemWd:Elem Tryz.prog 26 55 (.agg #[.string ⟨#[]⟩,.int .i64 0]) 2 24:=elem_mk Tryz.underlying26 (by kernel_rfl) rfl ZN
set_option maxHeartbeats 1000000 in
set_option maxRecDepth 100000 in
theorem cloneWd_any(A:Option Addr)(n c:Nat)(xs:List Value)(w:World)(hf:Flat w 2 A n xs)(h1:∀x∈xs,x.oneCell'=true)(hn:n*24≤140737488355328)(hA:A=none→n=0):
  Calls Tryz.prog 43 #[.slice A n c] w λe w'=>∃v,e=.returned v∧w'.ownsRow w.heap.size 55 2 v n xs∧Below w.heap.size w w':=by
 have HF:=Lib.hid hf;have H1:=Lib.hid h1;clear hf h1;have heq:=λ(W:World) (a:Option Addr) (l c:Nat)=>Lib.run_eql_slice_nil (P:=Tryz.prog) W 26 55 a l c 0 0 Tryz.underlying26;cases A with
 |none=>
  obtain rfl:n=0:=hA rfl;have hx:xs=[]:=YV (by have:=HF.out.1;simpa using this);have Hx:=Lib.hid hx;clear hx HF H1
  go_enter Tryz.func43,Tryz.ntmps43
  go_wp2_with fail
  go_ret
  exact⟨_,rfl,by rw[Hx.out];exact Zp _ _ _ _,Below.refl _ _⟩
 |some a=>
  clear hA;have M0:Hid ((w.alloc (.cells #[] 55)).ownsRow w.heap.size 55 2 (.slice (some ⟨w.heap.size,0,none⟩) 0 0) 0 []):=Lib.hid (Zl w #[] 0 (X7 _) (by simp[maxLen]) ZM)
  go_enter Tryz.func43,Tryz.ntmps43
  go_wp2_with (at_builtin;go_must (refine wpList_app rfl (.tmp 5) (.tmp 6) rfl elemWd w.heap.size _ 0 [] rfl M0.out (some a) n c xs rfl (HF.out.kept ((Below.refl _ _).alloc (X7 _) _)) H1.out (by simp only[maxLen];omega) ZJ ZM ?_);intro v1 w1 hown1 hg1)
  have hb1:=((Below.refl w.heap.size w).alloc (X7 _) _).grown hg1 ZM (own_from M0.out)
  go_wp2_with fail
  go_ret
  exact⟨_,rfl,by simpa using hown1,hb1⟩
theorem elemWs:Elem Tryz.prog 28 134 (.agg #[.int .i64 0,.int .i64 0,.int .i64 0]) 3 24:=elem_mk Tryz.underlying28 (by kernel_rfl) rfl ZN
set_option maxHeartbeats 1000000 in
set_option maxRecDepth 100000 in
theorem cloneWs_any(A:Option Addr)(n c:Nat)(xs:List Value)(w:World)(hf:Flat w 3 A n xs)(h1:∀x∈xs,x.oneCell'=true)(hn:n*24≤140737488355328)(hA:A=none→n=0):
  Calls Tryz.prog 45 #[.slice A n c] w λe w'=>∃v,e=.returned v∧w'.ownsRow w.heap.size 134 3 v n xs∧Below w.heap.size w w':=by
 have HF:=Lib.hid hf;have H1:=Lib.hid h1;clear hf h1;have heq:=λ(W:World) (a:Option Addr) (l c:Nat)=>Lib.run_eql_slice_nil (P:=Tryz.prog) W 28 134 a l c 0 0 Tryz.underlying28;cases A with
 |none=>
  obtain rfl:n=0:=hA rfl;have hx:xs=[]:=YV (by have:=HF.out.1;simpa using this);have Hx:=Lib.hid hx;clear hx HF H1
  go_enter Tryz.func45,Tryz.ntmps45
  go_wp2_with fail
  go_ret
  exact⟨_,rfl,by rw[Hx.out];exact Zp _ _ _ _,Below.refl _ _⟩
 |some a=>
  clear hA;have M0:Hid ((w.alloc (.cells #[] 134)).ownsRow w.heap.size 134 3 (.slice (some ⟨w.heap.size,0,none⟩) 0 0) 0 []):=Lib.hid (Zl w #[] 0 (X7 _) (by simp[maxLen]) ZM)
  go_enter Tryz.func45,Tryz.ntmps45
  go_wp2_with (at_builtin;go_must (refine wpList_app rfl (.tmp 5) (.tmp 6) rfl elemWs w.heap.size _ 0 [] rfl M0.out (some a) n c xs rfl (HF.out.kept ((Below.refl _ _).alloc (X7 _) _)) H1.out (by simp only[maxLen];omega) ZJ ZM ?_);intro v1 w1 hown1 hg1)
  have hb1:=((Below.refl w.heap.size w).alloc (X7 _) _).grown hg1 ZM (own_from M0.out)
  go_wp2_with fail
  go_ret
  exact⟨_,rfl,by simpa using hown1,hb1⟩
theorem elemWt:Elem Tryz.prog 27 9 (.string ⟨#[]⟩) 1 16:=elem_mk Tryz.underlying27 (by kernel_rfl) rfl ZN
set_option maxHeartbeats 1000000 in
set_option maxRecDepth 100000 in
theorem cloneWt_any(A:Option Addr)(n c:Nat)(xs:List Value)(w:World)(hf:Flat w 1 A n xs)(h1:∀x∈xs,x.oneCell'=true)(hn:n*16≤140737488355328)(hA:A=none→n=0):
  Calls Tryz.prog 44 #[.slice A n c] w λe w'=>∃v,e=.returned v∧w'.ownsRow w.heap.size 9 1 v n xs∧Below w.heap.size w w':=by
 have HF:=Lib.hid hf;have H1:=Lib.hid h1;clear hf h1;have heq:=λ(W:World) (a:Option Addr) (l c:Nat)=>Lib.run_eql_slice_nil (P:=Tryz.prog) W 27 9 a l c 0 0 Tryz.underlying27;cases A with
 |none=>
  obtain rfl:n=0:=hA rfl;have hx:xs=[]:=YV (by have:=HF.out.1;simpa using this);have Hx:=Lib.hid hx;clear hx HF H1
  go_enter Tryz.func44,Tryz.ntmps44
  go_wp2_with fail
  go_ret
  exact⟨_,rfl,by rw[Hx.out];exact Zp _ _ _ _,Below.refl _ _⟩
 |some a=>
  clear hA;have M0:Hid ((w.alloc (.cells #[] 9)).ownsRow w.heap.size 9 1 (.slice (some ⟨w.heap.size,0,none⟩) 0 0) 0 []):=Lib.hid (Zl w #[] 0 (X7 _) (by simp[maxLen]) ZM)
  go_enter Tryz.func44,Tryz.ntmps44
  go_wp2_with (at_builtin;go_must (refine wpList_app rfl (.tmp 5) (.tmp 6) rfl elemWt w.heap.size _ 0 [] rfl M0.out (some a) n c xs rfl (HF.out.kept ((Below.refl _ _).alloc (X7 _) _)) H1.out (by simp only[maxLen];omega) ZJ ZM ?_);intro v1 w1 hown1 hg1)
  have hb1:=((Below.refl w.heap.size w).alloc (X7 _) _).grown hg1 ZM (own_from M0.out)
  go_wp2_with fail
  go_ret
  exact⟨_,rfl,by simpa using hown1,hb1⟩
end Go.Proofs.YtdnpdghlggbklaaGreatDoor
end
namespace Go.Proofs.YtdnpdghlggbklaaGreatDoor.Am
section
structure W.callM(P:Program)(g:FuncId)(args:List AV)(L:SH)(KL:AV→SH→Prop):Prop where
 h:af P g args L KL
structure W.dcallM(P:Program)(us:List W.WR)(i:Nat)(g:FuncId)(args:List AV)(L:SH)(KN:AV→SH→List Nat→Prop):Prop where
 h:∃Kc R:SH,L.Perm (Kc++R)∧(∀x∈us,W.free x ⟨i,[],Kc.names,[],true,[]⟩)∧af P g args Kc λv Kc'=>KN v (Kc'++R) Kc.names
section
variable {P:Program} {g:FuncId} {args:List AV} {L:SH} {KL:AV→SH→Prop} {KN:AV→SH→List Nat→Prop} {us:List W.WR} {i:Nat} {v:AV}
theorem LA(h:W.callM P g args L KL):W.call P (.fn g []) args L KL:=by rw[Rx,YM];exact h.h
theorem TR(h1:az P g args v)(h:KL v L):W.callM P g args L KL:=⟨h1.call h⟩
theorem MT(h:af P g args L KL):W.callM P g args L KL:=⟨h⟩
theorem If{K R:SH}{R1:AV→SH→Prop}(h:af P g args K R1)(hL:L.Perm (K++R))(hq:∀v K',R1 v K'→KL v (K'++R)):W.callM P g args L KL:=⟨h.frame hL hq⟩
theorem kQ{b:Nat}{x:Blk}{L':SH}{R1:AV→SH→Prop}(h:af P g args [(b,x)] R1)(hd:eP b x L L')(hq:∀v K',R1 v K'→KL v (K'++L')):W.callM P g args L KL:=⟨h.frame hd.perm hq⟩
theorem Ey{b1 b2:Nat}{x1 x2:Blk}{L1 L2:SH}(h1:eP b1 x1 L L1)(h2:eP b2 x2 L1 L2):L.Perm ([(b1,x1),(b2,x2)]++L2):=h1.perm.trans (h2.perm.cons _)
theorem Pi{b1 b2:Nat}{x1 x2:Blk}{L1 L2:SH}{R1:AV→SH→Prop}(h:af P g args [(b1,x1),(b2,x2)] R1)(h1:eP b1 x1 L L1)(h2:eP b2 x2 L1 L2)(hq:∀v K',R1 v K'→KL v (K'++L2)):W.callM P g args L KL:=⟨h.frame (Ey h1 h2) hq⟩
theorem Ez{b:Nat}{x:Blk}{L':SH}{R1:AV→SH→Prop}(h:af P g args [(b,x)] R1)(hd:eP b x L L')(hf:∀y∈us,W.free y ⟨i,[],[b],[],true,[]⟩)(hq:∀v K',R1 v K'→KN v (K'++L') [b]):W.dcallM P us i g args L KN:=
 ⟨[(b,x)],L',hd.perm,hf,h.mono hq⟩
theorem NM{b1 b2:Nat}{x1 x2:Blk}{L1 L2:SH}{R1:AV→SH→Prop}(h:af P g args [(b1,x1),(b2,x2)] R1)(h1:eP b1 x1 L L1)(h2:eP b2 x2 L1 L2)(hf:∀y∈us,W.free y ⟨i,[],[b1,b2],[],true,[]⟩)(hq:∀v K',R1 v K'→KN v (K'++L2) [b1,b2]):W.dcallM P us i g args L KN:=
 ⟨[(b1,x1),(b2,x2)],L2,Ey h1 h2,hf,h.mono hq⟩
theorem aG.keep1{v2:AV}{b:Nat}{x:Blk}{L1:SH}(h1:eP b x L L1)(hv:Fz L1 v v2):aG [v] L [v2] [(b,x)]:=by
 refine .drop (K:=L1) (h1.perm.trans (YD (l₁:=[(b,x)]))) rfl λi a a2 e1 e2=>?_
 match i with
 |0=>cases e1;cases e2;exact hv
 |i+1=>simp at e1
theorem aG.keep2{v2:AV}{b1 b2:Nat}{x1 x2:Blk}{L1 L2:SH}(h1:eP b1 x1 L L1)(h2:eP b2 x2 L1 L2)(hv:Fz L2 v v2):aG [v] L [v2] [(b1,x1),(b2,x2)]:=by
 refine .drop (K:=L2) ((Ey h1 h2).trans YD) rfl λi a a2 e1 e2=>?_
 match i with
 |0=>cases e1;cases e2;exact hv
 |i+1=>simp at e1
theorem af.nd{f:FuncId}{Q:AV→SH→Prop}(hb:∃fn c,P.funcs[f]? =some fn∧fn.body=some c)(h:L.names.Nodup→af P f args L Q):af P f args L Q:=⟨hb,λH hB hs=>(h hs.nd).2 H hB hs⟩
theorem af.pre{f:FuncId}{args2:List AV}{L2:SH}{Q:AV→SH→Prop}(hz:aG args L args2 L2)(h:af P f args2 L2 Q):af P f args L Q:=⟨h.1,λH hb hs=>by
 obtain⟨H2,f1,f2,f3,f4⟩:=mn hz hs hb;obtain⟨v,H',L',h1,h2,h3⟩:=h.2 H2 f1.bd f1.sub;refine⟨v,H',L',λw σ vs hW hvs=>?_,f1.trans (h2.low (by rw[f2];exact X7 _)) (X7 _),h3⟩;obtain⟨g1,g2,g3⟩:=f3 w σ hW;refine(h1 w σ vs g1 (g3 vs hvs)).mono ?_;rintro e w' ⟨v',σ',rfl,k1,k2,k3,k4⟩;exact⟨v',σ',rfl,k1,k2,⟨k3.os,k3.tape,k3.output,k3.size,λc hc hT=>k3.keep c hc (λh=>hT (g2 c h)),k3.shape,k3.sig,k3.eqfr,k3.frame,λc hc=>(k3.own c hc).imp (g2 c) id⟩,λc pl hc=>by rw[←f2];exact k4 c pl hc⟩⟩
theorem aG.vals{vs vs2:List AV}(h:iV [] vs vs2):aG vs L vs2 L:=.drop (K:=[]) (.refl _) h.at_.1 h.at_.2
theorem bz(k:FuncId)(h:W.callM P k args L KL):W.callM P k args L KL:=h
theorem eD(k:FuncId)(h:W.dcallM P us i k args L KN):W.dcallM P us i k args L KN:=h
theorem MU(h:W.dcallM P us i g args L KN):W.dcall P us i (.fn g []) args L KN:=by rw[OY,YM];exact h.h
theorem RK(h:az P g args v)(hf:∀x∈us,W.free x ⟨i,[],[],[],true,[]⟩)(hk:KN v L []):W.dcallM P us i g args L KN:=
 ⟨[],L,.refl _,hf,af.mono h λu K ⟨h1,h2⟩=>by subst h1;subst h2;exact hk⟩
end
theorem RL{n:Nat}{a:AV}{L:SH}{K:AV→Prop}(h:W.load false n a L K):W.load false n a L K:=h
theorem V6{n:Nat}{a:AV}{L:SH}{K:AV→Prop}(h:W.load true n a L K):W.load true n a L K:=h
theorem RM{off:Nat}{x:AV}{K:AV→Prop}(h:W.faddr off x K):W.faddr off x K:=h
theorem V7{n:Nat}{x ix:AV}{L:SH}{K:AV→Prop}(h:W.idx n x ix L K):W.idx n x ix L K:=h
theorem V8{x:AV}{K:AV→Prop}(h:W.len x K):W.len x K:=h
theorem V9{i:Nat}{x:AV}{K:AV→Prop}(h:W.ext i x K):W.ext i x K:=h
theorem TS{us:List W.WR}{y:W.WR}{A:Prop}(h:W.calm us y A):W.calm us y A:=h
theorem TU{r:W.Fp}{K:W.Fp→Prop}(h:W.note r K):W.note r K:=h
theorem TV{c x y:AV}{K:AV→Prop}(h:W.pick c x y K):W.pick c x y K:=h
theorem S8{x:AV}{want:Bool}{A:(AV→SH→Prop)→Prop}{L:SH}{K:AV→SH→Prop}(h:W.grd x want A L K):W.grd x want A L K:=h
theorem Pj{x:AV}{want:Bool}{A:(AV→SH→W.Fp→Prop)→Prop}{L:SH}{K:AV→SH→W.Fp→Prop}(h:W.dgrd x want A L K):W.dgrd x want A L K:=h
theorem XE{op:UnOp}{x:AV}{K:AV→Prop}(h:W.un op x K):W.un op x K:=h
theorem Wa{x:AV}{L:SH}{K:AV→SH→Prop}(h:W.box x L K):W.box x L K:=h
theorem TW{v:AV}{L:SH}{K:AV→SH→Prop}(h:W.frz1 v L K):W.frz1 v L K:=h
theorem RN{n:Nat}{a v:AV}{L:SH}{K:SH→Prop}(h:W.store n a v L K):W.store n a v L K:=h
theorem TX{len n:Nat}{x ix:AV}{K:AV→Prop}(h:W.idxP len n x ix K):W.idxP len n x ix K:=h
theorem Pk{n:Nat}{z:List AV}{len:Nat}{ps:List (Nat×AV)}{L:SH}{K:AV→SH→Prop}(h:W.bslice n z len ps L K):W.bslice n z len ps L K:=h
theorem Pm{n by_:Nat}{z:List AV}{l c:AV}{L:SH}{K:AV→SH→Prop}(h:W.mslice n by_ z l c L K):W.mslice n by_ z l c L K:=h
theorem Pn{x:AV}{K:AV→Prop}(h:W.nilchk x K):W.nilchk x K:=h
end
section
section
variable {P:Program} {g:FuncId} {args:List AV} {L:SH} {KL:AV→SH→Prop}
theorem Fr.permS{B:Nat}{L' L'':SH}{H H':ac}(h:Fr B L H L' H')(hp:L'.Perm L''):Fr B L H L'' H':=
 ⟨h.next,h.bd,h.sub.perm hp,λb x h1 h2=>⟨(h.keep b x h1 h2).1,λhm=>(h.keep b x h1 h2).2 ((hp.map Prod.fst).mem_iff.2 hm)⟩,h.dom,λb hb hlt=>h.fresh b ((hp.map Prod.fst).mem_iff.2 hb) hlt⟩
theorem MV{R1:AV→SH→Prop}(h:af P g args [] R1)(hq:∀v K',R1 v K'→∃L':SH,(K'++L).Perm L'∧(L'.names.Nodup→KL v L')):W.callM P g args L KL:=by refine⟨⟨h.1,λH hb hs=>?_⟩⟩;obtain⟨v,H',L',h1,h2,L'',hp,h3⟩:=(h.frame (K:=[]) (R:=L) (R2:=λv L1=>∃L':SH,L1.Perm L'∧(L'.names.Nodup→KL v L')) (.refl _) hq).2 H hb hs;have h4:=h2.permS hp;exact⟨v,H',L'',h1,h4,h3 h4.sub.nd⟩
theorem JS(M:SH){o:Option Nat}{i n by_ bX:Nat}{R:SH}{rows m:List (List AV)}{k:Nat}(hr:rows.length=i)(h0:o=none→rows=[])(hk:k=m.length)(hm:0<m.length)(h2:2*(i+m.length)*by_≤2^48)(h3:2*(i+m.length)≤2^62)(h4:(m.all λr=>r.all AV.one)=true)
  (h:∀b,(∀p∈M,b≠p.1)→KL (.sl b 0 (i+m.length)) ((b,⟨n,rows++m⟩)::(bX,⟨n,m⟩)::(M++R))):W.append n by_ (ao o i) (.sl bX 0 k) ((bX,⟨n,m⟩)::(M++(ae o n rows++R))) KL:=by
 subst hk;cases o with
 |none=>
  have hr0:=h0 rfl;subst hr0;simp only[YC]at hr;subst hr;have:=Ib (KL:=KL) (L:=(bX,⟨n,m⟩)::(M++R)) (by_:=by_) (kP (.head _) rfl rfl) (by simpa using h2) (by simpa using h3) h4 (by show m.length≠0;omega) (λb hb=>by
   have:=h b λp hp e=>hb (by rw[e];exact YJ (Y4 _ (Y1 _ hp)))
   simpa using this)
  exact this
 |some b=>subst hr;exact nJ (y:=⟨n,rows⟩) (l:=rows) (by simp[ae]) rfl ZM ZM (kP (.head _) rfl rfl) h2 h3 h4 (.there _ (eP.app (.here R) M)) (λb' hb=>h b' λp hp e=>hb (by rw[e];exact YJ (Y4 _ (Y1 _ hp))))
end
end
section
section
variable {P:Program} {F:TypeId→Option (List TypeId)} {K:AV→Prop} {KL:AV→SH→Prop} {L:SH}
theorem JT{n:Nat}{rows:List (List AV)}{i off:Nat}{r:List AV}{v:AV}(h:K v)(h1:rows[i]? =some r:=by first|assumption|rfl)(h2:r[off]? =some v:=by rfl):W.load false n (.pptr rows i off) L K:=Et h1 h2 h
theorem Po{α:Type}[Inhabited α]{f:α→List AV}{l:List α}{n:Nat}{i:Int}{off:Nat}{v:AV}(h:K v)(h1:inB i l.length=true:=by assumption)(h2:(f (l.getD i.toNat default))[off]? =some v:=by rfl):W.load false n (.pptr (l.map f) i.toNat off) L K:=Et (dU h1) h2 h
theorem JU{n b i off:Nat}{x:Blk}{r:List AV}{v:AV}(h:K v)(hm:(b,x)∈L:=by repeat constructor)(h1:x.rows[i]? =some r:=by first|assumption|rfl)(h2:r[off]? =some v:=by rfl):W.load false n (.ptr b i off) L K:=Eu hm h1 h2 h
theorem DR{n:Nat}{rows:List (List AV)}{i:Nat}{r:List AV}(h:K (.agg r))(h1:rows[i]? =some r:=by first|assumption|rfl)(h2:r.length=n:=by rfl):W.load true n (.pptr rows i 0) L K:=RC h1 h2 h
theorem MW{n b i:Nat}{x:Blk}{r:List AV}(h:K (.agg r))(hm:(b,x)∈L:=by repeat constructor)(h1:x.rows[i]? =some r:=by first|assumption|rfl)(h2:r.length=n:=by rfl):W.load true n (.ptr b i 0) L K:=RD hm h1 h2 h
theorem S9{t:TypeId}{k:IntKind}{a b:Int}(h:K (.int k (a.tmod b)))(hb:b≠0:=by first|assumption|decide|omega|exact of_decide_eq_false ZK):W.bin P F .rem t (.int k a) (.int k b) K:=Pb hb h
theorem Ta{t:TypeId}{k:IntKind}{a b:Int}(h:K (.int k (k.wrap (a.tdiv b))))(hb:b≠0:=by first|assumption|decide|omega|exact of_decide_eq_false ZK):W.bin P F .quo t (.int k a) (.int k b) K:=V1 hb h
theorem JV{p:Bool}{A B:Prop}(h:A)(hp:p=true:=by first|assumption|rfl):W.cond (.bool p) A B:=O6 hp h
theorem JW{p:Bool}{A B:Prop}(h:B)(hp:p=false:=by first|assumption|rfl):W.cond (.bool p) A B:=JQ hp h
theorem xS{n:Nat}{rows:List (List AV)}{k:IntKind}{j:Nat}{r:List AV}(h:K (.pptr rows j 0))(h1:rows[j]? =some r:=by first|assumption|rfl)(h2:r.length=n:=by rfl):W.idx n (.lst rows) (.int k (j:Int)) L K:=RE h1 h2 h
theorem RO{n:Nat}{rows:List (List AV)}{k:IntKind}{i:Int}{r:List AV}(h:K (.pptr rows i.toNat 0))(h0:0≤i:=by first|decide|omega)(h1:rows[i.toNat]? =some r:=by first|assumption|rfl)(h2:r.length=n:=by rfl):W.idx n (.lst rows) (.int k i) L K:=MK h0 h1 h2 h
theorem RP{α:Type}[Inhabited α]{f:α→List AV}{l:List α}{n:Nat}{k:IntKind}{i:Int}(h:K (.pptr (l.map f) i.toNat 0))(h1:inB i l.length=true:=by assumption)(h2:(f (l.getD i.toNat default)).length=n:=by rfl):W.idx n (.lst (l.map f)) (.int k i) L K:=MK (fN h1) (dU h1) h2 h
theorem dJ{n b m:Nat}{k:IntKind}{i:Nat}{y:Blk}(h:K (.ptr b i 0))(h1:i<m:=by first|assumption|omega)(hm:(b,y)∈L:=by repeat constructor)(h2:y.size=n:=by rfl):W.idx n (.sl b 0 m) (.int k (i:Int)) L K:=Pe h1 hm h2 h
theorem RQ{n b j m:Nat}{k:IntKind}{i:Int}{y:Blk}(h:K (.ptr b (j+i.toNat) 0))(h0:0≤i:=by first|decide|omega)(h1:i.toNat<m:=by first|assumption|omega)(hm:(b,y)∈L:=by repeat constructor)(h2:y.size=n:=by rfl):W.idx n (.sl b j m) (.int k i) L K:=ML h0 h1 hm h2 h
theorem Wb{i:Nat}{vs:List AV}{v:AV}(h:K v)(h1:vs[i]? =some v:=by rfl):W.ext i (.tup vs) K:=V5 h1 h
theorem Pp{p:Bool}{x y:AV}(h:K x)(hp:p=true:=by first|assumption|rfl):W.pick (.bool p) x y K:=OZ hp h
theorem Pq{p:Bool}{x y:AV}(h:K y)(hp:p=false:=by first|assumption|rfl):W.pick (.bool p) x y K:=O0 hp h
theorem Ig{p want:Bool}{A:(AV→SH→Prop)→Prop}(h:A KL)(hp:p=want:=by first|assumption|rfl):W.grd (.bool p) want A L KL:=RA hp h
theorem Ih{p want:Bool}{A:(AV→SH→Prop)→Prop}(h:KL bL L)(hp:p=!want:=by first|assumption|rfl):W.grd (.bool p) want A L KL:=RB hp h
theorem Pr{KF:AV→SH→W.Fp→Prop}{p want:Bool}{A:(AV→SH→W.Fp→Prop)→Prop}(h:A KF)(hp:p=want:=by first|assumption|rfl):W.dgrd (.bool p) want A L KF:=O1 hp h
theorem Ps{KF:AV→SH→W.Fp→Prop}{p want:Bool}{A:(AV→SH→W.Fp→Prop)→Prop}(h:KF bL L ⟨[],[],[],L.names⟩)(hp:p=!want:=by first|assumption|rfl):W.dgrd (.bool p) want A L KF:=O2 hp h
theorem RS{b i off:Nat}{x:Blk}{L':SH}(h:KL (.pptr x.rows i off) L')(h1:eP b x L L':=by repeat constructor)(h2:0<x.size:=by first|exact Nat.succ_pos _|decide|simp)(h3:0<x.rows.length:=by first|exact Nat.succ_pos _|decide|simp):W.frz1 (.ptr b i off) L KL:=Ia h1 h2 h3 h
theorem JX{KS:SH→Prop}{n b:Nat}{v:AV}{m:Nat}{r cs:List AV}{L':SH}(h:KS L')(hu:DQ b ⟨m,[r]⟩ ⟨m,[cs]⟩ L L':=by repeat constructor)(h2:v.cells? =some cs:=by rfl)(h3:cs.length=n:=by rfl)(h4:cs.all AV.one=true:=by rfl)(h5:r.length=n:=by rfl):W.store n (.ptr b 0 0) v L KS:=au hu h2 h3 h4 h5 h
theorem Cl{KS:SH→Prop}{b i off:Nat}{v:AV}{x:Blk}{r:List AV}{L':SH}(h:KS L')(hu:DQ b x ⟨x.size,x.rows.set i (r.set off v)⟩ L L':=by repeat constructor)(h1:x.rows[i]? =some r:=by first|assumption|rfl)(h2:v.cells? =some [v]:=by rfl)(h4:v.one=true:=by rfl)(h5:off<r.length:=by first|decide|exact Nat.lt_of_sub_pos (Nat.succ_pos _)|simp|omega):W.store 1 (.ptr b i off) v L KS:=Ck hu h1 h2 h4 h5 rfl h
theorem JY{KS:SH→Prop}{n b i:Nat}{v:AV}{x:Blk}{r cs:List AV}{L':SH}(h:KS L')(hu:DQ b x ⟨x.size,x.rows.set i cs⟩ L L':=by repeat constructor)(h1:x.rows[i]? =some r:=by first|assumption|rfl)(h2:v.cells? =some cs:=by rfl)(h3:cs.length=n:=by rfl)(h4:cs.all AV.one=true:=by rfl)(h5:r.length=n:=by rfl):W.store n (.ptr b i 0) v L KS:=JR hu h1 h2 h3 h4 h5 rfl h
theorem Pt{len n:Nat}{rows:List (List AV)}{j off:Nat}{k:IntKind}{i:Int}(h:K (.pptr rows j (off+i.toNat*n)))(h0:0≤i:=by first|decide|omega|exact Int.natCast_nonneg _)(h1:i.toNat<len:=by first|decide|omega):W.idxP len n (.pptr rows j off) (.int k i) K:=Ev h0 h1 h
theorem Pu{n by_:Nat}{z:List AV}{k k':IntKind}{i j:Nat}(h:∀b,b∉L.names→KL (.sl b 0 i) ((b,⟨n,List.replicate i z⟩)::L))(h1:i≤j:=by omega)(h2:j≤2^62:=by omega)(h3:j*by_≤2^48:=by omega):W.mslice n by_ z (.int k (i:Int)) (.int k' (j:Int)) L KL:=gr h1 h2 h3 h
theorem Pv{n:Nat}{z:List AV}{len:Nat}{ps:List (Nat×AV)}{rows:List (List AV)}(h:∀b,b∉L.names→KL (.sl b 0 len) ((b,⟨n,rows⟩)::L))(h1:len*n≤2^24:=by decide)(h2:eb n (List.replicate len z) ps=some rows:=by rfl):W.bslice n z len ps L KL:=Pf h1 h2 h
theorem Wc{x:AV}{cs:List AV}(h:∀b,b∉L.names→KL (.ptr b 0 0) ((b,⟨cs.length,[cs]⟩)::L))(h1:x.cells? =some cs:=by rfl)(h2:cs.all AV.one=true:=by rfl):W.box x L KL:=S7 h1 h2 h
theorem RT{z:List AV}{ps:List (Nat×Nat×AV)}{cs:List AV}(h:K (.agg cs))(h1:W0.fillR z ps=some cs:=by rfl):W.build z ps K:=RF h1 h
end
end
abbrev AV.ZO(x:Int):AV:=.int .i64 x
abbrev R:=AV→SH→Prop
abbrev Vs:=List AV
abbrev Kn:=W.Kn
abbrev Fp:=W.Fp
abbrev Ns:=List Nat
def rz:Fp:=⟨[],[],[],[]⟩
def rm(i:Nat)(r:Fp):W.WR:=⟨i,r.reads,r.writes,r.made,false,r.old⟩
def rc(i:Nat)(r:Fp):W.WR:=⟨i,r.reads,r.writes,r.made,true,r.old⟩
@[irreducible] def wl (x:AV) (L:SH) (K:AV→Prop):Prop:=W.load false 1 x L K
@[irreducible] def cp (n:Nat) (x:AV) (L:SH) (K:AV→Prop):Prop:=W.load true n x L K
@[irreducible] def aC (o:Nat) (x:AV) (L:SH) (K:AV→Prop):Prop:=W.faddr o x λa=>wl a L K
@[irreducible] def dV (o:Nat) (x:AV) (L:SH) (K:AV→Prop):Prop:=W.nilchk x λa=>aC o a L K
@[irreducible] def tH (n:Nat) (x i:AV) (L:SH) (K:AV→Prop):Prop:=W.idx n x i L λa=>wl a L K
@[irreducible] def ma (n:Nat) (x i:AV) (L:SH) (K:AV→Prop):Prop:=W.idx n x i L λa=>cp n a L K
@[irreducible] def fb (n o:Nat) (x i:AV) (L:SH) (K:AV→Prop):Prop:=W.idx n x i L λa=>aC o a L K
@[irreducible] def wb (op:BinOp) (t:TypeId) (x y:AV) (K:AV→Prop):Prop:=W.bin Tryz.prog Fl op t x y K
@[irreducible] def wk (x:AV) (A B:Prop):Prop:=W.cond x A B
@[irreducible] def wg (x:AV) (w:Bool) (A:(AV→Prop)→Prop) (L:SH) (K:R):Prop:=W.grd x w (λk=>A λv=>k v L) L K
@[irreducible] def bJ (x:AV) (w:Bool) (y:AV) (L:SH) (K:R):Prop:=W.grd x w (λk=>k y L) L K
@[irreducible] def wc (f:AV) (args:List AV) (L:SH) (K:R):Prop:=W.call Tryz.prog f args L K
@[irreducible] def wd (us:List W.WR) (i:Nat) (f:AV) (args:List AV) (L:SH) (K:AV→SH→Ns→Prop):Prop:=W.dcall Tryz.prog us i f args L K
@[irreducible] def wn (a b c d:Ns) (K:Fp→Prop):Prop:=W.note ⟨a,b,c,d⟩ K
@[irreducible] def dl (us:List W.WR) (i:Nat) (x:AV) (L:SH) (K:AV→Fp→Prop):Prop:=W.calm us ⟨i,aa x,[],[],false,[]⟩ (wl x L λv=>W.note ⟨aa x,[],[],[]⟩ λr=>K v r)
@[irreducible] def dr (us:List W.WR) (i n:Nat) (x:AV) (L:SH) (K:AV→Fp→Prop):Prop:=W.calm us ⟨i,aa x,[],[],false,[]⟩ (cp n x L λv=>W.note ⟨aa x,[],[],[]⟩ λr=>K v r)
@[irreducible] def aN (o:Nat) (x:AV) (us:List W.WR) (i:Nat) (L:SH) (K:AV→Fp→Prop):Prop:=W.faddr o x λa=>dl us i a L K
@[irreducible] def di (us:List W.WR) (i n:Nat) (x ix:AV) (L:SH) (K:AV→Fp→Prop):Prop:=W.calm us ⟨i,ed x,[],[],false,[]⟩ (W.idx n x ix L λv=>W.note ⟨ed x,[],[],[]⟩ λr=>K v r)
@[irreducible] def ds (us:List W.WR) (i n:Nat) (x y:AV) (L:SH) (K:SH→Fp→Prop):Prop:=W.calm us ⟨i,aa x,aa x,[],false,[]⟩ (W.store n x y L λL=>W.note ⟨aa x,aa x,[],[]⟩ λr=>K L r)
@[irreducible] def rE (z:List AV) (n:Nat) (y:AV) (L:SH) (K:R):Prop:=W.alloc z L λx L1=>W.store n x y L1 λL2=>W.frz1 x L2 K
@[irreducible] def rF (y:AV) (L:SH) (K:R):Prop:=W.box y L λx L1=>W.frz1 x L1 K
theorem TY{x:AV}{L:SH}{K:AV→Prop}(k0:W.load false 1 x L K):wl x L K:=by unfold wl;exact k0
theorem Pw{n:Nat}{x:AV}{L:SH}{K:AV→Prop}(k0:W.load true n x L K):cp n x L K:=by unfold cp;exact k0
theorem Px{o:Nat}{x:AV}{L:SH}{K:AV→Prop}(k0:W.faddr o x λa=>wl a L K):aC o x L K:=by unfold aC;exact k0
theorem Py{o:Nat}{x:AV}{L:SH}{K:AV→Prop}(k0:W.nilchk x λa=>aC o a L K):dV o x L K:=by unfold dV;exact k0
theorem Hk{n:Nat}{x i:AV}{L:SH}{K:AV→Prop}(k0:W.idx n x i L λa=>wl a L K):tH n x i L K:=by unfold tH;exact k0
theorem Tb{n:Nat}{x i:AV}{L:SH}{K:AV→Prop}(k0:W.idx n x i L λa=>cp n a L K):ma n x i L K:=by unfold ma;exact k0
theorem Pz{n o:Nat}{x i:AV}{L:SH}{K:AV→Prop}(k0:W.idx n x i L λa=>aC o a L K):fb n o x i L K:=by unfold fb;exact k0
theorem nK{op:BinOp}{t:TypeId}{x y:AV}{K:AV→Prop}(k0:W.bin Tryz.prog Fl op t x y K):wb op t x y K:=by unfold wb;exact k0
theorem TZ{x:AV}{A B:Prop}(k0:W.cond x A B):wk x A B:=by unfold wk;exact k0
theorem Wd{x:AV}{w:Bool}{A:(AV→Prop)→Prop}{L:SH}{K:R}(k0:W.grd x w (λk=>A λv=>k v L) L K):wg x w A L K:=by unfold wg;exact k0
theorem Tc{x:AV}{w:Bool}{y:AV}{L:SH}{K:R}(k0:W.grd x w (λk=>k y L) L K):bJ x w y L K:=by unfold bJ;exact k0
theorem qg{f:AV}{args:List AV}{L:SH}{K:R}(k0:W.call Tryz.prog f args L K):wc f args L K:=by unfold wc;exact k0
theorem XF{us:List W.WR}{i:Nat}{f:AV}{args:List AV}{L:SH}{K:AV→SH→Ns→Prop}(k0:W.dcall Tryz.prog us i f args L K):wd us i f args L K:=by unfold wd;exact k0
theorem XG{a b c d:Ns}{K:Fp→Prop}(k0:W.note ⟨a,b,c,d⟩ K):wn a b c d K:=by unfold wn;exact k0
theorem We{us:List W.WR}{i:Nat}{x:AV}{L:SH}{K:AV→Fp→Prop}(k0:W.calm us ⟨i,aa x,[],[],false,[]⟩ (wl x L λv=>W.note ⟨aa x,[],[],[]⟩ λr=>K v r)):dl us i x L K:=by unfold dl;exact k0
theorem Wf{us:List W.WR}{i n:Nat}{x:AV}{L:SH}{K:AV→Fp→Prop}(k0:W.calm us ⟨i,aa x,[],[],false,[]⟩ (cp n x L λv=>W.note ⟨aa x,[],[],[]⟩ λr=>K v r)):dr us i n x L K:=by unfold dr;exact k0
theorem Td{o:Nat}{x:AV}{us:List W.WR}{i:Nat}{L:SH}{K:AV→Fp→Prop}(k0:W.faddr o x λa=>dl us i a L K):aN o x us i L K:=by unfold aN;exact k0
theorem T0{us:List W.WR}{i n:Nat}{x ix:AV}{L:SH}{K:AV→Fp→Prop}(k0:W.calm us ⟨i,ed x,[],[],false,[]⟩ (W.idx n x ix L λv=>W.note ⟨ed x,[],[],[]⟩ λr=>K v r)):di us i n x ix L K:=by unfold di;exact k0
theorem Wg{us:List W.WR}{i n:Nat}{x y:AV}{L:SH}{K:SH→Fp→Prop}(k0:W.calm us ⟨i,aa x,aa x,[],false,[]⟩ (W.store n x y L λL=>W.note ⟨aa x,aa x,[],[]⟩ λr=>K L r)):ds us i n x y L K:=by unfold ds;exact k0
theorem RU{rows:List (List AV)}{i off:Nat}{r:List AV}{v:AV}{L:SH}{K:AV→Prop}(k:K v)(h1:rows[i]? =some r:=by first|assumption|rfl)(h2:r[off]? =some v:=by rfl):wl (.pptr rows i off) L K:=TY (JT k h1 h2)
theorem Wh{b i off:Nat}{x:Blk}{r:List AV}{v:AV}{L:SH}{K:AV→Prop}(k:K v)(hm:(b,x)∈L:=by repeat constructor)(h1:x.rows[i]? =some r:=by first|assumption|rfl)(h2:r[off]? =some v:=by rfl):wl (.ptr b i off) L K:=TY (JU k hm h1 h2)
theorem Te{o:Nat}{rows:List (List AV)}{i off:Nat}{r:List AV}{v:AV}{L:SH}{K:AV→Prop}(k:K v)(h1:rows[i]? =some r:=by first|assumption|rfl)(h2:r[off+o]? =some v:=by rfl):aC o (.pptr rows i off) L K:=Px (AF (RU k h1 h2))
theorem Tf{o b i off:Nat}{x:Blk}{r:List AV}{v:AV}{L:SH}{K:AV→Prop}(k:K v)(hm:(b,x)∈L:=by repeat constructor)(h1:x.rows[i]? =some r:=by first|assumption|rfl)(h2:r[off+o]? =some v:=by rfl):aC o (.ptr b i off) L K:=Px (AE (Wh k hm h1 h2))
theorem T1{o b i off:Nat}{x:Blk}{r:List AV}{v:AV}{L:SH}{K:AV→Prop}(k:K v)(hm:(b,x)∈L:=by repeat constructor)(h1:x.rows[i]? =some r:=by first|assumption|rfl)(h2:r[off+o]? =some v:=by rfl):dV o (.ptr b i off) L K:=Py (MM (Tf k hm h1 h2))
theorem Wi{n:Nat}{rows:List (List AV)}{kd:IntKind}{j:Nat}{r:List AV}{v:AV}{L:SH}{K:AV→Prop}(k:K v)(h1:rows[j]? =some r:=by first|assumption|rfl)(h2:r.length=n:=by rfl)(h3:r[0]? =some v:=by rfl):tH n (.lst rows) (.int kd (j:Int)) L K:=Hk (xS (RU k h1 h3) h1 h2)
theorem Wj{n:Nat}{rows:List (List AV)}{kd:IntKind}{j:Nat}{r:List AV}{L:SH}{K:AV→Prop}(k:K (.agg r))(h1:rows[j]? =some r:=by first|assumption|rfl)(h2:r.length=n:=by rfl):ma n (.lst rows) (.int kd (j:Int)) L K:=Tb (xS (Pw (DR k h1 h2)) h1 h2)
theorem T2{n o:Nat}{rows:List (List AV)}{kd:IntKind}{j:Nat}{r:List AV}{v:AV}{L:SH}{K:AV→Prop}(k:K v)(h1:rows[j]? =some r:=by first|assumption|rfl)(h2:r.length=n:=by rfl)(h3:r[0+o]? =some v:=by rfl):fb n o (.lst rows) (.int kd (j:Int)) L K:=Pz (xS (Te k h1 h3) h1 h2)
theorem EA{us:List W.WR}{i:Nat}{A:Prop}(k:A):W.calm us ⟨i,[],[],[],false,[]⟩ A:=Pg (λx _=>by simp[W.free]) k
theorem Wk{us:List W.WR}{j:Nat}{rows:List (List AV)}{i off:Nat}{r:List AV}{v:AV}{L:SH}{K:AV→Fp→Prop}(k:K v rz)(h1:rows[i]? =some r:=by first|assumption|rfl)(h2:r[off]? =some v:=by rfl):dl us j (.pptr rows i off) L K:=We (EA (RU (ud k) h1 h2))
theorem XH{us:List W.WR}{j n:Nat}{rows:List (List AV)}{i:Nat}{r:List AV}{L:SH}{K:AV→Fp→Prop}(k:K (.agg r) rz)(h1:rows[i]? =some r:=by first|assumption|rfl)(h2:r.length=n:=by rfl):dr us j n (.pptr rows i 0) L K:=Wf (EA (Pw (DR (ud k) h1 h2)))
theorem Wl{us:List W.WR}{j o:Nat}{rows:List (List AV)}{i off:Nat}{r:List AV}{v:AV}{L:SH}{K:AV→Fp→Prop}(k:K v rz)(h1:rows[i]? =some r:=by first|assumption|rfl)(h2:r[off+o]? =some v:=by rfl):aN o (.pptr rows i off) us j L K:=Td (AF (Wk k h1 h2))
theorem XI{us:List W.WR}{m n:Nat}{rows:List (List AV)}{kd:IntKind}{j:Nat}{r:List AV}{L:SH}{K:AV→Fp→Prop}(k:K (.pptr rows j 0) rz)(h1:rows[j]? =some r:=by first|assumption|rfl)(h2:r.length=n:=by rfl):di us m n (.lst rows) (.int kd (j:Int)) L K:=T0 (EA (xS (ud k) h1 h2))
theorem T3{z cs:List AV}{n:Nat}{L:SH}{K:R}(k:K (.pptr [cs] 0 0) L)(h1:cs.length=n:=by rfl)(h2:z.length=n:=by rfl)(h3:cs.all AV.one=true:=by rfl)(h4:0<n:=by decide):rE z n (.agg cs) L K:=by
 unfold rE;refine MN λb hb=>?_
 refine au (.here _) rfl h1 h3 h2 ?_;exact Ia (.here _) (by show 0<z.length;omega) (Nat.succ_pos _) k
theorem Ii{y:AV}{cs:List AV}{L:SH}{K:R}(k:K (.pptr [cs] 0 0) L)(h1:y.cells? =some cs:=by rfl)(h2:cs.all AV.one=true:=by rfl)(h3:0<cs.length:=by exact Nat.succ_pos _):rF y L K:=by unfold rF;exact S7 h1 h2 λb hb=>Ia (.here _) h3 (Nat.succ_pos _) k
theorem JZ{n:Nat}{rows:List (List AV)}{i off:Nat}{r cs:List AV}{L:SH}{K:AV→Prop}(k:K (.agg cs))(h1:rows[i]? =some r:=by first|assumption|rfl)(h3:(r.drop off).take n=cs:=by rfl)(h2:off+n≤r.length:=by exact Nat.le_of_ble_eq_true rfl):W.load true n (.pptr rows i off) L K:=Pc h1 h2 h3 k
theorem J0{n b i off:Nat}{x:Blk}{r cs:List AV}{L:SH}{K:AV→Prop}(k:K (.agg cs))(hm:(b,x)∈L:=by repeat constructor)(h1:x.rows[i]? =some r:=by first|assumption|rfl)(h3:(r.drop off).take n=cs:=by rfl)(h2:off+n≤r.length:=by exact Nat.le_of_ble_eq_true rfl):W.load true n (.ptr b i off) L K:=Pd hm h1 h2 h3 k
theorem ue{P:Program}{F:TypeId→Option (List TypeId)}{t:TypeId}{kd:IntKind}{a b c:Int}{K:AV→Prop}(k:K (.int kd c))(e:kd.wrap (a+b)=c:=by assumption):W.bin P F .add t (.int kd a) (.int kd b) K:=O9 (by rw[e];exact k)
theorem jA{P:Program}{F:TypeId→Option (List TypeId)}{t:TypeId}{kd:IntKind}{a b c:Int}{K:AV→Prop}(k:K (.int kd c))(e:kd.wrap (a-b)=c:=by assumption):W.bin P F .sub t (.int kd a) (.int kd b) K:=Pa (by rw[e];exact k)
theorem Tg{a b:Bool}{K:AV→Prop}(k:K (.bool (decide (a=b)))):W.bin Tryz.prog Fl .eql 4 (.bool a) (.bool b) K:=by rw[VZ _ (show Tryz.prog.underlying 4=some .bool by kernel_rfl)];cases a<;>cases b<;>exact k
theorem Th{a b:Bool}{K:AV→Prop}(k:K (.bool (decide (a≠b)))):W.bin Tryz.prog Fl .neq 4 (.bool a) (.bool b) K:=by rw[V0 _ (show Tryz.prog.underlying 4=some .bool by kernel_rfl)];cases a<;>cases b<;>exact k
theorem Ij{us:List W.WR}{y:W.WR}{A:Prop}(h:A)(h1:∀x∈us,W.free x y:=by(simp only[rm,rc,rz,W.free,aw,↓reduceIte,Nat.reduceEqDiff,aa,ed,ZH,YO,YF,not_false_eq_true,implies_true,and_true,true_and,and_self,YB,reduceCtorEq,forall_const,false_implies,Ye,forall_eq,YM,Za,Ya,or_false,false_or,forall_eq_or_imp,not_or])<;>(repeat' constructor)<;>first|assumption|(exact Ne.symm ZK)|(intro e_;subst e_;simp[SH.names]at *;done)):W.calm us y A:=Pg h1 h
theorem uf{g:FuncId}{args:List AV}{L:SH}{i:Nat}{R1:R}{KN:AV→SH→List Nat→Prop}(h:af Tryz.prog g args L R1)(hk:∀v K',R1 v K'→KN v K' L.names):W.dcallM Tryz.prog [] i g args L KN:=
 ⟨L,[],ZM,nofun,h.mono λv K' hr=>by simpa using hk v K' hr⟩
theorem Cm{g:FuncId}{args:List AV}{L:SH}{R1 KL:R}(h:af Tryz.prog g args L R1)(hk:∀v K',R1 v K'→KL v K'):W.callM Tryz.prog g args L KL:=MT (h.mono hk)
theorem XJ(ht:OX){f:FuncId}{fn:Func}{args:List AV}{L:SH}{Q:R}{p:Prop}(hf:Tryz.prog.funcs[f]? =some fn)(hb:fn.body=some (fn.body.getD .skip))(he:W.func Tryz.prog Fl ht fn (fn.body.getD .skip) args L Q=p)(h:p):af Tryz.prog f args L Q:=
 Lw (ht:=ht) fit hf hb (Eq.mpr he h)
def lk:List (Nat×List Nat)→Nat→Option (List Nat)
 |[],_=>none
 |(a,b)::l,k=>bif Nat.beq a k then some b else lk l k
theorem fs(j l z d:List (Nat×List Nat)){f:FuncId}{fn:Func}{args:List AV}{L:SH}{Q:R}{p:Prop}(hf:Tryz.prog.funcs[f]? =some fn)(h:p)(hb:fn.body=some (fn.body.getD .skip):=by kernel_rfl)(he:W.func Tryz.prog Fl ⟨lk j,λk=>(lk l k).getD [],λk=>(lk z k).getD [],λk=>(lk d k).getD []⟩ fn (fn.body.getD .skip) args L Q=p:=by kernel_rfl):af Tryz.prog f args L Q:=XJ _ hf hb he h
structure PG(g:FuncId)(args:List AV)(K:AV→Prop):Prop where
 h:∃v,az Tryz.prog g args v∧K v
theorem pm{g:FuncId}{args:List AV}{K:AV→Prop}{v:AV}(h:az Tryz.prog g args v)(k:K v):PG g args K:=⟨v,h,k⟩
theorem XK{g:FuncId}{args:List AV}{L:SH}{KL:R}(h:PG g args λv=>KL v L):W.callM Tryz.prog g args L KL:=h.h.elim λ_ x=>TR x.1 x.2
theorem XL{L:SH}{KN:AV→SH→List Nat→Prop}{us:List W.WR}{i:Nat}{g:FuncId}{args:List AV}(h:PG g args λv=>KN v L [])(hf:∀x∈us,W.free x ⟨i,[],[],[],true,[]⟩:=by(simp only[rm,rc,rz,W.free,aw,↓reduceIte,Nat.reduceEqDiff,aa,ed,ZH,YO,YF,not_false_eq_true,implies_true,and_true,true_and,and_self,YB,reduceCtorEq,forall_const,false_implies,Ye,forall_eq,YM,Za,Ya,or_false,false_or,forall_eq_or_imp,not_or])<;>(repeat' constructor)<;>first|assumption|(exact Ne.symm ZK)|(intro e_;subst e_;simp[SH.names]at *;done)):W.dcallM Tryz.prog us i g args L KN:=h.h.elim λ_ x=>RK x.1 hf x.2
theorem pf(g:FuncId){args:List AV}{K:AV→Prop}{G:Prop}(k:PG g args K)(h:PG g args K→G:=by intro k;first|with_reducible exact XK k|with_reducible exact XL k|fail):G:=h k
@[irreducible] def XM (a0:Nat) (v:Vs) (K:AV→Prop):Prop:=K (aw [a0] v a0)
theorem T4{a0:Nat}{y0:AV}{K:AV→Prop}(k:K y0)(h:[a0].Nodup:=by decide):XM a0 [y0] K:=by simp only[Yj,Ya,not_or,YF,not_false_eq_true,Zd,and_true,true_and]at h;simp only[XM,aw, *,if_true,if_false,eq_self]
@[irreducible] def RV (a0 a1:Nat) (v:Vs) (K:AV→AV→Prop):Prop:=K (aw [a0,a1] v a0) (aw [a0,a1] v a1)
theorem T5{a0 a1:Nat}{y0 y1:AV}{K:AV→AV→Prop}(k:K y0 y1)(h:[a0,a1].Nodup:=by decide):RV a0 a1 [y0,y1] K:=by simp only[Yj,Ya,not_or,YF,not_false_eq_true,Zd,and_true,true_and]at h;simp only[RV,aw, *,if_true,if_false,eq_self]
@[irreducible] def tI (a0 a1 a2:Nat) (v:Vs) (K:AV→AV→AV→Prop):Prop:=K (aw [a0,a1,a2] v a0) (aw [a0,a1,a2] v a1) (aw [a0,a1,a2] v a2)
theorem T6{a0 a1 a2:Nat}{y0 y1 y2:AV}{K:AV→AV→AV→Prop}(k:K y0 y1 y2)(h:[a0,a1,a2].Nodup:=by decide):tI a0 a1 a2 [y0,y1,y2] K:=by simp only[Yj,Ya,not_or,YF,not_false_eq_true,Zd,and_true,true_and]at h;simp only[tI,aw, *,if_true,if_false,eq_self]
@[irreducible] def ug (a0 a1 a2 a3:Nat) (v:Vs) (K:AV→AV→AV→AV→Prop):Prop:=K (aw [a0,a1,a2,a3] v a0) (aw [a0,a1,a2,a3] v a1) (aw [a0,a1,a2,a3] v a2) (aw [a0,a1,a2,a3] v a3)
theorem T7{a0 a1 a2 a3:Nat}{y0 y1 y2 y3:AV}{K:AV→AV→AV→AV→Prop}(k:K y0 y1 y2 y3)(h:[a0,a1,a2,a3].Nodup:=by decide):ug a0 a1 a2 a3 [y0,y1,y2,y3] K:=by simp only[Yj,Ya,not_or,YF,not_false_eq_true,Zd,and_true,true_and]at h;simp only[ug,aw, *,if_true,if_false,eq_self]
@[irreducible] def Jd (a0 a1 a2 a3 a4:Nat) (v:Vs) (K:AV→AV→AV→AV→AV→Prop):Prop:=K (aw [a0,a1,a2,a3,a4] v a0) (aw [a0,a1,a2,a3,a4] v a1) (aw [a0,a1,a2,a3,a4] v a2) (aw [a0,a1,a2,a3,a4] v a3) (aw [a0,a1,a2,a3,a4] v a4)
theorem T8{a0 a1 a2 a3 a4:Nat}{y0 y1 y2 y3 y4:AV}{K:AV→AV→AV→AV→AV→Prop}(k:K y0 y1 y2 y3 y4)(h:[a0,a1,a2,a3,a4].Nodup:=by decide):Jd a0 a1 a2 a3 a4 [y0,y1,y2,y3,y4] K:=by simp only[Yj,Ya,not_or,YF,not_false_eq_true,Zd,and_true,true_and]at h;simp only[Jd,aw, *,if_true,if_false,eq_self]
@[irreducible] def J1 (a0 a1 a2 a3 a4 a5:Nat) (v:Vs) (K:AV→AV→AV→AV→AV→AV→Prop):Prop:=K (aw [a0,a1,a2,a3,a4,a5] v a0) (aw [a0,a1,a2,a3,a4,a5] v a1) (aw [a0,a1,a2,a3,a4,a5] v a2) (aw [a0,a1,a2,a3,a4,a5] v a3) (aw [a0,a1,a2,a3,a4,a5] v a4) (aw [a0,a1,a2,a3,a4,a5] v a5)
theorem PA{a0 a1 a2 a3 a4 a5:Nat}{y0 y1 y2 y3 y4 y5:AV}{K:AV→AV→AV→AV→AV→AV→Prop}(k:K y0 y1 y2 y3 y4 y5)(h:[a0,a1,a2,a3,a4,a5].Nodup:=by decide):J1 a0 a1 a2 a3 a4 a5 [y0,y1,y2,y3,y4,y5] K:=by simp only[Yj,Ya,not_or,YF,not_false_eq_true,Zd,and_true,true_and]at h;simp only[J1,aw, *,if_true,if_false,eq_self]
@[irreducible] def NN (a0 a1 a2 a3 a4 a5 a6:Nat) (v:Vs) (K:AV→AV→AV→AV→AV→AV→AV→Prop):Prop:=K (aw [a0,a1,a2,a3,a4,a5,a6] v a0) (aw [a0,a1,a2,a3,a4,a5,a6] v a1) (aw [a0,a1,a2,a3,a4,a5,a6] v a2) (aw [a0,a1,a2,a3,a4,a5,a6] v a3) (aw [a0,a1,a2,a3,a4,a5,a6] v a4) (aw [a0,a1,a2,a3,a4,a5,a6] v a5) (aw [a0,a1,a2,a3,a4,a5,a6] v a6)
theorem T9{a0 a1 a2 a3 a4 a5 a6:Nat}{y0 y1 y2 y3 y4 y5 y6:AV}{K:AV→AV→AV→AV→AV→AV→AV→Prop}(k:K y0 y1 y2 y3 y4 y5 y6)(h:[a0,a1,a2,a3,a4,a5,a6].Nodup:=by decide):NN a0 a1 a2 a3 a4 a5 a6 [y0,y1,y2,y3,y4,y5,y6] K:=by simp only[Yj,Ya,not_or,YF,not_false_eq_true,Zd,and_true,true_and]at h;simp only[NN,aw, *,if_true,if_false,eq_self]
@[irreducible] def Ua (a0 a1 a2 a3 a4 a5 a6 a7:Nat) (v:Vs) (K:AV→AV→AV→AV→AV→AV→AV→AV→Prop):Prop:=K (aw [a0,a1,a2,a3,a4,a5,a6,a7] v a0) (aw [a0,a1,a2,a3,a4,a5,a6,a7] v a1) (aw [a0,a1,a2,a3,a4,a5,a6,a7] v a2) (aw [a0,a1,a2,a3,a4,a5,a6,a7] v a3) (aw [a0,a1,a2,a3,a4,a5,a6,a7] v a4) (aw [a0,a1,a2,a3,a4,a5,a6,a7] v a5) (aw [a0,a1,a2,a3,a4,a5,a6,a7] v a6) (aw [a0,a1,a2,a3,a4,a5,a6,a7] v a7)
theorem Ub{a0 a1 a2 a3 a4 a5 a6 a7:Nat}{y0 y1 y2 y3 y4 y5 y6 y7:AV}{K:AV→AV→AV→AV→AV→AV→AV→AV→Prop}(k:K y0 y1 y2 y3 y4 y5 y6 y7)(h:[a0,a1,a2,a3,a4,a5,a6,a7].Nodup:=by decide):Ua a0 a1 a2 a3 a4 a5 a6 a7 [y0,y1,y2,y3,y4,y5,y6,y7] K:=by simp only[Yj,Ya,not_or,YF,not_false_eq_true,Zd,and_true,true_and]at h;simp only[Ua,aw, *,if_true,if_false,eq_self]
@[irreducible] def OJ (a0 a1 a2 a3 a4 a5 a6 a7 a8:Nat) (v:Vs) (K:AV→AV→AV→AV→AV→AV→AV→AV→AV→Prop):Prop:=K (aw [a0,a1,a2,a3,a4,a5,a6,a7,a8] v a0) (aw [a0,a1,a2,a3,a4,a5,a6,a7,a8] v a1) (aw [a0,a1,a2,a3,a4,a5,a6,a7,a8] v a2) (aw [a0,a1,a2,a3,a4,a5,a6,a7,a8] v a3) (aw [a0,a1,a2,a3,a4,a5,a6,a7,a8] v a4) (aw [a0,a1,a2,a3,a4,a5,a6,a7,a8] v a5) (aw [a0,a1,a2,a3,a4,a5,a6,a7,a8] v a6) (aw [a0,a1,a2,a3,a4,a5,a6,a7,a8] v a7) (aw [a0,a1,a2,a3,a4,a5,a6,a7,a8] v a8)
theorem Uc{a0 a1 a2 a3 a4 a5 a6 a7 a8:Nat}{y0 y1 y2 y3 y4 y5 y6 y7 y8:AV}{K:AV→AV→AV→AV→AV→AV→AV→AV→AV→Prop}(k:K y0 y1 y2 y3 y4 y5 y6 y7 y8)(h:[a0,a1,a2,a3,a4,a5,a6,a7,a8].Nodup:=by decide):OJ a0 a1 a2 a3 a4 a5 a6 a7 a8 [y0,y1,y2,y3,y4,y5,y6,y7,y8] K:=by simp only[Yj,Ya,not_or,YF,not_false_eq_true,Zd,and_true,true_and]at h;simp only[OJ,aw, *,if_true,if_false,eq_self]
@[irreducible] def RW (a0 a1 a2 a3 a4 a5 a6 a7 a8 a9:Nat) (v:Vs) (K:AV→AV→AV→AV→AV→AV→AV→AV→AV→AV→Prop):Prop:=K (aw [a0,a1,a2,a3,a4,a5,a6,a7,a8,a9] v a0) (aw [a0,a1,a2,a3,a4,a5,a6,a7,a8,a9] v a1) (aw [a0,a1,a2,a3,a4,a5,a6,a7,a8,a9] v a2) (aw [a0,a1,a2,a3,a4,a5,a6,a7,a8,a9] v a3) (aw [a0,a1,a2,a3,a4,a5,a6,a7,a8,a9] v a4) (aw [a0,a1,a2,a3,a4,a5,a6,a7,a8,a9] v a5) (aw [a0,a1,a2,a3,a4,a5,a6,a7,a8,a9] v a6) (aw [a0,a1,a2,a3,a4,a5,a6,a7,a8,a9] v a7) (aw [a0,a1,a2,a3,a4,a5,a6,a7,a8,a9] v a8) (aw [a0,a1,a2,a3,a4,a5,a6,a7,a8,a9] v a9)
theorem RX{a0 a1 a2 a3 a4 a5 a6 a7 a8 a9:Nat}{y0 y1 y2 y3 y4 y5 y6 y7 y8 y9:AV}{K:AV→AV→AV→AV→AV→AV→AV→AV→AV→AV→Prop}(k:K y0 y1 y2 y3 y4 y5 y6 y7 y8 y9)(h:[a0,a1,a2,a3,a4,a5,a6,a7,a8,a9].Nodup:=by decide):RW a0 a1 a2 a3 a4 a5 a6 a7 a8 a9 [y0,y1,y2,y3,y4,y5,y6,y7,y8,y9] K:=by simp only[Yj,Ya,not_or,YF,not_false_eq_true,Zd,and_true,true_and]at h;simp only[RW,aw, *,if_true,if_false,eq_self]
@[irreducible] def Ud (a0 a1 a2 a3 a4 a5 a6 a7 a8 a9 a10:Nat) (v:Vs) (K:AV→AV→AV→AV→AV→AV→AV→AV→AV→AV→AV→Prop):Prop:=K (aw [a0,a1,a2,a3,a4,a5,a6,a7,a8,a9,a10] v a0) (aw [a0,a1,a2,a3,a4,a5,a6,a7,a8,a9,a10] v a1) (aw [a0,a1,a2,a3,a4,a5,a6,a7,a8,a9,a10] v a2) (aw [a0,a1,a2,a3,a4,a5,a6,a7,a8,a9,a10] v a3) (aw [a0,a1,a2,a3,a4,a5,a6,a7,a8,a9,a10] v a4) (aw [a0,a1,a2,a3,a4,a5,a6,a7,a8,a9,a10] v a5) (aw [a0,a1,a2,a3,a4,a5,a6,a7,a8,a9,a10] v a6) (aw [a0,a1,a2,a3,a4,a5,a6,a7,a8,a9,a10] v a7) (aw [a0,a1,a2,a3,a4,a5,a6,a7,a8,a9,a10] v a8) (aw [a0,a1,a2,a3,a4,a5,a6,a7,a8,a9,a10] v a9) (aw [a0,a1,a2,a3,a4,a5,a6,a7,a8,a9,a10] v a10)
theorem RY{a0 a1 a2 a3 a4 a5 a6 a7 a8 a9 a10:Nat}{y0 y1 y2 y3 y4 y5 y6 y7 y8 y9 y10:AV}{K:AV→AV→AV→AV→AV→AV→AV→AV→AV→AV→AV→Prop}(k:K y0 y1 y2 y3 y4 y5 y6 y7 y8 y9 y10)(h:[a0,a1,a2,a3,a4,a5,a6,a7,a8,a9,a10].Nodup:=by decide):Ud a0 a1 a2 a3 a4 a5 a6 a7 a8 a9 a10 [y0,y1,y2,y3,y4,y5,y6,y7,y8,y9,y10] K:=by simp only[Yj,Ya,not_or,YF,not_false_eq_true,Zd,and_true,true_and]at h;simp only[Ud,aw, *,if_true,if_false,eq_self]
section
set_option maxRecDepth 100000
def CD(Q:R)(c:SH)(a:AV):Prop:=W.build [.nils,(.ZO 0),.nils,.nils] [] λd=>W.store 4 a d c λb=>W.load true 4 a b λe=>Q (.tup [e,(.ZO 0),(.bool false)]) b
def CE(Q:R)(d:Vs)(a:SH):Prop:=tI 7 12 15 d λe b f=>cp 4 e a λg=>W.store 4 b g a λc=>W.load true 4 b c λh=>Q (.tup [h,f,(.bool true)]) c
def CF(c:Kn)(a:SH)(b d e:AV):Prop:=aC 3 b a λf=>wl d a λg=>W.idx 3 f g a λh=>W.faddr 0 h λi=>W.store 1 i (.ZO 2) a λj=>c [b,e,(.ZO 0)] j
def CG(c:Kn)(a:SH)(b d e:AV):Prop:=aC 3 b a λf=>wl d a λg=>W.idx 3 f g a λh=>W.faddr 0 h λi=>W.store 1 i (.ZO 5) a λj=>c [b,e,(.ZO 0)] j
def CH(b:Kn)(c:SH)(d e f g h i:AV)(a:SH)(j:Ns):Prop:=wn [] j [] c.names λn=>di [] 5 2 d e a λk o=>W.faddr 1 k λl=>ds [] 7 1 l i a λm p=>b [f,g,h] m
def CI(c:Kn)(b d e f g j:AV)(a:SH):Prop:=(true=true)∧(aN 0 b [] 1 a λh i=>wd [rm 1 i] 4 (.fn 75 []) [d] a (CH c a h e b f g))
def CJ(j:Kn)(a:SH)(e f k l m:AV):Prop:=(true=true)∧(aN 0 e [] 1 a λn g=>di [] 3 2 n f a λo h=>aN 1 o [] 5 a λb i=>dl [rm 5 i,rm 3 h,rm 1 g] 6 k a λp s=>W.calm [rm 5 i,rm 3 h,rm 1 g] ⟨7,[],[],[],false,[]⟩ (W.bslice 1 [(.ZO 0)] 1 [(0,p)] a λc q=>wn [] [] (aa c) [] λt=>W.calm [] ⟨8,(aa b++aa c),(aa b),[],false,[]⟩ (W.append 1 8 b c q λd r=>wn (aa b++aa c) (aa b) (aa d) [] λu=>wc (.fn 74 []) [d] r (CI j e d f l m))))
def CK(b:Kn)(c:SH)(d e f g h i:AV)(a:SH)(j:Ns):Prop:=wn [] j [] c.names λn=>di [] 11 2 d e a λk o=>W.faddr 1 k λl=>ds [] 13 1 l i a λm p=>b [f,g,h] m
def CL(e:Kn)(a:SH)(c d f g h:AV):Prop:=(true=true)∧(aN 0 c [] 1 a λi b=>aN 0 c [rm 1 b] 4 a λj m=>di [rm 1 b] 6 2 j d a λk n=>aN 1 k [rm 1 b] 8 a λl o=>wd [rm 1 b] 10 (.fn 76 []) [l,(.fn 77 [f])] a (CK e a i d c g h))
def CM(c:Kn)(a:SH)(b d e f:AV):Prop:=aC 3 b a λg=>wl d a λh=>W.idx 3 g h a λi=>W.faddr 2 i λj=>W.store 1 j (.bool true) a λk=>c [b,e,f] k
def CN(c:Kn)(a:SH)(b d e f:AV):Prop:=aC 3 b a λg=>wl d a λh=>W.idx 3 g h a λi=>W.faddr 2 i λj=>W.store 1 j (.bool false) a λk=>c [b,e,f] k
def CO(l:Kn)(a:SH)(c m g h n o:AV):Prop:=(true=true)∧(aN 0 c [] 1 a λp d=>aN 2 m [rm 1 d] 3 a λq E=>di [rm 1 d] 5 2 q g a λr F=>aN 1 r [rm 1 d] 7 a λs G=>di [] 8 2 p s a λt H=>W.faddr 0 t λu=>ds [] 10 1 u (.ZO (-1)) a λb I=>(true=true)∧(aN 3 c [] 1 b λv e=>dl [rm 1 e] 2 h b λw i=>aN 3 c [rm 2 i,rm 1 e] 4 b λx f=>dl [rm 4 f,rm 2 i,rm 1 e] 5 h b λy j=>di [rm 5 j,rm 4 f] 7 3 v w b λz J=>W.faddr 0 z λA=>ds [rm 5 j,rm 4 f] 9 1 A (.ZO 3) b λk M=>di [] 10 3 x y k λB N=>W.faddr 1 B λC=>ds [] 12 1 C g k λD O=>l [c,n,o] D))
def CP(k:Kn)(a:SH)(c l m e n o:AV):Prop:=(true=true)∧(aN 0 c [] 1 a λp d=>aN 2 l [rm 1 d] 3 a λq r=>di [rm 1 d] 5 2 q m a λs t=>aN 1 s [rm 1 d] 7 a λu v=>dl [rm 7 v,rm 5 t,rm 3 r,rm 1 d] 8 e a λw I=>di [] 9 2 p u a λx J=>W.faddr 0 x λy=>ds [] 11 1 y w a λb M=>(true=true)∧(aN 3 c [] 1 b λz f=>dl [rm 1 f] 2 e b λA h=>aN 3 c [rm 2 h,rm 1 f] 4 b λB g=>dl [rm 4 g,rm 2 h,rm 1 f] 5 e b λC i=>di [rm 5 i,rm 4 g] 6 3 z A b λD N=>W.faddr 0 D λE=>ds [rm 5 i,rm 4 g] 8 1 E (.ZO 2) b λj O=>di [] 9 3 B C j λF P=>W.faddr 1 F λG=>ds [] 11 1 G (.ZO 0) j λH S=>k [c,n,o] H))
def CQ(c:Kn)(a:SH)(f b g d e:AV):Prop:=wb .eql 3 f (.ZO 22) λh=>wk h (aC 2 b a λi=>W.idx 1 i g a λj=>W.store 1 j (.bool true) a λk=>c [b,d,e] k) (c [b,d,e] a)
def AJ(c:Kn)(a:SH)(d b e f g:AV):Prop:=wb .eql 3 d (.ZO 20) λh=>wk h (aC 3 b a λi=>W.idx 3 i e a λj=>W.faddr 0 j λk=>W.store 1 k (.ZO 1) a λl=>c [b,f,g] l) ((CQ c a d b e f g))
def AK(c:Kn)(a:SH)(d b e f g:AV):Prop:=wb .eql 3 d (.ZO 19) λh=>wk h (cp 4 b a λi=>wc (.fn 79 []) [i,e] a λj k=>c [b,f,j] k) ((AJ c a d b e f g))
def AL(c:Kn)(a:SH)(d b e g f h:AV):Prop:=wb .eql 3 d (.ZO 18) λi=>wk i (cp 4 b a λj=>wc (.fn 78 []) [j,e,g] a λk l=>c [b,f,k] l) ((AK c a d b e f h))
def AM(a:Kn)(b:SH)(c d h e i f g j:AV):Prop:=wb .eql 3 c (.ZO 16) λk=>wk k ((CO a b d h e i f g)) (wb .eql 3 c (.ZO 17) λl=>wk l ((CP a b d h e i f g)) ((AL a b c d e j f g)))
def AN(a:Kn)(b:SH)(c d e f g h i j:AV):Prop:=wb .eql 3 c (.ZO 14) λk=>wk k ((CM a b d e f g)) (wb .eql 3 c (.ZO 15) λl=>wk l ((CN a b d e f g)) ((AM a b c d h i e f g j)))
def AO(b:Kn)(c:SH)(d a e f g h i j:AV):Prop:=wb .eql 3 d (.ZO 13) λk=>wk k (W.faddr 1 a λl=>W.store 1 l (.ZO (-1)) c λm=>b [a,e,f] m) ((AN b c d a g e f h i j))
def AP(c:Kn)(a:SH)(d e b f g h i j:AV):Prop:=wb .eql 3 d (.ZO 12) λk=>wk k (wl e a λl=>W.faddr 1 b λm=>W.store 1 m l a λn=>c [b,f,g] n) ((AO c a d b f g e h i j))
def AQ(a:Kn)(b:SH)(c d e f g h i j:AV):Prop:=wb .eql 3 c (.ZO 8) λk=>wk k ((CJ a b d e f g h)) (wb .eql 3 c (.ZO 9) λl=>wk l ((CL a b d e f g h)) ((AP a b c f d g h i e j)))
def CR(c:Kn)(g:Vs)(a:SH):Prop:=OJ 4 5 6 7 8 12 15 27 51 g λd h i b j e f k l=>wk l (aC 0 b a λm=>W.idx 2 m d a λn=>W.faddr 0 n λo=>W.store 1 o (.ZO (-1)) a λp=>c [b,e,f] p) ((AQ c a k b d j e f i h))
def AR(l:Kn)(b:SH)(a c d e f g h i:AV):Prop:=W.join (CR l) λj=>wb .eql 3 a (.ZO 7) λk=>wk k (j [c,d,e,f,g,h,i,a,k] b) (wb .eql 3 a (.ZO 11) λm=>j [c,d,e,f,g,h,i,a,m] b)
def CS(c:Kn)(h:Vs)(a:SH):Prop:=OJ 4 5 6 7 8 12 15 27 42 h λd i j b e f g k l=>wk l (aC 0 b a λm=>wl e a λn=>W.idx 2 m d a λo=>W.faddr 0 o λp=>W.store 1 p n a λq=>c [b,f,g] q) ((AR c a k d i j b e f g))
def AS(k:Kn)(b:SH)(a c d e f g h:AV):Prop:=W.join (CS k) λi=>wb .eql 3 a (.ZO 6) λj=>wk j (i [c,d,e,f,g,h,(.ZO 0),a,j] b) (wb .eql 3 a (.ZO 10) λl=>i [c,d,e,f,g,h,(.ZO 0),a,l] b)
def ai(Q:R)(b g h a c d i j:AV)(k:SH):Prop:=W.store 4 a j k λe=>W.join (CE Q) λf=>wb .eql 3 b (.ZO 1) λl=>wk l ((CF f e a c d)) (wb .eql 3 b (.ZO 2) λm=>wk m ((CG f e a c d)) ((AS f e b g h i a c d)))
def CT(Q:R)(d e f b c g h i:AV)(a:SH):Prop:=W.un .not i λj=>wk j ((CD Q a b)) (cp 4 c a λk=>wc (.fn 73 []) [k] a (ai Q d e f c g b h))
def jB(g h i b c j:AV)(L:SH)(Q:R):Prop:=W.box g L λk l=>W.box h l λd m=>W.box i m λn o=>W.alloc [.nils,(.ZO 0),.nils,.nils] o λp q=>W.frz1 k q λe r=>W.frz1 n r λf a=>cp 6 e a λs=>cp 4 d a λt=>wl f a λu=>wc (.fn 24 []) [s,t,u,b,c] a (CT Q b c j p d f e)
theorem CU(t0 t1 t2 t3 t4 t5:AV)(L:SH)(Q:R)(h:jB t0 t1 t2 t3 t4 t5 L Q):af Tryz.prog 50 [t0,t1,t2,t3,t4,t5] L Q:=
 fs [(43,[7,12,15]),(11,[4,5,6,7,8,12,15,27,42]),(14,[4,5,6,7,8,12,15,27,51])] [] [(0,[6,8])] [(17,[0,1,0,7,15,31,0,64,255,511]),(19,[0,1,0,0,8,31,63,127]),(21,[0,1,0,0,8,0,56,120,248,0,1016,2047,4095,8191]),(31,[0,1,0,4,0,28,60,124,255,511,1023]),(32,[0,1,0,0,8,0,0,7,135,391,1023,2047,4095]),(34,[0,1,0,4,0,28,60,124,0,511,1023,2047]),(35,[0,1,0,0,8,0,7,71,199,511,1023,2047])] Tryz.func50 h
end
section
inductive dW (o:Option Nat) (n:Nat) (rows:List (List AV)):SH→SH→Prop where
 |here (R:SH):dW o n rows (ae o n rows++R) R
 |last:dW o n rows (ae o n rows) []
 |there (p:Nat×Blk) {L L':SH}:dW o n rows L L'→dW o n rows (p::L) (p::L')
 |skip (o2:Option Nat) (n2:Nat) (rows2:List (List AV)) {L L':SH}:dW o n rows L L'→dW o n rows (ae o2 n2 rows2++L) (ae o2 n2 rows2++L')
theorem dW.some'{b n:Nat}{rows:List (List AV)}{L L':SH}(h:dW (some b) n rows L L'):eP b ⟨n,rows⟩ L L':=by
 induction h with
 |here R=>exact .here R
 |last=>exact .here []
 |there p h ih=>exact .there p ih
 |skip o2 n2 rows2 h ih=>exact ih.app _
theorem dW.none'{n:Nat}{rows:List (List AV)}{L L':SH}(h:dW none n rows L L'):L=L':=by
 induction h with
 |here R=>rfl
 |last=>rfl
 |there p h ih=>rw[ih]
 |skip o2 n2 rows2 h ih=>rw[ih]
theorem dW.perm{o:Option Nat}{n:Nat}{rows:List (List AV)}{L L':SH}(h:dW o n rows L L'):L.Perm (ae o n rows++L'):=by
 cases o with
 |none=>rw[h.none'];exact .refl _
 |some b=>exact h.some'.perm
theorem eP.mem'{b:Nat}{x:Blk}{L L':SH}(h:eP b x L L'):(b,x)∈L:=by
 induction h with
 |here L=>simp
 |there p h ih=>simp[ih]
section
variable {KL:AV→SH→Prop} {L L':SH}
theorem cx{o:Option Nat}{i n by_ bX k:Nat}{rows m:List (List AV)}(hX:(bX,(⟨n,m⟩:Blk))∈L)(hd:dW o n rows L L')(hr:rows.length=i)(h0:o=none→rows=[])(hk:k=m.length)(hm:0<m.length)(h2:2*(i+m.length)*by_≤2^48)(h3:2*(i+m.length)≤2^62)(h4:(m.all λr=>r.all AV.one)=true)
  (h:∀b,b∉L.names→KL (.sl b 0 (i+m.length)) ((b,⟨n,rows++m⟩)::L')):W.append n by_ (ao o i) (.sl bX 0 k) L KL:=by
 subst hk;cases o with
 |none=>have hr0:=h0 rfl;subst hr0;simp only[YC]at hr;subst hr;have hl:=hd.none';subst hl;have:=Ib (KL:=KL) (L:=L) (by_:=by_) (kP hX rfl rfl) (by simpa using h2) (by simpa using h3) h4 (by show m.length≠0;omega) (λb hb=>by simpa using h b hb);exact this
 |some b=>subst hr;exact nJ (y:=⟨n,rows⟩) (l:=rows) hd.some'.mem' rfl ZM ZM (kP hX rfl rfl) h2 h3 h4 hd.some' (λb' hb=>h b' hb)
theorem EB{α:Type}{f:α→List AV}{l:List α}{o:Option Nat}{i n by_:Nat}{rows:List (List AV)}(hd:dW o n rows L L')(hn:∀x,(f x).length=n)(hr:rows.length=i)(h0:o=none→rows=[])(h2:2*(i+l.length)*by_≤2^48)(h3:2*(i+l.length)≤2^62)(h4:∀x,(f x).all AV.one=true)
  (h:∀o',(o'=none→rows++l.map f=[])→KL (ao o' (i+l.length)) (ae o' n (rows++l.map f)++L')):W.append n by_ (ao o i) (.lst (l.map f)) L KL:=by
 have h4':((l.map f).all λr=>r.all AV.one)=true:=by rw[Yo];intro r hr;obtain⟨x,_,rfl⟩:=YH.1 hr;exact h4 x
 cases o with
 |none=>
  have hr0:=h0 rfl;subst hr0;simp only[YC]at hr;subst hr;have hl:=hd.none';subst hl;refine⟨[],l.map f,rfl,xR hn,by simpa using h2,by simpa using h3,h4',λe=>?_,λe b hb=>?_⟩
  ·have hl:l=[]:=by simpa using e
   subst hl;exact h none λ_=>rfl
  ·have:=h (some b) nofun;simpa[ao,ae]using this
 |some b=>subst hr;refine nJ (y:=⟨n,rows⟩) (l:=rows) hd.some'.mem' rfl ZM ZM (xR hn) (by simpa using h2) (by simpa using h3) h4' hd.some' (λb' hb=>?_);have:=h (some b') nofun;simpa[ao,ae]using this
inductive gJ:SH→SH→Prop where
 |nil (L:SH):gJ L []
 |one {b:Nat} {x:Blk} {L L' R:SH}:eP b x L L'→gJ L' R→gJ L ((b,x)::R)
 |slot {o:Option Nat} {n:Nat} {rows:List (List AV)} {L L' R:SH}:dW o n rows L L'→gJ L' R→gJ L (ae o n rows++R)
 |slotl {o:Option Nat} {n:Nat} {rows:List (List AV)} {L L':SH}:dW o n rows L L'→gJ L (ae o n rows)
theorem gJ.perm{L R:SH}(h:gJ L R):∃K,L.Perm (K++R):=by
 induction h with
 |nil L=>exact⟨L,ZM⟩
 |one hd hp ih=>obtain⟨K,hK⟩:=ih;exact⟨K,(hd.perm.trans ((hK.cons _).trans Zs.symm))⟩
 |slot hd hp ih=>obtain⟨K,hK⟩:=ih;refine⟨K,hd.perm.trans ((hK.append_left _).trans ?_)⟩;rw[←YP,←YP];exact YD.append_right _
 |slotl hd=>exact⟨_,hd.perm.trans YD⟩
theorem aG.pick{vs vs2:List AV}{R:SH}(h:gJ L R)(hv:vs=vs2):aG vs L vs2 R:=by subst hv;obtain⟨K,hK⟩:=h.perm;exact aG.forget hK
end
end
section
set_option maxRecDepth 100000
theorem Fr.perm{B:Nat}{L L' L'':SH}{H H':ac}(h:Fr B L H L' H')(hp:L'.Perm L''):Fr B L H L'' H':=
 ⟨h.next,h.bd,h.sub.perm hp,λb x h1 h2=>⟨(h.keep b x h1 h2).1,λhm=>(h.keep b x h1 h2).2 ((hp.map Prod.fst).mem_iff.2 hm)⟩,h.dom,λb hb hlt=>h.fresh b ((hp.map Prod.fst).mem_iff.2 hb) hlt⟩
theorem af.perm{P:Program}{f:FuncId}{args:List AV}{L:SH}{Q:AV→SH→Prop}(h:af P f args L λv L'=>∃L'',L'.Perm L''∧Q v L''):af P f args L Q:=⟨h.1,λH hb hs=>by
 obtain⟨v,H',L',h1,h2,L'',hp,h3⟩:=h.2 H hb hs;exact⟨v,H',L'',h1,h2.perm hp,h3⟩⟩
theorem iV.refl(K:SH):∀l:List AV,iV K l l
 |[]=>.nil
 |a::l=>.cons (.refl a) (iV.refl K l)
theorem aG.row{vs:List AV}{L K R:SH}{b n:Nat}{rows rows':List (List AV)}(hL:L.Perm (K++(b,⟨n,rows⟩)::R))(hlen:rows.length=rows'.length)(hr:∀(j:Nat) (r r':List AV),rows[j]? =some r→rows'[j]? =some r'→iV K r r'):aG vs L vs ((b,⟨n,rows'⟩)::R):=by
 refine⟨K,(b,⟨n,rows⟩)::R,hL,⟨rfl,λi a a2 h1 h2=>by rw[h1]at h2;cases h2;exact .refl _⟩,rfl,λi p q h1 h2=>?_⟩
 match i with
 |0=>cases h1;cases h2;exact⟨rfl,rfl,hlen,λj s s2 g1 g2=>(hr j s s2 g1 g2).at_⟩
 |i+1=>simp only[Zv]at h1 h2;rw[h1]at h2;cases h2;exact⟨rfl,rfl,rfl,λj r r2 h3 h4=>by rw[h3]at h4;cases h4;exact⟨rfl,λk a a2 h5 h6=>by rw[h5]at h6;cases h6;exact .refl _⟩⟩
inductive EC:SH→SH→SH→Prop where
 |nil (L:SH):EC L [] L
 |one {b:Nat} {x:Blk} {L L' R K:SH}:eP b x L L'→EC L' R K→EC L ((b,x)::R) K
 |slot {o:Option Nat} {n:Nat} {rows:List (List AV)} {L L' R K:SH}:dW o n rows L L'→EC L' R K→EC L (ae o n rows++R) K
theorem EC.perm{L R K:SH}(h:EC L R K):L.Perm (K++R):=by
 induction h with
 |nil L=>simp
 |one hd hp ih=>exact(hd.perm.trans ((ih.cons _).trans Zs.symm))
 |slot hd hp ih=>refine hd.perm.trans ((ih.append_left _).trans ?_);rw[←YP,←YP];exact YD.append_right _
theorem aG.pickE{vs vs2:List AV}{L R R2:SH}(h:gJ L R)(hv:vs=vs2)(hR:R=R2):aG vs L vs2 R2:=by subst hR;exact aG.pick h hv
theorem aG.rowA{vs vs2:List AV}{L A R K:SH}{b n:Nat}{rows rows':List (List AV)}(h:EC L (A++(b,⟨n,rows⟩)::R) K)(hlen:rows.length=rows'.length)(hr:∀(j:Nat) (r r':List AV),rows[j]? =some r→rows'[j]? =some r'→iV K r r')(hv:vs=vs2):aG vs L vs2 (A++(b,⟨n,rows'⟩)::R):=by
 subst hv;refine⟨K,_,h.perm,⟨rfl,λi a a2 h1 h2=>by rw[h1]at h2;cases h2;exact .refl _⟩,ZM,λi p q h1 h2=>?_⟩;have same:p=q→p.1=q.1∧p.2.size=q.2.size∧p.2.rows.length=q.2.rows.length∧∀(j:Nat) (r r2:List AV),p.2.rows[j]? =some r→q.2.rows[j]? =some r2→r.length=r2.length∧∀(k:Nat) (a a2:AV),r[k]? =some a→r2[k]? =some a2→Fz K a a2:=λe=>by subst e;exact⟨rfl,rfl,rfl,λj r r2 h3 h4=>by rw[h3]at h4;cases h4;exact⟨rfl,λk a a2 h5 h6=>by rw[h5]at h6;cases h6;exact .refl _⟩⟩
 rcases X9 i A.length with hi|hi
 ·rw[Yp hi]at h1 h2;rw[h1]at h2;cases h2;exact same rfl
 ·rw[Yh hi]at h1 h2;generalize i-A.length=k at h1 h2
  match k with
  |0=>cases h1;cases h2;exact⟨rfl,rfl,hlen,λj r r' g1 g2=>(hr j r r' g1 g2).at_⟩
  |k+1=>simp only[Zv]at h1 h2;rw[h1]at h2;cases h2;exact same rfl
end
section
section
variable {KL:AV→SH→Prop} {L L':SH}
theorem qh{α:Type}{f:α→List AV}{l:List α}{b i n by_:Nat}{rows:List (List AV)}{L L':SH}{KL:AV→SH→Prop}(hd:eP b ⟨n,rows⟩ L L')(hn:∀x,(f x).length=n)(hr:rows.length=i)(h2:2*(i+l.length)*by_≤2^48)(h3:2*(i+l.length)≤2^62)(h4:∀x,(f x).all AV.one=true)
  (h:∀b',b'∉L.names→KL (.sl b' 0 (i+l.length)) ((b',⟨n,rows++l.map f⟩)::L')):W.append n by_ (.sl b 0 i) (.lst (l.map f)) L KL:=by
 have h4':((l.map f).all λr=>r.all AV.one)=true:=by rw[Yo];intro r hr;obtain⟨x,_,rfl⟩:=YH.1 hr;exact h4 x
 subst hr;exact nJ (y:=⟨n,rows⟩) (l:=rows) hd.mem' rfl ZM ZM (xR hn) (by simpa using h2) (by simpa using h3) h4' hd (λb' hb=>by simpa using h b' hb)
end
theorem qi{P:Program}{KL:AV→SH→Prop}{g:FuncId}{args:List AV}{L:SH}{R:AV→SH→Prop}(h:af P g args [] R)(hk:∀v K,R v K→KL v (L++K)):W.callM P g args L KL:=
 ⟨.perm (h.frame (K:=[]) (R:=L) (.refl _) λu K hu=>⟨L++K,YD,hk u K hu⟩)⟩
theorem ED{α β:Type}{f:α→β}{l m:List α}{n:Nat}(h:l.take n=m):((l.map f).drop 0).take n=m.map f:=by rw[List.drop_zero,←List.map_take,h]
end
end Go.Proofs.YtdnpdghlggbklaaGreatDoor.Am
