/- A part of the proof; the statement is proved in the last part. -/
import Derived.Test.YtljkdffikfkcgaaGreatQ2d
import Derived.Test.YtljkdffikfkcgaaGreatRows
import Derived.WalkKit
import Derived.ProofKit
import Derived.OpenShut
import Derived.Handy
import Derived.Outline
import Derived.Lib.Hide
import Derived.Deep.Slices
import Derived.Deep.Fields
import Derived.ChangeSame
import Derived.Carry
import Derived.Deep.Draws
import Derived.Laws.AppendOwn
import Derived.Laws.OwnMore
import Derived.Laws.MakeOwn
import Derived.OwnWalk
import Derived.Shelf.Small.Bits
import Derived.Shelf.Small.Wraps
import Derived.Shelf.Strconv.Itoa0
import Derived.Shelf.Sort.Plain
import Derived.Ground.Names2Prog
import Derived.Shelf.Slices.Clone
import Derived.Shelf.Slices.CompactI
import Derived.Shelf.Slices.SearchI
import Derived.Shelf.Slices.Cells
import Derived.Shelf.Slices.In.SortNone
import Derived.Ground.SlgnProg
import Derived.Shelf.SlicesE.Clone
import Derived.Test.YtljkdffikfkcgaaGreatProg
import Derived.WalkSpells
import Derived.Deep.DeepMust
import Derived.Sort.OwnSortedInts
set_option linter.unusedSimpArgs false
set_option linter.unusedVariables false
section
namespace Go.Proofs.YtljkdffikfkcgaaGreat
open Go.ChangeShapes Go.WideShapes Go.ChangeAt Go.RowKit
abbrev Rel(α:Type):=World→(Nat→Prop)→α→List Value→Prop
def rInt(k:IntKind):Rel Int:=fun _ _ n cs=>cs=[.int k n]∧(Lit.int k n).wf=true
def rBool:Rel Bool:=fun _ _ b cs=>cs=[.bool b]
def rSlice{α:Type}(size:Nat)(R:Rel α):Rel (List α):=fun w F l cs=>
 ∃A c,cs=[.slice A l.length c]∧l.length≤c∧c≤maxLen∧
  (0<l.length→∃b o,A=some ⟨b,o,none⟩∧F b∧
   ∀i x,l[i]? =some x→∃cs',cs'.length=size∧R w F x cs'∧∀j u,cs'[j]? =some u→w.cell? ⟨b,o+i*size+j,none⟩=some u)
def Rel.Stays{α:Type}(R:Rel α):Prop:=∀(w w':World) (F F':Nat→Prop) (x:α) (cs:List Value),
 (∀b,F b→b<w.heap.size→w'.heap[b]? =w.heap[b]?)→(∀b,F b→b<w.heap.size→F' b)→R w F x cs→R w' F' x cs
theorem lt_of_cell{w:World}{b o:Nat}{u:Value}(h:w.cell? ⟨b,o,none⟩=some u):b<w.heap.size:=by
 rcases Nat.lt_or_ge b w.heap.size with hlt | hge
 ·exact hlt
 ·simp[World.cell?,Array.getElem?_eq_none hge]at h
theorem cell_kept{w w':World}{b o:Nat}{u:Value}(hk:b<w.heap.size→w'.heap[b]? =w.heap[b]?)(h:w.cell? ⟨b,o,none⟩=some u):w'.cell? ⟨b,o,none⟩=some u:=
 (World.cell?_of_block (w:=w) (w':=w') (a:=⟨b,o,none⟩) (hk (lt_of_cell h))).trans h
theorem rInt_stays(k:IntKind):(rInt k).Stays:=fun _ _ _ _ _ _ _ _ h=>h
theorem rBool_stays:rBool.Stays:=fun _ _ _ _ _ _ _ _ h=>h
theorem rSlice_stays{α:Type}{size:Nat}{R:Rel α}(hs:0<size)(hR:R.Stays):(rSlice size R).Stays:=by
 intro w w' F F' l cs hk hF ⟨A,c,h1,h2,h3,h4⟩
 refine⟨A,c,h1,h2,h3,fun hn=>?_⟩
 obtain⟨b,o,hA,hFb,hc⟩:=h4 hn
 have hb:b<w.heap.size:=by
  obtain⟨cs',hl,_,hcell⟩:=hc 0 l[0] (List.getElem?_eq_getElem hn)
  exact lt_of_cell (hcell 0 cs'[0] (List.getElem?_eq_getElem (by omega)))
 refine⟨b,o,hA,hF b hFb hb,fun i x hx=>?_⟩
 obtain⟨cs',hl,hr,hcell⟩:=hc i x hx
 exact⟨cs',hl,hR w w' F F' x cs' hk hF hr,fun j u hu=>cell_kept (hk b hFb) (hcell j u hu)⟩
def Sl{α:Type}(size:Nat)(R:Rel α)(w:World)(F:Nat→Prop)(v:Value)(l:List α):Prop:=rSlice size R w F l [v]
section
variable {α:Type} {size:Nat} {R:Rel α} {w w':World} {F F':Nat→Prop} {v:Value} {l:List α}
theorem Sl.form(h:Sl size R w F v l):∃A c,v=.slice A l.length c∧l.length≤c∧c≤maxLen:=by
 obtain⟨A,c,h1,h2,h3,_⟩:=h
 exact⟨A,c,by simpa using h1,h2,h3⟩
theorem Sl.at_{A:Option Addr}{n c:Nat}(h:Sl size R w F (.slice A n c) l){i:Nat}(hi:i<l.length):
  ∃b o cs,A=some ⟨b,o,none⟩∧F b∧cs.length=size∧R w F l[i] cs∧∀j u,cs[j]? =some u→w.cell? ⟨b,o+i*size+j,none⟩=some u:=by
 obtain⟨A',c',h1,h2,h3,h4⟩:=h
 obtain⟨b,o,hA,hF,hc⟩:=h4 (by omega)
 have e:A=A':=by injection h1 with h1;injection h1
 obtain⟨cs',hl,hr,hcell⟩:=hc i l[i] (List.getElem?_eq_getElem hi)
 exact⟨b,o,cs',e.trans hA,hF,hl,hr,hcell⟩
theorem Sl.stays(hs:0<size)(hR:R.Stays)(h:Sl size R w F v l)(hk:∀b,F b→b<w.heap.size→w'.heap[b]? =w.heap[b]?)(hF:∀b,F b→b<w.heap.size→F' b):Sl size R w' F' v l:=
 rSlice_stays hs hR w w' F F' l [v] hk hF h
theorem Sl.below{B:Nat}(hs:0<size)(hR:R.Stays)(h:Sl size R w (·<B) v l)(hb:Below B w w'):Sl size R w' (·<B) v l:=
 h.stays hs hR (fun b hb' _=>hb.block b hb') (fun _ h _=>h)
theorem Sl.nil:Sl size R w F (.slice none 0 0) ([]:List α):=⟨none,0,rfl,by simp,by simp[maxLen],fun h=>absurd h (by simp)⟩
theorem Sl.len{A:Option Addr}{n c:Nat}(h:Sl size R w F (.slice A n c) l):n=l.length∧n≤c∧c≤maxLen:=by
 obtain⟨A',c',h1,h2,h3⟩:=h.form
 injection h1 with e1 e2 e3
 subst e2 e3
 exact⟨rfl,h2,h3⟩
end
section
variable {a w:World} {row:Option Nat}
end
def Blk(w:World)(g:Nat)(t:TypeId)(cs:List Value):Prop:=w.heap[g]? =some (.cells cs.toArray t (0,0))
section
variable {w w':World} {g:Nat} {t:TypeId} {cs:List Value}
theorem Blk.lt(h:Blk w g t cs):g<w.heap.size:=by
 rcases Nat.lt_or_ge g w.heap.size with hlt | hge
 ·exact hlt
 ·unfold Blk at h;rw[Array.getElem?_eq_none hge]at h;cases h
theorem Blk.free(h:Blk w g t cs)(i:Nat):w.frozen? ⟨g,i,none⟩=false:=by
 unfold Blk at h
 simp[World.frozen?,h]
theorem Blk.new(w:World)(t:TypeId)(cs:List Value){g:Nat}(hg:w.heap.size=g):Blk (w.alloc (.cells cs.toArray t)) g t cs:=by
 subst hg
 exact heap_alloc_new w _
theorem Blk.alloc(h:Blk w g t cs)(o:Obj):Blk (w.alloc o) g t cs:=(Below.heap_alloc w o g h.lt).trans h
theorem Blk.below{B:Nat}(h:Blk w g t cs)(hb:Below B w w')(hg:g<B):Blk w' g t cs:=(hb.block g hg).trans h
theorem Blk.keep(h:Blk w g t cs)(hb:Below w.heap.size w w'):Blk w' g t cs:=h.below hb h.lt
theorem Blk.only{g':Nat}(h:Blk w g t cs)(hb:w.grownBy w' (some g'))(hg:g≠g'):Blk w' g t cs:=(hb.block g h.lt (fun e=>hg (by injection e))).trans h
end
section
variable {H:Type} {enc:TypeId×Value→H} {P:Program} {w:World} {base:Nat} {spare:Nat→Bool} {held:Bool}
def Opens(H:Type)(enc:TypeId×Value→H)(P:Program)(w:World)(base:Nat)(spare:Nat→Bool)(held:Bool){α:Type}(t:TypeId)(R:Rel α):Prop:=
 ∀(fuel:Nat) (cs:List Value) (x:DataW H×List MemPlace),DataW.trod enc P w base spare held fuel t cs=some x→∃d,R w (·<w.heap.size) d cs
theorem opens_int{t:TypeId}{k:IntKind}(ht:P.underlying t=some (.int k)):Opens H enc P w base spare held t (rInt k):=fun _ _ _ h=>by
 obtain⟨n,h1,_,h3⟩:=DataW.trod_int ht h
 exact⟨n,h1,h3⟩
theorem opens_slice{α:Type}{t e:TypeId}{size:Nat}{R:Rel α}(ht:P.underlying t=some (.slice e))(hc:P.cellsOf e=size)(hs:0<size)(he:Opens H enc P w base spare held e R):
  Opens H enc P w base spare held t (rSlice size R):=fun fuel cs x h=>by
 rcases Deep.open_slice ht h with⟨rfl,_⟩ | ⟨a,len,cap,m,n,D,Pl,rfl,hb,hl,hm,hmm,hx,hi⟩
 ·exact⟨[],Sl.nil⟩
 rw[hc]at hi
 have hlm:len≤m:=by rw[hmm];split<;>omega
 have hall:∀i,i<len→∃d cs',R w (·<w.heap.size) d cs'∧cs'.length=size∧∀j u,cs'[j]? =some u→w.cell? (a.add (i*size+j))=some u:=by
  intro i hil
  obtain⟨cs',h1,h2⟩:=hi i (by omega)
  obtain⟨d,hd⟩:=he _ _ _ h2
  obtain⟨_,hcl,hat⟩:=World.cells?_some h1
  refine⟨d,cs',hd,hcl,fun j u hu=>?_⟩
  have hj:j<size:=by rw[←hcl];exact(List.getElem?_eq_some_iff.1 hu).1
  rw[←Deep.add_add,hat j hj,hu]
 have:∃l:List α,l.length=len∧∀i x,l[i]? =some x→∃cs',R w (·<w.heap.size) x cs'∧cs'.length=size∧∀j u,cs'[j]? =some u→w.cell? (a.add (i*size+j))=some u:=by
  clear hx hmm hlm hi hl h
  induction len with
  | zero=>exact⟨[],rfl,fun i x h=>by simp at h⟩
  | succ k ih=>
   obtain⟨l,hl,hl2⟩:=ih (fun i hi=>hall i (by omega))
   obtain⟨d,cs',h1,h2⟩:=hall k (by omega)
   refine⟨l++[d],by simp[hl],fun i x hx=>?_⟩
   rcases Nat.lt_or_ge i l.length with h | h
   ·rw[List.getElem?_append_left h]at hx
    exact hl2 i x hx
   ·rw[List.getElem?_append_right h]at hx
    have hi0:i-l.length=0:=by
     rcases Nat.eq_zero_or_pos (i-l.length)with h0 | h0
     ·exact h0
     ·rw[List.getElem?_eq_none (by simp only[List.length_singleton];omega)]at hx
      cases hx
    rw[hi0]at hx
    simp at hx
    subst hx
    obtain rfl:i=k:=by omega
    exact⟨cs',h1,h2⟩
 obtain⟨l,hll,hel⟩:=this
 subst hll
 refine⟨l,some a,cap,rfl,hl,hm,fun hn=>?_⟩
 have hsp:a=⟨a.block,a.off,none⟩:=by
  obtain⟨cs',_,h2,h3⟩:=hel 0 l[0] (List.getElem?_eq_getElem hn)
  have hc0:=h3 0 cs'[0] (List.getElem?_eq_getElem (by omega))
  rw[show 0*size+0=0 from by omega,Addr.add_zero']at hc0
  unfold World.cell? at hc0
  cases hsp:a.spot with
  | none=>cases a;simp_all
  | some s=>split at hc0<;>simp[hsp]at hc0
 have hblk:a.block<w.heap.size:=by
  obtain⟨cs',_,h2,h3⟩:=hel 0 l[0] (List.getElem?_eq_getElem hn)
  have hc0:=h3 0 cs'[0] (List.getElem?_eq_getElem (by omega))
  rw[show 0*size+0=0 from by omega,Addr.add_zero',hsp]at hc0
  exact lt_of_cell hc0
 refine⟨a.block,a.off,by rw[←hsp],hblk,fun i x hx=>?_⟩
 obtain⟨cs',h1,h2,h3⟩:=hel i x hx
 refine⟨cs',h2,h1,fun j u hu=>?_⟩
 have:=h3 j u hu
 rw[hsp,Addr.add_lit]at this
 rw[Nat.add_assoc]
 exact this
end
section
variable {H:Type} {enc:TypeId×Value→H} {P:Program}
theorem trodAll_below(hl:laidOutB P=true){W W':World}(hb:Below W.heap.size W W'){sp:Nat→Bool}:∀(ts:List TypeId) (vs:List Value) (ds:List (DataW H)) (ps:List MemPlace),
  (∀t∈ts,P.readableRec t=true∧t<P.types.size)→DataW.TrodAll enc P W 0 (fun _=>true) true ts vs ds ps→(∀x∈ps,x.block<W.heap.size)→(∀x∈ps,sp x.block=true)→DataW.TrodAll enc P W' 0 sp true ts vs ds ps
 | [],vs,ds,ps,_,h,_,_=>by
  obtain⟨rfl,rfl,rfl⟩:=trodAll_nil h
  exact trodAll_mk0
 | t::ts,vs,ds,ps,hr,h,hlt,hsp=>by
  obtain⟨v,vs',d,ds',p,q,rfl,rfl,rfl,h0,h1⟩:=trodAll_cons h
  refine trodAll_cons_mk ?_ (trodAll_below hl hb ts vs' ds' q (fun t ht=>hr t (List.mem_cons_of_mem _ ht)) h1 (fun x hx=>hlt x (List.mem_append_right _ hx)) (fun x hx=>hsp x (List.mem_append_right _ hx)))
  exact WideElems.Trod_stays hl (hr t List.mem_cons_self).1 (hr t List.mem_cons_self).2 h0 (fun x hx=>hb.same (hlt x (List.mem_append_left _ hx))) (fun x hx=>hsp x (List.mem_append_left _ hx))
theorem law_post{f:Func}{s:ChangeSpec}{apart fresh handsOn again:Bool}{W W':World}{args:Array Value}{ds gs:List (DataW H)}{before:List MemPlace}{tb:TypeId}
  (hl:laidOutB P=true) (hr:∀t∈f.params.toList,P.readableRec t=true∧t<P.types.size) (hvars:s.vars=[]) (hrt:f.resultTypes=#[tb]) (htb:P.underlying tb=some .bool)
  (hW:DataW.Whole enc P f.params.toList s.vars apart W args.toList ds gs before)
  (hsr:(s.fn H (ds++gs)).results=[.lit (.bool true)]) (hsa:(s.fn H (ds++gs)).args=ds) (hsv:(s.fn H (ds++gs)).vars=[]) (hb:Below W.heap.size W W') :
  s.post enc P f apart fresh handsOn again W args (.bool true) W':=by
 have hlt:∀p∈before,p.block<W.heap.size:=fun p hp=>hW.lt p hp
 have hold:∀p∈before,(fun b=>decide (b<W.heap.size)) p.block=true:=fun p hp=>by simpa using hlt p hp
 obtain⟨pa,pv,hA,hV,rfl,hz,hn⟩:=hW
 have hW:DataW.Whole enc P f.params.toList s.vars apart W args.toList ds gs (pa++pv):=⟨pa,pv,hA,hV,rfl,hz,hn⟩
 rw[hvars]at hV
 obtain⟨rfl,rfl⟩:=trodVars_none hV
 have hargs:∀sp:Nat→Bool,(∀p∈pa,sp p.block=true)→DataW.TrodAll enc P W' 0 sp true f.params.toList args.toList (s.fn H (ds++[])).args pa:=fun sp hsp=>by
  rw[hsa]
  exact trodAll_below hl hb _ _ _ _ hr hA (fun x hx=>hlt x (by simpa using hx)) hsp
 have hres:∀(b:Nat) (sp:Nat→Bool) (hd:Bool),DataW.TrodAll enc P W' b sp hd f.resultTypes.toList ((Value.bool true).resultList f.resultTypes.size) (s.fn H (ds++[])).results []:=fun b sp hd=>by
  rw[hsr,hrt]
  exact trodAll_cons_mk (shut_bool htb _) trodAll_mk0
 have hvs:∀sp:Nat→Bool,DataW.TrodVars enc P W' sp s.vars (s.fn H (ds++[])).vars []:=fun sp=>by
  rw[hvars,hsv];rfl
 refine⟨ds,[],pa++[],[],pa,[],hW,hres _ _ _,hargs _ (fun p hp=>hold p (by simpa using hp)),hvs _,World.keptBut_mono (fun p hp=>⟨hp,?_⟩) (hb.frame (·∈pa++[])),fun _=>?_⟩
 ·rw[List.mem_append]at hp
  exact Or.inr hp
 ·refine⟨?_,_,_,([]++pa)++[],⟨[]++pa,[],trodAll_append (hargs _ (fun _ _=>rfl)) (hres _ _ _),hvs _,rfl,?_,?_⟩,?_⟩
  ·intro j t r hj hr'
   rw[hrt]at hj hr'
   match j with
   | 0=>
    simp at hj
    subst hj
    have:r=.bool true:=by simpa[Value.resultList]using hr'.symm
    subst this
    exact okWide_bool_mk htb _
   | j+1=>simp at hj
  ·intro b off hp
   have hin:MemPlace.cell b off∈pa++[]:=by simpa using hp
   rw[hb.frozen (hlt _ hin)]
   exact hz b off hin
  ·intro ha
   have:=hn ha
   simpa using this
  ·intro p hp _
   simpa using hp
end
end Go.Proofs.YtljkdffikfkcgaaGreat
end
section
namespace Go.Proofs.YtljkdffikfkcgaaGreat
open Go.ChangeShapes Go.WideShapes Go.ChangeAt Go.RowKit
structure Elem(P:Program)(t e:TypeId)(z:Value)(size bytes:Nat):Prop where
 ht:P.underlying t=some (.slice e)
 hi:∃i,P.info? e=some i∧i.zero=some z∧i.size=size∧i.bytes=bytes
 hz:z.cells.size=size
 hs:0<size
theorem elem_mk{P:Program}{t e:TypeId}{z:Value}{size bytes:Nat}(ht:P.underlying t=some (.slice e))(hi:(P.info? e).map (fun i=>(i.zero,i.size,i.bytes))=some (some z,size,bytes))
  (hz:z.cells.size=size) (hs:0<size):Elem P t e z size bytes:=
 ⟨ht,by obtain⟨i,h1,h2,h3,h4⟩:=info_parts hi;exact⟨i,h1,h2,h3,h4⟩,hz,hs⟩
def Flat(w:World)(size:Nat)(A:Option Addr)(n:Nat)(xs:List Value):Prop:=
 xs.length=n*size∧(0<n→∃b o,A=some ⟨b,o,none⟩∧∀j u,xs[j]? =some u→w.cell? ⟨b,o+j,none⟩=some u)
theorem run_append_nil_src{P:Program}(w:World)(base:Nat)(t ty e:TypeId)(i:TypeInfo)(size:Nat)(ht:P.underlying t=some (.slice e))(hi:P.info? e=some i)
  (v:Value) (n:Nat) (xs:List Value) (hown:w.ownsRow base e size v n xs) (c:Nat):(Builtin.append_ #[t,t] ty #[v,.slice none 0 c]).run P w=.ok v w:=by
 rcases hown.2 with⟨rfl,rfl⟩ | ⟨g,cap,cur,rfl,_,_,hnc,_⟩
 ·simp[Builtin.append_,run_underlying ht,sizeOf,typeInfo,hi,Builtin.lenOf,Builtin.firstCells]
 ·simp[Builtin.append_,run_underlying ht,sizeOf,typeInfo,hi,Builtin.lenOf,Builtin.firstCells,hnc,storeCells]
section
variable {P:Program} {w:World} {t e:TypeId} {z:Value} {size bytes:Nat}
theorem run_app(E:Elem P t e z size bytes)(ty:TypeId)(base:Nat)(v:Value)(n:Nat)(xs:List Value)(hown:w.ownsRow base e size v n xs)
  (A:Option Addr) (m c:Nat) (news:List Value) (hf:Flat w size A m news) (h1:∀u∈news,u.oneCell'=true)
  (h63:n+m≤maxLen) (hbytes:(n+m)*bytes≤140737488355328) (hbase:base≤w.heap.size) :
  ∃v' w',(Builtin.append_ #[t,t] ty #[v,.slice A m c]).run P w=.ok v' w'∧w'.ownsRow base e size v' (n+m) (xs++news)∧w.grownBy w' v.ownBlock:=by
 obtain⟨i,hi,hz0,hsz,hby⟩:=E.hi
 rcases A with _ | ad
 ·have hm:m=0:=by
   rcases Nat.eq_zero_or_pos m with h0 | h0
   ·exact h0
   ·obtain⟨b,o,h,_⟩:=hf.2 h0
    cases h
  subst hm
  have hn:news=[]:=List.eq_nil_of_length_eq_zero (by simpa using hf.1)
  subst hn
  exact⟨v,w,run_append_nil_src w base t ty e i size E.ht hi v n xs hown c,by simpa using hown,World.grownBy.refl w _⟩
 ·have hcells:∀j u,news[j]? =some u→w.cell? (ad.add j)=some u:=by
   intro j u hu
   rcases Nat.eq_zero_or_pos m with h0 | h0
   ·subst h0
    have hn:news=[]:=List.eq_nil_of_length_eq_zero (by simpa using hf.1)
    subst hn
    simp at hu
   ·obtain⟨b,o,h,hc⟩:=hf.2 h0
    injection h with h
    subst h
    rw[Addr.add_lit]
    exact hc j u hu
  obtain⟨v',w',hrun,h2,h3,_⟩:=run_append_own (P:=P) w base t ty e i z size bytes E.ht hi hz0 hsz hby E.hz E.hs v n xs hown ad m c news hf.1 hcells h1 h63 hbytes hbase
  exact⟨v',w',hrun,h2,h3⟩
theorem wp_app{o:Oper}{a:Act}{K:Act→World→Prop}{Q:Exit→Act→World→Prop}(s x:Operand)
  (ho:o.op=.call {callee:=.builtin .append,args:=#[s,x],argTypes:=#[t,t]}) (E:Elem P t e z size bytes) (base:Nat)
  (v:Value) (n:Nat) (xs:List Value) (hs:a.eval s=v) (hown:w.ownsRow base e size v n xs)
  (A:Option Addr) (m c:Nat) (news:List Value) (hx:a.eval x=.slice A m c) (hf:Flat w size A m news) (h1:∀u∈news,u.oneCell'=true)
  (h63:n+m≤maxLen) (hbytes:(n+m)*bytes≤140737488355328) (hbase:base≤w.heap.size)
  (h:∀v' w',w'.ownsRow base e size v' (n+m) (xs++news)→w.grownBy w' v.ownBlock→K (a.put o.dst v') w'):o.wp P a w K Q:=by
 obtain⟨v',w',hrun,h2,h3⟩:=run_app E o.type base v n xs hown A m c news hf h1 h63 hbytes hbase
 unfold Oper.wp execOp
 simp only[ho,resolve,invoke,builtin,Sem.run_bind,Sem.run_pure,Result.andThen_ok,List.map_toArray,List.map_cons,List.map_nil,hs,hx,hrun]
 exact h v' w' h2 h3
theorem wpList_app{ops:Array Oper}{rest:List Oper}{o:Oper}{a:Act}{Q:Exit→Act→World→Prop}(hgd:o.guard=none)(s x:Operand)
  (ho:o.op=.call {callee:=.builtin .append,args:=#[s,x],argTypes:=#[t,t]}) (E:Elem P t e z size bytes) (base:Nat)
  (v:Value) (n:Nat) (xs:List Value) (hs:a.eval s=v) (hown:w.ownsRow base e size v n xs)
  (A:Option Addr) (m c:Nat) (news:List Value) (hx:a.eval x=.slice A m c) (hf:Flat w size A m news) (h1:∀u∈news,u.oneCell'=true)
  (h63:n+m≤maxLen) (hbytes:(n+m)*bytes≤140737488355328) (hbase:base≤w.heap.size)
  (h:∀v' w',w'.ownsRow base e size v' (n+m) (xs++news)→w.grownBy w' v.ownBlock→wpList P ops Q rest (a.put o.dst v') w'):wpList P ops Q (o::rest) a w:=
 wpList_plain hgd fun _ hK=>wp_app s x ho E base v n xs hs hown A m c news hx hf h1 h63 hbytes hbase fun v' w' h2 h3=>hK _ _ (h v' w' h2 h3)
end
theorem own_from{w:World}{base:Nat}{e:TypeId}{size n:Nat}{v:Value}{xs:List Value}(h:w.ownsRow base e size v n xs):∀k,v.ownBlock=some k→base≤k:=fun k hk=>(h.lt k hk).1
theorem Flat.kept{w w':World}{size n:Nat}{A:Option Addr}{xs:List Value}(h:Flat w size A n xs)(hb:Below w.heap.size w w'):Flat w' size A n xs:=by
 refine⟨h.1,fun hn=>?_⟩
 obtain⟨b,o,hA,hc⟩:=h.2 hn
 exact⟨b,o,hA,fun j u hu=>cell_kept (fun hlt=>hb.block b hlt) (hc j u hu)⟩
theorem Sl.one{α:Type}{size:Nat}{R:Rel α}{w:World}{F:Nat→Prop}{b:Nat}{e:TypeId}{cs:List Value}{x:α}(hb:w.heap.size=b)(hl:cs.length=size)(hF:F b)
  (hR:R (w.alloc (.cells cs.toArray e)) F x cs):Sl size R (w.alloc (.cells cs.toArray e)) F (.slice (some ⟨b,0,none⟩) 1 1) [x]:=by
 subst hb
 refine⟨_,1,rfl,by simp,by simp[maxLen],fun _=>⟨_,0,rfl,hF,fun i y hy=>?_⟩⟩
 match i with
 | 0=>
  simp at hy
  subst hy
  refine⟨cs,hl,hR,fun j u hu=>?_⟩
  rw[cell_of_row _ _ _ cs.toArray e (0,0) (heap_alloc_new w _)]
  simpa using hu
 | i+1=>simp at hy
end Go.Proofs.YtljkdffikfkcgaaGreat
end
section
namespace Go.Proofs.YtljkdffikfkcgaaGreat
open Go.ChangeShapes Go.WideShapes Go.ChangeAt Go.RowKit
abbrev Ints:=Sl (α:=Int) 1 (rInt .i64)
def Fit(l:List Int):Prop:=∀x∈l,(Lit.int .i64 x).wf=true
theorem Ints.fit{A:Option Addr}{n c:Nat}{l:List Int}{w:World}{F:Nat→Prop}(h:Ints w F (.slice A n c) l):Fit l:=by
 intro x hx
 obtain⟨i,hi,rfl⟩:=List.getElem_of_mem hx
 obtain⟨b,o,cs,hA,hb,_,hR,hc⟩:=h.at_ hi
 exact hR.2
end Go.Proofs.YtljkdffikfkcgaaGreat
end
section
namespace Go.Proofs.YtljkdffikfkcgaaGreat
open Go.ChangeShapes Go.WideShapes Go.ChangeAt Go.RowKit
set_option linter.unusedVariables false
structure WD where
 nc:Nat
 rw:List Bool
 mx:List Int
 nf:Nat
 nt:Nat
structure LockD where
 owner:Int
 readers:List Int
structure ThrD where
 status:Int
 cond:Int
 atomic:Bool
structure SyncD where
 locks:List LockD
 tx:Int
 done:List Bool
 threads:List ThrD
def rLk:Rel Bool:=fun _ _ b cs=>∃s,cs=[.string s,.bool b]
def rCd:Rel Int:=fun _ _ m cs=>∃s,cs=[.string s,.int .i64 m]∧(Lit.int .i64 m).wf=true
def rLock:Rel LockD:=fun w F l cs=>∃A n c,cs=[.int .i64 l.owner,.slice A n c]∧(Lit.int .i64 l.owner).wf=true∧Ints w F (.slice A n c) l.readers
def rThr:Rel ThrD:=fun _ _ t cs=>cs=[.int .i64 t.status,.int .i64 t.cond,.bool t.atomic]∧(Lit.int .i64 t.status).wf=true∧(Lit.int .i64 t.cond).wf=true
theorem rLk_stays:rLk.Stays:=fun _ _ _ _ _ _ _ _ h=>h
theorem rCd_stays:rCd.Stays:=fun _ _ _ _ _ _ _ _ h=>h
theorem rThr_stays:rThr.Stays:=fun _ _ _ _ _ _ _ _ h=>h
theorem rLock_stays:rLock.Stays:=fun w w' F F' l cs hk hF ⟨A,n,c,h1,h2,h3⟩=>⟨A,n,c,h1,h2,h3.stays (by decide) (rInt_stays _) hk hF⟩
structure WV where
 cA:Option Addr
 nc:Nat
 cc:Nat
 lA:Option Addr
 nl:Nat
 lc:Nat
 dA:Option Addr
 nd:Nat
 dc:Nat
 fA:Option Addr
 nf:Nat
 fc:Nat
 tA:Option Addr
 nt:Nat
 tc:Nat
 sA:Option Addr
 ns:Nat
 sc:Nat
structure WOk(w:World)(F:Nat→Prop)(v:WV)(d:WD):Prop where
 nc:v.nc=d.nc∧v.nc≤maxLen
 nf:v.nf=d.nf∧v.nf≤maxLen
 nt:v.nt=d.nt∧v.nt≤maxLen
 locks:Sl 2 rLk w F (.slice v.lA v.nl v.lc) d.rw
 conds:Sl 2 rCd w F (.slice v.dA v.nd v.dc) d.mx
structure SV where
 kA:Option Addr
 nk:Nat
 kc:Nat
 tx:Int
 eA:Option Addr
 ne:Nat
 ec:Nat
 hA:Option Addr
 nh:Nat
 hc:Nat
structure SOk(w:World)(F:Nat→Prop)(v:SV)(d:SyncD):Prop where
 locks:Sl 2 rLock w F (.slice v.kA v.nk v.kc) d.locks
 done:Sl 1 rBool w F (.slice v.eA v.ne v.ec) d.done
 threads:Sl 3 rThr w F (.slice v.hA v.nh v.hc) d.threads
 tx:v.tx=d.tx
 wf:(Lit.int .i64 d.tx).wf=true
abbrev WV.val(v:WV):Value:=.agg #[.slice v.cA v.nc v.cc,.slice v.lA v.nl v.lc,.slice v.dA v.nd v.dc,.slice v.fA v.nf v.fc,.slice v.tA v.nt v.tc,.slice v.sA v.ns v.sc]
abbrev SV.val(v:SV):Value:=.agg #[.slice v.kA v.nk v.kc,.int .i64 v.tx,.slice v.eA v.ne v.ec,.slice v.hA v.nh v.hc]
theorem WOk.stays{w w':World}{F F':Nat→Prop}{v:WV}{d:WD}(h:WOk w F v d)(hk:∀b,F b→b<w.heap.size→w'.heap[b]? =w.heap[b]?)(hF:∀b,F b→b<w.heap.size→F' b):WOk w' F' v d:=
 ⟨h.nc,h.nf,h.nt,h.locks.stays (by decide) rLk_stays hk hF,h.conds.stays (by decide) rCd_stays hk hF⟩
theorem SOk.stays{w w':World}{F F':Nat→Prop}{v:SV}{d:SyncD}(h:SOk w F v d)(hk:∀b,F b→b<w.heap.size→w'.heap[b]? =w.heap[b]?)(hF:∀b,F b→b<w.heap.size→F' b):SOk w' F' v d:=
 ⟨h.locks.stays (by decide) rLock_stays hk hF,h.done.stays (by decide) rBool_stays hk hF,h.threads.stays (by decide) rThr_stays hk hF,h.tx,h.wf⟩
def inB(i:Int)(n:Nat):Bool:=decide (0≤i)&&decide (i<n)
end Go.Proofs.YtljkdffikfkcgaaGreat
end
section
namespace Go.Proofs.YtljkdffikfkcgaaGreat.Am
open Go.RowKit
set_option linter.unusedVariables false
theorem iQ{w w':World}{σ:bz}{T:Nat→Prop}(h:Below w.heap.size w w')(hfr:∀c,σ.fr c→c<w.heap.size):ew w σ T w' σ T:=
 ⟨h.os,h.tape,h.output,h.size,fun c hc _=>h.block c hc,fun c cs e hc=>⟨cs,by rw[h.block c (Array.getElem?_eq_some_iff.1 hc).1];exact hc,rfl⟩,fun _ _ h=>h,rfl,fun c hc=>h.block c (hfr c hc),fun _ h=>.inl h⟩
theorem sO{w w':World}{σ:bz}{H:ah}(hW:bn w σ H)(h:Below w.heap.size w w'):bn w' σ H:=
 ⟨hW.named,fun b pl hb=>Nat.lt_of_lt_of_le (hW.lt b pl hb) h.size,fun b x hb=>by
  obtain⟨pl,cs,e,h1,h2⟩:=hW.live b x hb
  exact⟨pl,cs,e,h1,h2.mono (iQ h fun c hc=>(hW.apart c hc).1) (h.block _ (hW.lt b pl h1))⟩,fun c hc=>⟨Nat.lt_of_lt_of_le (hW.apart c hc).1 h.size,(hW.apart c hc).2⟩,hW.inj⟩
theorem Dr{w w':World}{σ:bz}{H:ah}{b g:Nat}(hW:bn w σ H)(hbl:Below w.heap.size w w')(hb:σ b=none)(hlt:b<H.next)(hg:w.heap.size≤g){x:Blk}{cs:Array Value}{e:TypeId}(hgb:w'.heap[g]? =some (.cells cs e (0,0)))
  (even:∀(i:Nat) (r:List AV),x.rows[i]? =some r→r.length=x.size) (room:x.rows.length*x.size≤cs.size)
  (rep:∀(i:Nat) (r:List AV) (j:Nat) (a:AV) (u:Value),x.rows[i]? =some r→r[j]? =some a→cs[i*x.size+j]? =some u→bq w σ (aS σ H) a u) :
  bn w' (σ.set b ⟨g,0,x.size⟩) (H.new b x)∧ew w σ (aS σ H) w' (σ.set b ⟨g,0,x.size⟩) (aS (σ.set b ⟨g,0,x.size⟩) (H.new b x)):=by
 have hnone:H.get b=none:=by
  cases hg:H.get b with
  | none=>rfl
  | some y=>obtain⟨pl,_,_,h1,_⟩:=hW.live b y hg;rw[hb]at h1;cases h1
 have hgl:g<w'.heap.size:=(Array.getElem?_eq_some_iff.1 hgb).1
 have ext:ew w σ (aS σ H) w' (σ.set b ⟨g,0,x.size⟩) (aS (σ.set b ⟨g,0,x.size⟩) (H.new b x)):=by
  refine⟨hbl.os,hbl.tape,hbl.output,hbl.size,fun c hc _=>hbl.block c hc,fun c cs' e' hc=>⟨cs',by rw[hbl.block c (Array.getElem?_eq_some_iff.1 hc).1];exact hc,rfl⟩,fun c q hq=>bz.set_old hb hq,rfl,fun c hc=>hbl.block c (hW.apart c hc).1,?_⟩
  rintro c (hfr | ⟨b',y,pl,h1,h2,h3⟩)
  ·exact .inl (.inl hfr)
  rw[ah.get_new]at h1
  by_cases hbb:b=b'
  ·subst hbb
   rw[bz.set_eq]at h2
   cases h2
   exact .inr (by simp only[]at h3;omega)
  ·rw[if_neg hbb]at h1
   rw[bz.set_ne _ _ hbb]at h2
   exact .inl (.inr ⟨b',y,pl,h1,h2,h3⟩)
 refine⟨⟨?_,?_,?_,?_,?_⟩,ext⟩
 ·intro c pl hc
  by_cases hbc:b=c
  ·subst hbc;exact hlt
  ·rw[bz.set_ne _ _ hbc]at hc;exact hW.named c pl hc
 ·intro c pl hc
  by_cases hbc:b=c
  ·subst hbc;rw[bz.set_eq]at hc;cases hc;exact hgl
  ·rw[bz.set_ne _ _ hbc]at hc;exact Nat.lt_of_lt_of_le (hW.lt c pl hc) hbl.size
 ·intro c y hy
  rw[ah.get_new]at hy
  by_cases hbc:b=c
  ·subst hbc
   rw[if_pos rfl]at hy
   cases hy
   exact⟨_,cs,e,bz.set_eq _ _ _,⟨rfl,hgb,even,by simpa using room,fun i r j a u h1 h2 h3=>(rep i r j a u h1 h2 (by simpa using h3)).mono ext⟩⟩
  ·rw[if_neg hbc]at hy
   obtain⟨pl,cs',e',h1,h2⟩:=hW.live c y hy
   exact⟨pl,cs',e',by rw[bz.set_ne _ _ hbc];exact h1,h2.mono ext (hbl.block _ (hW.lt c pl h1))⟩
 ·intro c hc
  refine⟨Nat.lt_of_lt_of_le (hW.apart c hc).1 hbl.size,?_⟩
  rintro⟨b',y,pl,h1,h2,h3⟩
  rw[ah.get_new]at h1
  by_cases hbb:b=b'
  ·subst hbb
   rw[bz.set_eq]at h2
   cases h2
   have:=(hW.apart c hc).1
   simp only[]at h3;omega
  ·rw[if_neg hbb]at h1
   rw[bz.set_ne _ _ hbb]at h2
   exact(hW.apart c hc).2 ⟨b',y,pl,h1,h2,h3⟩
 ·intro c c' y y' pl pl' h1 h2 h3 h4 h5
  rw[ah.get_new]at h1 h2
  by_cases hbc:b=c
  ·by_cases hbc':b=c'
   ·exact hbc.symm.trans hbc'
   ·subst hbc
    rw[bz.set_eq]at h3;cases h3
    rw[bz.set_ne _ _ hbc']at h4
    have:=hW.lt c' pl' h4
    simp only[]at h5;omega
  ·by_cases hbc':b=c'
   ·subst hbc'
    rw[bz.set_eq]at h4;cases h4
    rw[bz.set_ne _ _ hbc]at h3
    have:=hW.lt c pl h3
    simp only[]at h5;omega
   ·rw[if_neg hbc]at h1
    rw[if_neg hbc']at h2
    rw[bz.set_ne _ _ hbc]at h3
    rw[bz.set_ne _ _ hbc']at h4
    exact hW.inj c c' y y' pl pl' h1 h2 h3 h4 h5
theorem CV{w:World}{σ:bz}{T:Nat→Prop}{a:AV}{vs:List Value}(h:du w σ T [a] vs):∃v,vs=[v]∧bq w σ T a v:=by
 match vs,h with
 | [v],h=>exact⟨v,rfl,h.2 0 a v rfl rfl⟩
 | [],h=>exact absurd h.1 (by simp)
 | _::_::_,h=>exact absurd h.1 (by simp)
section
variable {P:Program} {f:FuncId} {e:TypeId} {size bytes:Nat}
def zH(P:Program)(f:FuncId)(e:TypeId)(size bytes:Nat):Prop:=∀(A:Option Addr) (n c:Nat) (xs:List Value) (w:World),Go.Proofs.YtljkdffikfkcgaaGreat.Flat w size A n xs→(∀x∈xs,x.oneCell'=true)→n*bytes≤140737488355328→(A=none→n=0)→
 Calls P f #[.slice A n c] w fun e' w'=>∃v,e'=.returned v∧w'.ownsRow w.heap.size e size v n xs∧Below w.heap.size w w'
theorem wq(hcl:zH P f e size bytes)(hbody:∃fn c,P.funcs[f]? =some fn∧fn.body=some c)(rows:List (List AV))(hne:rows≠[])(hone:(rows.all fun r=>r.all AV.one)=true)(hev:∀r∈rows,r.length=size)(hbig:rows.length*bytes≤140737488355328):
  aj P f [.lst rows] [] fun v L=>∃b,v=.sl b 0 rows.length∧L=[(b,⟨size,rows⟩)]:=by
 have hsz:∀(i:Nat) (r:List AV),rows[i]? =some r→r.length=size:=fun i r hr=>hev r (List.mem_of_getElem? hr)
 refine⟨hbody,fun H hb hs=>⟨.sl H.next 0 rows.length,({H with next:=H.next+1}:ah).new H.next ⟨size,rows⟩,[(H.next,⟨size,rows⟩)],?_,?_,H.next,rfl,rfl⟩⟩
 ·intro w σ vs hW hvs
  obtain⟨v,rfl,hv⟩:=CV hvs
  obtain⟨A,cap,rfl,hn,hm,ha⟩:=hv.lst_inv
  obtain⟨b,o,sz,rfl,hl,hrep⟩:=ha hne
  have hl0:0<rows.length:=List.length_pos_iff.2 hne
  obtain rfl:size=sz:=by
   rw[←hl.even 0 rows[0] (List.getElem?_eq_getElem hl0)]
   exact(hsz 0 rows[0] (List.getElem?_eq_getElem hl0)).symm
  have hdm:∀p,p<rows.length*size→p / size<rows.length∧p % size<size∧p=p / size*size+p % size:=fun p hp=>
   ⟨(Nat.div_lt_iff_lt_mul hl.pos).2 hp,Nat.mod_lt _ hl.pos,by rw[Nat.mul_comm];exact(Nat.div_add_mod _ _).symm⟩
  let xs:List Value:=(List.range (rows.length*size)).map fun p=>(w.cell? ⟨b,o+p,none⟩).getD undef
  have hxl:xs.length=rows.length*size:=by simp[xs]
  have hcell:∀p u,xs[p]? =some u→w.cell? ⟨b,o+p,none⟩=some u:=fun p u hu=>by
   have hp:p<rows.length*size:=by rw[←hxl];exact ax hu
   simp only[xs,List.getElem?_map,List.getElem?_range hp,Option.map_some,Option.some.injEq]at hu
   obtain⟨d1,d2,d3⟩:=hdm p hp
   obtain⟨q,hq⟩:=hl.cell (p / size) (p % size) d1 d2
   rw[Nat.add_assoc,←d3]at hq
   rw[hq]at hu ⊢
   simp only[Option.getD_some]at hu
   rw[hu]
  have hrp:∀(i:Nat) (r:List AV) (j:Nat) (a:AV) (u:Value),rows[i]? =some r→r[j]? =some a→xs[i*size+j]? =some u→bq w σ (aS σ H) a u:=fun i r j a u h1 h2 h3=>hrep i r j a u h1 h2 (by rw[Nat.add_assoc];exact hcell _ u h3)
  have hone':∀x∈xs,x.oneCell'=true:=fun x hx=>by
   obtain⟨p,hp,rfl⟩:=List.getElem_of_mem hx
   have hp':p<rows.length*size:=by omega
   obtain⟨d1,d2,d3⟩:=hdm p hp'
   have hr:rows[p / size]? =some rows[p / size]:=List.getElem?_eq_getElem d1
   have hj:p % size<rows[p / size].length:=by rw[hsz _ _ hr];exact d2
   have h1:=hrp (p / size) _ (p % size) _ xs[p] hr (List.getElem?_eq_getElem hj) (by rw[←d3];exact List.getElem?_eq_getElem hp)
   exact h1.one (List.all_eq_true.1 (List.all_eq_true.1 hone _ (List.getElem_mem d1)) _ (List.getElem_mem hj))
  refine(hcl (some ⟨b,o,none⟩) rows.length cap xs w ⟨hxl,fun _=>⟨b,o,rfl,hcell⟩⟩ hone' hbig (fun h=>by cases h)).mono ?_
  rintro e' w' ⟨v',rfl,hown,hbl⟩
  rcases hown.2 with⟨_,h0⟩ | ⟨g,cap',cur,rfl,hg,hgb,hnc,hcm,hcs,ht⟩
  ·omega
  have hσ:σ H.next=none:=by
   cases hq:σ H.next with
   | none=>rfl
   | some pl=>exact absurd (hW.named _ pl hq) (Nat.lt_irrefl _)
  have hW1:bn w σ {H with next:=H.next+1}:=hW.congr (fun _=>rfl) (Nat.le_succ _)
  have hOwn:aS σ ({H with next:=H.next+1}:ah)=aS σ H:=aS.congr fun _=>rfl
  have hle:rows.length*size≤cur.size:=by rw[hcs];exact Nat.mul_le_mul_right _ hnc
  obtain⟨g1,g2⟩:=Dr (b:=H.next) (g:=g) (x:=⟨size,rows⟩) hW1 hbl hσ (Nat.lt_succ_self _) hg hgb hsz hle (fun i r j a u h1 h2 h3=>by
   rw[hOwn]
   refine hrp i r j a u h1 h2 ?_
   have hj:j<size:=by rw[←hsz i r h1];exact ax h2
   rw[←ht,List.getElem?_take_of_lt (kh (ax h1) hj),Array.getElem?_toList]
   exact h3)
  refine⟨_,_,rfl,?_,g1,by rw[hOwn]at g2;exact g2,fun c pl hc=>?_⟩
  ·refine bq.sl H.next 0 rows.length ⟨g,0,size⟩ ⟨g,0,none⟩ cap' (bz.set_eq _ _ _) hnc hcm fun _=>⟨by simp,cur,e,hgb,by simp;omega⟩
  ·by_cases hbc:H.next=c
   ·subst hbc;exact .inr (Nat.le_refl _)
   ·rw[bz.set_ne _ _ hbc]at hc;exact .inl hc
 ·refine⟨Nat.le_succ _,fun c hc=>?_,⟨by simp,fun p hp=>?_⟩,fun c x hc _=>⟨?_,?_⟩,fun c hc h0=>?_,fun c hc hlt=>?_⟩
  ·have hc:H.next+1≤c:=hc
   rw[ah.get_new,if_neg (by omega)];exact hb c (by omega)
  ·simp only[List.mem_singleton]at hp;subst hp;rw[ah.get_new,if_pos rfl]
  ·rw[ah.get_new,if_neg];exact hc
   rintro rfl;rw[hb _ (Nat.le_refl _)]at hc;cases hc
  ·simp only[List.map_cons,List.map_nil,List.mem_singleton];rintro rfl;rw[hb _ (Nat.le_refl _)]at hc;cases hc
  ·rw[ah.get_new,if_neg (by omega)];exact h0
  ·simp only[List.map_cons,List.map_nil,List.mem_singleton]at hc;omega
theorem B6(hcl:zH P f e size bytes)(hbody:∃fn c,P.funcs[f]? =some fn∧fn.body=some c):aj P f [.lst []] [] fun v L=>v=.lst []∧L=[]:=by
 refine⟨hbody,fun H hb hs=>⟨.lst [],H,[],?_,.refl hb hs,rfl,rfl⟩⟩
 intro w σ vs hW hvs
 obtain⟨v,rfl,hv⟩:=CV hvs
 obtain⟨A,cap,rfl,hn,hm,_⟩:=hv.lst_inv
 refine(hcl A 0 cap [] w ⟨by simp,by omega⟩ (by simp) (by omega) (fun _=>rfl)).mono ?_
 rintro e' w' ⟨v',rfl,hown,hbl⟩
 refine⟨v',σ,rfl,?_,sO hW hbl,iQ hbl fun c hc=>(hW.apart c hc).1,fun c pl hc=>.inl hc⟩
 rcases hown.2 with⟨rfl,_⟩ | ⟨g,cap',cur,rfl,hg,hgb,hnc,hcm,hcs,ht⟩
 ·exact .lst0 _ _ (by unfold maxLen;omega)
 ·exact .lst0 _ _ hcm
theorem B7(hcl:∀(A:Option Addr) (c:Nat) (w:World),Calls P f #[.slice A 0 c] w fun e' w'=>∃B,e'=.returned (.slice B 0 0)∧Below w.heap.size w w')(hbody:∃fn c,P.funcs[f]? =some fn∧fn.body=some c):aj P f [.lst []] [] fun v L=>v=.emp∧L=[]:=by
 refine⟨hbody,fun H hb hs=>⟨.emp,H,[],?_,.refl hb hs,rfl,rfl⟩⟩
 intro w σ vs hW hvs
 obtain⟨v,rfl,hv⟩:=CV hvs
 obtain⟨A,cap,rfl,hn,hm,_⟩:=hv.lst_inv
 refine(hcl A cap w).mono ?_
 rintro e' w' ⟨B,rfl,hbl⟩
 exact⟨_,σ,rfl,.emp B,sO hW hbl,iQ hbl fun c hc=>(hW.apart c hc).1,fun c pl hc=>.inl hc⟩
end
end Go.Proofs.YtljkdffikfkcgaaGreat.Am
end
section
namespace Go.Proofs.YtljkdffikfkcgaaGreat.Am
open Go.RowKit
set_option linter.unusedVariables false
def cR:Option Nat→Nat→AV
 | none,_=>.lst []
 | some b,n=>.sl b 0 n
theorem Ds{P:Program}{f:FuncId}{e:TypeId}{size bytes:Nat}(hcl:zH P f e size bytes)(hbody:∃fn c,P.funcs[f]? =some fn∧fn.body=some c)(rows:List (List AV))(hone:(rows.all fun r=>r.all AV.one)=true)(hev:∀r∈rows,r.length=size)(hbig:rows.length*bytes≤140737488355328):
  aj P f [.lst rows] [] fun v L=>∃o,v=cR o rows.length∧L=am o size rows∧(o=none→rows=[]):=by
 rcases List.eq_nil_or_concat rows with rfl | ⟨ys,y,hxs⟩
 ·exact(B6 hcl hbody).mono fun v L ⟨h1,h2⟩=>⟨none,h1,h2,fun _=>rfl⟩
 ·refine(wq hcl hbody rows (by rw[hxs];simp) hone hev hbig).mono ?_
  rintro v L ⟨b,rfl,rfl⟩
  exact⟨some b,rfl,rfl,fun h=>by cases h⟩
end Go.Proofs.YtljkdffikfkcgaaGreat.Am
end
section
namespace Go.Proofs
open Go.Shelf
def Tryz.lays189_ren:Go.Shelf.Ren:=⟨fun | 189=>47 | 125=>69 | 257=>68 | 128=>89 | 129=>90 | 294=>80 | 295=>81 | 296=>82 | 297=>83 | 298=>84 | 299=>85 | 216=>86 | 300=>87 | 301=>88 | 328=>98 | 329=>99 | 330=>100 | 331=>101 | 332=>102 | 215=>103 | 343=>105 | n=>n,fun | 28=>57 | 3=>3 | 46=>138 | 0=>0 | 51=>157 | 53=>159 | 4=>4 | 183=>149 | 182=>148 | 131=>154 | 5=>5 | 9=>9 | 218=>165 | 222=>169 | 228=>171 | 229=>163 | n=>n,fun | n=>n⟩
theorem Tryz.lays189:Go.Proofs.Lays.n189 Tryz.prog Tryz.lays189_ren:={
 mixed:=by kernel_rfl
 f125:=Tryz.func69.trans (congrArg some (by kernel_rfl))
 f128:=Tryz.func89.trans (congrArg some (by kernel_rfl))
 f129:=Tryz.func90.trans (congrArg some (by kernel_rfl))
 f189:=Tryz.func47.trans (congrArg some (by kernel_rfl))
 f215:=Tryz.func103.trans (congrArg some (by kernel_rfl))
 f216:=Tryz.func86.trans (congrArg some (by kernel_rfl))
 f257:=Tryz.func68.trans (congrArg some (by kernel_rfl))
 f294:=Tryz.func80.trans (congrArg some (by kernel_rfl))
 f295:=Tryz.func81.trans (congrArg some (by kernel_rfl))
 f296:=Tryz.func82.trans (congrArg some (by kernel_rfl))
 f297:=Tryz.func83.trans (congrArg some (by kernel_rfl))
 f298:=Tryz.func84.trans (congrArg some (by kernel_rfl))
 f299:=Tryz.func85.trans (congrArg some (by kernel_rfl))
 f300:=Tryz.func87.trans (congrArg some (by kernel_rfl))
 f301:=Tryz.func88.trans (congrArg some (by kernel_rfl))
 f328:=Tryz.func98.trans (congrArg some (by kernel_rfl))
 f329:=Tryz.func99.trans (congrArg some (by kernel_rfl))
 f330:=Tryz.func100.trans (congrArg some (by kernel_rfl))
 f331:=Tryz.func101.trans (congrArg some (by kernel_rfl))
 f332:=Tryz.func102.trans (congrArg some (by kernel_rfl))
 f343:=Tryz.func105.trans (congrArg some (by kernel_rfl))
 t0:=Tryz.underlying0
 a0:=Tryz.isAgg0
 z0:=Tryz.sizeOf0
 v0:=Tryz.zeroValue0
 t3:=Tryz.underlying3
 a3:=Tryz.isAgg3
 z3:=Tryz.sizeOf3
 v3:=Tryz.zeroValue3
 t4:=Tryz.underlying4
 a4:=Tryz.isAgg4
 z4:=Tryz.sizeOf4
 v4:=Tryz.zeroValue4
 t5:=Tryz.underlying5
 a5:=Tryz.isAgg5
 z5:=Tryz.sizeOf5
 v5:=Tryz.zeroValue5
 t9:=Tryz.underlying9
 a9:=Tryz.isAgg9
 z9:=Tryz.sizeOf9
 v9:=Tryz.zeroValue9
 t28:=Tryz.underlying57
 a28:=Tryz.isAgg57
 z28:=Tryz.sizeOf57
 v28:=Tryz.zeroValue57
 t46:=Tryz.underlying138
 a46:=Tryz.isAgg138
 z46:=Tryz.sizeOf138
 v46:=Tryz.zeroValue138
 t51:=Tryz.underlying157
 a51:=Tryz.isAgg157
 z51:=Tryz.sizeOf157
 v51:=Tryz.zeroValue157
 t53:=Tryz.underlying159
 a53:=Tryz.isAgg159
 z53:=Tryz.sizeOf159
 v53:=Tryz.zeroValue159
 t131:=Tryz.underlying154
 a131:=Tryz.isAgg154
 z131:=Tryz.sizeOf154
 v131:=Tryz.zeroValue154
 t182:=Tryz.underlying148
 a182:=Tryz.isAgg148
 z182:=Tryz.sizeOf148
 v182:=Tryz.zeroValue148
 t183:=Tryz.underlying149
 a183:=Tryz.isAgg149
 z183:=Tryz.sizeOf149
 v183:=Tryz.zeroValue149
 t218:=Tryz.underlying165
 a218:=Tryz.isAgg165
 z218:=Tryz.sizeOf165
 v218:=Tryz.zeroValue165
 t222:=Tryz.underlying169
 a222:=Tryz.isAgg169
 z222:=Tryz.sizeOf169
 v222:=Tryz.zeroValue169
 t228:=Tryz.underlying171
 a228:=Tryz.isAgg171
 z228:=Tryz.sizeOf171
 v228:=Tryz.zeroValue171
 t229:=Tryz.underlying163
 a229:=Tryz.isAgg163
 z229:=Tryz.sizeOf163
 v229:=Tryz.zeroValue163}
open Go.Sort Go.RowKit in
theorem Tryz.slices_Sort_int(blk off cap:Nat)(zs:List Int)(w:World)(hH:Holds (Value.int .i64) w blk off zs.toArray)(hblk:blk<w.heap.size)(hsz:zs.length<4611686018427387904):
  Calls Tryz.prog 47 #[.slice (some ⟨blk,off,none⟩) zs.length cap] w fun e w'=>
   e=.returned (.tuple #[])∧∃n os,w'=grow (putRow (Value.int .i64) (Sort.ahead w n) blk off (zs.mergeSort fun x y=>decide (x≤y)).toArray) os:=Any.slices_Sort_int Tryz.lays189 blk off cap zs w hH hblk hsz
def Tryz.laysNm220_ren:Go.Shelf.Ren:=⟨fun | 20=>48 | n=>n,fun | 22=>57 | 3=>3 | 4=>4 | 0=>0 | n=>n,fun | n=>n⟩
theorem Tryz.laysNm220:Go.Proofs.Lays2.n20 Tryz.prog Tryz.laysNm220_ren:={
 mixed:=by kernel_rfl
 f20:=Tryz.func48.trans (congrArg some (by kernel_rfl))
 t0:=Tryz.underlying0
 a0:=Tryz.isAgg0
 z0:=Tryz.sizeOf0
 v0:=Tryz.zeroValue0
 t3:=Tryz.underlying3
 a3:=Tryz.isAgg3
 z3:=Tryz.sizeOf3
 v3:=Tryz.zeroValue3
 t4:=Tryz.underlying4
 a4:=Tryz.isAgg4
 z4:=Tryz.sizeOf4
 v4:=Tryz.zeroValue4
 t22:=Tryz.underlying57
 a22:=Tryz.isAgg57
 z22:=Tryz.sizeOf57
 v22:=Tryz.zeroValue57
 i3:=by kernel_rfl}
open Go.RowKit Go.Lib Go.Sort in
theorem Tryz.slices_Compact_int(blk off cap:Nat)(zs:List Int)(w:World)(hH:Holds (Value.int .i64) w blk off zs.toArray)(hsz:zs.length≤9223372036854775807)(hcap:zs.length≤cap):
  Calls Tryz.prog 48 #[.slice (some ⟨blk,off,none⟩) zs.length cap] w fun e w'=>e=.returned (.slice (some ⟨blk,off,none⟩) (Lib.compact zs).length cap)∧∃q,w'=putRow (Value.int .i64) (Sort.ahead w q) blk off (Lib.compact zs++List.replicate (zs.length-(Lib.compact zs).length) 0).toArray:=Any.slices_Compact_int Tryz.laysNm220 blk off cap zs w hH hsz hcap
open Go.RowKit Go.Lib Go.Sort in
theorem Tryz.slices_Compact_int_empty(a:Option Addr)(cap:Nat)(w:World):
  Calls Tryz.prog 48 #[.slice a 0 cap] w fun e w'=>e=.returned (.slice a 0 cap)∧w'=w:=Any.slices_Compact_int_empty Tryz.laysNm220 a cap w
open Go.RowKit Go.Sort in
theorem Tryz.slices_Sort_int_none(p:Option Addr)(cap:Nat)(w:World):
  Calls Tryz.prog 47 #[.slice p 0 cap] w fun e w'=>e=.returned (.tuple #[])∧w'=w:=Any.slices_Sort_int_none Tryz.lays189 p cap w
end Go.Proofs
end
section
namespace Go.Proofs.YtljkdffikfkcgaaGreat
open Go.ChangeShapes Go.WideShapes Go.ChangeAt Go.RowKit
set_option linter.unusedVariables false
theorem elemI:Elem Tryz.prog 57 3 (.int .i64 0) 1 8:=elem_mk Tryz.underlying57 (by kernel_rfl) rfl (by decide)
set_option maxHeartbeats 1000000 in
set_option maxRecDepth 100000 in
theorem cloneI_any(A:Option Addr)(n c:Nat)(xs:List Value)(w:World)(hf:Flat w 1 A n xs)(h1:∀x∈xs,x.oneCell'=true)(hn:n*8≤140737488355328)(hA:A=none→n=0):
  Calls Tryz.prog 28 #[.slice A n c] w fun e w'=>∃v,e=.returned v∧w'.ownsRow w.heap.size 3 1 v n xs∧Below w.heap.size w w':=by
 have HF:=Lib.hid hf
 have H1:=Lib.hid h1
 clear hf h1
 have heq:=fun(W:World) (a:Option Addr) (l c:Nat)=>Lib.run_eql_slice_nil (P:=Tryz.prog) W 57 3 a l c 0 0 Tryz.underlying57
 cases A with
 | none=>
  obtain rfl:n=0:=hA rfl
  have hx:xs=[]:=List.eq_nil_of_length_eq_zero (by have:=HF.out.1;simpa using this)
  have Hx:=Lib.hid hx
  clear hx HF H1
  go_enter Tryz.func28,Tryz.ntmps28
  go_wp2_with fail
  go_ret
  exact⟨_,rfl,by rw[Hx.out];exact World.ownsRow_nil _ _ _ _,Below.refl _ _⟩
 | some a=>
  clear hA
  have M0:Hid ((w.alloc (.cells #[] 3)).ownsRow w.heap.size 3 1 (.slice (some ⟨w.heap.size,0,none⟩) 0 0) 0 []):=Lib.hid (World.ownsRow_made w #[] 0 (Nat.le_refl _) (by simp[maxLen]) (by simp))
  go_enter Tryz.func28,Tryz.ntmps28
  go_wp2_with (at_builtin;go_must (refine wpList_app rfl (.tmp 5) (.tmp 6) rfl elemI w.heap.size _ 0 [] rfl M0.out (some a) n c xs rfl (HF.out.kept ((Below.refl _ _).alloc (Nat.le_refl _) _)) H1.out (by simp only[maxLen];omega) (by omega) (by simp) ?_);intro v1 w1 hown1 hg1)
  have hb1:=((Below.refl w.heap.size w).alloc (Nat.le_refl _) _).grown hg1 (by simp) (own_from M0.out)
  go_wp2_with fail
  go_ret
  exact⟨_,rfl,by simpa using hown1,hb1⟩
end Go.Proofs.YtljkdffikfkcgaaGreat
end
section
namespace Go.Proofs.YtljkdffikfkcgaaGreat
open Go.ChangeShapes Go.WideShapes Go.ChangeAt Go.RowKit
set_option linter.unusedVariables false
set_option maxRecDepth 100000
theorem append_zero(t ty e:TypeId)(P:Program)(w:World)(ht:P.underlying t=some (.slice e))(hi:∃i,P.info? e=some i)(A B:Option Addr)(c:Nat):(Builtin.append_ #[t,t] ty #[.slice A 0 0,.slice B 0 c]).run P w=.ok (.slice A 0 0) w:=by
 obtain⟨i,hi⟩:=hi
 cases A<;>cases B<;>simp[Builtin.append_,run_underlying ht,sizeOf,typeInfo,hi,Builtin.lenOf,Builtin.firstCells,loadCells,loadCellsFrom,storeCells]
theorem cloneI_zero(A:Option Addr)(c:Nat)(w:World):Calls Tryz.prog 28 #[.slice A 0 c] w fun e w'=>∃B,e=.returned (.slice B 0 0)∧Below w.heap.size w w':=by
 have heq:=fun(W:World) (a:Option Addr) (l c:Nat)=>Lib.run_eql_slice_nil (P:=Tryz.prog) W 57 3 a l c 0 0 Tryz.underlying57
 cases A with
 | none=>
  go_enter Tryz.func28,Tryz.ntmps28
  go_wp2_with fail
  go_ret
  exact⟨_,rfl,Below.refl _ _⟩
 | some a=>
  have hinf:∃i,Tryz.prog.info? 3=some i:=Option.isSome_iff_exists.1 (show(Tryz.prog.info? 3).isSome=true by kernel_rfl)
  have happ:=fun(W:World) (ty:TypeId) (A B:Option Addr)=>append_zero 57 ty 3 Tryz.prog W Tryz.underlying57 hinf A B c
  go_enter Tryz.func28,Tryz.ntmps28
  go_wp2_with fail
  go_ret
  exact⟨_,rfl,(Below.refl _ _).alloc (Nat.le_refl _) _⟩
end Go.Proofs.YtljkdffikfkcgaaGreat
end
section
namespace Go.Proofs.YtljkdffikfkcgaaGreat.Am
open Go.RowKit Go.Sort
set_option linter.unusedVariables false
def xP(l:List Int):List Int:=l.mergeSort fun x y=>decide (x≤y)
theorem zI(l:List Int):(xP l).length=l.length:=by simp[xP]
theorem A4{xs:List Int}{i:Nat}{r:List AV}(h:(xs.map az)[i]? =some r):∃x,xs[i]? =some x∧r=[.int .i64 x]:=by
 rw[List.getElem?_map]at h
 cases hx:xs[i]? with
 | none=>rw[hx]at h;cases h
 | some x=>rw[hx]at h;cases h;exact⟨x,rfl,rfl⟩
theorem A5{P:Program}{f:FuncId}(hbody:∃fn c,P.funcs[f]? =some fn∧fn.body=some c)(b:Nat)(xs ys:List Int)(hlen:ys.length=xs.length)(v:AV)(ret:Addr→Nat→Value)
  (hrep:∀(w':World) (σ:bz) (T:Nat→Prop) (pl:fo) (a:Addr) (cap:Nat),σ b=some pl→xs.length≤cap→cap≤maxLen→(0<cap→a=⟨pl.block,pl.base+0*pl.size,none⟩∧∃cs e,w'.heap[pl.block]? =some (.cells cs e (0,0))∧pl.base+(0+cap)*pl.size≤cs.size)→bq w' σ T v (ret a cap))
  (hpos:∀(blk off cap:Nat) (w:World),Holds (Value.int .i64) w blk off xs.toArray→blk<w.heap.size→xs.length≤cap→Calls P f #[.slice (some ⟨blk,off,none⟩) xs.length cap] w fun e w'=>e=.returned (ret ⟨blk,off,none⟩ cap)∧∃n os,w'=grow (putRow (Value.int .i64) (Sort.ahead w n) blk off ys.toArray) os)
  (hzero:xs.length=0→∀(a:Addr) (cap:Nat) (w:World),Calls P f #[.slice (some a) 0 cap] w fun e w'=>e=.returned (ret a cap)∧w'=w) :
  aj P f [.sl b 0 xs.length] [(b,⟨1,xs.map az⟩)] fun u L=>u=v∧L=[(b,⟨1,ys.map az⟩)]:=by
 refine⟨hbody,fun H hb hs=>⟨v,H.put b (some ⟨1,ys.map az⟩),[(b,⟨1,ys.map az⟩)],?_,?_,rfl,rfl⟩⟩
 ·intro w σ vs hW hvs
  obtain⟨v,rfl,hv⟩:=CV hvs
  obtain⟨pl,a,cap,rfl,hsg,hnc,hmx,ha⟩:=hv.sl_inv
  have hg:H.get b=some ⟨1,xs.map az⟩:=hs.get (b,⟨1,xs.map az⟩) (by simp)
  obtain⟨pl',cs,e,g1,g2⟩:=hW.live b _ hg
  rw[hsg]at g1
  cases g1
  have hsz:pl.size=1:=g2.size
  rcases Nat.eq_zero_or_pos xs.length with h0 | h0
  ·have hx:xs=[]:=List.length_eq_zero_iff.1 h0
   have hy:ys=[]:=List.length_eq_zero_iff.1 (by omega)
   have hz:=hzero h0 a cap w
   rw[h0]
   refine hz.mono ?_
   rintro e' w' ⟨rfl,rfl⟩
   have hput:=hW.put hg hsg (iH.refl g2.block) (x':=⟨1,ys.map az⟩) g2.size.symm (by simp[hy]) (by simpa[hy,hx]using g2.room) (by simp[hy])
   exact⟨_,σ,rfl,hrep _ _ _ pl a cap hsg hnc hmx ha,hput.1,hput.2,fun c pl hc=>.inl hc⟩
  ·have ha':=ha
   obtain⟨rfl,cs',te,hcs',hroom⟩:=ha (by omega)
   rw[g2.block]at hcs'
   cases hcs'
   have hr:=g2.room
   simp only[List.length_map,Nat.mul_one]at hr
   have hcell:∀(i:Nat) (x:Int),xs[i]? =some x→cs[pl.base+i]? =some (.int .i64 x):=fun i x hx=>by
    have hi:=ax hx
    have hi':pl.base+i<cs.size:=by omega
    have:=g2.rep i [.int .i64 x] 0 (.int .i64 x) cs[pl.base+i] (by simp[hx,az]) rfl (by simp[Array.getElem?_eq_getElem hi'])
    cases hq:cs[pl.base+i]with
    | _=>rw[hq]at this;cases this<;>rw[Array.getElem?_eq_getElem hi',hq]
   have hH:Holds (Value.int .i64) w pl.block (pl.base+0*pl.size) xs.toArray:=fun j hj=>by
    have hj':j<xs.length:=by simpa using hj
    refine⟨?_,by simp[World.frozen?,g2.block]⟩
    have:=hcell j xs[j] (List.getElem?_eq_getElem hj')
    simp[World.cell?,g2.block,this,hj']
   refine(hpos pl.block (pl.base+0*pl.size) cap w hH (hW.lt b pl hsg) hnc).mono ?_
   rintro e' w' ⟨rfl,n,os,rfl⟩
   have hz:pl.base+0*pl.size=pl.base:=by omega
   rw[show putRow (Value.int .i64) (Sort.ahead w n) pl.block (pl.base+0*pl.size) ys.toArray=putRow (Value.int .i64) (Sort.ahead w n) pl.block pl.base ys.toArray by rw[hz]]
   have hw:iH w (putRow (Value.int .i64) (Sort.ahead w n) pl.block pl.base ys.toArray) pl.block cs (putCells (Value.int .i64) pl.base ys.toArray cs) e:=
    ⟨rfl,rfl,rfl,by simp[Sort.ahead],g2.block,by simp[putRow,mapBlock,Sort.ahead,Array.getElem?_modify,g2.block,onCells],by simp[putCells],fun d hd=>by
     have:pl.block≠d:=fun e=>hd e.symm
     simp[putRow,mapBlock,Sort.ahead,Array.getElem?_modify,this]⟩
   obtain⟨p1,p2⟩:=hW.put hg hsg hw (x':=⟨1,ys.map az⟩) g2.size.symm (fun i r hr=>by obtain⟨x,_,rfl⟩:=A4 hr;rfl) (by simp only[List.length_map,Nat.mul_one];omega) (fun i r j a u hr hj hu=>by
    obtain⟨x,hx,rfl⟩:=A4 hr
    match j,hj with
    | 0,hj=>
     cases hj
     have hi:=ax hx
     have hi':pl.base+i<cs.size:=by omega
     simp only[Nat.mul_one,Nat.add_zero]at hu
     have:(putCells (Value.int .i64) pl.base ys.toArray cs)[pl.base+i]? =some (.int .i64 x):=by
      have hx':ys[i]=x:=by rw[List.getElem?_eq_getElem hi]at hx;exact Option.some.inj hx
      simp[putCells,hi',hi,hx']
     rw[this]at hu
     cases hu
     exact .int _ _
    | j+1,hj=>simp at hj)
   generalize hw1:putRow (Value.int .i64) (Sort.ahead w n) pl.block pl.base ys.toArray=w1 at p1 p2
   have hbl:Below w1.heap.size w1 (grow w1 os):=⟨rfl,rfl,rfl,by simp[grow],fun k hk=>heap_grow_old _ _ hk⟩
   have hE:=p2.trans (iQ hbl fun c hc=>(p1.apart c hc).1)
   exact⟨_,σ,rfl,hrep _ _ _ pl _ cap hsg hnc hmx (fun h=>⟨rfl,by obtain⟨cs2,k1,k2⟩:=hE.shape _ _ _ g2.block;exact⟨cs2,_,k1,by omega⟩⟩),sO p1 hbl,p2.trans (iQ hbl fun c hc=>(p1.apart c hc).1),fun c pl hc=>.inl hc⟩
 ·have hg:H.get b=some ⟨1,xs.map az⟩:=hs.get (b,⟨1,xs.map az⟩) (by simp)
  refine⟨Nat.le_refl _,fun c hc=>?_,⟨by simp,fun p hp=>?_⟩,fun c x hc hn=>⟨?_,?_⟩,fun c hc h0=>?_,fun c hc hlt=>?_⟩
  ·rw[ah.get_put,if_neg];exact hb c hc
   rintro rfl;rw[hb _ hc]at hg;cases hg
  ·simp only[List.mem_singleton]at hp;subst hp;rw[ah.get_put,if_pos rfl]
  ·rw[ah.get_put,if_neg];exact hc
   rintro rfl;exact hn (by simp)
  ·simpa using hn
  ·rw[ah.get_put,if_neg];exact h0
   rintro rfl;rw[hg]at h0;cases h0
  ·simpa using hc
theorem GB(b:Nat)(xs:List Int)(hl:xs.length<4611686018427387904):aj Tryz.prog 47 [.sl b 0 xs.length] [(b,⟨1,xs.map az⟩)] fun v L=>v=.tup []∧L=[(b,⟨1,(xP xs).map az⟩)]:=
 A5 ⟨_,_,Tryz.func47,rfl⟩ b xs (xP xs) (zI xs) (.tup []) (fun _ _=>.tuple #[]) (fun _ _ _ _ _ _ _ _ _ _=>.tup [] [] rfl (by simp))
  (fun blk off cap w hH hblk _=>Tryz.slices_Sort_int blk off cap xs w hH hblk hl) (fun _ a cap w=>Tryz.slices_Sort_int_none (some a) cap w)
theorem tY(l:List Int):(Lib.compact l).length≤l.length:=by
 unfold Lib.compact Lib.compactUpTo
 rw[List.length_map]
 exact Nat.le_trans (List.length_filter_le _ _) (by simp)
theorem B8(b:Nat)(xs:List Int)(hl:xs.length≤9223372036854775807):aj Tryz.prog 48 [.sl b 0 xs.length] [(b,⟨1,xs.map az⟩)] fun v L=>v=.sl b 0 (Lib.compact xs).length∧L=[(b,⟨1,(Lib.compact xs++List.replicate (xs.length-(Lib.compact xs).length) 0).map az⟩)]:=
 A5 ⟨_,_,Tryz.func48,rfl⟩ b xs _ (by have:=tY xs;simp;omega) (.sl b 0 (Lib.compact xs).length) (fun a cap=>.slice (some a) (Lib.compact xs).length cap)
  (fun w' σ T pl a cap h1 h2 h3 h4=>.sl b 0 _ pl a cap h1 (Nat.le_trans (tY xs) h2) h3 h4)
  (fun blk off cap w hH hblk hcap=>(Tryz.slices_Compact_int blk off cap xs w hH hl hcap).mono fun e w' ⟨h1,q,h2⟩=>⟨h1,q,#[],by rw[h2,grow_empty]⟩)
  (fun h0 a cap w=>by
   have hx:xs=[]:=List.length_eq_zero_iff.1 h0
   subst hx
   exact Tryz.slices_Compact_int_empty (some a) cap w)
theorem Dt(xs:List Int)(hl:xs.length*8≤140737488355328):aj Tryz.prog 28 [.lst (xs.map az)] [] fun v L=>∃o,v=aq o xs.length∧L=am o 1 (xs.map az)∧(o=none→xs=[]):=by
 rcases List.eq_nil_or_concat xs with rfl | ⟨ys,y,hxs⟩
 ·exact(B7 cloneI_zero ⟨_,_,Tryz.func28,rfl⟩).mono fun v L ⟨h1,h2⟩=>⟨none,h1,h2,fun _=>rfl⟩
 ·have hne:xs.map az≠[]:=by rw[hxs];simp
  refine(wq (fun A n c xs w hf h1 hn hA=>cloneI_any A n c xs w hf h1 hn hA) ⟨_,_,Tryz.func28,rfl⟩ (xs.map az) hne (by simp[az,AV.one]) (fun r hr=>by obtain⟨x,_,rfl⟩:=List.mem_map.1 hr;rfl) (by simpa using hl)).mono ?_
  rintro v L ⟨b,rfl,rfl⟩
  exact⟨some b,by simp[aq],rfl,fun h=>by cases h⟩
end Go.Proofs.YtljkdffikfkcgaaGreat.Am
end
section
namespace Go.Proofs.YtljkdffikfkcgaaGreat.Am
set_option linter.unusedVariables false
theorem fC(d:Array Int)(hs:∀i j,i<j→j<d.size→d[i]!≤d[j]!):∀m,m≤d.size→
  (Lib.compactUpTo d m).Pairwise (·<·)∧(∀x∈Lib.compactUpTo d m,∃j,j<m∧x=d[j]!)∧(∀j,j<m→d[j]!∈Lib.compactUpTo d m)
 | 0,_=>⟨by simp[Lib.compactUpTo],by simp[Lib.compactUpTo],by intro j hj;omega⟩
 | m+1,hm=>by
  obtain⟨h1,h2,h3⟩:=fC d hs m (by omega)
  rw[Lib.compactUpTo_succ]
  by_cases hk:Lib.keeps d m=true
  ·rw[if_pos hk]
   refine⟨?_,?_,?_⟩
   ·rw[List.pairwise_append]
    refine⟨h1,by simp,?_⟩
    intro x hx y hy
    obtain⟨j,hj,rfl⟩:=h2 x hx
    simp at hy
    subst hy
    have hle:=hs j m hj (by omega)
    have hne:d[j]!≠d[m]! :=by
     intro he
     have hm0:0<m:=by omega
     have h4:d[m]!≠d[m-1]! :=by
      intro h5
      rw[Lib.keeps_neg hm0 h5]at hk
      cases hk
     have h5:d[j]!≤d[m-1]! :=by
      rcases Nat.lt_or_ge j (m-1)with h | h
      ·exact hs j (m-1) h (by omega)
      ·rw[show j=m-1 from by omega]
       exact Int.le_refl _
     have h6:d[m-1]!≤d[m]! :=hs (m-1) m (by omega) (by omega)
     exact h4 (by omega)
    omega
   ·intro x hx
    rw[List.mem_append]at hx
    rcases hx with hx | hx
    ·obtain⟨j,hj,e⟩:=h2 x hx
     exact⟨j,by omega,e⟩
    ·simp at hx
     exact⟨m,by omega,hx⟩
   ·intro j hj
    rw[List.mem_append]
    rcases Nat.lt_or_ge j m with h | h
    ·exact .inl (h3 j h)
    ·rw[show j=m from by omega]
     exact .inr (by simp)
  ·rw[if_neg hk,List.append_nil]
   have hm0:0<m:=by
    rcases Nat.eq_zero_or_pos m with h | h
    ·subst h
     exact absurd (Lib.keeps_lt_one d 0 (by omega)) hk
    ·exact h
   have he:d[m]! =d[m-1]! :=by
    apply Classical.byContradiction
    intro h
    exact hk (Lib.keeps_pos h)
   refine⟨h1,fun x hx=>?_,fun j hj=>?_⟩
   ·obtain⟨j,hj,e⟩:=h2 x hx
    exact⟨j,by omega,e⟩
   ·rcases Nat.lt_or_ge j m with h | h
    ·exact h3 j h
    ·rw[show j=m from by omega,he]
     exact h3 (m-1) (by omega)
theorem GC(l:List Int)(j:Nat)(hj:j<l.length):l.toArray[j]! =l[j]:=by
 rw[getElem!_pos _ _ (by simpa using hj)]
 simp
theorem wu(l:List Int):∀i j,i<j→j<(xP l).toArray.size→(xP l).toArray[i]!≤(xP l).toArray[j]! :=by
 intro i j hij hj
 have hj':j<(xP l).length:=by simpa using hj
 rw[GC _ i (by omega),GC _ j hj']
 have hp:(xP l).Pairwise (fun x y=>(decide (x≤y))=true):=List.pairwise_mergeSort (fun a b c=>by simp;omega) (fun a b=>by simp;omega) l
 have:=(List.pairwise_iff_getElem.1 hp) i j (by omega) hj' hij
 simpa using this
def xX(l:List Int):List Int:=Lib.compact (xP l)
theorem zJ(l:List Int)(x:Int):x∈xX l↔x∈l:=by
 obtain⟨h1,h2,h3⟩:=fC (xP l).toArray (wu _) (xP l).length (by simp)
 have hm:∀y,y∈xP l↔y∈l:=fun y=>by simp[xP,List.mem_mergeSort]
 unfold xX Lib.compact
 constructor
 ·intro hx
  obtain⟨j,hj,rfl⟩:=h2 x hx
  rw[GC _ j hj]
  exact(hm _).1 (List.getElem_mem _)
 ·intro hx
  obtain⟨j,hj,rfl⟩:=List.getElem_of_mem ((hm x).2 hx)
  rw[←GC _ j hj]
  exact h3 j hj
theorem CW(l:List Int):(xX l).Pairwise (·<·):=
 (fC (xP l).toArray (wu _) (xP l).length (by simp)).1
theorem GD{a b:List Int}(ha:a.Pairwise (·<·))(hb:b.Pairwise (·<·))(h:∀x,x∈a↔x∈b):a=b:=by
 have na:a.Nodup:=ha.imp fun hlt=>by omega
 have nb:b.Nodup:=hb.imp fun hlt=>by omega
 exact List.Perm.eq_of_pairwise (le:=fun x y:Int=>x<y) (fun x y _ _ h1 h2=>by omega) ha hb ((List.perm_ext_iff_of_nodup na nb).2 h)
end Go.Proofs.YtljkdffikfkcgaaGreat.Am
end
section
namespace Go.Proofs.YtljkdffikfkcgaaGreat.Am
set_option linter.unusedVariables false
inductive da (o:Option Nat) (n:Nat) (rows:List (List AV)):SH→SH→Prop where
 | here (R:SH):da o n rows (am o n rows++R) R
 | last:da o n rows (am o n rows) []
 | there (p:Nat×Blk) {L L':SH}:da o n rows L L'→da o n rows (p::L) (p::L')
 | skip (o2:Option Nat) (n2:Nat) (rows2:List (List AV)) {L L':SH}:da o n rows L L'→da o n rows (am o2 n2 rows2++L) (am o2 n2 rows2++L')
theorem da.some'{b n:Nat}{rows:List (List AV)}{L L':SH}(h:da (some b) n rows L L'):dE b ⟨n,rows⟩ L L':=by
 induction h with
 | here R=>exact .here R
 | last=>exact .here []
 | there p h ih=>exact .there p ih
 | skip o2 n2 rows2 h ih=>exact ih.app _
theorem da.none'{n:Nat}{rows:List (List AV)}{L L':SH}(h:da none n rows L L'):L=L':=by
 induction h with
 | here R=>rfl
 | last=>rfl
 | there p h ih=>rw[ih]
 | skip o2 n2 rows2 h ih=>rw[ih]
theorem da.perm{o:Option Nat}{n:Nat}{rows:List (List AV)}{L L':SH}(h:da o n rows L L'):L.Perm (am o n rows++L'):=by
 cases o with
 | none=>rw[h.none'];exact .refl _
 | some b=>exact h.some'.perm
theorem dE.mem'{b:Nat}{x:Blk}{L L':SH}(h:dE b x L L'):(b,x)∈L:=by
 induction h with
 | here L=>simp
 | there p h ih=>simp[ih]
section
variable {KL:AV→SH→Prop} {L L':SH}
theorem cG{o:Option Nat}{i n by_ bX k:Nat}{rows m:List (List AV)}(hX:(bX,(⟨n,m⟩:Blk))∈L)(hd:da o n rows L L')(hr:rows.length=i)(h0:o=none→rows=[])(hk:k=m.length)(hm:0<m.length)(h2:2*(i+m.length)*by_≤2^48)(h3:2*(i+m.length)≤2^62)(h4:(m.all fun r=>r.all AV.one)=true)
  (h:∀b,b∉L.names→KL (.sl b 0 (i+m.length)) ((b,⟨n,rows++m⟩)::L')):W.append n by_ (aq o i) (.sl bX 0 k) L KL:=by
 subst hk
 cases o with
 | none=>
  have hr0:=h0 rfl
  subst hr0
  simp only[List.length_nil]at hr
  subst hr
  have hl:=hd.none'
  subst hl
  have:=CM (KL:=KL) (L:=L) (by_:=by_) (qv hX rfl rfl) (by simpa using h2) (by simpa using h3) h4 (by show m.length≠0;omega) (fun b hb=>by simpa using h b hb)
  exact this
 | some b=>
  subst hr
  exact lm (y:=⟨n,rows⟩) (l:=rows) hd.some'.mem' rfl (by simp) (by simp) (qv hX rfl rfl) h2 h3 h4 hd.some' (fun b' hb=>h b' hb)
theorem ES{α:Type}{f:α→List AV}{l:List α}{o:Option Nat}{i n by_:Nat}{rows:List (List AV)}(hd:da o n rows L L')(hn:∀x,(f x).length=n)(hr:rows.length=i)(h0:o=none→rows=[])(h2:2*(i+l.length)*by_≤2^48)(h3:2*(i+l.length)≤2^62)(h4:∀x,(f x).all AV.one=true)
  (h:∀o',(o'=none→rows++l.map f=[])→KL (aq o' (i+l.length)) (am o' n (rows++l.map f)++L')):W.append n by_ (aq o i) (.lst (l.map f)) L KL:=by
 have h4':((l.map f).all fun r=>r.all AV.one)=true:=by
  rw[List.all_eq_true]
  intro r hr
  obtain⟨x,_,rfl⟩:=List.mem_map.1 hr
  exact h4 x
 cases o with
 | none=>
  have hr0:=h0 rfl
  subst hr0
  simp only[List.length_nil]at hr
  subst hr
  have hl:=hd.none'
  subst hl
  refine⟨[],l.map f,rfl,vl hn,by simpa using h2,by simpa using h3,h4',fun e=>?_,fun e b hb=>?_⟩
  ·have hl:l=[]:=by simpa using e
   subst hl
   exact h none fun _=>rfl
  ·have:=h (some b) nofun
   simpa[aq,am]using this
 | some b=>
  subst hr
  refine lm (y:=⟨n,rows⟩) (l:=rows) hd.some'.mem' rfl (by simp) (by simp) (vl hn) (by simpa using h2) (by simpa using h3) h4' hd.some' (fun b' hb=>?_)
  have:=h (some b') nofun
  simpa[aq,am]using this
inductive eo:SH→SH→Prop where
 | nil (L:SH):eo L []
 | one {b:Nat} {x:Blk} {L L' R:SH}:dE b x L L'→eo L' R→eo L ((b,x)::R)
 | slot {o:Option Nat} {n:Nat} {rows:List (List AV)} {L L' R:SH}:da o n rows L L'→eo L' R→eo L (am o n rows++R)
 | slotl {o:Option Nat} {n:Nat} {rows:List (List AV)} {L L':SH}:da o n rows L L'→eo L (am o n rows)
theorem eo.perm{L R:SH}(h:eo L R):∃K,L.Perm (K++R):=by
 induction h with
 | nil L=>exact⟨L,by simp⟩
 | one hd hp ih=>
  obtain⟨K,hK⟩:=ih
  exact⟨K,(hd.perm.trans ((hK.cons _).trans List.perm_middle.symm))⟩
 | slot hd hp ih=>
  obtain⟨K,hK⟩:=ih
  refine⟨K,hd.perm.trans ((hK.append_left _).trans ?_)⟩
  rw[←List.append_assoc,←List.append_assoc]
  exact List.perm_append_comm.append_right _
 | slotl hd=>exact⟨_,hd.perm.trans List.perm_append_comm⟩
theorem aN.pick{vs vs2:List AV}{R:SH}(h:eo L R)(hv:vs=vs2):aN vs L vs2 R:=by
 subst hv
 obtain⟨K,hK⟩:=h.perm
 exact aN.forget hK
end
end Go.Proofs.YtljkdffikfkcgaaGreat.Am
end
section
namespace Go.Proofs.YtljkdffikfkcgaaGreat.Am
structure av where
 op:Int
 a:Int
 b:Int
 c:Int
 n:Int
 site:Int
 deriving Inhabited
def av.enc(i:av):List AV:=[.int .i64 i.op,.int .i64 i.a,.int .i64 i.b,.int .i64 i.c,.int .i64 i.n,.int .i64 i.site]
structure sx where
 regs:Int
 ins:List av
def sx.enc(c:sx):List AV:=[.int .i64 c.regs,.lst (c.ins.map av.enc)]
end Go.Proofs.YtljkdffikfkcgaaGreat.Am
end
section
namespace Go.Proofs.YtljkdffikfkcgaaGreat.Am
set_option linter.unusedVariables false
def gl(b:Bool):Int:=if b then 1 else 0
def xY(op a:Int):Int×Bool:=if op=4 then(IntKind.i64.wrap (0-a),true)else if op=5 then(gl (decide (a=0)),true)else(0,false)
def iA(op a b:Int):Int×Bool:=
 if op=6 then(IntKind.i64.wrap (a+b),true)else
 if op=7 then(IntKind.i64.wrap (a-b),true)else
 if op=8 then(IntKind.i64.wrap (a*b),true)else
 if op=9 then(if b=0 then 0 else IntKind.i64.wrap (a.tdiv b),true)else
 if op=10 then(if b=0 then 0 else a.tmod b,true)else
 if op=11 then(gl (decide (a=b)),true)else
 if op=12 then(gl (decide (a≠b)),true)else
 if op=13 then(gl (decide (a<b)),true)else
 if op=14 then(gl (decide (a≤b)),true)else
 if op=15 then(gl (decide (b<a)),true)else
 if op=16 then(gl (decide (b≤a)),true)else
 if op=17 then(gl (decide (a≠0)&&decide (b≠0)),true)else
 if op=18 then(gl (decide (a≠0)||decide (b≠0)),true)else(0,false)
structure bC where
 pc:Int
 regs:List Int
 taint:List (List Int)
 ev:Int
def bD(l:List Int):List AV:=[.lst (l.map az)]
def bC.enc(s:bC):List AV:=[.int .i64 s.pc,.lst (s.regs.map az),.lst (s.taint.map bD),.int .i64 s.ev]
def bC.zero:bC:=⟨0,[],[],0⟩
def bC.has(s:bC)(r:Int):Bool:=inB r s.regs.length
def bC.reg(s:bC)(r:Int):Int:=s.regs.getD r.toNat 0
def bC.tnt(s:bC)(r:Int):List Int:=s.taint.getD r.toNat []
def bC.put(s:bC)(a v:Int)(t:List Int):bC:=⟨IntKind.i64.wrap (s.pc+1),s.regs.set a.toNat v,s.taint.set a.toNat t,s.ev⟩
def ET(n:Int):Int:=if n<1∨100<n then 0 else n
theorem Kj(n a:Int):xY (ET n) a=xY n a:=by
 unfold ET
 split
 ·rename_i h
  unfold xY
  simp only[show¬(0:Int)=4 by omega,show¬(0:Int)=5 by omega,show¬n=4 by omega,show¬n=5 by omega,if_false]
 ·rfl
theorem Iz(n a b:Int):iA (ET n) a b=iA n a b:=by
 unfold ET
 split
 ·rename_i h
  unfold iA
  rw[if_neg (by omega),if_neg (by omega),if_neg (by omega),if_neg (by omega),if_neg (by omega),if_neg (by omega),if_neg (by omega),if_neg (by omega),if_neg (by omega),if_neg (by omega),if_neg (by omega),if_neg (by omega),if_neg (by omega)]
  rw[if_neg (by omega),if_neg (by omega),if_neg (by omega),if_neg (by omega),if_neg (by omega),if_neg (by omega),if_neg (by omega),if_neg (by omega),if_neg (by omega),if_neg (by omega),if_neg (by omega),if_neg (by omega),if_neg (by omega)]
 ·rfl
def aK(i:av)(s:bC):Option bC:=
 if i.op=1 then(if s.has i.a then some (s.put i.a i.n [])else none)else
 if i.op=2 then(if s.has i.a&&s.has i.b then some (s.put i.a (s.reg i.b) (s.tnt i.b))else none)else
 if i.op=3 then(if s.has i.a&&s.has i.b&&(xY i.n (s.reg i.b)).2 then some (s.put i.a (xY i.n (s.reg i.b)).1 (s.tnt i.b))else none)else
 if i.op=4 then(if s.has i.a&&s.has i.b&&s.has i.c&&(iA i.n (s.reg i.b) (s.reg i.c)).2 then some (s.put i.a (iA i.n (s.reg i.b) (s.reg i.c)).1 (xX (s.tnt i.b++s.tnt i.c)))else none)else
 some {s with pc:=i.a}
def cx(ins:List av):Nat→bC→bC×Bool
 | 0,s=>if inB s.pc ins.length then(if(ins.getD s.pc.toNat default).op<1∨5<(ins.getD s.pc.toNat default).op then(s,true)else(bC.zero,false))else(bC.zero,false)
 | k+1,s=>if inB s.pc ins.length then(if(ins.getD s.pc.toNat default).op<1∨5<(ins.getD s.pc.toNat default).op then(s,true)else
   match aK (ins.getD s.pc.toNat default) s with
   | none=>(bC.zero,false)
   | some s2=>cx ins k s2)else(bC.zero,false)
def bL(c:sx)(s:bC):bC×Bool:=
 if(s.regs.length:Int)=c.regs∧(s.taint.length:Int)=c.regs then cx c.ins c.ins.length s else(bC.zero,false)
def zK(p:bC×Bool):AV:=.tup [.agg p.1.enc,.bool p.2]
structure iR(U:List Int)(s:bC):Prop where
 len:s.taint.length=s.regs.length
 small:s.regs.length<2^40
 short:∀l∈s.taint,l.length≤2^30
 sub:∀l∈s.taint,∀x∈l,x∈U
theorem yV:∀{l U:List Int},l.Nodup→(∀x∈l,x∈U)→l.length≤U.length
 | [],U,_,_=>by simp
 | x::l,U,hn,hs=>by
  have hx:x∈U:=hs x (by simp)
  have h1:=List.nodup_cons.1 hn
  have:=yV (l:=l) (U:=U.erase x) h1.2 fun y hy=>(List.mem_erase_of_ne (by rintro rfl;exact h1.1 hy)).2 (hs y (by simp[hy]))
  rw[List.length_erase_of_mem hx]at this
  have:=List.length_pos_of_mem hx
  simp only[List.length_cons]
  omega
theorem yW{U l:List Int}(h:∀x∈l,x∈U):(xX l).length≤U.length:=by
 have hnd:(xX l).Nodup:=(CW l).imp (fun {a b} (h:a<b)=>by omega)
 exact yV hnd fun x hx=>h x ((zJ l x).1 hx)
theorem iR.tnt{U:List Int}{s:bC}(h:iR U s)(r:Int):(s.tnt r).length≤2^30∧∀x∈s.tnt r,x∈U:=by
 unfold bC.tnt
 rw[List.getD_eq_getElem?_getD]
 cases he:s.taint[r.toNat]? with
 | none=>simp
 | some l=>exact⟨h.short l (List.mem_of_getElem? he),h.sub l (List.mem_of_getElem? he)⟩
theorem iR.put{U:List Int}{s:bC}(h:iR U s)(a v:Int){t:List Int}(h1:t.length≤2^30)(h2:∀x∈t,x∈U):iR U (s.put a v t):=by
 refine⟨by simp[bC.put,h.len],by simpa[bC.put]using h.small,fun l hl=>?_,fun l hl=>?_⟩
 ·rcases List.mem_or_eq_of_mem_set hl with g | g
  ·exact h.short l g
  ·rw[g];exact h1
 ·rcases List.mem_or_eq_of_mem_set hl with g | g
  ·exact h.sub l g
  ·rw[g];exact h2
theorem iR.step{U:List Int}(hU:U.length≤2^30){s s2:bC}{i:av}(h:iR U s)(he:aK i s=some s2):iR U s2:=by
 unfold aK at he
 split at he
 ·split at he
  ·cases he;exact h.put _ _ (by simp) (by simp)
  ·cases he
 ·split at he
  ·split at he
   ·cases he;exact h.put _ _ (h.tnt _).1 (h.tnt _).2
   ·cases he
  ·split at he
   ·split at he
    ·cases he;exact h.put _ _ (h.tnt _).1 (h.tnt _).2
    ·cases he
   ·split at he
    ·split at he
     ·cases he
      have hs:∀x∈s.tnt i.b++s.tnt i.c,x∈U:=fun x hx=>by
       rcases List.mem_append.1 hx with g | g
       ·exact(h.tnt _).2 x g
       ·exact(h.tnt _).2 x g
      exact h.put _ _ (Nat.le_trans (yW hs) hU) fun x hx=>hs x ((zJ _ _).1 hx)
     ·cases he
    ·cases he
     exact⟨h.len,h.small,h.short,h.sub⟩
end Go.Proofs.YtljkdffikfkcgaaGreat.Am
end
section
namespace Go.Proofs.YtljkdffikfkcgaaGreat
open Go.ChangeShapes Go.WideShapes Go.ChangeAt Go.RowKit
set_option linter.unusedVariables false
theorem elemJ:Elem Tryz.prog 23 2 (.int .i64 0) 1 8:=elem_mk Tryz.underlying23 (by kernel_rfl) rfl (by decide)
set_option maxHeartbeats 1000000 in
set_option maxRecDepth 100000 in
theorem cloneJ_any(A:Option Addr)(n c:Nat)(xs:List Value)(w:World)(hf:Flat w 1 A n xs)(h1:∀x∈xs,x.oneCell'=true)(hn:n*8≤140737488355328)(hA:A=none→n=0):
  Calls Tryz.prog 27 #[.slice A n c] w fun e w'=>∃v,e=.returned v∧w'.ownsRow w.heap.size 2 1 v n xs∧Below w.heap.size w w':=by
 have HF:=Lib.hid hf
 have H1:=Lib.hid h1
 clear hf h1
 have heq:=fun(W:World) (a:Option Addr) (l c:Nat)=>Lib.run_eql_slice_nil (P:=Tryz.prog) W 23 2 a l c 0 0 Tryz.underlying23
 cases A with
 | none=>
  obtain rfl:n=0:=hA rfl
  have hx:xs=[]:=List.eq_nil_of_length_eq_zero (by have:=HF.out.1;simpa using this)
  have Hx:=Lib.hid hx
  clear hx HF H1
  go_enter Tryz.func27,Tryz.ntmps27
  go_wp2_with fail
  go_ret
  exact⟨_,rfl,by rw[Hx.out];exact World.ownsRow_nil _ _ _ _,Below.refl _ _⟩
 | some a=>
  clear hA
  have M0:Hid ((w.alloc (.cells #[] 2)).ownsRow w.heap.size 2 1 (.slice (some ⟨w.heap.size,0,none⟩) 0 0) 0 []):=Lib.hid (World.ownsRow_made w #[] 0 (Nat.le_refl _) (by simp[maxLen]) (by simp))
  go_enter Tryz.func27,Tryz.ntmps27
  go_wp2_with (at_builtin;go_must (refine wpList_app rfl (.tmp 5) (.tmp 6) rfl elemJ w.heap.size _ 0 [] rfl M0.out (some a) n c xs rfl (HF.out.kept ((Below.refl _ _).alloc (Nat.le_refl _) _)) H1.out (by simp only[maxLen];omega) (by omega) (by simp) ?_);intro v1 w1 hown1 hg1)
  have hb1:=((Below.refl w.heap.size w).alloc (Nat.le_refl _) _).grown hg1 (by simp) (own_from M0.out)
  go_wp2_with fail
  go_ret
  exact⟨_,rfl,by simpa using hown1,hb1⟩
end Go.Proofs.YtljkdffikfkcgaaGreat
end
section
namespace Go.Proofs.YtljkdffikfkcgaaGreat.Am
set_option linter.unusedVariables false
theorem Kk{o:Nat}{x:AV}{L:SH}{K:AV→Prop}(h:bf o x L K):bf o x L K:=h
theorem IA{o:Nat}{x:AV}{L:SH}{K:AV→Prop}(h:dh o x L K):dh o x L K:=h
theorem K6{x:AV}{L:SH}{K:AV→Prop}(h:wl x L K):wl x L K:=h
theorem Kl{n:Nat}{x i:AV}{L:SH}{K:AV→Prop}(h:BL n x i L K):BL n x i L K:=h
theorem Km{n:Nat}{x i:AV}{L:SH}{K:AV→Prop}(h:uh n x i L K):uh n x i L K:=h
theorem IB{n o:Nat}{x i:AV}{L:SH}{K:AV→Prop}(h:gW n o x i L K):gW n o x i L K:=h
theorem K7{us:List W.WR}{i:Nat}{x:AV}{L:SH}{K:AV→Fp→Prop}(h:dl us i x L K):dl us i x L K:=h
theorem Ko{o:Nat}{x:AV}{us:List W.WR}{i:Nat}{L:SH}{K:AV→Fp→Prop}(h:aY o x us i L K):aY o x us i L K:=h
theorem K8{us:List W.WR}{i n:Nat}{x:AV}{L:SH}{K:AV→Fp→Prop}(h:dr us i n x L K):dr us i n x L K:=h
theorem K9{us:List W.WR}{i n:Nat}{x ix:AV}{L:SH}{K:AV→Fp→Prop}(h:di us i n x ix L K):di us i n x ix L K:=h
theorem st{P Q:Prop}(k:Q)(h:Q→P:=by
 intro k
 first
 | (refine Kk ?_;first | exact HE k | exact HG k | exact EO k)
 | (refine dy ?_;first | exact Hq k | exact Hk k | exact Hr k | exact Hp k | exact Hm k | exact Hl k | exact cj k | exact Eo k | exact gj k | exact Ep k | exact Hs k | exact Hu k | exact Hv k | exact b_eqB k | exact HH k | exact Hy k | exact Hz k)
 | (refine J8 ?_;first | exact AW k | exact AX k)
 | (refine J9 ?_;first | exact zE k | exact zF k | exact zx k)
 | (refine K6 ?_;first | exact Gy k | exact Ke k | exact Ih k)
 | (refine HC ?_;first | exact zE k | exact zF k | exact zx k)
 | (refine If ?_;first | exact EH k | exact EI k)
 | (refine IA ?_;first | exact wnfl_q k | exact Ij k | exact EP k)
 | (refine J3 ?_;first | exact Gp k | exact Gn k | exact CL k | exact a_len_n k | exact CN k)
 | (refine IB ?_;first | exact Ik k | exact EQ k)
 | (refine Km ?_;first | exact Kg k | exact HB k)
 | (refine Kl ?_;first | exact Kf k | exact HA k)
 | (refine Gs ?_;first | exact sK k | exact sJ k)
 | (refine EN ?_;first | exact vm k | exact b_row_i k | exact CU k | exact A0 k | exact A3 k)
 | (refine Ko ?_;first | exact Ki k | exact HD k)
 | (refine K7 ?_;first | exact Kh k | exact Ka k)
 | (refine K8 ?_;first | exact K4 k | exact Kb k)
 | (refine K9 ?_;first | exact K5 k | exact Ii k)
 | (refine Hw ?_;first | exact zE k | exact zF k | exact zx k)
 | (refine ED ?_;first | exact EJ k | exact EK k | exact Ei k)
 | (refine h_load1 ?_;first | exact AT k | exact b_load_i k | exact AU k)
 | (refine J2 ?_;first | exact qw k | exact Gu k | exact b_idx_i k | exact cY k | exact Gv k)
 | (refine J1 ?_;first | exact vm k | exact b_row_i k | exact CU k | exact A0 k | exact A3 k)
 | (refine J4 ?_;exact J6 k)
 | (refine Ic ?_;exact zG k)
 | exact K3 (nH k)
 | (refine Ie ?_;exact nH k)
 | (refine EG ?_;first | exact CJ k | exact a_nil_q k | exact a_nil_f k)
 | (refine KZ ?_;first | exact JX k | exact JY k)
 | (refine Ig ?_;first | exact Gw k | exact b_frz_s k)
 | (refine Gt ?_;first | exact AY k | exact tX k | exact AZ k)
 | (refine h_idxP ?_;first | exact b_idxP_p k | exact b_idxP_q k)
 | (refine h_bin ?_;first | exact Hq k | exact Hk k | exact Hr k | exact Hp k | exact Hm k | exact Hl k | exact cj k | exact Eo k | exact gj k | exact Ep k | exact Hs k | exact Hu k | exact Hv k | exact b_eqB k | exact HH k | exact Hy k | exact Hz k)
 | (refine h_cond ?_;first | exact AW k | exact AX k)
 | exact Il k
 | exact ER k
 | exact sN (EA k)
 | exact K0 (CT k)
 | exact Kd k
 | exact KY k
 | exact Ib k
 | exact Gx k
 | (first | exact Im k | exact In k | exact Io k | exact Ip k | exact Iq k | exact Ir k | exact Iu k | exact Iv k | exact Ix k | exact GA k | exact wo11_ok k | exact wo12_ok k | exact wo13_ok k | exact wo14_ok k | exact wo15_ok k | exact wo16_ok k)
 | exact Er k
 | exact a_convS k
 | exact b_fld k
 | exact Ia k
 | exact EA k
 | exact CT k
 | fail):P:=h k
theorem sb{P:Prop}{Q:Nat→Prop}{N:Nat→Prop}(k:∀b,N b→Q b)(h:(∀b,N b→Q b)→P:=by
 intro k
 first
 | (refine J5 ?_;exact J7 k)
 | (refine EF ?_;exact EL k)
 | (refine EE ?_;exact EM k)
 | (exact CK k)
 | fail):P:=h k
theorem s2{P Q1 Q2 A1 A2:Prop}(k1:A1→Q1)(k2:A2→Q2)(h:(A1→Q1)→(A2→Q2)→P:=by
 intro k1 k2
 first
 | (refine J8 ?_;exact En k1 k2)
 | (refine J9 ?_;first | exact zy k1 k2 | exact zz k1 k2)
 | (refine HC ?_;first | exact zy k1 k2 | exact zz k1 k2)
 | (refine Hw ?_;first | exact zy k1 k2 | exact zz k1 k2)
 | (refine ED ?_;first | exact Ej k1 k2 | exact Ek k1 k2)
 | (refine h_cond ?_;exact En k1 k2)
 | fail):P:=h k1 k2
theorem mm{α:Type}{a:α}{l:List α}(h:a∈l:=by first | exact .head _ | exact .tail _ (.head _) | exact .tail _ (.tail _ (.head _)) | exact .tail _ (.tail _ (.tail _ (.head _))) | exact .tail _ (.tail _ (.tail _ (.tail _ (.head _)))) | exact .tail _ (.tail _ (.tail _ (.tail _ (.tail _ (.head _))))) | exact .tail _ (.tail _ (.tail _ (.tail _ (.tail _ (.tail _ (.head _)))))) | exact .tail _ (.tail _ (.tail _ (.tail _ (.tail _ (.tail _ (.tail _ (.head _))))))) | exact .tail _ (.tail _ (.tail _ (.tail _ (.tail _ (.tail _ (.tail _ (.tail _ (.head _)))))))) | exact .tail _ (.tail _ (.tail _ (.tail _ (.tail _ (.tail _ (.tail _ (.tail _ (.tail _ (.head _))))))))) | exact .tail _ (.tail _ (.tail _ (.tail _ (.tail _ (.tail _ (.tail _ (.tail _ (.tail _ (.tail _ (.head _)))))))))) | exact .tail _ (.tail _ (.tail _ (.tail _ (.tail _ (.tail _ (.tail _ (.tail _ (.tail _ (.tail _ (.tail _ (.head _))))))))))) | exact .tail _ (.tail _ (.tail _ (.tail _ (.tail _ (.tail _ (.tail _ (.tail _ (.tail _ (.tail _ (.tail _ (.tail _ (.head _))))))))))))):a∈l:=h
theorem rp{P:Prop}(h:P:=by repeat constructor):P:=h
end Go.Proofs.YtljkdffikfkcgaaGreat.Am
end
section
namespace Go.Proofs.YtljkdffikfkcgaaGreat.Am
set_option linter.unusedVariables false
inductive ae where
 | mk (op n:Int) (name:aM) (l:List ae)
def ae.op:ae→Int | .mk a _ _ _=>a
def ae.n:ae→Int | .mk _ a _ _=>a
def ae.name:ae→aM | .mk _ _ a _=>a
def ae.l:ae→List ae | .mk _ _ _ a=>a
mutual
def ae.enc:ae→List AV
 | .mk op n name l=>[.int .i64 op,.int .i64 n,.str name,.lst (ae.encs l)]
def ae.encs:List ae→List (List AV)
 | []=>[]
 | x::l=>x.enc::ae.encs l
end
theorem ae.encs_eq:∀l:List ae,ae.encs l=l.map ae.enc
 | []=>rfl
 | x::l=>by rw[ae.encs,ae.encs_eq l];rfl
def ae.row(x:ae):List AV:=[.int .i64 x.op,.int .i64 x.n,.str x.name,.lst (x.l.map ae.enc)]
theorem ae.enc_row(x:ae):x.enc=x.row:=by cases x;rw[ae.enc,ae.encs_eq];rfl
theorem A6{l:List ae}{i:Nat}(h:i<l.length):(l.map ae.enc)[i]? =some [.int .i64 l[i].op,.int .i64 l[i].n,.str l[i].name,.lst (l[i].l.map ae.enc)]:=by rw[aw h,ae.enc_row];rfl
mutual
def ae.wt:ae→Nat
 | .mk _ _ name l=>1+name.length+ae.wts l
def ae.wts:List ae→Nat
 | []=>0
 | x::l=>x.wt+ae.wts l
end
theorem ae.wt_eq(x:ae):x.wt=1+x.name.length+ae.wts x.l:=by cases x;rfl
theorem ae.wts_get:∀(l:List ae) (i:Nat) (h:i<l.length),l[i].wt≤ae.wts l
 | x::l,0,_=>by simp[ae.wts]
 | x::l,i+1,h=>by have:=ae.wts_get l i (by simpa using h);simp only[List.getElem_cons_succ,ae.wts];omega
theorem ae.wts_len:∀l:List ae,l.length≤ae.wts l
 | []=>Nat.le_refl _
 | x::l=>by have:=ae.wts_len l;have:=x.wt_eq;simp only[List.length_cons,ae.wts];omega
theorem ae.kid(x:ae){i:Nat}(h:i<x.l.length):x.l[i].wt<x.wt:=by have:=ae.wts_get x.l i h;have:=x.wt_eq;omega
theorem ae.len(x:ae):x.l.length<x.wt:=by have:=ae.wts_len x.l;have:=x.wt_eq;omega
inductive aa where
 | mk (op line:Int) (name arg:aM) (index:List ae) (expr:ae) (body els:List aa)
def aa.op:aa→Int | .mk a _ _ _ _ _ _ _=>a
def aa.line:aa→Int | .mk _ a _ _ _ _ _ _=>a
def aa.name:aa→aM | .mk _ _ a _ _ _ _ _=>a
def aa.arg:aa→aM | .mk _ _ _ a _ _ _ _=>a
def aa.index:aa→List ae | .mk _ _ _ _ a _ _ _=>a
def aa.expr:aa→ae | .mk _ _ _ _ _ a _ _=>a
def aa.body:aa→List aa | .mk _ _ _ _ _ _ a _=>a
def aa.els:aa→List aa | .mk _ _ _ _ _ _ _ a=>a
mutual
def aa.enc:aa→List AV
 | .mk op line name arg index e body els=>[.int .i64 op,.int .i64 line,.str name,.str arg,.lst (index.map ae.enc),.int .i64 e.op,.int .i64 e.n,.str e.name,.lst (e.l.map ae.enc),.lst (aa.encs body),.lst (aa.encs els)]
def aa.encs:List aa→List (List AV)
 | []=>[]
 | x::l=>x.enc::aa.encs l
end
theorem aa.encs_eq:∀l:List aa,aa.encs l=l.map aa.enc
 | []=>rfl
 | x::l=>by rw[aa.encs,aa.encs_eq l];rfl
def aa.row(x:aa):List AV:=[.int .i64 x.op,.int .i64 x.line,.str x.name,.str x.arg,.lst (x.index.map ae.enc),.int .i64 x.expr.op,.int .i64 x.expr.n,.str x.expr.name,.lst (x.expr.l.map ae.enc),.lst (x.body.map aa.enc),.lst (x.els.map aa.enc)]
theorem aa.enc_row(x:aa):x.enc=x.row:=by cases x;rw[aa.enc,aa.encs_eq,aa.encs_eq];rfl
theorem yX{l:List aa}{i:Nat}(h:i<l.length):(l.map aa.enc)[i]? =some [.int .i64 l[i].op,.int .i64 l[i].line,.str l[i].name,.str l[i].arg,.lst (l[i].index.map ae.enc),.int .i64 l[i].expr.op,.int .i64 l[i].expr.n,.str l[i].expr.name,.lst (l[i].expr.l.map ae.enc),.lst (l[i].body.map aa.enc),.lst (l[i].els.map aa.enc)]:=by rw[aw h,aa.enc_row];rfl
mutual
def aa.wt:aa→Nat
 | .mk _ _ name arg index e body els=>1+name.length+arg.length+ae.wts index+e.wt+aa.wts body+aa.wts els
def aa.wts:List aa→Nat
 | []=>0
 | x::l=>x.wt+aa.wts l
end
theorem aa.wt_eq(x:aa):x.wt=1+x.name.length+x.arg.length+ae.wts x.index+x.expr.wt+aa.wts x.body+aa.wts x.els:=by cases x;rfl
theorem aa.wts_get:∀(l:List aa) (i:Nat) (h:i<l.length),l[i].wt≤aa.wts l
 | x::l,0,_=>by simp[aa.wts]
 | x::l,i+1,h=>by have:=aa.wts_get l i (by simpa using h);simp only[List.getElem_cons_succ,aa.wts];omega
theorem aa.wts_len:∀l:List aa,l.length≤aa.wts l
 | []=>Nat.le_refl _
 | x::l=>by have:=aa.wts_len l;have:=x.wt_eq;simp only[List.length_cons,aa.wts];omega
structure au where
 kind:Int
 line:Int
 name:aM
 size:Int
 init:Int
 on:aM
 deriving Inhabited
def au.enc(d:au):List AV:=[.int .i64 d.kind,.int .i64 d.line,.str d.name,.int .i64 d.size,.int .i64 d.init,.str d.on]
structure ai where
 name:aM
 line:Int
 locals:List aM
 body:List aa
def ai.enc(t:ai):List AV:=[.str t.name,.int .i64 t.line,.lst (t.locals.map aA),.lst (t.body.map aa.enc)]
structure aL where
 decls:List au
 threads:List ai
def aL.enc(p:aL):List AV:=[.lst (p.decls.map au.enc),.lst (p.threads.map ai.enc)]
def au.wt(d:au):Nat:=1+d.name.length+d.on.length
def ai.wt(t:ai):Nat:=1+t.name.length+t.locals.length+(t.locals.map List.length).sum+aa.wts t.body
def aL.wt(p:aL):Nat:=(p.decls.map au.wt).sum+(p.threads.map ai.wt).sum
theorem vn{α:Type}{f:α→Nat}:∀(l:List α) (i:Nat) (h:i<l.length),f l[i]≤(l.map f).sum
 | x::l,0,_=>by simp
 | x::l,i+1,h=>by have:=vn (f:=f) l i (by simpa using h);simp only[List.getElem_cons_succ,List.map_cons,List.sum_cons];omega
theorem zL{α:Type}{f:α→Nat}(hf:∀x,1≤f x):∀l:List α,l.length≤(l.map f).sum
 | []=>Nat.le_refl _
 | x::l=>by have:=zL hf l;have:=hf x;simp only[List.length_cons,List.map_cons,List.sum_cons];omega
theorem EU{α:Type}{p:α→Prop}{l:List α}{i:Nat}(h:i<l.length)(h1:∀x∈l.take i,p x)(h2:p l[i]):∀x∈l.take (i+1),p x:=by
 rw[List.take_succ_eq_append_getElem h]
 intro x hx
 rcases List.mem_append.1 hx with hx | hx
 ·exact h1 x hx
 ·simp at hx;subst hx;exact h2
theorem HJ(n:Nat)(G:Nat→Prop)(S:Nat→List AV×SH){B:List AV→SH→W.Kn→Prop}{vs:List AV}{L:SH}(hl:n<2^62)(h0:G 0)(hv:vs=(S 0).1)(hL:L=(S 0).2)
  (h1:∀i,i<n→decide ((i:Int)<(n:Int))=true→IntKind.i64.wrap ((i:Int)+1)=((i+1:Nat):Int)→G i→∀nx:W.Kn,(G (i+1)→∀vs' L',aN vs' L' (S (i+1)).1 (S (i+1)).2→nx vs' L')→B (S i).1 (S i).2 nx)
  (h2:∀i,i=n→decide ((i:Int)<(n:Int))=false→G i→∀nx:W.Kn,B (S i).1 (S i).2 nx):W.loop B vs L:=by
 refine sM n S G h0 hv hL fun i hi hG=>?_
 rcases Nat.lt_or_ge i n with h | h
 ·exact h1 i h (bW h) (bc h hl) hG _ fun hg vs' L' hz=>⟨i+1,by omega,by omega,hg,hz⟩
 ·exact h2 i (by omega) (cX h) hG _
theorem eX(n:Nat)(G:Nat→Prop)(S:Nat→List AV){B:List AV→SH→W.Kn→Prop}{vs:List AV}{L:SH}(hl:n<2^62)(h0:G 0)(hv:vs=S 0)
  (h1:∀i,i<n→decide ((i:Int)<(n:Int))=true→IntKind.i64.wrap ((i:Int)+1)=((i+1:Nat):Int)→G i→∀nx:W.Kn,(G (i+1)→nx (S (i+1)) L)→B (S i) L nx)
  (h2:∀i,i=n→decide ((i:Int)<(n:Int))=false→G i→∀nx:W.Kn,B (S i) L nx):W.loop B vs L:=
 HJ n G (fun i=>(S i,L)) hl h0 hv rfl (fun i h hd hi hG nx hn=>h1 i h hd hi hG nx fun hg=>hn hg _ _ (.refl _ _)) h2
theorem cL{α:Type}(l:List α)(p:α→Bool)(S:Nat→List AV){B:List AV→SH→W.Kn→Prop}{vs:List AV}{L:SH}(hl:l.length<2^62)(hv:vs=S 0)
  (h1:∀i (h:i<l.length),decide ((i:Int)<(l.length:Int))=true→IntKind.i64.wrap ((i:Int)+1)=((i+1:Nat):Int)→(∀x∈l.take i,p x=false)→∀nx:W.Kn,(p l[i]=false→nx (S (i+1)) L)→B (S i) L nx)
  (h2:∀i,i=l.length→decide ((i:Int)<(l.length:Int))=false→(∀x∈l,p x=false)→∀nx:W.Kn,B (S i) L nx):W.loop B vs L:=
 eX l.length (fun i=>∀x∈l.take i,p x=false) S hl (by simp) hv (fun i h hd hi hG nx hn=>h1 i h hd hi hG nx fun hp=>hn (EU h hG hp))
  fun i e hd hG nx=>h2 i e hd (by rw[List.take_of_length_le (by omega)]at hG;exact hG) nx
theorem IC{α:Type}{p:α→Bool}{l:List α}(h:∀x∈l,p x=false):l.any p=false:=by simpa using h
theorem GE{α:Type}{p:α→Bool}{l:List α}{i:Nat}(h:i<l.length)(hp:p l[i]=true):l.any p=true:=List.any_eq_true.2 ⟨_,List.getElem_mem h,hp⟩
theorem sP{α:Type}{p:α→Bool}{l:List α}{i:Nat}(h:i<l.length)(hp:p l[i]=false):l.all p=false:=List.all_eq_false.2 ⟨_,List.getElem_mem h,by simp[hp]⟩
theorem HK{s:aM}{k:IntKind}{i:Nat}{K:AV→Prop}(h:K (.int .u8 (s.getD i 0).toNat))(hi:i<s.length:=by assumption):W.ixS (.str s) (.int k (i:Int)) K:=⟨s,k,i,s[i],rfl,rfl,by omega,by simp[hi],by simpa[List.getD,hi]using h⟩
def gm{α:Type}(p:α→Bool):List α→Nat→Int
 | [],_=>-1
 | x::l,i=>if p x then(i:Int)else gm p l (i+1)
theorem eB{α:Type}{p:α→Bool}:∀{l:List α} {i:Nat},(∀x∈l,p x=false)→gm p l i=-1
 | [],_,_=>rfl
 | x::l,i,h=>by rw[gm,h x (by simp)];exact eB fun y hy=>h y (by simp[hy])
theorem CX{α:Type}{p:α→Bool}:∀{l:List α} {j k:Nat} (hk:k<l.length),(∀x∈l.take k,p x=false)→p l[k]=true→gm p l j=(j+k:Nat)
 | x::l,j,0,hk,h,hp=>by simp at hp;simp[gm,hp]
 | x::l,j,k+1,hk,h,hp=>by
  rw[gm,h x (by simp)]
  have:=CX (p:=p) (l:=l) (j:=j+1) (k:=k) (by simpa using hk) (fun y hy=>h y (by simp[hy])) (by simpa using hp)
  simp only[Bool.false_eq_true,if_false,this];congr 1;omega
theorem gp{α:Type}{p:α→Bool}{l:List α}{k:Nat}(hk:k<l.length)(h:∀x∈l.take k,p x=false)(hp:p l[k]=true):gm p l 0=k:=by rw[CX hk h hp];simp
end Go.Proofs.YtljkdffikfkcgaaGreat.Am
end
section
namespace Go.Proofs.YtljkdffikfkcgaaGreat.Am
set_option linter.unusedVariables false
set_option maxRecDepth 100000
def qx(t0:AV)(L:SH)(Q:R):Prop:=
 wk t0 (
 Q (.int .i64 1) L) (
 Q (.int .i64 0) L)
theorem xZ(t0:AV)(L:SH)(Q:R)(h:qx t0 L Q):aj Tryz.prog 46 [t0] L Q:=
 bx ⟨fun _=>none,fun _=>[],fun _=>[],fun _=>[]⟩ Tryz.func46 (by kernel_rfl) (by kernel_rfl) h
def ya(Q:R)(L:SH)(t0 t1:AV):Prop:=
 wb .eql 3 t0 (.int .i64 5) fun x2=>
 wk x2 (
 wb .eql 2 t1 (.int .i64 0) fun x3=>
 wc (.fn 46 []) [x3] L fun x4 L5=>
 Q (.tup [x4,(.bool true)]) L5) (
 Q (.tup [(.int .i64 0),(.bool false)]) L)
def qy(t0 t1:AV)(L:SH)(Q:R):Prop:=
 wb .eql 3 t0 (.int .i64 4) fun x0=>
 wk x0 (
 W.un .neg t1 fun x1=>
 Q (.tup [x1,(.bool true)]) L) (
 (ya Q L t0 t1))
theorem yb(t0 t1:AV)(L:SH)(Q:R)(h:qy t0 t1 L Q):aj Tryz.prog 30 [t0,t1] L Q:=
 bx ⟨fun _=>none,fun _=>[],fun _=>[],fun _=>[]⟩ Tryz.func30 (by kernel_rfl) (by kernel_rfl) h
def wv(Q:R)(L:SH)(t1 t2:AV):Prop:=
 wb .neq 2 t1 (.int .i64 0) fun x37=>
 b9 x37 true t2 L fun x38 L40=>
 wg x37 true (wb .neq 2 x38 (.int .i64 0)) L40 fun x41 L43=>
 W.pick x37 x41 (.bool false) fun x45=>
 wc (.fn 46 []) [x45] L43 fun x46 L47=>
 Q (.tup [x46,(.bool true)]) L47
def wx(Q:R)(L:SH)(t1 t2:AV):Prop:=
 wb .neq 2 t1 (.int .i64 0) fun x49=>
 b9 x49 false t2 L fun x50 L52=>
 wg x49 false (wb .neq 2 x50 (.int .i64 0)) L52 fun x53 L55=>
 W.pick x49 (.bool true) x53 fun x57=>
 wc (.fn 46 []) [x57] L55 fun x58 L59=>
 Q (.tup [x58,(.bool true)]) L59
def wz(Q:R)(L:SH)(t0 t1 t2:AV):Prop:=
 wb .eql 3 t0 (.int .i64 17) fun x36=>
 wk x36 (
 (wv Q L t1 t2)) (
 wb .eql 3 t0 (.int .i64 18) fun x48=>
 wk x48 (
 (wx Q L t1 t2)) (
 Q (.tup [(.int .i64 0),(.bool false)]) L))
def wA(Q:R)(L:SH)(t0 t1 t2:AV):Prop:=
 wb .eql 3 t0 (.int .i64 16) fun x32=>
 wk x32 (
 wb .geq 2 t1 t2 fun x33=>
 wc (.fn 46 []) [x33] L fun x34 L35=>
 Q (.tup [x34,(.bool true)]) L35) (
 (wz Q L t0 t1 t2))
def wB(Q:R)(L:SH)(t0 t1 t2:AV):Prop:=
 wb .eql 3 t0 (.int .i64 15) fun x28=>
 wk x28 (
 wb .gtr 2 t1 t2 fun x29=>
 wc (.fn 46 []) [x29] L fun x30 L31=>
 Q (.tup [x30,(.bool true)]) L31) (
 (wA Q L t0 t1 t2))
def wC(Q:R)(L:SH)(t0 t1 t2:AV):Prop:=
 wb .eql 3 t0 (.int .i64 14) fun x24=>
 wk x24 (
 wb .leq 2 t1 t2 fun x25=>
 wc (.fn 46 []) [x25] L fun x26 L27=>
 Q (.tup [x26,(.bool true)]) L27) (
 (wB Q L t0 t1 t2))
def wD(Q:R)(L:SH)(t0 t1 t2:AV):Prop:=
 wb .eql 3 t0 (.int .i64 13) fun x20=>
 wk x20 (
 wb .lss 2 t1 t2 fun x21=>
 wc (.fn 46 []) [x21] L fun x22 L23=>
 Q (.tup [x22,(.bool true)]) L23) (
 (wC Q L t0 t1 t2))
def wE(Q:R)(L:SH)(t0 t1 t2:AV):Prop:=
 wb .eql 3 t0 (.int .i64 12) fun x16=>
 wk x16 (
 wb .neq 2 t1 t2 fun x17=>
 wc (.fn 46 []) [x17] L fun x18 L19=>
 Q (.tup [x18,(.bool true)]) L19) (
 (wD Q L t0 t1 t2))
def wF(Q:R)(L:SH)(t0 t1 t2:AV):Prop:=
 wb .eql 3 t0 (.int .i64 11) fun x12=>
 wk x12 (
 wb .eql 2 t1 t2 fun x13=>
 wc (.fn 46 []) [x13] L fun x14 L15=>
 Q (.tup [x14,(.bool true)]) L15) (
 (wE Q L t0 t1 t2))
def wG(Q:R)(L:SH)(t0 t2 t1:AV):Prop:=
 wb .eql 3 t0 (.int .i64 10) fun x9=>
 wk x9 (
 wb .eql 2 t2 (.int .i64 0) fun x10=>
 wk x10 (
 Q (.tup [(.int .i64 0),(.bool true)]) L) (
 wb .rem 2 t1 t2 fun x11=>
 Q (.tup [x11,(.bool true)]) L)) (
 (wF Q L t0 t1 t2))
def uj(Q:R)(L:SH)(t0 t2 t1:AV):Prop:=
 wb .eql 3 t0 (.int .i64 9) fun x6=>
 wk x6 (
 wb .eql 2 t2 (.int .i64 0) fun x7=>
 wk x7 (
 Q (.tup [(.int .i64 0),(.bool true)]) L) (
 wb .quo 2 t1 t2 fun x8=>
 Q (.tup [x8,(.bool true)]) L)) (
 (wG Q L t0 t2 t1))
def uk(Q:R)(L:SH)(t0 t1 t2:AV):Prop:=
 wb .eql 3 t0 (.int .i64 7) fun x2=>
 wk x2 (
 wb .sub 2 t1 t2 fun x3=>
 Q (.tup [x3,(.bool true)]) L) (
 wb .eql 3 t0 (.int .i64 8) fun x4=>
 wk x4 (
 wb .mul 2 t1 t2 fun x5=>
 Q (.tup [x5,(.bool true)]) L) (
 (uj Q L t0 t2 t1)))
def mY(t0 t1 t2:AV)(L:SH)(Q:R):Prop:=
 wb .eql 3 t0 (.int .i64 6) fun x0=>
 wk x0 (
 wb .add 2 t1 t2 fun x1=>
 Q (.tup [x1,(.bool true)]) L) (
 (uk Q L t0 t1 t2))
theorem wH(t0 t1 t2:AV)(L:SH)(Q:R)(h:mY t0 t1 t2 L Q):aj Tryz.prog 31 [t0,t1,t2] L Q:=
 bx ⟨fun _=>none,fun _=>[],fun _=>[],fun _=>[]⟩ Tryz.func31 (by kernel_rfl) (by kernel_rfl) h
def ku(t0 t1:AV)(L:SH)(Q:R):Prop:=
 W.len t0 fun x0=>
 W.len t1 fun x1=>
 wb .add 3 x0 x1 fun x2=>
 W.mslice 1 8 [(.int .i64 0)] (.int .i64 0) x2 L fun x3 L4=>
 W.append 1 8 x3 t0 L4 fun x5 L6=>
 W.append 1 8 x5 t1 L6 fun x7 L8=>
 wc (.fn 47 []) [x7] L8 fun x9 L10=>
 wc (.fn 48 []) [x7] L10 fun x11 L12=>
 Q x11 L12
theorem ul(t0 t1:AV)(L:SH)(Q:R)(h:ku t0 t1 L Q):aj Tryz.prog 32 [t0,t1] L Q:=
 bx ⟨fun _=>none,fun _=>[],fun _=>[],fun _=>[]⟩ Tryz.func32 (by kernel_rfl) (by kernel_rfl) h
def fD(n19:Kn)(x23 x26 x21 x22 x24 x25 x30:AV)(L31:SH):Prop:=
 W.idx 1 x23 x26 L31 fun x32=>
 W.store 1 x32 x30 L31 fun L33=>
 wb .add 3 x26 (.int .i64 1) fun x34=>
 n19 [x21,x22,x23,x24,x25,x34] L33
def fE(Q:R)(v18:Vs)(L20:SH)(n19:Kn):Prop:=
 HI 1 2 3 15 16 17 v18 fun x21 x22 x23 x24 x25 x26=>
 wb .lss 3 x26 x25 fun x27=>
 wk x27 (
 BL 1 x24 x26 L20 fun x29=>
 wc (.fn 28 []) [x29] L20 (fD n19 x23 x26 x21 x22 x24 x25)) (
 W.faddr 2 x21 fun x35=>
 W.store 1 x35 x23 L20 fun L36=>
 c7 4 x21 L36 fun x37=>
 W.store 4 x22 x37 L36 fun L38=>
 W.load true 4 x22 L38 fun x39=>
 Q x39 L38)
def jJ(Q:R)(x0 x2 x6:AV)(L7:SH):Prop:=
 W.faddr 1 x0 fun x8=>
 W.store 1 x8 x6 L7 fun L9=>
 bf 2 x0 L9 fun x11=>
 W.len x11 fun x12=>
 W.mslice 1 24 [.nils] x12 x12 L9 fun x13 L14=>
 bf 2 x0 L14 fun x16=>
 W.len x16 fun x17=>
 W.loop (fE Q) [x0,x2,x13,x16,x17,(.int .i64 0)] L14
def kv(t0:AV)(L:SH)(Q:R):Prop:=
 W.box t0 L fun x0 L1=>
 W.alloc [(.int .i64 0),.nils,.nils,(.int .i64 0)] L1 fun x2 L3=>
 bf 1 x0 L3 fun x5=>
 wc (.fn 27 []) [x5] L3 (jJ Q x0 x2)
theorem um(t0:AV)(L:SH)(Q:R)(h:kv t0 L Q):aj Tryz.prog 12 [t0] L Q:=
 bx ⟨fun _=>none,fun k=>if k=4 then [1,2,3,15,16,17]else [],fun _=>[],fun _=>[]⟩ Tryz.func12 (by kernel_rfl) (by kernel_rfl) h
def gq(t0 t1:AV)(L:SH)(Q:R):Prop:=
 wb .geq 3 t0 (.int .i64 0) fun x0=>
 b9 x0 true t0 L fun x1 L3=>
 wg x0 true (wl t1 L3) L3 fun x4 L6=>
 wg x0 true (W.nilchk x4) L6 fun x8 L10=>
 wg x0 true (W.faddr 1 x8) L10 fun x12 L14=>
 wg x0 true (wl x12 L14) L14 fun x16 L18=>
 wg x0 true (W.len x16) L18 fun x20 L22=>
 wg x0 true (wb .lss 3 x1 x20) L22 fun x24 L26=>
 W.pick x0 x24 (.bool false) fun x28=>
 Q x28 L26
theorem lF(t0 t1:AV)(L:SH)(Q:R)(h:gq t0 t1 L Q):aj Tryz.prog 29 [t0,t1] L Q:=
 bx ⟨fun _=>none,fun _=>[],fun _=>[],fun _=>[]⟩ Tryz.func29 (by kernel_rfl) (by kernel_rfl) h
def qz(Q:R)(v8:Vs)(L10:SH):Prop:=
 ui 2 4 6 v8 fun x11 x12 x13=>
 wl x11 L10 fun x14=>
 dh 0 x14 L10 fun x17=>
 wb .add 3 x17 (.int .i64 1) fun x18=>
 W.nilchk x14 fun x19=>
 W.faddr 0 x19 fun x20=>
 W.store 1 x20 x18 L10 fun L21=>
 Q x13 L21
def qA(j9:Kn)(L28:SH)(x4 x6:AV):Prop:=
 (true=true)∧(
 dl [] 0 x4 L28 fun x30 r31=>
 W.nilchk x30 fun x32=>
 aY 1 x32 [] 3 L28 fun x34 r35=>
 aY 1 x6 [rm 3 r35,rm 0 r31] 5 L28 fun x37 r38=>
 dl [rm 5 r38,rm 3 r35,rm 0 r31] 6 x4 L28 fun x39 r40=>
 W.nilchk x39 fun x41=>
 aY 2 x41 [rm 5 r38,rm 3 r35,rm 0 r31] 9 L28 fun x43 r44=>
 aY 1 x6 [rm 9 r44,rm 6 r40,rm 5 r38,rm 3 r35,rm 0 r31] 11 L28 fun x46 r47=>
 aY 4 x6 [rm 11 r47,rm 9 r44,rm 6 r40,rm 5 r38,rm 3 r35,rm 0 r31] 13 L28 fun x49 r50=>
 di [rm 11 r47] 14 1 x34 x37 L28 fun x51 r52=>
 ds [rm 11 r47] 15 1 x51 x49 L28 fun L53 r54=>
 di [] 16 1 x43 x46 L53 fun x55 r56=>
 ds [] 17 1 x55 .nils L53 fun L57 r58=>
 j9 [x4,(.bool false),(.bool true)] L57)
def qB(Q:R)(j9:Kn)(x4 x6 x27:AV)(L28:SH):Prop:=
 W.un .not x27 fun x29=>
 wk x29 (
 Q (.bool false) L28) (
 (qA j9 L28 x4 x6))
def qC(j9:Kn)(L83:SH)(x90 x93 x115 x99 x102 x4:AV)(r103:Fp)(x130:AV)(L132:SH)(q131:Ns):Prop:=
 wn [] q131 [] L83.names fun r133=>
 di [rm 11 r103] 29 1 x90 x93 L132 fun x134 r135=>
 ds [rm 11 r103] 30 1 x134 x115 L132 fun L136 r137=>
 di [] 31 1 x99 x102 L136 fun x138 r139=>
 ds [] 32 1 x138 x130 L136 fun L140 r141=>
 j9 [x4,(.bool false),(.bool true)] L140
def qD(j9:Kn)(L83:SH)(x4 x6:AV):Prop:=
 (true=true)∧(
 dl [] 0 x4 L83 fun x86 r87=>
 W.nilchk x86 fun x88=>
 aY 1 x88 [] 3 L83 fun x90 r91=>
 aY 1 x6 [rm 3 r91,rm 0 r87] 5 L83 fun x93 r94=>
 dl [rm 5 r94,rm 3 r91,rm 0 r87] 6 x4 L83 fun x95 r96=>
 W.nilchk x95 fun x97=>
 aY 2 x97 [rm 5 r94,rm 3 r91,rm 0 r87] 9 L83 fun x99 r100=>
 aY 1 x6 [rm 9 r100,rm 6 r96,rm 5 r94,rm 3 r91,rm 0 r87] 11 L83 fun x102 r103=>
 dl [rm 11 r103,rm 9 r100,rm 6 r96,rm 5 r94,rm 3 r91,rm 0 r87] 12 x4 L83 fun x104 r105=>
 W.nilchk x104 fun x106=>
 aY 1 x106 [rm 11 r103,rm 9 r100,rm 6 r96,rm 5 r94,rm 3 r91,rm 0 r87] 15 L83 fun x108 r109=>
 aY 2 x6 [rm 15 r109,rm 12 r105,rm 11 r103,rm 9 r100,rm 6 r96,rm 5 r94,rm 3 r91,rm 0 r87] 17 L83 fun x111 r112=>
 di [rm 11 r103,rm 9 r100,rm 6 r96,rm 5 r94,rm 3 r91,rm 0 r87] 18 1 x108 x111 L83 fun x113 r114=>
 dl [rm 11 r103,rm 9 r100,rm 6 r96,rm 5 r94,rm 3 r91,rm 0 r87] 19 x113 L83 fun x115 r116=>
 dl [rm 19 r116,rm 18 r114,rm 17 r112,rm 15 r109,rm 12 r105,rm 11 r103,rm 9 r100,rm 6 r96,rm 5 r94,rm 3 r91,rm 0 r87] 20 x4 L83 fun x117 r118=>
 W.nilchk x117 fun x119=>
 aY 2 x119 [rm 19 r116,rm 18 r114,rm 17 r112,rm 15 r109,rm 12 r105,rm 11 r103,rm 9 r100,rm 6 r96,rm 5 r94,rm 3 r91,rm 0 r87] 23 L83 fun x121 r122=>
 aY 2 x6 [rm 23 r122,rm 20 r118,rm 19 r116,rm 18 r114,rm 17 r112,rm 15 r109,rm 12 r105,rm 11 r103,rm 9 r100,rm 6 r96,rm 5 r94,rm 3 r91,rm 0 r87] 25 L83 fun x124 r125=>
 di [rm 19 r116,rm 18 r114,rm 17 r112,rm 15 r109,rm 12 r105,rm 11 r103,rm 9 r100,rm 6 r96,rm 5 r94,rm 3 r91,rm 0 r87] 26 1 x121 x124 L83 fun x126 r127=>
 dl [rm 19 r116,rm 18 r114,rm 17 r112,rm 15 r109,rm 12 r105,rm 11 r103,rm 9 r100,rm 6 r96,rm 5 r94,rm 3 r91,rm 0 r87] 27 x126 L83 fun x128 r129=>
 wd [rm 19 r116,rm 18 r114,rm 17 r112,rm 15 r109,rm 12 r105,rm 11 r103,rm 9 r100,rm 6 r96,rm 5 r94,rm 3 r91,rm 0 r87] 28 (.fn 28 []) [x128] L83 (qC j9 L83 x90 x93 x115 x99 x102 x4 r103))
def qE(Q:R)(j9:Kn)(x4 x6 x62:AV)(L63:SH):Prop:=
 W.un .not x62 fun x64=>
 b9 x64 false (.fn 29 [x4]) L63 fun x65 L67=>
 wg x64 false (W.faddr 2 x6) L67 fun x68 L70=>
 wg x64 false (wl x68 L70) L70 fun x72 L74=>
 W.grd x64 false (fun k77=>wc x65 [x72] L74 fun x79 L80=>
 k77 x79 L80) L74 fun x76 L78=>
 wg x64 false (W.un .not x76) L78 fun x81 L83=>
 W.pick x64 (.bool true) x81 fun x85=>
 wk x85 (
 Q (.bool false) L83) (
 (qD j9 L83 x4 x6))
def qF(j9:Kn)(L202:SH)(x208 x211 x4 x199 x226:AV)(L228:SH)(q227:Ns):Prop:=
 wn [] q227 [] L202.names fun r229=>
 di [] 15 1 x208 x211 L228 fun x230 r231=>
 ds [] 16 1 x230 x226 L228 fun L232 r233=>
 j9 [x4,(.bool false),x199] L232
def qG(j9:Kn)(L166:SH)(x173 x176 x4 x6 x194:AV)(L196:SH)(q195:Ns):Prop:=
 wn [] q195 [] L166.names fun r197=>
 W.ext 0 x194 fun x198=>
 W.ext 1 x194 fun x199=>
 di [] 20 1 x173 x176 L196 fun x200 r201=>
 ds [] 21 1 x200 x198 L196 fun L202 r203=>
 (true=true)∧(
 dl [] 0 x4 L202 fun x204 r205=>
 W.nilchk x204 fun x206=>
 aY 2 x206 [] 3 L202 fun x208 r209=>
 aY 1 x6 [rm 3 r209,rm 0 r205] 5 L202 fun x211 r212=>
 dl [rm 5 r212,rm 3 r209,rm 0 r205] 6 x4 L202 fun x213 r214=>
 W.nilchk x213 fun x215=>
 aY 2 x215 [rm 5 r212,rm 3 r209,rm 0 r205] 9 L202 fun x217 r218=>
 aY 2 x6 [rm 9 r218,rm 6 r214,rm 5 r212,rm 3 r209,rm 0 r205] 11 L202 fun x220 r221=>
 di [rm 5 r212,rm 3 r209,rm 0 r205] 12 1 x217 x220 L202 fun x222 r223=>
 dl [rm 5 r212,rm 3 r209,rm 0 r205] 13 x222 L202 fun x224 r225=>
 wd [rm 5 r212,rm 3 r209,rm 0 r205] 14 (.fn 28 []) [x224] L202 (qF j9 L202 x208 x211 x4 x199))
def qH(j9:Kn)(L166:SH)(x4 x6:AV):Prop:=
 (true=true)∧(
 dl [] 0 x4 L166 fun x169 r170=>
 W.nilchk x169 fun x171=>
 aY 1 x171 [] 3 L166 fun x173 r174=>
 aY 1 x6 [rm 3 r174,rm 0 r170] 5 L166 fun x176 r177=>
 aY 4 x6 [rm 5 r177,rm 3 r174,rm 0 r170] 7 L166 fun x179 r180=>
 dl [rm 7 r180,rm 5 r177,rm 3 r174,rm 0 r170] 8 x4 L166 fun x181 r182=>
 W.nilchk x181 fun x183=>
 aY 1 x183 [rm 7 r180,rm 5 r177,rm 3 r174,rm 0 r170] 11 L166 fun x185 r186=>
 aY 2 x6 [rm 11 r186,rm 8 r182,rm 7 r180,rm 5 r177,rm 3 r174,rm 0 r170] 13 L166 fun x188 r189=>
 di [rm 7 r180,rm 5 r177,rm 3 r174,rm 0 r170] 14 1 x185 x188 L166 fun x190 r191=>
 dl [rm 7 r180,rm 5 r177,rm 3 r174,rm 0 r170] 15 x190 L166 fun x192 r193=>
 wd [rm 5 r177,rm 3 r174,rm 0 r170] 16 (.fn 30 []) [x179,x192] L166 (qG j9 L166 x173 x176 x4 x6))
def qI(Q:R)(j9:Kn)(x4 x6 x145:AV)(L146:SH):Prop:=
 W.un .not x145 fun x147=>
 b9 x147 false (.fn 29 [x4]) L146 fun x148 L150=>
 wg x147 false (W.faddr 2 x6) L150 fun x151 L153=>
 wg x147 false (wl x151 L153) L153 fun x155 L157=>
 W.grd x147 false (fun k160=>wc x148 [x155] L157 fun x162 L163=>
 k160 x162 L163) L157 fun x159 L161=>
 wg x147 false (W.un .not x159) L161 fun x164 L166=>
 W.pick x147 (.bool true) x164 fun x168=>
 wk x168 (
 Q (.bool false) L166) (
 (qH j9 L166 x4 x6))
def qJ(j9:Kn)(L328:SH)(x334 x337 x4 x325 x365:AV)(L367:SH)(q366:Ns):Prop:=
 wn [] q366 [] L328.names fun r368=>
 di [] 23 1 x334 x337 L367 fun x369 r370=>
 ds [] 24 1 x369 x365 L367 fun L371 r372=>
 j9 [x4,(.bool false),x325] L371
def qK(j9:Kn)(L279:SH)(x286 x289 x4 x6 x320:AV)(L322:SH)(q321:Ns):Prop:=
 wn [] q321 [] L279.names fun r323=>
 W.ext 0 x320 fun x324=>
 W.ext 1 x320 fun x325=>
 di [] 28 1 x286 x289 L322 fun x326 r327=>
 ds [] 29 1 x326 x324 L322 fun L328 r329=>
 (true=true)∧(
 dl [] 0 x4 L328 fun x330 r331=>
 W.nilchk x330 fun x332=>
 aY 2 x332 [] 3 L328 fun x334 r335=>
 aY 1 x6 [rm 3 r335,rm 0 r331] 5 L328 fun x337 r338=>
 dl [rm 5 r338,rm 3 r335,rm 0 r331] 6 x4 L328 fun x339 r340=>
 W.nilchk x339 fun x341=>
 aY 2 x341 [rm 5 r338,rm 3 r335,rm 0 r331] 9 L328 fun x343 r344=>
 aY 2 x6 [rm 9 r344,rm 6 r340,rm 5 r338,rm 3 r335,rm 0 r331] 11 L328 fun x346 r347=>
 di [rm 5 r338,rm 3 r335,rm 0 r331] 12 1 x343 x346 L328 fun x348 r349=>
 dl [rm 5 r338,rm 3 r335,rm 0 r331] 13 x348 L328 fun x350 r351=>
 dl [rm 13 r351,rm 12 r349,rm 11 r347,rm 9 r344,rm 6 r340,rm 5 r338,rm 3 r335,rm 0 r331] 14 x4 L328 fun x352 r353=>
 W.nilchk x352 fun x354=>
 aY 2 x354 [rm 13 r351,rm 12 r349,rm 11 r347,rm 9 r344,rm 6 r340,rm 5 r338,rm 3 r335,rm 0 r331] 17 L328 fun x356 r357=>
 aY 3 x6 [rm 17 r357,rm 14 r353,rm 13 r351,rm 12 r349,rm 11 r347,rm 9 r344,rm 6 r340,rm 5 r338,rm 3 r335,rm 0 r331] 19 L328 fun x359 r360=>
 di [rm 13 r351,rm 12 r349,rm 11 r347,rm 9 r344,rm 6 r340,rm 5 r338,rm 3 r335,rm 0 r331] 20 1 x356 x359 L328 fun x361 r362=>
 dl [rm 13 r351,rm 12 r349,rm 11 r347,rm 9 r344,rm 6 r340,rm 5 r338,rm 3 r335,rm 0 r331] 21 x361 L328 fun x363 r364=>
 wd [rm 5 r338,rm 3 r335,rm 0 r331] 22 (.fn 32 []) [x350,x363] L328 (qJ j9 L328 x334 x337 x4 x325))
def qL(j9:Kn)(L279:SH)(x4 x6:AV):Prop:=
 (true=true)∧(
 dl [] 0 x4 L279 fun x282 r283=>
 W.nilchk x282 fun x284=>
 aY 1 x284 [] 3 L279 fun x286 r287=>
 aY 1 x6 [rm 3 r287,rm 0 r283] 5 L279 fun x289 r290=>
 aY 4 x6 [rm 5 r290,rm 3 r287,rm 0 r283] 7 L279 fun x292 r293=>
 dl [rm 7 r293,rm 5 r290,rm 3 r287,rm 0 r283] 8 x4 L279 fun x294 r295=>
 W.nilchk x294 fun x296=>
 aY 1 x296 [rm 7 r293,rm 5 r290,rm 3 r287,rm 0 r283] 11 L279 fun x298 r299=>
 aY 2 x6 [rm 11 r299,rm 8 r295,rm 7 r293,rm 5 r290,rm 3 r287,rm 0 r283] 13 L279 fun x301 r302=>
 di [rm 7 r293,rm 5 r290,rm 3 r287,rm 0 r283] 14 1 x298 x301 L279 fun x303 r304=>
 dl [rm 7 r293,rm 5 r290,rm 3 r287,rm 0 r283] 15 x303 L279 fun x305 r306=>
 dl [rm 15 r306,rm 14 r304,rm 13 r302,rm 11 r299,rm 8 r295,rm 7 r293,rm 5 r290,rm 3 r287,rm 0 r283] 16 x4 L279 fun x307 r308=>
 W.nilchk x307 fun x309=>
 aY 1 x309 [rm 15 r306,rm 14 r304,rm 13 r302,rm 11 r299,rm 8 r295,rm 7 r293,rm 5 r290,rm 3 r287,rm 0 r283] 19 L279 fun x311 r312=>
 aY 3 x6 [rm 19 r312,rm 16 r308,rm 15 r306,rm 14 r304,rm 13 r302,rm 11 r299,rm 8 r295,rm 7 r293,rm 5 r290,rm 3 r287,rm 0 r283] 21 L279 fun x314 r315=>
 di [rm 15 r306,rm 14 r304,rm 13 r302,rm 11 r299,rm 8 r295,rm 7 r293,rm 5 r290,rm 3 r287,rm 0 r283] 22 1 x311 x314 L279 fun x316 r317=>
 dl [rm 15 r306,rm 14 r304,rm 13 r302,rm 11 r299,rm 8 r295,rm 7 r293,rm 5 r290,rm 3 r287,rm 0 r283] 23 x316 L279 fun x318 r319=>
 wd [rm 5 r290,rm 3 r287,rm 0 r283] 24 (.fn 31 []) [x292,x305,x318] L279 (qK j9 L279 x286 x289 x4 x6))
def qM(Q:R)(j9:Kn)(x4 x6 x237:AV)(L238:SH):Prop:=
 W.un .not x237 fun x239=>
 b9 x239 false (.fn 29 [x4]) L238 fun x240 L242=>
 wg x239 false (W.faddr 2 x6) L242 fun x243 L245=>
 wg x239 false (wl x243 L245) L245 fun x247 L249=>
 W.grd x239 false (fun k252=>wc x240 [x247] L249 fun x254 L255=>
 k252 x254 L255) L249 fun x251 L253=>
 wg x239 false (W.un .not x251) L253 fun x256 L258=>
 W.pick x239 (.bool true) x256 fun x260=>
 b9 x260 false (.fn 29 [x4]) L258 fun x261 L263=>
 wg x260 false (W.faddr 3 x6) L263 fun x264 L266=>
 wg x260 false (wl x264 L266) L266 fun x268 L270=>
 W.grd x260 false (fun k273=>wc x261 [x268] L270 fun x275 L276=>
 k273 x275 L276) L270 fun x272 L274=>
 wg x260 false (W.un .not x272) L274 fun x277 L279=>
 W.pick x260 (.bool true) x277 fun x281=>
 wk x281 (
 Q (.bool false) L279) (
 (qL j9 L279 x4 x6))
def nJ(Q:R)(v380:Vs)(L382:SH):Prop:=
 ui 2 4 6 v380 fun x383 x384 x385=>
 Q x384 L382
def qN(Q:R)(L7:SH)(x4 x6:AV):Prop:=
 wl x4 L7 fun x374=>
 bf 1 x6 L7 fun x376=>
 W.nilchk x374 fun x377=>
 W.faddr 0 x377 fun x378=>
 W.store 1 x378 x376 L7 fun L379=>
 W.join (nJ Q) fun j381=>
 j381 [x4,(.bool true),(.bool true)] L379
def qO(Q:R)(j9:Kn)(L7:SH)(x23 x6 x4:AV):Prop:=
 wb .eql 3 x23 (.int .i64 4) fun x234=>
 wk x234 (
 bf 1 x6 L7 fun x236=>
 wc (.fn 29 [x4]) [x236] L7 (qM Q j9 x4 x6)) (
 wb .eql 3 x23 (.int .i64 5) fun x373=>
 wk x373 (
 (qN Q L7 x4 x6)) (
 j9 [x4,(.bool false),(.bool true)] L7))
def qP(Q:R)(j9:Kn)(L7:SH)(x23 x6 x4:AV):Prop:=
 wb .eql 3 x23 (.int .i64 3) fun x142=>
 wk x142 (
 bf 1 x6 L7 fun x144=>
 wc (.fn 29 [x4]) [x144] L7 (qI Q j9 x4 x6)) (
 (qO Q j9 L7 x23 x6 x4))
def qQ(Q:R)(j9:Kn)(L7:SH)(x23 x6 x4:AV):Prop:=
 wb .eql 3 x23 (.int .i64 2) fun x59=>
 wk x59 (
 bf 1 x6 L7 fun x61=>
 wc (.fn 29 [x4]) [x61] L7 (qE Q j9 x4 x6)) (
 (qP Q j9 L7 x23 x6 x4))
def cB(t0 t1:AV)(L:SH)(Q:R):Prop:=
 W.box t0 L fun x0 L1=>
 W.box t1 L1 fun x2 L3=>
 W.frz1 x0 L3 fun x4 L5=>
 W.frz1 x2 L5 fun x6 L7=>
 W.join (qz Q) fun j9=>
 bf 0 x6 L7 fun x23=>
 wb .eql 3 x23 (.int .i64 1) fun x24=>
 wk x24 (
 bf 1 x6 L7 fun x26=>
 wc (.fn 29 [x4]) [x26] L7 (qB Q j9 x4 x6)) (
 (qQ Q j9 L7 x23 x6 x4))
theorem cM(t0 t1:AV)(L:SH)(Q:R)(h:cB t0 t1 L Q):aj Tryz.prog 13 [t0,t1] L Q:=
 bx ⟨fun k=>if k=24 then some [2,4,6]else none,fun _=>[],fun k=>if k=0 then [2,3]else [],fun k=>if k=7 then [0,1,3,7,0,16,0,64,192,448,0,1024,0,4096,13311,29695,65535,131071]else if k=11 then [0,1,3,7,0,16,0,64,192,448,0,1024,0,4096,12288,28672,0,65536,258048,520192,0,1048576,3145728,7340032,0,16777216,66060288,133169152,267386880,536867839,1073738751,2147483647,4294967295]else if k=15 then [0,1,3,7,0,16,0,64,0,256,768,1792,0,4096,16128,32512,65472,131008,262080,262080,524287,1572863,4194303]else if k=16 then [0,1,3,7,0,16,0,64,192,448,0,1024,4032,8128,16320,32767,65535]else if k=20 then [0,1,3,7,0,16,0,64,0,256,768,1792,0,4096,16128,32512,0,65536,196608,458752,0,1048576,4128768,8323072,16777152,33554368,67108800,67108800,134217727,402653183,1073741823]else if k=21 then [0,1,3,7,0,16,0,64,192,448,0,1024,4032,8128,0,16384,49152,114688,0,262144,1032192,2080768,4194240,8388607,16777215]else []⟩ Tryz.func13 (by kernel_rfl) (by kernel_rfl) h
def sQ(Q:R)(L36:SH)(x4:AV):Prop:=
 W.build [(.int .i64 0),.nils,.nils,(.int .i64 0)] [] fun x39=>
 W.store 4 x4 x39 L36 fun L40=>
 W.load true 4 x4 L40 fun x41=>
 Q (.tup [x41,(.bool false)]) L40
def sR(Q:R)(L78:SH)(x51:AV):Prop:=
 W.build [(.int .i64 0),.nils,.nils,(.int .i64 0)] [] fun x81=>
 W.store 4 x51 x81 L78 fun L82=>
 W.load true 4 x51 L82 fun x83=>
 Q (.tup [x83,(.bool false)]) L82
def sS(Q:R)(L129:SH)(x51:AV):Prop:=
 W.build [(.int .i64 0),.nils,.nils,(.int .i64 0)] [] fun x132=>
 W.store 4 x51 x132 L129 fun L133=>
 W.load true 4 x51 L133 fun x134=>
 Q (.tup [x134,(.bool false)]) L133
def sT(Q:R)(n47:Kn)(L108:SH)(x49 x52 x93 x50 x51:AV):Prop:=
 bf 1 x49 L108 fun x115=>
 W.len x115 fun x116=>
 wb .eql 3 x52 x116 fun x117=>
 wg x117 false (c7 6 x93 L108) L108 fun x118 L120=>
 W.grd x117 false (fun k123=>wc (.fn 13 []) [x50,x118] L120 fun x125 L126=>
 k123 x125 L126) L120 fun x122 L124=>
 wg x117 false (W.un .not x122) L124 fun x127 L129=>
 W.pick x117 (.bool true) x127 fun x131=>
 wk x131 (
 (sS Q L129 x51)) (
 wb .add 3 x52 (.int .i64 1) fun x135=>
 n47 [x49,x50,x51,x135] L129)
def sU(Q:R)(n47:Kn)(L78:SH)(x49 x50 x51 x52:AV):Prop:=
 bf 1 x49 L78 fun x85=>
 bf 0 x50 L78 fun x87=>
 uh 6 x85 x87 L78 fun x89=>
 xW [(.int .i64 0),(.int .i64 0),(.int .i64 0),(.int .i64 0),(.int .i64 0),(.int .i64 0)] 6 x89 L78 fun x93 L94=>
 bf 0 x93 L94 fun x96=>
 wb .lss 3 x96 (.int .i64 1) fun x97=>
 wg x97 false (W.faddr 0 x93) L94 fun x98 L100=>
 wg x97 false (wl x98 L100) L100 fun x102 L104=>
 wg x97 false (wb .gtr 3 x102 (.int .i64 5)) L104 fun x106 L108=>
 W.pick x97 (.bool true) x106 fun x110=>
 wk x110 (
 c7 4 x50 L108 fun x111=>
 W.store 4 x51 x111 L108 fun L112=>
 W.load true 4 x51 L112 fun x113=>
 Q (.tup [x113,(.bool true)]) L112) (
 (sT Q n47 L108 x49 x52 x93 x50 x51))
def fa(Q:R)(v46:Vs)(L48:SH)(n47:Kn):Prop:=
 DU 2 3 4 6 v46 fun x49 x50 x51 x52=>
 bf 0 x50 L48 fun x54=>
 wb .lss 3 x54 (.int .i64 0) fun x55=>
 wg x55 false (W.faddr 0 x50) L48 fun x56 L58=>
 wg x55 false (wl x56 L58) L58 fun x60 L62=>
 wg x55 false (W.faddr 1 x49) L62 fun x64 L66=>
 wg x55 false (wl x64 L66) L66 fun x68 L70=>
 wg x55 false (W.len x68) L70 fun x72 L74=>
 wg x55 false (wb .geq 3 x60 x72) L74 fun x76 L78=>
 W.pick x55 (.bool true) x76 fun x80=>
 wk x80 (
 (sR Q L78 x51)) (
 (sU Q n47 L78 x49 x50 x51 x52))
def sV(Q:R)(x2 x6 x4 x43:AV)(L44:SH):Prop:=
 W.store 4 x2 x43 L44 fun L45=>
 W.loop (fa Q) [x6,x2,x4,(.int .i64 0)] L45
def jK(t0 t1:AV)(L:SH)(Q:R):Prop:=
 W.box t0 L fun x0 L1=>
 W.box t1 L1 fun x2 L3=>
 W.alloc [(.int .i64 0),.nils,.nils,(.int .i64 0)] L3 fun x4 L5=>
 W.frz1 x0 L5 fun x6 L7=>
 bf 1 x2 L7 fun x9=>
 W.len x9 fun x10=>
 bf 0 x6 L7 fun x12=>
 wb .neq 3 x10 x12 fun x13=>
 wg x13 false (W.faddr 2 x2) L7 fun x14 L16=>
 wg x13 false (wl x14 L16) L16 fun x18 L20=>
 wg x13 false (W.len x18) L20 fun x22 L24=>
 wg x13 false (W.faddr 0 x6) L24 fun x26 L28=>
 wg x13 false (wl x26 L28) L28 fun x30 L32=>
 wg x13 false (wb .neq 3 x22 x30) L32 fun x34 L36=>
 W.pick x13 (.bool true) x34 fun x38=>
 wk x38 (
 (sQ Q L36 x4)) (
 c7 4 x2 L36 fun x42=>
 wc (.fn 12 []) [x42] L36 (sV Q x2 x6 x4))
theorem sW(t0 t1:AV)(L:SH)(Q:R)(h:jK t0 t1 L Q):aj Tryz.prog 6 [t0,t1] L Q:=
 bx ⟨fun _=>none,fun k=>if k=6 then [2,3,4,6]else [],fun k=>if k=0 then [2]else if k=8 then [7]else [],fun _=>[]⟩ Tryz.func6 (by kernel_rfl) (by kernel_rfl) h
end Go.Proofs.YtljkdffikfkcgaaGreat.Am
end
section
namespace Go.Proofs.YtljkdffikfkcgaaGreat.Am
set_option maxRecDepth 100000
set_option linter.unusedVariables false
theorem Fr.perm{B:Nat}{L L' L'':SH}{H H':ah}(h:Fr B L H L' H')(hp:L'.Perm L''):Fr B L H L'' H':=
 ⟨h.next,h.bd,h.sub.perm hp,fun b x h1 h2=>⟨(h.keep b x h1 h2).1,fun hm=>(h.keep b x h1 h2).2 ((hp.map Prod.fst).mem_iff.2 hm)⟩,h.dom,fun b hb hlt=>h.fresh b ((hp.map Prod.fst).mem_iff.2 hb) hlt⟩
theorem aj.perm{P:Program}{f:FuncId}{args:List AV}{L:SH}{Q:AV→SH→Prop}(h:aj P f args L fun v L'=>∃L'',L'.Perm L''∧Q v L''):aj P f args L Q:=⟨h.1,fun H hb hs=>by
 obtain⟨v,H',L',h1,h2,L'',hp,h3⟩:=h.2 H hb hs
 exact⟨v,H',L'',h1,h2.perm hp,h3⟩⟩
theorem nI.refl(K:SH):∀l:List AV,nI K l l
 | []=>.nil
 | a::l=>.cons (.refl a) (nI.refl K l)
theorem aN.row{vs:List AV}{L K R:SH}{b n:Nat}{rows rows':List (List AV)}(hL:L.Perm (K++(b,⟨n,rows⟩)::R))(hlen:rows.length=rows'.length)(hr:∀(j:Nat) (r r':List AV),rows[j]? =some r→rows'[j]? =some r'→nI K r r'):aN vs L vs ((b,⟨n,rows'⟩)::R):=by
 refine⟨K,(b,⟨n,rows⟩)::R,hL,⟨rfl,fun i a a2 h1 h2=>by rw[h1]at h2;cases h2;exact .refl _⟩,rfl,fun i p q h1 h2=>?_⟩
 match i with
 | 0=>
  cases h1;cases h2
  exact⟨rfl,rfl,hlen,fun j s s2 g1 g2=>(hr j s s2 g1 g2).at_⟩
 | i+1=>
  simp only[List.getElem?_cons_succ]at h1 h2
  rw[h1]at h2;cases h2
  exact⟨rfl,rfl,rfl,fun j r r2 h3 h4=>by rw[h3]at h4;cases h4;exact⟨rfl,fun k a a2 h5 h6=>by rw[h5]at h6;cases h6;exact .refl _⟩⟩
inductive yc:SH→SH→SH→Prop where
 | nil (L:SH):yc L [] L
 | one {b:Nat} {x:Blk} {L L' R K:SH}:dE b x L L'→yc L' R K→yc L ((b,x)::R) K
 | slot {o:Option Nat} {n:Nat} {rows:List (List AV)} {L L' R K:SH}:da o n rows L L'→yc L' R K→yc L (am o n rows++R) K
theorem yc.perm{L R K:SH}(h:yc L R K):L.Perm (K++R):=by
 induction h with
 | nil L=>simp
 | one hd hp ih=>exact(hd.perm.trans ((ih.cons _).trans List.perm_middle.symm))
 | slot hd hp ih=>
  refine hd.perm.trans ((ih.append_left _).trans ?_)
  rw[←List.append_assoc,←List.append_assoc]
  exact List.perm_append_comm.append_right _
theorem aN.pickE{vs vs2:List AV}{L R R2:SH}(h:eo L R)(hv:vs=vs2)(hR:R=R2):aN vs L vs2 R2:=by
 subst hR
 exact aN.pick h hv
theorem aN.rowA{vs vs2:List AV}{L A R K:SH}{b n:Nat}{rows rows':List (List AV)}(h:yc L (A++(b,⟨n,rows⟩)::R) K)(hlen:rows.length=rows'.length)(hr:∀(j:Nat) (r r':List AV),rows[j]? =some r→rows'[j]? =some r'→nI K r r')(hv:vs=vs2):aN vs L vs2 (A++(b,⟨n,rows'⟩)::R):=by
 subst hv
 refine⟨K,_,h.perm,⟨rfl,fun i a a2 h1 h2=>by rw[h1]at h2;cases h2;exact .refl _⟩,by simp,fun i p q h1 h2=>?_⟩
 have same:p=q→p.1=q.1∧p.2.size=q.2.size∧p.2.rows.length=q.2.rows.length∧∀(j:Nat) (r r2:List AV),p.2.rows[j]? =some r→q.2.rows[j]? =some r2→r.length=r2.length∧∀(k:Nat) (a a2:AV),r[k]? =some a→r2[k]? =some a2→Fz K a a2:=fun e=>by
  subst e
  exact⟨rfl,rfl,rfl,fun j r r2 h3 h4=>by rw[h3]at h4;cases h4;exact⟨rfl,fun k a a2 h5 h6=>by rw[h5]at h6;cases h6;exact .refl _⟩⟩
 rcases Nat.lt_or_ge i A.length with hi | hi
 ·rw[List.getElem?_append_left hi]at h1 h2
  rw[h1]at h2;cases h2
  exact same rfl
 ·rw[List.getElem?_append_right hi]at h1 h2
  generalize i-A.length=k at h1 h2
  match k with
  | 0=>
   cases h1;cases h2
   exact⟨rfl,rfl,hlen,fun j r r' g1 g2=>(hr j r r' g1 g2).at_⟩
  | k+1=>
   simp only[List.getElem?_cons_succ]at h1 h2
   rw[h1]at h2;cases h2
   exact same rfl
end Go.Proofs.YtljkdffikfkcgaaGreat.Am
end
section
namespace Go.Proofs.YtljkdffikfkcgaaGreat.Am
set_option linter.unusedVariables false
section
variable {KL:AV→SH→Prop} {L L':SH}
theorem iS{α:Type}{f:α→List AV}{l:List α}{b i n by_:Nat}{rows:List (List AV)}{L L':SH}{KL:AV→SH→Prop}(hd:dE b ⟨n,rows⟩ L L')(hn:∀x,(f x).length=n)(hr:rows.length=i)(h2:2*(i+l.length)*by_≤2^48)(h3:2*(i+l.length)≤2^62)(h4:∀x,(f x).all AV.one=true)
  (h:∀b',b'∉L.names→KL (.sl b' 0 (i+l.length)) ((b',⟨n,rows++l.map f⟩)::L')):W.append n by_ (.sl b 0 i) (.lst (l.map f)) L KL:=by
 have h4':((l.map f).all fun r=>r.all AV.one)=true:=by
  rw[List.all_eq_true]
  intro r hr
  obtain⟨x,_,rfl⟩:=List.mem_map.1 hr
  exact h4 x
 subst hr
 exact lm (y:=⟨n,rows⟩) (l:=rows) hd.mem' rfl (by simp) (by simp) (vl hn) (by simpa using h2) (by simpa using h3) h4' hd (fun b' hb=>by simpa using h b' hb)
end
theorem EV{P:Program}{KL:AV→SH→Prop}{g:FuncId}{args:List AV}{L:SH}{R:AV→SH→Prop}(h:aj P g args [] R)(hk:∀v K,R v K→KL v (L++K)):W.callM P g args L KL:=
 ⟨.perm (h.frame (K:=[]) (R:=L) (.refl _) fun u K hu=>⟨L++K,List.perm_append_comm,hk u K hu⟩)⟩
theorem EW{α β:Type}{f:α→β}{l m:List α}{n:Nat}(h:l.take n=m):((l.map f).drop 0).take n=m.map f:=by
 rw[List.drop_zero,←List.map_take,h]
end Go.Proofs.YtljkdffikfkcgaaGreat.Am
end
section
namespace Go.Proofs.YtljkdffikfkcgaaGreat.Am
set_option maxRecDepth 100000
set_option linter.unusedSimpArgs false
set_option linter.unusedVariables false
set_option linter.unusedSectionVars false
theorem Du(xs:List Int)(hl:xs.length*8≤140737488355328):aj Tryz.prog 27 [.lst (xs.map az)] [] fun v L=>∃o,v=cR o xs.length∧L=am o 1 (xs.map az)∧(o=none→xs=[]):=by
 refine(Ds (fun A n c xs w hf h1 hn hA=>cloneJ_any A n c xs w hf h1 hn hA) ⟨_,_,Tryz.func27,rfl⟩ (xs.map az) (by simp[az,AV.one]) (fun r hr=>by obtain⟨x,_,rfl⟩:=List.mem_map.1 hr;rfl) (by simpa using hl)).mono ?_
 rintro v L ⟨o,rfl,rfl,h⟩
 exact⟨o,by simp,rfl,fun e=>by simpa using h e⟩
theorem eC(xs:List Int)(hl:xs.length*8≤140737488355328):aD Tryz.prog 28 [.lst (xs.map az)] (.lst (xs.map az)):=by
 refine aj.fz ((Dt xs hl).mono ?_)
 rintro v L ⟨o,rfl,rfl,ho⟩
 exact⟨_,[],aN.all (Fz.slot (f:=az) rfl (fun e=>by rw[ho e];rfl) (by decide) (fun y _=>rfl) (fun y _ q a a2 h1 h2=>by rw[h1]at h2;cases h2;exact .refl _)),rfl,rfl⟩
def vo(s:bC)(v:AV)(L:SH):Prop:=
 ∃(o t:Option Nat),v=.agg [.int .i64 s.pc,cR o s.regs.length,cR t s.taint.length,.int .i64 s.ev]∧L=am o 1 (s.regs.map az)++am t 1 (s.taint.map bD)∧(o=none→s.regs=[])∧(t=none→s.taint=[])
def jL(t:List (List Int))(k:Nat):List (List AV):=(t.take k).map bD++List.replicate (t.length-k) [.nils]
theorem Dv(t:List (List Int))(k:Nat)(hk:k≤t.length):(jL t k).length=t.length:=by simp[jL];omega
theorem EX(t:List (List Int))(k:Nat)(hk:k<t.length):(jL t k)[k]? =some [.nils]:=by
 unfold jL
 have hl:((t.take k).map bD).length=k:=by simp;omega
 rw[List.getElem?_append_right (by omega),hl,Nat.sub_self]
 obtain⟨m,hm⟩:∃m,t.length-k=m+1:=⟨t.length-k-1,by omega⟩
 rw[hm];rfl
theorem yY(t:List (List Int))(k:Nat)(hk:k<t.length):(jL t k).set k (bD t[k])=jL t (k+1):=by
 unfold jL
 have hl:((t.take k).map bD).length=k:=by simp;omega
 rw[List.set_append_right _ _ (by omega),hl,Nat.sub_self]
 obtain⟨m,hm⟩:∃m,t.length-k=m+1:=⟨t.length-k-1,by omega⟩
 rw[hm,List.replicate_succ,List.set_cons_zero,List.take_succ_eq_append_getElem hk,show t.length-(k+1)=m by omega,List.map_append,List.append_assoc]
 rfl
theorem B9(s:bC)(h1:s.regs.length<2^40)(h2:s.taint.length<2^40)(h3:∀l∈s.taint,l.length≤2^30):aj Tryz.prog 12 [.agg s.enc] [] (vo s):=by
 refine aj.fz (um _ _ _ ?_)
 unfold kv
 generalize hQ:(fun(v:AV) (L:SH)=>∃v2 L2,aN [v] L [v2] L2∧vo s v2 L2)=Q
 repeat' (first | refine st ?_ | refine sb (fun nb_ hnb_=>?_) | refine s2 (fun h=>?_) (fun h=>?_) | fail)
 rename_i b1 _
 revert nb_
 intro b2 _
 refine EV (Du s.regs (by omega)) ?_
 rintro v K ⟨o,rfl,rfl,ho⟩
 unfold jJ
 have fin:∀(bt:Nat) (L:SH),(∃x y:Blk,L=(bt,⟨1,s.taint.map bD⟩)::(b2,x)::(b1,y)::am o 1 (s.regs.map az))→Q (.agg [.int .i64 s.pc,cR o s.regs.length,.sl bt 0 s.taint.length,.int .i64 s.ev]) L:=by
  rintro bt L ⟨x,y,rfl⟩
  subst hQ
  refine⟨_,_,aN.forget (K:=[(b2,x),(b1,y)]) (R:=am o 1 (s.regs.map az)++[(bt,⟨1,s.taint.map bD⟩)]) ?_,o,some bt,rfl,rfl,ho,nofun⟩
  refine(List.Perm.trans (List.Perm.swap _ _ _) ?_)
  refine List.Perm.cons _ ((List.Perm.swap _ _ _).trans (List.Perm.cons _ ?_))
  exact(List.perm_append_comm (l₁:=[(bt,(⟨1,s.taint.map bD⟩:Blk))]) (l₂:=am o 1 (s.regs.map az)))
 have loop:∀(bt:Nat) (y:Blk),y=⟨4,[[.int .i64 s.pc,cR o s.regs.length,.lst (s.taint.map bD),.int .i64 s.ev]]⟩→W.loop (fE Q) [.ptr b1 0 0,.ptr b2 0 0,.sl bt 0 s.taint.length,.lst (s.taint.map bD),.int .i64 s.taint.length,.int .i64 (0:Nat)] ((bt,⟨1,List.replicate s.taint.length [.nils]⟩)::(b2,⟨4,[[.int .i64 0,.nils,.nils,.int .i64 0]]⟩)::(b1,y)::am o 1 (s.regs.map az)):=by
  intro bt y hy
  subst hy
  refine cv s.taint.length (fun k (_:Unit)=>([.ptr b1 0 0,.ptr b2 0 0,.sl bt 0 s.taint.length,.lst (s.taint.map bD),.int .i64 s.taint.length,.int .i64 k],(bt,⟨1,jL s.taint k⟩)::(b2,⟨4,[[.int .i64 0,.nils,.nils,.int .i64 0]]⟩)::(b1,⟨4,[[.int .i64 s.pc,cR o s.regs.length,.lst (s.taint.map bD),.int .i64 s.ev]]⟩)::am o 1 (s.regs.map az))) (fun _ _=>True) () trivial (gh rfl (by simp[jL])) ?_
  intro k _ hk _
  dsimp only
  unfold fE
  rcases Nat.lt_or_ge k s.taint.length with g1 | g1
  ·have hd:=bW g1
   have hx:=aw (f:=bD) g1
   have hz:=EX s.taint k g1
   have hkl:k<(jL s.taint k).length:=by rw[Dv _ _ hk];exact g1
   have hrk:(s.taint[k]).length*8≤140737488355328:=by have:=h3 _ (List.getElem_mem g1);omega
   cases o with
   | none=>
    dsimp only[am,cR]
    repeat' (first | refine st ?_ | ((with_reducible refine ao 28 ?_);refine af (eC _ hrk) ?_) | ((with_reducible refine al 28 ?_);refine ab (eC _ hrk) ?_) | unfold fD | refine sb (fun nb_ hnb_=>?_) | refine s2 (fun h=>?_) (fun h=>?_) | fail)
    exact⟨k+1,(),by omega,by omega,trivial,gh (by rw[bc g1 (by omega)]<;>rfl) (by rw[←yY _ _ g1];rfl)⟩
   | some b'=>
    dsimp only[am,cR]
    repeat' (first | refine st ?_ | ((with_reducible refine ao 28 ?_);refine af (eC _ hrk) ?_) | ((with_reducible refine al 28 ?_);refine ab (eC _ hrk) ?_) | unfold fD | refine sb (fun nb_ hnb_=>?_) | refine s2 (fun h=>?_) (fun h=>?_) | fail)
    exact⟨k+1,(),by omega,by omega,trivial,gh (by rw[bc g1 (by omega)]<;>rfl) (by rw[←yY _ _ g1];rfl)⟩
  ·have hd:=cX g1
   have hk0:k=s.taint.length:=by omega
   subst hk0
   have e:jL s.taint s.taint.length=s.taint.map bD:=by simp[jL]
   rw[e]
   cases o with
   | none=>
    dsimp only[am,cR]at fin ⊢
    repeat' (first | refine st ?_ | refine sb (fun nb_ hnb_=>?_) | refine s2 (fun h=>?_) (fun h=>?_) | fail)
    exact fin _ _ ⟨_,_,rfl⟩
   | some b'=>
    dsimp only[am,cR]at fin ⊢
    repeat' (first | refine st ?_ | refine sb (fun nb_ hnb_=>?_) | refine s2 (fun h=>?_) (fun h=>?_) | fail)
    exact fin _ _ ⟨_,_,rfl⟩
 cases o with
 | none=>
  dsimp only[am,cR]at loop ⊢
  repeat' (first | refine st ?_ | refine sb (fun nb_ hnb_=>?_) | refine s2 (fun h=>?_) (fun h=>?_) | fail)
  exact loop _ _ rfl
 | some b'=>
  dsimp only[am,cR]at loop ⊢
  repeat' (first | refine st ?_ | refine sb (fun nb_ hnb_=>?_) | refine s2 (fun h=>?_) (fun h=>?_) | fail)
  exact loop _ _ rfl
end Go.Proofs.YtljkdffikfkcgaaGreat.Am
end
section
namespace Go.Proofs.YtljkdffikfkcgaaGreat.Am
set_option maxRecDepth 100000
set_option linter.unusedSimpArgs false
set_option linter.unusedVariables false
set_option linter.unusedSectionVars false
theorem EY(a b:List Int)(ha:a.length≤2^30)(hb:b.length≤2^30):aD Tryz.prog 32 [.lst (a.map az),.lst (b.map az)] (.lst ((xX (a++b)).map az)):=by
 refine aj.fz (ul _ _ _ _ ?_)
 unfold ku
 generalize hQ:(fun(v:AV) (L:SH)=>∃v2 L2,aN [v] L [v2] L2∧v2=AV.lst ((xX (a++b)).map az)∧L2=[])=Q
 have hsum:IntKind.i64.wrap ((a.length:Int)+b.length)=((a.length+b.length:Nat):Int):=by rw[IntWalk.i64_in _ (by omega)];omega
 have fin:∀(bk:Nat) (L:SH),(bk,(⟨1,(Lib.compact (xP (a++b))++List.replicate ((a++b).length-(Lib.compact (xP (a++b))).length) 0).map az⟩:Blk))∈L→Q (.sl bk 0 (Lib.compact (xP (a++b))).length) L:=fun bk L hm=>by
  subst hQ
  refine⟨_,[],aN.all ?_,rfl,rfl⟩
  show Fz _ (.sl bk 0 (xX (a++b)).length) (.lst ((xX (a++b)).map az))
  rw[show(xX (a++b)).map az=((((Lib.compact (xP (a++b))++List.replicate ((a++b).length-(Lib.compact (xP (a++b))).length) 0).map az).drop 0).take (xX (a++b)).length)from(EW (List.take_left' rfl)).symm]
  exact Fz.rows (x:=⟨1,_⟩) hm (by simp) (by simp[xX])
 have h2:=fun bk:Nat=>GB bk (a++b) (by simp;omega)
 have h3:=fun bk:Nat=>B8 bk (xP (a++b)) (by rw[zI];simp;omega)
 simp only[zI]at h3
 repeat' (first | refine st ?_ | refine sb (fun nb_ hnb_=>?_) | refine s2 (fun h=>?_) (fun h=>?_) | fail)
 refine AS (i:=0) (j:=a.length+b.length) (by omega) (by omega) (by omega) (fun nb_ hnb_=>?_)
 repeat' (first | refine st ?_ | refine iS rp (fun _=>rfl) (by simp) (by simp;omega) (by simp;omega) (fun _=>rfl) (fun nb_ hnb_=>?_) | refine sb (fun nb_ hnb_=>?_) | refine s2 (fun h=>?_) (fun h=>?_) | fail)
 simp only[List.replicate,List.nil_append,←List.map_append,Nat.zero_add,←List.length_append]
 repeat' (first | refine st ?_ | ((with_reducible refine ao 47 ?_);(refine lp (h2 _) (.here _) ?_;rintro _ _ ⟨rfl,rfl⟩)) | ((with_reducible refine ao 48 ?_);(refine lp (h3 _) (.here _) ?_;rintro _ _ ⟨rfl,rfl⟩)) | refine sb (fun nb_ hnb_=>?_) | refine s2 (fun h=>?_) (fun h=>?_) | fail)
 exact fin _ _ rp
end Go.Proofs.YtljkdffikfkcgaaGreat.Am
end
section
namespace Go.Proofs.YtljkdffikfkcgaaGreat.Am
set_option maxRecDepth 100000
set_option linter.unusedSimpArgs false
set_option linter.unusedVariables false
def qR(p:Int×Bool):AV:=.tup [.int .i64 p.1,.bool p.2]
theorem qS(b:Bool):aD Tryz.prog 46 [.bool b] (.int .i64 (gl b)):=by
 refine xZ _ _ _ ?_
 unfold qx
 cases b
 all_goals
  repeat' (first | refine st ?_ | refine sb (fun nb_ hnb_=>?_) | refine s2 (fun h=>?_) (fun h=>?_) | fail)
  exact⟨rfl,rfl⟩
theorem EZ(op a:Int):aD Tryz.prog 30 [.int .i64 op,.int .i64 a] (qR (xY op a)):=by
 refine yb _ _ _ _ ?_
 unfold qy
 generalize hQ:(fun(u:AV) (K:SH)=>u=qR (xY op a)∧K=[])=Q
 repeat' (first | refine st ?_ | ((with_reducible refine ao 46 ?_);refine af (qS _) ?_) | ((with_reducible refine al 46 ?_);refine ab (qS _) ?_) | refine sb (fun nb_ hnb_=>?_) | refine s2 (fun h=>?_) (fun h=>?_) | fail)
 all_goals
  subst hQ
  refine⟨?_,rfl⟩
  simp_all[xY,qR]
theorem Dw(op a b:Int):aD Tryz.prog 31 [.int .i64 op,.int .i64 a,.int .i64 b] (qR (iA op a b)):=by
 refine wH _ _ _ _ _ ?_
 unfold mY
 generalize hQ:(fun(u:AV) (K:SH)=>u=qR (iA op a b)∧K=[])=Q
 repeat' (first | refine st ?_ | ((with_reducible refine ao 46 ?_);refine af (qS _) ?_) | ((with_reducible refine al 46 ?_);refine ab (qS _) ?_) | refine sb (fun nb_ hnb_=>?_) | refine s2 (fun h=>?_) (fun h=>?_) | fail)
 all_goals
  subst hQ
  refine⟨?_,rfl⟩
  simp_all[iA,qR]
end Go.Proofs.YtljkdffikfkcgaaGreat.Am
end
section
namespace Go.Proofs.YtljkdffikfkcgaaGreat.Am
set_option maxRecDepth 100000
set_option linter.unusedSimpArgs false
set_option linter.unusedVariables false
set_option linter.unusedSectionVars false
theorem ef{P:Program}{KL:AV→SH→Prop}{g:FuncId}{cs args:List AV}{L L':SH}{b:Nat}{x:Blk}{R:AV→SH→Prop}(h:aj P g (args++cs) [(b,x)] R)(hd:dE b x L L')(hk:∀v K,R v K→KL v (K++L')):W.call P (.fn g cs) args L KL:=
 ⟨h.frame (K:=[(b,x)]) (R:=L') hd.perm fun u K hu=>hk u K hu⟩
def cq(s:bC)(o t:Option Nat):List AV:=[.int .i64 s.pc,cR o s.regs.length,cR t s.taint.length,.int .i64 s.ev]
def gr(s:bC)(bs:Nat)(o t:Option Nat):SH:=(bs,⟨4,[cq s o t]⟩)::(am o 1 (s.regs.map az)++am t 1 (s.taint.map bD))
def sX(r:Option bC)(bs:Nat)(o t:Option Nat)(v:AV)(L:SH):Prop:=
 match r with
 | none=>v=.bool false
 | some s2=>v=.bool true∧L=gr s2 bs o t
theorem CY(s:bC)(bs:Nat)(o t:Option Nat)(ho:o=none→s.regs=[])(r:Int):aj Tryz.prog 29 [.int .i64 r,.pptr [[.ptr bs 0 0]] 0 0] [(bs,⟨4,[cq s o t]⟩)] fun v L=>v=.bool (s.has r)∧L=[(bs,⟨4,[cq s o t]⟩)]:=by
 refine lF _ _ _ _ ?_
 unfold gq
 generalize hQ:(fun(v:AV) (L:SH)=>v=.bool (s.has r)∧L=[(bs,(⟨4,[cq s o t]⟩:Blk))])=Q
 cases o with
 | none=>
  have h0:=ho rfl
  unfold cq at hQ ⊢
  dsimp only[cR]at hQ ⊢
  repeat' (first | refine st ?_ | refine sb (fun nb_ hnb_=>?_) | refine s2 (fun h=>?_) (fun h=>?_) | fail)
  all_goals
   subst hQ
   refine⟨?_,rfl⟩
   simp_all[bC.has,inB]<;>omega
 | some b=>
  unfold cq at hQ ⊢
  dsimp only[cR]at hQ ⊢
  repeat' (first | refine st ?_ | refine sb (fun nb_ hnb_=>?_) | refine s2 (fun h=>?_) (fun h=>?_) | fail)
  all_goals
   subst hQ
   refine⟨?_,rfl⟩
   simp_all[bC.has,inB]<;>omega
theorem cU{s:bC}{r:Int}:s.has r=true↔∃k:Nat,r=k∧k<s.regs.length:=by
 unfold bC.has
 rw[hM]
 exact⟨fun⟨h1,h2⟩=>⟨r.toNat,by omega,by omega⟩,fun⟨k,h1,h2⟩=>by omega⟩
theorem cV{o:Option Nat}{α:Type}{l:List α}{k:Nat}(h:o=none→l=[])(hk:k<l.length):∃b,o=some b:=by
 cases o with
 | none=>rw[h rfl]at hk;simp at hk
 | some b=>exact⟨b,rfl⟩
section
variable (s:bC) (bs:Nat) (o t:Option Nat) (ho:o=none→s.regs=[]) (ht:t=none→s.taint=[]) (hlen:s.taint.length=s.regs.length) (hsm:s.regs.length<2^40) (hsh:∀l∈s.taint,l.length≤2^30) (ia ib ic n site:Int)
include ho ht hlen hsm hsh
theorem ID:aj Tryz.prog 13 [.ptr bs 0 0,.agg (av.mk 5 ia ib ic n site).enc] (gr s bs o t) (sX (aK ⟨5,ia,ib,ic,n,site⟩ s) bs o t):=by
 refine cM _ _ _ _ ?_
 unfold cB
 generalize hQ:sX (aK ⟨5,ia,ib,ic,n,site⟩ s) bs o t=Q
 unfold gr
 repeat' (first | refine st ?_ | refine sb (fun nb_ hnb_=>?_) | refine s2 (fun h=>?_) (fun h=>?_) | fail)
 subst hQ
 exact⟨rfl,rfl⟩
theorem IE:aj Tryz.prog 13 [.ptr bs 0 0,.agg (av.mk 1 ia ib ic n site).enc] (gr s bs o t) (sX (aK ⟨1,ia,ib,ic,n,site⟩ s) bs o t):=by
 have hex:=fun r=>CY s bs o t ho r
 refine aj.fz (cM _ _ _ _ ?_)
 unfold cB
 generalize hQ:(fun(v:AV) (L:SH)=>∃v2 L2,aN [v] L [v2] L2∧sX (aK ⟨1,ia,ib,ic,n,site⟩ s) bs o t v2 L2)=Q
 cases ha:s.has ia with
 | false=>
  have e:aK ⟨1,ia,ib,ic,n,site⟩ s=none:=by simp[aK,ha]
  unfold gr
  repeat' (first | refine st ?_ | (refine sN (ef (hex _) (.here _) ?_);rintro _ _ ⟨rfl,rfl⟩;(try rw[ha])) | refine sb (fun nb_ hnb_=>?_) | refine s2 (fun h=>?_) (fun h=>?_) | fail)
  subst hQ
  rw[e]
  exact⟨_,[],aN.all (.refl _),rfl⟩
 | true=>
  have e:aK ⟨1,ia,ib,ic,n,site⟩ s=some (s.put ia n []):=by simp[aK,ha]
  rw[e]at hQ
  obtain⟨a,rfl,hal⟩:=cU.1 ha
  obtain⟨b1,rfl⟩:=cV ho hal
  obtain⟨b2,rfl⟩:=cV ht (k:=a) (by omega)
  have hal2:a<s.taint.length:=by omega
  have hxa:=aw (f:=az) hal
  have hya:=aw (f:=bD) hal2
  unfold gr
  dsimp only[am,List.cons_append,List.nil_append]
  repeat' (first | refine st ?_ | (refine sN (ef (hex _) (.here _) ?_);rintro _ _ ⟨rfl,rfl⟩;first | rw[ha]) | refine sb (fun nb_ hnb_=>?_) | refine s2 (fun h=>?_) (fun h=>?_) | fail)
  subst hQ
  refine⟨_,_,?_,rfl,rfl⟩
  have e1:(s.put a n []).regs.map az=(s.regs.map az).set a [.int .i64 n]:=by simp[bC.put,List.map_set,az]
  have e2:(s.put a n []).taint.map bD=(s.taint.map bD).set a [.lst []]:=by simp[bC.put,List.map_set,bD]
  have e3:cq (s.put a n []) (some b1) (some b2)=[.int .i64 (IntKind.i64.wrap (s.pc+1)),.sl b1 0 s.regs.length,.sl b2 0 s.taint.length,.int .i64 s.ev]:=by simp[cq,bC.put,cR]
  unfold gr
  rw[e1,e2,e3]
  dsimp only[am,List.cons_append,List.nil_append]
  refine aN.rowA (K:=[]) (A:=[(bs,_),(b1,_)]) (b:=b2) (R:=[]) (rows:=(s.taint.map bD).set a [.nils]) (rows':=(s.taint.map bD).set a [.lst []]) rp (by simp) (fun j r r' q1 q2=>?_) rfl
  rw[List.getElem?_set]at q1 q2
  by_cases hj:a=j
  ·rw[if_pos hj]at q1 q2
   rw[if_pos (by simp;omega)]at q1 q2
   cases q1;cases q2
   exact .cons .nils .nil
  ·rw[if_neg hj]at q1 q2
   rw[q1]at q2;cases q2
   exact nI.refl _ _
theorem IF:aj Tryz.prog 13 [.ptr bs 0 0,.agg (av.mk 2 ia ib ic n site).enc] (gr s bs o t) (sX (aK ⟨2,ia,ib,ic,n,site⟩ s) bs o t):=by
 have hex:=fun r=>CY s bs o t ho r
 refine cM _ _ _ _ ?_
 unfold cB
 generalize hQ:sX (aK ⟨2,ia,ib,ic,n,site⟩ s) bs o t=Q
 cases ha:s.has ia with
 | false=>
  have e:aK ⟨2,ia,ib,ic,n,site⟩ s=none:=by simp[aK,ha]
  unfold gr
  repeat' (first | refine st ?_ | (refine sN (ef (hex _) (.here _) ?_);rintro _ _ ⟨rfl,rfl⟩;first | rw[ha]) | refine sb (fun nb_ hnb_=>?_) | refine s2 (fun h=>?_) (fun h=>?_) | fail)
  subst hQ
  rw[e];rfl
 | true=>
  cases hb:s.has ib with
  | false=>
   have e:aK ⟨2,ia,ib,ic,n,site⟩ s=none:=by simp[aK,hb]
   unfold gr
   repeat' (first | refine st ?_ | (refine sN (ef (hex _) (.here _) ?_);rintro _ _ ⟨rfl,rfl⟩;first | rw[ha] | rw[hb]) | refine sb (fun nb_ hnb_=>?_) | refine s2 (fun h=>?_) (fun h=>?_) | fail)
   subst hQ
   rw[e];rfl
  | true=>
   have e:aK ⟨2,ia,ib,ic,n,site⟩ s=some (s.put ia (s.reg ib) (s.tnt ib)):=by simp[aK,ha,hb]
   rw[e]at hQ
   obtain⟨a,rfl,hal⟩:=cU.1 ha
   obtain⟨b,rfl,hbl⟩:=cU.1 hb
   obtain⟨b1,rfl⟩:=cV ho hal
   obtain⟨b2,rfl⟩:=cV ht (k:=a) (by omega)
   have hal2:a<s.taint.length:=by omega
   have hxa:=aw (f:=az) hal
   have hya:=aw (f:=bD) hal2
   have hbl2:b<s.taint.length:=by omega
   have hxb:=aw (f:=az) hbl
   have hyb:=aw (f:=bD) hbl2
   have hcl:=eC s.taint[b] (by have:=hsh _ (List.getElem_mem hbl2);omega)
   unfold gr
   dsimp only[am,List.cons_append,List.nil_append]
   repeat' (first | refine st ?_ | (refine sN (ef (hex _) (.here _) ?_);rintro _ _ ⟨rfl,rfl⟩;first | rw[ha] | rw[hb]) | ((with_reducible refine ao 28 ?_);refine af (hcl) ?_) | ((with_reducible refine al 28 ?_);refine ab (hcl) ?_) | refine sb (fun nb_ hnb_=>?_) | refine s2 (fun h=>?_) (fun h=>?_) | fail)
   subst hQ
   refine⟨rfl,?_⟩
   simp[gr,bC.put,cq,bC.reg,bC.tnt,am,List.getD,hbl,hbl2,List.map_set,az,bD]
theorem IG:aj Tryz.prog 13 [.ptr bs 0 0,.agg (av.mk 3 ia ib ic n site).enc] (gr s bs o t) (sX (aK ⟨3,ia,ib,ic,n,site⟩ s) bs o t):=by
 have hex:=fun r=>CY s bs o t ho r
 refine cM _ _ _ _ ?_
 unfold cB
 generalize hQ:sX (aK ⟨3,ia,ib,ic,n,site⟩ s) bs o t=Q
 cases ha:s.has ia with
 | false=>
  have e:aK ⟨3,ia,ib,ic,n,site⟩ s=none:=by simp[aK,ha]
  unfold gr
  repeat' (first | refine st ?_ | (refine sN (ef (hex _) (.here _) ?_);rintro _ _ ⟨rfl,rfl⟩;first | rw[ha]) | refine sb (fun nb_ hnb_=>?_) | refine s2 (fun h=>?_) (fun h=>?_) | fail)
  subst hQ
  rw[e];rfl
 | true=>
  cases hb:s.has ib with
  | false=>
   have e:aK ⟨3,ia,ib,ic,n,site⟩ s=none:=by simp[aK,hb]
   unfold gr
   repeat' (first | refine st ?_ | (refine sN (ef (hex _) (.here _) ?_);rintro _ _ ⟨rfl,rfl⟩;first | rw[ha] | rw[hb]) | refine sb (fun nb_ hnb_=>?_) | refine s2 (fun h=>?_) (fun h=>?_) | fail)
   subst hQ
   rw[e];rfl
  | true=>
   have e:aK ⟨3,ia,ib,ic,n,site⟩ s=if(xY n (s.reg ib)).2 then some (s.put ia (xY n (s.reg ib)).1 (s.tnt ib))else none:=by simp[aK,ha,hb]
   rw[e]at hQ
   obtain⟨a,rfl,hal⟩:=cU.1 ha
   obtain⟨b,rfl,hbl⟩:=cU.1 hb
   obtain⟨b1,rfl⟩:=cV ho hal
   obtain⟨b2,rfl⟩:=cV ht (k:=a) (by omega)
   have hal2:a<s.taint.length:=by omega
   have hxa:=aw (f:=az) hal
   have hya:=aw (f:=bD) hal2
   have hbl2:b<s.taint.length:=by omega
   have hxb:=aw (f:=az) hbl
   have hyb:=aw (f:=bD) hbl2
   have hcl:=eC s.taint[b] (by have:=hsh _ (List.getElem_mem hbl2);omega)
   have hun:=EZ n s.regs[b]
   have hrb:s.reg b=s.regs[b]:=by simp[bC.reg,List.getD,hbl]
   have htb:s.tnt b=s.taint[b]:=by simp[bC.tnt,List.getD,hbl2]
   rw[hrb,htb]at hQ
   generalize xY n s.regs[b]=p at hun hQ
   unfold qR at hun
   unfold gr
   dsimp only[am,List.cons_append,List.nil_append]
   repeat' (first | refine st ?_ | (refine sN (ef (hex _) (.here _) ?_);rintro _ _ ⟨rfl,rfl⟩;first | rw[ha] | rw[hb]) | ((with_reducible refine ao 28 ?_);refine af (hcl) ?_) | ((with_reducible refine al 28 ?_);refine ab (hcl) ?_) | ((with_reducible refine ao 30 ?_);refine af (hun) ?_) | ((with_reducible refine al 30 ?_);refine ab (hun) ?_) | refine sb (fun nb_ hnb_=>?_) | refine s2 (fun h=>?_) (fun h=>?_) | fail)
   subst hQ
   unfold sX
   cases hp:p.2 with
   | false=>rfl
   | true=>
    refine⟨rfl,?_⟩
    simp[gr,bC.put,cq,am,List.map_set,az,bD]
theorem IH:aj Tryz.prog 13 [.ptr bs 0 0,.agg (av.mk 4 ia ib ic n site).enc] (gr s bs o t) (sX (aK ⟨4,ia,ib,ic,n,site⟩ s) bs o t):=by
 have hex:=fun r=>CY s bs o t ho r
 refine cM _ _ _ _ ?_
 unfold cB
 generalize hQ:sX (aK ⟨4,ia,ib,ic,n,site⟩ s) bs o t=Q
 cases ha:s.has ia with
 | false=>
  have e:aK ⟨4,ia,ib,ic,n,site⟩ s=none:=by simp[aK,ha]
  unfold gr
  repeat' (first | refine st ?_ | (refine sN (ef (hex _) (.here _) ?_);rintro _ _ ⟨rfl,rfl⟩;first | rw[ha]) | refine sb (fun nb_ hnb_=>?_) | refine s2 (fun h=>?_) (fun h=>?_) | fail)
  subst hQ
  rw[e];rfl
 | true=>
  cases hb:s.has ib with
  | false=>
   have e:aK ⟨4,ia,ib,ic,n,site⟩ s=none:=by simp[aK,hb]
   unfold gr
   repeat' (first | refine st ?_ | (refine sN (ef (hex _) (.here _) ?_);rintro _ _ ⟨rfl,rfl⟩;first | rw[ha] | rw[hb]) | refine sb (fun nb_ hnb_=>?_) | refine s2 (fun h=>?_) (fun h=>?_) | fail)
   subst hQ
   rw[e];rfl
  | true=>
   cases hc:s.has ic with
   | false=>
    have e:aK ⟨4,ia,ib,ic,n,site⟩ s=none:=by simp[aK,hc]
    unfold gr
    repeat' (first | refine st ?_ | (refine sN (ef (hex _) (.here _) ?_);rintro _ _ ⟨rfl,rfl⟩;first | rw[ha] | rw[hb] | rw[hc]) | refine sb (fun nb_ hnb_=>?_) | refine s2 (fun h=>?_) (fun h=>?_) | fail)
    subst hQ
    rw[e];rfl
   | true=>
    have e:aK ⟨4,ia,ib,ic,n,site⟩ s=if(iA n (s.reg ib) (s.reg ic)).2 then some (s.put ia (iA n (s.reg ib) (s.reg ic)).1 (xX (s.tnt ib++s.tnt ic)))else none:=by simp[aK,ha,hb,hc]
    rw[e]at hQ
    obtain⟨a,rfl,hal⟩:=cU.1 ha
    obtain⟨b,rfl,hbl⟩:=cU.1 hb
    obtain⟨c,rfl,hcl⟩:=cU.1 hc
    obtain⟨b1,rfl⟩:=cV ho hal
    obtain⟨b2,rfl⟩:=cV ht (k:=a) (by omega)
    have hal2:a<s.taint.length:=by omega
    have hxa:=aw (f:=az) hal
    have hya:=aw (f:=bD) hal2
    have hbl2:b<s.taint.length:=by omega
    have hxb:=aw (f:=az) hbl
    have hyb:=aw (f:=bD) hbl2
    have hcl2:c<s.taint.length:=by omega
    have hxc:=aw (f:=az) hcl
    have hyc:=aw (f:=bD) hcl2
    have hun2:=EY s.taint[b] s.taint[c] (hsh _ (List.getElem_mem hbl2)) (hsh _ (List.getElem_mem hcl2))
    have hun:=Dw n s.regs[b] s.regs[c]
    have hrb:s.reg b=s.regs[b]:=by simp[bC.reg,List.getD,hbl]
    have htb:s.tnt b=s.taint[b]:=by simp[bC.tnt,List.getD,hbl2]
    have hrc:s.reg c=s.regs[c]:=by simp[bC.reg,List.getD,hcl]
    have htc:s.tnt c=s.taint[c]:=by simp[bC.tnt,List.getD,hcl2]
    rw[hrb,htb,hrc,htc]at hQ
    generalize iA n s.regs[b] s.regs[c]=p at hun hQ
    generalize xX (s.taint[b]++s.taint[c])=u at hun2 hQ
    unfold qR at hun
    unfold gr
    dsimp only[am,List.cons_append,List.nil_append]
    repeat' (first | refine st ?_ | (refine sN (ef (hex _) (.here _) ?_);rintro _ _ ⟨rfl,rfl⟩;first | rw[ha] | rw[hb] | rw[hc]) | ((with_reducible refine ao 32 ?_);refine af (hun2) ?_) | ((with_reducible refine al 32 ?_);refine ab (hun2) ?_) | ((with_reducible refine ao 31 ?_);refine af (hun) ?_) | ((with_reducible refine al 31 ?_);refine ab (hun) ?_) | refine sb (fun nb_ hnb_=>?_) | refine s2 (fun h=>?_) (fun h=>?_) | fail)
    subst hQ
    unfold sX
    cases hp:p.2 with
    | false=>rfl
    | true=>
     refine⟨rfl,?_⟩
     simp[gr,bC.put,cq,am,List.map_set,az,bD]
end
end Go.Proofs.YtljkdffikfkcgaaGreat.Am
end
section
namespace Go.Proofs.YtljkdffikfkcgaaGreat.Am
set_option maxRecDepth 100000
set_option linter.unusedSimpArgs false
set_option linter.unusedVariables false
set_option linter.unusedSectionVars false
def hO:List AV:=[.int .i64 0,.nils,.nils,.int .i64 0]
theorem lq{P:Program}{KL R1:AV→SH→Prop}{g:FuncId}{args:List AV}{L K R:SH}(h:aj P g args K R1)(hL:L.Perm (K++R))(hq:∀v K',R1 v K'→KL v (R++K')):W.callM P g args L KL:=
 ⟨.perm (h.frame hL fun u K' hu=>⟨R++K',List.perm_append_comm,hq u K' hu⟩)⟩
theorem E0(s:bC)(bs:Nat)(o t:Option Nat)(ho:o=none→s.regs=[])(ht:t=none→s.taint=[])(hlen:s.taint.length=s.regs.length)(hsm:s.regs.length<2^40)(hsh:∀l∈s.taint,l.length≤2^30)(i:av)(h1:1≤i.op)(h5:i.op≤5):
  aj Tryz.prog 13 [.ptr bs 0 0,.agg i.enc] (gr s bs o t) (sX (aK i s) bs o t):=by
 obtain⟨op,ia,ib,ic,n,site⟩:=i
 dsimp only at h1 h5
 obtain rfl | rfl | rfl | rfl | rfl:op=1∨op=2∨op=3∨op=4∨op=5:=by omega
 ·exact IE s bs o t ho ht hlen hsm hsh ia ib ic n site
 ·exact IF s bs o t ho ht hlen hsm hsh ia ib ic n site
 ·exact IG s bs o t ho ht hlen hsm hsh ia ib ic n site
 ·exact IH s bs o t ho ht hlen hsm hsh ia ib ic n site
 ·exact ID s bs o t ho ht hlen hsm hsh ia ib ic n site
theorem qT(s:bC)(a v:Int)(t:List Int):(s.put a v t).regs.length=s.regs.length∧(s.put a v t).taint.length=s.taint.length:=by simp[bC.put]
theorem yZ{s s2:bC}{i:av}(he:aK i s=some s2):s2.regs.length=s.regs.length∧s2.taint.length=s.taint.length:=by
 unfold aK at he
 split at he
 ·split at he
  ·cases he;exact qT _ _ _ _
  ·cases he
 ·split at he
  ·split at he
   ·cases he;exact qT _ _ _ _
   ·cases he
  ·split at he
   ·split at he
    ·cases he;exact qT _ _ _ _
    ·cases he
   ·split at he
    ·split at he
     ·cases he;exact qT _ _ _ _
     ·cases he
    ·cases he;exact⟨rfl,rfl⟩
theorem A7{α:Type}{K:SH}{f:α→List AV}{l:List α}{o:Option Nat}{n:Nat}(hn:n=l.length)(h0:o=none→l=[])(hm:∀b,o=some b→(b,(⟨1,l.map f⟩:Blk))∈K):Fz K (cR o n) (.lst (l.map f)):=by
 cases o with
 | none=>rw[h0 rfl];exact .refl _
 | some b=>exact Fz.sls (hm b rfl) rfl (by decide) hn
theorem CZ{K:SH}{s:bC}{o t:Option Nat}(ho:o=none→s.regs=[])(ht:t=none→s.taint=[])(h:∀p∈am o 1 (s.regs.map az)++am t 1 (s.taint.map bD),p∈K):Fz K (.agg (cq s o t)) (.agg s.enc):=
 Fz.aggs (.cons (.refl _) (.cons (A7 rfl ho fun b e=>h _ (by subst e;simp[am])) (.cons (A7 rfl ht fun b e=>h _ (by subst e;simp[am])) (.cons (.refl _) .nil))))
theorem lr(K:SH):Fz K (.agg hO) (.agg bC.zero.enc):=Fz.aggs (.cons (.refl _) (.cons .nils (.cons .nils (.cons (.refl _) .nil))))
theorem kw{K:SH}{a b:AV}{ok:Bool}(h:Fz K a b):Fz K (.tup [a,.bool ok]) (.tup [b,.bool ok]):=.tup _ _ rfl fun i x y h1 h2=>by
 match i with
 | 0=>cases h1;cases h2;exact h
 | 1=>cases h1;cases h2;exact .refl _
 | i+2=>simp at h1
theorem vp{ins:List av}{k:Nat}{s:bC}(h:inB s.pc ins.length=false):cx ins k s=(bC.zero,false):=by cases k<;>simp[cx,h]
theorem A8{ins:List av}{k:Nat}{s:bC}(h:inB s.pc ins.length=true)(h2:(ins.getD s.pc.toNat default).op<1∨5<(ins.getD s.pc.toNat default).op):cx ins k s=(s,true):=by cases k<;>simp only[cx,h,if_true,if_pos h2]
theorem A9{ins:List av}{k:Nat}{s:bC}(h:inB s.pc ins.length=true)(h2:¬((ins.getD s.pc.toNat default).op<1∨5<(ins.getD s.pc.toNat default).op))(h3:aK (ins.getD s.pc.toNat default) s=none):cx ins k s=(bC.zero,false):=by cases k<;>simp only[cx,h,if_true,if_neg h2,h3]
theorem Ba{ins:List av}{s:bC}(h:inB s.pc ins.length=true)(h2:¬((ins.getD s.pc.toNat default).op<1∨5<(ins.getD s.pc.toNat default).op)):cx ins 0 s=(bC.zero,false):=by simp only[cx,h,if_true,if_neg h2]
theorem Bb{ins:List av}{k:Nat}{s s2:bC}(h:inB s.pc ins.length=true)(h2:¬((ins.getD s.pc.toNat default).op<1∨5<(ins.getD s.pc.toNat default).op))(h3:aK (ins.getD s.pc.toNat default) s=some s2):cx ins (k+1) s=cx ins k s2:=by simp only[cx,h,if_true,if_neg h2,h3]
section
variable (c:sx) (s:bC) (U:List Int) (hU:U.length≤2^30) (hT:iR U s) (hc:c.ins.length<2^40) (o t:Option Nat) (ho:o=none→s.regs=[]) (ht:t=none→s.taint=[])
include hU hT hc ho ht
theorem Bc(b3 b4:Nat)(Q:AV→SH→Prop)(hq:∀v L,Fz L v (zK (cx c.ins c.ins.length s))→Q v L):
  W.loop (fa Q) [.pptr [c.enc] 0 0,.ptr b3 0 0,.ptr b4 0 0,.int .i64 (0:Nat)] ((b4,⟨4,[hO]⟩)::gr s b3 o t):=by
 refine cv c.ins.length (fun k (e:bC)=>([.pptr [c.enc] 0 0,.ptr b3 0 0,.ptr b4 0 0,.int .i64 k],(b4,⟨4,[hO]⟩)::gr e b3 o t)) (fun k e=>iR U e∧(e.regs.length=s.regs.length∧e.taint.length=s.taint.length)∧cx c.ins (c.ins.length-k) e=cx c.ins c.ins.length s) s ⟨hT,⟨rfl,rfl⟩,rfl⟩ (.refl _ _) ?_
 intro k e hk ⟨he,⟨hl1,hl2⟩,hrun⟩
 rw[←hrun]at hq
 have ho':o=none→e.regs=[]:=fun x=>List.length_eq_zero_iff.1 (by rw[hl1,ho x];rfl)
 have ht':t=none→e.taint=[]:=fun x=>List.length_eq_zero_iff.1 (by rw[hl2,ht x];rfl)
 dsimp only
 unfold fa
 have zero:cx c.ins (c.ins.length-k) e=(bC.zero,false)→∀L,Q (.tup [.agg hO,.bool false]) L:=fun h L=>hq _ _ (by rw[h];exact kw (lr _))
 by_cases p1:e.pc<0
 ·have hd1:decide (e.pc<0)=true:=by simpa using p1
  have hz:=zero (vp (by simp[inB];omega))
  unfold gr cq
  repeat' (first | refine st ?_ | refine sb (fun nb_ hnb_=>?_) | refine s2 (fun h=>?_) (fun h=>?_) | fail)
  exact hz _
 ·have hd1:decide (e.pc<0)=false:=by simpa using p1
  by_cases p2:(c.ins.length:Int)≤e.pc
  ·have hd2:decide ((c.ins.length:Int)≤e.pc)=true:=by simpa using p2
   have hz:=zero (vp (by simp[inB];omega))
   unfold gr cq
   repeat' (first | refine st ?_ | refine sb (fun nb_ hnb_=>?_) | refine s2 (fun h=>?_) (fun h=>?_) | fail)
   exact hz _
  ·have hd2:decide ((c.ins.length:Int)≤e.pc)=false:=by simpa using p2
   have hin:inB e.pc c.ins.length=true:=by simp[inB];omega
   have hx:=Ez (f:=av.enc) hin
   generalize hi:c.ins.getD e.pc.toNat default=i at hx
   by_cases p3:i.op<1∨5<i.op
   ·have hr:=A8 (k:=c.ins.length-k) hin (by rw[hi];exact p3)
    rw[hr]at hq
    have fin:∀x,Q (.tup [.agg (cq e o t),.bool true]) ((b4,x)::gr e b3 o t):=fun x=>hq _ _ (kw (CZ ho' ht' fun p hp=>by unfold gr;exact .tail _ (.tail _ hp)))
    unfold gr cq at fin ⊢
    by_cases p4:i.op<1
    ·have q1:decide (i.op<1)=true:=by simpa using p4
     rcases o with _ | b1<;>rcases t with _ | b2
     all_goals
      dsimp only[cR,am,List.cons_append,List.nil_append]at fin ⊢
      repeat' (first | refine st ?_ | refine sb (fun nb_ hnb_=>?_) | refine s2 (fun h=>?_) (fun h=>?_) | fail)
      exact fin _
    ·have q1:decide (i.op<1)=false:=by simpa using p4
     have q2:decide (5<i.op)=true:=by simp;omega
     rcases o with _ | b1<;>rcases t with _ | b2
     all_goals
      dsimp only[cR,am,List.cons_append,List.nil_append]at fin ⊢
      repeat' (first | refine st ?_ | refine sb (fun nb_ hnb_=>?_) | refine s2 (fun h=>?_) (fun h=>?_) | fail)
      exact fin _
   ·have q1:decide (i.op<1)=false:=by simp;omega
    have q2:decide (5<i.op)=false:=by simp;omega
    by_cases p5:k=c.ins.length
    ·have q3:decide ((k:Int)=(c.ins.length:Int))=true:=by simp[p5]
     have hz:=zero (by rw[p5,Nat.sub_self];exact Ba hin (by rw[hi];exact p3))
     unfold gr cq
     repeat' (first | refine st ?_ | refine sb (fun nb_ hnb_=>?_) | refine s2 (fun h=>?_) (fun h=>?_) | fail)
     exact hz _
    ·have q3:decide ((k:Int)=(c.ins.length:Int))=false:=by simp;omega
     have hex:=E0 e b3 o t ho' ht' he.len he.small he.short i (by omega) (by omega)
     obtain⟨m,hm⟩:∃m,c.ins.length-k=m+1:=⟨c.ins.length-k-1,by omega⟩
     cases hst:aK i e with
     | none=>
      have hz:=zero (A9 hin (by rw[hi];exact p3) (by rw[hi];exact hst))
      rw[hst]at hex
      change aj _ _ _ _ (fun v L=>v=AV.bool false)at hex
      unfold gr cq
      repeat' (first | refine st ?_ | ((with_reducible refine ao 13 ?_);(refine lq hex (List.perm_append_comm (l₁:=[(b4,_)]) (l₂:=gr e b3 o t)) ?_;rintro _ K' rfl)) | refine sb (fun nb_ hnb_=>?_) | refine s2 (fun h=>?_) (fun h=>?_) | fail)
      exact hz _
     | some s2=>
      rw[hst]at hex
      change aj _ _ _ _ (fun v L=>v=AV.bool true∧L=gr s2 b3 o t)at hex
      have hrun2:cx c.ins (c.ins.length-(k+1)) s2=cx c.ins c.ins.length s:=by
       rw[←hrun,hm,Bb hin (by rw[hi];exact p3) (by rw[hi];exact hst),show c.ins.length-(k+1)=m by omega]
      have hls:=yZ hst
      unfold gr cq
      repeat' (first | refine st ?_ | ((with_reducible refine ao 13 ?_);(refine lq hex (List.perm_append_comm (l₁:=[(b4,_)]) (l₂:=gr e b3 o t)) ?_;rintro _ _ ⟨rfl,rfl⟩)) | refine sb (fun nb_ hnb_=>?_) | refine s2 (fun h=>?_) (fun h=>?_) | fail)
      exact⟨k+1,s2,by omega,by omega,⟨he.step hU hst,⟨by omega,by omega⟩,hrun2⟩,gh (by rw[bc (by omega:k<c.ins.length) (by omega)]<;>rfl) rfl⟩
end
end Go.Proofs.YtljkdffikfkcgaaGreat.Am
end
section
namespace Go.Proofs.YtljkdffikfkcgaaGreat.Am
set_option maxRecDepth 100000
set_option linter.unusedSimpArgs false
set_option linter.unusedVariables false
set_option linter.unusedSectionVars false
theorem E1{U:List Int}(hU:U.length≤2^30){ins:List av}:∀(k:Nat) {s:bC},iR U s→iR U (cx ins k s).1:=by
 have hz:iR U bC.zero:=⟨rfl,by decide,nofun,nofun⟩
 intro k
 induction k with
 | zero=>
  intro s h
  unfold cx
  split
  ·split
   ·exact h
   ·exact hz
  ·exact hz
 | succ k ih=>
  intro s h
  unfold cx
  split
  ·split
   ·exact h
   ·split
    ·exact hz
    ·rename_i s2 he
     exact ih (h.step hU he)
  ·exact hz
theorem Be{U:List Int}(hU:U.length≤2^30){c:sx}{s:bC}(h:iR U s):iR U (bL c s).1:=by
 unfold bL
 split
 ·exact E1 hU _ h
 ·exact⟨rfl,by decide,nofun,nofun⟩
section
variable (c:sx) (s:bC) (U:List Int) (hU:U.length≤2^30) (hr:s.regs.length<2^40) (ht:s.taint.length<2^40) (hsh:∀l∈s.taint,l.length≤2^30) (hsub:∀l∈s.taint,∀x∈l,x∈U) (hc:c.ins.length<2^40)
include hU hr ht hsh hsub hc
theorem zb:aD Tryz.prog 6 [.agg c.enc,.agg s.enc] (zK (bL c s)):=by
 refine aj.fz (sW _ _ _ _ ?_)
 unfold jK
 generalize hQ:(fun(v:AV) (L:SH)=>∃v2 L2,aN [v] L [v2] L2∧v2=zK (bL c s)∧L2=[])=Q
 have hq:∀v L,Fz L v (zK (bL c s))→Q v L:=fun v L h=>by
  subst hQ;exact⟨_,[],aN.all h,rfl,rfl⟩
 clear hQ
 by_cases p1:(s.regs.length:Int)=c.regs
 ·have d1:decide ((s.regs.length:Int)≠c.regs)=false:=by simpa using p1
  by_cases p2:(s.taint.length:Int)=c.regs
  ·have d2:decide ((s.taint.length:Int)≠c.regs)=false:=by simpa using p2
   have hT:iR U s:=⟨by omega,hr,hsh,hsub⟩
   have e:bL c s=cx c.ins c.ins.length s:=by unfold bL;rw[if_pos ⟨p1,p2⟩]
   rw[e]at hq
   have hcl:=B9 s hr ht hsh
   repeat' (first | refine st ?_ | ((with_reducible refine ao 12 ?_);(refine lq (K:=[]) hcl (List.Perm.refl _) ?_;rintro _ _ ⟨o,t,rfl,rfl,ho,ht2⟩)) | refine sb (fun nb_ hnb_=>?_) | refine s2 (fun h=>?_) (fun h=>?_) | fail)
   rename_i b3 _
   rcases o with _ | b1<;>rcases t with _ | b2
   all_goals
    repeat' (first | refine st ?_ | refine sb (fun nb_ hnb_=>?_) | refine s2 (fun h=>?_) (fun h=>?_) | fail)
    exact Bc c s U hU hT hc _ _ ho ht2 b3 nb_ Q hq
  ·have d2:decide ((s.taint.length:Int)≠c.regs)=true:=by simpa using p2
   have e:bL c s=(bC.zero,false):=by unfold bL;rw[if_neg (fun h=>p2 h.2)]
   rw[e]at hq
   repeat' (first | refine st ?_ | refine sb (fun nb_ hnb_=>?_) | refine s2 (fun h=>?_) (fun h=>?_) | fail)
   exact hq _ _ (kw (lr _))
 ·have d1:decide ((s.regs.length:Int)≠c.regs)=true:=by simpa using p1
  have e:bL c s=(bC.zero,false):=by unfold bL;rw[if_neg (fun h=>p1 h.1)]
  rw[e]at hq
  repeat' (first | refine st ?_ | refine sb (fun nb_ hnb_=>?_) | refine s2 (fun h=>?_) (fun h=>?_) | fail)
  exact hq _ _ (kw (lr _))
end
end Go.Proofs.YtljkdffikfkcgaaGreat.Am
end
