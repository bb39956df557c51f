/- A part of the proof; the statement is proved in the last part. -/
import Derived.Test.YtljkdffikfkcgaaQ2d
import Derived.Test.YtljkdffikfkcgaaRows
import Derived.WalkKit
import Derived.ProofKit
import Derived.OpenShut
import Derived.Handy
import Derived.Outline
import Derived.Lib.Hide
import Derived.Deep.Slices
import Derived.Deep.Fields
import Derived.ChangeSame
import Derived.Carry
import Derived.Deep.Draws
import Derived.Laws.AppendOwn
import Derived.Laws.OwnMore
import Derived.Laws.MakeOwn
import Derived.OwnWalk
import Derived.Shelf.Small.Wraps
import Derived.Shelf.Sort.Plain
import Derived.Ground.Names2Prog
import Derived.Shelf.Slices.Clone
import Derived.Shelf.Slices.CompactI
import Derived.Shelf.Slices.In.SortNone
import Derived.Ground.SlgnProg
import Derived.Shelf.SlicesE.Clone
import Derived.Test.YtljkdffikfkcgaaProg
import Derived.WalkSpells
import Derived.Deep.DeepMust
import Derived.Sort.OwnSortedInts
set_option linter.unusedSimpArgs false
set_option linter.unusedVariables false
section
namespace Go.Proofs.Ytljkdffikfkcgaa
open Go.ChangeShapes Go.WideShapes Go.ChangeAt Go.RowKit
abbrev Rel(α:Type):=World→(Nat→Prop)→α→List Value→Prop
def rInt(k:IntKind):Rel Int:=fun _ _ n cs=>cs=[.int k n]∧(Lit.int k n).wf=true
def rBool:Rel Bool:=fun _ _ b cs=>cs=[.bool b]
def rSlice{α:Type}(size:Nat)(R:Rel α):Rel (List α):=fun w F l cs=>
 ∃A c,cs=[.slice A l.length c]∧l.length≤c∧c≤maxLen∧
  (0<l.length→∃b o,A=some ⟨b,o,none⟩∧F b∧
   ∀i x,l[i]? =some x→∃cs',cs'.length=size∧R w F x cs'∧∀j u,cs'[j]? =some u→w.cell? ⟨b,o+i*size+j,none⟩=some u)
def Rel.Stays{α:Type}(R:Rel α):Prop:=∀(w w':World) (F F':Nat→Prop) (x:α) (cs:List Value),
 (∀b,F b→b<w.heap.size→w'.heap[b]? =w.heap[b]?)→(∀b,F b→b<w.heap.size→F' b)→R w F x cs→R w' F' x cs
theorem lt_of_cell{w:World}{b o:Nat}{u:Value}(h:w.cell? ⟨b,o,none⟩=some u):b<w.heap.size:=by
 rcases Nat.lt_or_ge b w.heap.size with hlt | hge
 ·exact hlt
 ·simp[World.cell?,Array.getElem?_eq_none hge]at h
theorem cell_kept{w w':World}{b o:Nat}{u:Value}(hk:b<w.heap.size→w'.heap[b]? =w.heap[b]?)(h:w.cell? ⟨b,o,none⟩=some u):w'.cell? ⟨b,o,none⟩=some u:=
 (World.cell?_of_block (w:=w) (w':=w') (a:=⟨b,o,none⟩) (hk (lt_of_cell h))).trans h
theorem rInt_stays(k:IntKind):(rInt k).Stays:=fun _ _ _ _ _ _ _ _ h=>h
theorem rBool_stays:rBool.Stays:=fun _ _ _ _ _ _ _ _ h=>h
theorem rSlice_stays{α:Type}{size:Nat}{R:Rel α}(hs:0<size)(hR:R.Stays):(rSlice size R).Stays:=by
 intro w w' F F' l cs hk hF ⟨A,c,h1,h2,h3,h4⟩
 refine⟨A,c,h1,h2,h3,fun hn=>?_⟩
 obtain⟨b,o,hA,hFb,hc⟩:=h4 hn
 have hb:b<w.heap.size:=by
  obtain⟨cs',hl,_,hcell⟩:=hc 0 l[0] (List.getElem?_eq_getElem hn)
  exact lt_of_cell (hcell 0 cs'[0] (List.getElem?_eq_getElem (by omega)))
 refine⟨b,o,hA,hF b hFb hb,fun i x hx=>?_⟩
 obtain⟨cs',hl,hr,hcell⟩:=hc i x hx
 exact⟨cs',hl,hR w w' F F' x cs' hk hF hr,fun j u hu=>cell_kept (hk b hFb) (hcell j u hu)⟩
def Sl{α:Type}(size:Nat)(R:Rel α)(w:World)(F:Nat→Prop)(v:Value)(l:List α):Prop:=rSlice size R w F l [v]
section
variable {α:Type} {size:Nat} {R:Rel α} {w w':World} {F F':Nat→Prop} {v:Value} {l:List α}
theorem Sl.form(h:Sl size R w F v l):∃A c,v=.slice A l.length c∧l.length≤c∧c≤maxLen:=by
 obtain⟨A,c,h1,h2,h3,_⟩:=h
 exact⟨A,c,by simpa using h1,h2,h3⟩
theorem Sl.at_{A:Option Addr}{n c:Nat}(h:Sl size R w F (.slice A n c) l){i:Nat}(hi:i<l.length):
  ∃b o cs,A=some ⟨b,o,none⟩∧F b∧cs.length=size∧R w F l[i] cs∧∀j u,cs[j]? =some u→w.cell? ⟨b,o+i*size+j,none⟩=some u:=by
 obtain⟨A',c',h1,h2,h3,h4⟩:=h
 obtain⟨b,o,hA,hF,hc⟩:=h4 (by omega)
 have e:A=A':=by injection h1 with h1;injection h1
 obtain⟨cs',hl,hr,hcell⟩:=hc i l[i] (List.getElem?_eq_getElem hi)
 exact⟨b,o,cs',e.trans hA,hF,hl,hr,hcell⟩
theorem Sl.stays(hs:0<size)(hR:R.Stays)(h:Sl size R w F v l)(hk:∀b,F b→b<w.heap.size→w'.heap[b]? =w.heap[b]?)(hF:∀b,F b→b<w.heap.size→F' b):Sl size R w' F' v l:=
 rSlice_stays hs hR w w' F F' l [v] hk hF h
theorem Sl.below{B:Nat}(hs:0<size)(hR:R.Stays)(h:Sl size R w (·<B) v l)(hb:Below B w w'):Sl size R w' (·<B) v l:=
 h.stays hs hR (fun b hb' _=>hb.block b hb') (fun _ h _=>h)
theorem Sl.nil:Sl size R w F (.slice none 0 0) ([]:List α):=⟨none,0,rfl,by simp,by simp[maxLen],fun h=>absurd h (by simp)⟩
theorem Sl.len{A:Option Addr}{n c:Nat}(h:Sl size R w F (.slice A n c) l):n=l.length∧n≤c∧c≤maxLen:=by
 obtain⟨A',c',h1,h2,h3⟩:=h.form
 injection h1 with e1 e2 e3
 subst e2 e3
 exact⟨rfl,h2,h3⟩
end
section
variable {a w:World} {row:Option Nat}
end
def Blk(w:World)(g:Nat)(t:TypeId)(cs:List Value):Prop:=w.heap[g]? =some (.cells cs.toArray t (0,0))
section
variable {w w':World} {g:Nat} {t:TypeId} {cs:List Value}
theorem Blk.lt(h:Blk w g t cs):g<w.heap.size:=by
 rcases Nat.lt_or_ge g w.heap.size with hlt | hge
 ·exact hlt
 ·unfold Blk at h;rw[Array.getElem?_eq_none hge]at h;cases h
theorem Blk.free(h:Blk w g t cs)(i:Nat):w.frozen? ⟨g,i,none⟩=false:=by
 unfold Blk at h
 simp[World.frozen?,h]
theorem Blk.new(w:World)(t:TypeId)(cs:List Value){g:Nat}(hg:w.heap.size=g):Blk (w.alloc (.cells cs.toArray t)) g t cs:=by
 subst hg
 exact heap_alloc_new w _
theorem Blk.alloc(h:Blk w g t cs)(o:Obj):Blk (w.alloc o) g t cs:=(Below.heap_alloc w o g h.lt).trans h
theorem Blk.below{B:Nat}(h:Blk w g t cs)(hb:Below B w w')(hg:g<B):Blk w' g t cs:=(hb.block g hg).trans h
theorem Blk.keep(h:Blk w g t cs)(hb:Below w.heap.size w w'):Blk w' g t cs:=h.below hb h.lt
theorem Blk.only{g':Nat}(h:Blk w g t cs)(hb:w.grownBy w' (some g'))(hg:g≠g'):Blk w' g t cs:=(hb.block g h.lt (fun e=>hg (by injection e))).trans h
end
section
variable {H:Type} {enc:TypeId×Value→H} {P:Program} {w:World} {base:Nat} {spare:Nat→Bool} {held:Bool}
def Opens(H:Type)(enc:TypeId×Value→H)(P:Program)(w:World)(base:Nat)(spare:Nat→Bool)(held:Bool){α:Type}(t:TypeId)(R:Rel α):Prop:=
 ∀(fuel:Nat) (cs:List Value) (x:DataW H×List MemPlace),DataW.trod enc P w base spare held fuel t cs=some x→∃d,R w (·<w.heap.size) d cs
theorem opens_int{t:TypeId}{k:IntKind}(ht:P.underlying t=some (.int k)):Opens H enc P w base spare held t (rInt k):=fun _ _ _ h=>by
 obtain⟨n,h1,_,h3⟩:=DataW.trod_int ht h
 exact⟨n,h1,h3⟩
theorem opens_slice{α:Type}{t e:TypeId}{size:Nat}{R:Rel α}(ht:P.underlying t=some (.slice e))(hc:P.cellsOf e=size)(hs:0<size)(he:Opens H enc P w base spare held e R):
  Opens H enc P w base spare held t (rSlice size R):=fun fuel cs x h=>by
 rcases Deep.open_slice ht h with⟨rfl,_⟩ | ⟨a,len,cap,m,n,D,Pl,rfl,hb,hl,hm,hmm,hx,hi⟩
 ·exact⟨[],Sl.nil⟩
 rw[hc]at hi
 have hlm:len≤m:=by rw[hmm];split<;>omega
 have hall:∀i,i<len→∃d cs',R w (·<w.heap.size) d cs'∧cs'.length=size∧∀j u,cs'[j]? =some u→w.cell? (a.add (i*size+j))=some u:=by
  intro i hil
  obtain⟨cs',h1,h2⟩:=hi i (by omega)
  obtain⟨d,hd⟩:=he _ _ _ h2
  obtain⟨_,hcl,hat⟩:=World.cells?_some h1
  refine⟨d,cs',hd,hcl,fun j u hu=>?_⟩
  have hj:j<size:=by rw[←hcl];exact(List.getElem?_eq_some_iff.1 hu).1
  rw[←Deep.add_add,hat j hj,hu]
 have:∃l:List α,l.length=len∧∀i x,l[i]? =some x→∃cs',R w (·<w.heap.size) x cs'∧cs'.length=size∧∀j u,cs'[j]? =some u→w.cell? (a.add (i*size+j))=some u:=by
  clear hx hmm hlm hi hl h
  induction len with
  | zero=>exact⟨[],rfl,fun i x h=>by simp at h⟩
  | succ k ih=>
   obtain⟨l,hl,hl2⟩:=ih (fun i hi=>hall i (by omega))
   obtain⟨d,cs',h1,h2⟩:=hall k (by omega)
   refine⟨l++[d],by simp[hl],fun i x hx=>?_⟩
   rcases Nat.lt_or_ge i l.length with h | h
   ·rw[List.getElem?_append_left h]at hx
    exact hl2 i x hx
   ·rw[List.getElem?_append_right h]at hx
    have hi0:i-l.length=0:=by
     rcases Nat.eq_zero_or_pos (i-l.length)with h0 | h0
     ·exact h0
     ·rw[List.getElem?_eq_none (by simp only[List.length_singleton];omega)]at hx
      cases hx
    rw[hi0]at hx
    simp at hx
    subst hx
    obtain rfl:i=k:=by omega
    exact⟨cs',h1,h2⟩
 obtain⟨l,hll,hel⟩:=this
 subst hll
 refine⟨l,some a,cap,rfl,hl,hm,fun hn=>?_⟩
 have hsp:a=⟨a.block,a.off,none⟩:=by
  obtain⟨cs',_,h2,h3⟩:=hel 0 l[0] (List.getElem?_eq_getElem hn)
  have hc0:=h3 0 cs'[0] (List.getElem?_eq_getElem (by omega))
  rw[show 0*size+0=0 from by omega,Addr.add_zero']at hc0
  unfold World.cell? at hc0
  cases hsp:a.spot with
  | none=>cases a;simp_all
  | some s=>split at hc0<;>simp[hsp]at hc0
 have hblk:a.block<w.heap.size:=by
  obtain⟨cs',_,h2,h3⟩:=hel 0 l[0] (List.getElem?_eq_getElem hn)
  have hc0:=h3 0 cs'[0] (List.getElem?_eq_getElem (by omega))
  rw[show 0*size+0=0 from by omega,Addr.add_zero',hsp]at hc0
  exact lt_of_cell hc0
 refine⟨a.block,a.off,by rw[←hsp],hblk,fun i x hx=>?_⟩
 obtain⟨cs',h1,h2,h3⟩:=hel i x hx
 refine⟨cs',h2,h1,fun j u hu=>?_⟩
 have:=h3 j u hu
 rw[hsp,Addr.add_lit]at this
 rw[Nat.add_assoc]
 exact this
end
section
variable {H:Type} {enc:TypeId×Value→H} {P:Program}
theorem trodAll_below(hl:laidOutB P=true){W W':World}(hb:Below W.heap.size W W'){sp:Nat→Bool}:∀(ts:List TypeId) (vs:List Value) (ds:List (DataW H)) (ps:List MemPlace),
  (∀t∈ts,P.readableRec t=true∧t<P.types.size)→DataW.TrodAll enc P W 0 (fun _=>true) true ts vs ds ps→(∀x∈ps,x.block<W.heap.size)→(∀x∈ps,sp x.block=true)→DataW.TrodAll enc P W' 0 sp true ts vs ds ps
 | [],vs,ds,ps,_,h,_,_=>by
  obtain⟨rfl,rfl,rfl⟩:=trodAll_nil h
  exact trodAll_mk0
 | t::ts,vs,ds,ps,hr,h,hlt,hsp=>by
  obtain⟨v,vs',d,ds',p,q,rfl,rfl,rfl,h0,h1⟩:=trodAll_cons h
  refine trodAll_cons_mk ?_ (trodAll_below hl hb ts vs' ds' q (fun t ht=>hr t (List.mem_cons_of_mem _ ht)) h1 (fun x hx=>hlt x (List.mem_append_right _ hx)) (fun x hx=>hsp x (List.mem_append_right _ hx)))
  exact WideElems.Trod_stays hl (hr t List.mem_cons_self).1 (hr t List.mem_cons_self).2 h0 (fun x hx=>hb.same (hlt x (List.mem_append_left _ hx))) (fun x hx=>hsp x (List.mem_append_left _ hx))
theorem law_post{f:Func}{s:ChangeSpec}{apart fresh handsOn again:Bool}{W W':World}{args:Array Value}{ds gs:List (DataW H)}{before:List MemPlace}{tb:TypeId}
  (hl:laidOutB P=true) (hr:∀t∈f.params.toList,P.readableRec t=true∧t<P.types.size) (hvars:s.vars=[]) (hrt:f.resultTypes=#[tb]) (htb:P.underlying tb=some .bool)
  (hW:DataW.Whole enc P f.params.toList s.vars apart W args.toList ds gs before)
  (hsr:(s.fn H (ds++gs)).results=[.lit (.bool true)]) (hsa:(s.fn H (ds++gs)).args=ds) (hsv:(s.fn H (ds++gs)).vars=[]) (hb:Below W.heap.size W W') :
  s.post enc P f apart fresh handsOn again W args (.bool true) W':=by
 have hlt:∀p∈before,p.block<W.heap.size:=fun p hp=>hW.lt p hp
 have hold:∀p∈before,(fun b=>decide (b<W.heap.size)) p.block=true:=fun p hp=>by simpa using hlt p hp
 obtain⟨pa,pv,hA,hV,rfl,hz,hn⟩:=hW
 have hW:DataW.Whole enc P f.params.toList s.vars apart W args.toList ds gs (pa++pv):=⟨pa,pv,hA,hV,rfl,hz,hn⟩
 rw[hvars]at hV
 obtain⟨rfl,rfl⟩:=trodVars_none hV
 have hargs:∀sp:Nat→Bool,(∀p∈pa,sp p.block=true)→DataW.TrodAll enc P W' 0 sp true f.params.toList args.toList (s.fn H (ds++[])).args pa:=fun sp hsp=>by
  rw[hsa]
  exact trodAll_below hl hb _ _ _ _ hr hA (fun x hx=>hlt x (by simpa using hx)) hsp
 have hres:∀(b:Nat) (sp:Nat→Bool) (hd:Bool),DataW.TrodAll enc P W' b sp hd f.resultTypes.toList ((Value.bool true).resultList f.resultTypes.size) (s.fn H (ds++[])).results []:=fun b sp hd=>by
  rw[hsr,hrt]
  exact trodAll_cons_mk (shut_bool htb _) trodAll_mk0
 have hvs:∀sp:Nat→Bool,DataW.TrodVars enc P W' sp s.vars (s.fn H (ds++[])).vars []:=fun sp=>by
  rw[hvars,hsv];rfl
 refine⟨ds,[],pa++[],[],pa,[],hW,hres _ _ _,hargs _ (fun p hp=>hold p (by simpa using hp)),hvs _,World.keptBut_mono (fun p hp=>⟨hp,?_⟩) (hb.frame (·∈pa++[])),fun _=>?_⟩
 ·rw[List.mem_append]at hp
  exact Or.inr hp
 ·refine⟨?_,_,_,([]++pa)++[],⟨[]++pa,[],trodAll_append (hargs _ (fun _ _=>rfl)) (hres _ _ _),hvs _,rfl,?_,?_⟩,?_⟩
  ·intro j t r hj hr'
   rw[hrt]at hj hr'
   match j with
   | 0=>
    simp at hj
    subst hj
    have:r=.bool true:=by simpa[Value.resultList]using hr'.symm
    subst this
    exact okWide_bool_mk htb _
   | j+1=>simp at hj
  ·intro b off hp
   have hin:MemPlace.cell b off∈pa++[]:=by simpa using hp
   rw[hb.frozen (hlt _ hin)]
   exact hz b off hin
  ·intro ha
   have:=hn ha
   simpa using this
  ·intro p hp _
   simpa using hp
end
end Go.Proofs.Ytljkdffikfkcgaa
end
section
namespace Go.Proofs.Ytljkdffikfkcgaa
open Go.ChangeShapes Go.WideShapes Go.ChangeAt Go.RowKit
structure Elem(P:Program)(t e:TypeId)(z:Value)(size bytes:Nat):Prop where
 ht:P.underlying t=some (.slice e)
 hi:∃i,P.info? e=some i∧i.zero=some z∧i.size=size∧i.bytes=bytes
 hz:z.cells.size=size
 hs:0<size
theorem elem_mk{P:Program}{t e:TypeId}{z:Value}{size bytes:Nat}(ht:P.underlying t=some (.slice e))(hi:(P.info? e).map (fun i=>(i.zero,i.size,i.bytes))=some (some z,size,bytes))
  (hz:z.cells.size=size) (hs:0<size):Elem P t e z size bytes:=
 ⟨ht,by obtain⟨i,h1,h2,h3,h4⟩:=info_parts hi;exact⟨i,h1,h2,h3,h4⟩,hz,hs⟩
def Flat(w:World)(size:Nat)(A:Option Addr)(n:Nat)(xs:List Value):Prop:=
 xs.length=n*size∧(0<n→∃b o,A=some ⟨b,o,none⟩∧∀j u,xs[j]? =some u→w.cell? ⟨b,o+j,none⟩=some u)
theorem run_append_nil_src{P:Program}(w:World)(base:Nat)(t ty e:TypeId)(i:TypeInfo)(size:Nat)(ht:P.underlying t=some (.slice e))(hi:P.info? e=some i)
  (v:Value) (n:Nat) (xs:List Value) (hown:w.ownsRow base e size v n xs) (c:Nat):(Builtin.append_ #[t,t] ty #[v,.slice none 0 c]).run P w=.ok v w:=by
 rcases hown.2 with⟨rfl,rfl⟩ | ⟨g,cap,cur,rfl,_,_,hnc,_⟩
 ·simp[Builtin.append_,run_underlying ht,sizeOf,typeInfo,hi,Builtin.lenOf,Builtin.firstCells]
 ·simp[Builtin.append_,run_underlying ht,sizeOf,typeInfo,hi,Builtin.lenOf,Builtin.firstCells,hnc,storeCells]
section
variable {P:Program} {w:World} {t e:TypeId} {z:Value} {size bytes:Nat}
theorem run_app(E:Elem P t e z size bytes)(ty:TypeId)(base:Nat)(v:Value)(n:Nat)(xs:List Value)(hown:w.ownsRow base e size v n xs)
  (A:Option Addr) (m c:Nat) (news:List Value) (hf:Flat w size A m news) (h1:∀u∈news,u.oneCell'=true)
  (h63:n+m≤maxLen) (hbytes:(n+m)*bytes≤140737488355328) (hbase:base≤w.heap.size) :
  ∃v' w',(Builtin.append_ #[t,t] ty #[v,.slice A m c]).run P w=.ok v' w'∧w'.ownsRow base e size v' (n+m) (xs++news)∧w.grownBy w' v.ownBlock:=by
 obtain⟨i,hi,hz0,hsz,hby⟩:=E.hi
 rcases A with _ | ad
 ·have hm:m=0:=by
   rcases Nat.eq_zero_or_pos m with h0 | h0
   ·exact h0
   ·obtain⟨b,o,h,_⟩:=hf.2 h0
    cases h
  subst hm
  have hn:news=[]:=List.eq_nil_of_length_eq_zero (by simpa using hf.1)
  subst hn
  exact⟨v,w,run_append_nil_src w base t ty e i size E.ht hi v n xs hown c,by simpa using hown,World.grownBy.refl w _⟩
 ·have hcells:∀j u,news[j]? =some u→w.cell? (ad.add j)=some u:=by
   intro j u hu
   rcases Nat.eq_zero_or_pos m with h0 | h0
   ·subst h0
    have hn:news=[]:=List.eq_nil_of_length_eq_zero (by simpa using hf.1)
    subst hn
    simp at hu
   ·obtain⟨b,o,h,hc⟩:=hf.2 h0
    injection h with h
    subst h
    rw[Addr.add_lit]
    exact hc j u hu
  obtain⟨v',w',hrun,h2,h3,_⟩:=run_append_own (P:=P) w base t ty e i z size bytes E.ht hi hz0 hsz hby E.hz E.hs v n xs hown ad m c news hf.1 hcells h1 h63 hbytes hbase
  exact⟨v',w',hrun,h2,h3⟩
theorem wp_app{o:Oper}{a:Act}{K:Act→World→Prop}{Q:Exit→Act→World→Prop}(s x:Operand)
  (ho:o.op=.call {callee:=.builtin .append,args:=#[s,x],argTypes:=#[t,t]}) (E:Elem P t e z size bytes) (base:Nat)
  (v:Value) (n:Nat) (xs:List Value) (hs:a.eval s=v) (hown:w.ownsRow base e size v n xs)
  (A:Option Addr) (m c:Nat) (news:List Value) (hx:a.eval x=.slice A m c) (hf:Flat w size A m news) (h1:∀u∈news,u.oneCell'=true)
  (h63:n+m≤maxLen) (hbytes:(n+m)*bytes≤140737488355328) (hbase:base≤w.heap.size)
  (h:∀v' w',w'.ownsRow base e size v' (n+m) (xs++news)→w.grownBy w' v.ownBlock→K (a.put o.dst v') w'):o.wp P a w K Q:=by
 obtain⟨v',w',hrun,h2,h3⟩:=run_app E o.type base v n xs hown A m c news hf h1 h63 hbytes hbase
 unfold Oper.wp execOp
 simp only[ho,resolve,invoke,builtin,Sem.run_bind,Sem.run_pure,Result.andThen_ok,List.map_toArray,List.map_cons,List.map_nil,hs,hx,hrun]
 exact h v' w' h2 h3
theorem wpList_app{ops:Array Oper}{rest:List Oper}{o:Oper}{a:Act}{Q:Exit→Act→World→Prop}(hgd:o.guard=none)(s x:Operand)
  (ho:o.op=.call {callee:=.builtin .append,args:=#[s,x],argTypes:=#[t,t]}) (E:Elem P t e z size bytes) (base:Nat)
  (v:Value) (n:Nat) (xs:List Value) (hs:a.eval s=v) (hown:w.ownsRow base e size v n xs)
  (A:Option Addr) (m c:Nat) (news:List Value) (hx:a.eval x=.slice A m c) (hf:Flat w size A m news) (h1:∀u∈news,u.oneCell'=true)
  (h63:n+m≤maxLen) (hbytes:(n+m)*bytes≤140737488355328) (hbase:base≤w.heap.size)
  (h:∀v' w',w'.ownsRow base e size v' (n+m) (xs++news)→w.grownBy w' v.ownBlock→wpList P ops Q rest (a.put o.dst v') w'):wpList P ops Q (o::rest) a w:=
 wpList_plain hgd fun _ hK=>wp_app s x ho E base v n xs hs hown A m c news hx hf h1 h63 hbytes hbase fun v' w' h2 h3=>hK _ _ (h v' w' h2 h3)
end
theorem own_from{w:World}{base:Nat}{e:TypeId}{size n:Nat}{v:Value}{xs:List Value}(h:w.ownsRow base e size v n xs):∀k,v.ownBlock=some k→base≤k:=fun k hk=>(h.lt k hk).1
theorem Flat.kept{w w':World}{size n:Nat}{A:Option Addr}{xs:List Value}(h:Flat w size A n xs)(hb:Below w.heap.size w w'):Flat w' size A n xs:=by
 refine⟨h.1,fun hn=>?_⟩
 obtain⟨b,o,hA,hc⟩:=h.2 hn
 exact⟨b,o,hA,fun j u hu=>cell_kept (fun hlt=>hb.block b hlt) (hc j u hu)⟩
theorem Sl.one{α:Type}{size:Nat}{R:Rel α}{w:World}{F:Nat→Prop}{b:Nat}{e:TypeId}{cs:List Value}{x:α}(hb:w.heap.size=b)(hl:cs.length=size)(hF:F b)
  (hR:R (w.alloc (.cells cs.toArray e)) F x cs):Sl size R (w.alloc (.cells cs.toArray e)) F (.slice (some ⟨b,0,none⟩) 1 1) [x]:=by
 subst hb
 refine⟨_,1,rfl,by simp,by simp[maxLen],fun _=>⟨_,0,rfl,hF,fun i y hy=>?_⟩⟩
 match i with
 | 0=>
  simp at hy
  subst hy
  refine⟨cs,hl,hR,fun j u hu=>?_⟩
  rw[cell_of_row _ _ _ cs.toArray e (0,0) (heap_alloc_new w _)]
  simpa using hu
 | i+1=>simp at hy
end Go.Proofs.Ytljkdffikfkcgaa
end
section
namespace Go.Proofs.Ytljkdffikfkcgaa
open Go.ChangeShapes Go.WideShapes Go.ChangeAt Go.RowKit
abbrev Ints:=Sl (α:=Int) 1 (rInt .i64)
def Fit(l:List Int):Prop:=∀x∈l,(Lit.int .i64 x).wf=true
theorem Ints.fit{A:Option Addr}{n c:Nat}{l:List Int}{w:World}{F:Nat→Prop}(h:Ints w F (.slice A n c) l):Fit l:=by
 intro x hx
 obtain⟨i,hi,rfl⟩:=List.getElem_of_mem hx
 obtain⟨b,o,cs,hA,hb,_,hR,hc⟩:=h.at_ hi
 exact hR.2
end Go.Proofs.Ytljkdffikfkcgaa
end
section
namespace Go.Proofs.Ytljkdffikfkcgaa
open Go.ChangeShapes Go.WideShapes Go.ChangeAt Go.RowKit
set_option linter.unusedVariables false
structure WD where
 nc:Nat
 rw:List Bool
 mx:List Int
 nf:Nat
 nt:Nat
structure LockD where
 owner:Int
 readers:List Int
structure ThrD where
 status:Int
 cond:Int
 atomic:Bool
structure SyncD where
 locks:List LockD
 tx:Int
 done:List Bool
 threads:List ThrD
def rLk:Rel Bool:=fun _ _ b cs=>∃s,cs=[.string s,.bool b]
def rCd:Rel Int:=fun _ _ m cs=>∃s,cs=[.string s,.int .i64 m]∧(Lit.int .i64 m).wf=true
def rLock:Rel LockD:=fun w F l cs=>∃A n c,cs=[.int .i64 l.owner,.slice A n c]∧(Lit.int .i64 l.owner).wf=true∧Ints w F (.slice A n c) l.readers
def rThr:Rel ThrD:=fun _ _ t cs=>cs=[.int .i64 t.status,.int .i64 t.cond,.bool t.atomic]∧(Lit.int .i64 t.status).wf=true∧(Lit.int .i64 t.cond).wf=true
theorem rLk_stays:rLk.Stays:=fun _ _ _ _ _ _ _ _ h=>h
theorem rCd_stays:rCd.Stays:=fun _ _ _ _ _ _ _ _ h=>h
theorem rThr_stays:rThr.Stays:=fun _ _ _ _ _ _ _ _ h=>h
theorem rLock_stays:rLock.Stays:=fun w w' F F' l cs hk hF ⟨A,n,c,h1,h2,h3⟩=>⟨A,n,c,h1,h2,h3.stays (by decide) (rInt_stays _) hk hF⟩
structure WV where
 cA:Option Addr
 nc:Nat
 cc:Nat
 lA:Option Addr
 nl:Nat
 lc:Nat
 dA:Option Addr
 nd:Nat
 dc:Nat
 fA:Option Addr
 nf:Nat
 fc:Nat
 tA:Option Addr
 nt:Nat
 tc:Nat
 sA:Option Addr
 ns:Nat
 sc:Nat
structure WOk(w:World)(F:Nat→Prop)(v:WV)(d:WD):Prop where
 nc:v.nc=d.nc∧v.nc≤maxLen
 nf:v.nf=d.nf∧v.nf≤maxLen
 nt:v.nt=d.nt∧v.nt≤maxLen
 locks:Sl 2 rLk w F (.slice v.lA v.nl v.lc) d.rw
 conds:Sl 2 rCd w F (.slice v.dA v.nd v.dc) d.mx
structure SV where
 kA:Option Addr
 nk:Nat
 kc:Nat
 tx:Int
 eA:Option Addr
 ne:Nat
 ec:Nat
 hA:Option Addr
 nh:Nat
 hc:Nat
structure SOk(w:World)(F:Nat→Prop)(v:SV)(d:SyncD):Prop where
 locks:Sl 2 rLock w F (.slice v.kA v.nk v.kc) d.locks
 done:Sl 1 rBool w F (.slice v.eA v.ne v.ec) d.done
 threads:Sl 3 rThr w F (.slice v.hA v.nh v.hc) d.threads
 tx:v.tx=d.tx
 wf:(Lit.int .i64 d.tx).wf=true
abbrev WV.val(v:WV):Value:=.agg #[.slice v.cA v.nc v.cc,.slice v.lA v.nl v.lc,.slice v.dA v.nd v.dc,.slice v.fA v.nf v.fc,.slice v.tA v.nt v.tc,.slice v.sA v.ns v.sc]
abbrev SV.val(v:SV):Value:=.agg #[.slice v.kA v.nk v.kc,.int .i64 v.tx,.slice v.eA v.ne v.ec,.slice v.hA v.nh v.hc]
theorem WOk.stays{w w':World}{F F':Nat→Prop}{v:WV}{d:WD}(h:WOk w F v d)(hk:∀b,F b→b<w.heap.size→w'.heap[b]? =w.heap[b]?)(hF:∀b,F b→b<w.heap.size→F' b):WOk w' F' v d:=
 ⟨h.nc,h.nf,h.nt,h.locks.stays (by decide) rLk_stays hk hF,h.conds.stays (by decide) rCd_stays hk hF⟩
theorem SOk.stays{w w':World}{F F':Nat→Prop}{v:SV}{d:SyncD}(h:SOk w F v d)(hk:∀b,F b→b<w.heap.size→w'.heap[b]? =w.heap[b]?)(hF:∀b,F b→b<w.heap.size→F' b):SOk w' F' v d:=
 ⟨h.locks.stays (by decide) rLock_stays hk hF,h.done.stays (by decide) rBool_stays hk hF,h.threads.stays (by decide) rThr_stays hk hF,h.tx,h.wf⟩
def inB(i:Int)(n:Nat):Bool:=decide (0≤i)&&decide (i<n)
end Go.Proofs.Ytljkdffikfkcgaa
end
section
namespace Go.Proofs.Ytljkdffikfkcgaa.Am
open Go.RowKit
set_option linter.unusedVariables false
theorem iK{w w':World}{σ:bq}{T:Nat→Prop}(h:Below w.heap.size w w')(hfr:∀c,σ.fr c→c<w.heap.size):en w σ T w' σ T:=
 ⟨h.os,h.tape,h.output,h.size,fun c hc _=>h.block c hc,fun c cs e hc=>⟨cs,by rw[h.block c (Array.getElem?_eq_some_iff.1 hc).1];exact hc,rfl⟩,fun _ _ h=>h,rfl,fun c hc=>h.block c (hfr c hc),fun _ h=>.inl h⟩
theorem rR{w w':World}{σ:bq}{H:ah}(hW:bc w σ H)(h:Below w.heap.size w w'):bc w' σ H:=
 ⟨hW.named,fun b pl hb=>Nat.lt_of_lt_of_le (hW.lt b pl hb) h.size,fun b x hb=>by
  obtain⟨pl,cs,e,h1,h2⟩:=hW.live b x hb
  exact⟨pl,cs,e,h1,h2.mono (iK h fun c hc=>(hW.apart c hc).1) (h.block _ (hW.lt b pl h1))⟩,fun c hc=>⟨Nat.lt_of_lt_of_le (hW.apart c hc).1 h.size,(hW.apart c hc).2⟩,hW.inj⟩
theorem BK{w w':World}{σ:bq}{H:ah}{b g:Nat}(hW:bc w σ H)(hbl:Below w.heap.size w w')(hb:σ b=none)(hlt:b<H.next)(hg:w.heap.size≤g){x:Blk}{cs:Array Value}{e:TypeId}(hgb:w'.heap[g]? =some (.cells cs e (0,0)))
  (even:∀(i:Nat) (r:List AV),x.rows[i]? =some r→r.length=x.size) (room:x.rows.length*x.size≤cs.size)
  (rep:∀(i:Nat) (r:List AV) (j:Nat) (a:AV) (u:Value),x.rows[i]? =some r→r[j]? =some a→cs[i*x.size+j]? =some u→bl w σ (aQ σ H) a u) :
  bc w' (σ.set b ⟨g,0,x.size⟩) (H.new b x)∧en w σ (aQ σ H) w' (σ.set b ⟨g,0,x.size⟩) (aQ (σ.set b ⟨g,0,x.size⟩) (H.new b x)):=by
 have hnone:H.get b=none:=by
  cases hg:H.get b with
  | none=>rfl
  | some y=>obtain⟨pl,_,_,h1,_⟩:=hW.live b y hg;rw[hb]at h1;cases h1
 have hgl:g<w'.heap.size:=(Array.getElem?_eq_some_iff.1 hgb).1
 have ext:en w σ (aQ σ H) w' (σ.set b ⟨g,0,x.size⟩) (aQ (σ.set b ⟨g,0,x.size⟩) (H.new b x)):=by
  refine⟨hbl.os,hbl.tape,hbl.output,hbl.size,fun c hc _=>hbl.block c hc,fun c cs' e' hc=>⟨cs',by rw[hbl.block c (Array.getElem?_eq_some_iff.1 hc).1];exact hc,rfl⟩,fun c q hq=>bq.set_old hb hq,rfl,fun c hc=>hbl.block c (hW.apart c hc).1,?_⟩
  rintro c (hfr | ⟨b',y,pl,h1,h2,h3⟩)
  ·exact .inl (.inl hfr)
  rw[ah.get_new]at h1
  by_cases hbb:b=b'
  ·subst hbb
   rw[bq.set_eq]at h2
   cases h2
   exact .inr (by simp only[]at h3;omega)
  ·rw[if_neg hbb]at h1
   rw[bq.set_ne _ _ hbb]at h2
   exact .inl (.inr ⟨b',y,pl,h1,h2,h3⟩)
 refine⟨⟨?_,?_,?_,?_,?_⟩,ext⟩
 ·intro c pl hc
  by_cases hbc:b=c
  ·subst hbc;exact hlt
  ·rw[bq.set_ne _ _ hbc]at hc;exact hW.named c pl hc
 ·intro c pl hc
  by_cases hbc:b=c
  ·subst hbc;rw[bq.set_eq]at hc;cases hc;exact hgl
  ·rw[bq.set_ne _ _ hbc]at hc;exact Nat.lt_of_lt_of_le (hW.lt c pl hc) hbl.size
 ·intro c y hy
  rw[ah.get_new]at hy
  by_cases hbc:b=c
  ·subst hbc
   rw[if_pos rfl]at hy
   cases hy
   exact⟨_,cs,e,bq.set_eq _ _ _,⟨rfl,hgb,even,by simpa using room,fun i r j a u h1 h2 h3=>(rep i r j a u h1 h2 (by simpa using h3)).mono ext⟩⟩
  ·rw[if_neg hbc]at hy
   obtain⟨pl,cs',e',h1,h2⟩:=hW.live c y hy
   exact⟨pl,cs',e',by rw[bq.set_ne _ _ hbc];exact h1,h2.mono ext (hbl.block _ (hW.lt c pl h1))⟩
 ·intro c hc
  refine⟨Nat.lt_of_lt_of_le (hW.apart c hc).1 hbl.size,?_⟩
  rintro⟨b',y,pl,h1,h2,h3⟩
  rw[ah.get_new]at h1
  by_cases hbb:b=b'
  ·subst hbb
   rw[bq.set_eq]at h2
   cases h2
   have:=(hW.apart c hc).1
   simp only[]at h3;omega
  ·rw[if_neg hbb]at h1
   rw[bq.set_ne _ _ hbb]at h2
   exact(hW.apart c hc).2 ⟨b',y,pl,h1,h2,h3⟩
 ·intro c c' y y' pl pl' h1 h2 h3 h4 h5
  rw[ah.get_new]at h1 h2
  by_cases hbc:b=c
  ·by_cases hbc':b=c'
   ·exact hbc.symm.trans hbc'
   ·subst hbc
    rw[bq.set_eq]at h3;cases h3
    rw[bq.set_ne _ _ hbc']at h4
    have:=hW.lt c' pl' h4
    simp only[]at h5;omega
  ·by_cases hbc':b=c'
   ·subst hbc'
    rw[bq.set_eq]at h4;cases h4
    rw[bq.set_ne _ _ hbc]at h3
    have:=hW.lt c pl h3
    simp only[]at h5;omega
   ·rw[if_neg hbc]at h1
    rw[if_neg hbc']at h2
    rw[bq.set_ne _ _ hbc]at h3
    rw[bq.set_ne _ _ hbc']at h4
    exact hW.inj c c' y y' pl pl' h1 h2 h3 h4 h5
theorem Bb{w:World}{σ:bq}{T:Nat→Prop}{a:AV}{vs:List Value}(h:db w σ T [a] vs):∃v,vs=[v]∧bl w σ T a v:=by
 match vs,h with
 | [v],h=>exact⟨v,rfl,h.2 0 a v rfl rfl⟩
 | [],h=>exact absurd h.1 (by simp)
 | _::_::_,h=>exact absurd h.1 (by simp)
section
variable {P:Program} {f:FuncId} {e:TypeId} {size bytes:Nat}
def xJ(P:Program)(f:FuncId)(e:TypeId)(size bytes:Nat):Prop:=∀(A:Option Addr) (n c:Nat) (xs:List Value) (w:World),Go.Proofs.Ytljkdffikfkcgaa.Flat w size A n xs→(∀x∈xs,x.oneCell'=true)→n*bytes≤140737488355328→(A=none→n=0)→
 Calls P f #[.slice A n c] w fun e' w'=>∃v,e'=.returned v∧w'.ownsRow w.heap.size e size v n xs∧Below w.heap.size w w'
theorem uZ(hcl:xJ P f e size bytes)(hbody:∃fn c,P.funcs[f]? =some fn∧fn.body=some c)(rows:List (List AV))(hne:rows≠[])(hone:(rows.all fun r=>r.all AV.one)=true)(hev:∀r∈rows,r.length=size)(hbig:rows.length*bytes≤140737488355328):
  am P f [.lst rows] [] fun v L=>∃b,v=.sl b 0 rows.length∧L=[(b,⟨size,rows⟩)]:=by
 have hsz:∀(i:Nat) (r:List AV),rows[i]? =some r→r.length=size:=fun i r hr=>hev r (List.mem_of_getElem? hr)
 refine⟨hbody,fun H hb hs=>⟨.sl H.next 0 rows.length,({H with next:=H.next+1}:ah).new H.next ⟨size,rows⟩,[(H.next,⟨size,rows⟩)],?_,?_,H.next,rfl,rfl⟩⟩
 ·intro w σ vs hW hvs
  obtain⟨v,rfl,hv⟩:=Bb hvs
  obtain⟨A,cap,rfl,hn,hm,ha⟩:=hv.lst_inv
  obtain⟨b,o,sz,rfl,hl,hrep⟩:=ha hne
  have hl0:0<rows.length:=List.length_pos_iff.2 hne
  obtain rfl:size=sz:=by
   rw[←hl.even 0 rows[0] (List.getElem?_eq_getElem hl0)]
   exact(hsz 0 rows[0] (List.getElem?_eq_getElem hl0)).symm
  have hdm:∀p,p<rows.length*size→p / size<rows.length∧p % size<size∧p=p / size*size+p % size:=fun p hp=>
   ⟨(Nat.div_lt_iff_lt_mul hl.pos).2 hp,Nat.mod_lt _ hl.pos,by rw[Nat.mul_comm];exact(Nat.div_add_mod _ _).symm⟩
  let xs:List Value:=(List.range (rows.length*size)).map fun p=>(w.cell? ⟨b,o+p,none⟩).getD undef
  have hxl:xs.length=rows.length*size:=by simp[xs]
  have hcell:∀p u,xs[p]? =some u→w.cell? ⟨b,o+p,none⟩=some u:=fun p u hu=>by
   have hp:p<rows.length*size:=by rw[←hxl];exact ax hu
   simp only[xs,List.getElem?_map,List.getElem?_range hp,Option.map_some,Option.some.injEq]at hu
   obtain⟨d1,d2,d3⟩:=hdm p hp
   obtain⟨q,hq⟩:=hl.cell (p / size) (p % size) d1 d2
   rw[Nat.add_assoc,←d3]at hq
   rw[hq]at hu ⊢
   simp only[Option.getD_some]at hu
   rw[hu]
  have hrp:∀(i:Nat) (r:List AV) (j:Nat) (a:AV) (u:Value),rows[i]? =some r→r[j]? =some a→xs[i*size+j]? =some u→bl w σ (aQ σ H) a u:=fun i r j a u h1 h2 h3=>hrep i r j a u h1 h2 (by rw[Nat.add_assoc];exact hcell _ u h3)
  have hone':∀x∈xs,x.oneCell'=true:=fun x hx=>by
   obtain⟨p,hp,rfl⟩:=List.getElem_of_mem hx
   have hp':p<rows.length*size:=by omega
   obtain⟨d1,d2,d3⟩:=hdm p hp'
   have hr:rows[p / size]? =some rows[p / size]:=List.getElem?_eq_getElem d1
   have hj:p % size<rows[p / size].length:=by rw[hsz _ _ hr];exact d2
   have h1:=hrp (p / size) _ (p % size) _ xs[p] hr (List.getElem?_eq_getElem hj) (by rw[←d3];exact List.getElem?_eq_getElem hp)
   exact h1.one (List.all_eq_true.1 (List.all_eq_true.1 hone _ (List.getElem_mem d1)) _ (List.getElem_mem hj))
  refine(hcl (some ⟨b,o,none⟩) rows.length cap xs w ⟨hxl,fun _=>⟨b,o,rfl,hcell⟩⟩ hone' hbig (fun h=>by cases h)).mono ?_
  rintro e' w' ⟨v',rfl,hown,hbl⟩
  rcases hown.2 with⟨_,h0⟩ | ⟨g,cap',cur,rfl,hg,hgb,hnc,hcm,hcs,ht⟩
  ·omega
  have hσ:σ H.next=none:=by
   cases hq:σ H.next with
   | none=>rfl
   | some pl=>exact absurd (hW.named _ pl hq) (Nat.lt_irrefl _)
  have hW1:bc w σ {H with next:=H.next+1}:=hW.congr (fun _=>rfl) (Nat.le_succ _)
  have hOwn:aQ σ ({H with next:=H.next+1}:ah)=aQ σ H:=aQ.congr fun _=>rfl
  have hle:rows.length*size≤cur.size:=by rw[hcs];exact Nat.mul_le_mul_right _ hnc
  obtain⟨g1,g2⟩:=BK (b:=H.next) (g:=g) (x:=⟨size,rows⟩) hW1 hbl hσ (Nat.lt_succ_self _) hg hgb hsz hle (fun i r j a u h1 h2 h3=>by
   rw[hOwn]
   refine hrp i r j a u h1 h2 ?_
   have hj:j<size:=by rw[←hsz i r h1];exact ax h2
   rw[←ht,List.getElem?_take_of_lt (j8 (ax h1) hj),Array.getElem?_toList]
   exact h3)
  refine⟨_,_,rfl,?_,g1,by rw[hOwn]at g2;exact g2,fun c pl hc=>?_⟩
  ·refine bl.sl H.next 0 rows.length ⟨g,0,size⟩ ⟨g,0,none⟩ cap' (bq.set_eq _ _ _) hnc hcm fun _=>⟨by simp,cur,e,hgb,by simp;omega⟩
  ·by_cases hbc:H.next=c
   ·subst hbc;exact .inr (Nat.le_refl _)
   ·rw[bq.set_ne _ _ hbc]at hc;exact .inl hc
 ·refine⟨Nat.le_succ _,fun c hc=>?_,⟨by simp,fun p hp=>?_⟩,fun c x hc _=>⟨?_,?_⟩,fun c hc h0=>?_,fun c hc hlt=>?_⟩
  ·have hc:H.next+1≤c:=hc
   rw[ah.get_new,if_neg (by omega)];exact hb c (by omega)
  ·simp only[List.mem_singleton]at hp;subst hp;rw[ah.get_new,if_pos rfl]
  ·rw[ah.get_new,if_neg];exact hc
   rintro rfl;rw[hb _ (Nat.le_refl _)]at hc;cases hc
  ·simp only[List.map_cons,List.map_nil,List.mem_singleton];rintro rfl;rw[hb _ (Nat.le_refl _)]at hc;cases hc
  ·rw[ah.get_new,if_neg (by omega)];exact h0
  ·simp only[List.map_cons,List.map_nil,List.mem_singleton]at hc;omega
theorem Ai(hcl:xJ P f e size bytes)(hbody:∃fn c,P.funcs[f]? =some fn∧fn.body=some c):am P f [.lst []] [] fun v L=>v=.lst []∧L=[]:=by
 refine⟨hbody,fun H hb hs=>⟨.lst [],H,[],?_,.refl hb hs,rfl,rfl⟩⟩
 intro w σ vs hW hvs
 obtain⟨v,rfl,hv⟩:=Bb hvs
 obtain⟨A,cap,rfl,hn,hm,_⟩:=hv.lst_inv
 refine(hcl A 0 cap [] w ⟨by simp,by omega⟩ (by simp) (by omega) (fun _=>rfl)).mono ?_
 rintro e' w' ⟨v',rfl,hown,hbl⟩
 refine⟨v',σ,rfl,?_,rR hW hbl,iK hbl fun c hc=>(hW.apart c hc).1,fun c pl hc=>.inl hc⟩
 rcases hown.2 with⟨rfl,_⟩ | ⟨g,cap',cur,rfl,hg,hgb,hnc,hcm,hcs,ht⟩
 ·exact .lst0 _ _ (by unfold maxLen;omega)
 ·exact .lst0 _ _ hcm
theorem Aj(hcl:∀(A:Option Addr) (c:Nat) (w:World),Calls P f #[.slice A 0 c] w fun e' w'=>∃B,e'=.returned (.slice B 0 0)∧Below w.heap.size w w')(hbody:∃fn c,P.funcs[f]? =some fn∧fn.body=some c):am P f [.lst []] [] fun v L=>v=.emp∧L=[]:=by
 refine⟨hbody,fun H hb hs=>⟨.emp,H,[],?_,.refl hb hs,rfl,rfl⟩⟩
 intro w σ vs hW hvs
 obtain⟨v,rfl,hv⟩:=Bb hvs
 obtain⟨A,cap,rfl,hn,hm,_⟩:=hv.lst_inv
 refine(hcl A cap w).mono ?_
 rintro e' w' ⟨B,rfl,hbl⟩
 exact⟨_,σ,rfl,.emp B,rR hW hbl,iK hbl fun c hc=>(hW.apart c hc).1,fun c pl hc=>.inl hc⟩
end
end Go.Proofs.Ytljkdffikfkcgaa.Am
end
section
namespace Go.Proofs.Ytljkdffikfkcgaa.Am
open Go.RowKit
set_option linter.unusedVariables false
def dU:Option Nat→Nat→AV
 | none,_=>.lst []
 | some b,n=>.sl b 0 n
theorem BL{P:Program}{f:FuncId}{e:TypeId}{size bytes:Nat}(hcl:xJ P f e size bytes)(hbody:∃fn c,P.funcs[f]? =some fn∧fn.body=some c)(rows:List (List AV))(hone:(rows.all fun r=>r.all AV.one)=true)(hev:∀r∈rows,r.length=size)(hbig:rows.length*bytes≤140737488355328):
  am P f [.lst rows] [] fun v L=>∃o,v=dU o rows.length∧L=ao o size rows∧(o=none→rows=[]):=by
 rcases List.eq_nil_or_concat rows with rfl | ⟨ys,y,hxs⟩
 ·exact(Ai hcl hbody).mono fun v L ⟨h1,h2⟩=>⟨none,h1,h2,fun _=>rfl⟩
 ·refine(uZ hcl hbody rows (by rw[hxs];simp) hone hev hbig).mono ?_
  rintro v L ⟨b,rfl,rfl⟩
  exact⟨some b,rfl,rfl,fun h=>by cases h⟩
end Go.Proofs.Ytljkdffikfkcgaa.Am
end
section
namespace Go.Proofs
open Go.Shelf
def Try.lays189_ren:Go.Shelf.Ren:=⟨fun | 189=>38 | 125=>58 | 257=>57 | 128=>78 | 129=>79 | 294=>69 | 295=>70 | 296=>71 | 297=>72 | 298=>73 | 299=>74 | 216=>75 | 300=>76 | 301=>77 | 328=>87 | 329=>88 | 330=>89 | 331=>90 | 332=>91 | 215=>92 | 343=>94 | n=>n,fun | 28=>42 | 3=>3 | 46=>134 | 0=>0 | 51=>153 | 53=>155 | 4=>4 | 183=>145 | 182=>144 | 131=>150 | 5=>5 | 9=>9 | 218=>161 | 222=>165 | 228=>167 | 229=>159 | n=>n,fun | n=>n⟩
theorem Try.lays189:Go.Proofs.Lays.n189 Try.prog Try.lays189_ren:={
 mixed:=by kernel_rfl
 f125:=Try.func58.trans (congrArg some (by kernel_rfl))
 f128:=Try.func78.trans (congrArg some (by kernel_rfl))
 f129:=Try.func79.trans (congrArg some (by kernel_rfl))
 f189:=Try.func38.trans (congrArg some (by kernel_rfl))
 f215:=Try.func92.trans (congrArg some (by kernel_rfl))
 f216:=Try.func75.trans (congrArg some (by kernel_rfl))
 f257:=Try.func57.trans (congrArg some (by kernel_rfl))
 f294:=Try.func69.trans (congrArg some (by kernel_rfl))
 f295:=Try.func70.trans (congrArg some (by kernel_rfl))
 f296:=Try.func71.trans (congrArg some (by kernel_rfl))
 f297:=Try.func72.trans (congrArg some (by kernel_rfl))
 f298:=Try.func73.trans (congrArg some (by kernel_rfl))
 f299:=Try.func74.trans (congrArg some (by kernel_rfl))
 f300:=Try.func76.trans (congrArg some (by kernel_rfl))
 f301:=Try.func77.trans (congrArg some (by kernel_rfl))
 f328:=Try.func87.trans (congrArg some (by kernel_rfl))
 f329:=Try.func88.trans (congrArg some (by kernel_rfl))
 f330:=Try.func89.trans (congrArg some (by kernel_rfl))
 f331:=Try.func90.trans (congrArg some (by kernel_rfl))
 f332:=Try.func91.trans (congrArg some (by kernel_rfl))
 f343:=Try.func94.trans (congrArg some (by kernel_rfl))
 t0:=Try.underlying0
 a0:=Try.isAgg0
 z0:=Try.sizeOf0
 v0:=Try.zeroValue0
 t3:=Try.underlying3
 a3:=Try.isAgg3
 z3:=Try.sizeOf3
 v3:=Try.zeroValue3
 t4:=Try.underlying4
 a4:=Try.isAgg4
 z4:=Try.sizeOf4
 v4:=Try.zeroValue4
 t5:=Try.underlying5
 a5:=Try.isAgg5
 z5:=Try.sizeOf5
 v5:=Try.zeroValue5
 t9:=Try.underlying9
 a9:=Try.isAgg9
 z9:=Try.sizeOf9
 v9:=Try.zeroValue9
 t28:=Try.underlying42
 a28:=Try.isAgg42
 z28:=Try.sizeOf42
 v28:=Try.zeroValue42
 t46:=Try.underlying134
 a46:=Try.isAgg134
 z46:=Try.sizeOf134
 v46:=Try.zeroValue134
 t51:=Try.underlying153
 a51:=Try.isAgg153
 z51:=Try.sizeOf153
 v51:=Try.zeroValue153
 t53:=Try.underlying155
 a53:=Try.isAgg155
 z53:=Try.sizeOf155
 v53:=Try.zeroValue155
 t131:=Try.underlying150
 a131:=Try.isAgg150
 z131:=Try.sizeOf150
 v131:=Try.zeroValue150
 t182:=Try.underlying144
 a182:=Try.isAgg144
 z182:=Try.sizeOf144
 v182:=Try.zeroValue144
 t183:=Try.underlying145
 a183:=Try.isAgg145
 z183:=Try.sizeOf145
 v183:=Try.zeroValue145
 t218:=Try.underlying161
 a218:=Try.isAgg161
 z218:=Try.sizeOf161
 v218:=Try.zeroValue161
 t222:=Try.underlying165
 a222:=Try.isAgg165
 z222:=Try.sizeOf165
 v222:=Try.zeroValue165
 t228:=Try.underlying167
 a228:=Try.isAgg167
 z228:=Try.sizeOf167
 v228:=Try.zeroValue167
 t229:=Try.underlying159
 a229:=Try.isAgg159
 z229:=Try.sizeOf159
 v229:=Try.zeroValue159}
open Go.Sort Go.RowKit in
theorem Try.slices_Sort_int(blk off cap:Nat)(zs:List Int)(w:World)(hH:Holds (Value.int .i64) w blk off zs.toArray)(hblk:blk<w.heap.size)(hsz:zs.length<4611686018427387904):
  Calls Try.prog 38 #[.slice (some ⟨blk,off,none⟩) zs.length cap] w fun e w'=>
   e=.returned (.tuple #[])∧∃n os,w'=grow (putRow (Value.int .i64) (Sort.ahead w n) blk off (zs.mergeSort fun x y=>decide (x≤y)).toArray) os:=Any.slices_Sort_int Try.lays189 blk off cap zs w hH hblk hsz
def Try.laysNm220_ren:Go.Shelf.Ren:=⟨fun | 20=>39 | n=>n,fun | 22=>42 | 3=>3 | 4=>4 | 0=>0 | n=>n,fun | n=>n⟩
theorem Try.laysNm220:Go.Proofs.Lays2.n20 Try.prog Try.laysNm220_ren:={
 mixed:=by kernel_rfl
 f20:=Try.func39.trans (congrArg some (by kernel_rfl))
 t0:=Try.underlying0
 a0:=Try.isAgg0
 z0:=Try.sizeOf0
 v0:=Try.zeroValue0
 t3:=Try.underlying3
 a3:=Try.isAgg3
 z3:=Try.sizeOf3
 v3:=Try.zeroValue3
 t4:=Try.underlying4
 a4:=Try.isAgg4
 z4:=Try.sizeOf4
 v4:=Try.zeroValue4
 t22:=Try.underlying42
 a22:=Try.isAgg42
 z22:=Try.sizeOf42
 v22:=Try.zeroValue42
 i3:=by kernel_rfl}
open Go.RowKit Go.Lib Go.Sort in
theorem Try.slices_Compact_int(blk off cap:Nat)(zs:List Int)(w:World)(hH:Holds (Value.int .i64) w blk off zs.toArray)(hsz:zs.length≤9223372036854775807)(hcap:zs.length≤cap):
  Calls Try.prog 39 #[.slice (some ⟨blk,off,none⟩) zs.length cap] w fun e w'=>e=.returned (.slice (some ⟨blk,off,none⟩) (Lib.compact zs).length cap)∧∃q,w'=putRow (Value.int .i64) (Sort.ahead w q) blk off (Lib.compact zs++List.replicate (zs.length-(Lib.compact zs).length) 0).toArray:=Any.slices_Compact_int Try.laysNm220 blk off cap zs w hH hsz hcap
open Go.RowKit Go.Lib Go.Sort in
theorem Try.slices_Compact_int_empty(a:Option Addr)(cap:Nat)(w:World):
  Calls Try.prog 39 #[.slice a 0 cap] w fun e w'=>e=.returned (.slice a 0 cap)∧w'=w:=Any.slices_Compact_int_empty Try.laysNm220 a cap w
open Go.RowKit Go.Sort in
theorem Try.slices_Sort_int_none(p:Option Addr)(cap:Nat)(w:World):
  Calls Try.prog 38 #[.slice p 0 cap] w fun e w'=>e=.returned (.tuple #[])∧w'=w:=Any.slices_Sort_int_none Try.lays189 p cap w
end Go.Proofs
end
section
namespace Go.Proofs.Ytljkdffikfkcgaa
open Go.ChangeShapes Go.WideShapes Go.ChangeAt Go.RowKit
set_option linter.unusedVariables false
theorem elemI:Elem Try.prog 42 3 (.int .i64 0) 1 8:=elem_mk Try.underlying42 (by kernel_rfl) rfl (by decide)
set_option maxHeartbeats 1000000 in
set_option maxRecDepth 100000 in
theorem cloneI_any(A:Option Addr)(n c:Nat)(xs:List Value)(w:World)(hf:Flat w 1 A n xs)(h1:∀x∈xs,x.oneCell'=true)(hn:n*8≤140737488355328)(hA:A=none→n=0):
  Calls Try.prog 23 #[.slice A n c] w fun e w'=>∃v,e=.returned v∧w'.ownsRow w.heap.size 3 1 v n xs∧Below w.heap.size w w':=by
 have HF:=Lib.hid hf
 have H1:=Lib.hid h1
 clear hf h1
 have heq:=fun(W:World) (a:Option Addr) (l c:Nat)=>Lib.run_eql_slice_nil (P:=Try.prog) W 42 3 a l c 0 0 Try.underlying42
 cases A with
 | none=>
  obtain rfl:n=0:=hA rfl
  have hx:xs=[]:=List.eq_nil_of_length_eq_zero (by have:=HF.out.1;simpa using this)
  have Hx:=Lib.hid hx
  clear hx HF H1
  go_enter Try.func23,Try.ntmps23
  go_wp2_with fail
  go_ret
  exact⟨_,rfl,by rw[Hx.out];exact World.ownsRow_nil _ _ _ _,Below.refl _ _⟩
 | some a=>
  clear hA
  have M0:Hid ((w.alloc (.cells #[] 3)).ownsRow w.heap.size 3 1 (.slice (some ⟨w.heap.size,0,none⟩) 0 0) 0 []):=Lib.hid (World.ownsRow_made w #[] 0 (Nat.le_refl _) (by simp[maxLen]) (by simp))
  go_enter Try.func23,Try.ntmps23
  go_wp2_with (at_builtin;go_must (refine wpList_app rfl (.tmp 5) (.tmp 6) rfl elemI w.heap.size _ 0 [] rfl M0.out (some a) n c xs rfl (HF.out.kept ((Below.refl _ _).alloc (Nat.le_refl _) _)) H1.out (by simp only[maxLen];omega) (by omega) (by simp) ?_);intro v1 w1 hown1 hg1)
  have hb1:=((Below.refl w.heap.size w).alloc (Nat.le_refl _) _).grown hg1 (by simp) (own_from M0.out)
  go_wp2_with fail
  go_ret
  exact⟨_,rfl,by simpa using hown1,hb1⟩
end Go.Proofs.Ytljkdffikfkcgaa
end
section
namespace Go.Proofs.Ytljkdffikfkcgaa
open Go.ChangeShapes Go.WideShapes Go.ChangeAt Go.RowKit
set_option linter.unusedVariables false
set_option maxRecDepth 100000
theorem append_zero(t ty e:TypeId)(P:Program)(w:World)(ht:P.underlying t=some (.slice e))(hi:∃i,P.info? e=some i)(A B:Option Addr)(c:Nat):(Builtin.append_ #[t,t] ty #[.slice A 0 0,.slice B 0 c]).run P w=.ok (.slice A 0 0) w:=by
 obtain⟨i,hi⟩:=hi
 cases A<;>cases B<;>simp[Builtin.append_,run_underlying ht,sizeOf,typeInfo,hi,Builtin.lenOf,Builtin.firstCells,loadCells,loadCellsFrom,storeCells]
theorem cloneI_zero(A:Option Addr)(c:Nat)(w:World):Calls Try.prog 23 #[.slice A 0 c] w fun e w'=>∃B,e=.returned (.slice B 0 0)∧Below w.heap.size w w':=by
 have heq:=fun(W:World) (a:Option Addr) (l c:Nat)=>Lib.run_eql_slice_nil (P:=Try.prog) W 42 3 a l c 0 0 Try.underlying42
 cases A with
 | none=>
  go_enter Try.func23,Try.ntmps23
  go_wp2_with fail
  go_ret
  exact⟨_,rfl,Below.refl _ _⟩
 | some a=>
  have hinf:∃i,Try.prog.info? 3=some i:=Option.isSome_iff_exists.1 (show(Try.prog.info? 3).isSome=true by kernel_rfl)
  have happ:=fun(W:World) (ty:TypeId) (A B:Option Addr)=>append_zero 42 ty 3 Try.prog W Try.underlying42 hinf A B c
  go_enter Try.func23,Try.ntmps23
  go_wp2_with fail
  go_ret
  exact⟨_,rfl,(Below.refl _ _).alloc (Nat.le_refl _) _⟩
end Go.Proofs.Ytljkdffikfkcgaa
end
section
namespace Go.Proofs.Ytljkdffikfkcgaa.Am
open Go.RowKit Go.Sort
set_option linter.unusedVariables false
def wv(l:List Int):List Int:=l.mergeSort fun x y=>decide (x≤y)
theorem xK(l:List Int):(wv l).length=l.length:=by simp[wv]
theorem zf{xs:List Int}{i:Nat}{r:List AV}(h:(xs.map aJ)[i]? =some r):∃x,xs[i]? =some x∧r=[.int .i64 x]:=by
 rw[List.getElem?_map]at h
 cases hx:xs[i]? with
 | none=>rw[hx]at h;cases h
 | some x=>rw[hx]at h;cases h;exact⟨x,rfl,rfl⟩
theorem zg{P:Program}{f:FuncId}(hbody:∃fn c,P.funcs[f]? =some fn∧fn.body=some c)(b:Nat)(xs ys:List Int)(hlen:ys.length=xs.length)(v:AV)(ret:Addr→Nat→Value)
  (hrep:∀(w':World) (σ:bq) (T:Nat→Prop) (pl:fk) (a:Addr) (cap:Nat),σ b=some pl→xs.length≤cap→cap≤maxLen→(0<cap→a=⟨pl.block,pl.base+0*pl.size,none⟩∧∃cs e,w'.heap[pl.block]? =some (.cells cs e (0,0))∧pl.base+(0+cap)*pl.size≤cs.size)→bl w' σ T v (ret a cap))
  (hpos:∀(blk off cap:Nat) (w:World),Holds (Value.int .i64) w blk off xs.toArray→blk<w.heap.size→xs.length≤cap→Calls P f #[.slice (some ⟨blk,off,none⟩) xs.length cap] w fun e w'=>e=.returned (ret ⟨blk,off,none⟩ cap)∧∃n os,w'=grow (putRow (Value.int .i64) (Sort.ahead w n) blk off ys.toArray) os)
  (hzero:xs.length=0→∀(a:Addr) (cap:Nat) (w:World),Calls P f #[.slice (some a) 0 cap] w fun e w'=>e=.returned (ret a cap)∧w'=w) :
  am P f [.sl b 0 xs.length] [(b,⟨1,xs.map aJ⟩)] fun u L=>u=v∧L=[(b,⟨1,ys.map aJ⟩)]:=by
 refine⟨hbody,fun H hb hs=>⟨v,H.put b (some ⟨1,ys.map aJ⟩),[(b,⟨1,ys.map aJ⟩)],?_,?_,rfl,rfl⟩⟩
 ·intro w σ vs hW hvs
  obtain⟨v,rfl,hv⟩:=Bb hvs
  obtain⟨pl,a,cap,rfl,hsg,hnc,hmx,ha⟩:=hv.sl_inv
  have hg:H.get b=some ⟨1,xs.map aJ⟩:=hs.get (b,⟨1,xs.map aJ⟩) (by simp)
  obtain⟨pl',cs,e,g1,g2⟩:=hW.live b _ hg
  rw[hsg]at g1
  cases g1
  have hsz:pl.size=1:=g2.size
  rcases Nat.eq_zero_or_pos xs.length with h0 | h0
  ·have hx:xs=[]:=List.length_eq_zero_iff.1 h0
   have hy:ys=[]:=List.length_eq_zero_iff.1 (by omega)
   have hz:=hzero h0 a cap w
   rw[h0]
   refine hz.mono ?_
   rintro e' w' ⟨rfl,rfl⟩
   have hput:=hW.put hg hsg (iA.refl g2.block) (x':=⟨1,ys.map aJ⟩) g2.size.symm (by simp[hy]) (by simpa[hy,hx]using g2.room) (by simp[hy])
   exact⟨_,σ,rfl,hrep _ _ _ pl a cap hsg hnc hmx ha,hput.1,hput.2,fun c pl hc=>.inl hc⟩
  ·have ha':=ha
   obtain⟨rfl,cs',te,hcs',hroom⟩:=ha (by omega)
   rw[g2.block]at hcs'
   cases hcs'
   have hr:=g2.room
   simp only[List.length_map,Nat.mul_one]at hr
   have hcell:∀(i:Nat) (x:Int),xs[i]? =some x→cs[pl.base+i]? =some (.int .i64 x):=fun i x hx=>by
    have hi:=ax hx
    have hi':pl.base+i<cs.size:=by omega
    have:=g2.rep i [.int .i64 x] 0 (.int .i64 x) cs[pl.base+i] (by simp[hx,aJ]) rfl (by simp[Array.getElem?_eq_getElem hi'])
    cases hq:cs[pl.base+i]with
    | _=>rw[hq]at this;cases this<;>rw[Array.getElem?_eq_getElem hi',hq]
   have hH:Holds (Value.int .i64) w pl.block (pl.base+0*pl.size) xs.toArray:=fun j hj=>by
    have hj':j<xs.length:=by simpa using hj
    refine⟨?_,by simp[World.frozen?,g2.block]⟩
    have:=hcell j xs[j] (List.getElem?_eq_getElem hj')
    simp[World.cell?,g2.block,this,hj']
   refine(hpos pl.block (pl.base+0*pl.size) cap w hH (hW.lt b pl hsg) hnc).mono ?_
   rintro e' w' ⟨rfl,n,os,rfl⟩
   have hz:pl.base+0*pl.size=pl.base:=by omega
   rw[show putRow (Value.int .i64) (Sort.ahead w n) pl.block (pl.base+0*pl.size) ys.toArray=putRow (Value.int .i64) (Sort.ahead w n) pl.block pl.base ys.toArray by rw[hz]]
   have hw:iA w (putRow (Value.int .i64) (Sort.ahead w n) pl.block pl.base ys.toArray) pl.block cs (putCells (Value.int .i64) pl.base ys.toArray cs) e:=
    ⟨rfl,rfl,rfl,by simp[Sort.ahead],g2.block,by simp[putRow,mapBlock,Sort.ahead,Array.getElem?_modify,g2.block,onCells],by simp[putCells],fun d hd=>by
     have:pl.block≠d:=fun e=>hd e.symm
     simp[putRow,mapBlock,Sort.ahead,Array.getElem?_modify,this]⟩
   obtain⟨p1,p2⟩:=hW.put hg hsg hw (x':=⟨1,ys.map aJ⟩) g2.size.symm (fun i r hr=>by obtain⟨x,_,rfl⟩:=zf hr;rfl) (by simp only[List.length_map,Nat.mul_one];omega) (fun i r j a u hr hj hu=>by
    obtain⟨x,hx,rfl⟩:=zf hr
    match j,hj with
    | 0,hj=>
     cases hj
     have hi:=ax hx
     have hi':pl.base+i<cs.size:=by omega
     simp only[Nat.mul_one,Nat.add_zero]at hu
     have:(putCells (Value.int .i64) pl.base ys.toArray cs)[pl.base+i]? =some (.int .i64 x):=by
      have hx':ys[i]=x:=by rw[List.getElem?_eq_getElem hi]at hx;exact Option.some.inj hx
      simp[putCells,hi',hi,hx']
     rw[this]at hu
     cases hu
     exact .int _ _
    | j+1,hj=>simp at hj)
   generalize hw1:putRow (Value.int .i64) (Sort.ahead w n) pl.block pl.base ys.toArray=w1 at p1 p2
   have hbl:Below w1.heap.size w1 (grow w1 os):=⟨rfl,rfl,rfl,by simp[grow],fun k hk=>heap_grow_old _ _ hk⟩
   have hE:=p2.trans (iK hbl fun c hc=>(p1.apart c hc).1)
   exact⟨_,σ,rfl,hrep _ _ _ pl _ cap hsg hnc hmx (fun h=>⟨rfl,by obtain⟨cs2,k1,k2⟩:=hE.shape _ _ _ g2.block;exact⟨cs2,_,k1,by omega⟩⟩),rR p1 hbl,p2.trans (iK hbl fun c hc=>(p1.apart c hc).1),fun c pl hc=>.inl hc⟩
 ·have hg:H.get b=some ⟨1,xs.map aJ⟩:=hs.get (b,⟨1,xs.map aJ⟩) (by simp)
  refine⟨Nat.le_refl _,fun c hc=>?_,⟨by simp,fun p hp=>?_⟩,fun c x hc hn=>⟨?_,?_⟩,fun c hc h0=>?_,fun c hc hlt=>?_⟩
  ·rw[ah.get_put,if_neg];exact hb c hc
   rintro rfl;rw[hb _ hc]at hg;cases hg
  ·simp only[List.mem_singleton]at hp;subst hp;rw[ah.get_put,if_pos rfl]
  ·rw[ah.get_put,if_neg];exact hc
   rintro rfl;exact hn (by simp)
  ·simpa using hn
  ·rw[ah.get_put,if_neg];exact h0
   rintro rfl;rw[hg]at h0;cases h0
  ·simpa using hc
theorem EN(b:Nat)(xs:List Int)(hl:xs.length<4611686018427387904):am Try.prog 38 [.sl b 0 xs.length] [(b,⟨1,xs.map aJ⟩)] fun v L=>v=.tup []∧L=[(b,⟨1,(wv xs).map aJ⟩)]:=
 zg ⟨_,_,Try.func38,rfl⟩ b xs (wv xs) (xK xs) (.tup []) (fun _ _=>.tuple #[]) (fun _ _ _ _ _ _ _ _ _ _=>.tup [] [] rfl (by simp))
  (fun blk off cap w hH hblk _=>Try.slices_Sort_int blk off cap xs w hH hblk hl) (fun _ a cap w=>Try.slices_Sort_int_none (some a) cap w)
theorem s9(l:List Int):(Lib.compact l).length≤l.length:=by
 unfold Lib.compact Lib.compactUpTo
 rw[List.length_map]
 exact Nat.le_trans (List.length_filter_le _ _) (by simp)
theorem Ak(b:Nat)(xs:List Int)(hl:xs.length≤9223372036854775807):am Try.prog 39 [.sl b 0 xs.length] [(b,⟨1,xs.map aJ⟩)] fun v L=>v=.sl b 0 (Lib.compact xs).length∧L=[(b,⟨1,(Lib.compact xs++List.replicate (xs.length-(Lib.compact xs).length) 0).map aJ⟩)]:=
 zg ⟨_,_,Try.func39,rfl⟩ b xs _ (by have:=s9 xs;simp;omega) (.sl b 0 (Lib.compact xs).length) (fun a cap=>.slice (some a) (Lib.compact xs).length cap)
  (fun w' σ T pl a cap h1 h2 h3 h4=>.sl b 0 _ pl a cap h1 (Nat.le_trans (s9 xs) h2) h3 h4)
  (fun blk off cap w hH hblk hcap=>(Try.slices_Compact_int blk off cap xs w hH hl hcap).mono fun e w' ⟨h1,q,h2⟩=>⟨h1,q,#[],by rw[h2,grow_empty]⟩)
  (fun h0 a cap w=>by
   have hx:xs=[]:=List.length_eq_zero_iff.1 h0
   subst hx
   exact Try.slices_Compact_int_empty (some a) cap w)
theorem BM(xs:List Int)(hl:xs.length*8≤140737488355328):am Try.prog 23 [.lst (xs.map aJ)] [] fun v L=>∃o,v=au o xs.length∧L=ao o 1 (xs.map aJ)∧(o=none→xs=[]):=by
 rcases List.eq_nil_or_concat xs with rfl | ⟨ys,y,hxs⟩
 ·exact(Aj cloneI_zero ⟨_,_,Try.func23,rfl⟩).mono fun v L ⟨h1,h2⟩=>⟨none,h1,h2,fun _=>rfl⟩
 ·have hne:xs.map aJ≠[]:=by rw[hxs];simp
  refine(uZ (fun A n c xs w hf h1 hn hA=>cloneI_any A n c xs w hf h1 hn hA) ⟨_,_,Try.func23,rfl⟩ (xs.map aJ) hne (by simp[aJ,AV.one]) (fun r hr=>by obtain⟨x,_,rfl⟩:=List.mem_map.1 hr;rfl) (by simpa using hl)).mono ?_
  rintro v L ⟨b,rfl,rfl⟩
  exact⟨some b,by simp[au],rfl,fun h=>by cases h⟩
end Go.Proofs.Ytljkdffikfkcgaa.Am
end
section
namespace Go.Proofs.Ytljkdffikfkcgaa.Am
set_option linter.unusedVariables false
theorem fx(d:Array Int)(hs:∀i j,i<j→j<d.size→d[i]!≤d[j]!):∀m,m≤d.size→
  (Lib.compactUpTo d m).Pairwise (·<·)∧(∀x∈Lib.compactUpTo d m,∃j,j<m∧x=d[j]!)∧(∀j,j<m→d[j]!∈Lib.compactUpTo d m)
 | 0,_=>⟨by simp[Lib.compactUpTo],by simp[Lib.compactUpTo],by intro j hj;omega⟩
 | m+1,hm=>by
  obtain⟨h1,h2,h3⟩:=fx d hs m (by omega)
  rw[Lib.compactUpTo_succ]
  by_cases hk:Lib.keeps d m=true
  ·rw[if_pos hk]
   refine⟨?_,?_,?_⟩
   ·rw[List.pairwise_append]
    refine⟨h1,by simp,?_⟩
    intro x hx y hy
    obtain⟨j,hj,rfl⟩:=h2 x hx
    simp at hy
    subst hy
    have hle:=hs j m hj (by omega)
    have hne:d[j]!≠d[m]! :=by
     intro he
     have hm0:0<m:=by omega
     have h4:d[m]!≠d[m-1]! :=by
      intro h5
      rw[Lib.keeps_neg hm0 h5]at hk
      cases hk
     have h5:d[j]!≤d[m-1]! :=by
      rcases Nat.lt_or_ge j (m-1)with h | h
      ·exact hs j (m-1) h (by omega)
      ·rw[show j=m-1 from by omega]
       exact Int.le_refl _
     have h6:d[m-1]!≤d[m]! :=hs (m-1) m (by omega) (by omega)
     exact h4 (by omega)
    omega
   ·intro x hx
    rw[List.mem_append]at hx
    rcases hx with hx | hx
    ·obtain⟨j,hj,e⟩:=h2 x hx
     exact⟨j,by omega,e⟩
    ·simp at hx
     exact⟨m,by omega,hx⟩
   ·intro j hj
    rw[List.mem_append]
    rcases Nat.lt_or_ge j m with h | h
    ·exact .inl (h3 j h)
    ·rw[show j=m from by omega]
     exact .inr (by simp)
  ·rw[if_neg hk,List.append_nil]
   have hm0:0<m:=by
    rcases Nat.eq_zero_or_pos m with h | h
    ·subst h
     exact absurd (Lib.keeps_lt_one d 0 (by omega)) hk
    ·exact h
   have he:d[m]! =d[m-1]! :=by
    apply Classical.byContradiction
    intro h
    exact hk (Lib.keeps_pos h)
   refine⟨h1,fun x hx=>?_,fun j hj=>?_⟩
   ·obtain⟨j,hj,e⟩:=h2 x hx
    exact⟨j,by omega,e⟩
   ·rcases Nat.lt_or_ge j m with h | h
    ·exact h3 j h
    ·rw[show j=m from by omega,he]
     exact h3 (m-1) (by omega)
theorem EO(l:List Int)(j:Nat)(hj:j<l.length):l.toArray[j]! =l[j]:=by
 rw[getElem!_pos _ _ (by simpa using hj)]
 simp
theorem u0(l:List Int):∀i j,i<j→j<(wv l).toArray.size→(wv l).toArray[i]!≤(wv l).toArray[j]! :=by
 intro i j hij hj
 have hj':j<(wv l).length:=by simpa using hj
 rw[EO _ i (by omega),EO _ j hj']
 have hp:(wv l).Pairwise (fun x y=>(decide (x≤y))=true):=List.pairwise_mergeSort (fun a b c=>by simp;omega) (fun a b=>by simp;omega) l
 have:=(List.pairwise_iff_getElem.1 hp) i j (by omega) hj' hij
 simpa using this
def zQ(l:List Int):List Int:=Lib.compact (wv l)
theorem xL(l:List Int)(x:Int):x∈zQ l↔x∈l:=by
 obtain⟨h1,h2,h3⟩:=fx (wv l).toArray (u0 _) (wv l).length (by simp)
 have hm:∀y,y∈wv l↔y∈l:=fun y=>by simp[wv,List.mem_mergeSort]
 unfold zQ Lib.compact
 constructor
 ·intro hx
  obtain⟨j,hj,rfl⟩:=h2 x hx
  rw[EO _ j hj]
  exact(hm _).1 (List.getElem_mem _)
 ·intro hx
  obtain⟨j,hj,rfl⟩:=List.getElem_of_mem ((hm x).2 hx)
  rw[←EO _ j hj]
  exact h3 j hj
theorem EP(l:List Int):(zQ l).Pairwise (·<·):=
 (fx (wv l).toArray (u0 _) (wv l).length (by simp)).1
end Go.Proofs.Ytljkdffikfkcgaa.Am
end
section
namespace Go.Proofs.Ytljkdffikfkcgaa.Am
set_option linter.unusedVariables false
inductive cW (o:Option Nat) (n:Nat) (rows:List (List AV)):SH→SH→Prop where
 | here (R:SH):cW o n rows (ao o n rows++R) R
 | last:cW o n rows (ao o n rows) []
 | there (p:Nat×Blk) {L L':SH}:cW o n rows L L'→cW o n rows (p::L) (p::L')
 | skip (o2:Option Nat) (n2:Nat) (rows2:List (List AV)) {L L':SH}:cW o n rows L L'→cW o n rows (ao o2 n2 rows2++L) (ao o2 n2 rows2++L')
theorem cW.some'{b n:Nat}{rows:List (List AV)}{L L':SH}(h:cW (some b) n rows L L'):dG b ⟨n,rows⟩ L L':=by
 induction h with
 | here R=>exact .here R
 | last=>exact .here []
 | there p h ih=>exact .there p ih
 | skip o2 n2 rows2 h ih=>exact ih.app _
theorem cW.none'{n:Nat}{rows:List (List AV)}{L L':SH}(h:cW none n rows L L'):L=L':=by
 induction h with
 | here R=>rfl
 | last=>rfl
 | there p h ih=>rw[ih]
 | skip o2 n2 rows2 h ih=>rw[ih]
theorem cW.perm{o:Option Nat}{n:Nat}{rows:List (List AV)}{L L':SH}(h:cW o n rows L L'):L.Perm (ao o n rows++L'):=by
 cases o with
 | none=>rw[h.none'];exact .refl _
 | some b=>exact h.some'.perm
theorem dG.mem'{b:Nat}{x:Blk}{L L':SH}(h:dG b x L L'):(b,x)∈L:=by
 induction h with
 | here L=>simp
 | there p h ih=>simp[ih]
section
variable {KL:AV→SH→Prop} {L L':SH}
theorem cI{o:Option Nat}{i n by_ bX k:Nat}{rows m:List (List AV)}(hX:(bX,(⟨n,m⟩:Blk))∈L)(hd:cW o n rows L L')(hr:rows.length=i)(h0:o=none→rows=[])(hk:k=m.length)(hm:0<m.length)(h2:2*(i+m.length)*by_≤2^48)(h3:2*(i+m.length)≤2^62)(h4:(m.all fun r=>r.all AV.one)=true)
  (h:∀b,b∉L.names→KL (.sl b 0 (i+m.length)) ((b,⟨n,rows++m⟩)::L')):W.append n by_ (au o i) (.sl bX 0 k) L KL:=by
 subst hk
 cases o with
 | none=>
  have hr0:=h0 rfl
  subst hr0
  simp only[List.length_nil]at hr
  subst hr
  have hl:=hd.none'
  subst hl
  have:=AZ (KL:=KL) (L:=L) (by_:=by_) (ue hX rfl rfl) (by simpa using h2) (by simpa using h3) h4 (by show m.length≠0;omega) (fun b hb=>by simpa using h b hb)
  exact this
 | some b=>
  subst hr
  exact uc (y:=⟨n,rows⟩) (l:=rows) hd.some'.mem' rfl (by simp) (by simp) (ue hX rfl rfl) h2 h3 h4 hd.some' (fun b' hb=>h b' hb)
theorem C8{α:Type}{f:α→List AV}{l:List α}{o:Option Nat}{i n by_:Nat}{rows:List (List AV)}(hd:cW o n rows L L')(hn:∀x,(f x).length=n)(hr:rows.length=i)(h0:o=none→rows=[])(h2:2*(i+l.length)*by_≤2^48)(h3:2*(i+l.length)≤2^62)(h4:∀x,(f x).all AV.one=true)
  (h:∀o',(o'=none→rows++l.map f=[])→KL (au o' (i+l.length)) (ao o' n (rows++l.map f)++L')):W.append n by_ (au o i) (.lst (l.map f)) L KL:=by
 have h4':((l.map f).all fun r=>r.all AV.one)=true:=by
  rw[List.all_eq_true]
  intro r hr
  obtain⟨x,_,rfl⟩:=List.mem_map.1 hr
  exact h4 x
 cases o with
 | none=>
  have hr0:=h0 rfl
  subst hr0
  simp only[List.length_nil]at hr
  subst hr
  have hl:=hd.none'
  subst hl
  refine⟨[],l.map f,rfl,ud hn,by simpa using h2,by simpa using h3,h4',fun e=>?_,fun e b hb=>?_⟩
  ·have hl:l=[]:=by simpa using e
   subst hl
   exact h none fun _=>rfl
  ·have:=h (some b) nofun
   simpa[au,ao]using this
 | some b=>
  subst hr
  refine uc (y:=⟨n,rows⟩) (l:=rows) hd.some'.mem' rfl (by simp) (by simp) (ud hn) (by simpa using h2) (by simpa using h3) h4' hd.some' (fun b' hb=>?_)
  have:=h (some b') nofun
  simpa[au,ao]using this
inductive ez:SH→SH→Prop where
 | nil (L:SH):ez L []
 | one {b:Nat} {x:Blk} {L L' R:SH}:dG b x L L'→ez L' R→ez L ((b,x)::R)
 | slot {o:Option Nat} {n:Nat} {rows:List (List AV)} {L L' R:SH}:cW o n rows L L'→ez L' R→ez L (ao o n rows++R)
 | slotl {o:Option Nat} {n:Nat} {rows:List (List AV)} {L L':SH}:cW o n rows L L'→ez L (ao o n rows)
theorem ez.perm{L R:SH}(h:ez L R):∃K,L.Perm (K++R):=by
 induction h with
 | nil L=>exact⟨L,by simp⟩
 | one hd hp ih=>
  obtain⟨K,hK⟩:=ih
  exact⟨K,(hd.perm.trans ((hK.cons _).trans List.perm_middle.symm))⟩
 | slot hd hp ih=>
  obtain⟨K,hK⟩:=ih
  refine⟨K,hd.perm.trans ((hK.append_left _).trans ?_)⟩
  rw[←List.append_assoc,←List.append_assoc]
  exact List.perm_append_comm.append_right _
 | slotl hd=>exact⟨_,hd.perm.trans List.perm_append_comm⟩
theorem aV.pick{vs vs2:List AV}{R:SH}(h:ez L R)(hv:vs=vs2):aV vs L vs2 R:=by
 subst hv
 obtain⟨K,hK⟩:=h.perm
 exact aV.forget hK
end
end Go.Proofs.Ytljkdffikfkcgaa.Am
end
section
namespace Go.Proofs.Ytljkdffikfkcgaa.Am
structure aw where
 op:Int
 a:Int
 b:Int
 c:Int
 n:Int
 site:Int
 deriving Inhabited
def aw.enc(i:aw):List AV:=[.int .i64 i.op,.int .i64 i.a,.int .i64 i.b,.int .i64 i.c,.int .i64 i.n,.int .i64 i.site]
structure lf where
 regs:Int
 ins:List aw
def lf.enc(c:lf):List AV:=[.int .i64 c.regs,.lst (c.ins.map aw.enc)]
end Go.Proofs.Ytljkdffikfkcgaa.Am
end
section
namespace Go.Proofs.Ytljkdffikfkcgaa.Am
set_option linter.unusedVariables false
def ir(b:Bool):Int:=if b then 1 else 0
def BN(op a:Int):Int×Bool:=if op=4 then(IntKind.i64.wrap (0-a),true)else if op=5 then(ir (decide (a=0)),true)else(0,false)
def rS(op a b:Int):Int×Bool:=
 if op=6 then(IntKind.i64.wrap (a+b),true)else
 if op=7 then(IntKind.i64.wrap (a-b),true)else
 if op=8 then(IntKind.i64.wrap (a*b),true)else
 if op=9 then(if b=0 then 0 else IntKind.i64.wrap (a.tdiv b),true)else
 if op=10 then(if b=0 then 0 else a.tmod b,true)else
 if op=11 then(ir (decide (a=b)),true)else
 if op=12 then(ir (decide (a≠b)),true)else
 if op=13 then(ir (decide (a<b)),true)else
 if op=14 then(ir (decide (a≤b)),true)else
 if op=15 then(ir (decide (b<a)),true)else
 if op=16 then(ir (decide (b≤a)),true)else
 if op=17 then(ir (decide (a≠0)&&decide (b≠0)),true)else
 if op=18 then(ir (decide (a≠0)||decide (b≠0)),true)else(0,false)
structure bK where
 pc:Int
 regs:List Int
 taint:List (List Int)
 ev:Int
def cC(l:List Int):List AV:=[.lst (l.map aJ)]
def bK.enc(s:bK):List AV:=[.int .i64 s.pc,.lst (s.regs.map aJ),.lst (s.taint.map cC),.int .i64 s.ev]
def bK.zero:bK:=⟨0,[],[],0⟩
def bK.has(s:bK)(r:Int):Bool:=inB r s.regs.length
def bK.reg(s:bK)(r:Int):Int:=s.regs.getD r.toNat 0
def bK.tnt(s:bK)(r:Int):List Int:=s.taint.getD r.toNat []
def bK.put(s:bK)(a v:Int)(t:List Int):bK:=⟨IntKind.i64.wrap (s.pc+1),s.regs.set a.toNat v,s.taint.set a.toNat t,s.ev⟩
def bu(i:aw)(s:bK):Option bK:=
 if i.op=1 then(if s.has i.a then some (s.put i.a i.n [])else none)else
 if i.op=2 then(if s.has i.a&&s.has i.b then some (s.put i.a (s.reg i.b) (s.tnt i.b))else none)else
 if i.op=3 then(if s.has i.a&&s.has i.b&&(BN i.n (s.reg i.b)).2 then some (s.put i.a (BN i.n (s.reg i.b)).1 (s.tnt i.b))else none)else
 if i.op=4 then(if s.has i.a&&s.has i.b&&s.has i.c&&(rS i.n (s.reg i.b) (s.reg i.c)).2 then some (s.put i.a (rS i.n (s.reg i.b) (s.reg i.c)).1 (zQ (s.tnt i.b++s.tnt i.c)))else none)else
 some {s with pc:=i.a}
def dz(ins:List aw):Nat→bK→bK×Bool
 | 0,s=>if inB s.pc ins.length then(if(ins.getD s.pc.toNat default).op<1∨5<(ins.getD s.pc.toNat default).op then(s,true)else(bK.zero,false))else(bK.zero,false)
 | k+1,s=>if inB s.pc ins.length then(if(ins.getD s.pc.toNat default).op<1∨5<(ins.getD s.pc.toNat default).op then(s,true)else
   match bu (ins.getD s.pc.toNat default) s with
   | none=>(bK.zero,false)
   | some s2=>dz ins k s2)else(bK.zero,false)
def cg(c:lf)(s:bK):bK×Bool:=
 if(s.regs.length:Int)=c.regs∧(s.taint.length:Int)=c.regs then dz c.ins c.ins.length s else(bK.zero,false)
def C9(p:bK×Bool):AV:=.tup [.agg p.1.enc,.bool p.2]
structure kj(U:List Int)(s:bK):Prop where
 len:s.taint.length=s.regs.length
 small:s.regs.length<2^40
 short:∀l∈s.taint,l.length≤2^30
 sub:∀l∈s.taint,∀x∈l,x∈U
theorem xc:∀{l U:List Int},l.Nodup→(∀x∈l,x∈U)→l.length≤U.length
 | [],U,_,_=>by simp
 | x::l,U,hn,hs=>by
  have hx:x∈U:=hs x (by simp)
  have h1:=List.nodup_cons.1 hn
  have:=xc (l:=l) (U:=U.erase x) h1.2 fun y hy=>(List.mem_erase_of_ne (by rintro rfl;exact h1.1 hy)).2 (hs y (by simp[hy]))
  rw[List.length_erase_of_mem hx]at this
  have:=List.length_pos_of_mem hx
  simp only[List.length_cons]
  omega
theorem BO{U l:List Int}(h:∀x∈l,x∈U):(zQ l).length≤U.length:=by
 have hnd:(zQ l).Nodup:=(EP l).imp (fun {a b} (h:a<b)=>by omega)
 exact xc hnd fun x hx=>h x ((xL l x).1 hx)
theorem kj.tnt{U:List Int}{s:bK}(h:kj U s)(r:Int):(s.tnt r).length≤2^30∧∀x∈s.tnt r,x∈U:=by
 unfold bK.tnt
 rw[List.getD_eq_getElem?_getD]
 cases he:s.taint[r.toNat]? with
 | none=>simp
 | some l=>exact⟨h.short l (List.mem_of_getElem? he),h.sub l (List.mem_of_getElem? he)⟩
theorem kj.put{U:List Int}{s:bK}(h:kj U s)(a v:Int){t:List Int}(h1:t.length≤2^30)(h2:∀x∈t,x∈U):kj U (s.put a v t):=by
 refine⟨by simp[bK.put,h.len],by simpa[bK.put]using h.small,fun l hl=>?_,fun l hl=>?_⟩
 ·rcases List.mem_or_eq_of_mem_set hl with g | g
  ·exact h.short l g
  ·rw[g];exact h1
 ·rcases List.mem_or_eq_of_mem_set hl with g | g
  ·exact h.sub l g
  ·rw[g];exact h2
theorem kj.step{U:List Int}(hU:U.length≤2^30){s s2:bK}{i:aw}(h:kj U s)(he:bu i s=some s2):kj U s2:=by
 unfold bu at he
 split at he
 ·split at he
  ·cases he;exact h.put _ _ (by simp) (by simp)
  ·cases he
 ·split at he
  ·split at he
   ·cases he;exact h.put _ _ (h.tnt _).1 (h.tnt _).2
   ·cases he
  ·split at he
   ·split at he
    ·cases he;exact h.put _ _ (h.tnt _).1 (h.tnt _).2
    ·cases he
   ·split at he
    ·split at he
     ·cases he
      have hs:∀x∈s.tnt i.b++s.tnt i.c,x∈U:=fun x hx=>by
       rcases List.mem_append.1 hx with g | g
       ·exact(h.tnt _).2 x g
       ·exact(h.tnt _).2 x g
      exact h.put _ _ (Nat.le_trans (BO hs) hU) fun x hx=>hs x ((xL _ _).1 hx)
     ·cases he
    ·cases he
     exact⟨h.len,h.small,h.short,h.sub⟩
end Go.Proofs.Ytljkdffikfkcgaa.Am
end
section
namespace Go.Proofs.Ytljkdffikfkcgaa
open Go.ChangeShapes Go.WideShapes Go.ChangeAt Go.RowKit
set_option linter.unusedVariables false
theorem elemJ:Elem Try.prog 23 2 (.int .i64 0) 1 8:=elem_mk Try.underlying23 (by kernel_rfl) rfl (by decide)
set_option maxHeartbeats 1000000 in
set_option maxRecDepth 100000 in
theorem cloneJ_any(A:Option Addr)(n c:Nat)(xs:List Value)(w:World)(hf:Flat w 1 A n xs)(h1:∀x∈xs,x.oneCell'=true)(hn:n*8≤140737488355328)(hA:A=none→n=0):
  Calls Try.prog 22 #[.slice A n c] w fun e w'=>∃v,e=.returned v∧w'.ownsRow w.heap.size 2 1 v n xs∧Below w.heap.size w w':=by
 have HF:=Lib.hid hf
 have H1:=Lib.hid h1
 clear hf h1
 have heq:=fun(W:World) (a:Option Addr) (l c:Nat)=>Lib.run_eql_slice_nil (P:=Try.prog) W 23 2 a l c 0 0 Try.underlying23
 cases A with
 | none=>
  obtain rfl:n=0:=hA rfl
  have hx:xs=[]:=List.eq_nil_of_length_eq_zero (by have:=HF.out.1;simpa using this)
  have Hx:=Lib.hid hx
  clear hx HF H1
  go_enter Try.func22,Try.ntmps22
  go_wp2_with fail
  go_ret
  exact⟨_,rfl,by rw[Hx.out];exact World.ownsRow_nil _ _ _ _,Below.refl _ _⟩
 | some a=>
  clear hA
  have M0:Hid ((w.alloc (.cells #[] 2)).ownsRow w.heap.size 2 1 (.slice (some ⟨w.heap.size,0,none⟩) 0 0) 0 []):=Lib.hid (World.ownsRow_made w #[] 0 (Nat.le_refl _) (by simp[maxLen]) (by simp))
  go_enter Try.func22,Try.ntmps22
  go_wp2_with (at_builtin;go_must (refine wpList_app rfl (.tmp 5) (.tmp 6) rfl elemJ w.heap.size _ 0 [] rfl M0.out (some a) n c xs rfl (HF.out.kept ((Below.refl _ _).alloc (Nat.le_refl _) _)) H1.out (by simp only[maxLen];omega) (by omega) (by simp) ?_);intro v1 w1 hown1 hg1)
  have hb1:=((Below.refl w.heap.size w).alloc (Nat.le_refl _) _).grown hg1 (by simp) (own_from M0.out)
  go_wp2_with fail
  go_ret
  exact⟨_,rfl,by simpa using hown1,hb1⟩
end Go.Proofs.Ytljkdffikfkcgaa
end
section
namespace Go.Proofs.Ytljkdffikfkcgaa.Am
set_option linter.unusedVariables false
theorem Iu{o:Nat}{x:AV}{L:SH}{K:AV→Prop}(h:bo o x L K):bo o x L K:=h
theorem GI{o:Nat}{x:AV}{L:SH}{K:AV→Prop}(h:c8 o x L K):c8 o x L K:=h
theorem Jb{x:AV}{L:SH}{K:AV→Prop}(h:wl x L K):wl x L K:=h
theorem Iv{n:Nat}{x i:AV}{L:SH}{K:AV→Prop}(h:Ba n x i L K):Ba n x i L K:=h
theorem Iw{n:Nat}{x i:AV}{L:SH}{K:AV→Prop}(h:ug n x i L K):ug n x i L K:=h
theorem GJ{n o:Nat}{x i:AV}{L:SH}{K:AV→Prop}(h:gQ n o x i L K):gQ n o x i L K:=h
theorem Jc{us:List W.WR}{i:Nat}{x:AV}{L:SH}{K:AV→Fp→Prop}(h:dl us i x L K):dl us i x L K:=h
theorem Ix{o:Nat}{x:AV}{us:List W.WR}{i:Nat}{L:SH}{K:AV→Fp→Prop}(h:bx o x us i L K):bx o x us i L K:=h
theorem Jd{us:List W.WR}{i n:Nat}{x:AV}{L:SH}{K:AV→Fp→Prop}(h:dr us i n x L K):dr us i n x L K:=h
theorem Je{us:List W.WR}{i n:Nat}{x ix:AV}{L:SH}{K:AV→Fp→Prop}(h:di us i n x ix L K):di us i n x ix L K:=h
theorem st{P Q:Prop}(k:Q)(h:Q→P:=by
 intro k
 first
 | (refine Iu ?_;first | exact FQ k | exact FR k | exact C4 k)
 | (refine dm ?_;first | exact FC k | exact Fx k | exact FD k | exact FB k | exact FA k | exact Fy k | exact b9 k | exact CG k | exact ge k | exact CH k | exact FE k | exact FG k | exact FH k | exact b_eqB k | exact FS k | exact FK k | exact FL k)
 | (refine Ij ?_;first | exact yY k | exact yZ k)
 | (refine Ik ?_;first | exact xF k | exact xG k | exact xz k)
 | (refine Jb ?_;first | exact EJ k | exact Io k | exact Gq k)
 | (refine FO ?_;first | exact xF k | exact xG k | exact xz k)
 | (refine Gn ?_;first | exact CX k | exact CY k)
 | (refine GI ?_;first | exact wnfl_q k | exact Gs k | exact C5 k)
 | (refine Ie ?_;first | exact EB k | exact EA k | exact AY k | exact a_len_n k | exact A0 k)
 | (refine GJ ?_;first | exact Gt k | exact C6 k)
 | (refine Iw ?_;first | exact Iq k | exact FN k)
 | (refine Iv ?_;first | exact Ip k | exact FM k)
 | (refine ED ?_;first | exact rP k | exact rO k)
 | (refine C3 ?_;first | exact uf k | exact b_row_i k | exact A9 k | exact zd k | exact ze k)
 | (refine Ix ?_;first | exact Is k | exact FP k)
 | (refine Jc ?_;first | exact Ir k | exact Il k)
 | (refine Jd ?_;first | exact I9 k | exact Im k)
 | (refine Je ?_;first | exact Ja k | exact Gr k)
 | (refine FJ ?_;first | exact xF k | exact xG k | exact xz k)
 | (refine CT ?_;first | exact CZ k | exact C0 k | exact CA k)
 | (refine h_load1 ?_;first | exact yW k | exact b_load_i k | exact yX k)
 | (refine Ic ?_;first | exact pW k | exact EF k | exact b_idx_i k | exact cR k | exact EG k)
 | (refine Ib ?_;first | exact uf k | exact b_row_i k | exact A9 k | exact zd k | exact ze k)
 | (refine If ?_;exact Ih k)
 | (refine Gl ?_;exact xI k)
 | exact I8 (mX k)
 | (refine Gm ?_;exact mX k)
 | (refine CW ?_;first | exact AW k | exact a_nil_q k | exact a_nil_f k)
 | (refine I6 ?_;first | exact H7 k | exact H8 k)
 | (refine Gp ?_;first | exact EH k | exact b_frz_s k)
 | (refine EE ?_;first | exact zb k | exact s8 k | exact zc k)
 | (refine h_idxP ?_;first | exact b_idxP_p k | exact b_idxP_q k)
 | (refine h_bin ?_;first | exact FC k | exact Fx k | exact FD k | exact FB k | exact FA k | exact Fy k | exact b9 k | exact CG k | exact ge k | exact CH k | exact FE k | exact FG k | exact FH k | exact b_eqB k | exact FS k | exact FK k | exact FL k)
 | (refine h_cond ?_;first | exact yY k | exact yZ k)
 | exact Gu k
 | exact C7 k
 | exact rQ (CQ k)
 | exact I7 (A8 k)
 | exact In k
 | exact I5 k
 | exact Gi k
 | exact EI k
 | (first | exact Gv k | exact Gw k | exact Gx k | exact Gy k | exact Gz k | exact GB k | exact GD k | exact GE k | exact GG k | exact EM k | exact wo11_ok k | exact wo12_ok k | exact wo13_ok k | exact wo14_ok k | exact wo15_ok k | exact wo16_ok k)
 | exact CI k
 | exact a_convS k
 | exact b_fld k
 | exact Gh k
 | exact CQ k
 | exact A8 k
 | fail):P:=h k
theorem sb{P:Prop}{Q:Nat→Prop}{N:Nat→Prop}(k:∀b,N b→Q b)(h:(∀b,N b→Q b)→P:=by
 intro k
 first
 | (refine Ig ?_;exact Ii k)
 | (refine CV ?_;exact C1 k)
 | (refine CU ?_;exact C2 k)
 | (exact AX k)
 | fail):P:=h k
theorem s2{P Q1 Q2 A1 A2:Prop}(k1:A1→Q1)(k2:A2→Q2)(h:(A1→Q1)→(A2→Q2)→P:=by
 intro k1 k2
 first
 | (refine Ij ?_;exact CF k1 k2)
 | (refine Ik ?_;first | exact xA k1 k2 | exact xB k1 k2)
 | (refine FO ?_;first | exact xA k1 k2 | exact xB k1 k2)
 | (refine FJ ?_;first | exact xA k1 k2 | exact xB k1 k2)
 | (refine CT ?_;first | exact CB k1 k2 | exact CC k1 k2)
 | (refine h_cond ?_;exact CF k1 k2)
 | fail):P:=h k1 k2
theorem mm{α:Type}{a:α}{l:List α}(h:a∈l:=by first | exact .head _ | exact .tail _ (.head _) | exact .tail _ (.tail _ (.head _)) | exact .tail _ (.tail _ (.tail _ (.head _))) | exact .tail _ (.tail _ (.tail _ (.tail _ (.head _)))) | exact .tail _ (.tail _ (.tail _ (.tail _ (.tail _ (.head _))))) | exact .tail _ (.tail _ (.tail _ (.tail _ (.tail _ (.tail _ (.head _)))))) | exact .tail _ (.tail _ (.tail _ (.tail _ (.tail _ (.tail _ (.tail _ (.head _))))))) | exact .tail _ (.tail _ (.tail _ (.tail _ (.tail _ (.tail _ (.tail _ (.tail _ (.head _)))))))) | exact .tail _ (.tail _ (.tail _ (.tail _ (.tail _ (.tail _ (.tail _ (.tail _ (.tail _ (.head _))))))))) | exact .tail _ (.tail _ (.tail _ (.tail _ (.tail _ (.tail _ (.tail _ (.tail _ (.tail _ (.tail _ (.head _)))))))))) | exact .tail _ (.tail _ (.tail _ (.tail _ (.tail _ (.tail _ (.tail _ (.tail _ (.tail _ (.tail _ (.tail _ (.head _))))))))))) | exact .tail _ (.tail _ (.tail _ (.tail _ (.tail _ (.tail _ (.tail _ (.tail _ (.tail _ (.tail _ (.tail _ (.tail _ (.head _))))))))))))):a∈l:=h
theorem rp{P:Prop}(h:P:=by repeat constructor):P:=h
end Go.Proofs.Ytljkdffikfkcgaa.Am
end
section
namespace Go.Proofs.Ytljkdffikfkcgaa.Am
set_option linter.unusedVariables false
inductive ac where
 | mk (op n:Int) (name:aL) (l:List ac)
def ac.op:ac→Int | .mk a _ _ _=>a
def ac.n:ac→Int | .mk _ a _ _=>a
def ac.name:ac→aL | .mk _ _ a _=>a
def ac.l:ac→List ac | .mk _ _ _ a=>a
mutual
def ac.enc:ac→List AV
 | .mk op n name l=>[.int .i64 op,.int .i64 n,.str name,.lst (ac.encs l)]
def ac.encs:List ac→List (List AV)
 | []=>[]
 | x::l=>x.enc::ac.encs l
end
theorem ac.encs_eq:∀l:List ac,ac.encs l=l.map ac.enc
 | []=>rfl
 | x::l=>by rw[ac.encs,ac.encs_eq l];rfl
def ac.row(x:ac):List AV:=[.int .i64 x.op,.int .i64 x.n,.str x.name,.lst (x.l.map ac.enc)]
theorem ac.enc_row(x:ac):x.enc=x.row:=by cases x;rw[ac.enc,ac.encs_eq];rfl
theorem zh{l:List ac}{i:Nat}(h:i<l.length):(l.map ac.enc)[i]? =some [.int .i64 l[i].op,.int .i64 l[i].n,.str l[i].name,.lst (l[i].l.map ac.enc)]:=by rw[aC h,ac.enc_row];rfl
mutual
def ac.wt:ac→Nat
 | .mk _ _ name l=>1+name.length+ac.wts l
def ac.wts:List ac→Nat
 | []=>0
 | x::l=>x.wt+ac.wts l
end
theorem ac.wt_eq(x:ac):x.wt=1+x.name.length+ac.wts x.l:=by cases x;rfl
theorem ac.wts_get:∀(l:List ac) (i:Nat) (h:i<l.length),l[i].wt≤ac.wts l
 | x::l,0,_=>by simp[ac.wts]
 | x::l,i+1,h=>by have:=ac.wts_get l i (by simpa using h);simp only[List.getElem_cons_succ,ac.wts];omega
theorem ac.wts_len:∀l:List ac,l.length≤ac.wts l
 | []=>Nat.le_refl _
 | x::l=>by have:=ac.wts_len l;have:=x.wt_eq;simp only[List.length_cons,ac.wts];omega
theorem ac.kid(x:ac){i:Nat}(h:i<x.l.length):x.l[i].wt<x.wt:=by have:=ac.wts_get x.l i h;have:=x.wt_eq;omega
theorem ac.len(x:ac):x.l.length<x.wt:=by have:=ac.wts_len x.l;have:=x.wt_eq;omega
inductive aa where
 | mk (op line:Int) (name arg:aL) (index:List ac) (expr:ac) (body els:List aa)
def aa.op:aa→Int | .mk a _ _ _ _ _ _ _=>a
def aa.line:aa→Int | .mk _ a _ _ _ _ _ _=>a
def aa.name:aa→aL | .mk _ _ a _ _ _ _ _=>a
def aa.arg:aa→aL | .mk _ _ _ a _ _ _ _=>a
def aa.index:aa→List ac | .mk _ _ _ _ a _ _ _=>a
def aa.expr:aa→ac | .mk _ _ _ _ _ a _ _=>a
def aa.body:aa→List aa | .mk _ _ _ _ _ _ a _=>a
def aa.els:aa→List aa | .mk _ _ _ _ _ _ _ a=>a
mutual
def aa.enc:aa→List AV
 | .mk op line name arg index e body els=>[.int .i64 op,.int .i64 line,.str name,.str arg,.lst (index.map ac.enc),.int .i64 e.op,.int .i64 e.n,.str e.name,.lst (e.l.map ac.enc),.lst (aa.encs body),.lst (aa.encs els)]
def aa.encs:List aa→List (List AV)
 | []=>[]
 | x::l=>x.enc::aa.encs l
end
theorem aa.encs_eq:∀l:List aa,aa.encs l=l.map aa.enc
 | []=>rfl
 | x::l=>by rw[aa.encs,aa.encs_eq l];rfl
def aa.row(x:aa):List AV:=[.int .i64 x.op,.int .i64 x.line,.str x.name,.str x.arg,.lst (x.index.map ac.enc),.int .i64 x.expr.op,.int .i64 x.expr.n,.str x.expr.name,.lst (x.expr.l.map ac.enc),.lst (x.body.map aa.enc),.lst (x.els.map aa.enc)]
theorem aa.enc_row(x:aa):x.enc=x.row:=by cases x;rw[aa.enc,aa.encs_eq,aa.encs_eq];rfl
theorem xd{l:List aa}{i:Nat}(h:i<l.length):(l.map aa.enc)[i]? =some [.int .i64 l[i].op,.int .i64 l[i].line,.str l[i].name,.str l[i].arg,.lst (l[i].index.map ac.enc),.int .i64 l[i].expr.op,.int .i64 l[i].expr.n,.str l[i].expr.name,.lst (l[i].expr.l.map ac.enc),.lst (l[i].body.map aa.enc),.lst (l[i].els.map aa.enc)]:=by rw[aC h,aa.enc_row];rfl
mutual
def aa.wt:aa→Nat
 | .mk _ _ name arg index e body els=>1+name.length+arg.length+ac.wts index+e.wt+aa.wts body+aa.wts els
def aa.wts:List aa→Nat
 | []=>0
 | x::l=>x.wt+aa.wts l
end
theorem aa.wt_eq(x:aa):x.wt=1+x.name.length+x.arg.length+ac.wts x.index+x.expr.wt+aa.wts x.body+aa.wts x.els:=by cases x;rfl
theorem aa.wts_get:∀(l:List aa) (i:Nat) (h:i<l.length),l[i].wt≤aa.wts l
 | x::l,0,_=>by simp[aa.wts]
 | x::l,i+1,h=>by have:=aa.wts_get l i (by simpa using h);simp only[List.getElem_cons_succ,aa.wts];omega
theorem aa.wts_len:∀l:List aa,l.length≤aa.wts l
 | []=>Nat.le_refl _
 | x::l=>by have:=aa.wts_len l;have:=x.wt_eq;simp only[List.length_cons,aa.wts];omega
structure av where
 kind:Int
 line:Int
 name:aL
 size:Int
 init:Int
 on:aL
 deriving Inhabited
def av.enc(d:av):List AV:=[.int .i64 d.kind,.int .i64 d.line,.str d.name,.int .i64 d.size,.int .i64 d.init,.str d.on]
structure ai where
 name:aL
 line:Int
 locals:List aL
 body:List aa
def ai.enc(t:ai):List AV:=[.str t.name,.int .i64 t.line,.lst (t.locals.map az),.lst (t.body.map aa.enc)]
structure aK where
 decls:List av
 threads:List ai
def aK.enc(p:aK):List AV:=[.lst (p.decls.map av.enc),.lst (p.threads.map ai.enc)]
def av.wt(d:av):Nat:=1+d.name.length+d.on.length
def ai.wt(t:ai):Nat:=1+t.name.length+t.locals.length+(t.locals.map List.length).sum+aa.wts t.body
def aK.wt(p:aK):Nat:=(p.decls.map av.wt).sum+(p.threads.map ai.wt).sum
theorem uh{α:Type}{f:α→Nat}:∀(l:List α) (i:Nat) (h:i<l.length),f l[i]≤(l.map f).sum
 | x::l,0,_=>by simp
 | x::l,i+1,h=>by have:=uh (f:=f) l i (by simpa using h);simp only[List.getElem_cons_succ,List.map_cons,List.sum_cons];omega
theorem xM{α:Type}{f:α→Nat}(hf:∀x,1≤f x):∀l:List α,l.length≤(l.map f).sum
 | []=>Nat.le_refl _
 | x::l=>by have:=xM hf l;have:=hf x;simp only[List.length_cons,List.map_cons,List.sum_cons];omega
theorem Da{α:Type}{p:α→Prop}{l:List α}{i:Nat}(h:i<l.length)(h1:∀x∈l.take i,p x)(h2:p l[i]):∀x∈l.take (i+1),p x:=by
 rw[List.take_succ_eq_append_getElem h]
 intro x hx
 rcases List.mem_append.1 hx with hx | hx
 ·exact h1 x hx
 ·simp at hx;subst hx;exact h2
theorem FT(n:Nat)(G:Nat→Prop)(S:Nat→List AV×SH){B:List AV→SH→W.Kn→Prop}{vs:List AV}{L:SH}(hl:n<2^62)(h0:G 0)(hv:vs=(S 0).1)(hL:L=(S 0).2)
  (h1:∀i,i<n→decide ((i:Int)<(n:Int))=true→IntKind.i64.wrap ((i:Int)+1)=((i+1:Nat):Int)→G i→∀nx:W.Kn,(G (i+1)→∀vs' L',aV vs' L' (S (i+1)).1 (S (i+1)).2→nx vs' L')→B (S i).1 (S i).2 nx)
  (h2:∀i,i=n→decide ((i:Int)<(n:Int))=false→G i→∀nx:W.Kn,B (S i).1 (S i).2 nx):W.loop B vs L:=by
 refine Gj n S G h0 hv hL fun i hi hG=>?_
 rcases Nat.lt_or_ge i n with h | h
 ·exact h1 i h (ct h) (bH h hl) hG _ fun hg vs' L' hz=>⟨i+1,by omega,by omega,hg,hz⟩
 ·exact h2 i (by omega) (ee h) hG _
theorem eJ(n:Nat)(G:Nat→Prop)(S:Nat→List AV){B:List AV→SH→W.Kn→Prop}{vs:List AV}{L:SH}(hl:n<2^62)(h0:G 0)(hv:vs=S 0)
  (h1:∀i,i<n→decide ((i:Int)<(n:Int))=true→IntKind.i64.wrap ((i:Int)+1)=((i+1:Nat):Int)→G i→∀nx:W.Kn,(G (i+1)→nx (S (i+1)) L)→B (S i) L nx)
  (h2:∀i,i=n→decide ((i:Int)<(n:Int))=false→G i→∀nx:W.Kn,B (S i) L nx):W.loop B vs L:=
 FT n G (fun i=>(S i,L)) hl h0 hv rfl (fun i h hd hi hG nx hn=>h1 i h hd hi hG nx fun hg=>hn hg _ _ (.refl _ _)) h2
theorem cJ{α:Type}(l:List α)(p:α→Bool)(S:Nat→List AV){B:List AV→SH→W.Kn→Prop}{vs:List AV}{L:SH}(hl:l.length<2^62)(hv:vs=S 0)
  (h1:∀i (h:i<l.length),decide ((i:Int)<(l.length:Int))=true→IntKind.i64.wrap ((i:Int)+1)=((i+1:Nat):Int)→(∀x∈l.take i,p x=false)→∀nx:W.Kn,(p l[i]=false→nx (S (i+1)) L)→B (S i) L nx)
  (h2:∀i,i=l.length→decide ((i:Int)<(l.length:Int))=false→(∀x∈l,p x=false)→∀nx:W.Kn,B (S i) L nx):W.loop B vs L:=
 eJ l.length (fun i=>∀x∈l.take i,p x=false) S hl (by simp) hv (fun i h hd hi hG nx hn=>h1 i h hd hi hG nx fun hp=>hn (Da h hG hp))
  fun i e hd hG nx=>h2 i e hd (by rw[List.take_of_length_le (by omega)]at hG;exact hG) nx
theorem GK{α:Type}{p:α→Bool}{l:List α}(h:∀x∈l,p x=false):l.any p=false:=by simpa using h
theorem EQ{α:Type}{p:α→Bool}{l:List α}{i:Nat}(h:i<l.length)(hp:p l[i]=true):l.any p=true:=List.any_eq_true.2 ⟨_,List.getElem_mem h,hp⟩
theorem rT{α:Type}{p:α→Bool}{l:List α}{i:Nat}(h:i<l.length)(hp:p l[i]=false):l.all p=false:=List.all_eq_false.2 ⟨_,List.getElem_mem h,by simp[hp]⟩
theorem FU{s:aL}{k:IntKind}{i:Nat}{K:AV→Prop}(h:K (.int .u8 (s.getD i 0).toNat))(hi:i<s.length:=by assumption):W.ixS (.str s) (.int k (i:Int)) K:=⟨s,k,i,s[i],rfl,rfl,by omega,by simp[hi],by simpa[List.getD,hi]using h⟩
def gg{α:Type}(p:α→Bool):List α→Nat→Int
 | [],_=>-1
 | x::l,i=>if p x then(i:Int)else gg p l (i+1)
theorem eq{α:Type}{p:α→Bool}:∀{l:List α} {i:Nat},(∀x∈l,p x=false)→gg p l i=-1
 | [],_,_=>rfl
 | x::l,i,h=>by rw[gg,h x (by simp)];exact eq fun y hy=>h y (by simp[hy])
theorem Bc{α:Type}{p:α→Bool}:∀{l:List α} {j k:Nat} (hk:k<l.length),(∀x∈l.take k,p x=false)→p l[k]=true→gg p l j=(j+k:Nat)
 | x::l,j,0,hk,h,hp=>by simp at hp;simp[gg,hp]
 | x::l,j,k+1,hk,h,hp=>by
  rw[gg,h x (by simp)]
  have:=Bc (p:=p) (l:=l) (j:=j+1) (k:=k) (by simpa using hk) (fun y hy=>h y (by simp[hy])) (by simpa using hp)
  simp only[Bool.false_eq_true,if_false,this];congr 1;omega
theorem gh{α:Type}{p:α→Bool}{l:List α}{k:Nat}(hk:k<l.length)(h:∀x∈l.take k,p x=false)(hp:p l[k]=true):gg p l 0=k:=by rw[Bc hk h hp];simp
end Go.Proofs.Ytljkdffikfkcgaa.Am
end
section
namespace Go.Proofs.Ytljkdffikfkcgaa.Am
set_option linter.unusedVariables false
set_option maxRecDepth 100000
def pX(t0:AV)(L:SH)(Q:R):Prop:=
 wk t0 (
 Q (.int .i64 1) L) (
 Q (.int .i64 0) L)
theorem wE(t0:AV)(L:SH)(Q:R)(h:pX t0 L Q):am Try.prog 37 [t0] L Q:=
 bC ⟨fun _=>none,fun _=>[],fun _=>[],fun _=>[]⟩ Try.func37 (by kernel_rfl) (by kernel_rfl) h
def wF(Q:R)(L:SH)(t0 t1:AV):Prop:=
 wb .eql 3 t0 (.int .i64 5) fun x2=>
 wk x2 (
 wb .eql 2 t1 (.int .i64 0) fun x3=>
 wc (.fn 37 []) [x3] L fun x4 L5=>
 Q (.tup [x4,(.bool true)]) L5) (
 Q (.tup [(.int .i64 0),(.bool false)]) L)
def pY(t0 t1:AV)(L:SH)(Q:R):Prop:=
 wb .eql 3 t0 (.int .i64 4) fun x0=>
 wk x0 (
 W.un .neg t1 fun x1=>
 Q (.tup [x1,(.bool true)]) L) (
 (wF Q L t0 t1))
theorem wG(t0 t1:AV)(L:SH)(Q:R)(h:pY t0 t1 L Q):am Try.prog 25 [t0,t1] L Q:=
 bC ⟨fun _=>none,fun _=>[],fun _=>[],fun _=>[]⟩ Try.func25 (by kernel_rfl) (by kernel_rfl) h
def u1(Q:R)(L:SH)(t1 t2:AV):Prop:=
 wb .neq 2 t1 (.int .i64 0) fun x37=>
 cj x37 true t2 L fun x38 L40=>
 wg x37 true (wb .neq 2 x38 (.int .i64 0)) L40 fun x41 L43=>
 W.pick x37 x41 (.bool false) fun x45=>
 wc (.fn 37 []) [x45] L43 fun x46 L47=>
 Q (.tup [x46,(.bool true)]) L47
def u2(Q:R)(L:SH)(t1 t2:AV):Prop:=
 wb .neq 2 t1 (.int .i64 0) fun x49=>
 cj x49 false t2 L fun x50 L52=>
 wg x49 false (wb .neq 2 x50 (.int .i64 0)) L52 fun x53 L55=>
 W.pick x49 (.bool true) x53 fun x57=>
 wc (.fn 37 []) [x57] L55 fun x58 L59=>
 Q (.tup [x58,(.bool true)]) L59
def u3(Q:R)(L:SH)(t0 t1 t2:AV):Prop:=
 wb .eql 3 t0 (.int .i64 17) fun x36=>
 wk x36 (
 (u1 Q L t1 t2)) (
 wb .eql 3 t0 (.int .i64 18) fun x48=>
 wk x48 (
 (u2 Q L t1 t2)) (
 Q (.tup [(.int .i64 0),(.bool false)]) L))
def u4(Q:R)(L:SH)(t0 t1 t2:AV):Prop:=
 wb .eql 3 t0 (.int .i64 16) fun x32=>
 wk x32 (
 wb .geq 2 t1 t2 fun x33=>
 wc (.fn 37 []) [x33] L fun x34 L35=>
 Q (.tup [x34,(.bool true)]) L35) (
 (u3 Q L t0 t1 t2))
def u5(Q:R)(L:SH)(t0 t1 t2:AV):Prop:=
 wb .eql 3 t0 (.int .i64 15) fun x28=>
 wk x28 (
 wb .gtr 2 t1 t2 fun x29=>
 wc (.fn 37 []) [x29] L fun x30 L31=>
 Q (.tup [x30,(.bool true)]) L31) (
 (u4 Q L t0 t1 t2))
def u6(Q:R)(L:SH)(t0 t1 t2:AV):Prop:=
 wb .eql 3 t0 (.int .i64 14) fun x24=>
 wk x24 (
 wb .leq 2 t1 t2 fun x25=>
 wc (.fn 37 []) [x25] L fun x26 L27=>
 Q (.tup [x26,(.bool true)]) L27) (
 (u5 Q L t0 t1 t2))
def u7(Q:R)(L:SH)(t0 t1 t2:AV):Prop:=
 wb .eql 3 t0 (.int .i64 13) fun x20=>
 wk x20 (
 wb .lss 2 t1 t2 fun x21=>
 wc (.fn 37 []) [x21] L fun x22 L23=>
 Q (.tup [x22,(.bool true)]) L23) (
 (u6 Q L t0 t1 t2))
def u9(Q:R)(L:SH)(t0 t1 t2:AV):Prop:=
 wb .eql 3 t0 (.int .i64 12) fun x16=>
 wk x16 (
 wb .neq 2 t1 t2 fun x17=>
 wc (.fn 37 []) [x17] L fun x18 L19=>
 Q (.tup [x18,(.bool true)]) L19) (
 (u7 Q L t0 t1 t2))
def va(Q:R)(L:SH)(t0 t1 t2:AV):Prop:=
 wb .eql 3 t0 (.int .i64 11) fun x12=>
 wk x12 (
 wb .eql 2 t1 t2 fun x13=>
 wc (.fn 37 []) [x13] L fun x14 L15=>
 Q (.tup [x14,(.bool true)]) L15) (
 (u9 Q L t0 t1 t2))
def vb(Q:R)(L:SH)(t0 t2 t1:AV):Prop:=
 wb .eql 3 t0 (.int .i64 10) fun x9=>
 wk x9 (
 wb .eql 2 t2 (.int .i64 0) fun x10=>
 wk x10 (
 Q (.tup [(.int .i64 0),(.bool true)]) L) (
 wb .rem 2 t1 t2 fun x11=>
 Q (.tup [x11,(.bool true)]) L)) (
 (va Q L t0 t1 t2))
def tq(Q:R)(L:SH)(t0 t2 t1:AV):Prop:=
 wb .eql 3 t0 (.int .i64 9) fun x6=>
 wk x6 (
 wb .eql 2 t2 (.int .i64 0) fun x7=>
 wk x7 (
 Q (.tup [(.int .i64 0),(.bool true)]) L) (
 wb .quo 2 t1 t2 fun x8=>
 Q (.tup [x8,(.bool true)]) L)) (
 (vb Q L t0 t2 t1))
def tt(Q:R)(L:SH)(t0 t1 t2:AV):Prop:=
 wb .eql 3 t0 (.int .i64 7) fun x2=>
 wk x2 (
 wb .sub 2 t1 t2 fun x3=>
 Q (.tup [x3,(.bool true)]) L) (
 wb .eql 3 t0 (.int .i64 8) fun x4=>
 wk x4 (
 wb .mul 2 t1 t2 fun x5=>
 Q (.tup [x5,(.bool true)]) L) (
 (tq Q L t0 t2 t1)))
def mC(t0 t1 t2:AV)(L:SH)(Q:R):Prop:=
 wb .eql 3 t0 (.int .i64 6) fun x0=>
 wk x0 (
 wb .add 2 t1 t2 fun x1=>
 Q (.tup [x1,(.bool true)]) L) (
 (tt Q L t0 t1 t2))
theorem vc(t0 t1 t2:AV)(L:SH)(Q:R)(h:mC t0 t1 t2 L Q):am Try.prog 26 [t0,t1,t2] L Q:=
 bC ⟨fun _=>none,fun _=>[],fun _=>[],fun _=>[]⟩ Try.func26 (by kernel_rfl) (by kernel_rfl) h
def km(t0 t1:AV)(L:SH)(Q:R):Prop:=
 W.len t0 fun x0=>
 W.len t1 fun x1=>
 wb .add 3 x0 x1 fun x2=>
 W.mslice 1 8 [(.int .i64 0)] (.int .i64 0) x2 L fun x3 L4=>
 W.append 1 8 x3 t0 L4 fun x5 L6=>
 W.append 1 8 x5 t1 L6 fun x7 L8=>
 wc (.fn 38 []) [x7] L8 fun x9 L10=>
 wc (.fn 39 []) [x7] L10 fun x11 L12=>
 Q x11 L12
theorem tu(t0 t1:AV)(L:SH)(Q:R)(h:km t0 t1 L Q):am Try.prog 27 [t0,t1] L Q:=
 bC ⟨fun _=>none,fun _=>[],fun _=>[],fun _=>[]⟩ Try.func27 (by kernel_rfl) (by kernel_rfl) h
def fy(n19:Kn)(x23 x26 x21 x22 x24 x25 x30:AV)(L31:SH):Prop:=
 W.idx 1 x23 x26 L31 fun x32=>
 W.store 1 x32 x30 L31 fun L33=>
 wb .add 3 x26 (.int .i64 1) fun x34=>
 n19 [x21,x22,x23,x24,x25,x34] L33
def fB(Q:R)(v18:Vs)(L20:SH)(n19:Kn):Prop:=
 GA 1 2 3 15 16 17 v18 fun x21 x22 x23 x24 x25 x26=>
 wb .lss 3 x26 x25 fun x27=>
 wk x27 (
 Ba 1 x24 x26 L20 fun x29=>
 wc (.fn 23 []) [x29] L20 (fy n19 x23 x26 x21 x22 x24 x25)) (
 W.faddr 2 x21 fun x35=>
 W.store 1 x35 x23 L20 fun L36=>
 dy 4 x21 L36 fun x37=>
 W.store 4 x22 x37 L36 fun L38=>
 W.load true 4 x22 L38 fun x39=>
 Q x39 L38)
def jB(Q:R)(x0 x2 x6:AV)(L7:SH):Prop:=
 W.faddr 1 x0 fun x8=>
 W.store 1 x8 x6 L7 fun L9=>
 bo 2 x0 L9 fun x11=>
 W.len x11 fun x12=>
 W.mslice 1 24 [.nils] x12 x12 L9 fun x13 L14=>
 bo 2 x0 L14 fun x16=>
 W.len x16 fun x17=>
 W.loop (fB Q) [x0,x2,x13,x16,x17,(.int .i64 0)] L14
def ko(t0:AV)(L:SH)(Q:R):Prop:=
 W.box t0 L fun x0 L1=>
 W.alloc [(.int .i64 0),.nils,.nils,(.int .i64 0)] L1 fun x2 L3=>
 bo 1 x0 L3 fun x5=>
 wc (.fn 22 []) [x5] L3 (jB Q x0 x2)
theorem tv(t0:AV)(L:SH)(Q:R)(h:ko t0 L Q):am Try.prog 10 [t0] L Q:=
 bC ⟨fun _=>none,fun k=>if k=4 then [1,2,3,15,16,17]else [],fun _=>[],fun _=>[]⟩ Try.func10 (by kernel_rfl) (by kernel_rfl) h
def gj(t0 t1:AV)(L:SH)(Q:R):Prop:=
 wb .geq 3 t0 (.int .i64 0) fun x0=>
 cj x0 true t0 L fun x1 L3=>
 wg x0 true (wl t1 L3) L3 fun x4 L6=>
 wg x0 true (W.nilchk x4) L6 fun x8 L10=>
 wg x0 true (W.faddr 1 x8) L10 fun x12 L14=>
 wg x0 true (wl x12 L14) L14 fun x16 L18=>
 wg x0 true (W.len x16) L18 fun x20 L22=>
 wg x0 true (wb .lss 3 x1 x20) L22 fun x24 L26=>
 W.pick x0 x24 (.bool false) fun x28=>
 Q x28 L26
theorem lg(t0 t1:AV)(L:SH)(Q:R)(h:gj t0 t1 L Q):am Try.prog 24 [t0,t1] L Q:=
 bC ⟨fun _=>none,fun _=>[],fun _=>[],fun _=>[]⟩ Try.func24 (by kernel_rfl) (by kernel_rfl) h
def pZ(Q:R)(v8:Vs)(L10:SH):Prop:=
 wu 2 4 6 v8 fun x11 x12 x13=>
 wl x11 L10 fun x14=>
 c8 0 x14 L10 fun x17=>
 wb .add 3 x17 (.int .i64 1) fun x18=>
 W.nilchk x14 fun x19=>
 W.faddr 0 x19 fun x20=>
 W.store 1 x20 x18 L10 fun L21=>
 Q x13 L21
def p7(j9:Kn)(L28:SH)(x4 x6:AV):Prop:=
 (true=true)∧(
 dl [] 0 x4 L28 fun x30 r31=>
 W.nilchk x30 fun x32=>
 bx 1 x32 [] 3 L28 fun x34 r35=>
 bx 1 x6 [rm 3 r35,rm 0 r31] 5 L28 fun x37 r38=>
 dl [rm 5 r38,rm 3 r35,rm 0 r31] 6 x4 L28 fun x39 r40=>
 W.nilchk x39 fun x41=>
 bx 2 x41 [rm 5 r38,rm 3 r35,rm 0 r31] 9 L28 fun x43 r44=>
 bx 1 x6 [rm 9 r44,rm 6 r40,rm 5 r38,rm 3 r35,rm 0 r31] 11 L28 fun x46 r47=>
 bx 4 x6 [rm 11 r47,rm 9 r44,rm 6 r40,rm 5 r38,rm 3 r35,rm 0 r31] 13 L28 fun x49 r50=>
 di [rm 11 r47] 14 1 x34 x37 L28 fun x51 r52=>
 ds [rm 11 r47] 15 1 x51 x49 L28 fun L53 r54=>
 di [] 16 1 x43 x46 L53 fun x55 r56=>
 ds [] 17 1 x55 .nils L53 fun L57 r58=>
 j9 [x4,(.bool false),(.bool true)] L57)
def p8(Q:R)(j9:Kn)(x4 x6 x27:AV)(L28:SH):Prop:=
 W.un .not x27 fun x29=>
 wk x29 (
 Q (.bool false) L28) (
 (p7 j9 L28 x4 x6))
def p9(j9:Kn)(L83:SH)(x90 x93 x115 x99 x102 x4:AV)(r103:Fp)(x130:AV)(L132:SH)(q131:Ns):Prop:=
 wn [] q131 [] L83.names fun r133=>
 di [rm 11 r103] 29 1 x90 x93 L132 fun x134 r135=>
 ds [rm 11 r103] 30 1 x134 x115 L132 fun L136 r137=>
 di [] 31 1 x99 x102 L136 fun x138 r139=>
 ds [] 32 1 x138 x130 L136 fun L140 r141=>
 j9 [x4,(.bool false),(.bool true)] L140
def qa(j9:Kn)(L83:SH)(x4 x6:AV):Prop:=
 (true=true)∧(
 dl [] 0 x4 L83 fun x86 r87=>
 W.nilchk x86 fun x88=>
 bx 1 x88 [] 3 L83 fun x90 r91=>
 bx 1 x6 [rm 3 r91,rm 0 r87] 5 L83 fun x93 r94=>
 dl [rm 5 r94,rm 3 r91,rm 0 r87] 6 x4 L83 fun x95 r96=>
 W.nilchk x95 fun x97=>
 bx 2 x97 [rm 5 r94,rm 3 r91,rm 0 r87] 9 L83 fun x99 r100=>
 bx 1 x6 [rm 9 r100,rm 6 r96,rm 5 r94,rm 3 r91,rm 0 r87] 11 L83 fun x102 r103=>
 dl [rm 11 r103,rm 9 r100,rm 6 r96,rm 5 r94,rm 3 r91,rm 0 r87] 12 x4 L83 fun x104 r105=>
 W.nilchk x104 fun x106=>
 bx 1 x106 [rm 11 r103,rm 9 r100,rm 6 r96,rm 5 r94,rm 3 r91,rm 0 r87] 15 L83 fun x108 r109=>
 bx 2 x6 [rm 15 r109,rm 12 r105,rm 11 r103,rm 9 r100,rm 6 r96,rm 5 r94,rm 3 r91,rm 0 r87] 17 L83 fun x111 r112=>
 di [rm 11 r103,rm 9 r100,rm 6 r96,rm 5 r94,rm 3 r91,rm 0 r87] 18 1 x108 x111 L83 fun x113 r114=>
 dl [rm 11 r103,rm 9 r100,rm 6 r96,rm 5 r94,rm 3 r91,rm 0 r87] 19 x113 L83 fun x115 r116=>
 dl [rm 19 r116,rm 18 r114,rm 17 r112,rm 15 r109,rm 12 r105,rm 11 r103,rm 9 r100,rm 6 r96,rm 5 r94,rm 3 r91,rm 0 r87] 20 x4 L83 fun x117 r118=>
 W.nilchk x117 fun x119=>
 bx 2 x119 [rm 19 r116,rm 18 r114,rm 17 r112,rm 15 r109,rm 12 r105,rm 11 r103,rm 9 r100,rm 6 r96,rm 5 r94,rm 3 r91,rm 0 r87] 23 L83 fun x121 r122=>
 bx 2 x6 [rm 23 r122,rm 20 r118,rm 19 r116,rm 18 r114,rm 17 r112,rm 15 r109,rm 12 r105,rm 11 r103,rm 9 r100,rm 6 r96,rm 5 r94,rm 3 r91,rm 0 r87] 25 L83 fun x124 r125=>
 di [rm 19 r116,rm 18 r114,rm 17 r112,rm 15 r109,rm 12 r105,rm 11 r103,rm 9 r100,rm 6 r96,rm 5 r94,rm 3 r91,rm 0 r87] 26 1 x121 x124 L83 fun x126 r127=>
 dl [rm 19 r116,rm 18 r114,rm 17 r112,rm 15 r109,rm 12 r105,rm 11 r103,rm 9 r100,rm 6 r96,rm 5 r94,rm 3 r91,rm 0 r87] 27 x126 L83 fun x128 r129=>
 wd [rm 19 r116,rm 18 r114,rm 17 r112,rm 15 r109,rm 12 r105,rm 11 r103,rm 9 r100,rm 6 r96,rm 5 r94,rm 3 r91,rm 0 r87] 28 (.fn 23 []) [x128] L83 (p9 j9 L83 x90 x93 x115 x99 x102 x4 r103))
def qb(Q:R)(j9:Kn)(x4 x6 x62:AV)(L63:SH):Prop:=
 W.un .not x62 fun x64=>
 cj x64 false (.fn 24 [x4]) L63 fun x65 L67=>
 wg x64 false (W.faddr 2 x6) L67 fun x68 L70=>
 wg x64 false (wl x68 L70) L70 fun x72 L74=>
 W.grd x64 false (fun k77=>wc x65 [x72] L74 fun x79 L80=>
 k77 x79 L80) L74 fun x76 L78=>
 wg x64 false (W.un .not x76) L78 fun x81 L83=>
 W.pick x64 (.bool true) x81 fun x85=>
 wk x85 (
 Q (.bool false) L83) (
 (qa j9 L83 x4 x6))
def qc(j9:Kn)(L202:SH)(x208 x211 x4 x199 x226:AV)(L228:SH)(q227:Ns):Prop:=
 wn [] q227 [] L202.names fun r229=>
 di [] 15 1 x208 x211 L228 fun x230 r231=>
 ds [] 16 1 x230 x226 L228 fun L232 r233=>
 j9 [x4,(.bool false),x199] L232
def qd(j9:Kn)(L166:SH)(x173 x176 x4 x6 x194:AV)(L196:SH)(q195:Ns):Prop:=
 wn [] q195 [] L166.names fun r197=>
 W.ext 0 x194 fun x198=>
 W.ext 1 x194 fun x199=>
 di [] 20 1 x173 x176 L196 fun x200 r201=>
 ds [] 21 1 x200 x198 L196 fun L202 r203=>
 (true=true)∧(
 dl [] 0 x4 L202 fun x204 r205=>
 W.nilchk x204 fun x206=>
 bx 2 x206 [] 3 L202 fun x208 r209=>
 bx 1 x6 [rm 3 r209,rm 0 r205] 5 L202 fun x211 r212=>
 dl [rm 5 r212,rm 3 r209,rm 0 r205] 6 x4 L202 fun x213 r214=>
 W.nilchk x213 fun x215=>
 bx 2 x215 [rm 5 r212,rm 3 r209,rm 0 r205] 9 L202 fun x217 r218=>
 bx 2 x6 [rm 9 r218,rm 6 r214,rm 5 r212,rm 3 r209,rm 0 r205] 11 L202 fun x220 r221=>
 di [rm 5 r212,rm 3 r209,rm 0 r205] 12 1 x217 x220 L202 fun x222 r223=>
 dl [rm 5 r212,rm 3 r209,rm 0 r205] 13 x222 L202 fun x224 r225=>
 wd [rm 5 r212,rm 3 r209,rm 0 r205] 14 (.fn 23 []) [x224] L202 (qc j9 L202 x208 x211 x4 x199))
def qe(j9:Kn)(L166:SH)(x4 x6:AV):Prop:=
 (true=true)∧(
 dl [] 0 x4 L166 fun x169 r170=>
 W.nilchk x169 fun x171=>
 bx 1 x171 [] 3 L166 fun x173 r174=>
 bx 1 x6 [rm 3 r174,rm 0 r170] 5 L166 fun x176 r177=>
 bx 4 x6 [rm 5 r177,rm 3 r174,rm 0 r170] 7 L166 fun x179 r180=>
 dl [rm 7 r180,rm 5 r177,rm 3 r174,rm 0 r170] 8 x4 L166 fun x181 r182=>
 W.nilchk x181 fun x183=>
 bx 1 x183 [rm 7 r180,rm 5 r177,rm 3 r174,rm 0 r170] 11 L166 fun x185 r186=>
 bx 2 x6 [rm 11 r186,rm 8 r182,rm 7 r180,rm 5 r177,rm 3 r174,rm 0 r170] 13 L166 fun x188 r189=>
 di [rm 7 r180,rm 5 r177,rm 3 r174,rm 0 r170] 14 1 x185 x188 L166 fun x190 r191=>
 dl [rm 7 r180,rm 5 r177,rm 3 r174,rm 0 r170] 15 x190 L166 fun x192 r193=>
 wd [rm 5 r177,rm 3 r174,rm 0 r170] 16 (.fn 25 []) [x179,x192] L166 (qd j9 L166 x173 x176 x4 x6))
def qf(Q:R)(j9:Kn)(x4 x6 x145:AV)(L146:SH):Prop:=
 W.un .not x145 fun x147=>
 cj x147 false (.fn 24 [x4]) L146 fun x148 L150=>
 wg x147 false (W.faddr 2 x6) L150 fun x151 L153=>
 wg x147 false (wl x151 L153) L153 fun x155 L157=>
 W.grd x147 false (fun k160=>wc x148 [x155] L157 fun x162 L163=>
 k160 x162 L163) L157 fun x159 L161=>
 wg x147 false (W.un .not x159) L161 fun x164 L166=>
 W.pick x147 (.bool true) x164 fun x168=>
 wk x168 (
 Q (.bool false) L166) (
 (qe j9 L166 x4 x6))
def qg(j9:Kn)(L328:SH)(x334 x337 x4 x325 x365:AV)(L367:SH)(q366:Ns):Prop:=
 wn [] q366 [] L328.names fun r368=>
 di [] 23 1 x334 x337 L367 fun x369 r370=>
 ds [] 24 1 x369 x365 L367 fun L371 r372=>
 j9 [x4,(.bool false),x325] L371
def qh(j9:Kn)(L279:SH)(x286 x289 x4 x6 x320:AV)(L322:SH)(q321:Ns):Prop:=
 wn [] q321 [] L279.names fun r323=>
 W.ext 0 x320 fun x324=>
 W.ext 1 x320 fun x325=>
 di [] 28 1 x286 x289 L322 fun x326 r327=>
 ds [] 29 1 x326 x324 L322 fun L328 r329=>
 (true=true)∧(
 dl [] 0 x4 L328 fun x330 r331=>
 W.nilchk x330 fun x332=>
 bx 2 x332 [] 3 L328 fun x334 r335=>
 bx 1 x6 [rm 3 r335,rm 0 r331] 5 L328 fun x337 r338=>
 dl [rm 5 r338,rm 3 r335,rm 0 r331] 6 x4 L328 fun x339 r340=>
 W.nilchk x339 fun x341=>
 bx 2 x341 [rm 5 r338,rm 3 r335,rm 0 r331] 9 L328 fun x343 r344=>
 bx 2 x6 [rm 9 r344,rm 6 r340,rm 5 r338,rm 3 r335,rm 0 r331] 11 L328 fun x346 r347=>
 di [rm 5 r338,rm 3 r335,rm 0 r331] 12 1 x343 x346 L328 fun x348 r349=>
 dl [rm 5 r338,rm 3 r335,rm 0 r331] 13 x348 L328 fun x350 r351=>
 dl [rm 13 r351,rm 12 r349,rm 11 r347,rm 9 r344,rm 6 r340,rm 5 r338,rm 3 r335,rm 0 r331] 14 x4 L328 fun x352 r353=>
 W.nilchk x352 fun x354=>
 bx 2 x354 [rm 13 r351,rm 12 r349,rm 11 r347,rm 9 r344,rm 6 r340,rm 5 r338,rm 3 r335,rm 0 r331] 17 L328 fun x356 r357=>
 bx 3 x6 [rm 17 r357,rm 14 r353,rm 13 r351,rm 12 r349,rm 11 r347,rm 9 r344,rm 6 r340,rm 5 r338,rm 3 r335,rm 0 r331] 19 L328 fun x359 r360=>
 di [rm 13 r351,rm 12 r349,rm 11 r347,rm 9 r344,rm 6 r340,rm 5 r338,rm 3 r335,rm 0 r331] 20 1 x356 x359 L328 fun x361 r362=>
 dl [rm 13 r351,rm 12 r349,rm 11 r347,rm 9 r344,rm 6 r340,rm 5 r338,rm 3 r335,rm 0 r331] 21 x361 L328 fun x363 r364=>
 wd [rm 5 r338,rm 3 r335,rm 0 r331] 22 (.fn 27 []) [x350,x363] L328 (qg j9 L328 x334 x337 x4 x325))
def qi(j9:Kn)(L279:SH)(x4 x6:AV):Prop:=
 (true=true)∧(
 dl [] 0 x4 L279 fun x282 r283=>
 W.nilchk x282 fun x284=>
 bx 1 x284 [] 3 L279 fun x286 r287=>
 bx 1 x6 [rm 3 r287,rm 0 r283] 5 L279 fun x289 r290=>
 bx 4 x6 [rm 5 r290,rm 3 r287,rm 0 r283] 7 L279 fun x292 r293=>
 dl [rm 7 r293,rm 5 r290,rm 3 r287,rm 0 r283] 8 x4 L279 fun x294 r295=>
 W.nilchk x294 fun x296=>
 bx 1 x296 [rm 7 r293,rm 5 r290,rm 3 r287,rm 0 r283] 11 L279 fun x298 r299=>
 bx 2 x6 [rm 11 r299,rm 8 r295,rm 7 r293,rm 5 r290,rm 3 r287,rm 0 r283] 13 L279 fun x301 r302=>
 di [rm 7 r293,rm 5 r290,rm 3 r287,rm 0 r283] 14 1 x298 x301 L279 fun x303 r304=>
 dl [rm 7 r293,rm 5 r290,rm 3 r287,rm 0 r283] 15 x303 L279 fun x305 r306=>
 dl [rm 15 r306,rm 14 r304,rm 13 r302,rm 11 r299,rm 8 r295,rm 7 r293,rm 5 r290,rm 3 r287,rm 0 r283] 16 x4 L279 fun x307 r308=>
 W.nilchk x307 fun x309=>
 bx 1 x309 [rm 15 r306,rm 14 r304,rm 13 r302,rm 11 r299,rm 8 r295,rm 7 r293,rm 5 r290,rm 3 r287,rm 0 r283] 19 L279 fun x311 r312=>
 bx 3 x6 [rm 19 r312,rm 16 r308,rm 15 r306,rm 14 r304,rm 13 r302,rm 11 r299,rm 8 r295,rm 7 r293,rm 5 r290,rm 3 r287,rm 0 r283] 21 L279 fun x314 r315=>
 di [rm 15 r306,rm 14 r304,rm 13 r302,rm 11 r299,rm 8 r295,rm 7 r293,rm 5 r290,rm 3 r287,rm 0 r283] 22 1 x311 x314 L279 fun x316 r317=>
 dl [rm 15 r306,rm 14 r304,rm 13 r302,rm 11 r299,rm 8 r295,rm 7 r293,rm 5 r290,rm 3 r287,rm 0 r283] 23 x316 L279 fun x318 r319=>
 wd [rm 5 r290,rm 3 r287,rm 0 r283] 24 (.fn 26 []) [x292,x305,x318] L279 (qh j9 L279 x286 x289 x4 x6))
def qj(Q:R)(j9:Kn)(x4 x6 x237:AV)(L238:SH):Prop:=
 W.un .not x237 fun x239=>
 cj x239 false (.fn 24 [x4]) L238 fun x240 L242=>
 wg x239 false (W.faddr 2 x6) L242 fun x243 L245=>
 wg x239 false (wl x243 L245) L245 fun x247 L249=>
 W.grd x239 false (fun k252=>wc x240 [x247] L249 fun x254 L255=>
 k252 x254 L255) L249 fun x251 L253=>
 wg x239 false (W.un .not x251) L253 fun x256 L258=>
 W.pick x239 (.bool true) x256 fun x260=>
 cj x260 false (.fn 24 [x4]) L258 fun x261 L263=>
 wg x260 false (W.faddr 3 x6) L263 fun x264 L266=>
 wg x260 false (wl x264 L266) L266 fun x268 L270=>
 W.grd x260 false (fun k273=>wc x261 [x268] L270 fun x275 L276=>
 k273 x275 L276) L270 fun x272 L274=>
 wg x260 false (W.un .not x272) L274 fun x277 L279=>
 W.pick x260 (.bool true) x277 fun x281=>
 wk x281 (
 Q (.bool false) L279) (
 (qi j9 L279 x4 x6))
def mY(Q:R)(v380:Vs)(L382:SH):Prop:=
 wu 2 4 6 v380 fun x383 x384 x385=>
 Q x384 L382
def qk(Q:R)(L7:SH)(x4 x6:AV):Prop:=
 wl x4 L7 fun x374=>
 bo 1 x6 L7 fun x376=>
 W.nilchk x374 fun x377=>
 W.faddr 0 x377 fun x378=>
 W.store 1 x378 x376 L7 fun L379=>
 W.join (mY Q) fun j381=>
 j381 [x4,(.bool true),(.bool true)] L379
def ql(Q:R)(j9:Kn)(L7:SH)(x23 x6 x4:AV):Prop:=
 wb .eql 3 x23 (.int .i64 4) fun x234=>
 wk x234 (
 bo 1 x6 L7 fun x236=>
 wc (.fn 24 [x4]) [x236] L7 (qj Q j9 x4 x6)) (
 wb .eql 3 x23 (.int .i64 5) fun x373=>
 wk x373 (
 (qk Q L7 x4 x6)) (
 j9 [x4,(.bool false),(.bool true)] L7))
def qm(Q:R)(j9:Kn)(L7:SH)(x23 x6 x4:AV):Prop:=
 wb .eql 3 x23 (.int .i64 3) fun x142=>
 wk x142 (
 bo 1 x6 L7 fun x144=>
 wc (.fn 24 [x4]) [x144] L7 (qf Q j9 x4 x6)) (
 (ql Q j9 L7 x23 x6 x4))
def qn(Q:R)(j9:Kn)(L7:SH)(x23 x6 x4:AV):Prop:=
 wb .eql 3 x23 (.int .i64 2) fun x59=>
 wk x59 (
 bo 1 x6 L7 fun x61=>
 wc (.fn 24 [x4]) [x61] L7 (qb Q j9 x4 x6)) (
 (qm Q j9 L7 x23 x6 x4))
def cv(t0 t1:AV)(L:SH)(Q:R):Prop:=
 W.box t0 L fun x0 L1=>
 W.box t1 L1 fun x2 L3=>
 W.frz1 x0 L3 fun x4 L5=>
 W.frz1 x2 L5 fun x6 L7=>
 W.join (pZ Q) fun j9=>
 bo 0 x6 L7 fun x23=>
 wb .eql 3 x23 (.int .i64 1) fun x24=>
 wk x24 (
 bo 1 x6 L7 fun x26=>
 wc (.fn 24 [x4]) [x26] L7 (p8 Q j9 x4 x6)) (
 (qn Q j9 L7 x23 x6 x4))
theorem cK(t0 t1:AV)(L:SH)(Q:R)(h:cv t0 t1 L Q):am Try.prog 11 [t0,t1] L Q:=
 bC ⟨fun k=>if k=24 then some [2,4,6]else none,fun _=>[],fun k=>if k=0 then [2,3]else [],fun k=>if k=7 then [0,1,3,7,0,16,0,64,192,448,0,1024,0,4096,13311,29695,65535,131071]else if k=11 then [0,1,3,7,0,16,0,64,192,448,0,1024,0,4096,12288,28672,0,65536,258048,520192,0,1048576,3145728,7340032,0,16777216,66060288,133169152,267386880,536867839,1073738751,2147483647,4294967295]else if k=15 then [0,1,3,7,0,16,0,64,0,256,768,1792,0,4096,16128,32512,65472,131008,262080,262080,524287,1572863,4194303]else if k=16 then [0,1,3,7,0,16,0,64,192,448,0,1024,4032,8128,16320,32767,65535]else if k=20 then [0,1,3,7,0,16,0,64,0,256,768,1792,0,4096,16128,32512,0,65536,196608,458752,0,1048576,4128768,8323072,16777152,33554368,67108800,67108800,134217727,402653183,1073741823]else if k=21 then [0,1,3,7,0,16,0,64,192,448,0,1024,4032,8128,0,16384,49152,114688,0,262144,1032192,2080768,4194240,8388607,16777215]else []⟩ Try.func11 (by kernel_rfl) (by kernel_rfl) h
def rU(Q:R)(L36:SH)(x4:AV):Prop:=
 W.build [(.int .i64 0),.nils,.nils,(.int .i64 0)] [] fun x39=>
 W.store 4 x4 x39 L36 fun L40=>
 W.load true 4 x4 L40 fun x41=>
 Q (.tup [x41,(.bool false)]) L40
def rV(Q:R)(L78:SH)(x51:AV):Prop:=
 W.build [(.int .i64 0),.nils,.nils,(.int .i64 0)] [] fun x81=>
 W.store 4 x51 x81 L78 fun L82=>
 W.load true 4 x51 L82 fun x83=>
 Q (.tup [x83,(.bool false)]) L82
def rW(Q:R)(L129:SH)(x51:AV):Prop:=
 W.build [(.int .i64 0),.nils,.nils,(.int .i64 0)] [] fun x132=>
 W.store 4 x51 x132 L129 fun L133=>
 W.load true 4 x51 L133 fun x134=>
 Q (.tup [x134,(.bool false)]) L133
def rX(Q:R)(n47:Kn)(L108:SH)(x49 x52 x93 x50 x51:AV):Prop:=
 bo 1 x49 L108 fun x115=>
 W.len x115 fun x116=>
 wb .eql 3 x52 x116 fun x117=>
 wg x117 false (dy 6 x93 L108) L108 fun x118 L120=>
 W.grd x117 false (fun k123=>wc (.fn 11 []) [x50,x118] L120 fun x125 L126=>
 k123 x125 L126) L120 fun x122 L124=>
 wg x117 false (W.un .not x122) L124 fun x127 L129=>
 W.pick x117 (.bool true) x127 fun x131=>
 wk x131 (
 (rW Q L129 x51)) (
 wb .add 3 x52 (.int .i64 1) fun x135=>
 n47 [x49,x50,x51,x135] L129)
def rY(Q:R)(n47:Kn)(L78:SH)(x49 x50 x51 x52:AV):Prop:=
 bo 1 x49 L78 fun x85=>
 bo 0 x50 L78 fun x87=>
 ug 6 x85 x87 L78 fun x89=>
 xH [(.int .i64 0),(.int .i64 0),(.int .i64 0),(.int .i64 0),(.int .i64 0),(.int .i64 0)] 6 x89 L78 fun x93 L94=>
 bo 0 x93 L94 fun x96=>
 wb .lss 3 x96 (.int .i64 1) fun x97=>
 wg x97 false (W.faddr 0 x93) L94 fun x98 L100=>
 wg x97 false (wl x98 L100) L100 fun x102 L104=>
 wg x97 false (wb .gtr 3 x102 (.int .i64 5)) L104 fun x106 L108=>
 W.pick x97 (.bool true) x106 fun x110=>
 wk x110 (
 dy 4 x50 L108 fun x111=>
 W.store 4 x51 x111 L108 fun L112=>
 W.load true 4 x51 L112 fun x113=>
 Q (.tup [x113,(.bool true)]) L112) (
 (rX Q n47 L108 x49 x52 x93 x50 x51))
def e8(Q:R)(v46:Vs)(L48:SH)(n47:Kn):Prop:=
 EL 2 3 4 6 v46 fun x49 x50 x51 x52=>
 bo 0 x50 L48 fun x54=>
 wb .lss 3 x54 (.int .i64 0) fun x55=>
 wg x55 false (W.faddr 0 x50) L48 fun x56 L58=>
 wg x55 false (wl x56 L58) L58 fun x60 L62=>
 wg x55 false (W.faddr 1 x49) L62 fun x64 L66=>
 wg x55 false (wl x64 L66) L66 fun x68 L70=>
 wg x55 false (W.len x68) L70 fun x72 L74=>
 wg x55 false (wb .geq 3 x60 x72) L74 fun x76 L78=>
 W.pick x55 (.bool true) x76 fun x80=>
 wk x80 (
 (rV Q L78 x51)) (
 (rY Q n47 L78 x49 x50 x51 x52))
def rZ(Q:R)(x2 x6 x4 x43:AV)(L44:SH):Prop:=
 W.store 4 x2 x43 L44 fun L45=>
 W.loop (e8 Q) [x6,x2,x4,(.int .i64 0)] L45
def jC(t0 t1:AV)(L:SH)(Q:R):Prop:=
 W.box t0 L fun x0 L1=>
 W.box t1 L1 fun x2 L3=>
 W.alloc [(.int .i64 0),.nils,.nils,(.int .i64 0)] L3 fun x4 L5=>
 W.frz1 x0 L5 fun x6 L7=>
 bo 1 x2 L7 fun x9=>
 W.len x9 fun x10=>
 bo 0 x6 L7 fun x12=>
 wb .neq 3 x10 x12 fun x13=>
 wg x13 false (W.faddr 2 x2) L7 fun x14 L16=>
 wg x13 false (wl x14 L16) L16 fun x18 L20=>
 wg x13 false (W.len x18) L20 fun x22 L24=>
 wg x13 false (W.faddr 0 x6) L24 fun x26 L28=>
 wg x13 false (wl x26 L28) L28 fun x30 L32=>
 wg x13 false (wb .neq 3 x22 x30) L32 fun x34 L36=>
 W.pick x13 (.bool true) x34 fun x38=>
 wk x38 (
 (rU Q L36 x4)) (
 dy 4 x2 L36 fun x42=>
 wc (.fn 10 []) [x42] L36 (rZ Q x2 x6 x4))
theorem r8(t0 t1:AV)(L:SH)(Q:R)(h:jC t0 t1 L Q):am Try.prog 6 [t0,t1] L Q:=
 bC ⟨fun _=>none,fun k=>if k=6 then [2,3,4,6]else [],fun k=>if k=0 then [2]else if k=8 then [7]else [],fun _=>[]⟩ Try.func6 (by kernel_rfl) (by kernel_rfl) h
end Go.Proofs.Ytljkdffikfkcgaa.Am
end
section
namespace Go.Proofs.Ytljkdffikfkcgaa.Am
set_option maxRecDepth 100000
set_option linter.unusedVariables false
theorem Fr.perm{B:Nat}{L L' L'':SH}{H H':ah}(h:Fr B L H L' H')(hp:L'.Perm L''):Fr B L H L'' H':=
 ⟨h.next,h.bd,h.sub.perm hp,fun b x h1 h2=>⟨(h.keep b x h1 h2).1,fun hm=>(h.keep b x h1 h2).2 ((hp.map Prod.fst).mem_iff.2 hm)⟩,h.dom,fun b hb hlt=>h.fresh b ((hp.map Prod.fst).mem_iff.2 hb) hlt⟩
theorem am.perm{P:Program}{f:FuncId}{args:List AV}{L:SH}{Q:AV→SH→Prop}(h:am P f args L fun v L'=>∃L'',L'.Perm L''∧Q v L''):am P f args L Q:=⟨h.1,fun H hb hs=>by
 obtain⟨v,H',L',h1,h2,L'',hp,h3⟩:=h.2 H hb hs
 exact⟨v,H',L'',h1,h2.perm hp,h3⟩⟩
theorem pV.refl(K:SH):∀l:List AV,pV K l l
 | []=>.nil
 | a::l=>.cons (.refl a) (pV.refl K l)
theorem aV.row{vs:List AV}{L K R:SH}{b n:Nat}{rows rows':List (List AV)}(hL:L.Perm (K++(b,⟨n,rows⟩)::R))(hlen:rows.length=rows'.length)(hr:∀(j:Nat) (r r':List AV),rows[j]? =some r→rows'[j]? =some r'→pV K r r'):aV vs L vs ((b,⟨n,rows'⟩)::R):=by
 refine⟨K,(b,⟨n,rows⟩)::R,hL,⟨rfl,fun i a a2 h1 h2=>by rw[h1]at h2;cases h2;exact .refl _⟩,rfl,fun i p q h1 h2=>?_⟩
 match i with
 | 0=>
  cases h1;cases h2
  exact⟨rfl,rfl,hlen,fun j s s2 g1 g2=>(hr j s s2 g1 g2).at_⟩
 | i+1=>
  simp only[List.getElem?_cons_succ]at h1 h2
  rw[h1]at h2;cases h2
  exact⟨rfl,rfl,rfl,fun j r r2 h3 h4=>by rw[h3]at h4;cases h4;exact⟨rfl,fun k a a2 h5 h6=>by rw[h5]at h6;cases h6;exact .refl _⟩⟩
inductive xN:SH→SH→SH→Prop where
 | nil (L:SH):xN L [] L
 | one {b:Nat} {x:Blk} {L L' R K:SH}:dG b x L L'→xN L' R K→xN L ((b,x)::R) K
 | slot {o:Option Nat} {n:Nat} {rows:List (List AV)} {L L' R K:SH}:cW o n rows L L'→xN L' R K→xN L (ao o n rows++R) K
theorem xN.perm{L R K:SH}(h:xN L R K):L.Perm (K++R):=by
 induction h with
 | nil L=>simp
 | one hd hp ih=>exact(hd.perm.trans ((ih.cons _).trans List.perm_middle.symm))
 | slot hd hp ih=>
  refine hd.perm.trans ((ih.append_left _).trans ?_)
  rw[←List.append_assoc,←List.append_assoc]
  exact List.perm_append_comm.append_right _
theorem aV.pickE{vs vs2:List AV}{L R R2:SH}(h:ez L R)(hv:vs=vs2)(hR:R=R2):aV vs L vs2 R2:=by
 subst hR
 exact aV.pick h hv
theorem aV.rowA{vs vs2:List AV}{L A R K:SH}{b n:Nat}{rows rows':List (List AV)}(h:xN L (A++(b,⟨n,rows⟩)::R) K)(hlen:rows.length=rows'.length)(hr:∀(j:Nat) (r r':List AV),rows[j]? =some r→rows'[j]? =some r'→pV K r r')(hv:vs=vs2):aV vs L vs2 (A++(b,⟨n,rows'⟩)::R):=by
 subst hv
 refine⟨K,_,h.perm,⟨rfl,fun i a a2 h1 h2=>by rw[h1]at h2;cases h2;exact .refl _⟩,by simp,fun i p q h1 h2=>?_⟩
 have same:p=q→p.1=q.1∧p.2.size=q.2.size∧p.2.rows.length=q.2.rows.length∧∀(j:Nat) (r r2:List AV),p.2.rows[j]? =some r→q.2.rows[j]? =some r2→r.length=r2.length∧∀(k:Nat) (a a2:AV),r[k]? =some a→r2[k]? =some a2→Fz K a a2:=fun e=>by
  subst e
  exact⟨rfl,rfl,rfl,fun j r r2 h3 h4=>by rw[h3]at h4;cases h4;exact⟨rfl,fun k a a2 h5 h6=>by rw[h5]at h6;cases h6;exact .refl _⟩⟩
 rcases Nat.lt_or_ge i A.length with hi | hi
 ·rw[List.getElem?_append_left hi]at h1 h2
  rw[h1]at h2;cases h2
  exact same rfl
 ·rw[List.getElem?_append_right hi]at h1 h2
  generalize i-A.length=k at h1 h2
  match k with
  | 0=>
   cases h1;cases h2
   exact⟨rfl,rfl,hlen,fun j r r' g1 g2=>(hr j r r' g1 g2).at_⟩
  | k+1=>
   simp only[List.getElem?_cons_succ]at h1 h2
   rw[h1]at h2;cases h2
   exact same rfl
end Go.Proofs.Ytljkdffikfkcgaa.Am
end
section
namespace Go.Proofs.Ytljkdffikfkcgaa.Am
set_option linter.unusedVariables false
section
variable {KL:AV→SH→Prop} {L L':SH}
theorem Db{α:Type}{f:α→List AV}{l:List α}{b i n by_:Nat}{rows:List (List AV)}{L L':SH}{KL:AV→SH→Prop}(hd:dG b ⟨n,rows⟩ L L')(hn:∀x,(f x).length=n)(hr:rows.length=i)(h2:2*(i+l.length)*by_≤2^48)(h3:2*(i+l.length)≤2^62)(h4:∀x,(f x).all AV.one=true)
  (h:∀b',b'∉L.names→KL (.sl b' 0 (i+l.length)) ((b',⟨n,rows++l.map f⟩)::L')):W.append n by_ (.sl b 0 i) (.lst (l.map f)) L KL:=by
 have h4':((l.map f).all fun r=>r.all AV.one)=true:=by
  rw[List.all_eq_true]
  intro r hr
  obtain⟨x,_,rfl⟩:=List.mem_map.1 hr
  exact h4 x
 subst hr
 exact uc (y:=⟨n,rows⟩) (l:=rows) hd.mem' rfl (by simp) (by simp) (ud hn) (by simpa using h2) (by simpa using h3) h4' hd (fun b' hb=>by simpa using h b' hb)
end
theorem Dc{P:Program}{KL:AV→SH→Prop}{g:FuncId}{args:List AV}{L:SH}{R:AV→SH→Prop}(h:am P g args [] R)(hk:∀v K,R v K→KL v (L++K)):W.callM P g args L KL:=
 ⟨.perm (h.frame (K:=[]) (R:=L) (.refl _) fun u K hu=>⟨L++K,List.perm_append_comm,hk u K hu⟩)⟩
theorem Dd{α β:Type}{f:α→β}{l m:List α}{n:Nat}(h:l.take n=m):((l.map f).drop 0).take n=m.map f:=by
 rw[List.drop_zero,←List.map_take,h]
end Go.Proofs.Ytljkdffikfkcgaa.Am
end
section
namespace Go.Proofs.Ytljkdffikfkcgaa.Am
set_option maxRecDepth 100000
set_option linter.unusedSimpArgs false
set_option linter.unusedVariables false
set_option linter.unusedSectionVars false
theorem BP(xs:List Int)(hl:xs.length*8≤140737488355328):am Try.prog 22 [.lst (xs.map aJ)] [] fun v L=>∃o,v=dU o xs.length∧L=ao o 1 (xs.map aJ)∧(o=none→xs=[]):=by
 refine(BL (fun A n c xs w hf h1 hn hA=>cloneJ_any A n c xs w hf h1 hn hA) ⟨_,_,Try.func22,rfl⟩ (xs.map aJ) (by simp[aJ,AV.one]) (fun r hr=>by obtain⟨x,_,rfl⟩:=List.mem_map.1 hr;rfl) (by simpa using hl)).mono ?_
 rintro v L ⟨o,rfl,rfl,h⟩
 exact⟨o,by simp,rfl,fun e=>by simpa using h e⟩
theorem et(xs:List Int)(hl:xs.length*8≤140737488355328):aO Try.prog 23 [.lst (xs.map aJ)] (.lst (xs.map aJ)):=by
 refine am.fz ((BM xs hl).mono ?_)
 rintro v L ⟨o,rfl,rfl,ho⟩
 exact⟨_,[],aV.all (Fz.slot (f:=aJ) rfl (fun e=>by rw[ho e];rfl) (by decide) (fun y _=>rfl) (fun y _ q a a2 h1 h2=>by rw[h1]at h2;cases h2;exact .refl _)),rfl,rfl⟩
def Be(s:bK)(v:AV)(L:SH):Prop:=
 ∃(o t:Option Nat),v=.agg [.int .i64 s.pc,dU o s.regs.length,dU t s.taint.length,.int .i64 s.ev]∧L=ao o 1 (s.regs.map aJ)++ao t 1 (s.taint.map cC)∧(o=none→s.regs=[])∧(t=none→s.taint=[])
def jD(t:List (List Int))(k:Nat):List (List AV):=(t.take k).map cC++List.replicate (t.length-k) [.nils]
theorem BQ(t:List (List Int))(k:Nat)(hk:k≤t.length):(jD t k).length=t.length:=by simp[jD];omega
theorem De(t:List (List Int))(k:Nat)(hk:k<t.length):(jD t k)[k]? =some [.nils]:=by
 unfold jD
 have hl:((t.take k).map cC).length=k:=by simp;omega
 rw[List.getElem?_append_right (by omega),hl,Nat.sub_self]
 obtain⟨m,hm⟩:∃m,t.length-k=m+1:=⟨t.length-k-1,by omega⟩
 rw[hm];rfl
theorem xe(t:List (List Int))(k:Nat)(hk:k<t.length):(jD t k).set k (cC t[k])=jD t (k+1):=by
 unfold jD
 have hl:((t.take k).map cC).length=k:=by simp;omega
 rw[List.set_append_right _ _ (by omega),hl,Nat.sub_self]
 obtain⟨m,hm⟩:∃m,t.length-k=m+1:=⟨t.length-k-1,by omega⟩
 rw[hm,List.replicate_succ,List.set_cons_zero,List.take_succ_eq_append_getElem hk,show t.length-(k+1)=m by omega,List.map_append,List.append_assoc]
 rfl
theorem Al(s:bK)(h1:s.regs.length<2^40)(h2:s.taint.length<2^40)(h3:∀l∈s.taint,l.length≤2^30):am Try.prog 10 [.agg s.enc] [] (Be s):=by
 refine am.fz (tv _ _ _ ?_)
 unfold ko
 generalize hQ:(fun(v:AV) (L:SH)=>∃v2 L2,aV [v] L [v2] L2∧Be s v2 L2)=Q
 repeat' (first | refine st ?_ | refine sb (fun nb_ hnb_=>?_) | refine s2 (fun h=>?_) (fun h=>?_) | fail)
 rename_i b1 _
 revert nb_
 intro b2 _
 refine Dc (BP s.regs (by omega)) ?_
 rintro v K ⟨o,rfl,rfl,ho⟩
 unfold jB
 have fin:∀(bt:Nat) (L:SH),(∃x y:Blk,L=(bt,⟨1,s.taint.map cC⟩)::(b2,x)::(b1,y)::ao o 1 (s.regs.map aJ))→Q (.agg [.int .i64 s.pc,dU o s.regs.length,.sl bt 0 s.taint.length,.int .i64 s.ev]) L:=by
  rintro bt L ⟨x,y,rfl⟩
  subst hQ
  refine⟨_,_,aV.forget (K:=[(b2,x),(b1,y)]) (R:=ao o 1 (s.regs.map aJ)++[(bt,⟨1,s.taint.map cC⟩)]) ?_,o,some bt,rfl,rfl,ho,nofun⟩
  refine(List.Perm.trans (List.Perm.swap _ _ _) ?_)
  refine List.Perm.cons _ ((List.Perm.swap _ _ _).trans (List.Perm.cons _ ?_))
  exact(List.perm_append_comm (l₁:=[(bt,(⟨1,s.taint.map cC⟩:Blk))]) (l₂:=ao o 1 (s.regs.map aJ)))
 have loop:∀(bt:Nat) (y:Blk),y=⟨4,[[.int .i64 s.pc,dU o s.regs.length,.lst (s.taint.map cC),.int .i64 s.ev]]⟩→W.loop (fB Q) [.ptr b1 0 0,.ptr b2 0 0,.sl bt 0 s.taint.length,.lst (s.taint.map cC),.int .i64 s.taint.length,.int .i64 (0:Nat)] ((bt,⟨1,List.replicate s.taint.length [.nils]⟩)::(b2,⟨4,[[.int .i64 0,.nils,.nils,.int .i64 0]]⟩)::(b1,y)::ao o 1 (s.regs.map aJ)):=by
  intro bt y hy
  subst hy
  refine cH s.taint.length (fun k (_:Unit)=>([.ptr b1 0 0,.ptr b2 0 0,.sl bt 0 s.taint.length,.lst (s.taint.map cC),.int .i64 s.taint.length,.int .i64 k],(bt,⟨1,jD s.taint k⟩)::(b2,⟨4,[[.int .i64 0,.nils,.nils,.int .i64 0]]⟩)::(b1,⟨4,[[.int .i64 s.pc,dU o s.regs.length,.lst (s.taint.map cC),.int .i64 s.ev]]⟩)::ao o 1 (s.regs.map aJ))) (fun _ _=>True) () trivial (uS rfl (by simp[jD])) ?_
  intro k _ hk _
  dsimp only
  unfold fB
  rcases Nat.lt_or_ge k s.taint.length with g1 | g1
  ·have hd:=ct g1
   have hx:=aC (f:=cC) g1
   have hz:=De s.taint k g1
   have hkl:k<(jD s.taint k).length:=by rw[BQ _ _ hk];exact g1
   have hrk:(s.taint[k]).length*8≤140737488355328:=by have:=h3 _ (List.getElem_mem g1);omega
   cases o with
   | none=>
    dsimp only[ao,dU]
    repeat' (first | refine st ?_ | ((with_reducible refine aq 23 ?_);refine aj (et _ hrk) ?_) | ((with_reducible refine al 23 ?_);refine ab (et _ hrk) ?_) | unfold fy | refine sb (fun nb_ hnb_=>?_) | refine s2 (fun h=>?_) (fun h=>?_) | fail)
    exact⟨k+1,(),by omega,by omega,trivial,uS (by rw[bH g1 (by omega)]<;>rfl) (by rw[←xe _ _ g1];rfl)⟩
   | some b'=>
    dsimp only[ao,dU]
    repeat' (first | refine st ?_ | ((with_reducible refine aq 23 ?_);refine aj (et _ hrk) ?_) | ((with_reducible refine al 23 ?_);refine ab (et _ hrk) ?_) | unfold fy | refine sb (fun nb_ hnb_=>?_) | refine s2 (fun h=>?_) (fun h=>?_) | fail)
    exact⟨k+1,(),by omega,by omega,trivial,uS (by rw[bH g1 (by omega)]<;>rfl) (by rw[←xe _ _ g1];rfl)⟩
  ·have hd:=ee g1
   have hk0:k=s.taint.length:=by omega
   subst hk0
   have e:jD s.taint s.taint.length=s.taint.map cC:=by simp[jD]
   rw[e]
   cases o with
   | none=>
    dsimp only[ao,dU]at fin ⊢
    repeat' (first | refine st ?_ | refine sb (fun nb_ hnb_=>?_) | refine s2 (fun h=>?_) (fun h=>?_) | fail)
    exact fin _ _ ⟨_,_,rfl⟩
   | some b'=>
    dsimp only[ao,dU]at fin ⊢
    repeat' (first | refine st ?_ | refine sb (fun nb_ hnb_=>?_) | refine s2 (fun h=>?_) (fun h=>?_) | fail)
    exact fin _ _ ⟨_,_,rfl⟩
 cases o with
 | none=>
  dsimp only[ao,dU]at loop ⊢
  repeat' (first | refine st ?_ | refine sb (fun nb_ hnb_=>?_) | refine s2 (fun h=>?_) (fun h=>?_) | fail)
  exact loop _ _ rfl
 | some b'=>
  dsimp only[ao,dU]at loop ⊢
  repeat' (first | refine st ?_ | refine sb (fun nb_ hnb_=>?_) | refine s2 (fun h=>?_) (fun h=>?_) | fail)
  exact loop _ _ rfl
end Go.Proofs.Ytljkdffikfkcgaa.Am
end
section
namespace Go.Proofs.Ytljkdffikfkcgaa.Am
set_option maxRecDepth 100000
set_option linter.unusedSimpArgs false
set_option linter.unusedVariables false
set_option linter.unusedSectionVars false
theorem Df(a b:List Int)(ha:a.length≤2^30)(hb:b.length≤2^30):aO Try.prog 27 [.lst (a.map aJ),.lst (b.map aJ)] (.lst ((zQ (a++b)).map aJ)):=by
 refine am.fz (tu _ _ _ _ ?_)
 unfold km
 generalize hQ:(fun(v:AV) (L:SH)=>∃v2 L2,aV [v] L [v2] L2∧v2=AV.lst ((zQ (a++b)).map aJ)∧L2=[])=Q
 have hsum:IntKind.i64.wrap ((a.length:Int)+b.length)=((a.length+b.length:Nat):Int):=by rw[IntWalk.i64_in _ (by omega)];omega
 have fin:∀(bk:Nat) (L:SH),(bk,(⟨1,(Lib.compact (wv (a++b))++List.replicate ((a++b).length-(Lib.compact (wv (a++b))).length) 0).map aJ⟩:Blk))∈L→Q (.sl bk 0 (Lib.compact (wv (a++b))).length) L:=fun bk L hm=>by
  subst hQ
  refine⟨_,[],aV.all ?_,rfl,rfl⟩
  show Fz _ (.sl bk 0 (zQ (a++b)).length) (.lst ((zQ (a++b)).map aJ))
  rw[show(zQ (a++b)).map aJ=((((Lib.compact (wv (a++b))++List.replicate ((a++b).length-(Lib.compact (wv (a++b))).length) 0).map aJ).drop 0).take (zQ (a++b)).length)from(Dd (List.take_left' rfl)).symm]
  exact Fz.rows (x:=⟨1,_⟩) hm (by simp) (by simp[zQ])
 have h2:=fun bk:Nat=>EN bk (a++b) (by simp;omega)
 have h3:=fun bk:Nat=>Ak bk (wv (a++b)) (by rw[xK];simp;omega)
 simp only[xK]at h3
 repeat' (first | refine st ?_ | refine sb (fun nb_ hnb_=>?_) | refine s2 (fun h=>?_) (fun h=>?_) | fail)
 refine yV (i:=0) (j:=a.length+b.length) (by omega) (by omega) (by omega) (fun nb_ hnb_=>?_)
 repeat' (first | refine st ?_ | refine Db rp (fun _=>rfl) (by simp) (by simp;omega) (by simp;omega) (fun _=>rfl) (fun nb_ hnb_=>?_) | refine sb (fun nb_ hnb_=>?_) | refine s2 (fun h=>?_) (fun h=>?_) | fail)
 simp only[List.replicate,List.nil_append,←List.map_append,Nat.zero_add,←List.length_append]
 repeat' (first | refine st ?_ | ((with_reducible refine aq 38 ?_);(refine kS (h2 _) (.here _) ?_;rintro _ _ ⟨rfl,rfl⟩)) | ((with_reducible refine aq 39 ?_);(refine kS (h3 _) (.here _) ?_;rintro _ _ ⟨rfl,rfl⟩)) | refine sb (fun nb_ hnb_=>?_) | refine s2 (fun h=>?_) (fun h=>?_) | fail)
 exact fin _ _ rp
end Go.Proofs.Ytljkdffikfkcgaa.Am
end
section
namespace Go.Proofs.Ytljkdffikfkcgaa.Am
set_option maxRecDepth 100000
set_option linter.unusedSimpArgs false
set_option linter.unusedVariables false
def zi(p:Int×Bool):AV:=.tup [.int .i64 p.1,.bool p.2]
theorem qo(b:Bool):aO Try.prog 37 [.bool b] (.int .i64 (ir b)):=by
 refine wE _ _ _ ?_
 unfold pX
 cases b
 all_goals
  repeat' (first | refine st ?_ | refine sb (fun nb_ hnb_=>?_) | refine s2 (fun h=>?_) (fun h=>?_) | fail)
  exact⟨rfl,rfl⟩
theorem Dg(op a:Int):aO Try.prog 25 [.int .i64 op,.int .i64 a] (zi (BN op a)):=by
 refine wG _ _ _ _ ?_
 unfold pY
 generalize hQ:(fun(u:AV) (K:SH)=>u=zi (BN op a)∧K=[])=Q
 repeat' (first | refine st ?_ | ((with_reducible refine aq 37 ?_);refine aj (qo _) ?_) | ((with_reducible refine al 37 ?_);refine ab (qo _) ?_) | refine sb (fun nb_ hnb_=>?_) | refine s2 (fun h=>?_) (fun h=>?_) | fail)
 all_goals
  subst hQ
  refine⟨?_,rfl⟩
  simp_all[BN,zi]
theorem BR(op a b:Int):aO Try.prog 26 [.int .i64 op,.int .i64 a,.int .i64 b] (zi (rS op a b)):=by
 refine vc _ _ _ _ _ ?_
 unfold mC
 generalize hQ:(fun(u:AV) (K:SH)=>u=zi (rS op a b)∧K=[])=Q
 repeat' (first | refine st ?_ | ((with_reducible refine aq 37 ?_);refine aj (qo _) ?_) | ((with_reducible refine al 37 ?_);refine ab (qo _) ?_) | refine sb (fun nb_ hnb_=>?_) | refine s2 (fun h=>?_) (fun h=>?_) | fail)
 all_goals
  subst hQ
  refine⟨?_,rfl⟩
  simp_all[rS,zi]
end Go.Proofs.Ytljkdffikfkcgaa.Am
end
section
namespace Go.Proofs.Ytljkdffikfkcgaa.Am
set_option maxRecDepth 100000
set_option linter.unusedSimpArgs false
set_option linter.unusedVariables false
set_option linter.unusedSectionVars false
theorem dV{P:Program}{KL:AV→SH→Prop}{g:FuncId}{cs args:List AV}{L L':SH}{b:Nat}{x:Blk}{R:AV→SH→Prop}(h:am P g (args++cs) [(b,x)] R)(hd:dG b x L L')(hk:∀v K,R v K→KL v (K++L')):W.call P (.fn g cs) args L KL:=
 ⟨h.frame (K:=[(b,x)]) (R:=L') hd.perm fun u K hu=>hk u K hu⟩
def jl(s:bK)(o t:Option Nat):List AV:=[.int .i64 s.pc,dU o s.regs.length,dU t s.taint.length,.int .i64 s.ev]
def jR(s:bK)(bs:Nat)(o t:Option Nat):SH:=(bs,⟨4,[jl s o t]⟩)::(ao o 1 (s.regs.map aJ)++ao t 1 (s.taint.map cC))
def sa(r:Option bK)(bs:Nat)(o t:Option Nat)(v:AV)(L:SH):Prop:=
 match r with
 | none=>v=.bool false
 | some s2=>v=.bool true∧L=jR s2 bs o t
theorem Bf(s:bK)(bs:Nat)(o t:Option Nat)(ho:o=none→s.regs=[])(r:Int):am Try.prog 24 [.int .i64 r,.pptr [[.ptr bs 0 0]] 0 0] [(bs,⟨4,[jl s o t]⟩)] fun v L=>v=.bool (s.has r)∧L=[(bs,⟨4,[jl s o t]⟩)]:=by
 refine lg _ _ _ _ ?_
 unfold gj
 generalize hQ:(fun(v:AV) (L:SH)=>v=.bool (s.has r)∧L=[(bs,(⟨4,[jl s o t]⟩:Blk))])=Q
 cases o with
 | none=>
  have h0:=ho rfl
  unfold jl at hQ ⊢
  dsimp only[dU]at hQ ⊢
  repeat' (first | refine st ?_ | refine sb (fun nb_ hnb_=>?_) | refine s2 (fun h=>?_) (fun h=>?_) | fail)
  all_goals
   subst hQ
   refine⟨?_,rfl⟩
   simp_all[bK.has,inB]<;>omega
 | some b=>
  unfold jl at hQ ⊢
  dsimp only[dU]at hQ ⊢
  repeat' (first | refine st ?_ | refine sb (fun nb_ hnb_=>?_) | refine s2 (fun h=>?_) (fun h=>?_) | fail)
  all_goals
   subst hQ
   refine⟨?_,rfl⟩
   simp_all[bK.has,inB]<;>omega
theorem gY{s:bK}{r:Int}:s.has r=true↔∃k:Nat,r=k∧k<s.regs.length:=by
 unfold bK.has
 rw[gX]
 exact⟨fun⟨h1,h2⟩=>⟨r.toNat,by omega,by omega⟩,fun⟨k,h1,h2⟩=>by omega⟩
theorem gZ{o:Option Nat}{α:Type}{l:List α}{k:Nat}(h:o=none→l=[])(hk:k<l.length):∃b,o=some b:=by
 cases o with
 | none=>rw[h rfl]at hk;simp at hk
 | some b=>exact⟨b,rfl⟩
section
variable (s:bK) (bs:Nat) (o t:Option Nat) (ho:o=none→s.regs=[]) (ht:t=none→s.taint=[]) (hlen:s.taint.length=s.regs.length) (hsm:s.regs.length<2^40) (hsh:∀l∈s.taint,l.length≤2^30) (ia ib ic n site:Int)
include ho ht hlen hsm hsh
theorem GL:am Try.prog 11 [.ptr bs 0 0,.agg (aw.mk 5 ia ib ic n site).enc] (jR s bs o t) (sa (bu ⟨5,ia,ib,ic,n,site⟩ s) bs o t):=by
 refine cK _ _ _ _ ?_
 unfold cv
 generalize hQ:sa (bu ⟨5,ia,ib,ic,n,site⟩ s) bs o t=Q
 unfold jR
 repeat' (first | refine st ?_ | refine sb (fun nb_ hnb_=>?_) | refine s2 (fun h=>?_) (fun h=>?_) | fail)
 subst hQ
 exact⟨rfl,rfl⟩
theorem GM:am Try.prog 11 [.ptr bs 0 0,.agg (aw.mk 1 ia ib ic n site).enc] (jR s bs o t) (sa (bu ⟨1,ia,ib,ic,n,site⟩ s) bs o t):=by
 have hex:=fun r=>Bf s bs o t ho r
 refine am.fz (cK _ _ _ _ ?_)
 unfold cv
 generalize hQ:(fun(v:AV) (L:SH)=>∃v2 L2,aV [v] L [v2] L2∧sa (bu ⟨1,ia,ib,ic,n,site⟩ s) bs o t v2 L2)=Q
 cases ha:s.has ia with
 | false=>
  have e:bu ⟨1,ia,ib,ic,n,site⟩ s=none:=by simp[bu,ha]
  unfold jR
  repeat' (first | refine st ?_ | (refine rQ (dV (hex _) (.here _) ?_);rintro _ _ ⟨rfl,rfl⟩;(try rw[ha])) | refine sb (fun nb_ hnb_=>?_) | refine s2 (fun h=>?_) (fun h=>?_) | fail)
  subst hQ
  rw[e]
  exact⟨_,[],aV.all (.refl _),rfl⟩
 | true=>
  have e:bu ⟨1,ia,ib,ic,n,site⟩ s=some (s.put ia n []):=by simp[bu,ha]
  rw[e]at hQ
  obtain⟨a,rfl,hal⟩:=gY.1 ha
  obtain⟨b1,rfl⟩:=gZ ho hal
  obtain⟨b2,rfl⟩:=gZ ht (k:=a) (by omega)
  have hal2:a<s.taint.length:=by omega
  have hxa:=aC (f:=aJ) hal
  have hya:=aC (f:=cC) hal2
  unfold jR
  dsimp only[ao,List.cons_append,List.nil_append]
  repeat' (first | refine st ?_ | (refine rQ (dV (hex _) (.here _) ?_);rintro _ _ ⟨rfl,rfl⟩;first | rw[ha]) | refine sb (fun nb_ hnb_=>?_) | refine s2 (fun h=>?_) (fun h=>?_) | fail)
  subst hQ
  refine⟨_,_,?_,rfl,rfl⟩
  have e1:(s.put a n []).regs.map aJ=(s.regs.map aJ).set a [.int .i64 n]:=by simp[bK.put,List.map_set,aJ]
  have e2:(s.put a n []).taint.map cC=(s.taint.map cC).set a [.lst []]:=by simp[bK.put,List.map_set,cC]
  have e3:jl (s.put a n []) (some b1) (some b2)=[.int .i64 (IntKind.i64.wrap (s.pc+1)),.sl b1 0 s.regs.length,.sl b2 0 s.taint.length,.int .i64 s.ev]:=by simp[jl,bK.put,dU]
  unfold jR
  rw[e1,e2,e3]
  dsimp only[ao,List.cons_append,List.nil_append]
  refine aV.rowA (K:=[]) (A:=[(bs,_),(b1,_)]) (b:=b2) (R:=[]) (rows:=(s.taint.map cC).set a [.nils]) (rows':=(s.taint.map cC).set a [.lst []]) rp (by simp) (fun j r r' q1 q2=>?_) rfl
  rw[List.getElem?_set]at q1 q2
  by_cases hj:a=j
  ·rw[if_pos hj]at q1 q2
   rw[if_pos (by simp;omega)]at q1 q2
   cases q1;cases q2
   exact .cons .nils .nil
  ·rw[if_neg hj]at q1 q2
   rw[q1]at q2;cases q2
   exact pV.refl _ _
theorem GN:am Try.prog 11 [.ptr bs 0 0,.agg (aw.mk 2 ia ib ic n site).enc] (jR s bs o t) (sa (bu ⟨2,ia,ib,ic,n,site⟩ s) bs o t):=by
 have hex:=fun r=>Bf s bs o t ho r
 refine cK _ _ _ _ ?_
 unfold cv
 generalize hQ:sa (bu ⟨2,ia,ib,ic,n,site⟩ s) bs o t=Q
 cases ha:s.has ia with
 | false=>
  have e:bu ⟨2,ia,ib,ic,n,site⟩ s=none:=by simp[bu,ha]
  unfold jR
  repeat' (first | refine st ?_ | (refine rQ (dV (hex _) (.here _) ?_);rintro _ _ ⟨rfl,rfl⟩;first | rw[ha]) | refine sb (fun nb_ hnb_=>?_) | refine s2 (fun h=>?_) (fun h=>?_) | fail)
  subst hQ
  rw[e];rfl
 | true=>
  cases hb:s.has ib with
  | false=>
   have e:bu ⟨2,ia,ib,ic,n,site⟩ s=none:=by simp[bu,hb]
   unfold jR
   repeat' (first | refine st ?_ | (refine rQ (dV (hex _) (.here _) ?_);rintro _ _ ⟨rfl,rfl⟩;first | rw[ha] | rw[hb]) | refine sb (fun nb_ hnb_=>?_) | refine s2 (fun h=>?_) (fun h=>?_) | fail)
   subst hQ
   rw[e];rfl
  | true=>
   have e:bu ⟨2,ia,ib,ic,n,site⟩ s=some (s.put ia (s.reg ib) (s.tnt ib)):=by simp[bu,ha,hb]
   rw[e]at hQ
   obtain⟨a,rfl,hal⟩:=gY.1 ha
   obtain⟨b,rfl,hbl⟩:=gY.1 hb
   obtain⟨b1,rfl⟩:=gZ ho hal
   obtain⟨b2,rfl⟩:=gZ ht (k:=a) (by omega)
   have hal2:a<s.taint.length:=by omega
   have hxa:=aC (f:=aJ) hal
   have hya:=aC (f:=cC) hal2
   have hbl2:b<s.taint.length:=by omega
   have hxb:=aC (f:=aJ) hbl
   have hyb:=aC (f:=cC) hbl2
   have hcl:=et s.taint[b] (by have:=hsh _ (List.getElem_mem hbl2);omega)
   unfold jR
   dsimp only[ao,List.cons_append,List.nil_append]
   repeat' (first | refine st ?_ | (refine rQ (dV (hex _) (.here _) ?_);rintro _ _ ⟨rfl,rfl⟩;first | rw[ha] | rw[hb]) | ((with_reducible refine aq 23 ?_);refine aj (hcl) ?_) | ((with_reducible refine al 23 ?_);refine ab (hcl) ?_) | refine sb (fun nb_ hnb_=>?_) | refine s2 (fun h=>?_) (fun h=>?_) | fail)
   subst hQ
   refine⟨rfl,?_⟩
   simp[jR,bK.put,jl,bK.reg,bK.tnt,ao,List.getD,hbl,hbl2,List.map_set,aJ,cC]
theorem GO:am Try.prog 11 [.ptr bs 0 0,.agg (aw.mk 3 ia ib ic n site).enc] (jR s bs o t) (sa (bu ⟨3,ia,ib,ic,n,site⟩ s) bs o t):=by
 have hex:=fun r=>Bf s bs o t ho r
 refine cK _ _ _ _ ?_
 unfold cv
 generalize hQ:sa (bu ⟨3,ia,ib,ic,n,site⟩ s) bs o t=Q
 cases ha:s.has ia with
 | false=>
  have e:bu ⟨3,ia,ib,ic,n,site⟩ s=none:=by simp[bu,ha]
  unfold jR
  repeat' (first | refine st ?_ | (refine rQ (dV (hex _) (.here _) ?_);rintro _ _ ⟨rfl,rfl⟩;first | rw[ha]) | refine sb (fun nb_ hnb_=>?_) | refine s2 (fun h=>?_) (fun h=>?_) | fail)
  subst hQ
  rw[e];rfl
 | true=>
  cases hb:s.has ib with
  | false=>
   have e:bu ⟨3,ia,ib,ic,n,site⟩ s=none:=by simp[bu,hb]
   unfold jR
   repeat' (first | refine st ?_ | (refine rQ (dV (hex _) (.here _) ?_);rintro _ _ ⟨rfl,rfl⟩;first | rw[ha] | rw[hb]) | refine sb (fun nb_ hnb_=>?_) | refine s2 (fun h=>?_) (fun h=>?_) | fail)
   subst hQ
   rw[e];rfl
  | true=>
   have e:bu ⟨3,ia,ib,ic,n,site⟩ s=if(BN n (s.reg ib)).2 then some (s.put ia (BN n (s.reg ib)).1 (s.tnt ib))else none:=by simp[bu,ha,hb]
   rw[e]at hQ
   obtain⟨a,rfl,hal⟩:=gY.1 ha
   obtain⟨b,rfl,hbl⟩:=gY.1 hb
   obtain⟨b1,rfl⟩:=gZ ho hal
   obtain⟨b2,rfl⟩:=gZ ht (k:=a) (by omega)
   have hal2:a<s.taint.length:=by omega
   have hxa:=aC (f:=aJ) hal
   have hya:=aC (f:=cC) hal2
   have hbl2:b<s.taint.length:=by omega
   have hxb:=aC (f:=aJ) hbl
   have hyb:=aC (f:=cC) hbl2
   have hcl:=et s.taint[b] (by have:=hsh _ (List.getElem_mem hbl2);omega)
   have hun:=Dg n s.regs[b]
   have hrb:s.reg b=s.regs[b]:=by simp[bK.reg,List.getD,hbl]
   have htb:s.tnt b=s.taint[b]:=by simp[bK.tnt,List.getD,hbl2]
   rw[hrb,htb]at hQ
   generalize BN n s.regs[b]=p at hun hQ
   unfold zi at hun
   unfold jR
   dsimp only[ao,List.cons_append,List.nil_append]
   repeat' (first | refine st ?_ | (refine rQ (dV (hex _) (.here _) ?_);rintro _ _ ⟨rfl,rfl⟩;first | rw[ha] | rw[hb]) | ((with_reducible refine aq 23 ?_);refine aj (hcl) ?_) | ((with_reducible refine al 23 ?_);refine ab (hcl) ?_) | ((with_reducible refine aq 25 ?_);refine aj (hun) ?_) | ((with_reducible refine al 25 ?_);refine ab (hun) ?_) | refine sb (fun nb_ hnb_=>?_) | refine s2 (fun h=>?_) (fun h=>?_) | fail)
   subst hQ
   unfold sa
   cases hp:p.2 with
   | false=>rfl
   | true=>
    refine⟨rfl,?_⟩
    simp[jR,bK.put,jl,ao,List.map_set,aJ,cC]
theorem GP:am Try.prog 11 [.ptr bs 0 0,.agg (aw.mk 4 ia ib ic n site).enc] (jR s bs o t) (sa (bu ⟨4,ia,ib,ic,n,site⟩ s) bs o t):=by
 have hex:=fun r=>Bf s bs o t ho r
 refine cK _ _ _ _ ?_
 unfold cv
 generalize hQ:sa (bu ⟨4,ia,ib,ic,n,site⟩ s) bs o t=Q
 cases ha:s.has ia with
 | false=>
  have e:bu ⟨4,ia,ib,ic,n,site⟩ s=none:=by simp[bu,ha]
  unfold jR
  repeat' (first | refine st ?_ | (refine rQ (dV (hex _) (.here _) ?_);rintro _ _ ⟨rfl,rfl⟩;first | rw[ha]) | refine sb (fun nb_ hnb_=>?_) | refine s2 (fun h=>?_) (fun h=>?_) | fail)
  subst hQ
  rw[e];rfl
 | true=>
  cases hb:s.has ib with
  | false=>
   have e:bu ⟨4,ia,ib,ic,n,site⟩ s=none:=by simp[bu,hb]
   unfold jR
   repeat' (first | refine st ?_ | (refine rQ (dV (hex _) (.here _) ?_);rintro _ _ ⟨rfl,rfl⟩;first | rw[ha] | rw[hb]) | refine sb (fun nb_ hnb_=>?_) | refine s2 (fun h=>?_) (fun h=>?_) | fail)
   subst hQ
   rw[e];rfl
  | true=>
   cases hc:s.has ic with
   | false=>
    have e:bu ⟨4,ia,ib,ic,n,site⟩ s=none:=by simp[bu,hc]
    unfold jR
    repeat' (first | refine st ?_ | (refine rQ (dV (hex _) (.here _) ?_);rintro _ _ ⟨rfl,rfl⟩;first | rw[ha] | rw[hb] | rw[hc]) | refine sb (fun nb_ hnb_=>?_) | refine s2 (fun h=>?_) (fun h=>?_) | fail)
    subst hQ
    rw[e];rfl
   | true=>
    have e:bu ⟨4,ia,ib,ic,n,site⟩ s=if(rS n (s.reg ib) (s.reg ic)).2 then some (s.put ia (rS n (s.reg ib) (s.reg ic)).1 (zQ (s.tnt ib++s.tnt ic)))else none:=by simp[bu,ha,hb,hc]
    rw[e]at hQ
    obtain⟨a,rfl,hal⟩:=gY.1 ha
    obtain⟨b,rfl,hbl⟩:=gY.1 hb
    obtain⟨c,rfl,hcl⟩:=gY.1 hc
    obtain⟨b1,rfl⟩:=gZ ho hal
    obtain⟨b2,rfl⟩:=gZ ht (k:=a) (by omega)
    have hal2:a<s.taint.length:=by omega
    have hxa:=aC (f:=aJ) hal
    have hya:=aC (f:=cC) hal2
    have hbl2:b<s.taint.length:=by omega
    have hxb:=aC (f:=aJ) hbl
    have hyb:=aC (f:=cC) hbl2
    have hcl2:c<s.taint.length:=by omega
    have hxc:=aC (f:=aJ) hcl
    have hyc:=aC (f:=cC) hcl2
    have hun2:=Df s.taint[b] s.taint[c] (hsh _ (List.getElem_mem hbl2)) (hsh _ (List.getElem_mem hcl2))
    have hun:=BR n s.regs[b] s.regs[c]
    have hrb:s.reg b=s.regs[b]:=by simp[bK.reg,List.getD,hbl]
    have htb:s.tnt b=s.taint[b]:=by simp[bK.tnt,List.getD,hbl2]
    have hrc:s.reg c=s.regs[c]:=by simp[bK.reg,List.getD,hcl]
    have htc:s.tnt c=s.taint[c]:=by simp[bK.tnt,List.getD,hcl2]
    rw[hrb,htb,hrc,htc]at hQ
    generalize rS n s.regs[b] s.regs[c]=p at hun hQ
    generalize zQ (s.taint[b]++s.taint[c])=u at hun2 hQ
    unfold zi at hun
    unfold jR
    dsimp only[ao,List.cons_append,List.nil_append]
    repeat' (first | refine st ?_ | (refine rQ (dV (hex _) (.here _) ?_);rintro _ _ ⟨rfl,rfl⟩;first | rw[ha] | rw[hb] | rw[hc]) | ((with_reducible refine aq 27 ?_);refine aj (hun2) ?_) | ((with_reducible refine al 27 ?_);refine ab (hun2) ?_) | ((with_reducible refine aq 26 ?_);refine aj (hun) ?_) | ((with_reducible refine al 26 ?_);refine ab (hun) ?_) | refine sb (fun nb_ hnb_=>?_) | refine s2 (fun h=>?_) (fun h=>?_) | fail)
    subst hQ
    unfold sa
    cases hp:p.2 with
    | false=>rfl
    | true=>
     refine⟨rfl,?_⟩
     simp[jR,bK.put,jl,ao,List.map_set,aJ,cC]
end
end Go.Proofs.Ytljkdffikfkcgaa.Am
end
section
namespace Go.Proofs.Ytljkdffikfkcgaa.Am
set_option maxRecDepth 100000
set_option linter.unusedSimpArgs false
set_option linter.unusedVariables false
set_option linter.unusedSectionVars false
def Bg:List AV:=[.int .i64 0,.nils,.nils,.int .i64 0]
theorem xO{P:Program}{KL R1:AV→SH→Prop}{g:FuncId}{args:List AV}{L K R:SH}(h:am P g args K R1)(hL:L.Perm (K++R))(hq:∀v K',R1 v K'→KL v (R++K')):W.callM P g args L KL:=
 ⟨.perm (h.frame hL fun u K' hu=>⟨R++K',List.perm_append_comm,hq u K' hu⟩)⟩
theorem Dh(s:bK)(bs:Nat)(o t:Option Nat)(ho:o=none→s.regs=[])(ht:t=none→s.taint=[])(hlen:s.taint.length=s.regs.length)(hsm:s.regs.length<2^40)(hsh:∀l∈s.taint,l.length≤2^30)(i:aw)(h1:1≤i.op)(h5:i.op≤5):
  am Try.prog 11 [.ptr bs 0 0,.agg i.enc] (jR s bs o t) (sa (bu i s) bs o t):=by
 obtain⟨op,ia,ib,ic,n,site⟩:=i
 dsimp only at h1 h5
 obtain rfl | rfl | rfl | rfl | rfl:op=1∨op=2∨op=3∨op=4∨op=5:=by omega
 ·exact GM s bs o t ho ht hlen hsm hsh ia ib ic n site
 ·exact GN s bs o t ho ht hlen hsm hsh ia ib ic n site
 ·exact GO s bs o t ho ht hlen hsm hsh ia ib ic n site
 ·exact GP s bs o t ho ht hlen hsm hsh ia ib ic n site
 ·exact GL s bs o t ho ht hlen hsm hsh ia ib ic n site
theorem qp(s:bK)(a v:Int)(t:List Int):(s.put a v t).regs.length=s.regs.length∧(s.put a v t).taint.length=s.taint.length:=by simp[bK.put]
theorem BS{s s2:bK}{i:aw}(he:bu i s=some s2):s2.regs.length=s.regs.length∧s2.taint.length=s.taint.length:=by
 unfold bu at he
 split at he
 ·split at he
  ·cases he;exact qp _ _ _ _
  ·cases he
 ·split at he
  ·split at he
   ·cases he;exact qp _ _ _ _
   ·cases he
  ·split at he
   ·split at he
    ·cases he;exact qp _ _ _ _
    ·cases he
   ·split at he
    ·split at he
     ·cases he;exact qp _ _ _ _
     ·cases he
    ·cases he;exact⟨rfl,rfl⟩
theorem zj{α:Type}{K:SH}{f:α→List AV}{l:List α}{o:Option Nat}{n:Nat}(hn:n=l.length)(h0:o=none→l=[])(hm:∀b,o=some b→(b,(⟨1,l.map f⟩:Blk))∈K):Fz K (dU o n) (.lst (l.map f)):=by
 cases o with
 | none=>rw[h0 rfl];exact .refl _
 | some b=>exact Fz.sls (hm b rfl) rfl (by decide) hn
theorem ER{K:SH}{s:bK}{o t:Option Nat}(ho:o=none→s.regs=[])(ht:t=none→s.taint=[])(h:∀p∈ao o 1 (s.regs.map aJ)++ao t 1 (s.taint.map cC),p∈K):Fz K (.agg (jl s o t)) (.agg s.enc):=
 Fz.aggs (.cons (.refl _) (.cons (zj rfl ho fun b e=>h _ (by subst e;simp[ao])) (.cons (zj rfl ht fun b e=>h _ (by subst e;simp[ao])) (.cons (.refl _) .nil))))
theorem xP(K:SH):Fz K (.agg Bg) (.agg bK.zero.enc):=Fz.aggs (.cons (.refl _) (.cons .nils (.cons .nils (.cons (.refl _) .nil))))
theorem xQ{K:SH}{a b:AV}{ok:Bool}(h:Fz K a b):Fz K (.tup [a,.bool ok]) (.tup [b,.bool ok]):=.tup _ _ rfl fun i x y h1 h2=>by
 match i with
 | 0=>cases h1;cases h2;exact h
 | 1=>cases h1;cases h2;exact .refl _
 | i+2=>simp at h1
theorem Bh{ins:List aw}{k:Nat}{s:bK}(h:inB s.pc ins.length=false):dz ins k s=(bK.zero,false):=by cases k<;>simp[dz,h]
theorem Di{ins:List aw}{k:Nat}{s:bK}(h:inB s.pc ins.length=true)(h2:(ins.getD s.pc.toNat default).op<1∨5<(ins.getD s.pc.toNat default).op):dz ins k s=(s,true):=by cases k<;>simp only[dz,h,if_true,if_pos h2]
theorem Dj{ins:List aw}{k:Nat}{s:bK}(h:inB s.pc ins.length=true)(h2:¬((ins.getD s.pc.toNat default).op<1∨5<(ins.getD s.pc.toNat default).op))(h3:bu (ins.getD s.pc.toNat default) s=none):dz ins k s=(bK.zero,false):=by cases k<;>simp only[dz,h,if_true,if_neg h2,h3]
theorem Dk{ins:List aw}{s:bK}(h:inB s.pc ins.length=true)(h2:¬((ins.getD s.pc.toNat default).op<1∨5<(ins.getD s.pc.toNat default).op)):dz ins 0 s=(bK.zero,false):=by simp only[dz,h,if_true,if_neg h2]
theorem Dl{ins:List aw}{k:Nat}{s s2:bK}(h:inB s.pc ins.length=true)(h2:¬((ins.getD s.pc.toNat default).op<1∨5<(ins.getD s.pc.toNat default).op))(h3:bu (ins.getD s.pc.toNat default) s=some s2):dz ins (k+1) s=dz ins k s2:=by simp only[dz,h,if_true,if_neg h2,h3]
section
variable (c:lf) (s:bK) (U:List Int) (hU:U.length≤2^30) (hT:kj U s) (hc:c.ins.length<2^40) (o t:Option Nat) (ho:o=none→s.regs=[]) (ht:t=none→s.taint=[])
include hU hT hc ho ht
theorem zk(b3 b4:Nat)(Q:AV→SH→Prop)(hq:∀v L,Fz L v (C9 (dz c.ins c.ins.length s))→Q v L):
  W.loop (e8 Q) [.pptr [c.enc] 0 0,.ptr b3 0 0,.ptr b4 0 0,.int .i64 (0:Nat)] ((b4,⟨4,[Bg]⟩)::jR s b3 o t):=by
 refine cH c.ins.length (fun k (e:bK)=>([.pptr [c.enc] 0 0,.ptr b3 0 0,.ptr b4 0 0,.int .i64 k],(b4,⟨4,[Bg]⟩)::jR e b3 o t)) (fun k e=>kj U e∧(e.regs.length=s.regs.length∧e.taint.length=s.taint.length)∧dz c.ins (c.ins.length-k) e=dz c.ins c.ins.length s) s ⟨hT,⟨rfl,rfl⟩,rfl⟩ (.refl _ _) ?_
 intro k e hk ⟨he,⟨hl1,hl2⟩,hrun⟩
 rw[←hrun]at hq
 have ho':o=none→e.regs=[]:=fun x=>List.length_eq_zero_iff.1 (by rw[hl1,ho x];rfl)
 have ht':t=none→e.taint=[]:=fun x=>List.length_eq_zero_iff.1 (by rw[hl2,ht x];rfl)
 dsimp only
 unfold e8
 have zero:dz c.ins (c.ins.length-k) e=(bK.zero,false)→∀L,Q (.tup [.agg Bg,.bool false]) L:=fun h L=>hq _ _ (by rw[h];exact xQ (xP _))
 by_cases p1:e.pc<0
 ·have hd1:decide (e.pc<0)=true:=by simpa using p1
  have hz:=zero (Bh (by simp[inB];omega))
  unfold jR jl
  repeat' (first | refine st ?_ | refine sb (fun nb_ hnb_=>?_) | refine s2 (fun h=>?_) (fun h=>?_) | fail)
  exact hz _
 ·have hd1:decide (e.pc<0)=false:=by simpa using p1
  by_cases p2:(c.ins.length:Int)≤e.pc
  ·have hd2:decide ((c.ins.length:Int)≤e.pc)=true:=by simpa using p2
   have hz:=zero (Bh (by simp[inB];omega))
   unfold jR jl
   repeat' (first | refine st ?_ | refine sb (fun nb_ hnb_=>?_) | refine s2 (fun h=>?_) (fun h=>?_) | fail)
   exact hz _
  ·have hd2:decide ((c.ins.length:Int)≤e.pc)=false:=by simpa using p2
   have hin:inB e.pc c.ins.length=true:=by simp[inB];omega
   have hx:=Gk (f:=aw.enc) hin
   generalize hi:c.ins.getD e.pc.toNat default=i at hx
   by_cases p3:i.op<1∨5<i.op
   ·have hr:=Di (k:=c.ins.length-k) hin (by rw[hi];exact p3)
    rw[hr]at hq
    have fin:∀x,Q (.tup [.agg (jl e o t),.bool true]) ((b4,x)::jR e b3 o t):=fun x=>hq _ _ (xQ (ER ho' ht' fun p hp=>by unfold jR;exact .tail _ (.tail _ hp)))
    unfold jR jl at fin ⊢
    by_cases p4:i.op<1
    ·have q1:decide (i.op<1)=true:=by simpa using p4
     rcases o with _ | b1<;>rcases t with _ | b2
     all_goals
      dsimp only[dU,ao,List.cons_append,List.nil_append]at fin ⊢
      repeat' (first | refine st ?_ | refine sb (fun nb_ hnb_=>?_) | refine s2 (fun h=>?_) (fun h=>?_) | fail)
      exact fin _
    ·have q1:decide (i.op<1)=false:=by simpa using p4
     have q2:decide (5<i.op)=true:=by simp;omega
     rcases o with _ | b1<;>rcases t with _ | b2
     all_goals
      dsimp only[dU,ao,List.cons_append,List.nil_append]at fin ⊢
      repeat' (first | refine st ?_ | refine sb (fun nb_ hnb_=>?_) | refine s2 (fun h=>?_) (fun h=>?_) | fail)
      exact fin _
   ·have q1:decide (i.op<1)=false:=by simp;omega
    have q2:decide (5<i.op)=false:=by simp;omega
    by_cases p5:k=c.ins.length
    ·have q3:decide ((k:Int)=(c.ins.length:Int))=true:=by simp[p5]
     have hz:=zero (by rw[p5,Nat.sub_self];exact Dk hin (by rw[hi];exact p3))
     unfold jR jl
     repeat' (first | refine st ?_ | refine sb (fun nb_ hnb_=>?_) | refine s2 (fun h=>?_) (fun h=>?_) | fail)
     exact hz _
    ·have q3:decide ((k:Int)=(c.ins.length:Int))=false:=by simp;omega
     have hex:=Dh e b3 o t ho' ht' he.len he.small he.short i (by omega) (by omega)
     obtain⟨m,hm⟩:∃m,c.ins.length-k=m+1:=⟨c.ins.length-k-1,by omega⟩
     cases hst:bu i e with
     | none=>
      have hz:=zero (Dj hin (by rw[hi];exact p3) (by rw[hi];exact hst))
      rw[hst]at hex
      change am _ _ _ _ (fun v L=>v=AV.bool false)at hex
      unfold jR jl
      repeat' (first | refine st ?_ | ((with_reducible refine aq 11 ?_);(refine xO hex (List.perm_append_comm (l₁:=[(b4,_)]) (l₂:=jR e b3 o t)) ?_;rintro _ K' rfl)) | refine sb (fun nb_ hnb_=>?_) | refine s2 (fun h=>?_) (fun h=>?_) | fail)
      exact hz _
     | some s2=>
      rw[hst]at hex
      change am _ _ _ _ (fun v L=>v=AV.bool true∧L=jR s2 b3 o t)at hex
      have hrun2:dz c.ins (c.ins.length-(k+1)) s2=dz c.ins c.ins.length s:=by
       rw[←hrun,hm,Dl hin (by rw[hi];exact p3) (by rw[hi];exact hst),show c.ins.length-(k+1)=m by omega]
      have hls:=BS hst
      unfold jR jl
      repeat' (first | refine st ?_ | ((with_reducible refine aq 11 ?_);(refine xO hex (List.perm_append_comm (l₁:=[(b4,_)]) (l₂:=jR e b3 o t)) ?_;rintro _ _ ⟨rfl,rfl⟩)) | refine sb (fun nb_ hnb_=>?_) | refine s2 (fun h=>?_) (fun h=>?_) | fail)
      exact⟨k+1,s2,by omega,by omega,⟨he.step hU hst,⟨by omega,by omega⟩,hrun2⟩,uS (by rw[bH (by omega:k<c.ins.length) (by omega)]<;>rfl) rfl⟩
end
end Go.Proofs.Ytljkdffikfkcgaa.Am
end
section
namespace Go.Proofs.Ytljkdffikfkcgaa.Am
set_option maxRecDepth 100000
set_option linter.unusedSimpArgs false
set_option linter.unusedVariables false
set_option linter.unusedSectionVars false
theorem Dm{U:List Int}(hU:U.length≤2^30){ins:List aw}:∀(k:Nat) {s:bK},kj U s→kj U (dz ins k s).1:=by
 have hz:kj U bK.zero:=⟨rfl,by decide,nofun,nofun⟩
 intro k
 induction k with
 | zero=>
  intro s h
  unfold dz
  split
  ·split
   ·exact h
   ·exact hz
  ·exact hz
 | succ k ih=>
  intro s h
  unfold dz
  split
  ·split
   ·exact h
   ·split
    ·exact hz
    ·rename_i s2 he
     exact ih (h.step hU he)
  ·exact hz
theorem zl{U:List Int}(hU:U.length≤2^30){c:lf}{s:bK}(h:kj U s):kj U (cg c s).1:=by
 unfold cg
 split
 ·exact Dm hU _ h
 ·exact⟨rfl,by decide,nofun,nofun⟩
section
variable (c:lf) (s:bK) (U:List Int) (hU:U.length≤2^30) (hr:s.regs.length<2^40) (ht:s.taint.length<2^40) (hsh:∀l∈s.taint,l.length≤2^30) (hsub:∀l∈s.taint,∀x∈l,x∈U) (hc:c.ins.length<2^40)
include hU hr ht hsh hsub hc
theorem xf:aO Try.prog 6 [.agg c.enc,.agg s.enc] (C9 (cg c s)):=by
 refine am.fz (r8 _ _ _ _ ?_)
 unfold jC
 generalize hQ:(fun(v:AV) (L:SH)=>∃v2 L2,aV [v] L [v2] L2∧v2=C9 (cg c s)∧L2=[])=Q
 have hq:∀v L,Fz L v (C9 (cg c s))→Q v L:=fun v L h=>by
  subst hQ;exact⟨_,[],aV.all h,rfl,rfl⟩
 clear hQ
 by_cases p1:(s.regs.length:Int)=c.regs
 ·have d1:decide ((s.regs.length:Int)≠c.regs)=false:=by simpa using p1
  by_cases p2:(s.taint.length:Int)=c.regs
  ·have d2:decide ((s.taint.length:Int)≠c.regs)=false:=by simpa using p2
   have hT:kj U s:=⟨by omega,hr,hsh,hsub⟩
   have e:cg c s=dz c.ins c.ins.length s:=by unfold cg;rw[if_pos ⟨p1,p2⟩]
   rw[e]at hq
   have hcl:=Al s hr ht hsh
   repeat' (first | refine st ?_ | ((with_reducible refine aq 10 ?_);(refine xO (K:=[]) hcl (List.Perm.refl _) ?_;rintro _ _ ⟨o,t,rfl,rfl,ho,ht2⟩)) | refine sb (fun nb_ hnb_=>?_) | refine s2 (fun h=>?_) (fun h=>?_) | fail)
   rename_i b3 _
   rcases o with _ | b1<;>rcases t with _ | b2
   all_goals
    repeat' (first | refine st ?_ | refine sb (fun nb_ hnb_=>?_) | refine s2 (fun h=>?_) (fun h=>?_) | fail)
    exact zk c s U hU hT hc _ _ ho ht2 b3 nb_ Q hq
  ·have d2:decide ((s.taint.length:Int)≠c.regs)=true:=by simpa using p2
   have e:cg c s=(bK.zero,false):=by unfold cg;rw[if_neg (fun h=>p2 h.2)]
   rw[e]at hq
   repeat' (first | refine st ?_ | refine sb (fun nb_ hnb_=>?_) | refine s2 (fun h=>?_) (fun h=>?_) | fail)
   exact hq _ _ (xQ (xP _))
 ·have d1:decide ((s.regs.length:Int)≠c.regs)=true:=by simpa using p1
  have e:cg c s=(bK.zero,false):=by unfold cg;rw[if_neg (fun h=>p1 h.1)]
  rw[e]at hq
  repeat' (first | refine st ?_ | refine sb (fun nb_ hnb_=>?_) | refine s2 (fun h=>?_) (fun h=>?_) | fail)
  exact hq _ _ (xQ (xP _))
end
end Go.Proofs.Ytljkdffikfkcgaa.Am
end
