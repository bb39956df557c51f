/- A part of the proof; the statement is proved in the last part. -/
import Derived.Test.YtelgfgfgghpjgaaGreatDoorQak
import Derived.Test.YtelgfgfgghpjgaaGreatDoorRows
import Derived.WalkKit
import Derived.ProofKit
import Derived.OpenShut
import Derived.Handy
import Derived.Outline
import Derived.Lib.Hide
import Derived.Deep.Slices
import Derived.Deep.Fields
import Derived.ChangeSame
import Derived.Carry
import Derived.Deep.Draws
import Derived.Laws.AppendOwn
import Derived.SizedLaws
import Derived.MakeChecks
import Derived.FnData
set_option linter.unusedSimpArgs false
set_option linter.unusedVariables false
section
namespace Go.Proofs.YtelgfgfgghpjgaaGreatDoor.Am
set_option maxRecDepth 1000000
theorem rZ:ax Tryz.prog 11 [] (.bool true):=.of_ok (co (n:=2000) (d:=50) xv (by kernel_rfl) (by kernel_rfl))
end Go.Proofs.YtelgfgfgghpjgaaGreatDoor.Am
end
section
namespace Go.Proofs.YtelgfgfgghpjgaaGreatDoor.Am
set_option maxRecDepth 100000
set_option maxHeartbeats 1000000
set_option linter.unusedVariables false
def zS:List AV:=[.nils,.int .i64 0,.nils,.nils,.nils,.nils,.nils]
def zT:List AV:=[.nils,.nils,.nils,.nils,.nils,.nils,.nils]
def zE:List AV:=[.int .i64 0,.int .i64 0,.int .i64 0,.int .i64 0,.int .i64 0,.nils,.nils]
section
variable {c:CodD} (hv:ax Tryz.prog 14 [.agg c.enc] (.bool false))
include hv
theorem tE:ax Tryz.prog 5 [.agg c.enc] (.agg zS):=by
 refine al.fz (oI _ _ _ ?_)
 unfold lf
 repeat' (first | refine st ?_ | ((with_reducible refine am 14 ?_);refine ae (hv) ?_) | ((with_reducible refine af 14 ?_);refine ab (hv) ?_) | refine sb (fun nb_ hnb_=>?_) | refine s2 (fun h=>?_) (fun h=>?_) | fail)
 exact⟨_,[],bM.all (.refl _),rfl,rfl⟩
theorem vM(l:List mS):ax Tryz.prog 6 [.agg c.enc,.lst (l.map mS.enc)] (.tup [.agg zT,.agg zS]):=by
 refine al.fz (qB _ _ _ _ ?_)
 unfold nV
 repeat' (first | refine st ?_ | ((with_reducible refine am 14 ?_);refine ae (hv) ?_) | ((with_reducible refine af 14 ?_);refine ab (hv) ?_) | refine sb (fun nb_ hnb_=>?_) | refine s2 (fun h=>?_) (fun h=>?_) | fail)
 exact⟨_,[],bM.all (.refl _),rfl,rfl⟩
theorem pQ(l:List mS):ax Tryz.prog 7 [.agg c.enc,.lst (l.map mS.enc)] (.tup [.agg zT,.agg zS]):=by
 refine al.fz (lG _ _ _ _ ?_)
 unfold hP
 repeat' (first | refine st ?_ | ((with_reducible refine am 14 ?_);refine ae (hv) ?_) | ((with_reducible refine af 14 ?_);refine ab (hv) ?_) | refine sb (fun nb_ hnb_=>?_) | refine s2 (fun h=>?_) (fun h=>?_) | fail)
 exact⟨_,[],bM.all (.refl _),rfl,rfl⟩
theorem ut(t:Int):ax Tryz.prog 8 [.agg c.enc,.agg zS,.agg [.int .i64 t,.int .i64 0]] (.tup [.agg zS,.agg zE,.bool false]):=by
 unfold zS
 refine al.fz (pL _ _ _ _ _ ?_)
 unfold nc
 repeat' (first | refine st ?_ | ((with_reducible refine am 14 ?_);refine ae (hv) ?_) | ((with_reducible refine af 14 ?_);refine ab (hv) ?_) | refine sb (fun nb_ hnb_=>?_) | refine s2 (fun h=>?_) (fun h=>?_) | fail)
 exact⟨_,[],bM.all (.refl _),rfl,rfl⟩
theorem ng(t:Int):ax Tryz.prog 9 [.agg c.enc,.agg zS,.int .i64 t] (.tup [.agg zE,.bool false]):=by
 unfold zS
 refine al.fz (m8 _ _ _ _ _ ?_)
 unfold iY
 repeat' (first | refine st ?_ | ((with_reducible refine am 14 ?_);refine ae (hv) ?_) | ((with_reducible refine af 14 ?_);refine ab (hv) ?_) | refine sb (fun nb_ hnb_=>?_) | refine s2 (fun h=>?_) (fun h=>?_) | fail)
 exact⟨_,[],bM.all (.refl _),rfl,rfl⟩
theorem qD(t:Int):ax Tryz.prog 10 [.agg c.enc,.agg zS,.int .i64 t] (.bool false):=by
 have hp:=ng hv t
 unfold zS zE at hp
 unfold zS
 refine al.fz (na _ _ _ _ _ ?_)
 unfold iZ
 repeat' (first | refine st ?_ | ((with_reducible refine am 9 ?_);refine ae (hp) ?_) | ((with_reducible refine af 9 ?_);refine ab (hp) ?_) | refine sb (fun nb_ hnb_=>?_) | refine s2 (fun h=>?_) (fun h=>?_) | fail)
 exact⟨_,[],bM.all (.refl _),rfl,rfl⟩
end
theorem uu(c:CodD)(hl:∀t∈c.ts,t.ins.length<2^48)(l:List mS)(t:Int):ax Tryz.prog 3 [.agg c.enc,.lst (l.map mS.enc),.int .i64 t] (.bool true):=by
 have hv:=tA c hl
 have hr:=rW c hl
 refine al.fz (iK _ _ _ _ _ ?_)
 unfold dS
 have hq:∀L:SH,∃v2 L2,bM [AV.bool true] L [v2] L2∧v2=AV.bool true∧L2=[]:=fun L=>⟨_,[],bM.all (.refl _),rfl,rfl⟩
 cases hb:cV (qu c)with
 | true=>
  rw[hb]at hv hr
  repeat' (first | refine st ?_ | ((with_reducible refine am 4 ?_);refine ae (hr) ?_) | ((with_reducible refine af 4 ?_);refine ab (hr) ?_) | refine sb (fun nb_ hnb_=>?_) | refine s2 (fun h=>?_) (fun h=>?_) | fail)
  all_goals exact hq _
 | false=>
  rw[hb]at hv hr
  have c1:=tE hv
  have c2:=vM hv l
  have c3:=pQ hv l
  have c4:=ut hv t
  have c5:=ng hv t
  have c6:=qD hv t
  unfold zS at c1 c2 c3 c4 c5 c6
  unfold zT at c2 c3
  unfold zE at c4 c5
  have c7:=rZ
  repeat' (first | refine st ?_ | ((with_reducible refine am 4 ?_);refine ae (hr) ?_) | ((with_reducible refine af 4 ?_);refine ab (hr) ?_) | ((with_reducible refine am 5 ?_);refine ae (c1) ?_) | ((with_reducible refine af 5 ?_);refine ab (c1) ?_) | ((with_reducible refine am 6 ?_);refine ae (c2) ?_) | ((with_reducible refine af 6 ?_);refine ab (c2) ?_) | ((with_reducible refine am 7 ?_);refine ae (c3) ?_) | ((with_reducible refine af 7 ?_);refine ab (c3) ?_) | ((with_reducible refine am 8 ?_);refine ae (c4) ?_) | ((with_reducible refine af 8 ?_);refine ab (c4) ?_) | ((with_reducible refine am 9 ?_);refine ae (c5) ?_) | ((with_reducible refine af 9 ?_);refine ab (c5) ?_) | ((with_reducible refine am 10 ?_);refine ae (c6) ?_) | ((with_reducible refine af 10 ?_);refine ab (c6) ?_) | ((with_reducible refine am 11 ?_);refine ae (c7) ?_) | ((with_reducible refine af 11 ?_);refine ab (c7) ?_) | refine sb (fun nb_ hnb_=>?_) | refine s2 (fun h=>?_) (fun h=>?_) | fail)
  all_goals exact hq _
end Go.Proofs.YtelgfgfgghpjgaaGreatDoor.Am
end
section
namespace Go.Proofs.YtelgfgfgghpjgaaGreatDoor
open Go.ChangeShapes Go.WideShapes Go.ChangeAt Go.RowKit
abbrev Rel(α:Type):=World→(Nat→Prop)→α→List Value→Prop
def rInt(k:IntKind):Rel Int:=fun _ _ n cs=>cs=[.int k n]∧(Lit.int k n).wf=true
def rBool:Rel Bool:=fun _ _ b cs=>cs=[.bool b]
def rStr:Rel ByteArray:=fun _ _ s cs=>cs=[.string s]∧s.size≤maxLen
def rSlice{α:Type}(size:Nat)(R:Rel α):Rel (List α):=fun w F l cs=>
 ∃A c,cs=[.slice A l.length c]∧l.length≤c∧c≤maxLen∧
  (0<l.length→∃b o,A=some ⟨b,o,none⟩∧F b∧
   ∀i x,l[i]? =some x→∃cs',cs'.length=size∧R w F x cs'∧∀j u,cs'[j]? =some u→w.cell? ⟨b,o+i*size+j,none⟩=some u)
def Rel.Stays{α:Type}(R:Rel α):Prop:=∀(w w':World) (F F':Nat→Prop) (x:α) (cs:List Value),
 (∀b,F b→b<w.heap.size→w'.heap[b]? =w.heap[b]?)→(∀b,F b→b<w.heap.size→F' b)→R w F x cs→R w' F' x cs
theorem lt_of_cell{w:World}{b o:Nat}{u:Value}(h:w.cell? ⟨b,o,none⟩=some u):b<w.heap.size:=by
 rcases Nat.lt_or_ge b w.heap.size with hlt | hge
 ·exact hlt
 ·simp[World.cell?,Array.getElem?_eq_none hge]at h
theorem cell_kept{w w':World}{b o:Nat}{u:Value}(hk:b<w.heap.size→w'.heap[b]? =w.heap[b]?)(h:w.cell? ⟨b,o,none⟩=some u):w'.cell? ⟨b,o,none⟩=some u:=
 (World.cell?_of_block (w:=w) (w':=w') (a:=⟨b,o,none⟩) (hk (lt_of_cell h))).trans h
theorem rSlice_stays{α:Type}{size:Nat}{R:Rel α}(hs:0<size)(hR:R.Stays):(rSlice size R).Stays:=by
 intro w w' F F' l cs hk hF ⟨A,c,h1,h2,h3,h4⟩
 refine⟨A,c,h1,h2,h3,fun hn=>?_⟩
 obtain⟨b,o,hA,hFb,hc⟩:=h4 hn
 have hb:b<w.heap.size:=by
  obtain⟨cs',hl,_,hcell⟩:=hc 0 l[0] (List.getElem?_eq_getElem hn)
  exact lt_of_cell (hcell 0 cs'[0] (List.getElem?_eq_getElem (by omega)))
 refine⟨b,o,hA,hF b hFb hb,fun i x hx=>?_⟩
 obtain⟨cs',hl,hr,hcell⟩:=hc i x hx
 exact⟨cs',hl,hR w w' F F' x cs' hk hF hr,fun j u hu=>cell_kept (hk b hFb) (hcell j u hu)⟩
def Sl{α:Type}(size:Nat)(R:Rel α)(w:World)(F:Nat→Prop)(v:Value)(l:List α):Prop:=rSlice size R w F l [v]
section
variable {α:Type} {size:Nat} {R:Rel α} {w w':World} {F F':Nat→Prop} {v:Value} {l:List α}
theorem Sl.form(h:Sl size R w F v l):∃A c,v=.slice A l.length c∧l.length≤c∧c≤maxLen:=by
 obtain⟨A,c,h1,h2,h3,_⟩:=h
 exact⟨A,c,by simpa using h1,h2,h3⟩
theorem Sl.stays(hs:0<size)(hR:R.Stays)(h:Sl size R w F v l)(hk:∀b,F b→b<w.heap.size→w'.heap[b]? =w.heap[b]?)(hF:∀b,F b→b<w.heap.size→F' b):Sl size R w' F' v l:=
 rSlice_stays hs hR w w' F F' l [v] hk hF h
theorem Sl.below{B:Nat}(hs:0<size)(hR:R.Stays)(h:Sl size R w (·<B) v l)(hb:Below B w w'):Sl size R w' (·<B) v l:=
 h.stays hs hR (fun b hb' _=>hb.block b hb') (fun _ h _=>h)
theorem Sl.nil:Sl size R w F (.slice none 0 0) ([]:List α):=⟨none,0,rfl,by simp,by simp[maxLen],fun h=>absurd h (by simp)⟩
theorem Sl.len{A:Option Addr}{n c:Nat}(h:Sl size R w F (.slice A n c) l):n=l.length∧n≤c∧c≤maxLen:=by
 obtain⟨A',c',h1,h2,h3⟩:=h.form
 injection h1 with e1 e2 e3
 subst e2 e3
 exact⟨rfl,h2,h3⟩
end
section
variable {a w:World} {row:Option Nat}
end
def Blk(w:World)(g:Nat)(t:TypeId)(cs:List Value):Prop:=w.heap[g]? =some (.cells cs.toArray t (0,0))
section
variable {w w':World} {g:Nat} {t:TypeId} {cs:List Value}
theorem Blk.lt(h:Blk w g t cs):g<w.heap.size:=by
 rcases Nat.lt_or_ge g w.heap.size with hlt | hge
 ·exact hlt
 ·unfold Blk at h;rw[Array.getElem?_eq_none hge]at h;cases h
theorem Blk.free(h:Blk w g t cs)(i:Nat):w.frozen? ⟨g,i,none⟩=false:=by
 unfold Blk at h
 simp[World.frozen?,h]
theorem Blk.new(w:World)(t:TypeId)(cs:List Value){g:Nat}(hg:w.heap.size=g):Blk (w.alloc (.cells cs.toArray t)) g t cs:=by
 subst hg
 exact heap_alloc_new w _
theorem Blk.alloc(h:Blk w g t cs)(o:Obj):Blk (w.alloc o) g t cs:=(Below.heap_alloc w o g h.lt).trans h
theorem Blk.below{B:Nat}(h:Blk w g t cs)(hb:Below B w w')(hg:g<B):Blk w' g t cs:=(hb.block g hg).trans h
theorem Blk.keep(h:Blk w g t cs)(hb:Below w.heap.size w w'):Blk w' g t cs:=h.below hb h.lt
theorem Blk.only{g':Nat}(h:Blk w g t cs)(hb:w.grownBy w' (some g'))(hg:g≠g'):Blk w' g t cs:=(hb.block g h.lt (fun e=>hg (by injection e))).trans h
end
section
variable {H:Type} {enc:TypeId×Value→H} {P:Program} {w:World} {base:Nat} {spare:Nat→Bool} {held:Bool}
def Opens(H:Type)(enc:TypeId×Value→H)(P:Program)(w:World)(base:Nat)(spare:Nat→Bool)(held:Bool){α:Type}(t:TypeId)(R:Rel α):Prop:=
 ∀(fuel:Nat) (cs:List Value) (x:DataW H×List MemPlace),DataW.trod enc P w base spare held fuel t cs=some x→∃d,R w (·<w.heap.size) d cs
theorem opens_int{t:TypeId}{k:IntKind}(ht:P.underlying t=some (.int k)):Opens H enc P w base spare held t (rInt k):=fun _ _ _ h=>by
 obtain⟨n,h1,_,h3⟩:=DataW.trod_int ht h
 exact⟨n,h1,h3⟩
theorem opens_bool{t:TypeId}(ht:P.underlying t=some .bool):Opens H enc P w base spare held t rBool:=fun _ _ _ h=>by
 obtain⟨n,h1,_⟩:=DataW.trod_bool ht h
 exact⟨n,h1⟩
theorem opens_str{t:TypeId}(ht:P.underlying t=some .string):Opens H enc P w base spare held t rStr:=fun _ _ _ h=>by
 obtain⟨n,h1,_,h3⟩:=DataW.trod_string ht h
 exact⟨n,h1,h3⟩
theorem opens_slice{α:Type}{t e:TypeId}{size:Nat}{R:Rel α}(ht:P.underlying t=some (.slice e))(hc:P.cellsOf e=size)(hs:0<size)(he:Opens H enc P w base spare held e R):
  Opens H enc P w base spare held t (rSlice size R):=fun fuel cs x h=>by
 rcases Deep.open_slice ht h with⟨rfl,_⟩ | ⟨a,len,cap,m,n,D,Pl,rfl,hb,hl,hm,hmm,hx,hi⟩
 ·exact⟨[],Sl.nil⟩
 rw[hc]at hi
 have hlm:len≤m:=by rw[hmm];split<;>omega
 have hall:∀i,i<len→∃d cs',R w (·<w.heap.size) d cs'∧cs'.length=size∧∀j u,cs'[j]? =some u→w.cell? (a.add (i*size+j))=some u:=by
  intro i hil
  obtain⟨cs',h1,h2⟩:=hi i (by omega)
  obtain⟨d,hd⟩:=he _ _ _ h2
  obtain⟨_,hcl,hat⟩:=World.cells?_some h1
  refine⟨d,cs',hd,hcl,fun j u hu=>?_⟩
  have hj:j<size:=by rw[←hcl];exact(List.getElem?_eq_some_iff.1 hu).1
  rw[←Deep.add_add,hat j hj,hu]
 have:∃l:List α,l.length=len∧∀i x,l[i]? =some x→∃cs',R w (·<w.heap.size) x cs'∧cs'.length=size∧∀j u,cs'[j]? =some u→w.cell? (a.add (i*size+j))=some u:=by
  clear hx hmm hlm hi hl h
  induction len with
  | zero=>exact⟨[],rfl,fun i x h=>by simp at h⟩
  | succ k ih=>
   obtain⟨l,hl,hl2⟩:=ih (fun i hi=>hall i (by omega))
   obtain⟨d,cs',h1,h2⟩:=hall k (by omega)
   refine⟨l++[d],by simp[hl],fun i x hx=>?_⟩
   rcases Nat.lt_or_ge i l.length with h | h
   ·rw[List.getElem?_append_left h]at hx
    exact hl2 i x hx
   ·rw[List.getElem?_append_right h]at hx
    have hi0:i-l.length=0:=by
     rcases Nat.eq_zero_or_pos (i-l.length)with h0 | h0
     ·exact h0
     ·rw[List.getElem?_eq_none (by simp only[List.length_singleton];omega)]at hx
      cases hx
    rw[hi0]at hx
    simp at hx
    subst hx
    obtain rfl:i=k:=by omega
    exact⟨cs',h1,h2⟩
 obtain⟨l,hll,hel⟩:=this
 subst hll
 refine⟨l,some a,cap,rfl,hl,hm,fun hn=>?_⟩
 have hsp:a=⟨a.block,a.off,none⟩:=by
  obtain⟨cs',_,h2,h3⟩:=hel 0 l[0] (List.getElem?_eq_getElem hn)
  have hc0:=h3 0 cs'[0] (List.getElem?_eq_getElem (by omega))
  rw[show 0*size+0=0 from by omega,Addr.add_zero']at hc0
  unfold World.cell? at hc0
  cases hsp:a.spot with
  | none=>cases a;simp_all
  | some s=>split at hc0<;>simp[hsp]at hc0
 have hblk:a.block<w.heap.size:=by
  obtain⟨cs',_,h2,h3⟩:=hel 0 l[0] (List.getElem?_eq_getElem hn)
  have hc0:=h3 0 cs'[0] (List.getElem?_eq_getElem (by omega))
  rw[show 0*size+0=0 from by omega,Addr.add_zero',hsp]at hc0
  exact lt_of_cell hc0
 refine⟨a.block,a.off,by rw[←hsp],hblk,fun i x hx=>?_⟩
 obtain⟨cs',h1,h2,h3⟩:=hel i x hx
 refine⟨cs',h2,h1,fun j u hu=>?_⟩
 have:=h3 j u hu
 rw[hsp,Addr.add_lit]at this
 rw[Nat.add_assoc]
 exact this
theorem opens_fields{t:TypeId}{fs:Array Field}{fuel:Nat}{cs:List Value}{x:DataW H×List MemPlace}(ht:P.underlying t=some (.struct fs))
  (h:DataW.trod enc P w base spare held fuel t cs=some x):cs.length=P.cellsOf t∧∀(i:Nat) (ty off n:Nat) (cs':List Value),(fs[i]?).map (fun f=>(f.type,f.offset))=some (ty,off)→P.cellsOf ty=n→(cs.drop off).take n=cs'→
   ∃m y,DataW.trod enc P w base spare held m ty cs'=some y:=by
 obtain⟨xs,n,_,_,hl,hxl,hf⟩:=DataW.trod_struct ht h
 refine⟨hl,fun i ty off k cs' hi hk hcs=>?_⟩
 cases hfi:fs[i]? with
 | none=>rw[hfi]at hi;cases hi
 | some f=>
  rw[hfi]at hi
  simp only[Option.map_some,Option.some.injEq,Prod.mk.injEq]at hi
  obtain⟨rfl,rfl⟩:=hi
  refine⟨n,xs[i]'(by have:=(Array.getElem?_eq_some_iff.1 hfi).1;omega),?_⟩
  have:=hf i f hfi
  rw[hk,hcs]at this
  rw[this]
  exact List.getElem?_eq_getElem _
end
section
variable {H:Type} {enc:TypeId×Value→H} {P:Program}
theorem trodAll_below(hl:laidOutB P=true){W W':World}(hb:Below W.heap.size W W'){sp:Nat→Bool}:∀(ts:List TypeId) (vs:List Value) (ds:List (DataW H)) (ps:List MemPlace),
  (∀t∈ts,P.readableRec t=true∧t<P.types.size)→DataW.TrodAll enc P W 0 (fun _=>true) true ts vs ds ps→(∀x∈ps,x.block<W.heap.size)→(∀x∈ps,sp x.block=true)→DataW.TrodAll enc P W' 0 sp true ts vs ds ps
 | [],vs,ds,ps,_,h,_,_=>by
  obtain⟨rfl,rfl,rfl⟩:=trodAll_nil h
  exact trodAll_mk0
 | t::ts,vs,ds,ps,hr,h,hlt,hsp=>by
  obtain⟨v,vs',d,ds',p,q,rfl,rfl,rfl,h0,h1⟩:=trodAll_cons h
  refine trodAll_cons_mk ?_ (trodAll_below hl hb ts vs' ds' q (fun t ht=>hr t (List.mem_cons_of_mem _ ht)) h1 (fun x hx=>hlt x (List.mem_append_right _ hx)) (fun x hx=>hsp x (List.mem_append_right _ hx)))
  exact WideElems.Trod_stays hl (hr t List.mem_cons_self).1 (hr t List.mem_cons_self).2 h0 (fun x hx=>hb.same (hlt x (List.mem_append_left _ hx))) (fun x hx=>hsp x (List.mem_append_left _ hx))
theorem law_post{f:Func}{s:ChangeSpec}{apart fresh handsOn again:Bool}{W W':World}{args:Array Value}{ds gs:List (DataW H)}{before:List MemPlace}{tb:TypeId}
  (hl:laidOutB P=true) (hr:∀t∈f.params.toList,P.readableRec t=true∧t<P.types.size) (hvars:s.vars=[]) (hrt:f.resultTypes=#[tb]) (htb:P.underlying tb=some .bool)
  (hW:DataW.Whole enc P f.params.toList s.vars apart W args.toList ds gs before)
  (hsr:(s.fn H (ds++gs)).results=[.lit (.bool true)]) (hsa:(s.fn H (ds++gs)).args=ds) (hsv:(s.fn H (ds++gs)).vars=[]) (hb:Below W.heap.size W W') :
  s.post enc P f apart fresh handsOn again W args (.bool true) W':=by
 have hlt:∀p∈before,p.block<W.heap.size:=fun p hp=>hW.lt p hp
 have hold:∀p∈before,(fun b=>decide (b<W.heap.size)) p.block=true:=fun p hp=>by simpa using hlt p hp
 obtain⟨pa,pv,hA,hV,rfl,hz,hn⟩:=hW
 have hW:DataW.Whole enc P f.params.toList s.vars apart W args.toList ds gs (pa++pv):=⟨pa,pv,hA,hV,rfl,hz,hn⟩
 rw[hvars]at hV
 obtain⟨rfl,rfl⟩:=trodVars_none hV
 have hargs:∀sp:Nat→Bool,(∀p∈pa,sp p.block=true)→DataW.TrodAll enc P W' 0 sp true f.params.toList args.toList (s.fn H (ds++[])).args pa:=fun sp hsp=>by
  rw[hsa]
  exact trodAll_below hl hb _ _ _ _ hr hA (fun x hx=>hlt x (by simpa using hx)) hsp
 have hres:∀(b:Nat) (sp:Nat→Bool) (hd:Bool),DataW.TrodAll enc P W' b sp hd f.resultTypes.toList ((Value.bool true).resultList f.resultTypes.size) (s.fn H (ds++[])).results []:=fun b sp hd=>by
  rw[hsr,hrt]
  exact trodAll_cons_mk (shut_bool htb _) trodAll_mk0
 have hvs:∀sp:Nat→Bool,DataW.TrodVars enc P W' sp s.vars (s.fn H (ds++[])).vars []:=fun sp=>by
  rw[hvars,hsv];rfl
 refine⟨ds,[],pa++[],[],pa,[],hW,hres _ _ _,hargs _ (fun p hp=>hold p (by simpa using hp)),hvs _,World.keptBut_mono (fun p hp=>⟨hp,?_⟩) (hb.frame (·∈pa++[])),fun _=>?_⟩
 ·rw[List.mem_append]at hp
  exact Or.inr hp
 ·refine⟨?_,_,_,([]++pa)++[],⟨[]++pa,[],trodAll_append (hargs _ (fun _ _=>rfl)) (hres _ _ _),hvs _,rfl,?_,?_⟩,?_⟩
  ·intro j t r hj hr'
   rw[hrt]at hj hr'
   match j with
   | 0=>
    simp at hj
    subst hj
    have:r=.bool true:=by simpa[Value.resultList]using hr'.symm
    subst this
    exact okWide_bool_mk htb _
   | j+1=>simp at hj
  ·intro b off hp
   have hin:MemPlace.cell b off∈pa++[]:=by simpa using hp
   rw[hb.frozen (hlt _ hin)]
   exact hz b off hin
  ·intro ha
   have:=hn ha
   simpa using this
  ·intro p hp _
   simpa using hp
end
end Go.Proofs.YtelgfgfgghpjgaaGreatDoor
end
section
namespace Go.Proofs.YtelgfgfgghpjgaaGreatDoor.Am
open Go.ChangeShapes Go.WideShapes Go.ChangeAt Go.RowKit
set_option linter.unusedVariables false
def nh:aC:=⟨fun _=>none,fun _=>False⟩
def nk:Nat→Prop:=fun _=>False
def rl{α:Type}(e:α→List AV)(G:α→Prop):Rel α:=fun w _ x cs=>G x∧bk w nh nk (e x) cs
theorem dT{w:World}{σ:aC}{T:Nat→Prop}{a:AV}{v:Value}(h:aw w σ T a v):bk w σ T [a] [v]:=⟨rfl,fun i x u h1 h2=>by
 match i with
 | 0=>cases h1;cases h2;exact h
 | i+1=>simp at h1⟩
theorem ar{w:World}{σ:aC}{T:Nat→Prop}{a:AV}{v:Value}{l:List AV}{m:List Value}(h:bk w σ T [a] [v])(hl:bk w σ T l m):bk w σ T (a::l) (v::m):=⟨by simp[hl.1],fun i x u h1 h2=>by
 match i with
 | 0=>exact h.2 0 x u h1 h2
 | i+1=>exact hl.2 i x u (by simpa using h1) (by simpa using h2)⟩
theorem cE{w:World}{σ:aC}{T:Nat→Prop}:bk w σ T [] []:=⟨rfl,fun i x u h1 h2=>by simp at h1⟩
section
variable {H:Type} {enc:TypeId×Value→H} {P:Program} {w:World} {base:Nat} {spare:Nat→Bool} {held:Bool}
theorem ce{t:TypeId}{k:IntKind}(ht:P.underlying t=some (.int k)):Opens H enc P w base spare held t (rl (fun n:Int=>[.int k n]) fun n=>(Lit.int k n).wf=true):=fun fuel cs x h=>by
 obtain⟨n,rfl,hn⟩:=opens_int ht fuel cs x h
 exact⟨n,hn,dT (.int k n)⟩
theorem rn{t:TypeId}(ht:P.underlying t=some .bool):Opens H enc P w base spare held t (rl (fun b:Bool=>[.bool b]) fun _=>True):=fun fuel cs x h=>by
 obtain⟨n,rfl⟩:=opens_bool ht fuel cs x h
 exact⟨n,trivial,dT (.bool n)⟩
theorem nl{t:TypeId}(ht:P.underlying t=some .string):Opens H enc P w base spare held t (rl (fun s:br=>[.str s]) fun _=>True):=fun fuel cs x h=>by
 obtain⟨s,rfl,_⟩:=opens_str ht fuel cs x h
 exact⟨s.data.toList,trivial,dT (.str s)⟩
theorem cF{α:Type}{t e:TypeId}{size:Nat}{f:α→List AV}{G:α→Prop}(ht:P.underlying t=some (.slice e))(hc:P.cellsOf e=size)(hs:0<size)(he:Opens H enc P w base spare held e (rl f G)):
  Opens H enc P w base spare held t (rl (fun l:List α=>[.lst (l.map f)]) fun l=>l.length≤maxLen∧∀x∈l,G x):=fun fuel cs x h=>by
 obtain⟨l,A,c,rfl,h1,h2,h3⟩:=opens_slice ht hc hs he fuel cs x h
 refine⟨l,⟨by omega,fun x hx=>?_⟩,dT ?_⟩
 ·obtain⟨i,hi,rfl⟩:=List.getElem_of_mem hx
  obtain⟨b,o,_,_,hall⟩:=h3 (by omega)
  obtain⟨cs',_,hR,_⟩:=hall i l[i] (List.getElem?_eq_getElem hi)
  exact hR.1
 ·rcases Nat.eq_zero_or_pos l.length with h0 | h0
  ·have:l=[]:=List.length_eq_zero_iff.1 h0
   subst this
   exact .lst0 A c h2
  ·obtain⟨b,o,rfl,hb,hall⟩:=h3 h0
   have:=aw.lst (w:=w) (σ:=nh) (T:=nk) (l.map f) b o size c ⟨fun h=>h,fun i r hr=>?_,fun i j hi hj=>?_,hs,by simpa using h0⟩ (by simpa using h1) h2 (fun i r j a u hr ha hu=>?_)
   ·simpa using this
   ·rw[List.getElem?_map]at hr
    cases hx:l[i]? with
    | none=>rw[hx]at hr;cases hr
    | some y=>
     rw[hx]at hr;cases hr
     obtain⟨cs',k1,k2,_⟩:=hall i y hx
     rw[k2.2.1,k1]
   ·have hi':i<l.length:=by simpa using hi
    obtain⟨cs',k1,k2,k3⟩:=hall i l[i] (List.getElem?_eq_getElem hi')
    exact⟨cs'[j],k3 j _ (List.getElem?_eq_getElem (by omega))⟩
   ·rw[List.getElem?_map]at hr
    cases hx:l[i]? with
    | none=>rw[hx]at hr;cases hr
    | some y=>
     rw[hx]at hr;cases hr
     obtain⟨cs',k1,k2,k3⟩:=hall i y hx
     have hj:j<cs'.length:=by rw[←k2.2.1];exact ah ha
     have hu':=k3 j _ (List.getElem?_eq_getElem hj)
     rw[hu]at hu'
     cases hu'
     exact k2.2.2 j a _ ha (List.getElem?_eq_getElem hj)
theorem dd{t:TypeId}{fs:Array Field}(tys:List TypeId){fuel:Nat}{cs:List Value}{x:DataW H×List MemPlace}(ht:P.underlying t=some (.struct fs))(h:DataW.trod enc P w base spare held fuel t cs=some x)
  (hf:fs.toList.map (fun f=>(f.type,f.offset))=tys.zipIdx) (hc:tys.all (fun ty=>P.cellsOf ty==1)=true) (hn:P.cellsOf t=tys.length) :
  cs.length=tys.length∧∀(i:Nat) (ty:TypeId),tys[i]? =some ty→∃c m y,cs[i]? =some c∧DataW.trod enc P w base spare held m ty [c]=some y:=by
 obtain⟨hl,hall⟩:=opens_fields ht h
 rw[hn]at hl
 refine⟨hl,fun i ty hi=>?_⟩
 have hlt:=ah hi
 have hci:i<cs.length:=by omega
 obtain⟨m,y,hy⟩:=hall i ty i 1 [cs[i]] (by
  have:=congrArg (fun l=>l[i]?) hf
  simp only[List.getElem?_map,List.getElem?_zipIdx,hi,Array.getElem?_toList]at this
  simpa using this) (by rw[List.all_eq_true]at hc;simpa using hc ty (List.mem_of_getElem? hi)) (by rw[List.drop_eq_getElem_cons hci];rfl)
 exact⟨cs[i],m,y,List.getElem?_eq_getElem hci,hy⟩
end
theorem r6{P:Program}{f:FuncId}{args:List AV}{vs:List Value}(h:ax P f args (.bool true))(w:World)(hv:bk w nh nk args vs)(hG:de w nk:=by exact fun g r h=>by cases h):Calls P f vs.toArray w fun e w'=>e=.returned (.bool true)∧Below w.heap.size w w':=by
 obtain⟨v,H',L',h1,h2,rfl,rfl⟩:=h.2 aa.empty (fun b _=>bb b) ⟨List.nodup_nil,fun p hp=>by simp at hp⟩
 have hown:aq nh aa.empty=nk:=by
  funext c
  apply propext
  constructor
  ·rintro(h | ⟨b,x,pl,h4,_,_⟩)
   ·exact h
   ·rw[bb]at h4;cases h4
  ·exact fun h=>h.elim
 have hW:ay w nh aa.empty:=⟨fun b pl hb=>(by cases hb),fun b pl hb=>(by cases hb),fun b x hb=>(by rw[bb]at hb;cases hb),fun c hc=>hc.elim,fun b b' x x' pl pl' hb=>(by rw[bb]at hb;cases hb),by rw[hown];exact hG⟩
 refine(h1 w nh vs hW (by rw[hown];exact hv)).mono ?_
 rintro e w' ⟨v',σ',rfl,k1,k2,k3,_⟩
 cases k1
 rw[hown]at k3
 exact⟨rfl,k3.os,k3.tape,k3.output,k3.size,fun k hk=>k3.keep k hk fun h=>h⟩
end Go.Proofs.YtelgfgfgghpjgaaGreatDoor.Am
end
section
namespace Go.Proofs.YtelgfgfgghpjgaaGreatDoor.Am
open Go.ChangeShapes Go.WideShapes Go.ChangeAt Go.RowKit
set_option linter.unusedVariables false
set_option maxRecDepth 100000
section
variable {H:Type} {enc:TypeId×Value→H} {w:World} {base:Nat} {spare:Nat→Bool} {held:Bool}
theorem nn:Tryz.prog.underlying 9=some .string:=by kernel_rfl
theorem ro:Tryz.prog.underlying 4=some .bool:=by kernel_rfl
theorem cG:Tryz.prog.underlying 3=some (.int .i64):=by kernel_rfl
theorem pR:Tryz.prog.underlying 2=some (.int .i64):=by kernel_rfl
theorem uv:Opens H enc Tryz.prog w base spare held 79 (rl bK.enc fun _=>True):=fun fuel cs x h=>by
 obtain⟨hl,hall⟩:=dd [9,4] Tryz.underlying79 h rfl (by kernel_rfl) (by kernel_rfl)
 obtain⟨c0,m0,y0,e0,k0⟩:=hall 0 _ rfl
 obtain⟨d0,_,r0⟩:=nl nn _ _ _ k0
 obtain⟨c1,m1,y1,e1,k1⟩:=hall 1 _ rfl
 obtain⟨d1,_,r1⟩:=rn ro _ _ _ k1
 have hcs:cs=[c0,c1]:=by
  match cs,hl with
  | [a0,a1],_=>simp only[List.getElem?_cons_zero,List.getElem?_cons_succ,Option.some.injEq]at e0 e1;rw[e0,e1]
 subst hcs
 exact⟨⟨d0,d1⟩,trivial,(ar r0 (ar r1 cE))⟩
theorem uw:Opens H enc Tryz.prog w base spare held 77 (rl eK.enc fun _=>True):=fun fuel cs x h=>by
 obtain⟨hl,hall⟩:=dd [9,3] Tryz.underlying77 h rfl (by kernel_rfl) (by kernel_rfl)
 obtain⟨c0,m0,y0,e0,k0⟩:=hall 0 _ rfl
 obtain⟨d0,_,r0⟩:=nl nn _ _ _ k0
 obtain⟨c1,m1,y1,e1,k1⟩:=hall 1 _ rfl
 obtain⟨d1,_,r1⟩:=ce cG _ _ _ k1
 have hcs:cs=[c0,c1]:=by
  match cs,hl with
  | [a0,a1],_=>simp only[List.getElem?_cons_zero,List.getElem?_cons_succ,Option.some.injEq]at e0 e1;rw[e0,e1]
 subst hcs
 exact⟨⟨d0,d1⟩,trivial,(ar r0 (ar r1 cE))⟩
theorem ux:Opens H enc Tryz.prog w base spare held 90 (rl aJ.enc fun _=>True):=fun fuel cs x h=>by
 obtain⟨hl,hall⟩:=dd [9,3,3,4,2] Tryz.underlying90 h rfl (by kernel_rfl) (by kernel_rfl)
 obtain⟨c0,m0,y0,e0,k0⟩:=hall 0 _ rfl
 obtain⟨d0,_,r0⟩:=nl nn _ _ _ k0
 obtain⟨c1,m1,y1,e1,k1⟩:=hall 1 _ rfl
 obtain⟨d1,_,r1⟩:=ce cG _ _ _ k1
 obtain⟨c2,m2,y2,e2,k2⟩:=hall 2 _ rfl
 obtain⟨d2,_,r2⟩:=ce cG _ _ _ k2
 obtain⟨c3,m3,y3,e3,k3⟩:=hall 3 _ rfl
 obtain⟨d3,_,r3⟩:=rn ro _ _ _ k3
 obtain⟨c4,m4,y4,e4,k4⟩:=hall 4 _ rfl
 obtain⟨d4,_,r4⟩:=ce pR _ _ _ k4
 have hcs:cs=[c0,c1,c2,c3,c4]:=by
  match cs,hl with
  | [a0,a1,a2,a3,a4],_=>simp only[List.getElem?_cons_zero,List.getElem?_cons_succ,Option.some.injEq]at e0 e1 e2 e3 e4;rw[e0,e1,e2,e3,e4]
 subst hcs
 exact⟨⟨d0,d1,d2,d3,d4⟩,trivial,(ar r0 (ar r1 (ar r2 (ar r3 (ar r4 cE)))))⟩
theorem uy:Opens H enc Tryz.prog w base spare held 81 (rl d6.enc fun _=>True):=fun fuel cs x h=>by
 obtain⟨hl,hall⟩:=dd [3,3,3] Tryz.underlying81 h rfl (by kernel_rfl) (by kernel_rfl)
 obtain⟨c0,m0,y0,e0,k0⟩:=hall 0 _ rfl
 obtain⟨d0,_,r0⟩:=ce cG _ _ _ k0
 obtain⟨c1,m1,y1,e1,k1⟩:=hall 1 _ rfl
 obtain⟨d1,_,r1⟩:=ce cG _ _ _ k1
 obtain⟨c2,m2,y2,e2,k2⟩:=hall 2 _ rfl
 obtain⟨d2,_,r2⟩:=ce cG _ _ _ k2
 have hcs:cs=[c0,c1,c2]:=by
  match cs,hl with
  | [a0,a1,a2],_=>simp only[List.getElem?_cons_zero,List.getElem?_cons_succ,Option.some.injEq]at e0 e1 e2;rw[e0,e1,e2]
 subst hcs
 exact⟨⟨d0,d1,d2⟩,trivial,(ar r0 (ar r1 (ar r2 cE)))⟩
theorem r7:Opens H enc Tryz.prog w base spare held 55 (rl mS.enc fun _=>True):=fun fuel cs x h=>by
 obtain⟨hl,hall⟩:=dd [3,3] Tryz.underlying55 h rfl (by kernel_rfl) (by kernel_rfl)
 obtain⟨c0,m0,y0,e0,k0⟩:=hall 0 _ rfl
 obtain⟨d0,_,r0⟩:=ce cG _ _ _ k0
 obtain⟨c1,m1,y1,e1,k1⟩:=hall 1 _ rfl
 obtain⟨d1,_,r1⟩:=ce cG _ _ _ k1
 have hcs:cs=[c0,c1]:=by
  match cs,hl with
  | [a0,a1],_=>simp only[List.getElem?_cons_zero,List.getElem?_cons_succ,Option.some.injEq]at e0 e1;rw[e0,e1]
 subst hcs
 exact⟨⟨d0,d1⟩,trivial,(ar r0 (ar r1 cE))⟩
theorem tF:Opens H enc Tryz.prog w base spare held 83 (rl bu.enc fun _=>True):=fun fuel cs x h=>by
 obtain⟨hl,hall⟩:=dd [3,3,3,3,2,3] Tryz.underlying83 h rfl (by kernel_rfl) (by kernel_rfl)
 obtain⟨c0,m0,y0,e0,k0⟩:=hall 0 _ rfl
 obtain⟨d0,_,r0⟩:=ce cG _ _ _ k0
 obtain⟨c1,m1,y1,e1,k1⟩:=hall 1 _ rfl
 obtain⟨d1,_,r1⟩:=ce cG _ _ _ k1
 obtain⟨c2,m2,y2,e2,k2⟩:=hall 2 _ rfl
 obtain⟨d2,_,r2⟩:=ce cG _ _ _ k2
 obtain⟨c3,m3,y3,e3,k3⟩:=hall 3 _ rfl
 obtain⟨d3,_,r3⟩:=ce cG _ _ _ k3
 obtain⟨c4,m4,y4,e4,k4⟩:=hall 4 _ rfl
 obtain⟨d4,_,r4⟩:=ce pR _ _ _ k4
 obtain⟨c5,m5,y5,e5,k5⟩:=hall 5 _ rfl
 obtain⟨d5,_,r5⟩:=ce cG _ _ _ k5
 have hcs:cs=[c0,c1,c2,c3,c4,c5]:=by
  match cs,hl with
  | [a0,a1,a2,a3,a4,a5],_=>simp only[List.getElem?_cons_zero,List.getElem?_cons_succ,Option.some.injEq]at e0 e1 e2 e3 e4 e5;rw[e0,e1,e2,e3,e4,e5]
 subst hcs
 exact⟨⟨d0,d1,d2,d3,d4,d5⟩,trivial,(ar r0 (ar r1 (ar r2 (ar r3 (ar r4 (ar r5 cE))))))⟩
theorem tG:Opens H enc Tryz.prog w base spare held 28 (rl cj.enc fun _=>True):=fun fuel cs x h=>by
 obtain⟨hl,hall⟩:=dd [22,23,24,25,25,26] Tryz.underlying28 h rfl (by kernel_rfl) (by kernel_rfl)
 obtain⟨c0,m0,y0,e0,k0⟩:=hall 0 _ rfl
 obtain⟨d0,_,r0⟩:=cF Tryz.underlying22 (show Tryz.prog.cellsOf 90=5 by kernel_rfl) (by decide) ux _ _ _ k0
 obtain⟨c1,m1,y1,e1,k1⟩:=hall 1 _ rfl
 obtain⟨d1,_,r1⟩:=cF Tryz.underlying23 (show Tryz.prog.cellsOf 79=2 by kernel_rfl) (by decide) uv _ _ _ k1
 obtain⟨c2,m2,y2,e2,k2⟩:=hall 2 _ rfl
 obtain⟨d2,_,r2⟩:=cF Tryz.underlying24 (show Tryz.prog.cellsOf 77=2 by kernel_rfl) (by decide) uw _ _ _ k2
 obtain⟨c3,m3,y3,e3,k3⟩:=hall 3 _ rfl
 obtain⟨d3,_,r3⟩:=cF Tryz.underlying25 (show Tryz.prog.cellsOf 9=1 by kernel_rfl) (by decide) (nl nn) _ _ _ k3
 obtain⟨c4,m4,y4,e4,k4⟩:=hall 4 _ rfl
 obtain⟨d4,_,r4⟩:=cF Tryz.underlying25 (show Tryz.prog.cellsOf 9=1 by kernel_rfl) (by decide) (nl nn) _ _ _ k4
 obtain⟨c5,m5,y5,e5,k5⟩:=hall 5 _ rfl
 obtain⟨d5,_,r5⟩:=cF Tryz.underlying26 (show Tryz.prog.cellsOf 81=3 by kernel_rfl) (by decide) uy _ _ _ k5
 have hcs:cs=[c0,c1,c2,c3,c4,c5]:=by
  match cs,hl with
  | [a0,a1,a2,a3,a4,a5],_=>simp only[List.getElem?_cons_zero,List.getElem?_cons_succ,Option.some.injEq]at e0 e1 e2 e3 e4 e5;rw[e0,e1,e2,e3,e4,e5]
 subst hcs
 exact⟨⟨d0,d1,d2,d3,d4,d5⟩,trivial,(ar r0 (ar r1 (ar r2 (ar r3 (ar r4 (ar r5 cE))))))⟩
theorem r8{w:World}{σ:aC}{T:Nat→Prop}{a b:List AV}{u v:List Value}(h1:bk w σ T a u)(h2:bk w σ T b v):bk w σ T (a++b) (u++v):=⟨by simp[h1.1,h2.1],fun i x y hx hy=>by
 rcases Nat.lt_or_ge i a.length with h | h
 ·rw[List.getElem?_append_left h]at hx
  rw[List.getElem?_append_left (by rw[←h1.1];exact h)]at hy
  exact h1.2 i x y hx hy
 ·rw[List.getElem?_append_right h]at hx
  rw[List.getElem?_append_right (by rw[←h1.1];exact h),←h1.1]at hy
  exact h2.2 _ x y hx hy⟩
theorem lg{P:Program}{e:TypeId}{n:Nat}:∀(l:List (DataW H)) (d:DataW H),d∈l→n∈d.weights P e→n∈DataW.weightsAll P e l
 | x::l,d,hd,hn=>by
  rw[DataW.weightsAll]
  rcases List.mem_cons.1 hd with rfl | hd
  ·exact List.mem_append_left _ hn
  ·exact List.mem_append_right _ (lg l d hd hn)
theorem pS {R : Nat} {α : Type} {t e : TypeId} {f : α → List AV} {l : List α} {fuel : Nat} {c : Value} {x : DataW H × List MemPlace} (ht : Tryz.prog.underlying t = some (.slice e)) (h : DataW.trod enc Tryz.prog w base spare held fuel t [c] = some x)
    (hr:bk w nh nk [.lst (l.map f)] [c]) (hw:∀n∈x.1.weights Tryz.prog t,n≤R) (hb:1≤Tryz.prog.bytesOf e):l.length≤R:=by
  have h0:=hr.2 0 (.lst (l.map f)) c rfl rfl
  rcases Deep.open_slice ht h with⟨hc,_⟩ | ⟨a,len,cap,m,n,D,Pl,hc,_,_,_,_,hx,_⟩
  · simp only[List.cons.injEq,and_true]at hc
    subst hc
    generalize hm:l.map f=rows at h0
    cases h0 with
    | lst0 => have : l = [] := List.map_eq_nil_iff.1 hm
              subst this;exact Nat.zero_le _
  · simp only[List.cons.injEq,and_true]at hc
    subst hc
    have hlen:l.length=len:=by
      generalize hm:l.map f=rows at h0
      cases h0 with
      | lst0 => have : l = [] := List.map_eq_nil_iff.1 hm
                subst this;rfl
      | lst rows b o sz cap _ _ _ _=>rw[←hm];simp
    have:=hw _ (by rw[hx];simp[DataW.weights,ht];exact .inl rfl)
    have h2:=Nat.le_mul_of_pos_right (len+(m-len)) hb
    omega
theorem qE {R : Nat} {α : Type} {t e : TypeId} {f : α → List AV} {G : α → Prop} {l : List α} {fuel : Nat} {c : Value} {x : DataW H × List MemPlace} (ht : Tryz.prog.underlying t = some (.slice e)) (h : DataW.trod enc Tryz.prog w base spare held fuel t [c] = some x)
    (hr:bk w nh nk [.lst (l.map f)] [c]) (hw:∀n∈x.1.weights Tryz.prog t,n≤R) (hsz:∀s,(f s).length=Tryz.prog.cellsOf e)
    (he:∀s fuel cs y,DataW.trod enc Tryz.prog w base spare held fuel e cs=some y→bk w nh nk (f s) cs→(∀n∈y.1.weights Tryz.prog e,n≤R)→G s):∀s∈l,G s:=by
  have h0:=hr.2 0 (.lst (l.map f)) c rfl rfl
  rcases Deep.open_slice ht h with⟨hc,_⟩ | ⟨a,len,cap,m,n,D,Pl,hc,_,hlc,_,hmm,hx,hall⟩
  · simp only[List.cons.injEq,and_true]at hc
    subst hc
    generalize hm:l.map f=rows at h0
    cases h0 with
    | lst0 => have : l = [] := List.map_eq_nil_iff.1 hm
              subst this
              exact fun s hs=>by simp at hs
  · simp only[List.cons.injEq,and_true]at hc
    subst hc
    have hlm:len≤m:=by rw[hmm];split<;>omega
    generalize hm:l.map f=rows at h0
    cases h0 with
    | lst0 => have : l = [] := List.map_eq_nil_iff.1 hm
              subst this
              exact fun s hs=>by simp at hs
    | lst rows b o sz cap hl hn hmx hh=>
      subst hm
      intro s hs
      obtain⟨i,hi,rfl⟩:=List.getElem_of_mem hs
      have hil:i<(l.map f).length:=by simpa using hi
      obtain⟨cs',hcs,htr⟩:=hall i (by omega)
      have hsz2:Tryz.prog.cellsOf e=sz:=by rw[←hsz l[i]];exact hl.even i _ (aG hi)
      obtain⟨_,hlen,hcell⟩:=World.cells?_some hcs
      refine he _ _ _ _ htr ⟨by rw[hsz,hlen],fun j y v hy hv=>?_⟩ fun n hn=>hw n ?_
      · have hj:j<Tryz.prog.cellsOf e:=by rw[←hlen];exact ah hv
        have hc0:=hcell j hj
        rw[hv,Deep.add_add,hsz2]at hc0
        exact hh i (f l[i]) j y v (aG hi) hy (by rw[Addr.add_lit]at hc0;rw[Nat.add_assoc];exact hc0)
      · rw[hx]
        simp only[DataW.weights,ht]
        exact List.mem_cons_of_mem _ (List.mem_append_left _ (lg _ (D i) (List.mem_map.2 ⟨i,List.mem_range.2 hil,rfl⟩) hn))
theorem tH:Opens H enc Tryz.prog w base spare held 65 (rl pW.enc fun _=>True):=fun fuel cs x h=>by
 obtain⟨hl,hall⟩:=dd [3,63] Tryz.underlying65 h rfl (by kernel_rfl) (by kernel_rfl)
 obtain⟨c0,m0,y0,e0,k0⟩:=hall 0 _ rfl
 obtain⟨d0,_,r0⟩:=ce cG _ _ _ k0
 obtain⟨c1,m1,y1,e1,k1⟩:=hall 1 _ rfl
 obtain⟨d1,_,r1⟩:=cF Tryz.underlying63 (show Tryz.prog.cellsOf 83=6 by kernel_rfl) (by decide) tF _ _ _ k1
 have hcs:cs=[c0,c1]:=by
  match cs,hl with
  | [a0,a1],_=>simp only[List.getElem?_cons_zero,List.getElem?_cons_succ,Option.some.injEq]at e0 e1;rw[e0,e1]
 subst hcs
 exact⟨⟨d0,d1⟩,trivial,(ar r0 (ar r1 cE))⟩
theorem uz{R:Nat}{s:pW}{fuel:Nat}{cs:List Value}{x:DataW H×List MemPlace}(h:DataW.trod enc Tryz.prog w base spare held fuel 65 cs=some x)(hr:bk w nh nk s.enc cs)(hw:∀n∈x.1.weights Tryz.prog 65,n≤R):s.ins.length≤R:=by
 obtain⟨xs,n,_,hx,hl,hxl,hfs⟩:=DataW.trod_struct Tryz.underlying65 h
 rw[show Tryz.prog.cellsOf 65=2 by kernel_rfl]at hl
 match cs,hl with
 | [c0,c1],_=>
  match xs,hxl with
  | [z0,z1],_=>
   have k1:DataW.trod enc Tryz.prog w base spare held n 63 [c1]=some z1:=by
    have this:DataW.trod enc Tryz.prog w base spare held n 63 (([c0,c1].drop 1).take (Tryz.prog.cellsOf 63))=some z1:=hfs 1 _ rfl
    rw[show Tryz.prog.cellsOf 63=1 by kernel_rfl]at this
    exact this
   have hwt:x.1.weights Tryz.prog 65=z0.1.weights Tryz.prog 3++(z1.1.weights Tryz.prog 63++[]):=by
    rw[hx]
    simp only[DataW.weights,Tryz.underlying65]
    rfl
   rw[hwt]at hw
   exact pS Tryz.underlying63 k1 (dT (hr.2 1 _ c1 rfl rfl)) (fun n hn=>hw n (List.mem_append_right _ (List.mem_append_left _ hn))) (by decide +kernel)
theorem uA{R:Nat}{fuel:Nat}{cs:List Value}{x:DataW H×List MemPlace}(h:DataW.trod enc Tryz.prog w base spare held fuel 31 cs=some x)(hw:∀n∈x.1.weights Tryz.prog 31,n≤R):
  ∃s:CodD,rl CodD.enc (fun _=>True) w (·<w.heap.size) s cs∧∀t∈s.ts,t.ins.length≤R:=by
 obtain⟨xs,n,_,hx,hl,hxl,hfs⟩:=DataW.trod_struct Tryz.underlying31 h
 rw[show Tryz.prog.cellsOf 31=7 by kernel_rfl]at hl
 match cs,hl with
 | [c0,c1,c2,c3,c4,c5,c6],_=>
  match xs,hxl with
  | [z0,z1],_=>
   have k0:DataW.trod enc Tryz.prog w base spare held n 28 [c0,c1,c2,c3,c4,c5]=some z0:=by
    have this:DataW.trod enc Tryz.prog w base spare held n 28 (([c0,c1,c2,c3,c4,c5,c6].drop 0).take (Tryz.prog.cellsOf 28))=some z0:=hfs 0 _ rfl
    rw[show Tryz.prog.cellsOf 28=6 by kernel_rfl]at this
    exact this
   have k1:DataW.trod enc Tryz.prog w base spare held n 29 [c6]=some z1:=by
    have this:DataW.trod enc Tryz.prog w base spare held n 29 (([c0,c1,c2,c3,c4,c5,c6].drop 6).take (Tryz.prog.cellsOf 29))=some z1:=hfs 1 _ rfl
    rw[show Tryz.prog.cellsOf 29=1 by kernel_rfl]at this
    exact this
   have hwt:x.1.weights Tryz.prog 31=z0.1.weights Tryz.prog 28++(z1.1.weights Tryz.prog 29++[]):=by
    rw[hx]
    simp only[DataW.weights,Tryz.underlying31]
    rfl
   rw[hwt]at hw
   obtain⟨d0,_,r0⟩:=tG _ _ _ k0
   obtain⟨d1,_,r1⟩:=cF Tryz.underlying29 (show Tryz.prog.cellsOf 65=2 by kernel_rfl) (by decide) tH _ _ _ k1
   refine⟨⟨d0,d1⟩,⟨trivial,r8 r0 r1⟩,qE Tryz.underlying29 k1 r1 (fun n hn=>hw n (List.mem_append_right _ (List.mem_append_left _ hn))) (fun _=>by rw[show Tryz.prog.cellsOf 65=2 by kernel_rfl];rfl) fun s fuel cs y hy hr hwy=>uz hy hr hwy⟩
end
end Go.Proofs.YtelgfgfgghpjgaaGreatDoor.Am
end
section
namespace Go.Proofs.YtelgfgfgghpjgaaGreatDoor.Am
open Go.ChangeShapes Go.WideShapes Go.ChangeAt Go.RowKit
set_option linter.unusedVariables false
set_option maxRecDepth 100000
theorem tI{H:Type}{enc:TypeId×Value→H}{P:Program}{w:World}{base:Nat}{spare:Nat→Bool}{held:Bool}{fuel:Nat}{t e:TypeId}{n:Nat}{cs:List Value}{ds:List (DataW H)}{q:List MemPlace}(ht:P.underlying t=some (.array n e))(hc:P.cellsOf e=1)(hn:P.cellsOf t=n)(h:DataW.trod enc P w base spare held fuel t cs=some (.agg ds,q)){i:Nat}{d:DataW H}(hd:ds[i]? =some d):
  ∃m c y,cs[i]? =some c∧DataW.trod enc P w base spare held m e [c]=some (d,y):=by
 obtain⟨xs,m,_,hx,hl,hxn,hel⟩:=DataW.trod_array ht h
 simp only[Prod.mk.injEq,DataW.agg.injEq]at hx
 rw[hx.1,List.getElem?_map]at hd
 cases hxi:xs[i]? with
 | none=>rw[hxi]at hd;cases hd
 | some x=>
  rw[hxi]at hd
  cases hd
  have hi:i<n:=by rw[←hxn];exact(List.getElem?_eq_some_iff.1 hxi).1
  have hi2:i<cs.length:=by omega
  have h2:=hel i hi
  rw[hc,Nat.mul_one,hxi,List.drop_eq_getElem_cons hi2,List.take_succ_cons,List.take_zero]at h2
  exact⟨m,cs[i],x.2,List.getElem?_eq_getElem hi2,h2⟩
theorem uB{P:Program}{w:World}{fuel:Nat}{t e:TypeId}{n:Nat}{cs:Array Value}{l:List Int}{q:List MemPlace}{g:Nat}{nm:String}(hg:P.globalNamed nm=some g)(hv:w.var? P nm=some cs)(ht:P.underlying t=some (.array n e))(hc:P.cellsOf e=1)(hn:P.cellsOf t=n)(he:P.underlying e=some (.int .i64))(h:DataW.trod (fun _=>()) P w 0 (fun _=>true) false fuel t cs.toList=some (.agg (l.map fun n=>.lit (.int .i64 n)),q))(j:Nat)(a:AV)(ha:(l.map fun n=>AV.int .i64 n)[j]? =some a):∃u,w.cell? ⟨g,j,none⟩=some u∧oM u=some a:=by
 rw[List.getElem?_map]at ha
 cases hj:l[j]? with
 | none=>rw[hj]at ha;cases ha
 | some v=>
  rw[hj]at ha;cases ha
  obtain⟨m,c,y,hcj,htr⟩:=tI ht hc hn h (i:=j) (d:=.lit (.int .i64 v)) (by rw[List.getElem?_map,hj];rfl)
  obtain⟨k,e1,e2,_⟩:=DataW.trod_int he htr
  simp only[List.cons.injEq,and_true]at e1
  simp only[Prod.mk.injEq,DataW.lit.injEq,Lit.int.injEq,true_and]at e2
  refine⟨c,?_,?_⟩
  ·rw[World.var?_cell hg hv j,←Array.getElem?_toList,hcj]
  ·rw[e1,←e2.1];rfl
theorem uC{P:Program}{w:World}{fuel:Nat}{t e:TypeId}{n:Nat}{cs:Array Value}{l:List (List UInt8)}{q:List MemPlace}{g:Nat}{nm:String}(hg:P.globalNamed nm=some g)(hv:w.var? P nm=some cs)(ht:P.underlying t=some (.array n e))(hc:P.cellsOf e=1)(hn:P.cellsOf t=n)(he:P.underlying e=some .string)(h:DataW.trod (fun _=>()) P w 0 (fun _=>true) false fuel t cs.toList=some (.agg (l.map fun n=>.lit (.string n)),q))(j:Nat)(a:AV)(ha:(l.map AV.str)[j]? =some a):∃u,w.cell? ⟨g,j,none⟩=some u∧oM u=some a:=by
 rw[List.getElem?_map]at ha
 cases hj:l[j]? with
 | none=>rw[hj]at ha;cases ha
 | some v=>
  rw[hj]at ha;cases ha
  obtain⟨m,c,y,hcj,htr⟩:=tI ht hc hn h (i:=j) (d:=.lit (.string v)) (by rw[List.getElem?_map,hj];rfl)
  obtain⟨k,e1,e2,_⟩:=DataW.trod_string he htr
  simp only[List.cons.injEq,and_true]at e1
  simp only[Prod.mk.injEq,DataW.lit.injEq,Lit.string.injEq]at e2
  refine⟨c,?_,?_⟩
  ·rw[World.var?_cell hg hv j,←Array.getElem?_toList,hcj]
  ·rw[e1,e2.1];rfl
theorem xw:(Tryz.prog.globals[1]?).map (·.type)=some 222:=by kernel_rfl
theorem vN:(Tryz.prog.globals[0]?).map (·.type)=some 107:=by kernel_rfl
theorem xx : Tryz.prog.globalNamed "interleave/token.keywords" = some 1 := by kernel_rfl
theorem vO : Tryz.prog.globalNamed "interleave/run.kinds" = some 0 := by kernel_rfl
theorem uD {W : World} (h : laidMetH Tryz.prog [("interleave/token.keywords", Rows.laid_interleave_token_keywords), ("interleave/run.kinds", Rows.laid_interleave_run_kinds)] W) : de W nk := by
 rw[MakeChecks.laidMetH_plain _ _ _ (by kernel_rfl)]at h
 obtain⟨ps,⟨g0,t0,cs0,f0,p0,q0,hg0,ht0,hv0,hd0,⟨g1,t1,cs1,f1,p1,q1,hg1,ht1,hv1,hd1,_,_⟩,_⟩,_,_⟩:=h
 obtain rfl:=Option.some.inj (xx.symm.trans hg0)
 obtain rfl:=Option.some.inj (vO.symm.trans hg1)
 obtain rfl:=Option.some.inj (xw.symm.trans ht0)
 obtain rfl:=Option.some.inj (vN.symm.trans ht1)
 intro g r hg
 unfold xz at hg
 split at hg
 ·rename_i e;subst e
  cases hg
  exact⟨fun h=>h,by decide,uB hg1 hv1 Tryz.underlying107 (by kernel_rfl) (by kernel_rfl) Tryz.underlying3 hd1⟩
 ·split at hg
  ·rename_i e;subst e
   cases hg
   exact⟨fun h=>h,by decide,uC hg0 hv0 Tryz.underlying222 (by kernel_rfl) (by kernel_rfl) Tryz.underlying9 hd0⟩
  ·cases hg
end Go.Proofs.YtelgfgfgghpjgaaGreatDoor.Am
end
