/- A part of the proof; the statement is proved in the last part. -/
import Derived.Test.YtljkdffikfkcgaaGreatQ2b
set_option linter.unusedSimpArgs false
set_option linter.unusedVariables false
section
namespace Go.Proofs.YtljkdffikfkcgaaGreat.Am
open Go.RowKit
set_option linter.unusedVariables false
inductive Ae (b:Nat) (x x':Blk):SH→SH→Prop where
 | here (L:SH):Ae b x x' ((b,x)::L) ((b,x')::L)
 | there (p:Nat×Blk) {L L':SH}:Ae b x x' L L'→Ae b x x' (p::L) (p::L')
inductive dE (b:Nat) (x:Blk):SH→SH→Prop where
 | here (L:SH):dE b x ((b,x)::L) L
 | there (p:Nat×Blk) {L L':SH}:dE b x L L'→dE b x (p::L) (p::L')
theorem Ae.mem{b:Nat}{x x':Blk}{L L':SH}(h:Ae b x x' L L'):(b,x)∈L:=by
 induction h with
 | here L=>simp
 | there p h ih=>simp[ih]
theorem Ae.names{b:Nat}{x x':Blk}{L L':SH}(h:Ae b x x' L L'):L'.names=L.names:=by
 induction h with
 | here L=>rfl
 | there p h ih=>simp only[List.map_cons,ih]
theorem Ae.get{b:Nat}{x x':Blk}{L L':SH}(h:Ae b x x' L L')(hn:L.names.Nodup):∀p∈L',p=(b,x')∨(p∈L∧p.1≠b):=by
 induction h with
 | here L=>
  intro p hp
  rcases List.mem_cons.1 hp with rfl | hp
  ·exact .inl rfl
  ·refine .inr ⟨by simp[hp],fun he=>?_⟩
   simp only[List.map_cons,List.nodup_cons]at hn
   exact hn.1 (he▸List.mem_map_of_mem hp)
 | there q h ih=>
  intro p hp
  simp only[List.map_cons,List.nodup_cons]at hn
  rcases List.mem_cons.1 hp with rfl | hp
  ·refine .inr ⟨by simp,fun he=>hn.1 ?_⟩
   rw[he]
   exact List.mem_map_of_mem (f:=Prod.fst) h.mem
  ·rcases ih hn.2 p hp with rfl | ⟨h1,h2⟩
   ·exact .inl rfl
   ·exact .inr ⟨by simp[h1],h2⟩
theorem dE.perm{b:Nat}{x:Blk}{L L':SH}(h:dE b x L L'):L.Perm ((b,x)::L'):=by
 induction h with
 | here L=>exact .refl _
 | there p h ih=>exact(ih.cons p).trans (.swap _ _ _)
def HY:SH→Nat→Option Blk
 | [],_=>none
 | (c,x)::L,b=>if c=b then some x else HY L b
def JC:SH→Nat→Blk→SH
 | [],_,_=>[]
 | (c,x)::L,b,y=>if c=b then(c,y)::L else(c,x)::JC L b y
structure jY(b:Nat)(L:SH)(H:ah)(L':SH)(H':ah):Prop where
 next:H'.next=H.next
 bd:Bd H'
 sub:iz L' H'
 keep:∀c x,H.get c=some x→c∉L.names→H'.get c=some x∧c∉L'.names
 dom:∀c,c≠b→H.get c=none→H'.get c=none
 fresh:∀c,c∈L'.names→c=b∨c∈L.names
theorem jY.refl{b:Nat}{L:SH}{H:ah}(hb:Bd H)(hs:iz L H):jY b L H L H:=⟨rfl,hb,hs,fun _ _ h1 h2=>⟨h1,h2⟩,fun _ _ h=>h,fun _ h=>.inr h⟩
theorem iz.not_mem{L:SH}{H:ah}(hs:iz L H){b:Nat}(h:H.get b=none):b∉L.names:=fun hb=>by
 obtain⟨x,_,hx⟩:=hs.mem hb
 rw[h]at hx;cases hx
theorem jY.new{b:Nat}{L:SH}{H:ah}(hb:Bd H)(hs:iz L H)(hlt:b<H.next)(h0:H.get b=none)(x:Blk):jY b L H ((b,x)::L) (H.new b x) where
 next:=rfl
 bd:=fun c hc=>by
  have hc':H.next≤c:=hc
  rw[ah.get_new,if_neg (by omega)];exact hb c hc'
 sub:=⟨by simp only[List.map_cons,List.nodup_cons];exact⟨hs.not_mem h0,hs.nd⟩,fun p hp=>by
  rcases List.mem_cons.1 hp with rfl | hp
  ·rw[ah.get_new,if_pos rfl]
  ·have:=hs.get p hp
   rw[ah.get_new,if_neg]
   ·exact this
   ·intro he;rw[←he,h0]at this;cases this⟩
 keep:=fun c y h1 h2=>by
  have hne:b≠c:=fun he=>by rw[←he,h0]at h1;cases h1
  refine⟨by rw[ah.get_new,if_neg hne];exact h1,fun hm=>?_⟩
  simp only[List.map_cons,List.mem_cons]at hm
  rcases hm with hm | hm
  ·exact hne hm.symm
  ·exact h2 hm
 dom:=fun c hc h=>by rw[ah.get_new,if_neg (fun e=>hc e.symm)];exact h
 fresh:=fun c hc=>by simpa using hc
theorem jY.put{b c:Nat}{L L':SH}{H:ah}{x x':Blk}(hb:Bd H)(hs:iz L H)(hu:Ae c x x' L L'):jY b L H L' (H.put c (some x')) where
 next:=rfl
 bd:=fun d hd=>by
  have hd':H.next≤d:=hd
  have h1:=hs.get _ hu.mem
  rw[ah.get_put,if_neg (fun e=>by subst e;rw[hb _ hd']at h1;cases h1)]
  exact hb d hd'
 sub:=⟨by rw[hu.names];exact hs.nd,fun p hp=>by
  rcases hu.get hs.nd p hp with rfl | ⟨h1,h2⟩
  ·rw[ah.get_put,if_pos rfl]
  ·rw[ah.get_put,if_neg (fun e=>h2 e.symm)];exact hs.get p h1⟩
 keep:=fun d y h1 h2=>by
  have hne:c≠d:=fun e=>h2 (e▸List.mem_map_of_mem (f:=Prod.fst) hu.mem)
  exact⟨by rw[ah.get_put,if_neg hne];exact h1,by rw[hu.names];exact h2⟩
 dom:=fun d _ h=>by
  rw[ah.get_put,if_neg]
  ·exact h
  ·intro e
   have h1:=hs.get _ hu.mem
   rw[e,h]at h1;cases h1
 fresh:=fun d hd=>by rw[hu.names]at hd;exact .inr hd
theorem jY.del{b c:Nat}{L L':SH}{H:ah}{x:Blk}(hb:Bd H)(hs:iz L H)(hu:dE c x L L'):jY b L H L' (H.put c none):=by
 have hs':iz ((c,x)::L') H:=hs.perm hu.perm
 have hn:∀d,d∈L.names↔d=c∨d∈L'.names:=fun d=>by rw[(hu.perm.map Prod.fst).mem_iff];simp
 have hnd:=hs'.nd
 simp only[List.map_cons,List.nodup_cons]at hnd
 refine⟨rfl,fun d hd=>?_,⟨hnd.2,fun p hp=>?_⟩,fun d y h1 h2=>?_,fun d _ h=>?_,fun d hd=>.inr ((hn d).2 (.inr hd))⟩
 ·have hd':H.next≤d:=hd
  rw[ah.get_put]
  split
  ·rfl
  ·exact hb d hd'
 ·rw[ah.get_put,if_neg (fun(e:c=p.1)=>hnd.1 (e▸List.mem_map_of_mem (f:=Prod.fst) hp))]
  exact hs'.get p (by simp[hp])
 ·rw[hn]at h2
  refine⟨by rw[ah.get_put,if_neg (fun e=>h2 (.inl e.symm))];exact h1,fun h=>h2 (.inr h)⟩
 ·rw[ah.get_put]
  split
  ·rfl
  ·exact h
theorem jY.trans{b:Nat}{L L' L'':SH}{H H' H'':ah}(h:jY b L H L' H')(k:jY b L' H' L'' H''):jY b L H L'' H'' where
 next:=k.next.trans h.next
 bd:=k.bd
 sub:=k.sub
 keep:=fun c x h1 h2=>by obtain⟨a1,a2⟩:=h.keep c x h1 h2;exact k.keep c x a1 a2
 dom:=fun c hc h0=>k.dom c hc (h.dom c hc h0)
 fresh:=fun c hc=>by
  rcases k.fresh c hc with h1 | h1
  ·exact .inl h1
  ·exact h.fresh c h1
namespace W0
def rowLd(ag:Bool)(n:Nat)(row:List AV)(off:Nat):Option AV:=
 if ag then(if off+n≤row.length then some (.agg ((row.drop off).take n))else none)else row[off]?
def fillR(cells:List AV):List (Nat×Nat×AV)→Option (List AV)
 | []=>some cells
 | (off,size,v)::rest=>match v.cells? with
  | some cs=>if cs.length=size∧off+size≤cells.length∧cs.all AV.one then fillR (bJ cells off cs) rest else none
  | none=>none
section
variable (P:Program) (F:TypeId→Option (List TypeId))
def opt(x:Option AV)(K:AV→Prop):Prop:=∃v,x=some v∧K v
def pick(c x y:AV)(K:AV→Prop):Prop:=∃t,c=.bool t∧K (if t then x else y)
def un(op:UnOp)(x:AV)(K:AV→Prop):Prop:=opt (KP op x) K
def bin(op:BinOp)(t:TypeId)(x y:AV)(K:AV→Prop):Prop:=opt (fV P F op t x y) K
def conv(k:IntKind)(x:AV)(K:AV→Prop):Prop:=∃k' n,x=.int k' n∧K (.int k (k.wrap n))
def convS(x:AV)(K:AV→Prop):Prop:=∃s,x=.str s∧K (.str s)
def faddr(off:Nat)(x:AV)(K:AV→Prop):Prop:=match x with
 | .ptr b i o=>K (.ptr b i (o+off))
 | .pptr rows i o=>K (.pptr rows i (o+off))
 | _=>False
def fld(ag:Bool)(n off:Nat)(x:AV)(K:AV→Prop):Prop:=∃cs v,x=.agg cs∧rowLd ag n cs off=some v∧K v
def loadR(ag:Bool)(n:Nat)(a:AV)(L:SH)(K:AV→Prop):Prop:=match a with
 | .ptr b i off=>∃x r v,(b,x)∈L∧x.rows[i]? =some r∧rowLd ag n r off=some v∧K v
 | .pptr rows i off=>∃r v,rows[i]? =some r∧rowLd ag n r off=some v∧K v
 | _=>False
def storeR(n:Nat)(a v:AV)(L:SH)(K:SH→Prop):Prop:=match a with
 | .ptr b i off=>∃x r cs L',x.rows[i]? =some r∧v.cells? =some cs∧cs.length=n∧cs.all AV.one=true∧off+n≤r.length∧Ae b x ⟨x.size,x.rows.set i (bJ r off cs)⟩ L L'∧K L'
 | _=>False
def idxR(n:Nat)(x ix:AV)(L:SH)(K:AV→Prop):Prop:=match x with
 | .sl b j m=>∃k i y,ix=.int k i∧0≤i∧i.toNat<m∧(b,y)∈L∧y.size=n∧K (.ptr b (j+i.toNat) 0)
 | .lst rows=>∃k i r,ix=.int k i∧0≤i∧rows[i.toNat]? =some r∧r.length=n∧K (.pptr rows i.toNat 0)
 | _=>False
def idxP(len n:Nat)(x ix:AV)(K:AV→Prop):Prop:=∃k i,ix=.int k i∧0≤i∧i.toNat<len∧(match x with
 | .ptr b j off=>K (.ptr b j (off+i.toNat*n))
 | .pptr rows j off=>K (.pptr rows j (off+i.toNat*n))
 | _=>False)
def ixS(x ix:AV)(K:AV→Prop):Prop:=∃s k i b,x=.str s∧ix=.int k i∧0≤i∧s[i.toNat]? =some b∧K (.int .u8 b.toNat)
def ixA(ag:Bool)(len n:Nat)(x ix:AV)(K:AV→Prop):Prop:=∃cs k i v,x=.agg cs∧ix=.int k i∧0≤i∧i.toNat<len∧rowLd ag n cs (i.toNat*n)=some v∧K v
def ext(i:Nat)(x:AV)(K:AV→Prop):Prop:=∃vs v,x=.tup vs∧vs[i]? =some v∧K v
def nilchk(x:AV)(K:AV→Prop):Prop:=match x with
 | .ptr b i off=>K (.ptr b i off)
 | .pptr rows i off=>K (.pptr rows i off)
 | .fn f cs=>K (.fn f cs)
 | _=>False
def build(z:List AV)(parts:List (Nat×Nat×AV))(K:AV→Prop):Prop:=∃cs,fillR z parts=some cs∧K (.agg cs)
def alloc(cs:List AV)(L:SH)(K:AV→SH→Prop):Prop:=∀b,b∉L.names→K (.ptr b 0 0) ((b,⟨cs.length,[cs]⟩)::L)
def box(x:AV)(L:SH)(K:AV→SH→Prop):Prop:=∃cs,x.cells? =some cs∧cs.all AV.one=true∧∀b,b∉L.names→K (.ptr b 0 0) ((b,⟨cs.length,[cs]⟩)::L)
def bslice(n:Nat)(z:List AV)(len:Nat)(parts:List (Nat×AV))(L:SH)(K:AV→SH→Prop):Prop:=
 len*n≤2^24∧∃rows,db n (List.replicate len z) parts=some rows∧∀b,b∉L.names→K (.sl b 0 len) ((b,⟨n,rows⟩)::L)
def mslice(n by_:Nat)(z:List AV)(l c:AV)(L:SH)(K:AV→SH→Prop):Prop:=
 ∃(k k':IntKind) (i j:Nat),l=.int k i∧c=.int k' j∧i≤j∧j≤2^62∧j*by_≤2^48∧∀b,b∉L.names→K (.sl b 0 i) ((b,⟨n,List.replicate i z⟩)::L)
def rowsR(L:SH)(n:Nat)(s:AV)(rows:List (List AV)):Prop:=match s with
 | .nils=>rows=[]
 | .emp=>rows=[]
 | .lst l=>rows=l∧∀r,l.head? =some r→r.length=n
 | .sl b i k=>∃x,(b,x)∈L∧x.size=n∧i+k≤x.rows.length∧rows=(x.rows.drop i).take k
 | _=>False
def appendR(n by_:Nat)(s x:AV)(L:SH)(K:AV→SH→Prop):Prop:=
 ∃l m,rowsR L n s l∧rowsR L n x m∧2*(l.length+m.length)*by_≤2^48∧2*(l.length+m.length)≤2^62∧(m.all fun r=>r.all AV.one)=true∧
 (match s with
  | .nils=>(m.length=0→K .nils L)∧(m.length≠0→∀b,b∉L.names→K (.sl b 0 m.length) ((b,⟨n,m⟩)::L))
  | .emp=>(m.length=0→K .emp L)∧(m.length≠0→∀b,b∉L.names→K (.sl b 0 m.length) ((b,⟨n,m⟩)::L))
  | .sl b' _ _=>∃y L',dE b' y L L'∧∀b,b∉L.names→K (.sl b 0 (l.length+m.length)) ((b,⟨n,l++m⟩)::L')
  | _=>False)
def len(x:AV)(K:AV→Prop):Prop:=∃n:Nat,BM x=some n∧K (.int .i64 (n:Int))
def lenS(x:AV)(K:AV→Prop):Prop:=∃s,x=.str s∧K (.int .i64 (s.length:Int))
def mnx(mx:Bool)(x y:AV)(K:AV→Prop):Prop:=∃k a c,x=.int k a∧y=.int k c∧K (.int k (if mx then(if c > a then c else a)else(if c<a then c else a)))
def sliceR(n:Nat)(x:AV)(lo hi mx:Option AV)(L:SH)(K:AV→Prop):Prop:=
 ∃len l h m,BM x=some len∧cf lo 0=some l∧cf hi len=some h∧cf mx len=some m∧l≤h∧h≤m∧m≤len∧
 (match x with
  | .nils=>K .nils
  | .sl b i _=>(∃y,(b,y)∈L∧y.size=n)∧K (.sl b (i+l) (h-l))
  | .lst rows=>(∀r,rows.head? =some r→r.length=n)∧K (.lst ((rows.drop l).take (h-l)))
  | _=>False)
def sliceS(x:AV)(lo hi:Option AV)(K:AV→Prop):Prop:=
 ∃s l h,x=.str s∧cf lo 0=some l∧cf hi s.length=some h∧l≤h∧h≤s.length∧K (.str ((s.drop l).take (h-l)))
def store(n:Nat)(a v:AV)(L:SH)(K:SH→Prop):Prop:=match a with
 | .ptr b i off=>(match HY L b with
  | some x=>(match x.rows[i]?,v.cells? with
   | some r,some cs=>(cs.length=n∧cs.all AV.one=true∧off+n≤r.length)∧K (JC L b ⟨x.size,x.rows.set i (bJ r off cs)⟩)
   | _,_=>False)
  | none=>False)
 | _=>False
def slice(n:Nat)(x:AV)(lo hi mx:Option AV)(L:SH)(K:AV→Prop):Prop:=match BM x with
 | some len=>(match cf lo 0,cf hi len,cf mx len with
  | some l,some h,some m=>(l≤h∧h≤m∧m≤len)∧(match x with
   | .nils=>K .nils
   | .sl b i _=>(match HY L b with
    | some y=>y.size=n∧K (.sl b (i+l) (h-l))
    | none=>False)
   | .lst rows=>(∀r,rows.head? =some r→r.length=n)∧K (.lst ((rows.drop l).take (h-l)))
   | _=>False)
  | _,_,_=>False)
 | none=>False
def clearR(n:Nat)(z:List AV)(x:AV)(L:SH)(K:SH→Prop):Prop:=match x with
 | .nils=>K L
 | .sl b i k=>∃y L',y.size=n∧i+k≤y.rows.length∧Ae b y ⟨y.size,y.rows.take i++List.replicate k z++y.rows.drop (i+k)⟩ L L'∧K L'
 | _=>False
def zof(t:TypeId):Option (List AV):=(dY P t).bind AV.cells?
def op(o:Op)(ρ:Operand→AV)(L:SH)(K:AV→SH→Prop):Prop:=
 let k:=fun v=>K v L
 match o with
 | .move x | .assign x=>K (ρ x) L
 | .pick c x y=>pick (ρ c) (ρ x) (ρ y) k
 | .alloc t=>match zof P t with
  | some cs=>alloc cs L K
  | none=>False
 | .box _ x=>box (ρ x) L K
 | .build t parts=>match P.underlying t,dY P t with
  | some (.struct fs),some (.agg z)=>if(fs.toList.all fun f=>(aU P f.type).isSome)=true then
    (match cI (parts.toList.map fun p=>(jk P fs p.1).map fun q=>(q.1,q.2,ρ p.2))with
     | some ps=>build z ps k
     | none=>False)
   else False
  | some (.array _ e),some (.agg z)=>(match aU P e with
   | some n=>build z (parts.toList.map fun p=>(p.1*n,n,ρ p.2)) k
   | none=>False)
  | _,_=>False
 | .buildSlice t len parts=>match P.underlying t with
  | some (.slice e)=>match aU P e,zof P e with
   | some n,some z=>if z.length=n∧0<n then bslice n z len (parts.toList.map fun p=>(p.1,ρ p.2)) L K else False
   | _,_=>False
  | _=>False
 | .load t a=>match dN P t,aU P t with
  | some ag,some n=>loadR ag n (ρ a) L k
  | _,_=>False
 | .store t a x=>match aU P t with
  | some n=>storeR n (ρ a) (ρ x) L (K (.tup []))
  | none=>False
 | .nilCheck x=>nilchk (ρ x) k
 | .binOp op t x y _=>bin P F op t (ρ x) (ρ y) k
 | .unOp op _ x=>un op (ρ x) k
 | .convert s d x=>match P.underlying s,P.underlying d with
  | some (.int _),some (.int kd)=>conv kd (ρ x) k
  | some .string,some .string=>convS (ρ x) k
  | _,_=>False
 | .makeFunc (.func f) first cap=>if first.size=0 then K (.fn f (cap.toList.map ρ)) L else False
 | .makeSlice t l c=>match P.underlying t with
  | some (.slice e)=>match aU P e,gb P e,zof P e with
   | some n,some by_,some z=>if z.length=n∧0<n then mslice n by_ z (ρ l) (ρ c) L K else False
   | _,_,_=>False
  | _=>False
 | .slice t x lo hi mx=>if(hi.isNone&&mx.isSome)=true then False else match P.underlying t with
  | some (.slice e)=>(match aU P e with
   | some n=>sliceR n (ρ x) (lo.map ρ) (hi.map ρ) (mx.map ρ) L k
   | none=>False)
  | some .string=>if mx.isNone=true then sliceS (ρ x) (lo.map ρ) (hi.map ρ) k else False
  | _=>False
 | .fieldAddr s x f=>match P.underlying s with
  | some (.struct fs)=>match fs[f]? with
   | some f=>(match aU P f.type with
    | some n=>if n=0 then False else faddr f.offset (ρ x) k
    | none=>False)
   | none=>False
  | _=>False
 | .field s x f=>match P.underlying s with
  | some (.struct fs)=>match fs[f]? with
   | some f=>(match dN P f.type,aU P f.type with
    | some ag,some n=>fld ag n f.offset (ρ x) k
    | _,_=>False)
   | none=>False
  | _=>False
 | .indexAddr t x ix=>match P.underlying t with
  | some (.slice e)=>(match aU P e with
   | some n=>idxR n (ρ x) (ρ ix) L k
   | none=>False)
  | some (.array len e)=>(match aU P e with
   | some n=>idxP len n (ρ x) (ρ ix) k
   | none=>False)
  | _=>False
 | .index t x ix=>match P.underlying t with
  | some .string=>ixS (ρ x) (ρ ix) k
  | some (.array len e)=>(match dN P e,aU P e with
   | some ag,some n=>ixA ag len n (ρ x) (ρ ix) k
   | _,_=>False)
  | _=>False
 | .extract x i=>ext i (ρ x) k
 | .call c=>match c.callee with
  | .builtin .len=>(match c.args.toList,(c.argTypes[0]?).bind P.underlying with
   | [x],some (.slice _)=>len (ρ x) k
   | [x],some .string=>lenS (ρ x) k
   | [x],some (.array n _)=>(match ρ x with | .str _=>False | _=>K (.int .i64 n) L)
   | _,_=>False)
  | .builtin .append=>(match c.args.toList,c.argTypes.toList with
   | [s,x],[t,tx]=>(match P.underlying t,P.underlying tx with
    | some (.slice e),some (.slice _)=>(match aU P e,gb P e,zof P e with
     | some n,some by_,some z=>if z.length=n∧0<n then appendR n by_ (ρ s) (ρ x) L K else False
     | _,_,_=>False)
    | _,_=>False)
   | _,_=>False)
  | .builtin .min=>(match c.args.toList with
   | [x,y]=>mnx false (ρ x) (ρ y) k
   | _=>False)
  | .builtin .max=>(match c.args.toList with
   | [x,y]=>mnx true (ρ x) (ρ y) k
   | _=>False)
  | .builtin .clear=>(match c.args.toList,c.argTypes.toList with
   | [x],[t]=>(match P.underlying t with
    | some (.slice e)=>(match aU P e,zof P e with
     | some n,some z=>if(z.length=n∧0<n)∧z.all AV.one=true then clearR n z (ρ x) L (K (.tup []))else False
     | _,_=>False)
    | _=>False)
   | _,_=>False)
  | .value f=>(match ρ f with
   | .fn g cs=>aj P g (c.args.toList.map ρ++cs) L K
   | _=>False)
  | _=>False
 | _=>False
end
end W0
end Go.Proofs.YtljkdffikfkcgaaGreat.Am
end
section
namespace Go.Proofs.YtljkdffikfkcgaaGreat.Am
open Go.RowKit
set_option linter.unusedVariables false
section
variable {P:Program} {F:TypeId→Option (List TypeId)} {ρ:Operand→AV} {L:SH} {K:AV→SH→Prop} {b:Nat} {H:ah}
theorem qr{t:TypeId}{ag:Bool}{n off:Nat}{row:List AV}{v:AV}(h1:dN P t=some ag)(h2:aU P t=some n)(h:W0.rowLd ag n row off=some v):fk P t row off=some v:=by
 unfold fk
 rw[h1,h2]
 cases ag with
 | true=>simpa[W0.rowLd]using h
 | false=>simpa[W0.rowLd]using h
theorem vP{place:Nat→Option (Nat×Nat)}:∀(parts:List (Nat×AV)) (ps:List (Nat×Nat×AV)) (z cs:List AV),cI (parts.map fun p=>(place p.1).map fun q=>(q.1,q.2,p.2))=some ps→W0.fillR z ps=some cs→qg place z parts=some cs
 | [],ps,z,cs,h1,h2=>by cases h1;exact h2
 | (i,v)::parts,ps,z,cs,h1,h2=>by
  simp only[List.map_cons]at h1
  cases hp:place i with
  | none=>rw[hp]at h1;cases h1
  | some q=>
   rw[hp]at h1
   simp only[Option.map_some,cI]at h1
   split at h1
   ·rename_i l hl
    cases h1
    simp only[W0.fillR]at h2
    simp only[qg,hp]
    split at h2
    ·rename_i cs' hc
     rw[hc]
     simp only[]
     split at h2
     ·rename_i hcond
      rw[if_pos hcond]
      exact vP parts l _ cs hl h2
     ·cases h2
    ·cases h2
   ·cases h1
theorem qt{α β:Type}(f:α→β):∀l:List α,cI (l.map fun x=>some (f x))=some (l.map f)
 | []=>rfl
 | x::l=>by simp only[List.map_cons,cI,qt f l]
theorem AL{n:Nat}{s:AV}{rows:List (List AV)}(hs:iz L H)(h:W0.rowsR L n s rows):el H n s=some rows:=by
 unfold W0.rowsR at h
 split at h
 ·subst h;rfl
 ·subst h;rfl
 ·rename_i l
  obtain⟨hl,h1⟩:=h
  subst hl
  cases rows with
  | nil=>rfl
  | cons r l=>simp[el,h1 r rfl]
 ·obtain⟨x,h1,h2,h3,rfl⟩:=h
  simp[el,hs.get _ h1,h2,h3]
 ·exact h.elim
def W0.makes:Op→Bool
 | .alloc .. | .box .. | .buildSlice .. | .makeSlice ..=>true
 | .call c=>match c.callee with
  | .builtin .append=>true
  | _=>false
 | _=>false
def D8(P:Program)(F:TypeId→Option (List TypeId))(o:Op)(ρ:Operand→AV)(b:Nat)(L:SH)(H:ah)(K:AV→SH→Prop):Prop:=
 (∃v H' L',aX P F o ρ b H=some (.val v H')∧jY b L H L' H'∧(b∈L'.names→W0.makes o=true∧b∈ac v)∧K v L')∨∃g args,aX P F o ρ b H=some (.call g args)∧aj P g args L K
theorem Dk{o:Op}{v:AV}(hb:Bd H)(hs:iz L H)(h0:H.get b=none)(h:aX P F o ρ b H=some (.val v H))(hk:K v L):D8 P F o ρ b L H K:=.inl ⟨v,H,L,h,.refl hb hs,fun hm=>absurd hm (hs.not_mem h0),hk⟩
theorem iP{o:Op}{v:AV}{x:Blk}(hb:Bd H)(hs:iz L H)(hlt:b<H.next)(h0:H.get b=none)(hv:W0.makes o=true∧b∈ac v)(h:aX P F o ρ b H=some (.val v (H.new b x)))(hk:K v ((b,x)::L)):D8 P F o ρ b L H K:=.inl ⟨v,_,_,h,.new hb hs hlt h0 x,fun _=>hv,hk⟩
theorem CF{t:TypeId}{ag:Bool}{n:Nat}{a:AV}{k:AV→Prop}(hs:iz L H)(h1:dN P t=some ag)(h2:aU P t=some n)(h:W0.loadR ag n a L k):∃v,jH P H t a=some v∧k v:=by
 unfold W0.loadR at h
 split at h
 ·obtain⟨x,r,v,g1,g2,g3,g4⟩:=h
  exact⟨v,by simp[jH,hs.get _ g1,g2,qr h1 h2 g3],g4⟩
 ·obtain⟨r,v,g2,g3,g4⟩:=h
  exact⟨v,by simp[jH,g2,qr h1 h2 g3],g4⟩
 ·exact h.elim
theorem zv{o:Op}(hb:Bd H)(hs:iz L H)(hlt:b<H.next)(h0:H.get b=none)(h:W0.op P F o ρ L K):D8 P F o ρ b L H K:=by
 have hnb:=hs.not_mem h0
 have goes_val:∀{o:Op} {v:AV} (_:Bd H) (_:iz L H) (_:aX P F o ρ b H=some (.val v H)) (_:K v L),D8 P F o ρ b L H K:=fun hb hs h hk=>Dk hb hs h0 h hk
 cases o with
 | move x=>exact goes_val hb hs rfl h
 | assign x=>exact goes_val hb hs rfl h
 | pick c x y=>
  obtain⟨t,h1,h2⟩:=h
  exact goes_val hb hs (by simp[aX,h1]) h2
 | alloc t=>
  simp only[W0.op,W0.zof]at h
  split at h
  ·rename_i cs hc
   exact iP hb hs hlt h0 ⟨rfl,by simp[ac]⟩ (by simp only[aX,hc]) (h b hnb)
  ·exact h.elim
 | box t x=>
  obtain⟨cs,h1,h2,h3⟩:=h
  exact iP hb hs hlt h0 ⟨rfl,by simp[ac]⟩ (by simp only[aX,h1,h2,if_true]) (h3 b hnb)
 | build t parts=>
  simp only[W0.op]at h
  split at h
  ·rename_i fs z hu hz
   split at h
   ·rename_i hall
    split at h
    ·rename_i ps hps
     obtain⟨cs,h1,h2⟩:=h
     refine goes_val hb hs ?_ h2
     have:=vP (place:=jk P fs) (parts.toList.map fun p=>(p.1,ρ p.2)) ps z cs (by rw[List.map_map];exact hps) h1
     simp only[aX,vA,hu,hz]
     rw[if_pos hall,this]
     rfl
    ·exact h.elim
   ·exact h.elim
  ·rename_i len e z hu hz
   split at h
   ·rename_i n hn
    obtain⟨cs,h1,h2⟩:=h
    refine goes_val hb hs ?_ h2
    have:=vP (place:=fun i=>some (i*n,n)) (parts.toList.map fun p=>(p.1,ρ p.2)) (parts.toList.map fun p=>(p.1*n,n,ρ p.2)) z cs (by
     rw[List.map_map]
     exact qt (fun p:Nat×Operand=>(p.1*n,n,ρ p.2)) parts.toList) h1
    simp only[aX,vA,hu,hz,hn,Option.bind_some,this]
    rfl
   ·exact h.elim
  ·exact h.elim
 | buildSlice t len parts=>
  simp only[W0.op,W0.zof]at h
  split at h
  ·rename_i e hu
   split at h
   ·rename_i n z hn hz
    split at h
    ·rename_i hc
     obtain⟨h1,rows,h2,h3⟩:=h
     exact iP hb hs hlt h0 ⟨rfl,by simp[ac]⟩ (by simp only[aX,hu,hn,hz];rw[if_pos ⟨hc.1,hc.2,h1⟩,h2];rfl) (h3 b hnb)
    ·exact h.elim
   ·exact h.elim
  ·exact h.elim
 | load t a=>
  simp only[W0.op]at h
  split at h
  ·rename_i ag n hag hn
   obtain⟨v,g1,g2⟩:=CF hs hag hn h
   exact goes_val hb hs (by simp[aX,g1]) g2
  ·exact h.elim
 | store t a x=>
  simp only[W0.op]at h
  split at h
  ·rename_i n hn
   unfold W0.storeR at h
   split at h
   ·rename_i c i off ha
    obtain⟨y,r,cs,L',g1,g2,g3,g4,g5,g6,g7⟩:=h
    have hg:=hs.get _ g6.mem
    simp only at hg
    refine .inl ⟨_,_,L',?_,.put hb hs g6,fun hm=>absurd (g6.names▸hm) hnb,g7⟩
    simp only[aX,eH,ha,g2,hn,hg,g1]
    rw[if_pos ⟨g3,g4,g5⟩]
    rfl
   ·exact h.elim
  ·exact h.elim
 | nilCheck x=>
  simp only[W0.op,W0.nilchk]at h
  split at h
  ·rename_i hx;exact goes_val hb hs (by simp[aX,hx]) h
  ·rename_i hx;exact goes_val hb hs (by simp[aX,hx]) h
  ·rename_i hx;exact goes_val hb hs (by simp[aX,hx]) h
  ·exact h.elim
 | binOp op t x y c=>
  obtain⟨v,h1,h2⟩:=h
  exact goes_val hb hs (by simp[aX,h1]) h2
 | unOp op t x=>
  obtain⟨v,h1,h2⟩:=h
  exact goes_val hb hs (by simp[aX,h1]) h2
 | convert s d x=>
  simp only[W0.op]at h
  split at h
  ·rename_i h1 h2
   obtain⟨k',n,h3,h4⟩:=h
   exact goes_val hb hs (by simp[aX,Ag,h1,h2,h3]) h4
  ·rename_i h1 h2
   obtain⟨s,h3,h4⟩:=h
   exact goes_val hb hs (by simp[aX,Ag,h1,h2,h3]) h4
  ·exact h.elim
 | makeFunc fn first cap=>
  cases fn with
  | func f=>
   simp only[W0.op]at h
   split at h
   ·rename_i h1;exact goes_val hb hs (by simp only[aX];rw[if_pos h1]) h
   ·exact h.elim
  | _=>exact h.elim
 | makeSlice t l c=>
  simp only[W0.op,W0.zof]at h
  split at h
  ·rename_i e hu
   split at h
   ·rename_i n by_ z hn hby hz
    split at h
    ·rename_i hc
     obtain⟨k,k',i,j,h1,h2,h3,h4,h5,h6⟩:=h
     refine iP hb hs hlt h0 ⟨rfl,by simp[ac]⟩ ?_ (h6 b hnb)
     simp only[aX,hu,hn,hby,hz,h1,h2,jI]
     simp only[Int.natCast_nonneg,if_true,Int.toNat_natCast]
     rw[if_pos ⟨hc.1,hc.2,h3,h4,h5⟩]
    ·exact h.elim
   ·exact h.elim
  ·exact h.elim
 | slice t x lo hi mx=>
  simp only[W0.op]at h
  split at h
  ·exact h.elim
  ·rename_i hhm
   split at h
   ·rename_i e hu
    split at h
    ·rename_i n hn
     obtain⟨len,l,hh,m,g1,g2,g3,g4,g5,g6,g7,g8⟩:=h
     have key:∀v,iw P (jl H (ρ x)) t (ρ x) (lo.map ρ) (hi.map ρ) (mx.map ρ)=some v→K v L→D8 P F (.slice t x lo hi mx) ρ b L H K:=fun v hv hk=>
      goes_val hb hs (by simp only[aX];rw[if_neg hhm,hv];rfl) hk
     split at g8
     ·rename_i hx
      refine key _ ?_ g8
      rw[hx]at g1
      simp only[iw,hu,hx,g1,g2,g3,g4]
      rw[if_pos ⟨⟨g5,g6,g7⟩,by rw[hn];rfl⟩]
     ·rename_i c i q hx
      obtain⟨⟨y,k1,k2⟩,k3⟩:=g8
      refine key _ ?_ k3
      have hg:=hs.get _ k1
      simp only at hg
      rw[hx]at g1
      simp only[iw,hu,hx,g1,g2,g3,g4]
      rw[if_pos ⟨⟨g5,g6,g7⟩,by rw[hn];rfl⟩]
      simp only[jl,hg,Option.map_some,k2]
      rw[if_pos ⟨rfl,hn⟩]
     ·rename_i rows hx
      obtain⟨k2,k3⟩:=g8
      refine key _ ?_ k3
      rw[hx]at g1
      simp only[iw,hu,hx,g1,g2,g3,g4]
      rw[if_pos ⟨⟨g5,g6,g7⟩,by rw[hn];rfl⟩]
      cases rows with
      | nil=>simp
      | cons r rs=>simp only[hn,k2 r rfl,if_true]
     ·exact g8.elim
    ·exact h.elim
   ·rename_i hu
    split at h
    ·rename_i hmx
     obtain⟨s,l,hh,g1,g2,g3,g4,g5,g6⟩:=h
     refine goes_val hb hs ?_ g6
     have:mx=none:=by simpa using hmx
     subst this
     simp only[aX]
     rw[if_neg hhm]
     simp only[iw,hu,g1,Option.map_none]
     rw[show cf (Option.map ρ lo) 0=some l from g2,show cf (Option.map ρ hi) s.length=some hh from g3]
     simp[g4,g5]
    ·exact h.elim
   ·exact h.elim
 | fieldAddr s x f=>
  simp only[W0.op]at h
  split at h
  ·rename_i fs hu
   split at h
   ·rename_i fl hf
    split at h
    ·rename_i n hn
     split at h
     ·exact h.elim
     ·rename_i hn0
      unfold W0.faddr at h
      split at h
      ·rename_i hx
       exact goes_val hb hs (by simp[aX,ge,hu,hf,hn,hn0,hx]) h
      ·rename_i hx
       exact goes_val hb hs (by simp[aX,ge,hu,hf,hn,hn0,hx]) h
      ·exact h.elim
    ·exact h.elim
   ·exact h.elim
  ·exact h.elim
 | field s x f=>
  simp only[W0.op]at h
  split at h
  ·rename_i fs hu
   split at h
   ·rename_i fl hf
    split at h
    ·rename_i ag n hag hn
     obtain⟨cs,v,g1,g2,g3⟩:=h
     exact goes_val hb hs (by simp[aX,zk,hu,hf,g1,qr hag hn g2]) g3
    ·exact h.elim
   ·exact h.elim
  ·exact h.elim
 | indexAddr t x ix=>
  simp only[W0.op]at h
  split at h
  ·rename_i e hu
   split at h
   ·rename_i n hn
    unfold W0.idxR at h
    split at h
    ·rename_i c j m hx
     obtain⟨k,i,y,g1,g2,g3,g4,g5,g6⟩:=h
     have hg:=hs.get _ g4
     simp only at hg
     refine goes_val hb hs ?_ g6
     have hneg:¬i<0:=by omega
     simp[aX,c8,hx,g1,hneg,hu,jl,hg,g3,g5,hn]
    ·rename_i rows hx
     obtain⟨k,i,r,g1,g2,g3,g4,g5⟩:=h
     refine goes_val hb hs ?_ g5
     have hneg:¬i<0:=by omega
     simp[aX,c8,hx,g1,hneg,hu,g3,g4,hn]
    ·exact h.elim
   ·exact h.elim
  ·rename_i len e hu
   split at h
   ·rename_i n hn
    obtain⟨k,i,g1,g2,g3,g4⟩:=h
    have hneg:¬i<0:=by omega
    split at g4
    ·rename_i hx
     exact goes_val hb hs (by simp[aX,c8,hx,g1,hneg,hu,g3,hn]) g4
    ·rename_i hx
     exact goes_val hb hs (by simp[aX,c8,hx,g1,hneg,hu,g3,hn]) g4
    ·exact g4.elim
   ·exact h.elim
  ·exact h.elim
 | index t x ix=>
  simp only[W0.op]at h
  split at h
  ·rename_i hu
   obtain⟨s,k,i,y,g1,g2,g3,g4,g5⟩:=h
   have hneg:¬i<0:=by omega
   exact goes_val hb hs (by simp[aX,vB,hu,g1,g2,hneg,g4]) g5
  ·rename_i len e hu
   split at h
   ·rename_i ag n hag hn
    obtain⟨cs,k,i,v,g1,g2,g3,g4,g5,g6⟩:=h
    refine goes_val hb hs ?_ g6
    simp only[aX,vB,hu,g1,g2]
    rw[if_pos ⟨g3,g4⟩,hn]
    simp only[Option.bind_some,qr hag hn g5]
    rfl
   ·exact h.elim
  ·exact h.elim
 | extract x i=>
  obtain⟨vs,v,g1,g2,g3⟩:=h
  exact goes_val hb hs (by simp[aX,g1,g2]) g3
 | call c=>
  simp only[W0.op]at h
  split at h
  ·rename_i hc
   split at h
   ·rename_i x e ha ht
    obtain⟨n,g1,g2⟩:=h
    refine goes_val hb hs ?_ g2
    cases hx:ρ x<;>rw[hx]at g1<;>first | (cases g1;done) | simp[aX,hc,ha,aV,hx,ht,g1]
   ·rename_i x ha ht
    obtain⟨s,g1,g2⟩:=h
    exact goes_val hb hs (by simp[aX,hc,ha,aV,g1,ht]) g2
   ·rename_i x n e ha ht
    split at h
    ·exact h.elim
    ·rename_i hne
     refine goes_val hb hs ?_ h
     cases hx:ρ x<;>first | (exact absurd hx (hne _)) | simp[aX,hc,ha,aV,hx,ht]
   ·exact h.elim
  ·rename_i hc
   split at h
   ·rename_i s x t tx ha ht
    split at h
    ·rename_i e e' hu hux
     split at h
     ·rename_i n by_ z hn hby hz
      split at h
      ·rename_i hcn
       obtain⟨l,m,g1,g2,g3,g4,g5,g6⟩:=h
       have r1:=AL hs g1
       have r2:=AL hs g2
       have key:∀v H',cu P H b t (ρ s) (ρ x)=some (v,H')→aX P F (.call c) ρ b H=some (.val v H'):=fun v H' hv=>by
        simp only[aX,hc,ha,List.map_cons,List.map_nil,aV,ht,hux,hv]
        rfl
       have hz':(dY P e).bind AV.cells? =some z:=hz
       split at g6
       ·rename_i hx
        by_cases hm:m.length=0
        ·exact goes_val hb hs (key _ _ (by rw[hx]at r1 ⊢;simp only[cu,hu,hn,hby,hz',r1,r2];rw[if_pos ⟨g3,g4,hcn.2,hcn.1,g5⟩,if_pos hm])) (g6.1 hm)
        ·exact iP hb hs hlt h0 ⟨by simp[W0.makes,hc],by simp[ac]⟩ (key _ _ (by rw[hx]at r1 ⊢;simp only[cu,hu,hn,hby,hz',r1,r2];rw[if_pos ⟨g3,g4,hcn.2,hcn.1,g5⟩,if_neg hm])) (g6.2 hm b hnb)
       ·rename_i hx
        by_cases hm:m.length=0
        ·exact goes_val hb hs (key _ _ (by rw[hx]at r1 ⊢;simp only[cu,hu,hn,hby,hz',r1,r2];rw[if_pos ⟨g3,g4,hcn.2,hcn.1,g5⟩,if_pos hm])) (g6.1 hm)
        ·exact iP hb hs hlt h0 ⟨by simp[W0.makes,hc],by simp[ac]⟩ (key _ _ (by rw[hx]at r1 ⊢;simp only[cu,hu,hn,hby,hz',r1,r2];rw[if_pos ⟨g3,g4,hcn.2,hcn.1,g5⟩,if_neg hm])) (g6.2 hm b hnb)
       ·rename_i b' i' k' hx
        obtain⟨y,L',k1,k2⟩:=g6
        have f1:=jY.del (b:=b) hb hs k1
        have hb':b≠b':=fun e=>by
         have:=hs.get _ (k1.perm.mem_iff.2 List.mem_cons_self)
         rw[←e,h0]at this;cases this
        have f2:jY b L' (H.put b' none) ((b,⟨n,l++m⟩)::L') ((H.put b' none).new b ⟨n,l++m⟩):=.new f1.bd f1.sub hlt (by rw[ah.get_put,if_neg (fun e=>hb' e.symm)];exact h0) _
        exact .inl ⟨_,_,_,key _ _ (by rw[hx]at r1 ⊢;simp only[cu,hu,hn,hby,hz',r1,r2];rw[if_pos ⟨g3,g4,hcn.2,hcn.1,g5⟩]),f1.trans f2,fun _=>⟨by simp[W0.makes,hc],by simp[ac]⟩,k2 b hnb⟩
       ·exact g6.elim
      ·exact h.elim
     ·exact h.elim
    ·exact h.elim
   ·exact h.elim
  ·rename_i hc
   split at h
   ·rename_i x y ha
    obtain⟨k,a,d,g1,g2,g3⟩:=h
    exact goes_val hb hs (by simp[aX,hc,ha,aV,g1,g2]) g3
   ·exact h.elim
  ·rename_i hc
   split at h
   ·rename_i x y ha
    obtain⟨k,a,d,g1,g2,g3⟩:=h
    exact goes_val hb hs (by simp[aX,hc,ha,aV,g1,g2]) g3
   ·exact h.elim
  ·rename_i hc
   split at h
   ·rename_i x t ha ht
    split at h
    ·rename_i e hu
     split at h
     ·rename_i n z hn hz
      have hz':(dY P e).bind AV.cells? =some z:=hz
      split at h
      ·rename_i hcn
       have key:∀H',dO P H t (ρ x)=some H'→aX P F (.call c) ρ b H=some (.val (.tup []) H'):=fun H' hv=>by
        simp only[aX,hc,ha,List.map_cons,List.map_nil,aV,ht,hv]
        rfl
       unfold W0.clearR at h
       split at h
       ·rename_i hx
        exact goes_val hb hs (key _ (by rw[hx];simp only[dO,hu,hn,hz'])) h
       ·rename_i d i k hx
        obtain⟨y,L',g1,g2,g3,g4⟩:=h
        have hg:=hs.get _ g3.mem
        simp only at hg
        refine .inl ⟨_,_,L',key _ ?_,.put hb hs g3,fun hm=>absurd (g3.names▸hm) hnb,g4⟩
        rw[hx]
        simp only[dO,hu,hn,hz',hg]
        rw[if_pos ⟨⟨g1,hcn.1.1⟩,⟨hcn.1.2,g2⟩,hcn.2⟩]
       ·exact h.elim
      ·exact h.elim
     ·exact h.elim
    ·exact h.elim
   ·exact h.elim
  ·rename_i f hc
   split at h
   ·rename_i g cs hf
    exact .inr ⟨g,_,by simp[aX,hc,hf],h⟩
   ·exact h.elim
  ·exact h.elim
 | _=>exact h.elim
end
end Go.Proofs.YtljkdffikfkcgaaGreat.Am
end
