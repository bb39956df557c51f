/- A part of the proof; the statement is proved in the last part. -/
import Derived.Test.YtljkdffikfkcgaaQ2c
import Derived.Test.YtljkdffikfkcgaaProg
import Derived.KernelRfl
import Derived.IntWalk
set_option linter.unusedSimpArgs false
set_option linter.unusedVariables false
section
namespace Go.Proofs.Ytljkdffikfkcgaa.Am
open Go.RowKit
set_option linter.unusedVariables false
namespace W
structure pick(c x y:AV)(K:AV→Prop):Prop where
 h:W0.pick c x y K
structure un(op:UnOp)(x:AV)(K:AV→Prop):Prop where
 h:W0.un op x K
structure bin(P:Program)(F:TypeId→Option (List TypeId))(op:BinOp)(t:TypeId)(x y:AV)(K:AV→Prop):Prop where
 h:W0.bin P F op t x y K
structure conv(k:IntKind)(x:AV)(K:AV→Prop):Prop where
 h:W0.conv k x K
structure convS(x:AV)(K:AV→Prop):Prop where
 h:W0.convS x K
structure faddr(off:Nat)(x:AV)(K:AV→Prop):Prop where
 h:W0.faddr off x K
structure fld(ag:Bool)(n off:Nat)(x:AV)(K:AV→Prop):Prop where
 h:W0.fld ag n off x K
structure load(ag:Bool)(n:Nat)(a:AV)(L:SH)(K:AV→Prop):Prop where
 h:W0.loadR ag n a L K
structure store(n:Nat)(a v:AV)(L:SH)(K:SH→Prop):Prop where
 h:W0.storeR n a v L K
structure idx(n:Nat)(x ix:AV)(L:SH)(K:AV→Prop):Prop where
 h:W0.idxR n x ix L K
structure idxP(len n:Nat)(x ix:AV)(K:AV→Prop):Prop where
 h:W0.idxP len n x ix K
structure ixS(x ix:AV)(K:AV→Prop):Prop where
 h:W0.ixS x ix K
structure ixA(ag:Bool)(len n:Nat)(x ix:AV)(K:AV→Prop):Prop where
 h:W0.ixA ag len n x ix K
structure ext(i:Nat)(x:AV)(K:AV→Prop):Prop where
 h:W0.ext i x K
structure nilchk(x:AV)(K:AV→Prop):Prop where
 h:W0.nilchk x K
structure build(z:List AV)(parts:List (Nat×Nat×AV))(K:AV→Prop):Prop where
 h:W0.build z parts K
structure alloc(cs:List AV)(L:SH)(K:AV→SH→Prop):Prop where
 h:W0.alloc cs L K
structure box(x:AV)(L:SH)(K:AV→SH→Prop):Prop where
 h:W0.box x L K
structure bslice(n:Nat)(z:List AV)(len:Nat)(parts:List (Nat×AV))(L:SH)(K:AV→SH→Prop):Prop where
 h:W0.bslice n z len parts L K
structure mslice(n by_:Nat)(z:List AV)(l c:AV)(L:SH)(K:AV→SH→Prop):Prop where
 h:W0.mslice n by_ z l c L K
structure append(n by_:Nat)(s x:AV)(L:SH)(K:AV→SH→Prop):Prop where
 h:W0.appendR n by_ s x L K
structure clear(n:Nat)(z:List AV)(x:AV)(L:SH)(K:SH→Prop):Prop where
 h:W0.clearR n z x L K
structure len(x:AV)(K:AV→Prop):Prop where
 h:W0.len x K
structure lenS(x:AV)(K:AV→Prop):Prop where
 h:W0.lenS x K
structure mnx(mx:Bool)(x y:AV)(K:AV→Prop):Prop where
 h:W0.mnx mx x y K
structure slice(n:Nat)(x:AV)(lo hi mx:Option AV)(L:SH)(K:AV→Prop):Prop where
 h:W0.sliceR n x lo hi mx L K
structure sliceS(x:AV)(lo hi:Option AV)(K:AV→Prop):Prop where
 h:W0.sliceS x lo hi K
structure call(P:Program)(fv:AV)(args:List AV)(L:SH)(K:AV→SH→Prop):Prop where
 h:match fv with
  | .fn g cs=>am P g (args++cs) L K
  | _=>False
section
variable (P:Program) (F:TypeId→Option (List TypeId))
def op(o:Op)(ρ:Operand→AV)(L:SH)(K:AV→SH→Prop):Prop:=
 let k:=fun v=>K v L
 match o with
 | .move x | .assign x=>K (ρ x) L
 | .pick c x y=>pick (ρ c) (ρ x) (ρ y) k
 | .alloc t=>match W0.zof P t with
  | some cs=>alloc cs L K
  | none=>False
 | .box _ x=>box (ρ x) L K
 | .build t parts=>match P.underlying t,dT P t with
  | some (.struct fs),some (.agg z)=>if(fs.toList.all fun f=>(aS P f.type).isSome)=true then
    (match cE (parts.toList.map fun p=>(ja P fs p.1).map fun q=>(q.1,q.2,ρ p.2))with
     | some ps=>build z ps k
     | none=>False)
   else False
  | some (.array _ e),some (.agg z)=>(match aS P e with
   | some n=>build z (parts.toList.map fun p=>(p.1*n,n,ρ p.2)) k
   | none=>False)
  | _,_=>False
 | .buildSlice t len parts=>match P.underlying t with
  | some (.slice e)=>match aS P e,W0.zof P e with
   | some n,some z=>if z.length=n∧0<n then bslice n z len (parts.toList.map fun p=>(p.1,ρ p.2)) L K else False
   | _,_=>False
  | _=>False
 | .load t a=>match dI P t,aS P t with
  | some ag,some n=>load ag n (ρ a) L k
  | _,_=>False
 | .store t a x=>match aS P t with
  | some n=>store n (ρ a) (ρ x) L (K (.tup []))
  | none=>False
 | .nilCheck x=>nilchk (ρ x) k
 | .binOp op t x y _=>bin P F op t (ρ x) (ρ y) k
 | .unOp op _ x=>un op (ρ x) k
 | .convert s d x=>match P.underlying s,P.underlying d with
  | some (.int _),some (.int kd)=>conv kd (ρ x) k
  | some .string,some .string=>convS (ρ x) k
  | _,_=>False
 | .makeFunc (.func f) first cap=>if first.size=0 then K (.fn f (cap.toList.map ρ)) L else False
 | .makeSlice t l c=>match P.underlying t with
  | some (.slice e)=>match aS P e,f6 P e,W0.zof P e with
   | some n,some by_,some z=>if z.length=n∧0<n then mslice n by_ z (ρ l) (ρ c) L K else False
   | _,_,_=>False
  | _=>False
 | .slice t x lo hi mx=>if(hi.isNone&&mx.isSome)=true then False else match P.underlying t with
  | some (.slice e)=>(match aS P e with
   | some n=>slice n (ρ x) (lo.map ρ) (hi.map ρ) (mx.map ρ) L k
   | none=>False)
  | some .string=>if mx.isNone=true then sliceS (ρ x) (lo.map ρ) (hi.map ρ) k else False
  | _=>False
 | .fieldAddr s x f=>match P.underlying s with
  | some (.struct fs)=>match fs[f]? with
   | some f=>(match aS P f.type with
    | some n=>if n=0 then False else faddr f.offset (ρ x) k
    | none=>False)
   | none=>False
  | _=>False
 | .field s x f=>match P.underlying s with
  | some (.struct fs)=>match fs[f]? with
   | some f=>(match dI P f.type,aS P f.type with
    | some ag,some n=>fld ag n f.offset (ρ x) k
    | _,_=>False)
   | none=>False
  | _=>False
 | .indexAddr t x ix=>match P.underlying t with
  | some (.slice e)=>(match aS P e with
   | some n=>idx n (ρ x) (ρ ix) L k
   | none=>False)
  | some (.array len e)=>(match aS P e with
   | some n=>idxP len n (ρ x) (ρ ix) k
   | none=>False)
  | _=>False
 | .index t x ix=>match P.underlying t with
  | some .string=>ixS (ρ x) (ρ ix) k
  | some (.array len e)=>(match dI P e,aS P e with
   | some ag,some n=>ixA ag len n (ρ x) (ρ ix) k
   | _,_=>False)
  | _=>False
 | .extract x i=>ext i (ρ x) k
 | .call c=>match c.callee with
  | .builtin .len=>(match c.args.toList,(c.argTypes[0]?).bind P.underlying with
   | [x],some (.slice _)=>len (ρ x) k
   | [x],some .string=>lenS (ρ x) k
   | [x],some (.array n _)=>(match ρ x with | .str _=>False | _=>K (.int .i64 n) L)
   | _,_=>False)
  | .builtin .append=>(match c.args.toList,c.argTypes.toList with
   | [s,x],[t,tx]=>(match P.underlying t,P.underlying tx with
    | some (.slice e),some (.slice _)=>(match aS P e,f6 P e,W0.zof P e with
     | some n,some by_,some z=>if z.length=n∧0<n then append n by_ (ρ s) (ρ x) L K else False
     | _,_,_=>False)
    | _,_=>False)
   | _,_=>False)
  | .builtin .min=>(match c.args.toList with
   | [x,y]=>mnx false (ρ x) (ρ y) k
   | _=>False)
  | .builtin .max=>(match c.args.toList with
   | [x,y]=>mnx true (ρ x) (ρ y) k
   | _=>False)
  | .builtin .clear=>(match c.args.toList,c.argTypes.toList with
   | [x],[t]=>(match P.underlying t with
    | some (.slice e)=>(match aS P e,W0.zof P e with
     | some n,some z=>if(z.length=n∧0<n)∧z.all AV.one=true then clear n z (ρ x) L (K (.tup []))else False
     | _,_=>False)
    | _=>False)
   | _,_=>False)
  | .value f=>call P (ρ f) (c.args.toList.map ρ) L K
  | _=>False
 | _=>False
end
theorem op_raw{P:Program}{F:TypeId→Option (List TypeId)}{o:Op}{ρ:Operand→AV}{L:SH}{K:AV→SH→Prop}(h:op P F o ρ L K):W0.op P F o ρ L K:=by
 cases o with
 | makeFunc fn first cap=>
  cases fn with
  | func f=>
   simp only[op]at h
   simp only[W0.op]
   split at h
   ·rename_i hc;rw[if_pos hc];exact h
   ·exact h.elim
  | _=>exact h
 | move x=>exact h
 | assign x=>exact h
 | pick c x y=>exact h.h
 | box t x=>exact h.h
 | nilCheck x=>exact h.h
 | binOp op t x y c=>exact h.h
 | unOp op t x=>exact h.h
 | extract x i=>exact h.h
 | alloc t | build t ps | buildSlice t l ps | load t a | store t a x | convert s d x | makeSlice t l c | slice t x lo hi mx | fieldAddr s x f | field s x f | indexAddr t x ix | index t x ix | call c=>
  simp only[op]at h
  simp only[W0.op]
  repeat' split at h
  all_goals first
   | exact h.elim
   | (have h:=h.h;split at h<;>first | exact h.elim | (simp only[*];exact h))
   | (simp only[*,if_true,and_self];first | exact h.h | exact h)
   | (simp_all;done)
   | (simp_all;first | exact h.h | exact h)
 | _=>exact h.elim
structure grd(x:AV)(want:Bool)(A:(AV→SH→Prop)→Prop)(L:SH)(K:AV→SH→Prop):Prop where
 h:(x=.bool want∧A K)∨((x=.bool (!want)∨x=aZ)∧K aZ L)
section
variable (P:Program) (F:TypeId→Option (List TypeId)) (ops:Array Oper)
def sq:List Nat→List AV→SH→(List AV→SH→Prop)→Prop
 | [],τ,L,K=>K τ L
 | i::l,τ,L,K=>match ops[i]? with
  | none=>False
  | some o=>match o.guard with
   | none=>op P F o.op (gP τ) L fun v L=>sq l (ey τ o.dst v) L K
   | some (j,want)=>match (ops[j]?).bind (·.dst)with
    | some d=>grd (τ.getD d .junk) want (op P F o.op (gP τ) L) L fun v L=>sq l (ey τ o.dst v) L K
    | none=>False
structure WR where
 op:Nat
 reads:List Nat
 writes:List Nat
 made:List Nat
 isCall:Bool
 old:List Nat
def free(x y:WR):Prop:=(∀c∈x.writes,c∉y.reads∧c∉y.writes)∧(∀c∈x.reads,c∉y.writes)∧(∀c∈x.made,c∉y.reads∧c∉y.writes)∧
 (x.isCall=true→y.isCall=false∧y.writes=[]∧∀c∈y.reads,c∈x.old)∧(y.isCall=true→x.writes=[])
def isMem:Op→Bool
 | .load .. | .store .. | .indexAddr .. | .slice .. | .alloc .. | .box .. | .buildSlice .. | .makeSlice ..=>true
 | .call c=>match c.callee with
  | .builtin .append=>true
  | .builtin .clear=>true
  | _=>false
 | _=>false
structure calm(us:List WR)(y:WR)(A:Prop):Prop where
 h:(∀x∈us,free x y)∧A
structure dcall(us:List WR)(i:Nat)(fv:AV)(args:List AV)(L:SH)(K:AV→SH→List Nat→Prop):Prop where
 h:match fv with
  | .fn g cs=>∃Kc R:SH,L.Perm (Kc++R)∧(∀x∈us,free x ⟨i,[],Kc.names,[],true,[]⟩)∧am P g (args++cs) Kc fun v K'=>K v (K'++R) Kc.names
  | _=>False
structure Fp where
 reads:List Nat
 writes:List Nat
 made:List Nat
 old:List Nat
def isCallV:Op→Bool
 | .call c=>match c.callee with
  | .value _=>true
  | _=>false
 | _=>false
structure note(r0:Fp)(K:Fp→Prop):Prop where
 h:∀r,r=r0→K r
def dop(us:List WR)(i:Nat)(o:Op)(ρ:Operand→AV)(L:SH)(K:AV→SH→Fp→Prop):Prop:=
 match o with
 | .call c=>match c.callee with
  | .value f=>dcall P us i (ρ f) (c.args.toList.map ρ) L fun v L' ks=>note ⟨[],ks,[],L.names⟩ fun r=>K v L' r
  | .builtin .append=>(match c.args.toList with
   | [s,x]=>calm us ⟨i,af (ρ s)++af (ρ x),af (ρ s),[],false,[]⟩ (op P F o ρ L fun v L'=>note ⟨af (ρ s)++af (ρ x),af (ρ s),af v,[]⟩ fun r=>K v L' r)
   | _=>False)
  | .builtin .clear=>(match c.args.toList with
   | [x]=>calm us ⟨i,af (ρ x),af (ρ x),[],false,[]⟩ (op P F o ρ L fun v L'=>note ⟨af (ρ x),af (ρ x),[],[]⟩ fun r=>K v L' r)
   | _=>False)
  | _=>op P F o ρ L fun v L'=>K v L' ⟨[],[],[],[]⟩
 | o=>if isMem o then calm us ⟨i,aR o ρ,aG o ρ,[],false,[]⟩ (op P F o ρ L fun v L'=>note ⟨aR o ρ,aG o ρ,if W0.makes o then af v else [],[]⟩ fun r=>K v L' r)
  else op P F o ρ L fun v L'=>K v L' ⟨[],[],[],[]⟩
def push(i:Nat)(o:Op)(r:Fp)(rs:List WR):List WR:=if isCallV o||isMem o then⟨i,r.reads,r.writes,r.made,isCallV o,r.old⟩::rs else rs
structure dgrd(x:AV)(want:Bool)(A:(AV→SH→Fp→Prop)→Prop)(L:SH)(K:AV→SH→Fp→Prop):Prop where
 h:(x=.bool want∧A K)∨((x=.bool (!want)∨x=aZ)∧K aZ L ⟨[],[],[],L.names⟩)
def dr(before:List Nat):List Nat→List AV→SH→List WR→(List AV→SH→Prop)→Prop
 | [],τ,L,_,K=>K τ L
 | i::l,τ,L,rs,K=>match ops[i]? with
  | none=>False
  | some o=>match o.guard with
   | none=>dop P F (rs.filter fun x=>!(before.getD i 0).testBit x.op) i o.op (gP τ) L fun v L r=>dr before l (ey τ o.dst v) L (push i o.op r rs) K
   | some (j,want)=>match (ops[j]?).bind (·.dst)with
    | some d=>dgrd (τ.getD d .junk) want (dop P F (rs.filter fun x=>!(before.getD i 0).testBit x.op) i o.op (gP τ) L) L fun v L r=>dr before l (ey τ o.dst v) L (push i o.op r rs) K
    | none=>False
end
end W
section
variable {P:Program} {F:TypeId→Option (List TypeId)} {ops:Array Oper} {base:Nat}
open Classical in
noncomputable def Cr (g:FuncId) (as_:List AV) (Hi:ah) (v:AV) (Ho:ah) (call:FuncId→List AV→ah→Option (AV×ah)):FuncId→List AV→ah→Option (AV×ah):=
 fun f args H=>if f=g∧args=as_∧H=Hi then some (v,Ho)else call f args H
def Ad(call:FuncId→List AV→ah→Option (AV×ah)):Prop:=∀f args H v H',Bd H→call f args H=some (v,H')→ub H H'
theorem w8{g:FuncId}{as_:List AV}{Hi Ho:ah}{v:AV}{call:FuncId→List AV→ah→Option (AV×ah)}(hs:dF P call)(hc:mT P g as_ Hi v Ho)(hn:Hi.next≤Ho.next)(hb:∃fn c,P.funcs[g]? =some fn∧fn.body=some c):dF P (Cr g as_ Hi v Ho call):=by
 refine⟨fun f args H u H' h=>?_,fun f args H u H' h=>?_,fun f args H u H' h=>?_⟩ <;>
 ·unfold Cr at h
  split at h
  ·rename_i hk;obtain⟨rfl,rfl,rfl⟩:=hk;cases h;assumption
  ·first | exact hs.ok _ _ _ _ _ h | exact hs.next _ _ _ _ _ h | exact hs.body _ _ _ _ _ h
theorem AS{g:FuncId}{as_:List AV}{Hi Ho:ah}{v:AV}{call:FuncId→List AV→ah→Option (AV×ah)}(hs:Ad call)(hc:Bd Hi→ub Hi Ho):Ad (Cr g as_ Hi v Ho call):=fun f args H u H' hb h=>by
 unfold Cr at h
 split at h
 ·rename_i hk;obtain⟨rfl,rfl,rfl⟩:=hk;cases h;exact hc hb
 ·exact hs _ _ _ _ _ hb h
theorem AT{g:FuncId}{as_:List AV}{Hi Ho:ah}{v:AV}{call:FuncId→List AV→ah→Option (AV×ah)}:Cr g as_ Hi v Ho call g as_ Hi=some (v,Ho):=by unfold Cr;rw[if_pos ⟨rfl,rfl,rfl⟩]
theorem w9{g:FuncId}{as_:List AV}{Hi Ho:ah}{v:AV}{call:FuncId→List AV→ah→Option (AV×ah)}{f:FuncId}{args:List AV}{H:ah}(h:Hi.next<H.next):Cr g as_ Hi v Ho call f args H=call f args H:=by
 unfold Cr
 rw[if_neg]
 rintro⟨_,_,rfl⟩
 omega
theorem yP{call1 call2:FuncId→List AV→ah→Option (AV×ah)}{i:Nat}{τ:List AV}{H:ah}(h:∀f args,call1 f args H=call2 f args H):gS P F call1 ops base i τ H=gS P F call2 ops base i τ H:=by
 unfold gS
 split
 ·rfl
 ·split
  ·split
   ·rfl
   ·rw[h]
   ·rfl
  ·rfl
  ·rfl
theorem uI{call1 call2:FuncId→List AV→ah→Option (AV×ah)}{n:Nat}(hag:∀f args H,n<H.next→call1 f args H=call2 f args H)(hs:dF P call1):∀(l:List Nat) (τ:List AV) (H:ah) (r:List AV×ah),n<H.next→jc P F call1 ops base l τ H=some r→jc P F call2 ops base l τ H=some r
 | [],τ,H,r,_,h=>h
 | i::l,τ,H,r,hn,h=>by
  unfold jc at h ⊢
  rw[←yP (call1:=call1) (fun f args=>hag f args H hn)]
  split at h
  ·rename_i τ1 H1 hst
   exact uI hag hs l τ1 H1 r (Nat.lt_of_lt_of_le hn (jf hs hst)) h
  ·cases h
theorem mT.bump{f:FuncId}{args:List AV}{H H1:ah}{v:AV}(h:mT P f args H v H1)(l:List Nat):mT P f args H v {H1 with next:=H1.next+1,log:=l}:=by
 intro w σ vs hW hvs
 refine(h w σ vs hW hvs).mono ?_
 rintro e w' ⟨v',σ',rfl,k1,k2,k3,k4⟩
 have ho:aQ σ' ({H1 with next:=H1.next+1,log:=l}:ah)=aQ σ' H1:=aQ.congr fun _=>rfl
 exact⟨v',σ',rfl,by rw[ho];exact k1,k2.congr (fun _=>rfl) (Nat.le_succ _),by rw[ho];exact k3,k4⟩
theorem Fr.chg{L L':SH}{H H':ah}(h:Fr H.next L H L' H')(l:List Nat)(hl:∀b,b∈H.log→b∈l)(hL:∀b,b∈L.names→b∈l)(n:Nat)(hn:H'.next≤n):ub H {H' with next:=n,log:=l} where
 next:=Nat.le_trans h.next hn
 dom:=fun b hb h0=>h.dom b hb h0
 keep:=fun b hb hnl=>by
  show H'.get b=H.get b
  cases hg:H.get b with
  | none=>exact h.dom b hb hg
  | some x=>exact(h.keep b x hg (fun hm=>hnl (hL b hm))).1
 log:=hl
 bd:=fun _ b hb=>h.bd b (Nat.le_trans hn hb)
theorem Bd.bump{H:ah}(h:Bd H)(l:List Nat)(n:Nat)(hn:H.next≤n):Bd {H with next:=n,log:=l}:=fun b hb=>h b (Nat.le_trans hn hb)
theorem jQ.fr{b:Nat}{L L':SH}{H H':ah}(h:jQ b L H L' H')(hb:base≤b):Fr base L H L' H':=
 ⟨Nat.le_of_eq h.next.symm,h.bd,h.sub,h.keep,fun c hc=>h.dom c (by omega),fun c hc hlt=>by
  rcases h.fresh c hc with rfl | h1
  ·omega
  ·exact h1⟩
theorem uJ{o:Oper}{τ:List AV}{j d:Nat}{want:Bool}(hg:o.guard=some (j,want))(hd:(ops[j]?).bind (·.dst)=some d)(h:τ.getD d .junk=.bool want):cO ops o τ=some true:=by
 have:τ[d]? =some (.bool want):=by
  cases hx:τ[d]? with
  | none=>rw[List.getD,hx]at h;cases h
  | some x=>rw[List.getD,hx]at h;exact congrArg some h
 simp[cO,hg,hd,this]
theorem xa{o:Oper}{τ:List AV}{j d:Nat}{want:Bool}(hg:o.guard=some (j,want))(hd:(ops[j]?).bind (·.dst)=some d)(h:τ.getD d .junk=.bool (!want)∨τ.getD d .junk=aZ):cO ops o τ=some false:=by
 rcases h with h | h
 ·have:τ[d]? =some (.bool (!want)):=by
   cases hx:τ[d]? with
   | none=>rw[List.getD,hx]at h;cases h
   | some x=>rw[List.getD,hx]at h;exact congrArg some h
  simp[cO,hg,hd,this]
 ·have:τ[d]? =some (.tup []):=by
   cases hx:τ[d]? with
   | none=>rw[List.getD,hx]at h;cases h
   | some x=>rw[List.getD,hx]at h;exact congrArg some h
  simp[cO,hg,hd,this]
theorem s5{o:Oper}{τ:List AV}(hg:o.guard=none):cO ops o τ=some true:=by simp[cO,hg]
theorem kg:∀(l:List Nat) (τ:List AV) (L:SH) (K:List AV→SH→Prop),W.sq P F ops l τ L K→l.Nodup→∀H,Bd H→iq L H→(∀i∈l,base+i<H.next∧H.get (base+i)=none)→base≤H.next→
  ∃call τ' H' L',dF P call∧Ad call∧jc P F call ops base l τ H=some (τ',H')∧Fr base L H L' H'∧K τ' L'
 | [],τ,L,K,h,_,H,hb,hs,_,_=>⟨Ac,τ,H,L,pR P,fun _ _ _ _ _ _ h=>(by cases h),rfl,.refl hb hs,h⟩
 | i::l,τ,L,K,h,hnd,H,hb,hs,hfr,hbase=>by
  have hnd':=List.nodup_cons.1 hnd
  have h0:=hfr i (by simp)
  unfold W.sq at h
  split at h
  ·exact h.elim
  ·rename_i o ho

   have go:∀(Kc:AV→SH→Prop),cO ops o τ=some true→W.op P F o.op (gP τ) L Kc→(∀v L1,Kc v L1→W.sq P F ops l (ey τ o.dst v) L1 K)→
     ∃call τ' H' L',dF P call∧Ad call∧jc P F call ops base (i::l) τ H=some (τ',H')∧Fr base L H L' H'∧K τ' L':=by
    intro Kc hw hop hk
    rcases xx (b:=base+i) hb hs h0.1 h0.2 (W.op_raw hop)with⟨v,H1,L1,g1,g2,_,g3⟩ | ⟨g,args,g1,g2⟩
    ·obtain⟨call,τ',H',L',k1,k2,k3,k4,k5⟩:=kg l (ey τ o.dst v) L1 K (hk v L1 g3) hnd'.2 H1 g2.bd g2.sub (fun j hj=>by
      have hj0:=hfr j (by simp[hj])
      refine⟨by rw[g2.next];exact hj0.1,g2.dom _ (fun e=>?_) hj0.2⟩
      have:j=i:=by omega
      exact hnd'.1 (this▸hj)) (by rw[g2.next];exact hbase)
     refine⟨call,τ',H',L',k1,k2,?_,(g2.fr (Nat.le_add_right _ _)).trans k4 (Nat.le_refl _),k5⟩
     unfold jc gS
     simp only[ho,hw,g1]
     exact k3
    ·obtain⟨bd,g3⟩:=g2
     obtain⟨v,H1,L1,c1,c2,c3⟩:=g3 H hb hs
     have hH1:iq L1 ({H1 with next:=H1.next+1,log:=L.names++H.log}:ah):=c2.sub.congr fun _=>rfl
     obtain⟨call,τ',H',L',k1,k2,k3,k4,k5⟩:=kg l (ey τ o.dst v) L1 K (hk v L1 c3) hnd'.2 {H1 with next:=H1.next+1,log:=L.names++H.log} (c2.bd.bump _ _ (Nat.le_succ _)) hH1 (fun j hj=>by
      have hj0:=hfr j (by simp[hj])
      have:=c2.next
      exact⟨by show base+j<H1.next+1;omega,c2.dom _ hj0.1 hj0.2⟩) (by have:=c2.next;show base≤H1.next+1;omega)
     refine⟨Cr g args H v _ call,τ',H',L',w8 k1 (c1.bump _) (by have:=c2.next;show H.next≤H1.next+1;omega) bd,AS k2 fun _=>c2.chg _ (fun b hb=>List.mem_append_right _ hb) (fun b hb=>List.mem_append_left _ hb) _ (Nat.le_succ _),?_,?_,k5⟩
     ·unfold jc gS
      simp only[ho,hw,g1,AT]
      refine uI (n:=H.next) (fun f args K hK=>?_) k1 l _ _ _ (by have:=c2.next;show H.next<H1.next+1;omega) k3
      exact(w9 hK).symm
     ·refine Fr.trans (H':={H1 with next:=H1.next+1,log:=L.names++H.log}) ⟨by have:=c2.next;show H.next≤H1.next+1;omega,c2.bd.bump _ _ (Nat.le_succ _),hH1,c2.keep,fun b hb'=>c2.dom b (by omega),fun b h1 h2=>c2.fresh b h1 (by omega)⟩ k4 (Nat.le_refl _)
   split at h
   ·rename_i hg
    exact go _ (s5 hg) h fun v L1 h=>h
   ·rename_i j want hg
    split at h
    ·rename_i d hd
     rcases h.h with⟨h1,h2⟩ | ⟨h1,h2⟩
     ·exact go _ (uJ hg hd h1) h2 fun v L1 h=>h
     ·obtain⟨call,τ',H',L',k1,k2,k3,k4,k5⟩:=kg l (ey τ o.dst aZ) L K h2 hnd'.2 H hb hs (fun j hj=>hfr j (by simp[hj])) hbase
      refine⟨call,τ',H',L',k1,k2,?_,k4,k5⟩
      unfold jc gS
      simp only[ho,xa hg hd h1]
      exact k3
    ·exact h.elim
theorem bS.region{id:Nat}{τ:List AV}{L:SH}{Q:Ex→List AV→SH→Prop}(fit:Fit P F)(h:W.sq P F ops (List.range ops.size) τ L fun τ' L'=>Q .normal τ' L'):bS P (.region id ops false) τ L Q:=fun H hb hs=>by
 obtain⟨call,τ',H',L',k1,k2,k3,k4,k5⟩:=kg (base:=H.next) (List.range ops.size) τ L _ h List.nodup_range {H with next:=H.next+ops.size} (hb.bump _ _ (Nat.le_add_right _ _)) (hs.congr fun _=>rfl)
  (fun i hi=>⟨Nat.add_lt_add_left (List.mem_range.1 hi) _,hb _ (Nat.le_add_right _ _)⟩) (Nat.le_add_right _ _)
 have hr:cP P F call ops false τ H=some (τ',H'):=by simp only[cP,Bool.false_eq_true,if_false];exact k3
 exact⟨.normal,τ',H',L',eF fit k1 hr,⟨Nat.le_trans (Nat.le_add_right _ _) k4.next,k4.bd,k4.sub,k4.keep,k4.dom,k4.fresh⟩,k5⟩
end
end Go.Proofs.Ytljkdffikfkcgaa.Am
end
section
namespace Go.Proofs.Ytljkdffikfkcgaa.Am
open Go.RowKit
set_option linter.unusedVariables false
section
variable {P:Program} {F:TypeId→Option (List TypeId)} {ops:Array Oper} {base:Nat} {ρ:Operand→AV} {L:SH}
theorem yQ{o:Op}{b:Nat}{g:FuncId}{args:List AV}{H:ah}(h:aX P F o ρ b H=some (.call g args)):∃c f,o=.call c∧c.callee=.value f:=by
 cases o with
 | call c=>
  simp only[aX]at h
  split at h
  ·rename_i bi _
   cases hbi:aT P H b bi c.argTypes (c.args.toList.map ρ)with
   | none=>rw[hbi]at h;cases h
   | some r=>rw[hbi]at h;cases h
  ·rename_i f hf;exact⟨c,f,rfl,hf⟩
  ·cases h
 | makeFunc fn first cap=>cases fn<;>simp only[aX]at h<;>(try split at h)<;>simp at h
 | _=>
  exfalso
  simp only[aX]at h
  repeat' (first | (cases h;done) | (simp at h;done) | split at h)
theorem xy{o:Op}(h:W.isMem o=false):aR o ρ=[]∧aG o ρ=[]:=by
  cases o with
  | call c=>
    simp only[W.isMem]at h
    simp only[aR,aG]
    split at h
    · cases h
    · cases h
    · rename_i hn hn2
      constructor <;> · split
                        · rename_i he;exact absurd he hn
                        · rename_i he;exact absurd he hn2
                        · rfl
  | _=>first | (cases h;done) | exact⟨rfl,rfl⟩
theorem s6{n:Nat}{s:AV}{rows:List (List AV)}(h:W0.rowsR L n s rows):∀c∈af s,c∈L.names:=by
 intro c hc
 unfold W0.rowsR at h
 split at h
 ·simp[af]at hc
 ·simp[af]at hc
 ·simp[af]at hc
 ·obtain⟨x,h1,_⟩:=h
  simp only[af,List.mem_singleton]at hc
  subst hc
  exact List.mem_map_of_mem (f:=Prod.fst) h1
 ·exact h.elim
theorem yR{o:Op}{K:AV→SH→Prop}(h:W0.op P F o ρ L K):∀c∈aR o ρ,c∈L.names:=by
 intro c hc
 cases o with
 | load t a=>
  simp only[W0.op]at h
  split at h
  ·simp only[aR]at hc
   unfold W0.loadR at h
   split at h
   ·rename_i ha
    obtain⟨x,r,v,g1,_⟩:=h
    rw[ha]at hc
    simp only[af,List.mem_singleton]at hc
    subst hc
    exact List.mem_map_of_mem (f:=Prod.fst) g1
   ·rename_i ha;rw[ha]at hc;simp[af]at hc
   ·exact h.elim
  ·exact h.elim
 | store t a x=>
  simp only[W0.op]at h
  split at h
  ·simp only[aR]at hc
   unfold W0.storeR at h
   split at h
   ·rename_i ha
    obtain⟨x,r,cs,L',_,_,_,_,_,g1,_⟩:=h
    rw[ha]at hc
    simp only[af,List.mem_singleton]at hc
    subst hc
    exact List.mem_map_of_mem (f:=Prod.fst) g1.mem
   ·exact h.elim
  ·exact h.elim
 | indexAddr t x ix=>
  simp only[W0.op]at h
  simp only[aR]at hc
  split at h
  ·split at h
   ·unfold W0.idxR at h
    split at h
    ·rename_i hx
     obtain⟨k,i,y,_,_,_,g1,_⟩:=h
     rw[hx]at hc
     simp only[dw,List.mem_singleton]at hc
     subst hc
     exact List.mem_map_of_mem (f:=Prod.fst) g1
    ·rename_i hx;rw[hx]at hc;simp[dw]at hc
    ·exact h.elim
   ·exact h.elim
  ·split at h
   ·obtain⟨k,i,_,_,_,g⟩:=h
    split at g
    ·rename_i hx;rw[hx]at hc;simp[dw]at hc
    ·rename_i hx;rw[hx]at hc;simp[dw]at hc
    ·exact g.elim
   ·exact h.elim
  ·exact h.elim
 | slice t x lo hi mx=>
  simp only[W0.op]at h
  simp only[aR]at hc
  split at h
  ·exact h.elim
  ·split at h
   ·split at h
    ·obtain⟨len,l,hh,m,_,_,_,_,_,_,_,g⟩:=h
     split at g
     ·rename_i hx;rw[hx]at hc;simp[dw]at hc
     ·rename_i hx
      obtain⟨⟨y,g1,_⟩,_⟩:=g
      rw[hx]at hc
      simp only[dw,List.mem_singleton]at hc
      subst hc
      exact List.mem_map_of_mem (f:=Prod.fst) g1
     ·rename_i hx;rw[hx]at hc;simp[dw]at hc
     ·exact g.elim
    ·exact h.elim
   ·split at h
    ·obtain⟨s,l,hh,hx,_⟩:=h
     rw[hx]at hc;simp[dw]at hc
    ·exact h.elim
   ·exact h.elim
 | call k=>
  simp only[aR]at hc
  split at hc
  ·rename_i hcal
   simp only[W0.op,hcal]at h
   split at h
   ·rename_i s x t tx ha ht
    split at h
    ·split at h
     ·split at h
      ·obtain⟨l,m,g1,g2,_⟩:=h
       simp only[ha,List.flatMap_cons,List.flatMap_nil,List.append_nil,List.mem_append]at hc
       rcases hc with hc | hc
       ·exact s6 g1 c hc
       ·exact s6 g2 c hc
      ·exact h.elim
     ·exact h.elim
    ·exact h.elim
   ·exact h.elim
  ·rename_i hcal
   simp only[W0.op,hcal]at h
   split at h
   ·rename_i x t ha ht
    split at h
    ·split at h
     ·split at h
      ·simp only[ha,List.flatMap_cons,List.flatMap_nil,List.append_nil]at hc
       unfold W0.clearR at h
       split at h
       ·rename_i hx;rw[hx]at hc;simp[af]at hc
       ·rename_i hx
        obtain⟨y,L',_,_,g1,_⟩:=h
        rw[hx]at hc
        simp only[af,List.mem_singleton]at hc
        subst hc
        exact List.mem_map_of_mem (f:=Prod.fst) g1.mem
       ·exact h.elim
      ·exact h.elim
     ·exact h.elim
    ·exact h.elim
   ·exact h.elim
  ·simp at hc
 | _=>simp[aR]at hc
theorem En{o:Op}{K K2:AV→SH→Prop}(hK:∀v,K v L→K2 v L)(hm:W.isMem o=false)(hv:∀c f,o=.call c→c.callee≠.value f)(h:W0.op P F o ρ L K):W0.op P F o ρ L K2:=by
 cases o with
 | call c=>
  simp only[W0.op]at h ⊢
  split at h
  ·split at h
   ·obtain⟨n,g1,g2⟩:=h;exact⟨n,g1,hK _ g2⟩
   ·obtain⟨n,g1,g2⟩:=h;exact⟨n,g1,hK _ g2⟩
   ·split at h
    ·exact h
    ·exact hK _ h
   ·exact h
  ·rename_i hc;simp[W.isMem,hc]at hm
  ·split at h
   ·obtain⟨k,a,c,g1,g2,g3⟩:=h;exact⟨k,a,c,g1,g2,hK _ g3⟩
   ·exact h
  ·split at h
   ·obtain⟨k,a,c,g1,g2,g3⟩:=h;exact⟨k,a,c,g1,g2,hK _ g3⟩
   ·exact h
  ·rename_i hc;simp[W.isMem,hc]at hm
  ·rename_i f hc;exact absurd hc (hv c f rfl)
  ·exact h
 | move x=>exact hK _ h
 | assign x=>exact hK _ h
 | pick c x y=>obtain⟨t,g1,g2⟩:=h;exact⟨t,g1,hK _ g2⟩
 | build t parts=>
  simp only[W0.op]at h ⊢
  split at h
  ·split at h
   ·rename_i hall
    rw[if_pos hall]
    split at h
    ·obtain⟨cs,g1,g2⟩:=h;exact⟨cs,g1,hK _ g2⟩
    ·exact h
   ·exact h.elim
  ·split at h
   ·obtain⟨cs,g1,g2⟩:=h;exact⟨cs,g1,hK _ g2⟩
   ·exact h
  ·exact h
 | nilCheck x=>
  simp only[W0.op,W0.nilchk]at h ⊢
  split at h<;>first | exact hK _ h | exact h
 | binOp op t x y c=>obtain⟨v,g1,g2⟩:=h;exact⟨v,g1,hK _ g2⟩
 | unOp op t x=>obtain⟨v,g1,g2⟩:=h;exact⟨v,g1,hK _ g2⟩
 | convert s d x=>
  simp only[W0.op]at h ⊢
  split at h
  ·obtain⟨k,n,g1,g2⟩:=h;exact⟨k,n,g1,hK _ g2⟩
  ·obtain⟨s,g1,g2⟩:=h;exact⟨s,g1,hK _ g2⟩
  ·exact h
 | makeFunc fn first cap=>
  cases fn with
  | func f=>
   simp only[W0.op]at h ⊢
   split at h
   ·rename_i h0;rw[if_pos h0];exact hK _ h
   ·exact h.elim
  | _=>exact h
 | fieldAddr s x f=>
  simp only[W0.op]at h ⊢
  split at h
  ·split at h
   ·split at h
    ·split at h
     ·exact h.elim
     ·rename_i h0
      rw[if_neg h0]
      unfold W0.faddr at h ⊢
      split at h<;>first | exact hK _ h | exact h
    ·exact h
   ·exact h
  ·exact h
 | field s x f=>
  simp only[W0.op]at h ⊢
  split at h
  ·split at h
   ·split at h
    ·obtain⟨cs,v,g1,g2,g3⟩:=h;exact⟨cs,v,g1,g2,hK _ g3⟩
    ·exact h
   ·exact h
  ·exact h
 | index t x ix=>
  simp only[W0.op]at h ⊢
  split at h
  ·obtain⟨s,k,i,y,g1,g2,g3,g4,g5⟩:=h;exact⟨s,k,i,y,g1,g2,g3,g4,hK _ g5⟩
  ·split at h
   ·obtain⟨cs,k,i,v,g1,g2,g3,g4,g5,g6⟩:=h;exact⟨cs,k,i,v,g1,g2,g3,g4,g5,hK _ g6⟩
   ·exact h
  ·exact h
 | extract x i=>obtain⟨vs,v,g1,g2,g3⟩:=h;exact⟨vs,v,g1,g2,hK _ g3⟩
 | _=>first | (cases hm;done) | exact h
theorem kh{x y:mt}(hw:∀c∈x.writes,c∉y.reads∧c∉y.writes)(hr:∀c∈x.reads,c∉y.writes)(hm:∀c∈x.made,c∉y.reads∧c∉y.writes)
  (hc:x.isCall=true→y.isCall=false∧y.writes=[]∧∀c∈y.reads,c<x.lo) (hy:y.isCall=true→x.writes=[]):iy x y=false:=by
 have ap:∀l m:List Nat,(∀c∈l,c∉m)→apart l m=true:=fun l m h=>by simpa[apart]using h
 unfold iy
 rw[ap _ _ fun c h=>(hw c h).1,ap _ _ fun c h=>(hw c h).2,ap _ _ hr,ap _ _ fun c h=>(hm c h).1,ap _ _ fun c h=>(hm c h).2]
 cases hx:x.isCall with
 | true=>
  obtain⟨h1,h2,h3⟩:=hc hx
  simp only[h1,h2,List.isEmpty_nil,Bool.not_true,Bool.false_or,Bool.and_true,Bool.true_and,Bool.false_and,Bool.or_false]
  rw[List.any_eq_false]
  intro c hcm
  have:=h3 c hcm
  simp;omega
 | false=>
  cases hyc:y.isCall with
  | true=>simp[hy hyc]
  | false=>simp
theorem BD{us:List W.WR}{i:Nat}{o:Op}{K:AV→SH→W.Fp→Prop}(h:W.dop P F us i o ρ L K):
  (∃c f g cs,o=.call c∧c.callee=.value f∧ρ f=.fn g cs∧∃Kc R:SH,L.Perm (Kc++R)∧(∀x∈us,W.free x ⟨i,[],Kc.names,[],true,[]⟩)∧am P g (c.args.toList.map ρ++cs) Kc fun v K'=>W.note ⟨[],Kc.names,[],L.names⟩ fun r=>K v (K'++R) r) ∨
  (W.isMem o=true∧W.isCallV o=false∧(∀x∈us,W.free x ⟨i,aR o ρ,aG o ρ,[],false,[]⟩)∧W0.op P F o ρ L fun v L'=>W.note ⟨aR o ρ,aG o ρ,if W0.makes o then af v else [],[]⟩ fun r=>K v L' r) ∨
  (W.isMem o=false∧W.isCallV o=false∧(∀c f,o=.call c→c.callee≠.value f)∧W0.op P F o ρ L fun v L'=>K v L' ⟨[],[],[],[]⟩):=by
 cases o with
 | call c=>
  simp only[W.dop]at h
  split at h
  ·rename_i f hf
   have h:=h.h
   split at h
   ·rename_i g cs hg;exact .inl ⟨c,f,g,cs,rfl,hf,hg,h⟩
   ·exact h.elim
  ·rename_i hc
   split at h
   ·rename_i s x ha
    have h1:aR (.call c) ρ=af (ρ s)++af (ρ x):=by simp[aR,hc,ha]
    have h2:aG (.call c) ρ=af (ρ s):=by simp[aG,hc,ha]
    refine .inr (.inl ⟨by simp[W.isMem,hc],by simp[W.isCallV,hc],?_⟩)
    rw[h1,h2,show W0.makes (.call c)=true by simp[W0.makes,hc]]
    exact⟨h.h.1,W.op_raw h.h.2⟩
   ·exact h.elim
  ·rename_i hc
   split at h
   ·rename_i x ha
    have h1:aR (.call c) ρ=af (ρ x):=by simp[aR,hc,ha]
    have h2:aG (.call c) ρ=af (ρ x):=by simp[aG,hc,ha]
    refine .inr (.inl ⟨by simp[W.isMem,hc],by simp[W.isCallV,hc],?_⟩)
    rw[h1,h2,show W0.makes (.call c)=false by simp[W0.makes,hc]]
    exact⟨h.h.1,W.op_raw h.h.2⟩
   ·exact h.elim
  ·rename_i h1 h2 h3
   refine .inr (.inr ⟨?_,?_,fun c' f hc'=>?_,W.op_raw h⟩)
   ·simp only[W.isMem]
   ·simp only[W.isCallV]
   ·cases hc';exact h1 f
 | _=>first | exact .inr (.inl ⟨rfl,rfl,h.h.1,W.op_raw h.h.2⟩) | exact .inr (.inr ⟨rfl,rfl,fun c f hc=>(by cases hc),W.op_raw h⟩)
def BE(base k:Nat)(ws:List W.WR)(r:mt):Prop:=r.op<k∧
  ((r.isCall=false∧r.reads=[]∧r.writes=[]∧r.made=[base+r.op]) ∨
   ∃x∈ws,x.op=r.op∧r.reads=x.reads∧(∀c∈r.writes,c∈x.writes)∧r.isCall=x.isCall∧(r.isCall=true→r.made=[]∧∀c∈x.old,c<r.lo)∧(r.isCall=false→r.made=[base+r.op]))
theorem BE.more{k k':Nat}{ws ws':List W.WR}{r:mt}(h:BE base k ws r)(hk:k≤k')(hw:∀x∈ws,x∈ws'):BE base k' ws' r:=by
 refine⟨Nat.lt_of_lt_of_le h.1 hk,?_⟩
 rcases h.2 with h1 | ⟨x,h1,h2⟩
 ·exact .inl h1
 ·exact .inr ⟨x,hw x h1,h2⟩
def HL(base k:Nat)(L:SH)(ws:List W.WR):Prop:=∀j,j<k→base+j∈L.names→∃x∈ws,x.op=j∧base+j∈x.made
theorem uK{k:Nat}{ws:List W.WR}{mask:Nat}{r y:mt}{wy:W.WR}(hr:BE base k ws r)(hma:HL base k L ws)(hun:mask.testBit r.op=false)
  (hf:∀x∈ws.filter (fun x=>!mask.testBit x.op),W.free x wy) (h1:∀c∈y.reads,c∈wy.reads) (h2:∀c∈y.writes,c∈wy.writes) (h3:y.isCall=wy.isCall) (h4:wy.writes=[]→y.writes=[])
  (hL1:∀c∈wy.reads,c∈L.names) (hL2:∀c∈wy.writes,c∈L.names):iy r y=false:=by
 have mem:∀x∈ws,x.op=r.op→W.free x wy:=fun x hx he=>hf x (by rw[List.mem_filter];exact⟨hx,by rw[he,hun];rfl⟩)
 have made:∀c∈[base+r.op],c∉y.reads∧c∉y.writes:=fun c hc=>by
  rw[List.mem_singleton]at hc
  subst hc
  constructor
  ·intro hy
   obtain⟨x,g1,g2,g3⟩:=hma r.op hr.1 (hL1 _ (h1 _ hy))
   exact((mem x g1 g2).2.2.1 _ g3).1 (h1 _ hy)
  ·intro hy
   obtain⟨x,g1,g2,g3⟩:=hma r.op hr.1 (hL2 _ (h2 _ hy))
   exact((mem x g1 g2).2.2.1 _ g3).2 (h2 _ hy)
 rcases hr.2 with⟨g1,g2,g3,g4⟩ | ⟨x,g1,g2,g3,g4,g5,g6,g7⟩
 ·exact kh (by simp[g3]) (by simp[g2]) (by rw[g4];exact made) (by simp[g1]) (fun _=>g3)
 ·obtain⟨f1,f2,f3,f4,f5⟩:=mem x g1 g2
  refine kh (fun c hc=>⟨fun h=>(f1 c (g4 c hc)).1 (h1 c h),fun h=>(f1 c (g4 c hc)).2 (h2 c h)⟩) (fun c hc h=>f2 c (g3▸hc) (h2 c h)) ?_ (fun hc=>?_) (fun hc=>?_)
  ·cases hrc:r.isCall with
   | true=>rw[(g6 hrc).1];simp
   | false=>rw[g7 hrc];exact made
  ·obtain⟨e1,e2,e3⟩:=f4 (g5▸hc)
   exact⟨h3.trans e1,h4 e2,fun c h=>(g6 hc).2 c (e3 c (h1 c h))⟩
  ·have:=f5 (h3▸hc)
   cases hw:r.writes with
   | nil=>rfl
   | cons c l=>have h:=g4 c (by rw[hw];simp);rw[this]at h;simp at h
theorem uL{call1 call2:FuncId→List AV→ah→Option (AV×ah)}{n i mask:Nat}{τ:List AV}{H:ah}(hag:∀f args H,n<H.next→call1 f args H=call2 f args H)(hn:n<H.next):aY P F call1 ops base i mask τ H=aY P F call2 ops base i mask τ H:=by
 unfold aY
 split
 ·rfl
 ·split
  ·split
   ·rfl
   ·rw[hag _ _ _ (by show n<(cN base mask i H).next;rw[(ep base mask i H).1];exact hn)]
   ·rfl
  ·rfl
  ·rfl
theorem ki{call1 call2:FuncId→List AV→ah→Option (AV×ah)}{n:Nat}{before:List Nat}(hag:∀f args H,n<H.next→call1 f args H=call2 f args H)(hs:dF P call1):∀(l:List Nat) (τ:List AV) (H:ah) (rs:List mt) (r:List AV×ah×List mt),n<H.next→c9 P F call1 ops base before l τ H rs=some r→c9 P F call2 ops base before l τ H rs=some r
 | [],τ,H,rs,r,_,h=>h
 | i::l,τ,H,rs,r,hn,h=>by
  have key:∀{τ1 H1 x},aY P F call1 ops base i (before.getD i 0) τ H=some (τ1,H1,x)→H.next≤H1.next:=fun {τ1 H1 x} hd=>by
   have:∃l,c9 P F call1 ops base before [i] τ H []=some (τ1,H1,l):=by
    unfold c9
    rw[hd]
    cases x
    ·exact⟨_,rfl⟩
    ·exact⟨_,rfl⟩
   obtain⟨l,this⟩:=this
   exact ji hs [i] _ _ _ _ _ _ this
  unfold c9 at h ⊢
  rw[←uL (call1:=call1) hag hn]
  split at h
  ·rename_i hd;exact ki hag hs l _ _ _ r (Nat.lt_of_lt_of_le hn (key hd)) h
  ·rename_i hd
   split at h
   ·rename_i hc;rw[if_pos hc];exact ki hag hs l _ _ _ r (Nat.lt_of_lt_of_le hn (key hd)) h
   ·cases h
  ·cases h
theorem range'_succ(k m:Nat):List.range' k (m+1)=k::List.range' (k+1) m:=rfl
theorem pU{before:List Nat}:∀(m k:Nat) (τ:List AV) (L:SH) (ws:List W.WR) (K:List AV→SH→Prop),W.dr P F ops before (List.range' k m) τ L ws K→∀(H:ah) (rs:List mt),Bd H→iq L H→
  (∀j,k≤j→j<k+m→base+j<H.next∧H.get (base+j)=none)→base+k≤H.next→(∀r∈rs,BE base k ws r)→HL base k L ws→
  ∃call τ' H' L' rs',dF P call∧Ad call∧c9 P F call ops base before (List.range' k m) τ H rs=some (τ',H',rs')∧Fr base L H L' H'∧K τ' L'
 | 0,k,τ,L,ws,K,h,H,rs,hb,hs,_,_,_,_=>⟨Ac,τ,H,L,rs,pR P,fun _ _ _ _ _ _ h=>(by cases h),rfl,.refl hb hs,h⟩
 | m+1,k,τ,L,ws,K,h,H,rs,hb,hs,hfr,hbase,hrel,hma=>by
  rw[range'_succ]at h ⊢
  have h0:=hfr k (Nat.le_refl _) (by omega)
  have hlt:∀c,c∈L.names→c<H.next:=fun c hc=>by
   obtain⟨x,_,hx⟩:=hs.mem hc
   rcases Nat.lt_or_ge c H.next with h1 | h1
   ·exact h1
   ·rw[hb c h1]at hx;cases hx
  unfold W.dr at h
  split at h
  ·exact h.elim
  ·rename_i o ho
   have go:∀(Kc:AV→SH→W.Fp→Prop),cO ops o τ=some true→W.dop P F (ws.filter fun x=>!(before.getD k 0).testBit x.op) k o.op (gP τ) L Kc→(∀v L1 r,Kc v L1 r→W.dr P F ops before (List.range' (k+1) m) (ey τ o.dst v) L1 (W.push k o.op r ws) K)→
     ∃call τ' H' L' rs',dF P call∧Ad call∧c9 P F call ops base before (k::List.range' (k+1) m) τ H rs=some (τ',H',rs')∧Fr base L H L' H'∧K τ' L':=by
    intro Kc hw hop hk

    have val:∀(v:AV) (H1:ah) (L1:SH) (wr:W.Fp),aX P F o.op (gP τ) (base+k) H=some (.val v H1)→jQ (base+k) L H L1 H1→Kc v L1 wr→
      (∀r∈rs,(before.getD k 0).testBit r.op=false→iy r ⟨k,aR o.op (gP τ),aG o.op (gP τ),[base+k],false,0,0⟩=false)→
      BE base (k+1) (W.push k o.op wr ws) ⟨k,aR o.op (gP τ),aG o.op (gP τ),[base+k],false,0,0⟩→(∀x∈ws,x∈W.push k o.op wr ws)→(base+k∈L1.names→∃x∈W.push k o.op wr ws,x.op=k∧base+k∈x.made)→
      ∃call τ' H' L' rs',dF P call∧Ad call∧c9 P F call ops base before (k::List.range' (k+1) m) τ H rs=some (τ',H',rs')∧Fr base L H L' H'∧K τ' L':=by
     intro v H1 L1 wr g1 g2 g3 g4 g5 g6 g7
     obtain⟨call,τ',H',L',rs',k1,k2,k3,k4,k5⟩:=pU m (k+1) (ey τ o.dst v) L1 (W.push k o.op wr ws) K (hk v L1 wr g3) {H1 with log:=H.log} (⟨k,aR o.op (gP τ),aG o.op (gP τ),[base+k],false,0,0⟩::rs) g2.bd (g2.sub.congr fun _=>rfl) (fun j h1 h2=>by
       have hj0:=hfr j (by omega) (by omega)
       exact⟨by show base+j<H1.next;rw[g2.next];exact hj0.1,g2.dom _ (by omega) hj0.2⟩) (by show base+(k+1)≤H1.next;rw[g2.next];omega) (fun r hr=>by
       rcases List.mem_cons.1 hr with rfl | hr
       ·exact g5
       ·exact(hrel r hr).more (Nat.le_succ _) g6) (fun j hj hm=>by
       rcases g2.fresh _ hm with h1 | h1
       ·have:j=k:=by omega
        subst this
        exact g7 hm
       ·have hjk:j≠k:=fun e=>by subst e;exact hs.not_mem h0.2 h1
        obtain⟨x,e1,e2⟩:=hma j (by omega) h1
        exact⟨x,g6 x e1,e2⟩)
     refine⟨call,τ',H',L',rs',k1,k2,?_,Fr.trans (H':={H1 with log:=H.log}) ⟨Nat.le_of_eq g2.next.symm,g2.bd,g2.sub.congr fun _=>rfl,g2.keep,fun c hc=>g2.dom c (by omega),fun c hc hlt=>(g2.fresh c hc).resolve_left (by omega)⟩ k4 (Nat.le_refl _),k5⟩
     unfold c9 aY
     simp only[ho,hw,g1]
     rw[if_pos]
     ·exact k3
     ·rw[List.all_eq_true]
      intro r hr
      cases hm:(before.getD k 0).testBit r.op with
      | true=>rfl
      | false=>rw[g4 r hr hm];rfl
    rcases BD hop with⟨c,f,g,cs,e1,e2,e3,hd⟩ | ⟨hm,hcv,hfree,hop⟩ | ⟨hm,hcv,hv,hop⟩
    ·
     obtain⟨Kp,R,hL,hfree,bd,hcall⟩:=hd
     have hs':=hs.perm hL
     have hn:∀b,b∈L.names↔b∈Kp.names∨b∈R.names:=fun b=>by rw[(hL.map Prod.fst).mem_iff,List.map_append,List.mem_append]
     generalize hmask:before.getD k 0=mask at hfree hop
     let Hid:Nat→Prop:=fun c=>∃j,j<k∧mask.testBit j=false∧c=base+j
     have hHid:∀c,Hid c→c<H.next∧base≤c:=fun c ⟨j,hj,_,hc⟩=>by omega
     have hKp:∀c,c∈Kp.names→¬Hid c:=fun c hc ⟨j,hj,hmj,hcj⟩=>by
      subst hcj
      obtain⟨x,f1,f2,f3⟩:=hma j hj ((hn _).2 (.inl hc))
      exact((hfree x (by rw[List.mem_filter];exact⟨f1,by rw[f2,hmj];rfl⟩)).2.2.1 _ f3).2 hc
     have hhg:∀c,({cN base mask k H with log:=[]}:ah).get c=if Hid c then none else H.get c:=fun c=>fm base mask k H c
     have hhn:({cN base mask k H with log:=[]}:ah).next=H.next:=(ep base mask k H).1
     generalize hHh:({cN base mask k H with log:=[]}:ah)=Hh at hhg hhn
     have hhl:Hh.log=[]:=by rw[←hHh]
     have hbh:Bd Hh:=fun c hc=>by
      rw[hhg]
      split
      ·rfl
      ·exact hb c (by omega)
     have hsh:iq Kp Hh:=⟨hs'.left.nd,fun p hp=>by rw[hhg,if_neg (hKp _ (List.mem_map_of_mem hp))];exact hs'.left.get p hp⟩
     obtain⟨v,H1,K1,c1,c2,c3⟩:=hcall Hh hbh hsh
     have hnx:=c2.next
     let Ho:ah:={H1 with next:=H1.next+1,log:=Kp.names}
     let Hn:ah:={fG base mask H k Ho with log:=H.log}
     have hng:∀c,Hn.get c=if Hid c then H.get c else H1.get c:=fun c=>iF base mask H k Ho c
     have hnn:Hn.next=H1.next+1:=(eY base mask H k Ho).1
     have hK1:∀c,c∈K1.names→¬Hid c:=fun c hc hh=>hKp c (c2.fresh c hc (by have:=(hHid c hh).1;omega)) hh
     have hR:∀p∈R,Hn.get p.1=some p.2∧p.1∉K1.names:=fun p hp=>by
      rw[hng]
      by_cases hh:Hid p.1
      ·rw[if_pos hh];exact⟨hs'.right.get p hp,fun hc=>hK1 _ hc hh⟩
      ·rw[if_neg hh]
       exact c2.keep p.1 p.2 (by rw[hhg,if_neg hh];exact hs'.right.get p hp) (fun hk=>hs'.disj hk (List.mem_map_of_mem hp))
     have frn:Fr base L H (K1++R) Hn:=by
      refine⟨by rw[hnn];omega,fun c hc=>?_,⟨?_,fun p hp=>?_⟩,fun b x h1 h2=>?_,fun b hb' h1=>?_,fun b h1 h2=>?_⟩
      ·rw[hnn]at hc
       rw[hng,if_neg (fun hh=>by have:=(hHid c hh).1;omega)]
       exact c2.bd c (by omega)
      ·unfold SH.names
       rw[List.map_append,List.nodup_append]
       refine⟨c2.sub.nd,hs'.right.nd,fun a ha b hb he=>?_⟩
       subst he
       obtain⟨p,hp,rfl⟩:=List.mem_map.1 hb
       exact(hR p hp).2 ha
      ·rcases List.mem_append.1 hp with hp | hp
       ·rw[hng,if_neg (hK1 _ (List.mem_map_of_mem hp))];exact c2.sub.get p hp
       ·exact(hR p hp).1
      ·rw[hn]at h2
       have:Hn.get b=some x∧b∉K1.names:=by
        rw[hng]
        by_cases hh:Hid b
        ·rw[if_pos hh];exact⟨h1,fun hc=>hK1 _ hc hh⟩
        ·rw[if_neg hh]
         exact c2.keep b x (by rw[hhg,if_neg hh];exact h1) (fun hk=>h2 (.inl hk))
       refine⟨this.1,fun hk=>?_⟩
       unfold SH.names at hk
       rw[List.map_append,List.mem_append]at hk
       rcases hk with hk | hk
       ·exact this.2 hk
       ·exact h2 (.inr hk)
      ·have hh:¬Hid b:=fun hh=>by have:=(hHid b hh).2;omega
       rw[hng,if_neg hh]
       exact c2.dom b (by omega) (by rw[hhg,if_neg hh];exact h1)
      ·unfold SH.names at h1
       rw[List.map_append,List.mem_append]at h1
       rw[hn]
       rcases h1 with h1 | h1
       ·exact .inl (c2.fresh b h1 (by omega))
       ·exact .inr h1
     let r:mt:=⟨k,[],Ho.log.filter (fun c=>(Hh.get c).isSome),[],true,H.next,Ho.next⟩
     obtain⟨call,τ',H',L',rs',k1,k2,k3,k4,k5⟩:=pU m (k+1) (ey τ o.dst v) (K1++R) ((⟨k,[],Kp.names,[],true,L.names⟩:W.WR)::ws) K (by have:=hk v _ _ (c3.h _ rfl);rw[show W.push k o.op ⟨[],Kp.names,[],L.names⟩ ws=(⟨k,[],Kp.names,[],true,L.names⟩:W.WR)::ws from by simp[W.push,W.isCallV,e1,e2]]at this;exact this) Hn (r::rs) frn.bd frn.sub (fun j h1 h2=>by
       have hj0:=hfr j (by omega) (by omega)
       have hh:¬Hid (base+j):=fun⟨q,hq,_,he⟩=>by omega
       refine⟨by rw[hnn];omega,?_⟩
       rw[hng,if_neg hh]
       exact c2.dom _ (by omega) (by rw[hhg,if_neg hh];exact hj0.2)) (by rw[hnn];omega) (fun q hq=>by
       rcases List.mem_cons.1 hq with rfl | hq
       ·exact⟨Nat.lt_succ_self _,.inr ⟨_,List.mem_cons_self,rfl,rfl,fun c hc=>(List.mem_filter.1 hc).1,rfl,fun _=>⟨rfl,hlt⟩,fun h=>(by cases h)⟩⟩
       ·exact(hrel q hq).more (Nat.le_succ _) fun x hx=>List.mem_cons_of_mem _ hx) (fun j hj hm=>by
       have hjk:base+j∈L.names:=by
        rw[hn]
        unfold SH.names at hm
        rw[List.map_append,List.mem_append]at hm
        rcases hm with hm | hm
        ·exact .inl (c2.fresh _ hm (by omega))
        ·exact .inr hm
       have hne:j≠k:=fun e=>by subst e;exact hs.not_mem h0.2 hjk
       obtain⟨x,f1,f2⟩:=hma j (by omega) hjk
       exact⟨x,List.mem_cons_of_mem _ f1,f2⟩)
     refine⟨Cr g (c.args.toList.map (gP τ)++cs) Hh v Ho call,τ',H',L',rs',w8 k1 (c1.bump _) (by show Hh.next≤H1.next+1;omega) bd,AS k2 fun _=>c2.chg _ (by rw[hhl];simp) (fun b hb=>hb) _ (Nat.le_succ _),?_,frn.trans k4 (Nat.le_refl _),k5⟩
     have ha:aX P F o.op (gP τ) (base+k) H=some (.call g (c.args.toList.map (gP τ)++cs)):=by rw[e1];simp[aX,e2,e3]
     have hbm:before.getD k 0=mask:=hmask
     have hs1:aY P F (Cr g (c.args.toList.map (gP τ)++cs) Hh v Ho call) ops base k mask τ H=some (ey τ o.dst v,Hn,some r):=by
      unfold aY
      simp only[ho,hw,ha,hHh,AT]
      rw[show(cN base mask k H)={Hh with log:=H.log} from by rw[←hHh];exact(congrArg (fun l=>({cN base mask k H with log:=l}:ah)) (ep base mask k H).2)]
      rfl
     unfold c9
     rw[hbm,hs1]
     simp only[]
     rw[if_pos]
     ·refine ki (n:=Hh.next) (fun f args K hK=>?_) k1 _ _ _ _ _ (by rw[hnn];omega) k3
      exact(w9 hK).symm
     ·rw[List.all_eq_true]
      intro q hq
      cases hmq:mask.testBit q.op with
      | true=>rfl
      | false=>
       rw[uK (wy:=⟨k,[],Kp.names,[],true,[]⟩) (hrel q hq) hma hmq hfree (by simp[r]) (fun c hc=>(List.mem_filter.1 hc).1) rfl (fun he=>by show List.filter _ Kp.names=[];rw[show Kp.names=[]from he];rfl) (by simp) (fun c hc=>(hn c).2 (.inl hc))]
       rfl
    ·
     rcases xx (b:=base+k) hb hs h0.1 h0.2 hop with⟨v,H1,L1,g1,g2,g3,g4⟩ | ⟨g,args,g1,g2⟩
     ·have hp:W.push k o.op ⟨aR o.op (gP τ),aG o.op (gP τ),if W0.makes o.op then af v else [],[]⟩ ws=(⟨k,aR o.op (gP τ),aG o.op (gP τ),if W0.makes o.op then af v else [],false,[]⟩:W.WR)::ws:=by simp[W.push,hm,hcv]
      refine val v H1 L1 _ g1 g2 (g4.h _ rfl) (fun r hr hun=>?_) (by rw[hp];exact⟨Nat.lt_succ_self _,.inr ⟨_,List.mem_cons_self,rfl,rfl,fun c h=>h,rfl,fun h=>(by cases h),fun _=>rfl⟩⟩) (fun x hx=>by rw[hp];exact List.mem_cons_of_mem _ hx) (fun hm=>by rw[hp];exact⟨_,List.mem_cons_self,rfl,by show _∈(if W0.makes o.op=true then af v else []);rw[if_pos (g3 hm).1];exact(g3 hm).2⟩)
      exact uK (wy:=⟨k,aR o.op (gP τ),aG o.op (gP τ),[],false,[]⟩) (hrel r hr) hma hun hfree (fun c h=>h) (fun c h=>h) rfl (fun h=>h) (yR hop) (fun c hc=>yR hop c (pP hc))
     ·obtain⟨c,f,e1,e2⟩:=yQ g1
      rw[e1]at hm
      simp[W.isMem,e2]at hm
    ·
     have hop':=En (K2:=fun v L'=>Kc v L' ⟨[],[],[],[]⟩∧L'=L) (fun v h=>⟨h,rfl⟩) hm hv hop
     rcases xx (b:=base+k) hb hs h0.1 h0.2 hop' with⟨v,H1,L1,g1,g2,g3,g4,g5⟩ | ⟨g,args,g1,g2⟩
     ·obtain⟨n1,n2⟩:=xy (ρ:=gP τ) hm
      subst g5
      have hp:W.push k o.op ⟨[],[],[],[]⟩ ws=ws:=by simp[W.push,hm,hcv]
      refine val v H1 _ ⟨[],[],[],[]⟩ g1 g2 g4 (fun r hr hun=>?_) ⟨Nat.lt_succ_self _,.inl ⟨rfl,n1,n2,rfl⟩⟩ (fun x hx=>by rw[hp];exact hx) (fun h=>absurd h (hs.not_mem h0.2))
      rw[n1,n2]
      refine kh (by simp) (by simp) (by simp) (by simp) (by simp)
     ·obtain⟨c,f,e1,e2⟩:=yQ g1
      exact absurd e2 (hv c f e1)
   split at h
   ·rename_i hg
    exact go _ (s5 hg) h fun v L1 r h=>h
   ·rename_i j want hg
    split at h
    ·rename_i d hd
     rcases h.h with⟨h1,h2⟩ | ⟨h1,h2⟩
     ·exact go _ (uJ hg hd h1) h2 fun v L1 r h=>h
     ·have hps:∀x∈ws,x∈W.push k o.op ⟨[],[],[],L.names⟩ ws:=fun x hx=>by
       unfold W.push
       split
       ·exact List.mem_cons_of_mem _ hx
       ·exact hx
      obtain⟨call,τ',H',L',rs',k1,k2,k3,k4,k5⟩:=pU m (k+1) (ey τ o.dst aZ) L _ K h2 H rs hb hs (fun j h1 h2=>hfr j (by omega) (by omega)) (by omega) (fun r hr=>(hrel r hr).more (Nat.le_succ _) hps) (fun j hj hm=>by
       have hne:j≠k:=fun e=>by subst e;exact hs.not_mem h0.2 hm
       obtain⟨x,e1,e2⟩:=hma j (by omega) hm
       exact⟨x,hps x e1,e2⟩)
      refine⟨call,τ',H',L',rs',k1,k2,?_,k4,k5⟩
      unfold c9 aY
      simp only[ho,xa hg hd h1]
      exact k3
    ·exact h.elim
end
end Go.Proofs.Ytljkdffikfkcgaa.Am
end
section
namespace Go.Proofs.Ytljkdffikfkcgaa.Am
open Go.RowKit
set_option linter.unusedVariables false
inductive Fz (K:SH):AV→AV→Prop where
 | refl (v:AV):Fz K v v
 | nils:Fz K .nils (.lst [])
 | nile:Fz K .nils .emp
 | emp:Fz K .emp (.lst [])
 | sl0 (b i:Nat):Fz K (.sl b i 0) (.lst [])
 | sl (b i n:Nat) (x:Blk) (rows:List (List AV)) (hm:(b,x)∈K) (hs:0<x.size) (hn:0<n) (hl:rows.length=n) (hle:i+n≤x.rows.length)
   (hr:∀(j:Nat) (r r2:List AV),x.rows[i+j]? =some r→rows[j]? =some r2→r.length=r2.length)
   (hc:∀(j:Nat) (r r2:List AV) (q:Nat) (a a2:AV),x.rows[i+j]? =some r→rows[j]? =some r2→r[q]? =some a→r2[q]? =some a2→Fz K a a2):Fz K (.sl b i n) (.lst rows)
 | ptr (b i off:Nat) (x:Blk) (rows:List (List AV)) (hm:(b,x)∈K) (hs:0<x.size) (hl:rows.length=x.rows.length) (hn:0<rows.length)
   (hr:∀(j:Nat) (r r2:List AV),x.rows[j]? =some r→rows[j]? =some r2→r.length=r2.length)
   (hc:∀(j:Nat) (r r2:List AV) (q:Nat) (a a2:AV),x.rows[j]? =some r→rows[j]? =some r2→r[q]? =some a→r2[q]? =some a2→Fz K a a2):Fz K (.ptr b i off) (.pptr rows i off)
 | agg (cs cs2:List AV) (hl:cs.length=cs2.length) (h:∀(i:Nat) (a a2:AV),cs[i]? =some a→cs2[i]? =some a2→Fz K a a2):Fz K (.agg cs) (.agg cs2)
 | tup (cs cs2:List AV) (hl:cs.length=cs2.length) (h:∀(i:Nat) (a a2:AV),cs[i]? =some a→cs2[i]? =some a2→Fz K a a2):Fz K (.tup cs) (.tup cs2)
section
variable {P:Program} {F:TypeId→Option (List TypeId)} {w:World} {σ:bq} {H H2:ah} {K:SH}
theorem Cs(hW:bc w σ H)(hK:iq K H)(hown:∀c,aQ σ H2 c→aQ σ H c)(hout:∀b∈K.names,∀pl,σ b=some pl→¬aQ σ H2 pl.block){a a2:AV}(hz:Fz K a a2):∀{v:Value},bl w σ (aQ σ H) a v→bl w σ (aQ σ H2) a2 v:=by
 induction hz with
 | refl v=>intro u h;exact h.shrink hown
 | nils=>intro u h;cases h;exact .lst0 _ _ (by unfold maxLen;omega)
 | nile=>intro u h;cases h;exact .emp _
 | emp=>intro u h;cases h;exact .lst0 _ _ (by unfold maxLen;omega)
 | sl0 b i=>
  intro u h
  obtain⟨pl,ad,cap,rfl,hs,hn,hm,ha⟩:=h.sl_inv
  exact .lst0 _ _ hm
 | sl b i n x rows hm hs hn hl hle hr hc ih=>
  intro u h
  obtain⟨pl,ad,cap,rfl,hsg,hn',hmx,ha⟩:=h.sl_inv
  obtain⟨rfl,cs,ty,hcs,hroom⟩:=ha (by omega)
  obtain⟨pl',cs',e',g1,g2⟩:=hW.live b x (hK.get _ hm)
  rw[hsg]at g1
  cases g1
  have row:∀(j:Nat) (r2:List AV),rows[j]? =some r2→∃r,x.rows[i+j]? =some r∧r.length=r2.length:=fun j r2 h2=>by
   have hj:=ax h2
   have:i+j<x.rows.length:=by omega
   exact⟨_,List.getElem?_eq_getElem this,hr j _ r2 (List.getElem?_eq_getElem this) h2⟩
  have:=bl.lst (w:=w) (σ:=σ) (T:=aQ σ H2) rows pl.block (pl.base+i*pl.size) pl.size cap
   ⟨hout b (List.mem_map_of_mem hm) pl hsg,fun q r2 h2=>by
    obtain⟨r,k1,k2⟩:=row q r2 h2
    rw[←k2,g2.even _ r k1,g2.size],fun q j hq hj=>by
    obtain⟨r,k1,k2⟩:=row q rows[q] (List.getElem?_eq_getElem hq)
    have hj':j<r.length:=by rw[g2.even _ r k1,←g2.size];exact hj
    obtain⟨u,hu,_⟩:=g2.row k1 j _ (List.getElem?_eq_getElem hj')
    rw[Nat.add_mul,←Nat.add_assoc]at hu
    exact⟨u,hu⟩,by rw[g2.size];exact hs,by omega⟩ (by omega) hmx
   (fun q r2 j y u h2 hy hu=>by
    obtain⟨r,k1,k2⟩:=row q r2 h2
    have hj':j<r.length:=by rw[k2];exact ax hy
    obtain⟨u',hu',hz⟩:=g2.row k1 j _ (List.getElem?_eq_getElem hj')
    rw[Nat.add_mul,←Nat.add_assoc]at hu'
    rw[hu]at hu'
    cases hu'
    exact ih q r r2 j _ y k1 h2 (List.getElem?_eq_getElem hj') hy hz)
  rw[hl]at this
  exact this
 | ptr b i off x rows hm hs hl hn hr hc ih=>
  intro u h
  cases h with
  | ptr _ _ _ pl hsg=>
  obtain⟨pl',cs',e',g1,g2⟩:=hW.live b x (hK.get _ hm)
  rw[hsg]at g1
  cases g1
  have row:∀(j:Nat) (r2:List AV),rows[j]? =some r2→∃r,x.rows[j]? =some r∧r.length=r2.length:=fun j r2 h2=>by
   have hj:=ax h2
   have:j<x.rows.length:=by omega
   exact⟨_,List.getElem?_eq_getElem this,hr j _ r2 (List.getElem?_eq_getElem this) h2⟩
  exact bl.pptr (w:=w) (σ:=σ) (T:=aQ σ H2) rows i off pl.block pl.base pl.size
   ⟨hout b (List.mem_map_of_mem hm) pl hsg,fun q r2 h2=>by
    obtain⟨r,k1,k2⟩:=row q r2 h2
    rw[←k2,g2.even _ r k1,g2.size],fun q j hq hj=>by
    obtain⟨r,k1,k2⟩:=row q rows[q] (List.getElem?_eq_getElem hq)
    have hj':j<r.length:=by rw[g2.even _ r k1,←g2.size];exact hj
    obtain⟨u,hu,_⟩:=g2.row k1 j _ (List.getElem?_eq_getElem hj')
    exact⟨u,hu⟩,by rw[g2.size];exact hs,by omega⟩
   (fun q r2 j y u h2 hy hu=>by
    obtain⟨r,k1,k2⟩:=row q r2 h2
    have hj':j<r.length:=by rw[k2];exact ax hy
    obtain⟨u',hu',hz⟩:=g2.row k1 j _ (List.getElem?_eq_getElem hj')
    rw[hu]at hu'
    cases hu'
    exact ih q r r2 j _ y k1 h2 (List.getElem?_eq_getElem hj') hy hz)
 | agg cs cs2 hl h ih=>
  intro u hu
  cases hu with
  | agg _ vs hlv hc=>
   refine .agg cs2 vs (by omega) fun q y z hy hz=>?_
   have hq:q<cs.length:=by rw[hl];exact ax hy
   exact ih q _ y (List.getElem?_eq_getElem hq) hy (hc q _ z (List.getElem?_eq_getElem hq) hz)
 | tup cs cs2 hl h ih=>
  intro u hu
  cases hu with
  | tup _ vs hlv hc=>
   refine .tup cs2 vs (by omega) fun q y z hy hz=>?_
   have hq:q<cs.length:=by rw[hl];exact ax hy
   exact ih q _ y (List.getElem?_eq_getElem hq) hy (hc q _ z (List.getElem?_eq_getElem hq) hz)
structure aV(vs:List AV)(L:SH)(vs2:List AV)(L2:SH):Prop where
 ex:∃K R:SH,L.Perm (K++R)∧(vs.length=vs2.length∧∀(i:Nat) (a a2:AV),vs[i]? =some a→vs2[i]? =some a2→Fz K a a2)∧R.length=L2.length∧
  ∀(i:Nat) (p q:Nat×Blk),R[i]? =some p→L2[i]? =some q→p.1=q.1∧p.2.size=q.2.size∧p.2.rows.length=q.2.rows.length∧
   ∀(j:Nat) (r r2:List AV),p.2.rows[j]? =some r→q.2.rows[j]? =some r2→r.length=r2.length∧∀(k:Nat) (a a2:AV),r[k]? =some a→r2[k]? =some a2→Fz K a a2
theorem aV.refl(vs:List AV)(L:SH):aV vs L vs L:=⟨[],L,.refl _,⟨rfl,fun i a a2 h1 h2=>by rw[h1]at h2;cases h2;exact .refl _⟩,rfl,fun i p q h1 h2=>by
 rw[h1]at h2;cases h2
 exact⟨rfl,rfl,rfl,fun j r r2 h3 h4=>by rw[h3]at h4;cases h4;exact⟨rfl,fun k a a2 h5 h6=>by rw[h5]at h6;cases h6;exact .refl _⟩⟩⟩
theorem aV.drop{vs vs2:List AV}{L K R:SH}(hL:L.Perm (K++R))(hl:vs.length=vs2.length)(h:∀(i:Nat) (a a2:AV),vs[i]? =some a→vs2[i]? =some a2→Fz K a a2):aV vs L vs2 R:=⟨K,R,hL,⟨hl,h⟩,rfl,fun i p q h1 h2=>by
 rw[h1]at h2;cases h2
 exact⟨rfl,rfl,rfl,fun j r r2 h3 h4=>by rw[h3]at h4;cases h4;exact⟨rfl,fun k a a2 h5 h6=>by rw[h5]at h6;cases h6;exact .refl _⟩⟩⟩
def ah.repl(H:ah)(K:List Nat)(L2:SH):ah:=L2.foldl (fun H p=>{H with tr:=H.tr.set p.1 (some p.2)}) (K.foldl (fun H b=>{H with tr:=H.tr.set b none}) H)
theorem uM(K:List Nat):∀(H:ah) (c:Nat),(K.foldl (fun H b=>({H with tr:=H.tr.set b none}:ah)) H).get c=(if c∈K then none else H.get c)∧(K.foldl (fun H b=>({H with tr:=H.tr.set b none}:ah)) H).next=H.next:=by
 induction K with
 | nil=>intro H c;simp
 | cons b K ih=>
  intro H c
  simp only[List.foldl_cons]
  obtain⟨h1,h2⟩:=ih {H with tr:=H.tr.set b none} c
  refine⟨?_,h2⟩
  rw[h1]
  by_cases hc:c∈K
  ·simp[hc]
  ·have:({H with tr:=H.tr.set b none}:ah).get c=if b=c then none else H.get c:=Tr.get_set _ _ _ _
   rw[if_neg hc,this]
   by_cases hb:b=c
   ·subst hb;simp
   ·rw[if_neg hb,if_neg]
    simp only[List.mem_cons,not_or]
    exact⟨fun e=>hb e.symm,hc⟩
theorem uN:∀(L2:SH),L2.names.Nodup→∀(H:ah) (c:Nat),((∀x,(c,x)∈L2→(L2.foldl (fun H p=>({H with tr:=H.tr.set p.1 (some p.2)}:ah)) H).get c=some x)∧(c∉L2.names→(L2.foldl (fun H p=>({H with tr:=H.tr.set p.1 (some p.2)}:ah)) H).get c=H.get c))∧(L2.foldl (fun H p=>({H with tr:=H.tr.set p.1 (some p.2)}:ah)) H).next=H.next:=by
 intro L2
 induction L2 with
 | nil=>intro _ H c;simp
 | cons p L ih=>
  intro hn H c
  simp only[List.map_cons,List.nodup_cons]at hn
  obtain⟨⟨h1,h2⟩,h3⟩:=ih hn.2 {H with tr:=H.tr.set p.1 (some p.2)} c
  have hg:({H with tr:=H.tr.set p.1 (some p.2)}:ah).get c=if p.1=c then some p.2 else H.get c:=Tr.get_set _ _ _ _
  refine⟨⟨fun x hx=>?_,fun hc=>?_⟩,h3⟩
  ·simp only[List.foldl_cons]
   rcases List.mem_cons.1 hx with hx | hx
   ·subst hx
    rw[h2 hn.1,hg,if_pos rfl]
   ·exact h1 x hx
  ·simp only[List.foldl_cons]
   simp only[List.map_cons,List.mem_cons,not_or]at hc
   rw[h2 hc.2,hg,if_neg (fun e=>hc.1 e.symm)]
theorem iJ{vs vs2:List AV}{L L2:SH}(h:aV vs L vs2 L2)(hs:iq L H)(hb:Bd H):∃H2:ah,Fr H.next L H L2 H2∧H2.next=H.next∧
  (∀(w:World) (σ:bq),bc w σ H→bc w σ H2∧(∀c,aQ σ H2 c→aQ σ H c)∧∀(us:List Value),db w σ (aQ σ H) vs us→db w σ (aQ σ H2) vs2 us)∧∀b,b∉L.names→H2.get b=H.get b:=by
 obtain⟨K,R,hL,⟨hl,hv⟩,hlen,hR⟩:=h.ex
 have hs':=hs.perm hL
 have hn:∀b,b∈L.names↔b∈K.names∨b∈R.names:=fun b=>by rw[(hL.map Prod.fst).mem_iff,List.map_append,List.mem_append]
 have hnames:L2.names=R.names:=by
  apply List.ext_getElem?
  intro i
  unfold SH.names
  rw[List.getElem?_map,List.getElem?_map]
  rcases Nat.lt_or_ge i R.length with hi | hi
  ·have hi2:i<L2.length:=by omega
   rw[List.getElem?_eq_getElem hi,List.getElem?_eq_getElem hi2]
   simp only[Option.map_some,Option.some.injEq]
   exact(hR i _ _ (List.getElem?_eq_getElem hi) (List.getElem?_eq_getElem hi2)).1.symm
  ·rw[List.getElem?_eq_none hi,List.getElem?_eq_none (by omega)]
 have hnd2:L2.names.Nodup:=by rw[hnames];exact hs'.right.nd
 let H2:=H.repl K.names L2
 have hget:∀c,(∀x,(c,x)∈L2→H2.get c=some x)∧(c∉L2.names→H2.get c=if c∈K.names then none else H.get c):=fun c=>by
  obtain⟨⟨h1,h2⟩,_⟩:=uN L2 hnd2 (K.names.foldl (fun H b=>{H with tr:=H.tr.set b none}) H) c
  exact⟨h1,fun hc=>(h2 hc).trans (uM K.names H c).1⟩
 have hnext:H2.next=H.next:=(uN L2 hnd2 _ 0).2.trans (uM K.names H 0).2

 have hold:∀b y,H2.get b=some y→∃x,H.get b=some x∧b∉K.names∧x.size=y.size∧x.rows.length=y.rows.length∧∀(j:Nat) (r r2:List AV),x.rows[j]? =some r→y.rows[j]? =some r2→r.length=r2.length∧∀(k:Nat) (a a2:AV),r[k]? =some a→r2[k]? =some a2→Fz K a a2:=fun b y hy=>by
  by_cases hb2:b∈L2.names
  ·obtain⟨q,hq,rfl⟩:=List.mem_map.1 hb2
   have hqy:H2.get q.1=some q.2:=(hget q.1).1 q.2 hq
   rw[hy]at hqy
   cases hqy
   obtain⟨i,hi,hqi⟩:=List.getElem_of_mem hq
   have hi':i<R.length:=by omega
   obtain⟨e1,e2,e3,e4⟩:=hR i R[i] q (List.getElem?_eq_getElem hi') (by rw[List.getElem?_eq_getElem hi,hqi])
   refine⟨R[i].2,?_,fun hk=>hs'.disj hk (hnames▸hb2),e2,e3,e4⟩
   rw[←e1]
   exact hs'.right.get _ (List.getElem_mem hi')
  ·rw[(hget b).2 hb2]at hy
   split at hy
   ·cases hy
   ·rename_i hk
    exact⟨y,hy,hk,rfl,rfl,fun j r r2 h1 h2=>by rw[h1]at h2;cases h2;exact⟨rfl,fun k a a2 h3 h4=>by rw[h3]at h4;cases h4;exact .refl _⟩⟩
 have hout:∀b,b∉L.names→H2.get b=H.get b:=fun b hbn=>by
  rw[hn,not_or]at hbn
  rw[(hget b).2 (by rw[hnames];exact hbn.2),if_neg hbn.1]
 refine⟨H2,⟨by rw[hnext];exact Nat.le_refl _,fun b hb'=>?_,⟨hnd2,fun p hp=>(hget p.1).1 p.2 hp⟩,fun b x h1 h2=>⟨by rw[hout b h2];exact h1,fun h3=>h2 ((hn b).2 (.inr (hnames▸h3)))⟩,fun b _ h1=>?_,fun b h1 _=>(hn b).2 (.inr (hnames▸h1))⟩,hnext,fun w σ hW=>?_,hout⟩
 ·rw[hnext]at hb'
  cases hg:H2.get b with
  | none=>rfl
  | some y=>obtain⟨x,hx,_⟩:=hold b y hg;rw[hb b hb']at hx;cases hx
 ·cases hg:H2.get b with
  | none=>rfl
  | some y=>obtain⟨x,hx,_⟩:=hold b y hg;rw[h1]at hx;cases hx
 ·have hown:∀c,aQ σ H2 c→aQ σ H c:=fun c hc=>by
   rcases hc with hc | ⟨b,y,pl,h1,h2,h3⟩
   ·exact .inl hc
   ·obtain⟨x,hx,_⟩:=hold b y h1
    exact .inr ⟨b,x,pl,hx,h2,h3⟩
  have hnot:∀b∈K.names,∀pl,σ b=some pl→¬aQ σ H2 pl.block:=fun b hbK pl hpl ho=>by
   obtain⟨x,_,hx⟩:=hs'.left.mem hbK
   rcases ho with ho | ⟨b',y,pl',h1,h2,h3⟩
   ·exact(hW.apart _ ho).2 ⟨b,x,pl,hx,hpl,rfl⟩
   ·obtain⟨x',hx',hk',_⟩:=hold b' y h1
    have:=hW.inj b' b x' x pl' pl hx' hx h2 hpl h3
    subst this
    exact hk' hbK
  refine⟨⟨fun b pl hb=>by rw[hnext];exact hW.named b pl hb,hW.lt,fun b y hy=>?_,fun c hc=>⟨(hW.apart c hc).1,fun⟨b,y,pl,h1,h2,h3⟩=>?_⟩,fun b b' y y' pl pl' h1 h2 h3 h4 h5=>?_⟩,hown,fun us hus=>⟨by rw[←hl];exact hus.1,fun i a2 u h1 h2=>?_⟩⟩
  ·obtain⟨x,hx,hk,e1,e2,e3⟩:=hold b y hy
   obtain⟨pl,cs,e,g1,g2⟩:=hW.live b x hx
   have row:∀(j:Nat) (r2:List AV),y.rows[j]? =some r2→∃r,x.rows[j]? =some r:=fun j r2 h2=>⟨_,List.getElem?_eq_getElem (by rw[e2];exact ax h2)⟩
   refine⟨pl,cs,e,g1,⟨g2.size.trans e1,g2.block,fun i r2 h2=>?_,by rw[←e2,←e1];exact g2.room,fun i r2 j a2 u h2 h3 h4=>?_⟩⟩
   ·obtain⟨r,h1⟩:=row i r2 h2
    rw[←(e3 i r r2 h1 h2).1,g2.even i r h1,e1]
   ·obtain⟨r,h1⟩:=row i r2 h2
    obtain⟨e4,e5⟩:=e3 i r r2 h1 h2
    have hj:j<r.length:=by rw[e4];exact ax h3
    exact Cs hW hs'.left hown hnot (e5 j _ a2 (List.getElem?_eq_getElem hj) h3) (g2.rep i r j _ u h1 (List.getElem?_eq_getElem hj) (by rw[e1];exact h4))
  ·obtain⟨x,hx,_⟩:=hold b y h1
   exact(hW.apart c hc).2 ⟨b,x,pl,hx,h2,h3⟩
  ·obtain⟨x,hx,_⟩:=hold b y h1
   obtain⟨x',hx',_⟩:=hold b' y' h2
   exact hW.inj b b' x x' pl pl' hx hx' h3 h4 h5
  ·have hi:i<vs.length:=by rw[hl];exact ax h1
   exact Cs hW hs'.left hown hnot (hv i _ a2 (List.getElem?_eq_getElem hi) h1) (hus.2 i _ u (List.getElem?_eq_getElem hi) h2)
theorem bS.fz{c:Code}{τ τ2:List AV}{L L2:SH}{Q:Ex→List AV→SH→Prop}(hz:aV τ L τ2 L2)(h:bS P c τ2 L2 Q):bS P c τ L Q:=fun H hb hs=>by
 obtain⟨H2,f1,f2,f3,f4⟩:=iJ hz hs hb
 obtain⟨e,τ',H',L',h1,h2,h3⟩:=h H2 f1.bd f1.sub
 refine⟨e,τ',H',L',⟨by rw[←f2];exact h1.1,fun w σ a hW hτ Q hQ=>?_⟩,f1.trans (h2.low (by rw[f2];exact Nat.le_refl _)) (Nat.le_refl _),h3⟩
 obtain⟨g1,g2,g3⟩:=f3 w σ hW
 refine h1.2 w σ a g1 ⟨g3 _ hτ.1,hτ.2⟩ Q fun a' w' ⟨σ',t,r,e1,m⟩=>hQ a' w' ⟨σ',t,r,?_,fun c pl hc=>by rw[←f2];exact m c pl hc⟩
 exact⟨e1.os,e1.tape,e1.output,e1.size,fun c hc hT=>e1.keep c hc (fun h=>hT (g2 c h)),e1.shape,e1.sig,e1.eqfr,e1.frame,fun c hc=>(e1.own c hc).imp (g2 c) id⟩
theorem am.fz{f:FuncId}{args:List AV}{L0:SH}{Q:AV→SH→Prop}(h:am P f args L0 fun v L=>∃v2 L2,aV [v] L [v2] L2∧Q v2 L2):am P f args L0 Q:=⟨h.1,fun H hb hs=>by
 obtain⟨v,H',L',h1,h2,v2,L2,hz,h3⟩:=h.2 H hb hs
 obtain⟨H2,f1,f2,f3,f4⟩:=iJ hz h2.sub h2.bd
 refine⟨v2,H2,L2,fun w σ vs hW hvs=>(h1 w σ vs hW hvs).mono ?_,h2.trans (f1.low h2.next) (Nat.le_refl _),h3⟩
 rintro e w' ⟨v',σ',rfl,k1,k2,k3,k4⟩
 obtain⟨g1,g2,g3⟩:=f3 w' σ' k2
 have:=g3 [v'] ⟨rfl,fun i a u h1 h2=>by
  match i with
  | 0=>cases h1;cases h2;exact k1
  | i+1=>cases h1⟩
 exact⟨v',σ',rfl,this.2 0 v2 v' rfl rfl,g1,⟨k3.os,k3.tape,k3.output,k3.size,k3.keep,k3.shape,k3.sig,k3.eqfr,k3.frame,fun c hc=>k3.own c (g2 c hc)⟩,k4⟩⟩
end
end Go.Proofs.Ytljkdffikfkcgaa.Am
end
section
namespace Go.Proofs.Ytljkdffikfkcgaa.Am
open Go.RowKit
set_option linter.unusedVariables false
structure Ct where

 join:Nat→Option (List Nat)

 loop:Nat→List Nat

 frz:Nat→List Nat

 mask:Nat→List Nat
def jj(live:List Nat)(τ:List AV):List AV:=live.map fun t=>τ.getD t .junk
def ay(live:List Nat)(vs:List AV)(t:Nat):AV:=match live,vs with
 | [],_=>.junk
 | _,[]=>.junk
 | d::ds,v::vs=>if d=t then v else ay ds vs t
def e7(n:Nat)(live:List Nat)(vs:List AV):List AV:=(List.range n).map (ay live vs)
def f9:Code→Option Nat
 | .region id _ _=>some id
 | .seq a b=>match f9 a with
  | some i=>some i
  | none=>f9 b
 | .cond _ a b=>match f9 a with
  | some i=>some i
  | none=>f9 b
 | .block _ b=>f9 b
 | .loop b=>f9 b
 | _=>none
def jk:Code→Option Nat
 | .region id _ _=>some id
 | .seq a b=>match jk b with
  | some i=>some i
  | none=>jk a
 | .cond _ a b=>match jk b with
  | some i=>some i
  | none=>jk a
 | .block _ b=>jk b
 | .loop b=>jk b
 | _=>none
namespace W
abbrev Kn:=List AV→SH→Prop
def frz0(v:AV)(L:SH)(K:AV→SH→Prop):Prop:=match v with
 | .ptr b i off=>∃x L',dG b x L L'∧0<x.size∧0<x.rows.length∧K (.pptr x.rows i off) L'
 | .sl b i n=>∃x L',dG b x L L'∧0<x.size∧i+n≤x.rows.length∧K (.lst ((x.rows.drop i).take n)) L'
 | .nils=>K (.lst []) L
 | .emp=>K (.lst []) L
 | v=>K v L
structure frz1(v:AV)(L:SH)(K:AV→SH→Prop):Prop where
 h:frz0 v L K
def frzs:List Nat→List AV→SH→Kn→Prop
 | [],τ,L,K=>K τ L
 | d::ds,τ,L,K=>frz1 (τ.getD d .junk) L fun v L=>frzs ds (τ.set d v) L K
structure cond(v:AV)(A B:Prop):Prop where
 h:(v=.bool true∧A)∨(v=.bool false∧B)
structure join(J:Kn)(B:Kn→Prop):Prop where
 h:B J
structure loop(B:List AV→SH→Kn→Prop)(vs:List AV)(L:SH):Prop where
 h:∃I:Nat→Kn,(∃n vs2 L2,aV vs L vs2 L2∧I n vs2 L2)∧∀n vs L,I n vs L→B vs L fun vs' L'=>∃m vs2 L2,m<n∧aV vs' L' vs2 L2∧I m vs2 L2
section
variable (P:Program) (F:TypeId→Option (List TypeId)) (ht:Ct)
def code:Code→List AV→SH→Kn→(Nat→Kn)→Kn→Prop
 | .skip,τ,L,kn,_,_=>kn τ L
 | .label _,τ,L,kn,_,_=>kn τ L
 | .region id ops draw,τ,L,kn,_,_=>if draw then(AQ ops&&xv ops&&(bA ops.toList []==ht.mask id))=true∧dr P F ops (ht.mask id) (List.range' 0 ops.size) τ L [] fun τ L=>frzs (ht.frz id) τ L kn
   else sq P F ops (List.range ops.size) τ L fun τ L=>frzs (ht.frz id) τ L kn
 | .seq a b,τ,L,kn,kx,kr=>match (jk a).bind ht.join with
  | none=>code a τ L (fun τ L=>code b τ L kn kx kr) kx kr
  | some live=>join (fun vs L=>code b (e7 τ.length live vs) L kn kx kr) fun j=>code a τ L (fun τ L=>j (jj live τ) L) kx kr
 | .cond x a b,τ,L,kn,kx,kr=>cond (gP τ x) (code a τ L kn kx kr) (code b τ L kn kx kr)
 | .block id b,τ,L,kn,kx,kr=>code b τ L kn (fun id' τ L=>if id'=id then kn τ L else kx id' τ L) kr
 | .loop b,τ,L,kn,kx,kr=>match f9 b with
  | none=>False
  | some r=>loop (fun vs L next=>code b (e7 τ.length (ht.loop r) vs) L (fun τ L=>next (jj (ht.loop r) τ) L) kx kr) (jj (ht.loop r) τ) L
 | .exit id,τ,L,_,kx,_=>kx id τ L
 | .ret,τ,L,_,_,kr=>kr τ L
 | _,_,_,_,_,_=>False
def pack:List AV→AV
 | [v]=>v
 | vs=>.tup vs
def res:List ResultVar→List AV→SH→List AV→(AV→SH→Prop)→Prop
 | [],_,L,vs,Q=>Q (pack vs.reverse) L
 | .tmp t::rs,τ,L,vs,Q=>res rs τ L (τ.getD t aZ::vs) Q
 | .cell a t::rs,τ,L,vs,Q=>match dI P t,aS P t with
  | some ag,some n=>load ag n (τ.getD a aZ) L fun v=>res rs τ L (v::vs) Q
  | _,_=>False
def func(fn:Func)(c:Code)(args:List AV)(L:SH)(Q:AV→SH→Prop):Prop:=
 code P F ht c (args++List.replicate (fn.ntmps-args.length) aZ) L (fun τ L=>res P fn.results.toList τ L [] Q) (fun _ _ _=>False) (fun τ L=>res P fn.results.toList τ L [] Q)
end
end W
section
variable {P:Program} {F:TypeId→Option (List TypeId)} {ht:Ct}
theorem mA(τ:List AV)(t:Nat):∀live:List Nat,ay live (jj live τ) t=.junk∨ay live (jj live τ) t=τ.getD t .junk
 | []=>.inl rfl
 | d::ds=>by
  simp only[jj,List.map_cons,ay]
  by_cases h:d=t
  ·subst h;rw[if_pos rfl];exact .inr rfl
  ·rw[if_neg h];exact mA τ t ds
theorem uO(live:List Nat)(τ:List AV):IY τ (e7 τ.length live (jj live τ)):=by
 refine⟨by simp[e7],fun i x hx=>?_⟩
 simp only[e7,List.getElem?_map]at hx
 rcases Nat.lt_or_ge i τ.length with hi | hi
 ·rw[List.getElem?_range hi]at hx
  simp only[Option.map_some,Option.some.injEq]at hx
  subst hx
  rcases mA τ i live with h | h
  ·exact .inl h
  ·right
   rw[h,List.getElem?_eq_getElem hi]
   simp[List.getD,hi]
 ·rw[List.getElem?_eq_none (by simpa using hi)]at hx;cases hx
theorem BF{n:Nat}{live:List Nat}{vs vs2:List AV}{L L2:SH}(h:aV vs L vs2 L2):aV (e7 n live vs) L (e7 n live vs2) L2:=by
 obtain⟨K,R,h1,⟨h2,h3⟩,h4⟩:=h.ex
 refine⟨K,R,h1,⟨by simp[e7],fun i a a2 g1 g2=>?_⟩,h4⟩
 simp only[e7,List.getElem?_map]at g1 g2
 cases hr:(List.range n)[i]? with
 | none=>rw[hr]at g1;cases g1
 | some t=>
  rw[hr]at g1 g2
  simp only[Option.map_some,Option.some.injEq]at g1 g2
  subst g1;subst g2
  clear hr h1 h h4
  induction live generalizing vs vs2 with
  | nil=>exact .refl _
  | cons d ds ih=>
   cases vs with
   | nil=>cases vs2 with
    | nil=>exact .refl _
    | cons y ys=>simp at h2
   | cons x xs=>cases vs2 with
    | nil=>simp at h2
    | cons y ys=>
     simp only[ay]
     by_cases hd:d=t
     ·rw[if_pos hd,if_pos hd];exact h3 0 x y rfl rfl
     ·rw[if_neg hd,if_neg hd]
      exact ih (by simpa using h2) fun i a a2 e1 e2=>h3 (i+1) a a2 (by simpa using e1) (by simpa using e2)
theorem uP{τ:List AV}{d:Nat}{v:AV}{L K R:SH}(hL:L.Perm (K++R))(hv:Fz K (τ.getD d .junk) v):aV τ L (τ.set d v) R:=by
 refine .drop hL (by simp) fun i a a2 h1 h2=>?_
 rw[List.getElem?_set]at h2
 by_cases hd:d=i
 ·subst hd
  rw[if_pos rfl]at h2
  split at h2
  ·cases h2
   rw[List.getD,h1]at hv
   exact hv
  ·cases h2
 ·rw[if_neg hd,h1]at h2
  cases h2
  exact .refl _
theorem Fz.rows{K:SH}{b i n:Nat}{x:Blk}(hm:(b,x)∈K)(hs:0<x.size)(hle:i+n≤x.rows.length):Fz K (.sl b i n) (.lst ((x.rows.drop i).take n)):=by
 rcases Nat.eq_zero_or_pos n with rfl | hn
 ·simp only[List.take_zero];exact .sl0 b i
 ·have get:∀(j:Nat) (r r2:List AV),x.rows[i+j]? =some r→((x.rows.drop i).take n)[j]? =some r2→r=r2:=fun j r r2 h1 h2=>by
   rw[List.getElem?_take]at h2
   split at h2
   ·rw[List.getElem?_drop,h1]at h2;cases h2;rfl
   ·cases h2
  refine .sl b i n x _ hm hs hn (by simp;omega) hle (fun j r r2 h1 h2=>by rw[get j r r2 h1 h2]) fun j r r2 q a a2 h1 h2 h3 h4=>?_
  have:=get j r r2 h1 h2
  subst this
  rw[h3]at h4;cases h4
  exact .refl _
theorem Fz.box{K:SH}{b i off:Nat}{x:Blk}(hm:(b,x)∈K)(hs:0<x.size)(hn:0<x.rows.length):Fz K (.ptr b i off) (.pptr x.rows i off):=
 .ptr b i off x x.rows hm hs rfl hn (fun j r r2 h1 h2=>by rw[h1]at h2;cases h2;rfl) fun j r r2 q a a2 h1 h2 h3 h4=>by
  rw[h1]at h2;cases h2;rw[h3]at h4;cases h4;exact .refl _
theorem bS.post{c:Code}{τ:List AV}{L:SH}{Q Q2:Ex→List AV→SH→Prop}(h:bS P c τ L Q)(hq:∀e τ' L',Q e τ' L'→∃τ2 L2,aV τ' L' τ2 L2∧Q2 e τ2 L2):bS P c τ L Q2:=fun H hb hs=>by
 obtain⟨e,τ',H',L',h1,h2,h3⟩:=h H hb hs
 obtain⟨τ2,L2,hz,h4⟩:=hq e τ' L' h3
 obtain⟨H2,f1,f2,f3,f4⟩:=iJ hz h2.sub h2.bd
 refine⟨e,τ2,H2,L2,⟨by rw[f2];exact h1.1,fun w σ a hW hτ Q hQ=>h1.2 w σ a hW hτ Q fun a' w' ⟨σ',t,r,e1,m⟩=>?_⟩,h2.trans (f1.low h2.next) (Nat.le_refl _),h4⟩
 obtain⟨g1,g2,g3⟩:=f3 w' σ' r
 exact hQ a' w' ⟨σ',⟨g3 _ t.1,t.2⟩,g1,⟨e1.os,e1.tape,e1.output,e1.size,e1.keep,e1.shape,e1.sig,e1.eqfr,e1.frame,fun c hc=>e1.own c (g2 c hc)⟩,m⟩
theorem bS.frzs{c:Code}{τ:List AV}{L:SH}{K:W.Kn}{n:Nat}:∀(ds:List Nat),bS P c τ L (fun e τ' L'=>e=.normal∧τ'.length=n∧W.frzs ds τ' L' K)→bS P c τ L (fun e τ' L'=>e=.normal∧τ'.length=n∧K τ' L')
 | [],h=>h
 | d::ds,h=>by
  refine bS.frzs ds (h.post ?_)
  rintro e τ' L' ⟨he,hn,hz⟩
  simp only[W.frzs]at hz
  have hz:=hz.h
  simp only[W.frz0]at hz
  have set:∀(v:AV) (L2:SH),aV τ' L' (τ'.set d v) L2→W.frzs ds (τ'.set d v) L2 K→∃τ2 L2,aV τ' L' τ2 L2∧e=.normal∧τ2.length=n∧W.frzs ds τ2 L2 K:=fun v L2 h1 h2=>⟨_,L2,h1,he,by simpa using hn,h2⟩
  split at hz
  ·rename_i b i off hv
   obtain⟨x,L2,h1,h2,h3,h4⟩:=hz
   refine set _ L2 (uP (K:=[(b,x)]) h1.perm ?_) h4
   rw[hv]
   exact .box (by simp) h2 h3
  ·rename_i b i k hv
   obtain⟨x,L2,h1,h2,h3,h4⟩:=hz
   refine set _ L2 (uP (K:=[(b,x)]) h1.perm ?_) h4
   rw[hv]
   exact .rows (by simp) h2 h3
  ·rename_i hv
   refine set _ L' (uP (K:=[]) (.refl _) ?_) hz
   rw[hv]
   exact .nils
  ·rename_i hv
   refine set _ L' (uP (K:=[]) (.refl _) ?_) hz
   rw[hv]
   exact .emp
  ·refine set _ L' (uP (K:=[]) (.refl _) ?_) hz
   exact .refl _
theorem AU(τ:List AV)(d:Option Tmp)(v:AV):(ey τ d v).length=τ.length:=by cases d<;>simp[ey]
theorem yS{ops:Array Oper}{base:Nat}{call:FuncId→List AV→ah→Option (AV×ah)}:∀(l:List Nat) (τ:List AV) (H:ah) (τ':List AV) (H':ah),jc P F call ops base l τ H=some (τ',H')→τ'.length=τ.length
 | [],τ,H,τ',H',h=>by cases h;rfl
 | i::l,τ,H,τ',H',h=>by
  unfold jc at h
  split at h
  ·rename_i τ1 H1 hs
   rw[yS l _ _ _ _ h]
   unfold gS at hs
   repeat' (first | (cases hs;exact AU _ _ _) | (cases hs;done) | split at hs)
  ·cases h
theorem rN{ops:Array Oper}{base:Nat}{before:List Nat}{call:FuncId→List AV→ah→Option (AV×ah)}:∀(l:List Nat) (τ:List AV) (H:ah) (rs:List mt) (τ':List AV) (H':ah) (rs':List mt),c9 P F call ops base before l τ H rs=some (τ',H',rs')→τ'.length=τ.length
 | [],τ,H,rs,τ',H',rs',h=>by cases h;rfl
 | i::l,τ,H,rs,τ',H',rs',h=>by
  have key:∀{mask:Nat} {τ1:List AV} {H1:ah} {r:Option mt},aY P F call ops base i mask τ H=some (τ1,H1,r)→τ1.length=τ.length:=fun {mask τ1 H1 r} hs=>by
   unfold aY at hs
   repeat' (first | (cases hs;exact AU _ _ _) | (cases hs;done) | split at hs)
  unfold c9 at h
  split at h
  ·rename_i hs;rw[rN l _ _ _ _ _ _ h,key hs]
  ·rename_i hs
   split at h
   ·rw[rN l _ _ _ _ _ _ h,key hs]
   ·cases h
  ·cases h
theorem bS.region'{ops:Array Oper}{id:Nat}{τ:List AV}{L:SH}{K:W.Kn}(fit:Fit P F)(h:W.sq P F ops (List.range ops.size) τ L K):bS P (.region id ops false) τ L fun e τ' L'=>e=.normal∧τ'.length=τ.length∧K τ' L':=fun H hb hs=>by
 obtain⟨call,τ',H',L',k1,k2,k3,k4,k5⟩:=kg (base:=H.next) (List.range ops.size) τ L _ h List.nodup_range {H with next:=H.next+ops.size} (hb.bump _ _ (Nat.le_add_right _ _)) (hs.congr fun _=>rfl)
  (fun i hi=>⟨Nat.add_lt_add_left (List.mem_range.1 hi) _,hb _ (Nat.le_add_right _ _)⟩) (Nat.le_add_right _ _)
 have hr:cP P F call ops false τ H=some (τ',H'):=by simp only[cP,Bool.false_eq_true,if_false];exact k3
 exact⟨.normal,τ',H',L',eF fit k1 hr,⟨Nat.le_trans (Nat.le_add_right _ _) k4.next,k4.bd,k4.sub,k4.keep,k4.dom,k4.fresh⟩,rfl,yS _ _ _ _ _ k3,k5⟩
theorem bS.draw'{ops:Array Oper}{id:Nat}{τ:List AV}{L:SH}{K:W.Kn}(fit:Fit P F)(hst:jh ops)(hed:pQ ops)(h:W.dr P F ops (bA ops.toList []) (List.range' 0 ops.size) τ L [] K):bS P (.region id ops true) τ L fun e τ' L'=>e=.normal∧τ'.length=τ.length∧K τ' L':=fun H hb hs=>by
 obtain⟨call,τ',H',L',rs',k1,k2,k3,k4,k5⟩:=pU (base:=H.next) ops.size 0 τ L [] _ h {H with next:=H.next+ops.size} [] (hb.bump _ _ (Nat.le_add_right _ _)) (hs.congr fun _=>rfl)
  (fun i _ hi=>⟨by show H.next+i<H.next+ops.size;omega,hb _ (Nat.le_add_right _ _)⟩) (by show H.next+0≤H.next+ops.size;omega) (by simp) (fun j hj=>by omega)
 have hr:cP P F call ops true τ H=some (τ',{H' with log:=rs'.flatMap (·.writes)++H'.log}):=by
  simp only[cP,if_true]
  rw[List.range_eq_range',k3]
 obtain⟨n1,n2⟩:=uG fit k1 k2 hst hed hr
 exact⟨.normal,τ',_,L',⟨n1,fun w σ a hW hτ Q hQ=>n2 id w σ a hW hτ Q hQ⟩,⟨Nat.le_trans (Nat.le_add_right _ _) k4.next,k4.bd,k4.sub.congr fun _=>rfl,k4.keep,k4.dom,k4.fresh⟩,rfl,rN _ _ _ _ _ _ _ k3,k5⟩
def HM(n:Nat)(kn:W.Kn)(kx:Nat→W.Kn)(kr:W.Kn)(e:Ex)(τ:List AV)(L:SH):Prop:=τ.length=n∧match e with
 | .normal=>kn τ L
 | .exit id=>kx id τ L
 | .ret=>kr τ L
theorem cV(fit:Fit P F):∀(c:Code) (τ:List AV) (L:SH) (kn:W.Kn) (kx:Nat→W.Kn) (kr:W.Kn),W.code P F ht c τ L kn kx kr→bS P c τ L (HM τ.length kn kx kr)
 | .skip,τ,L,kn,kx,kr,h=>.skip ⟨rfl,h⟩
 | .label l,τ,L,kn,kx,kr,h=>.label ⟨rfl,h⟩
 | .exit id,τ,L,kn,kx,kr,h=>.exit ⟨rfl,h⟩
 | .ret,τ,L,kn,kx,kr,h=>.ret ⟨rfl,h⟩
 | .region id ops draw,τ,L,kn,kx,kr,h=>by
  simp only[W.code]at h
  have fin:bS P (.region id ops draw) τ L (fun e τ' L'=>e=.normal∧τ'.length=τ.length∧kn τ' L')→bS P (.region id ops draw) τ L (HM τ.length kn kx kr):=fun h=>h.mono fun e τ' L' ⟨h1,h2,h3⟩=>by subst h1;exact⟨h2,h3⟩
  cases draw with
  | false=>exact fin (.frzs _ (.region' fit h))
  | true=>
   simp only[if_true,Bool.and_eq_true]at h
   have hm:=h.2
   rw[←eq_of_beq h.1.2]at hm
   exact fin (.frzs _ (.draw' fit (yM h.1.1.1) (w7 h.1.1.2) hm))
 | .seq a b,τ,L,kn,kx,kr,h=>by
  simp only[W.code]at h
  split at h
  ·refine bS.seq ((cV fit a τ L _ kx kr h).mono fun e τ' L' ⟨h1,h2⟩=>?_)
   cases e with
   | normal=>simp only;rw[←h1];exact cV fit b τ' L' kn kx kr h2
   | exit id=>exact⟨h1,h2⟩
   | ret=>exact⟨h1,h2⟩
  ·rename_i live _
   have hB:=h.h
   refine bS.seq ((cV fit a τ L _ kx kr hB).mono fun e τ' L' ⟨h1,h2⟩=>?_)
   cases e with
   | normal=>
    have h5:=cV fit b _ L' kn kx kr h2
    have hlen:(e7 τ.length live (jj live τ')).length=τ.length:=by simp[e7]
    rw[hlen]at h5
    have hd:=uO live τ'
    rw[h1]at hd
    exact bS.dim hd h5
   | exit id=>exact⟨h1,h2⟩
   | ret=>exact⟨h1,h2⟩
 | .cond x a b,τ,L,kn,kx,kr,h=>by
  rcases h.h with⟨h1,h2⟩ | ⟨h1,h2⟩
  ·exact bS.cond (t:=true) h1 (cV fit a τ L kn kx kr h2)
  ·exact bS.cond (t:=false) h1 (cV fit b τ L kn kx kr h2)
 | .block id b,τ,L,kn,kx,kr,h=>by
  refine bS.block ((cV fit b τ L _ _ kr h).mono fun e τ' L' ⟨h1,h2⟩=>?_)
  cases e with
  | normal=>exact⟨h1,h2⟩
  | ret=>exact⟨h1,h2⟩
  | exit id'=>
   simp only[Ex.leave]
   simp only at h2
   by_cases hid:id'=id
   ·rw[if_pos hid]at h2 ⊢;exact⟨h1,h2⟩
   ·rw[if_neg hid]at h2 ⊢;exact⟨h1,h2⟩
 | .loop b,τ,L,kn,kx,kr,h=>by
  simp only[W.code]at h
  split at h
  ·exact h.elim
  ·rename_i r _
   obtain⟨I,⟨n,vs0,L0,hz0,h0⟩,hB⟩:=h.h
   refine bS.loop (fun m τ' L'=>τ'.length=τ.length∧∃vs2 L2,aV (jj (ht.loop r) τ') L' vs2 L2∧I m vs2 L2) (fun m τ' L' ⟨h1,vs2,L2,hz,h2⟩=>?_) n ⟨rfl,vs0,L0,hz0,h0⟩
   have h4:=cV fit b _ L2 _ kx kr (hB m vs2 L2 h2)
   have hlen:(e7 τ.length (ht.loop r) vs2).length=τ.length:=by simp[e7]
   rw[hlen]at h4
   have h5:=bS.fz (BF (n:=τ.length) (live:=ht.loop r) hz) h4
   have hd:=uO (ht.loop r) τ'
   rw[h1]at hd
   refine(bS.dim hd h5).mono fun e τ1 L1 ⟨g1,g2⟩=>?_
   cases e with
   | normal=>
    obtain⟨m',vs3,L3,k1,k2,k3⟩:=g2
    exact⟨m',k1,g1,vs3,L3,k2,k3⟩
   | exit id=>exact⟨g1,g2⟩
   | ret=>exact⟨g1,g2⟩
 | .rangeFunc ..,_,_,_,_,_,h=>h.elim
 | .scope _,_,_,_,_,_,h=>h.elim
 | .goto _,_,_,_,_,_,h=>h.elim
 | .refuse _,_,_,_,_,_,h=>h.elim
theorem Ae{τ:List AV}{L:SH}{H:ah}{Q:AV→SH→Prop}(hs:iq L H):∀(rs:List ResultVar) (vs:List AV),W.res P rs τ L vs Q→∃us,cE (rs.map (gT P τ H))=some us∧Q (W.pack (vs.reverse++us)) L
 | [],vs,h=>⟨[],rfl,by simpa[W.res]using h⟩
 | .tmp t::rs,vs,h=>by
  obtain⟨us,h1,h2⟩:=Ae hs rs _ h
  refine⟨τ.getD t aZ::us,?_,by simpa using h2⟩
  simp only[List.map_cons,gT,cE,h1]
 | .cell a t::rs,vs,h=>by
  simp only[W.res]at h
  split at h
  ·rename_i ag n hag hn
   obtain⟨v,g1,g2⟩:=AR hs hag hn h.h
   obtain⟨us,h1,h2⟩:=Ae hs rs _ g2
   refine⟨v::us,?_,by simpa using h2⟩
   simp only[List.map_cons,gT,g1,cE,h1]
  ·exact h.elim
theorem Af(fit:Fit P F){f:FuncId}{fn:Func}{c:Code}{args:List AV}{L:SH}{Q:AV→SH→Prop}(hf:P.funcs[f]? =some fn)(hb:fn.body=some c)(h:W.func P F ht fn c args L Q):am P f args L Q:=by
 refine⟨⟨fn,c,hf,hb⟩,fun H hB hs=>?_⟩
 obtain⟨e,τ',H',L',k1,k2,k3,k4⟩:=cV fit c _ L _ _ _ h H hB hs
 have hres:(e=.normal∨e=.ret)∧W.res P fn.results.toList τ' L' [] Q:=by
  cases e with
  | normal=>exact⟨.inl rfl,k4⟩
  | ret=>exact⟨.inr rfl,k4⟩
  | exit id=>exact k4.elim
 obtain⟨he,hr⟩:=hres
 obtain⟨us,r1,r2⟩:=Ae k2.sub _ _ hr
 have hv:iz P τ' H' fn.results.toList=some (W.pack us):=by
  unfold iz
  rw[r1]
  match us with
  | []=>rfl
  | [v]=>rfl
  | v::u::l=>rfl
 simp only[List.reverse_nil,List.nil_append]at r2
 refine⟨_,H',L',fun w σ vs hW hvs=>?_,k2,r2⟩
 refine calls_of_wp hf hb (k1.2 w σ _ hW ⟨⟨by simp[hvs.1],fun i x u h1 h2=>?_⟩,rfl⟩ _ fun a' w' haf=>?_)
 ·simp only[Array.toList_append,Array.toList_replicate]at h2
  rcases Nat.lt_or_ge i args.length with hi | hi
  ·rw[List.getElem?_append_left hi]at h1
   rw[List.getElem?_append_left (by rw[←hvs.1];exact hi)]at h2
   exact hvs.2 i x u h1 h2
  ·rw[List.getElem?_append_right hi,List.getElem?_replicate]at h1
   rw[List.getElem?_append_right (by rw[←hvs.1];exact hi),List.getElem?_replicate]at h2
   split at h1
   ·split at h2
    ·cases h1;cases h2;exact iD
    ·cases h2
   ·cases h1
 ·obtain⟨σ',t1,g1,e1,m1⟩:=haf
  obtain⟨v',q1,q2⟩:=mz (P:=P) g1 t1 hv
  have hpost:a'.defers=[]∧∃v,(results fn a'.tmps).run P w'=.ok v w'∧∃v' σ',Ending.returned v=.returned v'∧bl w' σ' (aQ σ' H') _ v'∧bc w' σ' H'∧en w σ (aQ σ H) w' σ' (aQ σ' H')∧∀c pl,σ' c=some pl→σ c=some pl∨H.next≤c:=
   ⟨t1.2,v',q1,v',σ',rfl,q2,g1,e1,m1⟩
  rcases he with rfl | rfl
  ·exact hpost
  ·exact hpost
end
end Go.Proofs.Ytljkdffikfkcgaa.Am
end
section
namespace Go.Proofs.Ytljkdffikfkcgaa.Am
def Ag(P:Program)(t:TypeId):Option (List TypeId):=match P.underlying t with
 | some (.struct fs) => if (!P.stoodInHeld t && !P.eqGuardType P.depth t && fs.toList.zipIdx.all fun p => p.1.offset == p.2 && p.1.name != "_" && (match dI P p.1.type with | some false => true | _ => false)) = true then some (fs.toList.map (·.type)) else none
 | _=>none
theorem BG{P:Program}{t:TypeId}{ts:List TypeId}(h:Ag P t=some ts):Cg P t ts:=by
 unfold Ag at h
 split at h
 ·rename_i fs hu
  split at h
  ·rename_i hc
   cases h
   simp only[Bool.and_eq_true,Bool.not_eq_true',List.all_eq_true]at hc
   have hf:P.fieldsOf t=fs:=by simp[Program.fieldsOf,hu]
   refine⟨by rw[hf];exact hu,hc.1.1,hc.1.2,by rw[hf],fun i f hi=>?_⟩
   rw[hf]at hi
   have:=hc.2 (f,i) (by rw[List.mem_iff_getElem?];exact⟨i,by rw[List.getElem?_zipIdx,hi];simp⟩)
   simp only[beq_iff_eq,bne_iff_ne]at this
   refine⟨this.1.2,this.1.1,?_⟩
   have h2:=this.2
   split at h2
   ·assumption
   ·cases h2
  ·cases h
 ·cases h
noncomputable def Fl:TypeId→Option (List TypeId):=Ag Try.prog
set_option maxRecDepth 1000000 in
theorem uQ:Try.prog.funcs.toList.all yN=true:=by kernel_rfl
theorem fit:Fit Try.prog Fl:=⟨fun t ts h=>BG h,(Fw uQ).1,by kernel_rfl⟩
end Go.Proofs.Ytljkdffikfkcgaa.Am
end
section
namespace Go.Proofs.Ytljkdffikfkcgaa.Am
set_option linter.unusedVariables false
section
variable {P:Program} {F:TypeId→Option (List TypeId)} {K:AV→Prop} {KL:AV→SH→Prop} {L:SH}
theorem cG(v:AV):W0.opt (some v) K=K v:=propext ⟨fun⟨u,h1,h2⟩=>by cases h1;exact h2,fun h=>⟨v,rfl,h⟩⟩
theorem yT:W0.opt none K=False:=propext ⟨fun⟨u,h1,h2⟩=>(by cases h1),fun h=>h.elim⟩
theorem F9(x y:AV):W.pick (.bool true) x y K=K x:=propext ⟨fun⟨t,h1,h2⟩=>by cases h1;exact h2,fun h=>⟨true,rfl,h⟩⟩
theorem Ga(x y:AV):W.pick (.bool false) x y K=K y:=propext ⟨fun⟨t,h1,h2⟩=>by cases h1;exact h2,fun h=>⟨false,rfl,h⟩⟩
theorem HN(p:Bool)(A:(AV→SH→Prop)→Prop):W.grd (.bool p) true A L KL=((p=true→A KL)∧(p=false→KL aZ L)):=propext ⟨fun⟨h⟩=>by
  rcases h with⟨h1,h2⟩ | ⟨h1 | h1,h2⟩
  ·cases h1;exact⟨fun _=>h2,fun h=>(by cases h)⟩
  ·cases h1;exact⟨fun h=>(by cases h),fun _=>h2⟩
  ·(cases h1),fun⟨h1,h2⟩=>by
  cases p with
  | true=>exact⟨.inl ⟨rfl,h1 rfl⟩⟩
  | false=>exact⟨.inr ⟨.inl rfl,h2 rfl⟩⟩⟩
theorem HO(p:Bool)(A:(AV→SH→Prop)→Prop):W.grd (.bool p) false A L KL=((p=false→A KL)∧(p=true→KL aZ L)):=propext ⟨fun⟨h⟩=>by
  rcases h with⟨h1,h2⟩ | ⟨h1 | h1,h2⟩
  ·cases h1;exact⟨fun _=>h2,fun h=>(by cases h)⟩
  ·cases h1;exact⟨fun h=>(by cases h),fun _=>h2⟩
  ·(cases h1),fun⟨h1,h2⟩=>by
  cases p with
  | false=>exact⟨.inl ⟨rfl,h1 rfl⟩⟩
  | true=>exact⟨.inr ⟨.inl rfl,h2 rfl⟩⟩⟩
theorem Gb{KF:AV→SH→W.Fp→Prop}(p:Bool)(A:(AV→SH→W.Fp→Prop)→Prop):W.dgrd (.bool p) true A L KF=((p=true→A KF)∧(p=false→KF aZ L ⟨[],[],[],L.names⟩)):=propext ⟨fun⟨h⟩=>by
  rcases h with⟨h1,h2⟩ | ⟨h1 | h1,h2⟩
  ·cases h1;exact⟨fun _=>h2,fun h=>(by cases h)⟩
  ·cases h1;exact⟨fun h=>(by cases h),fun _=>h2⟩
  ·(cases h1),fun⟨h1,h2⟩=>by
  cases p with
  | true=>exact⟨.inl ⟨rfl,h1 rfl⟩⟩
  | false=>exact⟨.inr ⟨.inl rfl,h2 rfl⟩⟩⟩
theorem Gc{KF:AV→SH→W.Fp→Prop}(p:Bool)(A:(AV→SH→W.Fp→Prop)→Prop):W.dgrd (.bool p) false A L KF=((p=false→A KF)∧(p=true→KF aZ L ⟨[],[],[],L.names⟩)):=propext ⟨fun⟨h⟩=>by
  rcases h with⟨h1,h2⟩ | ⟨h1 | h1,h2⟩
  ·cases h1;exact⟨fun _=>h2,fun h=>(by cases h)⟩
  ·cases h1;exact⟨fun h=>(by cases h),fun _=>h2⟩
  ·(cases h1),fun⟨h1,h2⟩=>by
  cases p with
  | false=>exact⟨.inl ⟨rfl,h1 rfl⟩⟩
  | true=>exact⟨.inr ⟨.inl rfl,h2 rfl⟩⟩⟩
theorem Gd(p:Bool)(A B:Prop):W.cond (.bool p) A B=((p=true→A)∧(p=false→B)):=propext ⟨fun⟨h⟩=>by
  rcases h with⟨h1,h2⟩ | ⟨h1,h2⟩
  ·cases h1;exact⟨fun _=>h2,fun h=>(by cases h)⟩
  ·cases h1;exact⟨fun h=>(by cases h),fun _=>h2⟩,fun⟨h1,h2⟩=>by
  cases p with
  | true=>exact⟨.inl ⟨rfl,h1 rfl⟩⟩
  | false=>exact⟨.inr ⟨rfl,h2 rfl⟩⟩⟩
theorem eH(op:BinOp)(t:TypeId)(x y:AV):W.bin P F op t x y K=W0.opt (fP P F op t x y) K:=propext ⟨fun h=>h.h,fun h=>⟨h⟩⟩
theorem HP(t:TypeId)(k:IntKind)(a b:Int):W.bin P F .lss t (.int k a) (.int k b) K=K (.bool (decide (a<b))):=by rw[eH];simp[fP,cG]
theorem HQ(t:TypeId)(k:IntKind)(a b:Int):W.bin P F .leq t (.int k a) (.int k b) K=K (.bool (decide (a≤b))):=by rw[eH];simp[fP,cG]
theorem HR(t:TypeId)(k:IntKind)(a b:Int):W.bin P F .gtr t (.int k a) (.int k b) K=K (.bool (decide (b<a))):=by rw[eH];simp[fP,cG]
theorem HS(t:TypeId)(k:IntKind)(a b:Int):W.bin P F .geq t (.int k a) (.int k b) K=K (.bool (decide (b≤a))):=by rw[eH];simp[fP,cG]
theorem HT(t:TypeId)(k:IntKind)(a b:Int):W.bin P F .eql t (.int k a) (.int k b) K=K (.bool (decide (a=b))):=by
 rw[eH];simp only[fP,ne_eq,not_true_eq_false,if_false,cG];rw[show(a==b)=decide (a=b)from by cases h:(a==b)<;>simp_all]
theorem HU(t:TypeId)(k:IntKind)(a b:Int):W.bin P F .neq t (.int k a) (.int k b) K=K (.bool (decide (a≠b))):=by
 rw[eH];simp only[fP,ne_eq,not_true_eq_false,if_false,cG];rw[show(a != b)=decide (¬a=b)from by cases h:(a != b)<;>simp_all]
theorem HV(t:TypeId)(k:IntKind)(a b:Int):W.bin P F .add t (.int k a) (.int k b) K=K (.int k (k.wrap (a+b))):=by rw[eH];simp[fP,cG]
theorem HW(t:TypeId)(k:IntKind)(a b:Int):W.bin P F .sub t (.int k a) (.int k b) K=K (.int k (k.wrap (a-b))):=by rw[eH];simp[fP,cG]
theorem HX(t:TypeId)(k:IntKind)(a b:Int):W.bin P F .mul t (.int k a) (.int k b) K=K (.int k (k.wrap (a*b))):=by rw[eH];simp[fP,cG]
theorem HY(t:TypeId)(k:IntKind)(a b:Int):W.bin P F .quo t (.int k a) (.int k b) K=(b≠0∧K (.int k (k.wrap (a.tdiv b)))):=by
 rw[eH];by_cases h:b=0<;>simp[fP,cG,yT,h]
theorem HZ(t:TypeId)(k:IntKind)(a b:Int):W.bin P F .rem t (.int k a) (.int k b) K=(b≠0∧K (.int k (a.tmod b))):=by
 rw[eH];by_cases h:b=0<;>simp[fP,cG,yT,h]
theorem H3(t:TypeId)(a b:List UInt8):W.bin P F .eql t (.str a) (.str b) K=K (.bool (decide (a=b))):=by
 rw[eH];simp only[fP,cG];rw[show(a==b)=decide (a=b)from by cases h:(a==b)<;>simp_all]
theorem H4(t:TypeId)(a b:List UInt8):W.bin P F .neq t (.str a) (.str b) K=K (.bool (decide (a≠b))):=by
 rw[eH];simp only[fP,cG];rw[show(!(a==b))=decide (a≠b)from by cases h:(a==b)<;>simp_all]
theorem H5(t:TypeId)(h:P.underlying t=some .bool)(a b:Bool):W.bin P F .neq t (.bool a) (.bool b) K=K (.bool (!(a==b))):=by rw[eH];simp[fP,t8,h,cG]
theorem Ge(b:Bool):W.un .not (.bool b) K=K (.bool !b):=propext ⟨fun⟨v,h1,h2⟩=>by cases h1;exact h2,fun h=>⟨_,rfl,h⟩⟩
theorem Gf(k:IntKind)(n:Int):W.un .neg (.int k n) K=K (.int k (k.wrap (0-n))):=propext ⟨fun⟨v,h1,h2⟩=>by cases h1;exact h2,fun h=>⟨_,rfl,h⟩⟩
theorem Gg(k k':IntKind)(n:Int):W.conv k (.int k' n) K=K (.int k (k.wrap n)):=propext ⟨fun⟨k2,m,h1,h2⟩=>by cases h1;exact h2,fun h=>⟨_,_,rfl,h⟩⟩
theorem Cu(k:IntKind)(a c:Int):W.mnx true (.int k a) (.int k c) K=K (.int k (if c > a then c else a)):=propext ⟨fun⟨k',a',c',h1,h2,h3⟩=>by cases h1;cases h2;exact h3,fun h=>⟨_,_,_,rfl,rfl,h⟩⟩
theorem Eo(g:FuncId)(cs args:List AV):W.call P (.fn g cs) args L KL=am P g (args++cs) L KL:=propext ⟨fun h=>h.h,fun h=>⟨h⟩⟩
theorem Cv{KN:AV→SH→List Nat→Prop}(us:List W.WR)(i:Nat)(g:FuncId)(cs args:List AV):W.dcall P us i (.fn g cs) args L KN=∃Kc R:SH,L.Perm (Kc++R)∧(∀x∈us,W.free x ⟨i,[],Kc.names,[],true,[]⟩)∧am P g (args++cs) Kc fun v K'=>KN v (K'++R) Kc.names:=propext ⟨fun h=>h.h,fun h=>⟨h⟩⟩
theorem Ep{KF:W.Fp→Prop}(r:W.Fp):W.note r KF=KF r:=propext ⟨fun h=>h.h r rfl,fun h=>⟨fun r' e=>e▸h⟩⟩
def aO(P:Program)(f:FuncId)(args:List AV)(v:AV):Prop:=am P f args [] fun u K=>u=v∧K=[]
theorem aO.call{f:FuncId}{args:List AV}{v:AV}(h:aO P f args v)(hk:KL v L):am P f args L KL:=
 am.frame h (K:=[]) (R:=L) (.refl _) fun u K ⟨h1,h2⟩=>by subst h1;subst h2;exact hk
end
end Go.Proofs.Ytljkdffikfkcgaa.Am
end
section
namespace Go.Proofs.Ytljkdffikfkcgaa.Am
set_option linter.unusedVariables false
section
variable {P:Program} {F:TypeId→Option (List TypeId)} {K:AV→Prop} {KL:AV→SH→Prop} {L:SH}
theorem Cw{p:Bool}{x y:AV}(hp:p=true)(h:K x):W.pick (.bool p) x y K:=by subst hp;rw[F9];exact h
theorem Cx{p:Bool}{x y:AV}(hp:p=false)(h:K y):W.pick (.bool p) x y K:=by subst hp;rw[Ga];exact h
theorem Er{p want:Bool}{A:(AV→SH→Prop)→Prop}(hp:p=want)(h:A KL):W.grd (.bool p) want A L KL:=⟨.inl ⟨by rw[hp],h⟩⟩
theorem Es{p want:Bool}{A:(AV→SH→Prop)→Prop}(hp:p=!want)(h:KL aZ L):W.grd (.bool p) want A L KL:=⟨.inr ⟨.inl (by rw[hp]),h⟩⟩
theorem xz{want:Bool}{A:(AV→SH→Prop)→Prop}(h:KL aZ L):W.grd aZ want A L KL:=⟨.inr ⟨.inr rfl,h⟩⟩
theorem xA{p:Bool}{A:(AV→SH→Prop)→Prop}(h1:p=true→A KL)(h2:p=false→KL aZ L):W.grd (.bool p) true A L KL:=by rw[HN];exact⟨h1,h2⟩
theorem xB{p:Bool}{A:(AV→SH→Prop)→Prop}(h1:p=false→A KL)(h2:p=true→KL aZ L):W.grd (.bool p) false A L KL:=by rw[HO];exact⟨h1,h2⟩
theorem Cy{KF:AV→SH→W.Fp→Prop}{p want:Bool}{A:(AV→SH→W.Fp→Prop)→Prop}(hp:p=want)(h:A KF):W.dgrd (.bool p) want A L KF:=⟨.inl ⟨by rw[hp],h⟩⟩
theorem Cz{KF:AV→SH→W.Fp→Prop}{p want:Bool}{A:(AV→SH→W.Fp→Prop)→Prop}(hp:p=!want)(h:KF aZ L ⟨[],[],[],L.names⟩):W.dgrd (.bool p) want A L KF:=⟨.inr ⟨.inl (by rw[hp]),h⟩⟩
theorem CA{KF:AV→SH→W.Fp→Prop}{want:Bool}{A:(AV→SH→W.Fp→Prop)→Prop}(h:KF aZ L ⟨[],[],[],L.names⟩):W.dgrd aZ want A L KF:=⟨.inr ⟨.inr rfl,h⟩⟩
theorem CB{KF:AV→SH→W.Fp→Prop}{p:Bool}{A:(AV→SH→W.Fp→Prop)→Prop}(h1:p=true→A KF)(h2:p=false→KF aZ L ⟨[],[],[],L.names⟩):W.dgrd (.bool p) true A L KF:=by rw[Gb];exact⟨h1,h2⟩
theorem CC{KF:AV→SH→W.Fp→Prop}{p:Bool}{A:(AV→SH→W.Fp→Prop)→Prop}(h1:p=false→A KF)(h2:p=true→KF aZ L ⟨[],[],[],L.names⟩):W.dgrd (.bool p) false A L KF:=by rw[Gc];exact⟨h1,h2⟩
theorem CD{p:Bool}{A B:Prop}(hp:p=true)(h:A):W.cond (.bool p) A B:=⟨.inl ⟨by rw[hp],h⟩⟩
theorem CE{p:Bool}{A B:Prop}(hp:p=false)(h:B):W.cond (.bool p) A B:=⟨.inr ⟨by rw[hp],h⟩⟩
theorem CF{p:Bool}{A B:Prop}(h1:p=true→A)(h2:p=false→B):W.cond (.bool p) A B:=by rw[Gd];exact⟨h1,h2⟩
theorem Fx{t:TypeId}{k:IntKind}{a b:Int}(h:K (.bool (decide (a<b)))):W.bin P F .lss t (.int k a) (.int k b) K:=by rw[HP];exact h
theorem Fy{t:TypeId}{k:IntKind}{a b:Int}(h:K (.bool (decide (a≤b)))):W.bin P F .leq t (.int k a) (.int k b) K:=by rw[HQ];exact h
theorem FA{t:TypeId}{k:IntKind}{a b:Int}(h:K (.bool (decide (b<a)))):W.bin P F .gtr t (.int k a) (.int k b) K:=by rw[HR];exact h
theorem FB{t:TypeId}{k:IntKind}{a b:Int}(h:K (.bool (decide (b≤a)))):W.bin P F .geq t (.int k a) (.int k b) K:=by rw[HS];exact h
theorem FC{t:TypeId}{k:IntKind}{a b:Int}(h:K (.bool (decide (a=b)))):W.bin P F .eql t (.int k a) (.int k b) K:=by rw[HT];exact h
theorem FD{t:TypeId}{k:IntKind}{a b:Int}(h:K (.bool (decide (a≠b)))):W.bin P F .neq t (.int k a) (.int k b) K:=by rw[HU];exact h
theorem CG{t:TypeId}{k:IntKind}{a b:Int}(h:K (.int k (k.wrap (a+b)))):W.bin P F .add t (.int k a) (.int k b) K:=by rw[HV];exact h
theorem CH{t:TypeId}{k:IntKind}{a b:Int}(h:K (.int k (k.wrap (a-b)))):W.bin P F .sub t (.int k a) (.int k b) K:=by rw[HW];exact h
theorem FE{t:TypeId}{k:IntKind}{a b:Int}(h:K (.int k (k.wrap (a*b)))):W.bin P F .mul t (.int k a) (.int k b) K:=by rw[HX];exact h
theorem H6{t:TypeId}{k:IntKind}{a b:Int}(hb:b≠0)(h:K (.int k (k.wrap (a.tdiv b)))):W.bin P F .quo t (.int k a) (.int k b) K:=by rw[HY];exact⟨hb,h⟩
theorem FF{t:TypeId}{k:IntKind}{a b:Int}(hb:b≠0)(h:K (.int k (a.tmod b))):W.bin P F .rem t (.int k a) (.int k b) K:=by rw[HZ];exact⟨hb,h⟩
theorem FG{t:TypeId}{a b:List UInt8}(h:K (.bool (decide (a=b)))):W.bin P F .eql t (.str a) (.str b) K:=by rw[H3];exact h
theorem FH{t:TypeId}{a b:List UInt8}(h:K (.bool (decide (a≠b)))):W.bin P F .neq t (.str a) (.str b) K:=by rw[H4];exact h
theorem H7{b:Bool}(h:K (.bool !b)):W.un .not (.bool b) K:=by rw[Ge];exact h
theorem H8{k:IntKind}{n:Int}(h:K (.int k (k.wrap (0-n)))):W.un .neg (.int k n) K:=by rw[Gf];exact h
theorem CI{k k':IntKind}{n:Int}(h:K (.int k (k.wrap n))):W.conv k (.int k' n) K:=by rw[Gg];exact h
theorem rO{off b i o:Nat}(h:K (.ptr b i (o+off))):W.faddr off (.ptr b i o) K:=⟨h⟩
theorem rP{off:Nat}{rows:List (List AV)}{i o:Nat}(h:K (.pptr rows i (o+off))):W.faddr off (.pptr rows i o) K:=⟨h⟩
theorem CJ{n:Nat}{rows:List (List AV)}{i off:Nat}{r:List AV}{v:AV}(h1:rows[i]? =some r)(h2:r[off]? =some v)(h:K v):W.load false n (.pptr rows i off) L K:=⟨r,v,h1,h2,h⟩
theorem uR{n b i off:Nat}{x:Blk}{r:List AV}{v:AV}(hm:(b,x)∈L)(h1:x.rows[i]? =some r)(h2:r[off]? =some v)(h:K v):W.load false n (.ptr b i off) L K:=⟨x,r,v,hm,h1,h2,h⟩
theorem Et{n:Nat}{rows:List (List AV)}{i:Nat}{r:List AV}(h1:rows[i]? =some r)(h2:r.length=n)(h:K (.agg r)):W.load true n (.pptr rows i 0) L K:=
 ⟨r,.agg r,h1,by simp[W0.rowLd,←h2],h⟩
theorem Eu{n b i:Nat}{x:Blk}{r:List AV}(hm:(b,x)∈L)(h1:x.rows[i]? =some r)(h2:r.length=n)(h:K (.agg r)):W.load true n (.ptr b i 0) L K:=
 ⟨x,r,.agg r,hm,h1,by simp[W0.rowLd,←h2],h⟩
theorem CK{n:Nat}{rows:List (List AV)}{i off:Nat}{r cs:List AV}(h1:rows[i]? =some r)(h2:off+n≤r.length)(h3:(r.drop off).take n=cs)(h:K (.agg cs)):W.load true n (.pptr rows i off) L K:=
 ⟨r,.agg cs,h1,by simp[W0.rowLd,h2,h3],h⟩
theorem CL{n b i off:Nat}{x:Blk}{r cs:List AV}(hm:(b,x)∈L)(h1:x.rows[i]? =some r)(h2:off+n≤r.length)(h3:(r.drop off).take n=cs)(h:K (.agg cs)):W.load true n (.ptr b i off) L K:=
 ⟨x,r,.agg cs,hm,h1,by simp[W0.rowLd,h2,h3],h⟩
theorem gW{KS:SH→Prop}{n b:Nat}{v:AV}{m:Nat}{r cs:List AV}{L':SH}(hu:yg b ⟨m,[r]⟩ ⟨m,[cs]⟩ L L')(h2:v.cells? =some cs)(h3:cs.length=n)(h4:cs.all AV.one=true)(h5:r.length=n)(h:KS L'):W.store n (.ptr b 0 0) v L KS:=
 ⟨⟨m,[r]⟩,r,cs,L',rfl,h2,h3,h4,by omega,by
  have:bG r 0 cs=cs:=by
   unfold bG
   rw[List.take_zero,List.nil_append,List.drop_of_length_le (by omega),List.append_nil]
  rw[this];exact hu,h⟩
theorem xC(r:List AV)(off:Nat)(v:AV)(h:off<r.length):bG r off [v]=r.set off v:=by
 unfold bG
 rw[List.set_eq_take_append_cons_drop,if_pos h]
 simp
theorem s7{KS:SH→Prop}{b i off:Nat}{v:AV}{x x':Blk}{r:List AV}{L':SH}(hu:yg b x x' L L')(h1:x.rows[i]? =some r)(h2:v.cells? =some [v])(h4:v.one=true)(h5:off<r.length)(h6:x'=⟨x.size,x.rows.set i (r.set off v)⟩)(h:KS L'):W.store 1 (.ptr b i off) v L KS:=
 ⟨x,r,[v],L',h1,h2,rfl,by simp[h4],by omega,by rw[xC r off v h5,←h6];exact hu,h⟩
theorem yU{KS:SH→Prop}{n b i:Nat}{v:AV}{x x':Blk}{r cs:List AV}{L':SH}(hu:yg b x x' L L')(h1:x.rows[i]? =some r)(h2:v.cells? =some cs)(h3:cs.length=n)(h4:cs.all AV.one=true)(h5:r.length=n)(h6:x'=⟨x.size,x.rows.set i cs⟩)(h:KS L'):W.store n (.ptr b i 0) v L KS:=
 ⟨x,r,cs,L',h1,h2,h3,h4,by omega,by
  have:bG r 0 cs=cs:=by
   unfold bG
   rw[List.take_zero,List.nil_append,List.drop_of_length_le (by omega),List.append_nil]
  rw[this,←h6];exact hu,h⟩
theorem Ev{n:Nat}{rows:List (List AV)}{k:IntKind}{j:Nat}{r:List AV}(h1:rows[j]? =some r)(h2:r.length=n)(h:K (.pptr rows j 0)):W.idx n (.lst rows) (.int k (j:Int)) L K:=
 ⟨k,j,r,rfl,Int.natCast_nonneg _,by simpa using h1,h2,by simpa using h⟩
theorem Ew{n:Nat}{rows:List (List AV)}{k:IntKind}{i:Int}{r:List AV}(h0:0≤i)(h1:rows[i.toNat]? =some r)(h2:r.length=n)(h:K (.pptr rows i.toNat 0)):W.idx n (.lst rows) (.int k i) L K:=⟨k,i,r,rfl,h0,h1,h2,h⟩
theorem Ey{n b j m:Nat}{k:IntKind}{i:Int}{y:Blk}(h0:0≤i)(h1:i.toNat<m)(hm:(b,y)∈L)(h2:y.size=n)(h:K (.ptr b (j+i.toNat) 0)):W.idx n (.sl b j m) (.int k i) L K:=⟨k,i,y,rfl,h0,h1,hm,h2,h⟩
theorem CM{n b m:Nat}{k:IntKind}{i:Nat}{y:Blk}(h1:i<m)(hm:(b,y)∈L)(h2:y.size=n)(h:K (.ptr b i 0)):W.idx n (.sl b 0 m) (.int k (i:Int)) L K:=⟨k,i,y,rfl,Int.natCast_nonneg _,by simpa using h1,hm,h2,by simpa using h⟩
theorem H9{i:Nat}{vs:List AV}{v:AV}(h1:vs[i]? =some v)(h:K v):W.ext i (.tup vs) K:=⟨vs,v,rfl,h1,h⟩
theorem AW{b i off:Nat}(h:K (.ptr b i off)):W.nilchk (.ptr b i off) K:=⟨h⟩
theorem Ez{z:List AV}{ps:List (Nat×Nat×AV)}{cs:List AV}(h1:W0.fillR z ps=some cs)(h:K (.agg cs)):W.build z ps K:=⟨cs,h1,h⟩
theorem AX{cs:List AV}(h:∀b,b∉L.names→KL (.ptr b 0 0) ((b,⟨cs.length,[cs]⟩)::L)):W.alloc cs L KL:=⟨h⟩
theorem FI{x:AV}{cs:List AV}(h1:x.cells? =some cs)(h2:cs.all AV.one=true)(h:∀b,b∉L.names→KL (.ptr b 0 0) ((b,⟨cs.length,[cs]⟩)::L)):W.box x L KL:=⟨cs,h1,h2,h⟩
theorem CN{n:Nat}{z:List AV}{len:Nat}{ps:List (Nat×AV)}{rows:List (List AV)}(h1:len*n≤2^24)(h2:cZ n (List.replicate len z) ps=some rows)(h:∀b,b∉L.names→KL (.sl b 0 len) ((b,⟨n,rows⟩)::L)):W.bslice n z len ps L KL:=⟨h1,rows,h2,h⟩
theorem yV{n by_:Nat}{z:List AV}{k k':IntKind}{i j:Nat}(h1:i≤j)(h2:j≤2^62)(h3:j*by_≤2^48)(h:∀b,b∉L.names→KL (.sl b 0 i) ((b,⟨n,List.replicate i z⟩)::L)):W.mslice n by_ z (.int k (i:Int)) (.int k' (j:Int)) L KL:=⟨k,k',i,j,rfl,rfl,h1,h2,h3,h⟩
theorem EA{rows:List (List AV)}(h:K (.int .i64 (rows.length:Int))):W.len (.lst rows) K:=⟨_,rfl,h⟩
theorem EB{α:Type}{f:α→List AV}{l:List α}(h:K (.int .i64 (l.length:Int))):W.len (.lst (l.map f)) K:=⟨_,rfl,by rw[List.length_map];exact h⟩
theorem AY{b i n:Nat}(h:K (.int .i64 (n:Int))):W.len (.sl b i n) K:=⟨_,rfl,h⟩
theorem Gh{s:List UInt8}(h:K (.int .i64 (s.length:Int))):W.lenS (.str s) K:=⟨_,rfl,h⟩
theorem xD{b i off:Nat}{x:Blk}{L':SH}(h1:dG b x L L')(h2:0<x.size)(h3:0<x.rows.length)(h:KL (.pptr x.rows i off) L'):W.frz1 (.ptr b i off) L KL:=⟨x,L',h1,h2,h3,h⟩
theorem mX{KF:W.Fp→Prop}{r:W.Fp}(h:KF r):W.note r KF:=by rw[Ep];exact h
theorem CO{us:List W.WR}{y:W.WR}{A:Prop}(h1:∀x∈us,W.free x y)(h:A):W.calm us y A:=⟨h1,h⟩
theorem I5{A:Prop}(h:A):(true=true)∧A:=⟨rfl,h⟩
theorem Gi{J:W.Kn}{B:W.Kn→Prop}(h:B J):W.join J B:=⟨h⟩
theorem uc{n by_ b' i k:Nat}{x:AV}{y:Blk}{l m:List (List AV)}{L':SH}(hm:(b',y)∈L)(hs:y.size=n)(hl:i+k≤y.rows.length)(he:(y.rows.drop i).take k=l)(h1:W0.rowsR L n x m)
  (h2:2*(l.length+m.length)*by_≤2^48) (h3:2*(l.length+m.length)≤2^62) (h4:(m.all fun r=>r.all AV.one)=true) (hd:dG b' y L L')
  (h:∀b,b∉L.names→KL (.sl b 0 (l.length+m.length)) ((b,⟨n,l++m⟩)::L')):W.append n by_ (.sl b' i k) x L KL:=
 ⟨l,m,⟨y,hm,hs,hl,he.symm⟩,h1,h2,h3,h4,y,L',hd,h⟩
theorem AZ{n by_:Nat}{x:AV}{m:List (List AV)}(h1:W0.rowsR L n x m)(h2:2*m.length*by_≤2^48)(h3:2*m.length≤2^62)(h4:(m.all fun r=>r.all AV.one)=true)(h0:m.length≠0)
  (h:∀b,b∉L.names→KL (.sl b 0 m.length) ((b,⟨n,m⟩)::L)):W.append n by_ .emp x L KL:=
 ⟨[],m,rfl,h1,by simpa using h2,by simpa using h3,h4,fun e=>absurd e h0,fun _=>h⟩
theorem A0(h:K (.int .i64 (0:Nat))):W.len .emp K:=⟨_,rfl,h⟩
theorem BH{n b i m:Nat}{lo hi:Option AV}{l h:Nat}{y:Blk}(h1:cp lo 0=some l)(h2:cp hi m=some h)(hl:l≤h)(hh:h≤m)(hm:(b,y)∈L)(hs:y.size=n)(hk:K (.sl b (i+l) (h-l))):W.slice n (.sl b i m) lo hi none L K:=
 ⟨m,l,h,m,rfl,h1,h2,rfl,hl,hh,Nat.le_refl _,⟨y,hm,hs⟩,hk⟩
theorem BI{n:Nat}{rows:List (List AV)}{lo hi:Option AV}{l h:Nat}(h1:cp lo 0=some l)(h2:cp hi rows.length=some h)(hl:l≤h)(hh:h≤rows.length)(hs:∀r,rows.head? =some r→r.length=n)(hk:K (.lst ((rows.drop l).take (h-l)))):W.slice n (.lst rows) lo hi none L K:=
 ⟨rows.length,l,h,rows.length,rfl,h1,h2,rfl,hl,hh,Nat.le_refl _,hs,hk⟩
theorem ud{α:Type}{f:α→List AV}{l:List α}{n:Nat}(h:∀x,(f x).length=n):W0.rowsR L n (.lst (l.map f)) (l.map f):=⟨rfl,fun r hr=>by
 cases l with
 | nil=>cases hr
 | cons x l=>simp at hr;rw[←hr];exact h x⟩
theorem ue{n b k:Nat}{x:Blk}(hm:(b,x)∈L)(hs:x.size=n)(hk:k=x.rows.length):W0.rowsR L n (.sl b 0 k) x.rows:=⟨x,hm,hs,by omega,by simp[hk]⟩
end
end Go.Proofs.Ytljkdffikfkcgaa.Am
end
section
namespace Go.Proofs.Ytljkdffikfkcgaa.Am
set_option linter.unusedVariables false
abbrev aL:=List UInt8
structure A3 where
 name:aL
 index:Int
 size:Int
 volatile:Bool
 init:Int
 deriving Inhabited,DecidableEq
structure A4 where
 name:aL
 rw:Bool
 deriving Inhabited,DecidableEq
structure A5 where
 name:aL
 mutex:Int
 deriving Inhabited,DecidableEq
structure A6 where
 thread:Int
 stmt:Int
 line:Int
 deriving Inhabited,DecidableEq
structure CP where
 cells:List A3
 locks:List A4
 conds:List A5
 futures:List aL
 threads:List aL
 sites:List A6
 deriving Inhabited,DecidableEq
structure LockD where
 owner:Int
 readers:List Int
 deriving Inhabited,DecidableEq
structure ThrD where
 status:Int
 cond:Int
 atomic:Bool
 deriving Inhabited,DecidableEq
structure SyncD where
 locks:List LockD
 tx:Int
 done:List Bool
 threads:List ThrD
 deriving Inhabited,DecidableEq
def A3.enc(c:A3):List AV:=[.str c.name,.int .i64 c.index,.int .i64 c.size,.bool c.volatile,.int .i64 c.init]
def A4.enc(c:A4):List AV:=[.str c.name,.bool c.rw]
def A5.enc(c:A5):List AV:=[.str c.name,.int .i64 c.mutex]
def A6.enc(c:A6):List AV:=[.int .i64 c.thread,.int .i64 c.stmt,.int .i64 c.line]
def az(s:aL):List AV:=[.str s]
def aJ(n:Int):List AV:=[.int .i64 n]
def Ia(b:Bool):List AV:=[.bool b]
def LockD.enc(l:LockD):List AV:=[.int .i64 l.owner,.lst (l.readers.map aJ)]
def ThrD.enc(t:ThrD):List AV:=[.int .i64 t.status,.int .i64 t.cond,.bool t.atomic]
def CP.enc(w:CP):List AV:=[.lst (w.cells.map A3.enc),.lst (w.locks.map A4.enc),.lst (w.conds.map A5.enc),.lst (w.futures.map az),.lst (w.threads.map az),.lst (w.sites.map A6.enc)]
def SyncD.enc(s:SyncD):List AV:=[.lst (s.locks.map LockD.enc),.int .i64 s.tx,.lst (s.done.map Ia),.lst (s.threads.map ThrD.enc)]
theorem aC{α β:Type}{f:α→β}{l:List α}{i:Nat}(h:i<l.length):(l.map f)[i]? =some (f l[i]):=by simp[h]
theorem bH{i n:Nat}(h:i<n)(hn:n<2^62):IntKind.i64.wrap ((i:Int)+1)=((i+1:Nat):Int):=by rw[IntWalk.i64_in _ (by omega)];omega
theorem ct{i n:Nat}(h:i<n):decide ((i:Int)<(n:Int))=true:=by simpa using h
theorem ee{i n:Nat}(h:n≤i):decide ((i:Int)<(n:Int))=false:=by simpa using h
theorem uS{vs vs2:List AV}{L L2:SH}(hv:vs=vs2)(hL:L=L2):aV vs L vs2 L2:=by subst hv;subst hL;exact .refl _ _
theorem Gj(n:Nat)(S:Nat→List AV×SH)(G:Nat→Prop){B:List AV→SH→W.Kn→Prop}{vs:List AV}{L:SH}(h0:G 0)(hv:vs=(S 0).1)(hL:L=(S 0).2)
  (h:∀i,i≤n→G i→B (S i).1 (S i).2 fun vs' L'=>∃j,i<j∧j≤n∧G j∧aV vs' L' (S j).1 (S j).2):W.loop B vs L:=by
 refine⟨fun k vs L=>∃i,i≤n∧G i∧k=n-i∧vs=(S i).1∧L=(S i).2,⟨n,_,_,.refl _ _,0,Nat.zero_le _,h0,rfl,hv,hL⟩,?_⟩
 rintro k vs L ⟨i,hi,hG,rfl,rfl,rfl⟩
 have e:(fun vs' L'=>∃m vs2 L2,m<n-i∧aV vs' L' vs2 L2∧∃j,j≤n∧G j∧m=n-j∧vs2=(S j).1∧L2=(S j).2)=fun vs' L'=>∃j,i<j∧j≤n∧G j∧aV vs' L' (S j).1 (S j).2:=by
  funext vs' L'
  apply propext
  constructor
  ·rintro⟨m,vs2,L2,h1,h2,j,h3,h4,rfl,rfl,rfl⟩;exact⟨j,by omega,h3,h4,h2⟩
  ·rintro⟨j,h1,h2,h3,h4⟩;exact⟨n-j,_,_,by omega,h4,j,h2,h3,rfl,rfl,rfl⟩
 rw[e]
 exact h i hi hG
def inB(i:Int)(n:Nat):Bool:=decide (0≤i)&&decide (i<(n:Int))
theorem gX{i:Int}{n:Nat}:inB i n=true↔0≤i∧i<n:=by simp[inB]
theorem Gk{α:Type}[Inhabited α]{f:α→List AV}{l:List α}{i:Int}(h:inB i l.length=true):(l.map f)[i.toNat]? =some (f (l.getD i.toNat default)):=by
 obtain⟨h1,h2⟩:=gX.1 h
 have:i.toNat<l.length:=by omega
 simp[this]
end Go.Proofs.Ytljkdffikfkcgaa.Am
end
section
namespace Go.Proofs.Ytljkdffikfkcgaa.Am
set_option maxRecDepth 100000
set_option linter.unusedSimpArgs false
set_option linter.unusedVariables false
theorem Fz.slm{α:Type}{K:SH}{b n size:Nat}{l:List α}{f g:α→List AV}{rows:List (List AV)}(hm:(b,⟨size,rows⟩)∈K)(hr:rows=l.map f)(hs:0<size)(hn:n=l.length)(hl:∀y∈l,(f y).length=(g y).length)
  (hc:∀y∈l,∀(q:Nat) (a a2:AV),(f y)[q]? =some a→(g y)[q]? =some a2→Fz K a a2):Fz K (.sl b 0 n) (.lst (l.map g)):=by
 subst hr
 subst hn
 cases l with
 | nil=>exact .sl0 b 0
 | cons x l=>
  have get:∀(j:Nat) (r r2:List AV),((x::l).map f)[0+j]? =some r→((x::l).map g)[j]? =some r2→∃y∈x::l,r=f y∧r2=g y:=fun j r r2 h1 h2=>by
   rw[Nat.zero_add,List.getElem?_map]at h1
   rw[List.getElem?_map]at h2
   cases hj:(x::l)[j]? with
   | none=>rw[hj]at h1;cases h1
   | some y=>
    rw[hj]at h1 h2
    cases h1;cases h2
    exact⟨y,List.mem_of_getElem? hj,rfl,rfl⟩
  refine .sl b 0 _ ⟨size,(x::l).map f⟩ _ hm hs (by simp) (by simp) (by simp) (fun j r r2 h1 h2=>?_) (fun j r r2 q a a2 h1 h2 h3 h4=>?_)
  ·obtain⟨y,hy,rfl,rfl⟩:=get j r r2 h1 h2;exact hl y hy
  ·obtain⟨y,hy,rfl,rfl⟩:=get j r r2 h1 h2;exact hc y hy q a a2 h3 h4
theorem Fz.sls{α:Type}{K:SH}{b n size:Nat}{l:List α}{f:α→List AV}{rows:List (List AV)}(hm:(b,⟨size,rows⟩)∈K)(hr:rows=l.map f)(hs:0<size)(hn:n=l.length):Fz K (.sl b 0 n) (.lst (l.map f)):=
 Fz.slm hm hr hs hn (fun _ _=>rfl) fun y _ q a a2 h1 h2=>by rw[h1]at h2;cases h2;exact .refl _
inductive pV (K:SH):List AV→List AV→Prop where
 | nil:pV K [] []
 | cons {a b:AV} {l m:List AV}:Fz K a b→pV K l m→pV K (a::l) (b::m)
theorem pV.at_{K:SH}{l m:List AV}(h:pV K l m):l.length=m.length∧∀(i:Nat) (a b:AV),l[i]? =some a→m[i]? =some b→Fz K a b:=by
 induction h with
 | nil=>exact⟨rfl,fun i a b h=>by simp at h⟩
 | cons h1 h2 ih=>
  refine⟨by simp[ih.1],fun i a b ha hb=>?_⟩
  match i with
  | 0=>cases ha;cases hb;exact h1
  | i+1=>exact ih.2 i a b (by simpa using ha) (by simpa using hb)
theorem Fz.aggs{K:SH}{l m:List AV}(h:pV K l m):Fz K (.agg l) (.agg m):=.agg l m h.at_.1 h.at_.2
theorem Fz.tups{K:SH}{l m:List AV}(h:pV K l m):Fz K (.tup l) (.tup m):=.tup l m h.at_.1 h.at_.2
theorem aV.all{L:SH}{v v2:AV}(h:Fz L v v2):aV [v] L [v2] []:=.drop (K:=L) (R:=[]) (by simp) rfl fun i a a2 h1 h2=>by
 match i with
 | 0=>cases h1;cases h2;exact h
 | i+1=>simp at h1
def au:Option Nat→Nat→AV
 | none,_=>.emp
 | some b,n=>.sl b 0 n
def ao(o:Option Nat)(size:Nat)(rows:List (List AV)):SH:=match o with
 | none=>[]
 | some b=>[(b,⟨size,rows⟩)]
theorem dG.app{b:Nat}{x:Blk}{L L':SH}(h:dG b x L L'):∀M:SH,dG b x (M++L) (M++L')
 | []=>h
 | p::M=>.there p (h.app M)
theorem aV.forget{vs:List AV}{L K R:SH}(hL:L.Perm (K++R)):aV vs L vs R:=.drop hL rfl fun i a a2 h1 h2=>by rw[h1]at h2;cases h2;exact .refl _
theorem aV.box{vs:List AV}{L K R:SH}{b n:Nat}{r r':List AV}(hL:L.Perm (K++(b,⟨n,[r]⟩)::R))(hr:pV K r r'):aV vs L vs ((b,⟨n,[r']⟩)::R):=by
 refine⟨K,(b,⟨n,[r]⟩)::R,hL,⟨rfl,fun i a a2 h1 h2=>by rw[h1]at h2;cases h2;exact .refl _⟩,rfl,fun i p q h1 h2=>?_⟩
 match i with
 | 0=>
  cases h1;cases h2
  refine⟨rfl,rfl,rfl,fun j s s2 g1 g2=>?_⟩
  match j with
  | 0=>cases g1;cases g2;exact⟨hr.at_.1,hr.at_.2⟩
  | j+1=>simp at g1
 | i+1=>
  simp only[List.getElem?_cons_succ]at h1 h2
  rw[h1]at h2;cases h2
  exact⟨rfl,rfl,rfl,fun j r r2 h3 h4=>by rw[h3]at h4;cases h4;exact⟨rfl,fun k a a2 h5 h6=>by rw[h5]at h6;cases h6;exact .refl _⟩⟩
theorem Fz.slot{α:Type}{o:Option Nat}{size:Nat}{l:List α}{f g:α→List AV}{rows:List (List AV)}(hr:rows=l.map f)(h0:o=none→rows=[])(hs:0<size)(hl:∀y∈l,(f y).length=(g y).length)
  (hc:∀y∈l,∀(q:Nat) (a a2:AV),(f y)[q]? =some a→(g y)[q]? =some a2→Fz (ao o size rows) a a2):Fz (ao o size rows) (au o l.length) (.lst (l.map g)):=by
 cases o with
 | none=>
  have:=h0 rfl
  subst hr
  have:l=[]:=by simpa using this
  subst this
  exact .emp
 | some b=>exact Fz.slm (List.mem_singleton.2 rfl) hr hs rfl hl hc
theorem cH{β:Type}(n:Nat)(S:Nat→β→List AV×SH)(G:Nat→β→Prop){B:List AV→SH→W.Kn→Prop}{vs:List AV}{L:SH}(b0:β)(h0:G 0 b0)(hz:aV vs L (S 0 b0).1 (S 0 b0).2)
  (h:∀i o,i≤n→G i o→B (S i o).1 (S i o).2 fun vs' L'=>∃j o',i<j∧j≤n∧G j o'∧aV vs' L' (S j o').1 (S j o').2):W.loop B vs L:=by
 refine⟨fun k vs L=>∃i o,i≤n∧G i o∧k=n-i∧vs=(S i o).1∧L=(S i o).2,⟨n,_,_,hz,0,b0,Nat.zero_le _,h0,rfl,rfl,rfl⟩,?_⟩
 rintro k vs L ⟨i,o,hi,hG,rfl,rfl,rfl⟩
 have e:(fun vs' L'=>∃m vs2 L2,m<n-i∧aV vs' L' vs2 L2∧∃j o',j≤n∧G j o'∧m=n-j∧vs2=(S j o').1∧L2=(S j o').2)=fun vs' L'=>∃j o',i<j∧j≤n∧G j o'∧aV vs' L' (S j o').1 (S j o').2:=by
  funext vs' L'
  apply propext
  constructor
  ·rintro⟨m,vs2,L2,h1,h2,j,o',h3,h4,rfl,rfl,rfl⟩;exact⟨j,o',by omega,h3,h4,h2⟩
  ·rintro⟨j,o',h1,h2,h3,h4⟩;exact⟨n-j,_,_,by omega,h4,j,o',h2,h3,rfl,rfl,rfl⟩
 rw[e]
 exact h i o hi hG
end Go.Proofs.Ytljkdffikfkcgaa.Am
end
section
namespace Go.Proofs.Ytljkdffikfkcgaa.Am
set_option linter.unusedVariables false
structure W.callM(P:Program)(g:FuncId)(args:List AV)(L:SH)(KL:AV→SH→Prop):Prop where
 h:am P g args L KL
structure W.dcallM(P:Program)(us:List W.WR)(i:Nat)(g:FuncId)(args:List AV)(L:SH)(KN:AV→SH→List Nat→Prop):Prop where
 h:∃Kc R:SH,L.Perm (Kc++R)∧(∀x∈us,W.free x ⟨i,[],Kc.names,[],true,[]⟩)∧am P g args Kc fun v Kc'=>KN v (Kc'++R) Kc.names
section
variable {P:Program} {g:FuncId} {args:List AV} {L:SH} {KL:AV→SH→Prop} {KN:AV→SH→List Nat→Prop} {us:List W.WR} {i:Nat} {v:AV}
theorem CQ(h:W.callM P g args L KL):W.call P (.fn g []) args L KL:=by rw[Eo,List.append_nil];exact h.h
theorem aj(h1:aO P g args v)(h:KL v L):W.callM P g args L KL:=⟨h1.call h⟩
theorem A7(h:am P g args L KL):W.callM P g args L KL:=⟨h⟩
theorem xE{K R:SH}{R1:AV→SH→Prop}(h:am P g args K R1)(hL:L.Perm (K++R))(hq:∀v K',R1 v K'→KL v (K'++R)):W.callM P g args L KL:=⟨h.frame hL hq⟩
theorem kS{b:Nat}{x:Blk}{L':SH}{R1:AV→SH→Prop}(h:am P g args [(b,x)] R1)(hd:dG b x L L')(hq:∀v K',R1 v K'→KL v (K'++L')):W.callM P g args L KL:=⟨h.frame hd.perm hq⟩
theorem uT{b1 b2:Nat}{x1 x2:Blk}{L1 L2:SH}(h1:dG b1 x1 L L1)(h2:dG b2 x2 L1 L2):L.Perm ([(b1,x1),(b2,x2)]++L2):=h1.perm.trans (h2.perm.cons _)
theorem CR{b1 b2:Nat}{x1 x2:Blk}{L1 L2:SH}{R1:AV→SH→Prop}(h:am P g args [(b1,x1),(b2,x2)] R1)(h1:dG b1 x1 L L1)(h2:dG b2 x2 L1 L2)(hq:∀v K',R1 v K'→KL v (K'++L2)):W.callM P g args L KL:=⟨h.frame (uT h1 h2) hq⟩
theorem CS{b:Nat}{x:Blk}{L':SH}{R1:AV→SH→Prop}(h:am P g args [(b,x)] R1)(hd:dG b x L L')(hf:∀y∈us,W.free y ⟨i,[],[b],[],true,[]⟩)(hq:∀v K',R1 v K'→KN v (K'++L') [b]):W.dcallM P us i g args L KN:=
 ⟨[(b,x)],L',hd.perm,hf,h.mono hq⟩
theorem BJ{b1 b2:Nat}{x1 x2:Blk}{L1 L2:SH}{R1:AV→SH→Prop}(h:am P g args [(b1,x1),(b2,x2)] R1)(h1:dG b1 x1 L L1)(h2:dG b2 x2 L1 L2)(hf:∀y∈us,W.free y ⟨i,[],[b1,b2],[],true,[]⟩)(hq:∀v K',R1 v K'→KN v (K'++L2) [b1,b2]):W.dcallM P us i g args L KN:=
 ⟨[(b1,x1),(b2,x2)],L2,uT h1 h2,hf,h.mono hq⟩
theorem aV.keep1{v2:AV}{b:Nat}{x:Blk}{L1:SH}(h1:dG b x L L1)(hv:Fz L1 v v2):aV [v] L [v2] [(b,x)]:=by
 refine .drop (K:=L1) (h1.perm.trans (List.perm_append_comm (l₁:=[(b,x)]))) rfl fun i a a2 e1 e2=>?_
 match i with
 | 0=>cases e1;cases e2;exact hv
 | i+1=>simp at e1
theorem aV.keep2{v2:AV}{b1 b2:Nat}{x1 x2:Blk}{L1 L2:SH}(h1:dG b1 x1 L L1)(h2:dG b2 x2 L1 L2)(hv:Fz L2 v v2):aV [v] L [v2] [(b1,x1),(b2,x2)]:=by
 refine .drop (K:=L2) ((uT h1 h2).trans List.perm_append_comm) rfl fun i a a2 e1 e2=>?_
 match i with
 | 0=>cases e1;cases e2;exact hv
 | i+1=>simp at e1
theorem am.nd{f:FuncId}{Q:AV→SH→Prop}(hb:∃fn c,P.funcs[f]? =some fn∧fn.body=some c)(h:L.names.Nodup→am P f args L Q):am P f args L Q:=⟨hb,fun H hB hs=>(h hs.nd).2 H hB hs⟩
theorem am.pre{f:FuncId}{args2:List AV}{L2:SH}{Q:AV→SH→Prop}(hz:aV args L args2 L2)(h:am P f args2 L2 Q):am P f args L Q:=⟨h.1,fun H hb hs=>by
 obtain⟨H2,f1,f2,f3,f4⟩:=iJ hz hs hb
 obtain⟨v,H',L',h1,h2,h3⟩:=h.2 H2 f1.bd f1.sub
 refine⟨v,H',L',fun w σ vs hW hvs=>?_,f1.trans (h2.low (by rw[f2];exact Nat.le_refl _)) (Nat.le_refl _),h3⟩
 obtain⟨g1,g2,g3⟩:=f3 w σ hW
 refine(h1 w σ vs g1 (g3 vs hvs)).mono ?_
 rintro e w' ⟨v',σ',rfl,k1,k2,k3,k4⟩
 exact⟨v',σ',rfl,k1,k2,⟨k3.os,k3.tape,k3.output,k3.size,fun c hc hT=>k3.keep c hc (fun h=>hT (g2 c h)),k3.shape,k3.sig,k3.eqfr,k3.frame,fun c hc=>(k3.own c hc).imp (g2 c) id⟩,fun c pl hc=>by rw[←f2];exact k4 c pl hc⟩⟩
theorem aV.vals{vs vs2:List AV}(h:pV [] vs vs2):aV vs L vs2 L:=.drop (K:=[]) (.refl _) h.at_.1 h.at_.2
theorem aq(k:FuncId)(h:W.callM P k args L KL):W.callM P k args L KL:=h
theorem al(k:FuncId)(h:W.dcallM P us i k args L KN):W.dcallM P us i k args L KN:=h
theorem A8(h:W.dcallM P us i g args L KN):W.dcall P us i (.fn g []) args L KN:=by rw[Cv,List.append_nil];exact h.h
theorem EC(h:aO P g args v)(hf:∀x∈us,W.free x ⟨i,[],[],[],true,[]⟩)(hk:KN v L []):W.dcallM P us i g args L KN:=
 ⟨[],L,.refl _,hf,am.mono h fun u K ⟨h1,h2⟩=>by subst h1;subst h2;exact hk⟩
end
theorem Ib{n:Nat}{a:AV}{L:SH}{K:AV→Prop}(h:W.load true n a L K):W.load true n a L K:=h
theorem ED{off:Nat}{x:AV}{K:AV→Prop}(h:W.faddr off x K):W.faddr off x K:=h
theorem Ic{n:Nat}{x ix:AV}{L:SH}{K:AV→Prop}(h:W.idx n x ix L K):W.idx n x ix L K:=h
theorem Ie{x:AV}{K:AV→Prop}(h:W.len x K):W.len x K:=h
theorem If{i:Nat}{x:AV}{K:AV→Prop}(h:W.ext i x K):W.ext i x K:=h
theorem Gl{us:List W.WR}{y:W.WR}{A:Prop}(h:W.calm us y A):W.calm us y A:=h
theorem Gm{r:W.Fp}{K:W.Fp→Prop}(h:W.note r K):W.note r K:=h
theorem Gn{c x y:AV}{K:AV→Prop}(h:W.pick c x y K):W.pick c x y K:=h
theorem FJ{x:AV}{want:Bool}{A:(AV→SH→Prop)→Prop}{L:SH}{K:AV→SH→Prop}(h:W.grd x want A L K):W.grd x want A L K:=h
theorem CT{x:AV}{want:Bool}{A:(AV→SH→W.Fp→Prop)→Prop}{L:SH}{K:AV→SH→W.Fp→Prop}(h:W.dgrd x want A L K):W.dgrd x want A L K:=h
theorem I6{op:UnOp}{x:AV}{K:AV→Prop}(h:W.un op x K):W.un op x K:=h
theorem Ig{x:AV}{L:SH}{K:AV→SH→Prop}(h:W.box x L K):W.box x L K:=h
theorem Gp{v:AV}{L:SH}{K:AV→SH→Prop}(h:W.frz1 v L K):W.frz1 v L K:=h
theorem EE{n:Nat}{a v:AV}{L:SH}{K:SH→Prop}(h:W.store n a v L K):W.store n a v L K:=h
theorem CU{n:Nat}{z:List AV}{len:Nat}{ps:List (Nat×AV)}{L:SH}{K:AV→SH→Prop}(h:W.bslice n z len ps L K):W.bslice n z len ps L K:=h
theorem CV{n by_:Nat}{z:List AV}{l c:AV}{L:SH}{K:AV→SH→Prop}(h:W.mslice n by_ z l c L K):W.mslice n by_ z l c L K:=h
theorem CW{x:AV}{K:AV→Prop}(h:W.nilchk x K):W.nilchk x K:=h
end Go.Proofs.Ytljkdffikfkcgaa.Am
end
section
namespace Go.Proofs.Ytljkdffikfkcgaa.Am
set_option linter.unusedVariables false
section
variable {P:Program} {g:FuncId} {args:List AV} {L:SH} {KL:AV→SH→Prop}
theorem Fr.permS{B:Nat}{L' L'':SH}{H H':ah}(h:Fr B L H L' H')(hp:L'.Perm L''):Fr B L H L'' H':=
 ⟨h.next,h.bd,h.sub.perm hp,fun b x h1 h2=>⟨(h.keep b x h1 h2).1,fun hm=>(h.keep b x h1 h2).2 ((hp.map Prod.fst).mem_iff.2 hm)⟩,h.dom,fun b hb hlt=>h.fresh b ((hp.map Prod.fst).mem_iff.2 hb) hlt⟩
end
end Go.Proofs.Ytljkdffikfkcgaa.Am
end
section
namespace Go.Proofs.Ytljkdffikfkcgaa.Am
set_option linter.unusedVariables false
section
variable {P:Program} {F:TypeId→Option (List TypeId)} {K:AV→Prop} {KL:AV→SH→Prop} {L:SH}
theorem yW{n:Nat}{rows:List (List AV)}{i off:Nat}{r:List AV}{v:AV}(h:K v)(h1:rows[i]? =some r:=by first | assumption | rfl)(h2:r[off]? =some v:=by rfl):W.load false n (.pptr rows i off) L K:=CJ h1 h2 h
theorem yX{n b i off:Nat}{x:Blk}{r:List AV}{v:AV}(h:K v)(hm:(b,x)∈L:=by repeat constructor)(h1:x.rows[i]? =some r:=by first | assumption | rfl)(h2:r[off]? =some v:=by rfl):W.load false n (.ptr b i off) L K:=uR hm h1 h2 h
theorem uf{n:Nat}{rows:List (List AV)}{i:Nat}{r:List AV}(h:K (.agg r))(h1:rows[i]? =some r:=by first | assumption | rfl)(h2:r.length=n:=by rfl):W.load true n (.pptr rows i 0) L K:=Et h1 h2 h
theorem A9{n b i:Nat}{x:Blk}{r:List AV}(h:K (.agg r))(hm:(b,x)∈L:=by repeat constructor)(h1:x.rows[i]? =some r:=by first | assumption | rfl)(h2:r.length=n:=by rfl):W.load true n (.ptr b i 0) L K:=Eu hm h1 h2 h
theorem FK{t:TypeId}{k:IntKind}{a b:Int}(h:K (.int k (a.tmod b)))(hb:b≠0:=by first | assumption | decide | omega | exact of_decide_eq_false (by assumption)):W.bin P F .rem t (.int k a) (.int k b) K:=FF hb h
theorem FL{t:TypeId}{k:IntKind}{a b:Int}(h:K (.int k (k.wrap (a.tdiv b))))(hb:b≠0:=by first | assumption | decide | omega | exact of_decide_eq_false (by assumption)):W.bin P F .quo t (.int k a) (.int k b) K:=H6 hb h
theorem yY{p:Bool}{A B:Prop}(h:A)(hp:p=true:=by first | assumption | rfl):W.cond (.bool p) A B:=CD hp h
theorem yZ{p:Bool}{A B:Prop}(h:B)(hp:p=false:=by first | assumption | rfl):W.cond (.bool p) A B:=CE hp h
theorem pW{n:Nat}{rows:List (List AV)}{k:IntKind}{j:Nat}{r:List AV}(h:K (.pptr rows j 0))(h1:rows[j]? =some r:=by first | assumption | rfl)(h2:r.length=n:=by rfl):W.idx n (.lst rows) (.int k (j:Int)) L K:=Ev h1 h2 h
theorem EF{n:Nat}{rows:List (List AV)}{k:IntKind}{i:Int}{r:List AV}(h:K (.pptr rows i.toNat 0))(h0:0≤i:=by first | decide | omega)(h1:rows[i.toNat]? =some r:=by first | assumption | rfl)(h2:r.length=n:=by rfl):W.idx n (.lst rows) (.int k i) L K:=Ew h0 h1 h2 h
theorem cR{n b m:Nat}{k:IntKind}{i:Nat}{y:Blk}(h:K (.ptr b i 0))(h1:i<m:=by first | assumption | omega)(hm:(b,y)∈L:=by repeat constructor)(h2:y.size=n:=by rfl):W.idx n (.sl b 0 m) (.int k (i:Int)) L K:=CM h1 hm h2 h
theorem EG{n b j m:Nat}{k:IntKind}{i:Int}{y:Blk}(h:K (.ptr b (j+i.toNat) 0))(h0:0≤i:=by first | decide | omega)(h1:i.toNat<m:=by first | assumption | omega)(hm:(b,y)∈L:=by repeat constructor)(h2:y.size=n:=by rfl):W.idx n (.sl b j m) (.int k i) L K:=Ey h0 h1 hm h2 h
theorem Ih{i:Nat}{vs:List AV}{v:AV}(h:K v)(h1:vs[i]? =some v:=by rfl):W.ext i (.tup vs) K:=H9 h1 h
theorem CX{p:Bool}{x y:AV}(h:K x)(hp:p=true:=by first | assumption | rfl):W.pick (.bool p) x y K:=Cw hp h
theorem CY{p:Bool}{x y:AV}(h:K y)(hp:p=false:=by first | assumption | rfl):W.pick (.bool p) x y K:=Cx hp h
theorem xF{p want:Bool}{A:(AV→SH→Prop)→Prop}(h:A KL)(hp:p=want:=by first | assumption | rfl):W.grd (.bool p) want A L KL:=Er hp h
theorem xG{p want:Bool}{A:(AV→SH→Prop)→Prop}(h:KL aZ L)(hp:p=!want:=by first | assumption | rfl):W.grd (.bool p) want A L KL:=Es hp h
theorem CZ{KF:AV→SH→W.Fp→Prop}{p want:Bool}{A:(AV→SH→W.Fp→Prop)→Prop}(h:A KF)(hp:p=want:=by first | assumption | rfl):W.dgrd (.bool p) want A L KF:=Cy hp h
theorem C0{KF:AV→SH→W.Fp→Prop}{p want:Bool}{A:(AV→SH→W.Fp→Prop)→Prop}(h:KF aZ L ⟨[],[],[],L.names⟩)(hp:p=!want:=by first | assumption | rfl):W.dgrd (.bool p) want A L KF:=Cz hp h
theorem EH{b i off:Nat}{x:Blk}{L':SH}(h:KL (.pptr x.rows i off) L')(h1:dG b x L L':=by repeat constructor)(h2:0<x.size:=by first | exact Nat.succ_pos _ | decide | simp)(h3:0<x.rows.length:=by first | exact Nat.succ_pos _ | decide | simp):W.frz1 (.ptr b i off) L KL:=xD h1 h2 h3 h
theorem zb{KS:SH→Prop}{n b:Nat}{v:AV}{m:Nat}{r cs:List AV}{L':SH}(h:KS L')(hu:yg b ⟨m,[r]⟩ ⟨m,[cs]⟩ L L':=by repeat constructor)(h2:v.cells? =some cs:=by rfl)(h3:cs.length=n:=by rfl)(h4:cs.all AV.one=true:=by rfl)(h5:r.length=n:=by rfl):W.store n (.ptr b 0 0) v L KS:=gW hu h2 h3 h4 h5 h
theorem s8{KS:SH→Prop}{b i off:Nat}{v:AV}{x:Blk}{r:List AV}{L':SH}(h:KS L')(hu:yg b x ⟨x.size,x.rows.set i (r.set off v)⟩ L L':=by repeat constructor)(h1:x.rows[i]? =some r:=by first | assumption | rfl)(h2:v.cells? =some [v]:=by rfl)(h4:v.one=true:=by rfl)(h5:off<r.length:=by first | decide | exact Nat.lt_of_sub_pos (Nat.succ_pos _) | simp | omega):W.store 1 (.ptr b i off) v L KS:=s7 hu h1 h2 h4 h5 rfl h
theorem zc{KS:SH→Prop}{n b i:Nat}{v:AV}{x:Blk}{r cs:List AV}{L':SH}(h:KS L')(hu:yg b x ⟨x.size,x.rows.set i cs⟩ L L':=by repeat constructor)(h1:x.rows[i]? =some r:=by first | assumption | rfl)(h2:v.cells? =some cs:=by rfl)(h3:cs.length=n:=by rfl)(h4:cs.all AV.one=true:=by rfl)(h5:r.length=n:=by rfl):W.store n (.ptr b i 0) v L KS:=yU hu h1 h2 h3 h4 h5 rfl h
theorem C1{n by_:Nat}{z:List AV}{k k':IntKind}{i j:Nat}(h:∀b,b∉L.names→KL (.sl b 0 i) ((b,⟨n,List.replicate i z⟩)::L))(h1:i≤j:=by omega)(h2:j≤2^62:=by omega)(h3:j*by_≤2^48:=by omega):W.mslice n by_ z (.int k (i:Int)) (.int k' (j:Int)) L KL:=yV h1 h2 h3 h
theorem C2{n:Nat}{z:List AV}{len:Nat}{ps:List (Nat×AV)}{rows:List (List AV)}(h:∀b,b∉L.names→KL (.sl b 0 len) ((b,⟨n,rows⟩)::L))(h1:len*n≤2^24:=by decide)(h2:cZ n (List.replicate len z) ps=some rows:=by rfl):W.bslice n z len ps L KL:=CN h1 h2 h
theorem Ii{x:AV}{cs:List AV}(h:∀b,b∉L.names→KL (.ptr b 0 0) ((b,⟨cs.length,[cs]⟩)::L))(h1:x.cells? =some cs:=by rfl)(h2:cs.all AV.one=true:=by rfl):W.box x L KL:=FI h1 h2 h
theorem EI{z:List AV}{ps:List (Nat×Nat×AV)}{cs:List AV}(h:K (.agg cs))(h1:W0.fillR z ps=some cs:=by rfl):W.build z ps K:=Ez h1 h
end
end Go.Proofs.Ytljkdffikfkcgaa.Am
end
section
namespace Go.Proofs.Ytljkdffikfkcgaa.Am
set_option linter.unusedVariables false
abbrev R:=AV→SH→Prop
abbrev Vs:=List AV
abbrev Kn:=W.Kn
abbrev Fp:=W.Fp
abbrev Ns:=List Nat
def rz:Fp:=⟨[],[],[],[]⟩
def rm(i:Nat)(r:Fp):W.WR:=⟨i,r.reads,r.writes,r.made,false,r.old⟩
def rc(i:Nat)(r:Fp):W.WR:=⟨i,r.reads,r.writes,r.made,true,r.old⟩
@[irreducible] def wl (x:AV) (L:SH) (K:AV→Prop):Prop:=W.load false 1 x L K
@[irreducible] def dy (n:Nat) (x:AV) (L:SH) (K:AV→Prop):Prop:=W.load true n x L K
@[irreducible] def bo (o:Nat) (x:AV) (L:SH) (K:AV→Prop):Prop:=W.faddr o x fun a=>wl a L K
@[irreducible] def c8 (o:Nat) (x:AV) (L:SH) (K:AV→Prop):Prop:=W.nilchk x fun a=>bo o a L K
@[irreducible] def Ba (n:Nat) (x i:AV) (L:SH) (K:AV→Prop):Prop:=W.idx n x i L fun a=>wl a L K
@[irreducible] def ug (n:Nat) (x i:AV) (L:SH) (K:AV→Prop):Prop:=W.idx n x i L fun a=>dy n a L K
@[irreducible] def gQ (n o:Nat) (x i:AV) (L:SH) (K:AV→Prop):Prop:=W.idx n x i L fun a=>bo o a L K
@[irreducible] def wb (op:BinOp) (t:TypeId) (x y:AV) (K:AV→Prop):Prop:=W.bin Try.prog Fl op t x y K
@[irreducible] def wk (x:AV) (A B:Prop):Prop:=W.cond x A B
@[irreducible] def wg (x:AV) (w:Bool) (A:(AV→Prop)→Prop) (L:SH) (K:R):Prop:=W.grd x w (fun k=>A fun v=>k v L) L K
@[irreducible] def cj (x:AV) (w:Bool) (y:AV) (L:SH) (K:R):Prop:=W.grd x w (fun k=>k y L) L K
@[irreducible] def wc (f:AV) (args:List AV) (L:SH) (K:R):Prop:=W.call Try.prog f args L K
@[irreducible] def wd (us:List W.WR) (i:Nat) (f:AV) (args:List AV) (L:SH) (K:AV→SH→Ns→Prop):Prop:=W.dcall Try.prog us i f args L K
@[irreducible] def wn (a b c d:Ns) (K:Fp→Prop):Prop:=W.note ⟨a,b,c,d⟩ K
@[irreducible] def dl (us:List W.WR) (i:Nat) (x:AV) (L:SH) (K:AV→Fp→Prop):Prop:=W.calm us ⟨i,af x,[],[],false,[]⟩ (wl x L fun v=>W.note ⟨af x,[],[],[]⟩ fun r=>K v r)
@[irreducible] def dr (us:List W.WR) (i n:Nat) (x:AV) (L:SH) (K:AV→Fp→Prop):Prop:=W.calm us ⟨i,af x,[],[],false,[]⟩ (dy n x L fun v=>W.note ⟨af x,[],[],[]⟩ fun r=>K v r)
@[irreducible] def bx (o:Nat) (x:AV) (us:List W.WR) (i:Nat) (L:SH) (K:AV→Fp→Prop):Prop:=W.faddr o x fun a=>dl us i a L K
@[irreducible] def di (us:List W.WR) (i n:Nat) (x ix:AV) (L:SH) (K:AV→Fp→Prop):Prop:=W.calm us ⟨i,dw x,[],[],false,[]⟩ (W.idx n x ix L fun v=>W.note ⟨dw x,[],[],[]⟩ fun r=>K v r)
@[irreducible] def ds (us:List W.WR) (i n:Nat) (x y:AV) (L:SH) (K:SH→Fp→Prop):Prop:=W.calm us ⟨i,af x,af x,[],false,[]⟩ (W.store n x y L fun L=>W.note ⟨af x,af x,[],[]⟩ fun r=>K L r)
@[irreducible] def xH (z:List AV) (n:Nat) (y:AV) (L:SH) (K:R):Prop:=W.alloc z L fun x L1=>W.store n x y L1 fun L2=>W.frz1 x L2 K
@[irreducible] def xb (y:AV) (L:SH) (K:R):Prop:=W.box y L fun x L1=>W.frz1 x L1 K
theorem Gq{x:AV}{L:SH}{K:AV→Prop}(k0:W.load false 1 x L K):wl x L K:=by unfold wl;exact k0
theorem C3{n:Nat}{x:AV}{L:SH}{K:AV→Prop}(k0:W.load true n x L K):dy n x L K:=by unfold dy;exact k0
theorem C4{o:Nat}{x:AV}{L:SH}{K:AV→Prop}(k0:W.faddr o x fun a=>wl a L K):bo o x L K:=by unfold bo;exact k0
theorem C5{o:Nat}{x:AV}{L:SH}{K:AV→Prop}(k0:W.nilchk x fun a=>bo o a L K):c8 o x L K:=by unfold c8;exact k0
theorem FM{n:Nat}{x i:AV}{L:SH}{K:AV→Prop}(k0:W.idx n x i L fun a=>wl a L K):Ba n x i L K:=by unfold Ba;exact k0
theorem FN{n:Nat}{x i:AV}{L:SH}{K:AV→Prop}(k0:W.idx n x i L fun a=>dy n a L K):ug n x i L K:=by unfold ug;exact k0
theorem C6{n o:Nat}{x i:AV}{L:SH}{K:AV→Prop}(k0:W.idx n x i L fun a=>bo o a L K):gQ n o x i L K:=by unfold gQ;exact k0
theorem dm{op:BinOp}{t:TypeId}{x y:AV}{K:AV→Prop}(k0:W.bin Try.prog Fl op t x y K):wb op t x y K:=by unfold wb;exact k0
theorem Ij{x:AV}{A B:Prop}(k0:W.cond x A B):wk x A B:=by unfold wk;exact k0
theorem Ik{x:AV}{w:Bool}{A:(AV→Prop)→Prop}{L:SH}{K:R}(k0:W.grd x w (fun k=>A fun v=>k v L) L K):wg x w A L K:=by unfold wg;exact k0
theorem FO{x:AV}{w:Bool}{y:AV}{L:SH}{K:R}(k0:W.grd x w (fun k=>k y L) L K):cj x w y L K:=by unfold cj;exact k0
theorem rQ{f:AV}{args:List AV}{L:SH}{K:R}(k0:W.call Try.prog f args L K):wc f args L K:=by unfold wc;exact k0
theorem I7{us:List W.WR}{i:Nat}{f:AV}{args:List AV}{L:SH}{K:AV→SH→Ns→Prop}(k0:W.dcall Try.prog us i f args L K):wd us i f args L K:=by unfold wd;exact k0
theorem I8{a b c d:Ns}{K:Fp→Prop}(k0:W.note ⟨a,b,c,d⟩ K):wn a b c d K:=by unfold wn;exact k0
theorem Il{us:List W.WR}{i:Nat}{x:AV}{L:SH}{K:AV→Fp→Prop}(k0:W.calm us ⟨i,af x,[],[],false,[]⟩ (wl x L fun v=>W.note ⟨af x,[],[],[]⟩ fun r=>K v r)):dl us i x L K:=by unfold dl;exact k0
theorem Im{us:List W.WR}{i n:Nat}{x:AV}{L:SH}{K:AV→Fp→Prop}(k0:W.calm us ⟨i,af x,[],[],false,[]⟩ (dy n x L fun v=>W.note ⟨af x,[],[],[]⟩ fun r=>K v r)):dr us i n x L K:=by unfold dr;exact k0
theorem FP{o:Nat}{x:AV}{us:List W.WR}{i:Nat}{L:SH}{K:AV→Fp→Prop}(k0:W.faddr o x fun a=>dl us i a L K):bx o x us i L K:=by unfold bx;exact k0
theorem Gr{us:List W.WR}{i n:Nat}{x ix:AV}{L:SH}{K:AV→Fp→Prop}(k0:W.calm us ⟨i,dw x,[],[],false,[]⟩ (W.idx n x ix L fun v=>W.note ⟨dw x,[],[],[]⟩ fun r=>K v r)):di us i n x ix L K:=by unfold di;exact k0
theorem In{us:List W.WR}{i n:Nat}{x y:AV}{L:SH}{K:SH→Fp→Prop}(k0:W.calm us ⟨i,af x,af x,[],false,[]⟩ (W.store n x y L fun L=>W.note ⟨af x,af x,[],[]⟩ fun r=>K L r)):ds us i n x y L K:=by unfold ds;exact k0
theorem EJ{rows:List (List AV)}{i off:Nat}{r:List AV}{v:AV}{L:SH}{K:AV→Prop}(k:K v)(h1:rows[i]? =some r:=by first | assumption | rfl)(h2:r[off]? =some v:=by rfl):wl (.pptr rows i off) L K:=Gq (yW k h1 h2)
theorem Io{b i off:Nat}{x:Blk}{r:List AV}{v:AV}{L:SH}{K:AV→Prop}(k:K v)(hm:(b,x)∈L:=by repeat constructor)(h1:x.rows[i]? =some r:=by first | assumption | rfl)(h2:r[off]? =some v:=by rfl):wl (.ptr b i off) L K:=Gq (yX k hm h1 h2)
theorem FQ{o:Nat}{rows:List (List AV)}{i off:Nat}{r:List AV}{v:AV}{L:SH}{K:AV→Prop}(k:K v)(h1:rows[i]? =some r:=by first | assumption | rfl)(h2:r[off+o]? =some v:=by rfl):bo o (.pptr rows i off) L K:=C4 (rP (EJ k h1 h2))
theorem FR{o b i off:Nat}{x:Blk}{r:List AV}{v:AV}{L:SH}{K:AV→Prop}(k:K v)(hm:(b,x)∈L:=by repeat constructor)(h1:x.rows[i]? =some r:=by first | assumption | rfl)(h2:r[off+o]? =some v:=by rfl):bo o (.ptr b i off) L K:=C4 (rO (Io k hm h1 h2))
theorem Gs{o b i off:Nat}{x:Blk}{r:List AV}{v:AV}{L:SH}{K:AV→Prop}(k:K v)(hm:(b,x)∈L:=by repeat constructor)(h1:x.rows[i]? =some r:=by first | assumption | rfl)(h2:r[off+o]? =some v:=by rfl):c8 o (.ptr b i off) L K:=C5 (AW (FR k hm h1 h2))
theorem Ip{n:Nat}{rows:List (List AV)}{kd:IntKind}{j:Nat}{r:List AV}{v:AV}{L:SH}{K:AV→Prop}(k:K v)(h1:rows[j]? =some r:=by first | assumption | rfl)(h2:r.length=n:=by rfl)(h3:r[0]? =some v:=by rfl):Ba n (.lst rows) (.int kd (j:Int)) L K:=FM (pW (EJ k h1 h3) h1 h2)
theorem Iq{n:Nat}{rows:List (List AV)}{kd:IntKind}{j:Nat}{r:List AV}{L:SH}{K:AV→Prop}(k:K (.agg r))(h1:rows[j]? =some r:=by first | assumption | rfl)(h2:r.length=n:=by rfl):ug n (.lst rows) (.int kd (j:Int)) L K:=FN (pW (C3 (uf k h1 h2)) h1 h2)
theorem Gt{n o:Nat}{rows:List (List AV)}{kd:IntKind}{j:Nat}{r:List AV}{v:AV}{L:SH}{K:AV→Prop}(k:K v)(h1:rows[j]? =some r:=by first | assumption | rfl)(h2:r.length=n:=by rfl)(h3:r[0+o]? =some v:=by rfl):gQ n o (.lst rows) (.int kd (j:Int)) L K:=C6 (pW (FQ k h1 h3) h1 h2)
theorem uU{us:List W.WR}{i:Nat}{A:Prop}(k:A):W.calm us ⟨i,[],[],[],false,[]⟩ A:=CO (fun x _=>by simp[W.free]) k
theorem Ir{us:List W.WR}{j:Nat}{rows:List (List AV)}{i off:Nat}{r:List AV}{v:AV}{L:SH}{K:AV→Fp→Prop}(k:K v rz)(h1:rows[i]? =some r:=by first | assumption | rfl)(h2:r[off]? =some v:=by rfl):dl us j (.pptr rows i off) L K:=Il (uU (EJ (mX k) h1 h2))
theorem I9{us:List W.WR}{j n:Nat}{rows:List (List AV)}{i:Nat}{r:List AV}{L:SH}{K:AV→Fp→Prop}(k:K (.agg r) rz)(h1:rows[i]? =some r:=by first | assumption | rfl)(h2:r.length=n:=by rfl):dr us j n (.pptr rows i 0) L K:=Im (uU (C3 (uf (mX k) h1 h2)))
theorem Is{us:List W.WR}{j o:Nat}{rows:List (List AV)}{i off:Nat}{r:List AV}{v:AV}{L:SH}{K:AV→Fp→Prop}(k:K v rz)(h1:rows[i]? =some r:=by first | assumption | rfl)(h2:r[off+o]? =some v:=by rfl):bx o (.pptr rows i off) us j L K:=FP (rP (Ir k h1 h2))
theorem Ja{us:List W.WR}{m n:Nat}{rows:List (List AV)}{kd:IntKind}{j:Nat}{r:List AV}{L:SH}{K:AV→Fp→Prop}(k:K (.pptr rows j 0) rz)(h1:rows[j]? =some r:=by first | assumption | rfl)(h2:r.length=n:=by rfl):di us m n (.lst rows) (.int kd (j:Int)) L K:=Gr (uU (pW (mX k) h1 h2))
theorem Gu{z cs:List AV}{n:Nat}{L:SH}{K:R}(k:K (.pptr [cs] 0 0) L)(h1:cs.length=n:=by rfl)(h2:z.length=n:=by rfl)(h3:cs.all AV.one=true:=by rfl)(h4:0<n:=by decide):xH z n (.agg cs) L K:=by
 unfold xH
 refine AX fun b hb=>?_
 refine gW (.here _) rfl h1 h3 h2 ?_
 exact xD (.here _) (by show 0<z.length;omega) (Nat.succ_pos _) k
theorem C7{y:AV}{cs:List AV}{L:SH}{K:R}(k:K (.pptr [cs] 0 0) L)(h1:y.cells? =some cs:=by rfl)(h2:cs.all AV.one=true:=by rfl)(h3:0<cs.length:=by exact Nat.succ_pos _):xb y L K:=by
 unfold xb
 exact FI h1 h2 fun b hb=>xD (.here _) h3 (Nat.succ_pos _) k
theorem zd{n:Nat}{rows:List (List AV)}{i off:Nat}{r cs:List AV}{L:SH}{K:AV→Prop}(k:K (.agg cs))(h1:rows[i]? =some r:=by first | assumption | rfl)(h3:(r.drop off).take n=cs:=by rfl)(h2:off+n≤r.length:=by exact Nat.le_of_ble_eq_true rfl):W.load true n (.pptr rows i off) L K:=CK h1 h2 h3 k
theorem ze{n b i off:Nat}{x:Blk}{r cs:List AV}{L:SH}{K:AV→Prop}(k:K (.agg cs))(hm:(b,x)∈L:=by repeat constructor)(h1:x.rows[i]? =some r:=by first | assumption | rfl)(h3:(r.drop off).take n=cs:=by rfl)(h2:off+n≤r.length:=by exact Nat.le_of_ble_eq_true rfl):W.load true n (.ptr b i off) L K:=CL hm h1 h2 h3 k
theorem b9{P:Program}{F:TypeId→Option (List TypeId)}{t:TypeId}{kd:IntKind}{a b c:Int}{K:AV→Prop}(k:K (.int kd c))(e:kd.wrap (a+b)=c:=by assumption):W.bin P F .add t (.int kd a) (.int kd b) K:=CG (by rw[e];exact k)
theorem ge{P:Program}{F:TypeId→Option (List TypeId)}{t:TypeId}{kd:IntKind}{a b c:Int}{K:AV→Prop}(k:K (.int kd c))(e:kd.wrap (a-b)=c:=by assumption):W.bin P F .sub t (.int kd a) (.int kd b) K:=CH (by rw[e];exact k)
theorem FS{a b:Bool}{K:AV→Prop}(k:K (.bool (decide (a≠b)))):W.bin Try.prog Fl .neq 4 (.bool a) (.bool b) K:=by
 rw[H5 _ (show Try.prog.underlying 4=some .bool by kernel_rfl)]
 cases a<;>cases b<;>exact k
theorem xI{us:List W.WR}{y:W.WR}{A:Prop}(h:A)(h1:∀x∈us,W.free x y:=by(simp only[rm,rc,rz,W.free,ay,↓reduceIte,Nat.reduceEqDiff,af,dw,List.forall_mem_nil,List.forall_mem_cons,List.not_mem_nil,not_false_eq_true,implies_true,and_true,true_and,and_self,Bool.false_eq_true,reduceCtorEq,forall_const,false_implies,List.mem_singleton,forall_eq,List.append_nil,List.nil_append,List.mem_cons,or_false,false_or,forall_eq_or_imp,not_or])<;>(repeat' constructor)<;>first | assumption | (exact Ne.symm (by assumption)) | (intro e_;subst e_;simp[SH.names]at *;done)):W.calm us y A:=CO h1 h
theorem ab{L:SH}{KN:AV→SH→List Nat→Prop}{us:List W.WR}{i:Nat}{g:FuncId}{args:List AV}{v:AV}(h:aO Try.prog g args v)(hk:KN v L [])(hf:∀x∈us,W.free x ⟨i,[],[],[],true,[]⟩:=by(simp only[rm,rc,rz,W.free,ay,↓reduceIte,Nat.reduceEqDiff,af,dw,List.forall_mem_nil,List.forall_mem_cons,List.not_mem_nil,not_false_eq_true,implies_true,and_true,true_and,and_self,Bool.false_eq_true,reduceCtorEq,forall_const,false_implies,List.mem_singleton,forall_eq,List.append_nil,List.nil_append,List.mem_cons,or_false,false_or,forall_eq_or_imp,not_or])<;>(repeat' constructor)<;>first | assumption | (exact Ne.symm (by assumption)) | (intro e_;subst e_;simp[SH.names]at *;done)):W.dcallM Try.prog us i g args L KN:=EC h hf hk
theorem uV{g:FuncId}{args:List AV}{L:SH}{i:Nat}{R1:R}{KN:AV→SH→List Nat→Prop}(h:am Try.prog g args L R1)(hk:∀v K',R1 v K'→KN v K' L.names):W.dcallM Try.prog [] i g args L KN:=
 ⟨L,[],by simp,nofun,h.mono fun v K' hr=>by simpa using hk v K' hr⟩
theorem cf{g:FuncId}{args:List AV}{L:SH}{R1 KL:R}(h:am Try.prog g args L R1)(hk:∀v K',R1 v K'→KL v K'):W.callM Try.prog g args L KL:=A7 (h.mono hk)
theorem bC(ht:Ct){f:FuncId}{fn:Func}{args:List AV}{L:SH}{Q:R}{p:Prop}(hf:Try.prog.funcs[f]? =some fn)(hb:fn.body=some (fn.body.getD .skip))(he:W.func Try.prog Fl ht fn (fn.body.getD .skip) args L Q=p)(h:p):am Try.prog f args L Q:=
 Af (ht:=ht) fit hf hb (Eq.mpr he h)
@[irreducible] def Jo (a0:Nat) (v:Vs) (K:AV→Prop):Prop:=K (ay [a0] v a0)
theorem Gv{a0:Nat}{y0:AV}{K:AV→Prop}(k:K y0)(h:[a0].Nodup:=by decide):Jo a0 [y0] K:=by
 simp only[List.nodup_cons,List.mem_cons,not_or,List.not_mem_nil,not_false_eq_true,List.nodup_nil,and_true,true_and]at h
 simp only[Jo,ay, *,if_true,if_false,eq_self]
@[irreducible] def EK (a0 a1:Nat) (v:Vs) (K:AV→AV→Prop):Prop:=K (ay [a0,a1] v a0) (ay [a0,a1] v a1)
theorem Gw{a0 a1:Nat}{y0 y1:AV}{K:AV→AV→Prop}(k:K y0 y1)(h:[a0,a1].Nodup:=by decide):EK a0 a1 [y0,y1] K:=by
 simp only[List.nodup_cons,List.mem_cons,not_or,List.not_mem_nil,not_false_eq_true,List.nodup_nil,and_true,true_and]at h
 simp only[EK,ay, *,if_true,if_false,eq_self]
@[irreducible] def wu (a0 a1 a2:Nat) (v:Vs) (K:AV→AV→AV→Prop):Prop:=K (ay [a0,a1,a2] v a0) (ay [a0,a1,a2] v a1) (ay [a0,a1,a2] v a2)
theorem Gx{a0 a1 a2:Nat}{y0 y1 y2:AV}{K:AV→AV→AV→Prop}(k:K y0 y1 y2)(h:[a0,a1,a2].Nodup:=by decide):wu a0 a1 a2 [y0,y1,y2] K:=by
 simp only[List.nodup_cons,List.mem_cons,not_or,List.not_mem_nil,not_false_eq_true,List.nodup_nil,and_true,true_and]at h
 simp only[wu,ay, *,if_true,if_false,eq_self]
@[irreducible] def EL (a0 a1 a2 a3:Nat) (v:Vs) (K:AV→AV→AV→AV→Prop):Prop:=K (ay [a0,a1,a2,a3] v a0) (ay [a0,a1,a2,a3] v a1) (ay [a0,a1,a2,a3] v a2) (ay [a0,a1,a2,a3] v a3)
theorem Gy{a0 a1 a2 a3:Nat}{y0 y1 y2 y3:AV}{K:AV→AV→AV→AV→Prop}(k:K y0 y1 y2 y3)(h:[a0,a1,a2,a3].Nodup:=by decide):EL a0 a1 a2 a3 [y0,y1,y2,y3] K:=by
 simp only[List.nodup_cons,List.mem_cons,not_or,List.not_mem_nil,not_false_eq_true,List.nodup_nil,and_true,true_and]at h
 simp only[EL,ay, *,if_true,if_false,eq_self]
@[irreducible] def Ah (a0 a1 a2 a3 a4:Nat) (v:Vs) (K:AV→AV→AV→AV→AV→Prop):Prop:=K (ay [a0,a1,a2,a3,a4] v a0) (ay [a0,a1,a2,a3,a4] v a1) (ay [a0,a1,a2,a3,a4] v a2) (ay [a0,a1,a2,a3,a4] v a3) (ay [a0,a1,a2,a3,a4] v a4)
theorem Gz{a0 a1 a2 a3 a4:Nat}{y0 y1 y2 y3 y4:AV}{K:AV→AV→AV→AV→AV→Prop}(k:K y0 y1 y2 y3 y4)(h:[a0,a1,a2,a3,a4].Nodup:=by decide):Ah a0 a1 a2 a3 a4 [y0,y1,y2,y3,y4] K:=by
 simp only[List.nodup_cons,List.mem_cons,not_or,List.not_mem_nil,not_false_eq_true,List.nodup_nil,and_true,true_and]at h
 simp only[Ah,ay, *,if_true,if_false,eq_self]
@[irreducible] def GA (a0 a1 a2 a3 a4 a5:Nat) (v:Vs) (K:AV→AV→AV→AV→AV→AV→Prop):Prop:=K (ay [a0,a1,a2,a3,a4,a5] v a0) (ay [a0,a1,a2,a3,a4,a5] v a1) (ay [a0,a1,a2,a3,a4,a5] v a2) (ay [a0,a1,a2,a3,a4,a5] v a3) (ay [a0,a1,a2,a3,a4,a5] v a4) (ay [a0,a1,a2,a3,a4,a5] v a5)
theorem GB{a0 a1 a2 a3 a4 a5:Nat}{y0 y1 y2 y3 y4 y5:AV}{K:AV→AV→AV→AV→AV→AV→Prop}(k:K y0 y1 y2 y3 y4 y5)(h:[a0,a1,a2,a3,a4,a5].Nodup:=by decide):GA a0 a1 a2 a3 a4 a5 [y0,y1,y2,y3,y4,y5] K:=by
 simp only[List.nodup_cons,List.mem_cons,not_or,List.not_mem_nil,not_false_eq_true,List.nodup_nil,and_true,true_and]at h
 simp only[GA,ay, *,if_true,if_false,eq_self]
@[irreducible] def GC (a0 a1 a2 a3 a4 a5 a6:Nat) (v:Vs) (K:AV→AV→AV→AV→AV→AV→AV→Prop):Prop:=K (ay [a0,a1,a2,a3,a4,a5,a6] v a0) (ay [a0,a1,a2,a3,a4,a5,a6] v a1) (ay [a0,a1,a2,a3,a4,a5,a6] v a2) (ay [a0,a1,a2,a3,a4,a5,a6] v a3) (ay [a0,a1,a2,a3,a4,a5,a6] v a4) (ay [a0,a1,a2,a3,a4,a5,a6] v a5) (ay [a0,a1,a2,a3,a4,a5,a6] v a6)
theorem GD{a0 a1 a2 a3 a4 a5 a6:Nat}{y0 y1 y2 y3 y4 y5 y6:AV}{K:AV→AV→AV→AV→AV→AV→AV→Prop}(k:K y0 y1 y2 y3 y4 y5 y6)(h:[a0,a1,a2,a3,a4,a5,a6].Nodup:=by decide):GC a0 a1 a2 a3 a4 a5 a6 [y0,y1,y2,y3,y4,y5,y6] K:=by
 simp only[List.nodup_cons,List.mem_cons,not_or,List.not_mem_nil,not_false_eq_true,List.nodup_nil,and_true,true_and]at h
 simp only[GC,ay, *,if_true,if_false,eq_self]
@[irreducible] def IZ (a0 a1 a2 a3 a4 a5 a6 a7:Nat) (v:Vs) (K:AV→AV→AV→AV→AV→AV→AV→AV→Prop):Prop:=K (ay [a0,a1,a2,a3,a4,a5,a6,a7] v a0) (ay [a0,a1,a2,a3,a4,a5,a6,a7] v a1) (ay [a0,a1,a2,a3,a4,a5,a6,a7] v a2) (ay [a0,a1,a2,a3,a4,a5,a6,a7] v a3) (ay [a0,a1,a2,a3,a4,a5,a6,a7] v a4) (ay [a0,a1,a2,a3,a4,a5,a6,a7] v a5) (ay [a0,a1,a2,a3,a4,a5,a6,a7] v a6) (ay [a0,a1,a2,a3,a4,a5,a6,a7] v a7)
theorem GE{a0 a1 a2 a3 a4 a5 a6 a7:Nat}{y0 y1 y2 y3 y4 y5 y6 y7:AV}{K:AV→AV→AV→AV→AV→AV→AV→AV→Prop}(k:K y0 y1 y2 y3 y4 y5 y6 y7)(h:[a0,a1,a2,a3,a4,a5,a6,a7].Nodup:=by decide):IZ a0 a1 a2 a3 a4 a5 a6 a7 [y0,y1,y2,y3,y4,y5,y6,y7] K:=by
 simp only[List.nodup_cons,List.mem_cons,not_or,List.not_mem_nil,not_false_eq_true,List.nodup_nil,and_true,true_and]at h
 simp only[IZ,ay, *,if_true,if_false,eq_self]
@[irreducible] def GF (a0 a1 a2 a3 a4 a5 a6 a7 a8:Nat) (v:Vs) (K:AV→AV→AV→AV→AV→AV→AV→AV→AV→Prop):Prop:=K (ay [a0,a1,a2,a3,a4,a5,a6,a7,a8] v a0) (ay [a0,a1,a2,a3,a4,a5,a6,a7,a8] v a1) (ay [a0,a1,a2,a3,a4,a5,a6,a7,a8] v a2) (ay [a0,a1,a2,a3,a4,a5,a6,a7,a8] v a3) (ay [a0,a1,a2,a3,a4,a5,a6,a7,a8] v a4) (ay [a0,a1,a2,a3,a4,a5,a6,a7,a8] v a5) (ay [a0,a1,a2,a3,a4,a5,a6,a7,a8] v a6) (ay [a0,a1,a2,a3,a4,a5,a6,a7,a8] v a7) (ay [a0,a1,a2,a3,a4,a5,a6,a7,a8] v a8)
theorem GG{a0 a1 a2 a3 a4 a5 a6 a7 a8:Nat}{y0 y1 y2 y3 y4 y5 y6 y7 y8:AV}{K:AV→AV→AV→AV→AV→AV→AV→AV→AV→Prop}(k:K y0 y1 y2 y3 y4 y5 y6 y7 y8)(h:[a0,a1,a2,a3,a4,a5,a6,a7,a8].Nodup:=by decide):GF a0 a1 a2 a3 a4 a5 a6 a7 a8 [y0,y1,y2,y3,y4,y5,y6,y7,y8] K:=by
 simp only[List.nodup_cons,List.mem_cons,not_or,List.not_mem_nil,not_false_eq_true,List.nodup_nil,and_true,true_and]at h
 simp only[GF,ay, *,if_true,if_false,eq_self]
@[irreducible] def GH (a0 a1 a2 a3 a4 a5 a6 a7 a8 a9:Nat) (v:Vs) (K:AV→AV→AV→AV→AV→AV→AV→AV→AV→AV→Prop):Prop:=K (ay [a0,a1,a2,a3,a4,a5,a6,a7,a8,a9] v a0) (ay [a0,a1,a2,a3,a4,a5,a6,a7,a8,a9] v a1) (ay [a0,a1,a2,a3,a4,a5,a6,a7,a8,a9] v a2) (ay [a0,a1,a2,a3,a4,a5,a6,a7,a8,a9] v a3) (ay [a0,a1,a2,a3,a4,a5,a6,a7,a8,a9] v a4) (ay [a0,a1,a2,a3,a4,a5,a6,a7,a8,a9] v a5) (ay [a0,a1,a2,a3,a4,a5,a6,a7,a8,a9] v a6) (ay [a0,a1,a2,a3,a4,a5,a6,a7,a8,a9] v a7) (ay [a0,a1,a2,a3,a4,a5,a6,a7,a8,a9] v a8) (ay [a0,a1,a2,a3,a4,a5,a6,a7,a8,a9] v a9)
theorem EM{a0 a1 a2 a3 a4 a5 a6 a7 a8 a9:Nat}{y0 y1 y2 y3 y4 y5 y6 y7 y8 y9:AV}{K:AV→AV→AV→AV→AV→AV→AV→AV→AV→AV→Prop}(k:K y0 y1 y2 y3 y4 y5 y6 y7 y8 y9)(h:[a0,a1,a2,a3,a4,a5,a6,a7,a8,a9].Nodup:=by decide):GH a0 a1 a2 a3 a4 a5 a6 a7 a8 a9 [y0,y1,y2,y3,y4,y5,y6,y7,y8,y9] K:=by
 simp only[List.nodup_cons,List.mem_cons,not_or,List.not_mem_nil,not_false_eq_true,List.nodup_nil,and_true,true_and]at h
 simp only[GH,ay, *,if_true,if_false,eq_self]
end Go.Proofs.Ytljkdffikfkcgaa.Am
end
section
namespace Go.Proofs.Ytljkdffikfkcgaa.Am
set_option linter.unusedVariables false
set_option maxRecDepth 100000
def uW(n33:Kn)(L56:SH)(x39 x35 x40 x36 x37 x38:AV):Prop:=
 (true=true)∧(
 bx 1 x39 [] 1 L56 fun x60 r61=>
 di [rm 1 r61] 5 1 x35 x40 L56 fun x62 r63=>
 dl [rm 1 r61] 6 x62 L56 fun x64 r65=>
 di [] 7 1 x60 x40 L56 fun x66 r67=>
 ds [] 8 1 x66 x64 L56 fun L68 r69=>
 wb .add 3 x40 (.int .i64 1) fun x70=>
 n33 [x35,x36,x37,x38,x39,x70] L68)
def uX(n72:Kn)(L94:SH)(x77 x74 x78 x75 x76:AV):Prop:=
 (true=true)∧(
 bx 2 x77 [] 1 L94 fun x98 r99=>
 di [rm 1 r99] 5 1 x74 x78 L94 fun x100 r101=>
 dl [rm 1 r99] 6 x100 L94 fun x102 r103=>
 W.conv .i64 x102 fun x104=>
 W.calm [rm 1 r99] ⟨8,[],[],[],false,[]⟩ (
 W.bslice 1 [(.int .i64 0)] 1 [(0,x104)] L94 fun x105 L106=>
 wn [] [] (af x105) [] fun r107=>
 di [] 9 1 x98 x78 L106 fun x108 r109=>
 ds [] 10 1 x108 x105 L106 fun L110 r111=>
 wb .add 3 x78 (.int .i64 1) fun x112=>
 n72 [x74,x75,x76,x77,x112] L110))
def eI(Q:R)(v71:Vs)(L73:SH)(n72:Kn):Prop:=
 Ah 3 4 8 9 11 v71 fun x74 x75 x76 x77 x78=>
 bo 0 x75 L73 fun x80=>
 wb .lss 3 x78 x80 fun x81=>
 cj x81 true x78 L73 fun x82 L84=>
 cj x81 true x74 L84 fun x85 L87=>
 wg x81 true (W.len x85) L87 fun x88 L90=>
 wg x81 true (wb .lss 3 x82 x88) L90 fun x92 L94=>
 W.pick x81 x92 (.bool false) fun x96=>
 wk x96 (
 (uX n72 L94 x77 x74 x78 x75 x76)) (
 dy 4 x77 L94 fun x113=>
 W.store 4 x76 x113 L94 fun L114=>
 W.load true 4 x76 L114 fun x115=>
 Q x115 L114)
def gf(Q:R)(v32:Vs)(L34:SH)(n33:Kn):Prop:=
 GA 2 3 4 8 9 10 v32 fun x35 x36 x37 x38 x39 x40=>
 bo 0 x37 L34 fun x42=>
 wb .lss 3 x40 x42 fun x43=>
 cj x43 true x40 L34 fun x44 L46=>
 cj x43 true x35 L46 fun x47 L49=>
 wg x43 true (W.len x47) L49 fun x50 L52=>
 wg x43 true (wb .lss 3 x44 x50) L52 fun x54 L56=>
 W.pick x43 x54 (.bool false) fun x58=>
 wk x58 (
 (uW n33 L56 x39 x35 x40 x36 x37 x38)) (
 W.loop (eI Q) [x36,x37,x38,x39,(.int .i64 0)] L56)
def mB(t0 t1 t2 t3:AV)(L:SH)(Q:R):Prop:=
 W.box t0 L fun x0 L1=>
 W.alloc [(.int .i64 0),.nils,.nils,(.int .i64 0)] L1 fun x2 L3=>
 W.frz1 x0 L3 fun x4 L5=>
 (true=true)∧(
 W.conv .i64 t1 fun x6=>
 bx 1 x4 [] 3 L5 fun x8 r9=>
 W.len x8 fun x10=>
 wb .rem 3 x6 x10 fun x11=>
 bx 0 x4 [rm 3 r9] 7 L5 fun x13 r14=>
 W.calm [rm 3 r9] ⟨8,[],[],[],false,[]⟩ (
 W.mslice 1 8 [(.int .i64 0)] x13 x13 L5 fun x15 L16=>
 wn [] [] (af x15) [] fun r17=>
 bx 0 x4 [rm 8 r17,rm 7 r14,rm 3 r9] 10 L16 fun x19 r20=>
 W.calm [rm 8 r17,rm 7 r14,rm 3 r9] ⟨11,[],[],[],false,[]⟩ (
 W.mslice 1 24 [.nils] x19 x19 L16 fun x21 L22=>
 wn [] [] (af x21) [] fun r23=>
 W.build [(.int .i64 0),.nils,.nils,(.int .i64 0)] [(0,1,x11),(1,1,x15),(2,1,x21)] fun x24=>
 W.calm [rm 11 r23,rm 10 r20,rm 8 r17,rm 7 r14,rm 3 r9] ⟨13,[],[],[],false,[]⟩ (
 W.alloc [(.int .i64 0),.nils,.nils,(.int .i64 0)] L22 fun x25 L26=>
 wn [] [] (af x25) [] fun r27=>
 ds [] 14 4 x25 x24 L26 fun L28 r29=>
 W.frz1 x25 L28 fun x30 L31=>
 W.loop (gf Q) [t2,t3,x4,x2,x30,(.int .i64 0)] L31))))
theorem uY(t0 t1 t2 t3:AV)(L:SH)(Q:R)(h:mB t0 t1 t2 t3 L Q):am Try.prog 5 [t0,t1,t2,t3] L Q:=
 bC ⟨fun _=>none,fun k=>if k=3 then [2,3,4,8,9,10]else if k=7 then [3,4,8,9,11]else [],fun k=>if k=0 then [4]else if k=1 then [9]else [],fun k=>if k=1 then [0,1,0,4,12,31,0,64,192,0,512,1536,4095,0,16383]else if k=5 then [0,1,0,0,0,24,56,127,255]else if k=9 then [0,1,0,0,0,24,56,120,248,511,1023]else []⟩ Try.func5 (by kernel_rfl) (by kernel_rfl) h
end Go.Proofs.Ytljkdffikfkcgaa.Am
end
