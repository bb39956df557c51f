/- A part of the proof; the statement is proved in the last part. -/
import Derived.Test.YtelgfgfgghpjgaaGreatDoorQad
import Derived.Test.YtelgfgfgghpjgaaGreatDoorProg
import Derived.KernelRfl
import Derived.IntWalk
set_option linter.unusedSimpArgs false
set_option linter.unusedVariables false
section
namespace Go.Proofs.YtelgfgfgghpjgaaGreatDoor.Am
open Go.RowKit
set_option linter.unusedVariables false
namespace W
structure pick(c x y:AV)(K:AV→Prop):Prop where
 h:W0.pick c x y K
structure un(op:UnOp)(x:AV)(K:AV→Prop):Prop where
 h:W0.un op x K
structure bin(P:Program)(F:TypeId→Option (List TypeId))(op:BinOp)(t:TypeId)(x y:AV)(K:AV→Prop):Prop where
 h:W0.bin P F op t x y K
structure conv(k:IntKind)(x:AV)(K:AV→Prop):Prop where
 h:W0.conv k x K
structure convS(x:AV)(K:AV→Prop):Prop where
 h:W0.convS x K
structure faddr(off:Nat)(x:AV)(K:AV→Prop):Prop where
 h:W0.faddr off x K
structure fld(ag:Bool)(n off:Nat)(x:AV)(K:AV→Prop):Prop where
 h:W0.fld ag n off x K
structure load(ag:Bool)(n:Nat)(a:AV)(L:SH)(K:AV→Prop):Prop where
 h:W0.loadR ag n a L K
structure store(n:Nat)(a v:AV)(L:SH)(K:SH→Prop):Prop where
 h:W0.storeR n a v L K
structure idx(n:Nat)(x ix:AV)(L:SH)(K:AV→Prop):Prop where
 h:W0.idxR n x ix L K
structure idxP(len n:Nat)(x ix:AV)(K:AV→Prop):Prop where
 h:W0.idxP len n x ix K
structure ixS(x ix:AV)(K:AV→Prop):Prop where
 h:W0.ixS x ix K
structure ixA(ag:Bool)(len n:Nat)(x ix:AV)(K:AV→Prop):Prop where
 h:W0.ixA ag len n x ix K
structure ext(i:Nat)(x:AV)(K:AV→Prop):Prop where
 h:W0.ext i x K
structure nilchk(x:AV)(K:AV→Prop):Prop where
 h:W0.nilchk x K
structure build(z:List AV)(parts:List (Nat×Nat×AV))(K:AV→Prop):Prop where
 h:W0.build z parts K
structure alloc(cs:List AV)(L:SH)(K:AV→SH→Prop):Prop where
 h:W0.alloc cs L K
structure box(x:AV)(L:SH)(K:AV→SH→Prop):Prop where
 h:W0.box x L K
structure bslice(n:Nat)(z:List AV)(len:Nat)(parts:List (Nat×AV))(L:SH)(K:AV→SH→Prop):Prop where
 h:W0.bslice n z len parts L K
structure mslice(n by_:Nat)(z:List AV)(l c:AV)(L:SH)(K:AV→SH→Prop):Prop where
 h:W0.mslice n by_ z l c L K
structure append(n by_:Nat)(s x:AV)(L:SH)(K:AV→SH→Prop):Prop where
 h:W0.appendR n by_ s x L K
structure clear(n:Nat)(z:List AV)(x:AV)(L:SH)(K:SH→Prop):Prop where
 h:W0.clearR n z x L K
structure len(x:AV)(K:AV→Prop):Prop where
 h:W0.len x K
structure lenS(x:AV)(K:AV→Prop):Prop where
 h:W0.lenS x K
structure mnx(mx:Bool)(x y:AV)(K:AV→Prop):Prop where
 h:W0.mnx mx x y K
structure slice(n:Nat)(x:AV)(lo hi mx:Option AV)(L:SH)(K:AV→Prop):Prop where
 h:W0.sliceR n x lo hi mx L K
structure sliceS(x:AV)(lo hi:Option AV)(K:AV→Prop):Prop where
 h:W0.sliceS x lo hi K
structure mkmap(L:SH)(K:AV→SH→Prop):Prop where
 h:W0.mkmap L K
structure look(z:AV)(ok:Bool)(m k:AV)(L:SH)(K:AV→Prop):Prop where
 h:W0.lookR z ok m k L K
structure mup(m k v:AV)(L:SH)(K:SH→Prop):Prop where
 h:W0.mupR m k v L K
structure rngS(x:AV)(L:SH)(K:AV→SH→Prop):Prop where
 h:W0.rngS x L K
structure nxt(it:AV)(L:SH)(K:AV→SH→Prop):Prop where
 h:W0.nextR it L K
structure call(P:Program)(fv:AV)(args:List AV)(L:SH)(K:AV→SH→Prop):Prop where
 h:match fv with
  | .fn g cs=>al P g (args++cs) L K
  | _=>False
section
variable (P:Program) (F:TypeId→Option (List TypeId))
def op(o:Op)(ρ:Operand→AV)(L:SH)(K:AV→SH→Prop):Prop:=
 let k:=fun v=>K v L
 match o with
 | .move x | .assign x=>K (ρ x) L
 | .pick c x y=>pick (ρ c) (ρ x) (ρ y) k
 | .alloc t=>match W0.zof P t with
  | some cs=>alloc cs L K
  | none=>False
 | .box _ x=>box (ρ x) L K
 | .build t parts=>match P.underlying t,bH P t with
  | some (.struct fs),some (.agg z)=>if(fs.toList.all fun f=>(au P f.type).isSome)=true then
    (match aL (parts.toList.map fun p=>(fe P fs p.1).map fun q=>(q.1,q.2,ρ p.2))with
     | some ps=>build z ps k
     | none=>False)
   else False
  | some (.array _ e),some (.agg z)=>(match au P e with
   | some n=>build z (parts.toList.map fun p=>(p.1*n,n,ρ p.2)) k
   | none=>False)
  | _,_=>False
 | .buildSlice t len parts=>match P.underlying t with
  | some (.slice e)=>match au P e,W0.zof P e with
   | some n,some z=>if z.length=n∧0<n then bslice n z len (parts.toList.map fun p=>(p.1,ρ p.2)) L K else False
   | _,_=>False
  | _=>False
 | .load t a=>match b0 P t,au P t with
  | some ag,some n=>load ag n (ρ a) L k
  | _,_=>False
 | .store t a x=>match au P t with
  | some n=>store n (ρ a) (ρ x) L (K (.tup []))
  | none=>False
 | .nilCheck x=>nilchk (ρ x) k
 | .binOp op t x y _=>bin P F op t (ρ x) (ρ y) k
 | .unOp op _ x=>un op (ρ x) k
 | .convert s d x=>match P.underlying s,P.underlying d with
  | some (.int _),some (.int kd)=>conv kd (ρ x) k
  | some .string,some .string=>convS (ρ x) k
  | _,_=>False
 | .makeFunc (.func f) first cap=>if first.size=0 then K (.fn f (cap.toList.map ρ)) L else False
 | .makeSlice t l c=>match P.underlying t with
  | some (.slice e)=>match au P e,dA P e,W0.zof P e with
   | some n,some by_,some z=>if z.length=n∧0<n then mslice n by_ z (ρ l) (ρ c) L K else False
   | _,_,_=>False
  | _=>False
 | .slice t x lo hi mx=>if(hi.isNone&&mx.isSome)=true then False else match P.underlying t with
  | some (.slice e)=>(match au P e with
   | some n=>slice n (ρ x) (lo.map ρ) (hi.map ρ) (mx.map ρ) L k
   | none=>False)
  | some .string=>if mx.isNone=true then sliceS (ρ x) (lo.map ρ) (hi.map ρ) k else False
  | _=>False
 | .fieldAddr s x f=>match P.underlying s with
  | some (.struct fs)=>match fs[f]? with
   | some f=>(match au P f.type with
    | some n=>if n=0 then False else faddr f.offset (ρ x) k
    | none=>False)
   | none=>False
  | _=>False
 | .field s x f=>match P.underlying s with
  | some (.struct fs)=>match fs[f]? with
   | some f=>(match b0 P f.type,au P f.type with
    | some ag,some n=>fld ag n f.offset (ρ x) k
    | _,_=>False)
   | none=>False
  | _=>False
 | .indexAddr t x ix=>match P.underlying t with
  | some (.slice e)=>(match au P e with
   | some n=>idx n (ρ x) (ρ ix) L k
   | none=>False)
  | some (.array len e)=>(match au P e with
   | some n=>idxP len n (ρ x) (ρ ix) k
   | none=>False)
  | _=>False
 | .index t x ix=>match P.underlying t with
  | some .string=>ixS (ρ x) (ρ ix) k
  | some (.array len e)=>(match b0 P e,au P e with
   | some ag,some n=>ixA ag len n (ρ x) (ρ ix) k
   | _,_=>False)
  | _=>False
 | .extract x i=>ext i (ρ x) k
 | .makeMap _ none=>mkmap L K
 | .lookup t m y ok=>match P.underlying t with
  | some (.map kt et)=>(match P.underlying kt,bH P et with
   | some .string,some z=>look z ok (ρ m) (ρ y) L k
   | _,_=>False)
  | _=>False
 | .mapUpdate t m y x=>match P.underlying t with
  | some (.map kt _)=>(match P.underlying kt with
   | some .string=>mup (ρ m) (ρ y) (ρ x) L (K (.tup []))
   | _=>False)
  | _=>False
 | .range t x=>match P.underlying t with
  | some .string=>rngS (ρ x) L K
  | _=>False
 | .next it true=>nxt (ρ it) L K
 | .call c=>match c.callee with
  | .builtin .len=>(match c.args.toList,(c.argTypes[0]?).bind P.underlying with
   | [x],some (.slice _)=>len (ρ x) k
   | [x],some .string=>lenS (ρ x) k
   | [x],some (.array n _)=>(match ρ x with | .str _=>False | _=>K (.int .i64 n) L)
   | _,_=>False)
  | .builtin .append=>(match c.args.toList,c.argTypes.toList with
   | [s,x],[t,tx]=>(match P.underlying t,P.underlying tx with
    | some (.slice e),some (.slice _)=>(match au P e,dA P e,W0.zof P e with
     | some n,some by_,some z=>if z.length=n∧0<n then append n by_ (ρ s) (ρ x) L K else False
     | _,_,_=>False)
    | _,_=>False)
   | _,_=>False)
  | .builtin .min=>(match c.args.toList with
   | [x,y]=>mnx false (ρ x) (ρ y) k
   | _=>False)
  | .builtin .max=>(match c.args.toList with
   | [x,y]=>mnx true (ρ x) (ρ y) k
   | _=>False)
  | .builtin .clear=>(match c.args.toList,c.argTypes.toList with
   | [x],[t]=>(match P.underlying t with
    | some (.slice e)=>(match au P e,W0.zof P e with
     | some n,some z=>if(z.length=n∧0<n)∧z.all AV.one=true then clear n z (ρ x) L (K (.tup []))else False
     | _,_=>False)
    | _=>False)
   | _,_=>False)
  | .value f=>call P (ρ f) (c.args.toList.map ρ) L K
  | _=>False
 | _=>False
end
theorem op_raw{P:Program}{F:TypeId→Option (List TypeId)}{o:Op}{ρ:Operand→AV}{L:SH}{K:AV→SH→Prop}(h:op P F o ρ L K):W0.op P F o ρ L K:=by
 cases o with
 | makeFunc fn first cap=>
  cases fn with
  | func f=>
   simp only[op]at h
   simp only[W0.op]
   split at h
   ·rename_i hc;rw[if_pos hc];exact h
   ·exact h.elim
  | _=>exact h
 | move x=>exact h
 | assign x=>exact h
 | pick c x y=>exact h.h
 | box t x=>exact h.h
 | nilCheck x=>exact h.h
 | binOp op t x y c=>exact h.h
 | unOp op t x=>exact h.h
 | extract x i=>exact h.h
 | makeMap t r=>
  cases r with
  | none=>exact h.h
  | some r=>exact h.elim
 | next it s=>
  cases s with
  | true=>exact h.h
  | false=>exact h.elim
 | lookup t m y ok | mapUpdate t m y x | range t x | alloc t | build t ps | buildSlice t l ps | load t a | store t a x | convert s d x | makeSlice t l c | slice t x lo hi mx | fieldAddr s x f | field s x f | indexAddr t x ix | index t x ix | call c=>
  simp only[op]at h
  simp only[W0.op]
  repeat' split at h
  all_goals first
   | exact h.elim
   | (have h:=h.h;split at h<;>first | exact h.elim | (simp only[*];exact h))
   | (simp only[*,if_true,and_self];first | exact h.h | exact h)
   | (simp_all;done)
   | (simp_all;first | exact h.h | exact h)
 | _=>exact h.elim
structure grd(x:AV)(want:Bool)(A:(AV→SH→Prop)→Prop)(L:SH)(K:AV→SH→Prop):Prop where
 h:(x=.bool want∧A K)∨((x=.bool (!want)∨x=aA)∧K aA L)
section
variable (P:Program) (F:TypeId→Option (List TypeId)) (ops:Array Oper)
def sq:List Nat→List AV→SH→(List AV→SH→Prop)→Prop
 | [],τ,L,K=>K τ L
 | i::l,τ,L,K=>match ops[i]? with
  | none=>False
  | some o=>match o.guard with
   | none=>op P F o.op (dU τ) L fun v L=>sq l (cp τ o.dst v) L K
   | some (j,want)=>match (ops[j]?).bind (·.dst)with
    | some d=>grd (τ.getD d .junk) want (op P F o.op (dU τ) L) L fun v L=>sq l (cp τ o.dst v) L K
    | none=>False
structure WR where
 op:Nat
 reads:List Nat
 writes:List Nat
 made:List Nat
 isCall:Bool
 old:List Nat
def free(x y:WR):Prop:=(∀c∈x.writes,c∉y.reads∧c∉y.writes)∧(∀c∈x.reads,c∉y.writes)∧(∀c∈x.made,c∉y.reads∧c∉y.writes)∧
 (x.isCall=true→y.isCall=false∧y.writes=[]∧∀c∈y.reads,c∈x.old)∧(y.isCall=true→x.writes=[])
def isMem:Op→Bool
 | .load .. | .store .. | .indexAddr .. | .slice .. | .alloc .. | .box .. | .buildSlice .. | .makeSlice .. | .makeMap .. | .range .. | .lookup .. | .mapUpdate .. | .next ..=>true
 | .call c=>match c.callee with
  | .builtin .append=>true
  | .builtin .clear=>true
  | _=>false
 | _=>false
structure calm(us:List WR)(y:WR)(A:Prop):Prop where
 h:(∀x∈us,free x y)∧A
structure dcall(us:List WR)(i:Nat)(fv:AV)(args:List AV)(L:SH)(K:AV→SH→List Nat→Prop):Prop where
 h:match fv with
  | .fn g cs=>∃Kc R:SH,L.Perm (Kc++R)∧(∀x∈us,free x ⟨i,[],Kc.names,[],true,[]⟩)∧al P g (args++cs) Kc fun v K'=>K v (K'++R) Kc.names
  | _=>False
structure Fp where
 reads:List Nat
 writes:List Nat
 made:List Nat
 old:List Nat
def isCallV:Op→Bool
 | .call c=>match c.callee with
  | .value _=>true
  | _=>false
 | _=>false
structure note(r0:Fp)(K:Fp→Prop):Prop where
 h:∀r,r=r0→K r
def dop(us:List WR)(i:Nat)(o:Op)(ρ:Operand→AV)(L:SH)(K:AV→SH→Fp→Prop):Prop:=
 match o with
 | .call c=>match c.callee with
  | .value f=>dcall P us i (ρ f) (c.args.toList.map ρ) L fun v L' ks=>note ⟨[],ks,[],L.names⟩ fun r=>K v L' r
  | .builtin .append=>(match c.args.toList with
   | [s,x]=>calm us ⟨i,ac (ρ s)++ac (ρ x),ac (ρ s),[],false,[]⟩ (op P F o ρ L fun v L'=>note ⟨ac (ρ s)++ac (ρ x),ac (ρ s),ac v,[]⟩ fun r=>K v L' r)
   | _=>False)
  | .builtin .clear=>(match c.args.toList with
   | [x]=>calm us ⟨i,ac (ρ x),ac (ρ x),[],false,[]⟩ (op P F o ρ L fun v L'=>note ⟨ac (ρ x),ac (ρ x),[],[]⟩ fun r=>K v L' r)
   | _=>False)
  | _=>op P F o ρ L fun v L'=>K v L' ⟨[],[],[],[]⟩
 | o=>if isMem o then calm us ⟨i,ak o ρ,ai o ρ,[],false,[]⟩ (op P F o ρ L fun v L'=>note ⟨ak o ρ,ai o ρ,if W0.makes o then ac v else [],[]⟩ fun r=>K v L' r)
  else op P F o ρ L fun v L'=>K v L' ⟨[],[],[],[]⟩
def push(i:Nat)(o:Op)(r:Fp)(rs:List WR):List WR:=if isCallV o||isMem o then⟨i,r.reads,r.writes,r.made,isCallV o,r.old⟩::rs else rs
structure dgrd(x:AV)(want:Bool)(A:(AV→SH→Fp→Prop)→Prop)(L:SH)(K:AV→SH→Fp→Prop):Prop where
 h:(x=.bool want∧A K)∨((x=.bool (!want)∨x=aA)∧K aA L ⟨[],[],[],L.names⟩)
def dr(before:List Nat):List Nat→List AV→SH→List WR→(List AV→SH→Prop)→Prop
 | [],τ,L,_,K=>K τ L
 | i::l,τ,L,rs,K=>match ops[i]? with
  | none=>False
  | some o=>match o.guard with
   | none=>dop P F (rs.filter fun x=>!(before.getD i 0).testBit x.op) i o.op (dU τ) L fun v L r=>dr before l (cp τ o.dst v) L (push i o.op r rs) K
   | some (j,want)=>match (ops[j]?).bind (·.dst)with
    | some d=>dgrd (τ.getD d .junk) want (dop P F (rs.filter fun x=>!(before.getD i 0).testBit x.op) i o.op (dU τ) L) L fun v L r=>dr before l (cp τ o.dst v) L (push i o.op r rs) K
    | none=>False
end
end W
section
variable {P:Program} {F:TypeId→Option (List TypeId)} {ops:Array Oper} {base:Nat}
open Classical in
noncomputable def ss (g:FuncId) (as_:List AV) (Hi:aa) (v:AV) (Ho:aa) (call:FuncId→List AV→aa→Option (AV×aa)):FuncId→List AV→aa→Option (AV×aa):=
 fun f args H=>if f=g∧args=as_∧H=Hi then some (v,Ho)else call f args H
def qk(call:FuncId→List AV→aa→Option (AV×aa)):Prop:=∀f args H v H',Bd H→call f args H=some (v,H')→kU H H'
theorem nO{g:FuncId}{as_:List AV}{Hi Ho:aa}{v:AV}{call:FuncId→List AV→aa→Option (AV×aa)}(hs:bY P call)(hc:gy P g as_ Hi v Ho)(hn:Hi.next≤Ho.next)(hb:∃fn c,P.funcs[g]? =some fn∧fn.body=some c):bY P (ss g as_ Hi v Ho call):=by
 refine⟨fun f args H u H' h=>?_,fun f args H u H' h=>?_,fun f args H u H' h=>?_⟩ <;>
 ·unfold ss at h
  split at h
  ·rename_i hk;obtain⟨rfl,rfl,rfl⟩:=hk;cases h;assumption
  ·first | exact hs.ok _ _ _ _ _ h | exact hs.next _ _ _ _ _ h | exact hs.body _ _ _ _ _ h
theorem qQ{g:FuncId}{as_:List AV}{Hi Ho:aa}{v:AV}{call:FuncId→List AV→aa→Option (AV×aa)}(hs:qk call)(hc:Bd Hi→kU Hi Ho):qk (ss g as_ Hi v Ho call):=fun f args H u H' hb h=>by
 unfold ss at h
 split at h
 ·rename_i hk;obtain⟨rfl,rfl,rfl⟩:=hk;cases h;exact hc hb
 ·exact hs _ _ _ _ _ hb h
theorem qR{g:FuncId}{as_:List AV}{Hi Ho:aa}{v:AV}{call:FuncId→List AV→aa→Option (AV×aa)}:ss g as_ Hi v Ho call g as_ Hi=some (v,Ho):=by unfold ss;rw[if_pos ⟨rfl,rfl,rfl⟩]
theorem nP{g:FuncId}{as_:List AV}{Hi Ho:aa}{v:AV}{call:FuncId→List AV→aa→Option (AV×aa)}{f:FuncId}{args:List AV}{H:aa}(h:Hi.next<H.next):ss g as_ Hi v Ho call f args H=call f args H:=by
 unfold ss
 rw[if_neg]
 rintro⟨_,_,rfl⟩
 omega
theorem ph{call1 call2:FuncId→List AV→aa→Option (AV×aa)}{i:Nat}{τ:List AV}{H:aa}(h:∀f args,call1 f args H=call2 f args H):d8 P F call1 ops base i τ H=d8 P F call2 ops base i τ H:=by
 unfold d8
 split
 ·rfl
 ·split
  ·split
   ·rfl
   ·rw[h]
   ·rfl
  ·rfl
  ·rfl
theorem l5{call1 call2:FuncId→List AV→aa→Option (AV×aa)}{n:Nat}(hag:∀f args H,n<H.next→call1 f args H=call2 f args H)(hs:bY P call1):∀(l:List Nat) (τ:List AV) (H:aa) (r:List AV×aa),n<H.next→fW P F call1 ops base l τ H=some r→fW P F call2 ops base l τ H=some r
 | [],τ,H,r,_,h=>h
 | i::l,τ,H,r,hn,h=>by
  unfold fW at h ⊢
  rw[←ph (call1:=call1) (fun f args=>hag f args H hn)]
  split at h
  ·rename_i τ1 H1 hst
   exact l5 hag hs l τ1 H1 r (Nat.lt_of_lt_of_le hn (fj hs hst)) h
  ·cases h
theorem gy.bump{f:FuncId}{args:List AV}{H H1:aa}{v:AV}(h:gy P f args H v H1)(l:List Nat):gy P f args H v {H1 with next:=H1.next+1,log:=l}:=by
 intro w σ vs hW hvs
 refine(h w σ vs hW hvs).mono ?_
 rintro e w' ⟨v',σ',rfl,k1,k2,k3,k4⟩
 have ho:aq σ' ({H1 with next:=H1.next+1,log:=l}:aa)=aq σ' H1:=aq.congr fun _=>rfl
 exact⟨v',σ',rfl,by rw[ho];exact k1,k2.congr (fun _=>rfl) (Nat.le_succ _),by rw[ho];exact k3,k4⟩
theorem Fr.chg{L L':SH}{H H':aa}(h:Fr H.next L H L' H')(l:List Nat)(hl:∀b,b∈H.log→b∈l)(hL:∀b,b∈L.names→b∈l)(n:Nat)(hn:H'.next≤n):kU H {H' with next:=n,log:=l} where
 next:=Nat.le_trans h.next hn
 dom:=fun b hb h0=>h.dom b hb h0
 keep:=fun b hb hnl=>by
  show H'.get b=H.get b
  cases hg:H.get b with
  | none=>exact h.dom b hb hg
  | some x=>exact(h.keep b x hg (fun hm=>hnl (hL b hm))).1
 log:=hl
 bd:=fun _ b hb=>h.bd b (Nat.le_trans hn hb)
theorem Bd.bump{H:aa}(h:Bd H)(l:List Nat)(n:Nat)(hn:H.next≤n):Bd {H with next:=n,log:=l}:=fun b hb=>h b (Nat.le_trans hn hb)
theorem fX.fr{b:Nat}{L L':SH}{H H':aa}(h:fX b L H L' H')(hb:base≤b):Fr base L H L' H':=
 ⟨Nat.le_of_eq h.next.symm,h.bd,h.sub,h.keep,fun c hc=>h.dom c (by omega),fun c hc hlt=>by
  rcases h.fresh c hc with rfl | h1
  ·omega
  ·exact h1⟩
theorem l6{o:Oper}{τ:List AV}{j d:Nat}{want:Bool}(hg:o.guard=some (j,want))(hd:(ops[j]?).bind (·.dst)=some d)(h:τ.getD d .junk=.bool want):bl ops o τ=some true:=by
 have:τ[d]? =some (.bool want):=by
  cases hx:τ[d]? with
  | none=>rw[List.getD,hx]at h;cases h
  | some x=>rw[List.getD,hx]at h;exact congrArg some h
 simp[bl,hg,hd,this]
theorem nQ{o:Oper}{τ:List AV}{j d:Nat}{want:Bool}(hg:o.guard=some (j,want))(hd:(ops[j]?).bind (·.dst)=some d)(h:τ.getD d .junk=.bool (!want)∨τ.getD d .junk=aA):bl ops o τ=some false:=by
 rcases h with h | h
 ·have:τ[d]? =some (.bool (!want)):=by
   cases hx:τ[d]? with
   | none=>rw[List.getD,hx]at h;cases h
   | some x=>rw[List.getD,hx]at h;exact congrArg some h
  simp[bl,hg,hd,this]
 ·have:τ[d]? =some (.tup []):=by
   cases hx:τ[d]? with
   | none=>rw[List.getD,hx]at h;cases h
   | some x=>rw[List.getD,hx]at h;exact congrArg some h
  simp[bl,hg,hd,this]
theorem kW{o:Oper}{τ:List AV}(hg:o.guard=none):bl ops o τ=some true:=by simp[bl,hg]
theorem jN:∀(l:List Nat) (τ:List AV) (L:SH) (K:List AV→SH→Prop),W.sq P F ops l τ L K→l.Nodup→∀H,Bd H→el L H→(∀i∈l,base+i<H.next∧H.get (base+i)=none)→base≤H.next→
  ∃call τ' H' L',bY P call∧qk call∧fW P F call ops base l τ H=some (τ',H')∧Fr base L H L' H'∧K τ' L'
 | [],τ,L,K,h,_,H,hb,hs,_,_=>⟨qj,τ,H,L,jI P,fun _ _ _ _ _ _ h=>(by cases h),rfl,.refl hb hs,h⟩
 | i::l,τ,L,K,h,hnd,H,hb,hs,hfr,hbase=>by
  have hnd':=List.nodup_cons.1 hnd
  have h0:=hfr i (by simp)
  unfold W.sq at h
  split at h
  ·exact h.elim
  ·rename_i o ho

   have go:∀(Kc:AV→SH→Prop),bl ops o τ=some true→W.op P F o.op (dU τ) L Kc→(∀v L1,Kc v L1→W.sq P F ops l (cp τ o.dst v) L1 K)→
     ∃call τ' H' L',bY P call∧qk call∧fW P F call ops base (i::l) τ H=some (τ',H')∧Fr base L H L' H'∧K τ' L':=by
    intro Kc hw hop hk
    rcases og (b:=base+i) hb hs h0.1 h0.2 (W.op_raw hop)with⟨v,H1,L1,g1,g2,_,g3⟩ | ⟨g,args,g1,g2⟩
    ·obtain⟨call,τ',H',L',k1,k2,k3,k4,k5⟩:=jN l (cp τ o.dst v) L1 K (hk v L1 g3) hnd'.2 H1 g2.bd g2.sub (fun j hj=>by
      have hj0:=hfr j (by simp[hj])
      refine⟨by rw[g2.next];exact hj0.1,g2.dom _ (fun e=>?_) hj0.2⟩
      have:j=i:=by omega
      exact hnd'.1 (this▸hj)) (by rw[g2.next];exact hbase)
     refine⟨call,τ',H',L',k1,k2,?_,(g2.fr (Nat.le_add_right _ _)).trans k4 (Nat.le_refl _),k5⟩
     unfold fW d8
     simp only[ho,hw,g1]
     exact k3
    ·obtain⟨bd,g3⟩:=g2
     obtain⟨v,H1,L1,c1,c2,c3⟩:=g3 H hb hs
     have hH1:el L1 ({H1 with next:=H1.next+1,log:=L.names++H.log}:aa):=c2.sub.congr fun _=>rfl
     obtain⟨call,τ',H',L',k1,k2,k3,k4,k5⟩:=jN l (cp τ o.dst v) L1 K (hk v L1 c3) hnd'.2 {H1 with next:=H1.next+1,log:=L.names++H.log} (c2.bd.bump _ _ (Nat.le_succ _)) hH1 (fun j hj=>by
      have hj0:=hfr j (by simp[hj])
      have:=c2.next
      exact⟨by show base+j<H1.next+1;omega,c2.dom _ hj0.1 hj0.2⟩) (by have:=c2.next;show base≤H1.next+1;omega)
     refine⟨ss g args H v _ call,τ',H',L',nO k1 (c1.bump _) (by have:=c2.next;show H.next≤H1.next+1;omega) bd,qQ k2 fun _=>c2.chg _ (fun b hb=>List.mem_append_right _ hb) (fun b hb=>List.mem_append_left _ hb) _ (Nat.le_succ _),?_,?_,k5⟩
     ·unfold fW d8
      simp only[ho,hw,g1,qR]
      refine l5 (n:=H.next) (fun f args K hK=>?_) k1 l _ _ _ (by have:=c2.next;show H.next<H1.next+1;omega) k3
      exact(nP hK).symm
     ·refine Fr.trans (H':={H1 with next:=H1.next+1,log:=L.names++H.log}) ⟨by have:=c2.next;show H.next≤H1.next+1;omega,c2.bd.bump _ _ (Nat.le_succ _),hH1,c2.keep,fun b hb'=>c2.dom b (by omega),fun b h1 h2=>c2.fresh b h1 (by omega)⟩ k4 (Nat.le_refl _)
   split at h
   ·rename_i hg
    exact go _ (kW hg) h fun v L1 h=>h
   ·rename_i j want hg
    split at h
    ·rename_i d hd
     rcases h.h with⟨h1,h2⟩ | ⟨h1,h2⟩
     ·exact go _ (l6 hg hd h1) h2 fun v L1 h=>h
     ·obtain⟨call,τ',H',L',k1,k2,k3,k4,k5⟩:=jN l (cp τ o.dst aA) L K h2 hnd'.2 H hb hs (fun j hj=>hfr j (by simp[hj])) hbase
      refine⟨call,τ',H',L',k1,k2,?_,k4,k5⟩
      unfold fW d8
      simp only[ho,nQ hg hd h1]
      exact k3
    ·exact h.elim
end
end Go.Proofs.YtelgfgfgghpjgaaGreatDoor.Am
end
section
namespace Go.Proofs.YtelgfgfgghpjgaaGreatDoor.Am
open Go.RowKit
set_option linter.unusedVariables false
section
variable {P:Program} {F:TypeId→Option (List TypeId)} {ops:Array Oper} {base:Nat} {ρ:Operand→AV} {L:SH}
theorem pi{o:Op}{b:Nat}{g:FuncId}{args:List AV}{H:aa}(h:ao P F o ρ b H=some (.call g args)):∃c f,o=.call c∧c.callee=.value f:=by
 cases o with
 | call c=>
  simp only[ao]at h
  split at h
  ·rename_i bi _
   cases hbi:av P H b bi c.argTypes (c.args.toList.map ρ)with
   | none=>rw[hbi]at h;cases h
   | some r=>rw[hbi]at h;cases h
  ·rename_i f hf;exact⟨c,f,rfl,hf⟩
  ·cases h
 | makeFunc fn first cap=>cases fn<;>simp only[ao]at h<;>(try split at h)<;>simp at h
 | makeMap t r=>cases r<;>simp[ao]at h
 | next it s=>cases s<;>simp[ao]at h
 | _=>
  exfalso
  simp only[ao]at h
  repeat' (first | (cases h;done) | (simp at h;done) | split at h)
theorem oh{o:Op}(h:W.isMem o=false):ak o ρ=[]∧ai o ρ=[]:=by
  cases o with
  | call c=>
    simp only[W.isMem]at h
    simp only[ak,ai]
    split at h
    · cases h
    · cases h
    · rename_i hn hn2
      constructor <;> · split
                        · rename_i he;exact absurd he hn
                        · rename_i he;exact absurd he hn2
                        · rfl
  | _=>first | (cases h;done) | exact⟨rfl,rfl⟩
theorem kX{n:Nat}{s:AV}{rows:List (List AV)}(h:W0.rowsR L n s rows):∀c∈ac s,c∈L.names:=by
 intro c hc
 unfold W0.rowsR at h
 split at h
 ·simp[ac]at hc
 ·simp[ac]at hc
 ·simp[ac]at hc
 ·obtain⟨x,h1,_⟩:=h
  simp only[ac,List.mem_singleton]at hc
  subst hc
  exact List.mem_map_of_mem (f:=Prod.fst) h1
 ·exact h.elim
theorem pj{o:Op}{K:AV→SH→Prop}(h:W0.op P F o ρ L K):∀c∈ak o ρ,c∈L.names:=by
 intro c hc
 cases o with
 | load t a=>
  simp only[W0.op]at h
  split at h
  ·simp only[ak]at hc
   unfold W0.loadR at h
   split at h
   ·rename_i ha
    obtain⟨x,r,v,g1,_⟩:=h
    rw[ha]at hc
    simp only[ac,List.mem_singleton]at hc
    subst hc
    exact List.mem_map_of_mem (f:=Prod.fst) g1
   ·rename_i ha;rw[ha]at hc;simp[ac]at hc
   ·exact h.elim
  ·exact h.elim
 | store t a x=>
  simp only[W0.op]at h
  split at h
  ·simp only[ak]at hc
   unfold W0.storeR at h
   split at h
   ·rename_i ha
    obtain⟨x,r,cs,L',_,_,_,_,_,g1,_⟩:=h
    rw[ha]at hc
    simp only[ac,List.mem_singleton]at hc
    subst hc
    exact List.mem_map_of_mem (f:=Prod.fst) g1.mem
   ·exact h.elim
  ·exact h.elim
 | indexAddr t x ix=>
  simp only[W0.op]at h
  simp only[ak]at hc
  split at h
  ·split at h
   ·unfold W0.idxR at h
    split at h
    ·rename_i hx
     obtain⟨k,i,y,_,_,_,g1,_⟩:=h
     rw[hx]at hc
     simp only[dV,List.mem_singleton]at hc
     subst hc
     exact List.mem_map_of_mem (f:=Prod.fst) g1
    ·rename_i hx;rw[hx]at hc;simp[dV]at hc
    ·exact h.elim
   ·exact h.elim
  ·split at h
   ·obtain⟨k,i,_,_,_,g⟩:=h
    split at g
    ·rename_i hx;rw[hx]at hc;simp[dV]at hc
    ·rename_i hx;rw[hx]at hc;simp[dV]at hc
    ·exact g.elim
   ·exact h.elim
  ·exact h.elim
 | slice t x lo hi mx=>
  simp only[W0.op]at h
  simp only[ak]at hc
  split at h
  ·exact h.elim
  ·split at h
   ·split at h
    ·obtain⟨len,l,hh,m,_,_,_,_,_,_,_,g⟩:=h
     split at g
     ·rename_i hx;rw[hx]at hc;simp[dV]at hc
     ·rename_i hx
      obtain⟨⟨y,g1,_⟩,_⟩:=g
      rw[hx]at hc
      simp only[dV,List.mem_singleton]at hc
      subst hc
      exact List.mem_map_of_mem (f:=Prod.fst) g1
     ·rename_i hx;rw[hx]at hc;simp[dV]at hc
     ·exact g.elim
    ·exact h.elim
   ·split at h
    ·obtain⟨s,l,hh,hx,_⟩:=h
     rw[hx]at hc;simp[dV]at hc
    ·exact h.elim
   ·exact h.elim
 | call k=>
  simp only[ak]at hc
  split at hc
  ·rename_i hcal
   simp only[W0.op,hcal]at h
   split at h
   ·rename_i s x t tx ha ht
    split at h
    ·split at h
     ·split at h
      ·obtain⟨l,m,g1,g2,_⟩:=h
       simp only[ha,List.flatMap_cons,List.flatMap_nil,List.append_nil,List.mem_append]at hc
       rcases hc with hc | hc
       ·exact kX g1 c hc
       ·exact kX g2 c hc
      ·exact h.elim
     ·exact h.elim
    ·exact h.elim
   ·exact h.elim
  ·rename_i hcal
   simp only[W0.op,hcal]at h
   split at h
   ·rename_i x t ha ht
    split at h
    ·split at h
     ·split at h
      ·simp only[ha,List.flatMap_cons,List.flatMap_nil,List.append_nil]at hc
       unfold W0.clearR at h
       split at h
       ·rename_i hx;rw[hx]at hc;simp[ac]at hc
       ·rename_i hx
        obtain⟨y,L',_,_,g1,_⟩:=h
        rw[hx]at hc
        simp only[ac,List.mem_singleton]at hc
        subst hc
        exact List.mem_map_of_mem (f:=Prod.fst) g1.mem
       ·exact h.elim
      ·exact h.elim
     ·exact h.elim
    ·exact h.elim
   ·exact h.elim
  ·simp at hc
 | lookup t m k ok=>
  simp only[W0.op]at h
  simp only[ak]at hc
  split at h
  ·split at h
   ·unfold W0.lookR at h
    split at h
    ·rename_i hm hk
     obtain⟨x,g1,_⟩:=h
     rw[hm]at hc
     simp only[ac,List.mem_singleton]at hc
     subst hc
     exact List.mem_map_of_mem (f:=Prod.fst) g1
    ·exact h.elim
   ·exact h.elim
  ·exact h.elim
 | mapUpdate t m k x=>
  simp only[W0.op]at h
  simp only[ak]at hc
  split at h
  ·split at h
   ·unfold W0.mupR at h
    split at h
    ·rename_i hm hk
     obtain⟨y,L',_,_,g1,_⟩:=h
     rw[hm]at hc
     simp only[ac,List.mem_singleton]at hc
     subst hc
     exact List.mem_map_of_mem (f:=Prod.fst) g1.mem
    ·exact h.elim
   ·exact h.elim
  ·exact h.elim
 | next it s=>
  cases s with
  | false=>exact h.elim
  | true=>
   simp only[W0.op]at h
   simp only[ak]at hc
   unfold W0.nextR at h
   split at h
   ·rename_i hi
    obtain⟨x,s,k,pos,g1,_⟩:=h
    rw[hi]at hc
    simp only[ac,List.mem_singleton]at hc
    subst hc
    exact List.mem_map_of_mem (f:=Prod.fst) g1
   ·exact h.elim
 | _=>simp[ak]at hc
theorem tQ{o:Op}{K K2:AV→SH→Prop}(hK:∀v,K v L→K2 v L)(hm:W.isMem o=false)(hv:∀c f,o=.call c→c.callee≠.value f)(h:W0.op P F o ρ L K):W0.op P F o ρ L K2:=by
 cases o with
 | call c=>
  simp only[W0.op]at h ⊢
  split at h
  ·split at h
   ·obtain⟨n,g1,g2⟩:=h;exact⟨n,g1,hK _ g2⟩
   ·obtain⟨n,g1,g2⟩:=h;exact⟨n,g1,hK _ g2⟩
   ·split at h
    ·exact h
    ·exact hK _ h
   ·exact h
  ·rename_i hc;simp[W.isMem,hc]at hm
  ·split at h
   ·obtain⟨k,a,c,g1,g2,g3⟩:=h;exact⟨k,a,c,g1,g2,hK _ g3⟩
   ·exact h
  ·split at h
   ·obtain⟨k,a,c,g1,g2,g3⟩:=h;exact⟨k,a,c,g1,g2,hK _ g3⟩
   ·exact h
  ·rename_i hc;simp[W.isMem,hc]at hm
  ·rename_i f hc;exact absurd hc (hv c f rfl)
  ·exact h
 | move x=>exact hK _ h
 | assign x=>exact hK _ h
 | pick c x y=>obtain⟨t,g1,g2⟩:=h;exact⟨t,g1,hK _ g2⟩
 | build t parts=>
  simp only[W0.op]at h ⊢
  split at h
  ·split at h
   ·rename_i hall
    rw[if_pos hall]
    split at h
    ·obtain⟨cs,g1,g2⟩:=h;exact⟨cs,g1,hK _ g2⟩
    ·exact h
   ·exact h.elim
  ·split at h
   ·obtain⟨cs,g1,g2⟩:=h;exact⟨cs,g1,hK _ g2⟩
   ·exact h
  ·exact h
 | nilCheck x=>
  simp only[W0.op,W0.nilchk]at h ⊢
  split at h<;>first | exact hK _ h | exact h
 | binOp op t x y c=>obtain⟨v,g1,g2⟩:=h;exact⟨v,g1,hK _ g2⟩
 | unOp op t x=>obtain⟨v,g1,g2⟩:=h;exact⟨v,g1,hK _ g2⟩
 | convert s d x=>
  simp only[W0.op]at h ⊢
  split at h
  ·obtain⟨k,n,g1,g2⟩:=h;exact⟨k,n,g1,hK _ g2⟩
  ·obtain⟨s,g1,g2⟩:=h;exact⟨s,g1,hK _ g2⟩
  ·exact h
 | makeFunc fn first cap=>
  cases fn with
  | func f=>
   simp only[W0.op]at h ⊢
   split at h
   ·rename_i h0;rw[if_pos h0];exact hK _ h
   ·exact h.elim
  | _=>exact h
 | fieldAddr s x f=>
  simp only[W0.op]at h ⊢
  split at h
  ·split at h
   ·split at h
    ·split at h
     ·exact h.elim
     ·rename_i h0
      rw[if_neg h0]
      unfold W0.faddr at h ⊢
      split at h<;>first | exact hK _ h | exact h
    ·exact h
   ·exact h
  ·exact h
 | field s x f=>
  simp only[W0.op]at h ⊢
  split at h
  ·split at h
   ·split at h
    ·obtain⟨cs,v,g1,g2,g3⟩:=h;exact⟨cs,v,g1,g2,hK _ g3⟩
    ·exact h
   ·exact h
  ·exact h
 | index t x ix=>
  simp only[W0.op]at h ⊢
  split at h
  ·obtain⟨s,k,i,y,g1,g2,g3,g4,g5⟩:=h;exact⟨s,k,i,y,g1,g2,g3,g4,hK _ g5⟩
  ·split at h
   ·obtain⟨cs,k,i,v,g1,g2,g3,g4,g5,g6⟩:=h;exact⟨cs,k,i,v,g1,g2,g3,g4,g5,hK _ g6⟩
   ·exact h
  ·exact h
 | extract x i=>obtain⟨vs,v,g1,g2,g3⟩:=h;exact⟨vs,v,g1,g2,hK _ g3⟩
 | _=>first | (cases hm;done) | exact h
theorem gD{x y:iL}(hw:∀c∈x.writes,c∉y.reads∧c∉y.writes)(hr:∀c∈x.reads,c∉y.writes)(hm:∀c∈x.made,c∉y.reads∧c∉y.writes)
  (hc:x.isCall=true→y.isCall=false∧y.writes=[]∧∀c∈y.reads,c<x.lo) (hy:y.isCall=true→x.writes=[]):fO x y=false:=by
 have ap:∀l m:List Nat,(∀c∈l,c∉m)→apart l m=true:=fun l m h=>by simpa[apart]using h
 unfold fO
 rw[ap _ _ fun c h=>(hw c h).1,ap _ _ fun c h=>(hw c h).2,ap _ _ hr,ap _ _ fun c h=>(hm c h).1,ap _ _ fun c h=>(hm c h).2]
 cases hx:x.isCall with
 | true=>
  obtain⟨h1,h2,h3⟩:=hc hx
  simp only[h1,h2,List.isEmpty_nil,Bool.not_true,Bool.false_or,Bool.and_true,Bool.true_and,Bool.false_and,Bool.or_false]
  rw[List.any_eq_false]
  intro c hcm
  have:=h3 c hcm
  simp;omega
 | false=>
  cases hyc:y.isCall with
  | true=>simp[hy hyc]
  | false=>simp
theorem rE{us:List W.WR}{i:Nat}{o:Op}{K:AV→SH→W.Fp→Prop}(h:W.dop P F us i o ρ L K):
  (∃c f g cs,o=.call c∧c.callee=.value f∧ρ f=.fn g cs∧∃Kc R:SH,L.Perm (Kc++R)∧(∀x∈us,W.free x ⟨i,[],Kc.names,[],true,[]⟩)∧al P g (c.args.toList.map ρ++cs) Kc fun v K'=>W.note ⟨[],Kc.names,[],L.names⟩ fun r=>K v (K'++R) r) ∨
  (W.isMem o=true∧W.isCallV o=false∧(∀x∈us,W.free x ⟨i,ak o ρ,ai o ρ,[],false,[]⟩)∧W0.op P F o ρ L fun v L'=>W.note ⟨ak o ρ,ai o ρ,if W0.makes o then ac v else [],[]⟩ fun r=>K v L' r) ∨
  (W.isMem o=false∧W.isCallV o=false∧(∀c f,o=.call c→c.callee≠.value f)∧W0.op P F o ρ L fun v L'=>K v L' ⟨[],[],[],[]⟩):=by
 cases o with
 | call c=>
  simp only[W.dop]at h
  split at h
  ·rename_i f hf
   have h:=h.h
   split at h
   ·rename_i g cs hg;exact .inl ⟨c,f,g,cs,rfl,hf,hg,h⟩
   ·exact h.elim
  ·rename_i hc
   split at h
   ·rename_i s x ha
    have h1:ak (.call c) ρ=ac (ρ s)++ac (ρ x):=by simp[ak,hc,ha]
    have h2:ai (.call c) ρ=ac (ρ s):=by simp[ai,hc,ha]
    refine .inr (.inl ⟨by simp[W.isMem,hc],by simp[W.isCallV,hc],?_⟩)
    rw[h1,h2,show W0.makes (.call c)=true by simp[W0.makes,hc]]
    exact⟨h.h.1,W.op_raw h.h.2⟩
   ·exact h.elim
  ·rename_i hc
   split at h
   ·rename_i x ha
    have h1:ak (.call c) ρ=ac (ρ x):=by simp[ak,hc,ha]
    have h2:ai (.call c) ρ=ac (ρ x):=by simp[ai,hc,ha]
    refine .inr (.inl ⟨by simp[W.isMem,hc],by simp[W.isCallV,hc],?_⟩)
    rw[h1,h2,show W0.makes (.call c)=false by simp[W0.makes,hc]]
    exact⟨h.h.1,W.op_raw h.h.2⟩
   ·exact h.elim
  ·rename_i h1 h2 h3
   refine .inr (.inr ⟨?_,?_,fun c' f hc'=>?_,W.op_raw h⟩)
   ·simp only[W.isMem]
   ·simp only[W.isCallV]
   ·cases hc';exact h1 f
 | _=>first | exact .inr (.inl ⟨rfl,rfl,h.h.1,W.op_raw h.h.2⟩) | exact .inr (.inr ⟨rfl,rfl,fun c f hc=>(by cases hc),W.op_raw h⟩)
def rF(base k:Nat)(ws:List W.WR)(r:iL):Prop:=r.op<k∧
  ((r.isCall=false∧r.reads=[]∧r.writes=[]∧r.made=[base+r.op]) ∨
   ∃x∈ws,x.op=r.op∧r.reads=x.reads∧(∀c∈r.writes,c∈x.writes)∧r.isCall=x.isCall∧(r.isCall=true→r.made=[]∧∀c∈x.old,c<r.lo)∧(r.isCall=false→r.made=[base+r.op]))
theorem rF.more{k k':Nat}{ws ws':List W.WR}{r:iL}(h:rF base k ws r)(hk:k≤k')(hw:∀x∈ws,x∈ws'):rF base k' ws' r:=by
 refine⟨Nat.lt_of_lt_of_le h.1 hk,?_⟩
 rcases h.2 with h1 | ⟨x,h1,h2⟩
 ·exact .inl h1
 ·exact .inr ⟨x,hw x h1,h2⟩
def vZ(base k:Nat)(L:SH)(ws:List W.WR):Prop:=∀j,j<k→base+j∈L.names→∃x∈ws,x.op=j∧base+j∈x.made
theorem l7{k:Nat}{ws:List W.WR}{mask:Nat}{r y:iL}{wy:W.WR}(hr:rF base k ws r)(hma:vZ base k L ws)(hun:mask.testBit r.op=false)
  (hf:∀x∈ws.filter (fun x=>!mask.testBit x.op),W.free x wy) (h1:∀c∈y.reads,c∈wy.reads) (h2:∀c∈y.writes,c∈wy.writes) (h3:y.isCall=wy.isCall) (h4:wy.writes=[]→y.writes=[])
  (hL1:∀c∈wy.reads,c∈L.names) (hL2:∀c∈wy.writes,c∈L.names):fO r y=false:=by
 have mem:∀x∈ws,x.op=r.op→W.free x wy:=fun x hx he=>hf x (by rw[List.mem_filter];exact⟨hx,by rw[he,hun];rfl⟩)
 have made:∀c∈[base+r.op],c∉y.reads∧c∉y.writes:=fun c hc=>by
  rw[List.mem_singleton]at hc
  subst hc
  constructor
  ·intro hy
   obtain⟨x,g1,g2,g3⟩:=hma r.op hr.1 (hL1 _ (h1 _ hy))
   exact((mem x g1 g2).2.2.1 _ g3).1 (h1 _ hy)
  ·intro hy
   obtain⟨x,g1,g2,g3⟩:=hma r.op hr.1 (hL2 _ (h2 _ hy))
   exact((mem x g1 g2).2.2.1 _ g3).2 (h2 _ hy)
 rcases hr.2 with⟨g1,g2,g3,g4⟩ | ⟨x,g1,g2,g3,g4,g5,g6,g7⟩
 ·exact gD (by simp[g3]) (by simp[g2]) (by rw[g4];exact made) (by simp[g1]) (fun _=>g3)
 ·obtain⟨f1,f2,f3,f4,f5⟩:=mem x g1 g2
  refine gD (fun c hc=>⟨fun h=>(f1 c (g4 c hc)).1 (h1 c h),fun h=>(f1 c (g4 c hc)).2 (h2 c h)⟩) (fun c hc h=>f2 c (g3▸hc) (h2 c h)) ?_ (fun hc=>?_) (fun hc=>?_)
  ·cases hrc:r.isCall with
   | true=>rw[(g6 hrc).1];simp
   | false=>rw[g7 hrc];exact made
  ·obtain⟨e1,e2,e3⟩:=f4 (g5▸hc)
   exact⟨h3.trans e1,h4 e2,fun c h=>(g6 hc).2 c (e3 c (h1 c h))⟩
  ·have:=f5 (h3▸hc)
   cases hw:r.writes with
   | nil=>rfl
   | cons c l=>have h:=g4 c (by rw[hw];simp);rw[this]at h;simp at h
theorem l8{call1 call2:FuncId→List AV→aa→Option (AV×aa)}{n i mask:Nat}{τ:List AV}{H:aa}(hag:∀f args H,n<H.next→call1 f args H=call2 f args H)(hn:n<H.next):az P F call1 ops base i mask τ H=az P F call2 ops base i mask τ H:=by
 unfold az
 split
 ·rfl
 ·split
  ·split
   ·rfl
   ·rw[hag _ _ _ (by show n<(bj base mask i H).next;rw[(cl base mask i H).1];exact hn)]
   ·rfl
  ·rfl
  ·rfl
theorem gE{call1 call2:FuncId→List AV→aa→Option (AV×aa)}{n:Nat}{before:List Nat}(hag:∀f args H,n<H.next→call1 f args H=call2 f args H)(hs:bY P call1):∀(l:List Nat) (τ:List AV) (H:aa) (rs:List iL) (r:List AV×aa×List iL),n<H.next→bI P F call1 ops base before l τ H rs=some r→bI P F call2 ops base before l τ H rs=some r
 | [],τ,H,rs,r,_,h=>h
 | i::l,τ,H,rs,r,hn,h=>by
  have key:∀{τ1 H1 x},az P F call1 ops base i (before.getD i 0) τ H=some (τ1,H1,x)→H.next≤H1.next:=fun {τ1 H1 x} hd=>by
   have:∃l,bI P F call1 ops base before [i] τ H []=some (τ1,H1,l):=by
    unfold bI
    rw[hd]
    cases x
    ·exact⟨_,rfl⟩
    ·exact⟨_,rfl⟩
   obtain⟨l,this⟩:=this
   exact fo hs [i] _ _ _ _ _ _ this
  unfold bI at h ⊢
  rw[←l8 (call1:=call1) hag hn]
  split at h
  ·rename_i hd;exact gE hag hs l _ _ _ r (Nat.lt_of_lt_of_le hn (key hd)) h
  ·rename_i hd
   split at h
   ·rename_i hc;rw[if_pos hc];exact gE hag hs l _ _ _ r (Nat.lt_of_lt_of_le hn (key hd)) h
   ·cases h
  ·cases h
theorem range'_succ(k m:Nat):List.range' k (m+1)=k::List.range' (k+1) m:=rfl
theorem jO{before:List Nat}:∀(m k:Nat) (τ:List AV) (L:SH) (ws:List W.WR) (K:List AV→SH→Prop),W.dr P F ops before (List.range' k m) τ L ws K→∀(H:aa) (rs:List iL),Bd H→el L H→
  (∀j,k≤j→j<k+m→base+j<H.next∧H.get (base+j)=none)→base+k≤H.next→(∀r∈rs,rF base k ws r)→vZ base k L ws→
  ∃call τ' H' L' rs',bY P call∧qk call∧bI P F call ops base before (List.range' k m) τ H rs=some (τ',H',rs')∧Fr base L H L' H'∧K τ' L'
 | 0,k,τ,L,ws,K,h,H,rs,hb,hs,_,_,_,_=>⟨qj,τ,H,L,rs,jI P,fun _ _ _ _ _ _ h=>(by cases h),rfl,.refl hb hs,h⟩
 | m+1,k,τ,L,ws,K,h,H,rs,hb,hs,hfr,hbase,hrel,hma=>by
  rw[range'_succ]at h ⊢
  have h0:=hfr k (Nat.le_refl _) (by omega)
  have hlt:∀c,c∈L.names→c<H.next:=fun c hc=>by
   obtain⟨x,_,hx⟩:=hs.mem hc
   rcases Nat.lt_or_ge c H.next with h1 | h1
   ·exact h1
   ·rw[hb c h1]at hx;cases hx
  unfold W.dr at h
  split at h
  ·exact h.elim
  ·rename_i o ho
   have go:∀(Kc:AV→SH→W.Fp→Prop),bl ops o τ=some true→W.dop P F (ws.filter fun x=>!(before.getD k 0).testBit x.op) k o.op (dU τ) L Kc→(∀v L1 r,Kc v L1 r→W.dr P F ops before (List.range' (k+1) m) (cp τ o.dst v) L1 (W.push k o.op r ws) K)→
     ∃call τ' H' L' rs',bY P call∧qk call∧bI P F call ops base before (k::List.range' (k+1) m) τ H rs=some (τ',H',rs')∧Fr base L H L' H'∧K τ' L':=by
    intro Kc hw hop hk

    have val:∀(v:AV) (H1:aa) (L1:SH) (wr:W.Fp),ao P F o.op (dU τ) (base+k) H=some (.val v H1)→fX (base+k) L H L1 H1→Kc v L1 wr→
      (∀r∈rs,(before.getD k 0).testBit r.op=false→fO r ⟨k,ak o.op (dU τ),ai o.op (dU τ),[base+k],false,0,0⟩=false)→
      rF base (k+1) (W.push k o.op wr ws) ⟨k,ak o.op (dU τ),ai o.op (dU τ),[base+k],false,0,0⟩→(∀x∈ws,x∈W.push k o.op wr ws)→(base+k∈L1.names→∃x∈W.push k o.op wr ws,x.op=k∧base+k∈x.made)→
      ∃call τ' H' L' rs',bY P call∧qk call∧bI P F call ops base before (k::List.range' (k+1) m) τ H rs=some (τ',H',rs')∧Fr base L H L' H'∧K τ' L':=by
     intro v H1 L1 wr g1 g2 g3 g4 g5 g6 g7
     obtain⟨call,τ',H',L',rs',k1,k2,k3,k4,k5⟩:=jO m (k+1) (cp τ o.dst v) L1 (W.push k o.op wr ws) K (hk v L1 wr g3) {H1 with log:=H.log} (⟨k,ak o.op (dU τ),ai o.op (dU τ),[base+k],false,0,0⟩::rs) g2.bd (g2.sub.congr fun _=>rfl) (fun j h1 h2=>by
       have hj0:=hfr j (by omega) (by omega)
       exact⟨by show base+j<H1.next;rw[g2.next];exact hj0.1,g2.dom _ (by omega) hj0.2⟩) (by show base+(k+1)≤H1.next;rw[g2.next];omega) (fun r hr=>by
       rcases List.mem_cons.1 hr with rfl | hr
       ·exact g5
       ·exact(hrel r hr).more (Nat.le_succ _) g6) (fun j hj hm=>by
       rcases g2.fresh _ hm with h1 | h1
       ·have:j=k:=by omega
        subst this
        exact g7 hm
       ·have hjk:j≠k:=fun e=>by subst e;exact hs.not_mem h0.2 h1
        obtain⟨x,e1,e2⟩:=hma j (by omega) h1
        exact⟨x,g6 x e1,e2⟩)
     refine⟨call,τ',H',L',rs',k1,k2,?_,Fr.trans (H':={H1 with log:=H.log}) ⟨Nat.le_of_eq g2.next.symm,g2.bd,g2.sub.congr fun _=>rfl,g2.keep,fun c hc=>g2.dom c (by omega),fun c hc hlt=>(g2.fresh c hc).resolve_left (by omega)⟩ k4 (Nat.le_refl _),k5⟩
     unfold bI az
     simp only[ho,hw,g1]
     rw[if_pos]
     ·exact k3
     ·rw[List.all_eq_true]
      intro r hr
      cases hm:(before.getD k 0).testBit r.op with
      | true=>rfl
      | false=>rw[g4 r hr hm];rfl
    rcases rE hop with⟨c,f,g,cs,e1,e2,e3,hd⟩ | ⟨hm,hcv,hfree,hop⟩ | ⟨hm,hcv,hv,hop⟩
    ·
     obtain⟨Kp,R,hL,hfree,bd,hcall⟩:=hd
     have hs':=hs.perm hL
     have hn:∀b,b∈L.names↔b∈Kp.names∨b∈R.names:=fun b=>by rw[(hL.map Prod.fst).mem_iff,List.map_append,List.mem_append]
     generalize hmask:before.getD k 0=mask at hfree hop
     let Hid:Nat→Prop:=fun c=>∃j,j<k∧mask.testBit j=false∧c=base+j
     have hHid:∀c,Hid c→c<H.next∧base≤c:=fun c ⟨j,hj,_,hc⟩=>by omega
     have hKp:∀c,c∈Kp.names→¬Hid c:=fun c hc ⟨j,hj,hmj,hcj⟩=>by
      subst hcj
      obtain⟨x,f1,f2,f3⟩:=hma j hj ((hn _).2 (.inl hc))
      exact((hfree x (by rw[List.mem_filter];exact⟨f1,by rw[f2,hmj];rfl⟩)).2.2.1 _ f3).2 hc
     have hhg:∀c,({bj base mask k H with log:=[]}:aa).get c=if Hid c then none else H.get c:=fun c=>cY base mask k H c
     have hhn:({bj base mask k H with log:=[]}:aa).next=H.next:=(cl base mask k H).1
     generalize hHh:({bj base mask k H with log:=[]}:aa)=Hh at hhg hhn
     have hhl:Hh.log=[]:=by rw[←hHh]
     have hbh:Bd Hh:=fun c hc=>by
      rw[hhg]
      split
      ·rfl
      ·exact hb c (by omega)
     have hsh:el Kp Hh:=⟨hs'.left.nd,fun p hp=>by rw[hhg,if_neg (hKp _ (List.mem_map_of_mem hp))];exact hs'.left.get p hp⟩
     obtain⟨v,H1,K1,c1,c2,c3⟩:=hcall Hh hbh hsh
     have hnx:=c2.next
     let Ho:aa:={H1 with next:=H1.next+1,log:=Kp.names}
     let Hn:aa:={dh base mask H k Ho with log:=H.log}
     have hng:∀c,Hn.get c=if Hid c then H.get c else H1.get c:=fun c=>eT base mask H k Ho c
     have hnn:Hn.next=H1.next+1:=(cP base mask H k Ho).1
     have hK1:∀c,c∈K1.names→¬Hid c:=fun c hc hh=>hKp c (c2.fresh c hc (by have:=(hHid c hh).1;omega)) hh
     have hR:∀p∈R,Hn.get p.1=some p.2∧p.1∉K1.names:=fun p hp=>by
      rw[hng]
      by_cases hh:Hid p.1
      ·rw[if_pos hh];exact⟨hs'.right.get p hp,fun hc=>hK1 _ hc hh⟩
      ·rw[if_neg hh]
       exact c2.keep p.1 p.2 (by rw[hhg,if_neg hh];exact hs'.right.get p hp) (fun hk=>hs'.disj hk (List.mem_map_of_mem hp))
     have frn:Fr base L H (K1++R) Hn:=by
      refine⟨by rw[hnn];omega,fun c hc=>?_,⟨?_,fun p hp=>?_⟩,fun b x h1 h2=>?_,fun b hb' h1=>?_,fun b h1 h2=>?_⟩
      ·rw[hnn]at hc
       rw[hng,if_neg (fun hh=>by have:=(hHid c hh).1;omega)]
       exact c2.bd c (by omega)
      ·unfold SH.names
       rw[List.map_append,List.nodup_append]
       refine⟨c2.sub.nd,hs'.right.nd,fun a ha b hb he=>?_⟩
       subst he
       obtain⟨p,hp,rfl⟩:=List.mem_map.1 hb
       exact(hR p hp).2 ha
      ·rcases List.mem_append.1 hp with hp | hp
       ·rw[hng,if_neg (hK1 _ (List.mem_map_of_mem hp))];exact c2.sub.get p hp
       ·exact(hR p hp).1
      ·rw[hn]at h2
       have:Hn.get b=some x∧b∉K1.names:=by
        rw[hng]
        by_cases hh:Hid b
        ·rw[if_pos hh];exact⟨h1,fun hc=>hK1 _ hc hh⟩
        ·rw[if_neg hh]
         exact c2.keep b x (by rw[hhg,if_neg hh];exact h1) (fun hk=>h2 (.inl hk))
       refine⟨this.1,fun hk=>?_⟩
       unfold SH.names at hk
       rw[List.map_append,List.mem_append]at hk
       rcases hk with hk | hk
       ·exact this.2 hk
       ·exact h2 (.inr hk)
      ·have hh:¬Hid b:=fun hh=>by have:=(hHid b hh).2;omega
       rw[hng,if_neg hh]
       exact c2.dom b (by omega) (by rw[hhg,if_neg hh];exact h1)
      ·unfold SH.names at h1
       rw[List.map_append,List.mem_append]at h1
       rw[hn]
       rcases h1 with h1 | h1
       ·exact .inl (c2.fresh b h1 (by omega))
       ·exact .inr h1
     let r:iL:=⟨k,[],Ho.log.filter (fun c=>(Hh.get c).isSome),[],true,H.next,Ho.next⟩
     obtain⟨call,τ',H',L',rs',k1,k2,k3,k4,k5⟩:=jO m (k+1) (cp τ o.dst v) (K1++R) ((⟨k,[],Kp.names,[],true,L.names⟩:W.WR)::ws) K (by have:=hk v _ _ (c3.h _ rfl);rw[show W.push k o.op ⟨[],Kp.names,[],L.names⟩ ws=(⟨k,[],Kp.names,[],true,L.names⟩:W.WR)::ws from by simp[W.push,W.isCallV,e1,e2]]at this;exact this) Hn (r::rs) frn.bd frn.sub (fun j h1 h2=>by
       have hj0:=hfr j (by omega) (by omega)
       have hh:¬Hid (base+j):=fun⟨q,hq,_,he⟩=>by omega
       refine⟨by rw[hnn];omega,?_⟩
       rw[hng,if_neg hh]
       exact c2.dom _ (by omega) (by rw[hhg,if_neg hh];exact hj0.2)) (by rw[hnn];omega) (fun q hq=>by
       rcases List.mem_cons.1 hq with rfl | hq
       ·exact⟨Nat.lt_succ_self _,.inr ⟨_,List.mem_cons_self,rfl,rfl,fun c hc=>(List.mem_filter.1 hc).1,rfl,fun _=>⟨rfl,hlt⟩,fun h=>(by cases h)⟩⟩
       ·exact(hrel q hq).more (Nat.le_succ _) fun x hx=>List.mem_cons_of_mem _ hx) (fun j hj hm=>by
       have hjk:base+j∈L.names:=by
        rw[hn]
        unfold SH.names at hm
        rw[List.map_append,List.mem_append]at hm
        rcases hm with hm | hm
        ·exact .inl (c2.fresh _ hm (by omega))
        ·exact .inr hm
       have hne:j≠k:=fun e=>by subst e;exact hs.not_mem h0.2 hjk
       obtain⟨x,f1,f2⟩:=hma j (by omega) hjk
       exact⟨x,List.mem_cons_of_mem _ f1,f2⟩)
     refine⟨ss g (c.args.toList.map (dU τ)++cs) Hh v Ho call,τ',H',L',rs',nO k1 (c1.bump _) (by show Hh.next≤H1.next+1;omega) bd,qQ k2 fun _=>c2.chg _ (by rw[hhl];simp) (fun b hb=>hb) _ (Nat.le_succ _),?_,frn.trans k4 (Nat.le_refl _),k5⟩
     have ha:ao P F o.op (dU τ) (base+k) H=some (.call g (c.args.toList.map (dU τ)++cs)):=by rw[e1];simp[ao,e2,e3]
     have hbm:before.getD k 0=mask:=hmask
     have hs1:az P F (ss g (c.args.toList.map (dU τ)++cs) Hh v Ho call) ops base k mask τ H=some (cp τ o.dst v,Hn,some r):=by
      unfold az
      simp only[ho,hw,ha,hHh,qR]
      rw[show(bj base mask k H)={Hh with log:=H.log} from by rw[←hHh];exact(congrArg (fun l=>({bj base mask k H with log:=l}:aa)) (cl base mask k H).2)]
      rfl
     unfold bI
     rw[hbm,hs1]
     simp only[]
     rw[if_pos]
     ·refine gE (n:=Hh.next) (fun f args K hK=>?_) k1 _ _ _ _ _ (by rw[hnn];omega) k3
      exact(nP hK).symm
     ·rw[List.all_eq_true]
      intro q hq
      cases hmq:mask.testBit q.op with
      | true=>rfl
      | false=>
       rw[l7 (wy:=⟨k,[],Kp.names,[],true,[]⟩) (hrel q hq) hma hmq hfree (by simp[r]) (fun c hc=>(List.mem_filter.1 hc).1) rfl (fun he=>by show List.filter _ Kp.names=[];rw[show Kp.names=[]from he];rfl) (by simp) (fun c hc=>(hn c).2 (.inl hc))]
       rfl
    ·
     rcases og (b:=base+k) hb hs h0.1 h0.2 hop with⟨v,H1,L1,g1,g2,g3,g4⟩ | ⟨g,args,g1,g2⟩
     ·have hp:W.push k o.op ⟨ak o.op (dU τ),ai o.op (dU τ),if W0.makes o.op then ac v else [],[]⟩ ws=(⟨k,ak o.op (dU τ),ai o.op (dU τ),if W0.makes o.op then ac v else [],false,[]⟩:W.WR)::ws:=by simp[W.push,hm,hcv]
      refine val v H1 L1 _ g1 g2 (g4.h _ rfl) (fun r hr hun=>?_) (by rw[hp];exact⟨Nat.lt_succ_self _,.inr ⟨_,List.mem_cons_self,rfl,rfl,fun c h=>h,rfl,fun h=>(by cases h),fun _=>rfl⟩⟩) (fun x hx=>by rw[hp];exact List.mem_cons_of_mem _ hx) (fun hm=>by rw[hp];exact⟨_,List.mem_cons_self,rfl,by show _∈(if W0.makes o.op=true then ac v else []);rw[if_pos (g3 hm).1];exact(g3 hm).2⟩)
      exact l7 (wy:=⟨k,ak o.op (dU τ),ai o.op (dU τ),[],false,[]⟩) (hrel r hr) hma hun hfree (fun c h=>h) (fun c h=>h) rfl (fun h=>h) (pj hop) (fun c hc=>pj hop c (jG hc))
     ·obtain⟨c,f,e1,e2⟩:=pi g1
      rw[e1]at hm
      simp[W.isMem,e2]at hm
    ·
     have hop':=tQ (K2:=fun v L'=>Kc v L' ⟨[],[],[],[]⟩∧L'=L) (fun v h=>⟨h,rfl⟩) hm hv hop
     rcases og (b:=base+k) hb hs h0.1 h0.2 hop' with⟨v,H1,L1,g1,g2,g3,g4,g5⟩ | ⟨g,args,g1,g2⟩
     ·obtain⟨n1,n2⟩:=oh (ρ:=dU τ) hm
      subst g5
      have hp:W.push k o.op ⟨[],[],[],[]⟩ ws=ws:=by simp[W.push,hm,hcv]
      refine val v H1 _ ⟨[],[],[],[]⟩ g1 g2 g4 (fun r hr hun=>?_) ⟨Nat.lt_succ_self _,.inl ⟨rfl,n1,n2,rfl⟩⟩ (fun x hx=>by rw[hp];exact hx) (fun h=>absurd h (hs.not_mem h0.2))
      rw[n1,n2]
      refine gD (by simp) (by simp) (by simp) (by simp) (by simp)
     ·obtain⟨c,f,e1,e2⟩:=pi g1
      exact absurd e2 (hv c f e1)
   split at h
   ·rename_i hg
    exact go _ (kW hg) h fun v L1 r h=>h
   ·rename_i j want hg
    split at h
    ·rename_i d hd
     rcases h.h with⟨h1,h2⟩ | ⟨h1,h2⟩
     ·exact go _ (l6 hg hd h1) h2 fun v L1 r h=>h
     ·have hps:∀x∈ws,x∈W.push k o.op ⟨[],[],[],L.names⟩ ws:=fun x hx=>by
       unfold W.push
       split
       ·exact List.mem_cons_of_mem _ hx
       ·exact hx
      obtain⟨call,τ',H',L',rs',k1,k2,k3,k4,k5⟩:=jO m (k+1) (cp τ o.dst aA) L _ K h2 H rs hb hs (fun j h1 h2=>hfr j (by omega) (by omega)) (by omega) (fun r hr=>(hrel r hr).more (Nat.le_succ _) hps) (fun j hj hm=>by
       have hne:j≠k:=fun e=>by subst e;exact hs.not_mem h0.2 hm
       obtain⟨x,e1,e2⟩:=hma j (by omega) hm
       exact⟨x,hps x e1,e2⟩)
      refine⟨call,τ',H',L',rs',k1,k2,?_,k4,k5⟩
      unfold bI az
      simp only[ho,nQ hg hd h1]
      exact k3
    ·exact h.elim
end
end Go.Proofs.YtelgfgfgghpjgaaGreatDoor.Am
end
section
namespace Go.Proofs.YtelgfgfgghpjgaaGreatDoor.Am
open Go.RowKit
set_option linter.unusedVariables false
inductive Fz (K:SH):AV→AV→Prop where
 | refl (v:AV):Fz K v v
 | nils:Fz K .nils (.lst [])
 | nile:Fz K .nils .emp
 | emp:Fz K .emp (.lst [])
 | sl0 (b i:Nat):Fz K (.sl b i 0) (.lst [])
 | sl (b i n:Nat) (x:Blk) (rows:List (List AV)) (hm:(b,x)∈K) (hs:0<x.size) (hn:0<n) (hl:rows.length=n) (hle:i+n≤x.rows.length)
   (hr:∀(j:Nat) (r r2:List AV),x.rows[i+j]? =some r→rows[j]? =some r2→r.length=r2.length)
   (hc:∀(j:Nat) (r r2:List AV) (q:Nat) (a a2:AV),x.rows[i+j]? =some r→rows[j]? =some r2→r[q]? =some a→r2[q]? =some a2→Fz K a a2):Fz K (.sl b i n) (.lst rows)
 | ptr (b i off:Nat) (x:Blk) (rows:List (List AV)) (hm:(b,x)∈K) (hs:0<x.size) (hl:rows.length=x.rows.length) (hn:0<rows.length)
   (hr:∀(j:Nat) (r r2:List AV),x.rows[j]? =some r→rows[j]? =some r2→r.length=r2.length)
   (hc:∀(j:Nat) (r r2:List AV) (q:Nat) (a a2:AV),x.rows[j]? =some r→rows[j]? =some r2→r[q]? =some a→r2[q]? =some a2→Fz K a a2):Fz K (.ptr b i off) (.pptr rows i off)
 | agg (cs cs2:List AV) (hl:cs.length=cs2.length) (h:∀(i:Nat) (a a2:AV),cs[i]? =some a→cs2[i]? =some a2→Fz K a a2):Fz K (.agg cs) (.agg cs2)
 | tup (cs cs2:List AV) (hl:cs.length=cs2.length) (h:∀(i:Nat) (a a2:AV),cs[i]? =some a→cs2[i]? =some a2→Fz K a a2):Fz K (.tup cs) (.tup cs2)
theorem vb{K:SH}{v:Value}{a a2:AV}(h:oM v=some a)(hz:Fz K a a2):a2=a:=by
 cases v<;>simp only[oM,Option.some.injEq,reduceCtorEq]at h<;>subst h<;>cases hz<;>rfl
theorem jw.fz{K:SH}{w:World}{x y:Blk}{pl:aM}(h:jw w x pl)(e1:x.size=y.size)(e2:x.rows.length=y.rows.length)
  (e3:∀(j:Nat) (r r2:List AV),x.rows[j]? =some r→y.rows[j]? =some r2→r.length=r2.length∧∀(k:Nat) (a a2:AV),r[k]? =some a→r2[k]? =some a2→Fz K a a2):jw w y pl:=by
 have key:(∀(j:Nat) (r:List AV),x.rows[j]? =some r→∀(k:Nat) (a:AV),r[k]? =some a→∃v,oM v=some a)→y.rows=x.rows:=fun hk=>by
  refine List.ext_getElem? fun j=>?_
  rcases Nat.lt_or_ge j x.rows.length with hj | hj
  ·have h1:x.rows[j]? =some x.rows[j]:=List.getElem?_eq_getElem hj
   have h2:y.rows[j]? =some (y.rows[j]'(by omega)):=List.getElem?_eq_getElem (by omega)
   obtain⟨g1,g2⟩:=e3 j _ _ h1 h2
   rw[h1,h2]
   congr 1
   refine List.ext_getElem? fun k=>?_
   rcases Nat.lt_or_ge k x.rows[j].length with hk' | hk'
   ·have h3:x.rows[j][k]? =some x.rows[j][k]:=List.getElem?_eq_getElem hk'
    have h4:(y.rows[j]'(by omega))[k]? =some ((y.rows[j]'(by omega))[k]'(by omega)):=List.getElem?_eq_getElem (by omega)
    obtain⟨v,hv⟩:=hk j _ h1 k _ h3
    rw[h3,h4,vb hv (g2 k _ _ h3 h4)]
   ·rw[List.getElem?_eq_none hk',List.getElem?_eq_none (by omega)]
  ·rw[List.getElem?_eq_none hj,List.getElem?_eq_none (by omega)]
 have hy:y.rows=x.rows:=key fun j r hr k a ha=>by
  rcases h.obj with⟨_,es,clk,_,h2⟩ | ⟨_,s,pos,_,h2⟩
  ·have h3:(es.toList.map oN)[j]? =some (some r):=by rw[h2,List.getElem?_map,hr];rfl
   rw[List.getElem?_map]at h3
   cases he:es.toList[j]? with
   | none=>rw[he]at h3;cases h3
   | some e=>
    rw[he]at h3
    simp only[Option.map_some,Option.some.injEq]at h3
    unfold oN at h3
    split at h3
    ·rename_i k' v' hk' hv'
     cases h3
     match k with
     | 0=>cases ha;exact⟨_,hk'⟩
     | 1=>cases ha;exact⟨_,hv'⟩
     | k+2=>simp at ha
    ·cases h3
  ·rw[h2]at hr
   match j with
   | 0=>
    cases hr
    match k with
    | 0=>cases ha;exact⟨.string s,rfl⟩
    | 1=>cases ha;exact⟨.int .i64 pos,rfl⟩
    | k+2=>simp at ha
   | j+1=>simp at hr
 exact⟨e1▸h.size,h.psize,by rw[hy];exact h.obj⟩
section
variable {P:Program} {F:TypeId→Option (List TypeId)} {w:World} {σ:aC} {H H2:aa} {K:SH}
theorem su(hW:ay w σ H)(hK:el K H)(hown:∀c,aq σ H2 c→aq σ H c)(hout:∀b∈K.names,∀pl,σ b=some pl→¬aq σ H2 pl.block){a a2:AV}(hz:Fz K a a2):∀{v:Value},aw w σ (aq σ H) a v→aw w σ (aq σ H2) a2 v:=by
 induction hz with
 | refl v=>intro u h;exact h.shrink hown
 | nils=>intro u h;cases h;exact .lst0 _ _ (by unfold maxLen;omega)
 | nile=>intro u h;cases h;exact .emp _
 | emp=>intro u h;cases h;exact .lst0 _ _ (by unfold maxLen;omega)
 | sl0 b i=>
  intro u h
  obtain⟨pl,ad,cap,rfl,hs,hn,hm,ha⟩:=h.sl_inv
  exact .lst0 _ _ hm
 | sl b i n x rows hm hs hn hl hle hr hc ih=>
  intro u h
  have h0_:=h
  obtain⟨pl,ad,cap,rfl,hsg,hn',hmx,ha⟩:=h.sl_inv
  obtain⟨rfl,cs,ty,hcs,hroom⟩:=ha (by omega)
  obtain⟨pl',cs',e',g1,g2⟩:=hW.live b x (hK.get _ hm)
  rw[hsg]at g1
  cases g1
  replace g2:=g2.1 (h0_.sl_ok hsg)
  have row:∀(j:Nat) (r2:List AV),rows[j]? =some r2→∃r,x.rows[i+j]? =some r∧r.length=r2.length:=fun j r2 h2=>by
   have hj:=ah h2
   have:i+j<x.rows.length:=by omega
   exact⟨_,List.getElem?_eq_getElem this,hr j _ r2 (List.getElem?_eq_getElem this) h2⟩
  have:=aw.lst (w:=w) (σ:=σ) (T:=aq σ H2) rows pl.block (pl.base+i*pl.size) pl.size cap
   ⟨hout b (List.mem_map_of_mem hm) pl hsg,fun q r2 h2=>by
    obtain⟨r,k1,k2⟩:=row q r2 h2
    rw[←k2,g2.even _ r k1,g2.size],fun q j hq hj=>by
    obtain⟨r,k1,k2⟩:=row q rows[q] (List.getElem?_eq_getElem hq)
    have hj':j<r.length:=by rw[g2.even _ r k1,←g2.size];exact hj
    obtain⟨u,hu,_⟩:=g2.row k1 j _ (List.getElem?_eq_getElem hj')
    rw[Nat.add_mul,←Nat.add_assoc]at hu
    exact⟨u,hu⟩,by rw[g2.size];exact hs,by omega⟩ (by omega) hmx
   (fun q r2 j y u h2 hy hu=>by
    obtain⟨r,k1,k2⟩:=row q r2 h2
    have hj':j<r.length:=by rw[k2];exact ah hy
    obtain⟨u',hu',hz⟩:=g2.row k1 j _ (List.getElem?_eq_getElem hj')
    rw[Nat.add_mul,←Nat.add_assoc]at hu'
    rw[hu]at hu'
    cases hu'
    exact ih q r r2 j _ y k1 h2 (List.getElem?_eq_getElem hj') hy hz)
  rw[hl]at this
  exact this
 | ptr b i off x rows hm hs hl hn hr hc ih=>
  intro u h
  cases h with
  | ptr _ _ _ pl hsg hp=>
  obtain⟨pl',cs',e',g1,g2⟩:=hW.live b x (hK.get _ hm)
  rw[hsg]at g1
  cases g1
  replace g2:=g2.1 hp
  have row:∀(j:Nat) (r2:List AV),rows[j]? =some r2→∃r,x.rows[j]? =some r∧r.length=r2.length:=fun j r2 h2=>by
   have hj:=ah h2
   have:j<x.rows.length:=by omega
   exact⟨_,List.getElem?_eq_getElem this,hr j _ r2 (List.getElem?_eq_getElem this) h2⟩
  exact aw.pptr (w:=w) (σ:=σ) (T:=aq σ H2) rows i off pl.block pl.base pl.size
   ⟨hout b (List.mem_map_of_mem hm) pl hsg,fun q r2 h2=>by
    obtain⟨r,k1,k2⟩:=row q r2 h2
    rw[←k2,g2.even _ r k1,g2.size],fun q j hq hj=>by
    obtain⟨r,k1,k2⟩:=row q rows[q] (List.getElem?_eq_getElem hq)
    have hj':j<r.length:=by rw[g2.even _ r k1,←g2.size];exact hj
    obtain⟨u,hu,_⟩:=g2.row k1 j _ (List.getElem?_eq_getElem hj')
    exact⟨u,hu⟩,by rw[g2.size];exact hs,by omega⟩
   (fun q r2 j y u h2 hy hu=>by
    obtain⟨r,k1,k2⟩:=row q r2 h2
    have hj':j<r.length:=by rw[k2];exact ah hy
    obtain⟨u',hu',hz⟩:=g2.row k1 j _ (List.getElem?_eq_getElem hj')
    rw[hu]at hu'
    cases hu'
    exact ih q r r2 j _ y k1 h2 (List.getElem?_eq_getElem hj') hy hz)
 | agg cs cs2 hl h ih=>
  intro u hu
  cases hu with
  | agg _ vs hlv hc=>
   refine .agg cs2 vs (by omega) fun q y z hy hz=>?_
   have hq:q<cs.length:=by rw[hl];exact ah hy
   exact ih q _ y (List.getElem?_eq_getElem hq) hy (hc q _ z (List.getElem?_eq_getElem hq) hz)
 | tup cs cs2 hl h ih=>
  intro u hu
  cases hu with
  | tup _ vs hlv hc=>
   refine .tup cs2 vs (by omega) fun q y z hy hz=>?_
   have hq:q<cs.length:=by rw[hl];exact ah hy
   exact ih q _ y (List.getElem?_eq_getElem hq) hy (hc q _ z (List.getElem?_eq_getElem hq) hz)
structure bM(vs:List AV)(L:SH)(vs2:List AV)(L2:SH):Prop where
 ex:∃K R:SH,L.Perm (K++R)∧(vs.length=vs2.length∧∀(i:Nat) (a a2:AV),vs[i]? =some a→vs2[i]? =some a2→Fz K a a2)∧R.length=L2.length∧
  ∀(i:Nat) (p q:Nat×Blk),R[i]? =some p→L2[i]? =some q→p.1=q.1∧p.2.size=q.2.size∧p.2.rows.length=q.2.rows.length∧
   ∀(j:Nat) (r r2:List AV),p.2.rows[j]? =some r→q.2.rows[j]? =some r2→r.length=r2.length∧∀(k:Nat) (a a2:AV),r[k]? =some a→r2[k]? =some a2→Fz K a a2
theorem bM.refl(vs:List AV)(L:SH):bM vs L vs L:=⟨[],L,.refl _,⟨rfl,fun i a a2 h1 h2=>by rw[h1]at h2;cases h2;exact .refl _⟩,rfl,fun i p q h1 h2=>by
 rw[h1]at h2;cases h2
 exact⟨rfl,rfl,rfl,fun j r r2 h3 h4=>by rw[h3]at h4;cases h4;exact⟨rfl,fun k a a2 h5 h6=>by rw[h5]at h6;cases h6;exact .refl _⟩⟩⟩
theorem bM.drop{vs vs2:List AV}{L K R:SH}(hL:L.Perm (K++R))(hl:vs.length=vs2.length)(h:∀(i:Nat) (a a2:AV),vs[i]? =some a→vs2[i]? =some a2→Fz K a a2):bM vs L vs2 R:=⟨K,R,hL,⟨hl,h⟩,rfl,fun i p q h1 h2=>by
 rw[h1]at h2;cases h2
 exact⟨rfl,rfl,rfl,fun j r r2 h3 h4=>by rw[h3]at h4;cases h4;exact⟨rfl,fun k a a2 h5 h6=>by rw[h5]at h6;cases h6;exact .refl _⟩⟩⟩
def aa.repl(H:aa)(K:List Nat)(L2:SH):aa:=L2.foldl (fun H p=>{H with tr:=H.tr.set p.1 (some p.2)}) (K.foldl (fun H b=>{H with tr:=H.tr.set b none}) H)
theorem l9(K:List Nat):∀(H:aa) (c:Nat),(K.foldl (fun H b=>({H with tr:=H.tr.set b none}:aa)) H).get c=(if c∈K then none else H.get c)∧(K.foldl (fun H b=>({H with tr:=H.tr.set b none}:aa)) H).next=H.next:=by
 induction K with
 | nil=>intro H c;simp
 | cons b K ih=>
  intro H c
  simp only[List.foldl_cons]
  obtain⟨h1,h2⟩:=ih {H with tr:=H.tr.set b none} c
  refine⟨?_,h2⟩
  rw[h1]
  by_cases hc:c∈K
  ·simp[hc]
  ·have:({H with tr:=H.tr.set b none}:aa).get c=if b=c then none else H.get c:=Tr.get_set _ _ _ _
   rw[if_neg hc,this]
   by_cases hb:b=c
   ·subst hb;simp
   ·rw[if_neg hb,if_neg]
    simp only[List.mem_cons,not_or]
    exact⟨fun e=>hb e.symm,hc⟩
theorem ma:∀(L2:SH),L2.names.Nodup→∀(H:aa) (c:Nat),((∀x,(c,x)∈L2→(L2.foldl (fun H p=>({H with tr:=H.tr.set p.1 (some p.2)}:aa)) H).get c=some x)∧(c∉L2.names→(L2.foldl (fun H p=>({H with tr:=H.tr.set p.1 (some p.2)}:aa)) H).get c=H.get c))∧(L2.foldl (fun H p=>({H with tr:=H.tr.set p.1 (some p.2)}:aa)) H).next=H.next:=by
 intro L2
 induction L2 with
 | nil=>intro _ H c;simp
 | cons p L ih=>
  intro hn H c
  simp only[List.map_cons,List.nodup_cons]at hn
  obtain⟨⟨h1,h2⟩,h3⟩:=ih hn.2 {H with tr:=H.tr.set p.1 (some p.2)} c
  have hg:({H with tr:=H.tr.set p.1 (some p.2)}:aa).get c=if p.1=c then some p.2 else H.get c:=Tr.get_set _ _ _ _
  refine⟨⟨fun x hx=>?_,fun hc=>?_⟩,h3⟩
  ·simp only[List.foldl_cons]
   rcases List.mem_cons.1 hx with hx | hx
   ·subst hx
    rw[h2 hn.1,hg,if_pos rfl]
   ·exact h1 x hx
  ·simp only[List.foldl_cons]
   simp only[List.map_cons,List.mem_cons,not_or]at hc
   rw[h2 hc.2,hg,if_neg (fun e=>hc.1 e.symm)]
theorem kf{vs vs2:List AV}{L L2:SH}(h:bM vs L vs2 L2)(hs:el L H)(hb:Bd H):∃H2:aa,Fr H.next L H L2 H2∧H2.next=H.next∧
  (∀(w:World) (σ:aC),ay w σ H→ay w σ H2∧(∀c,aq σ H2 c→aq σ H c)∧∀(us:List Value),bk w σ (aq σ H) vs us→bk w σ (aq σ H2) vs2 us)∧∀b,b∉L.names→H2.get b=H.get b:=by
 obtain⟨K,R,hL,⟨hl,hv⟩,hlen,hR⟩:=h.ex
 have hs':=hs.perm hL
 have hn:∀b,b∈L.names↔b∈K.names∨b∈R.names:=fun b=>by rw[(hL.map Prod.fst).mem_iff,List.map_append,List.mem_append]
 have hnames:L2.names=R.names:=by
  apply List.ext_getElem?
  intro i
  unfold SH.names
  rw[List.getElem?_map,List.getElem?_map]
  rcases Nat.lt_or_ge i R.length with hi | hi
  ·have hi2:i<L2.length:=by omega
   rw[List.getElem?_eq_getElem hi,List.getElem?_eq_getElem hi2]
   simp only[Option.map_some,Option.some.injEq]
   exact(hR i _ _ (List.getElem?_eq_getElem hi) (List.getElem?_eq_getElem hi2)).1.symm
  ·rw[List.getElem?_eq_none hi,List.getElem?_eq_none (by omega)]
 have hnd2:L2.names.Nodup:=by rw[hnames];exact hs'.right.nd
 let H2:=H.repl K.names L2
 have hget:∀c,(∀x,(c,x)∈L2→H2.get c=some x)∧(c∉L2.names→H2.get c=if c∈K.names then none else H.get c):=fun c=>by
  obtain⟨⟨h1,h2⟩,_⟩:=ma L2 hnd2 (K.names.foldl (fun H b=>{H with tr:=H.tr.set b none}) H) c
  exact⟨h1,fun hc=>(h2 hc).trans (l9 K.names H c).1⟩
 have hnext:H2.next=H.next:=(ma L2 hnd2 _ 0).2.trans (l9 K.names H 0).2

 have hold:∀b y,H2.get b=some y→∃x,H.get b=some x∧b∉K.names∧x.size=y.size∧x.rows.length=y.rows.length∧∀(j:Nat) (r r2:List AV),x.rows[j]? =some r→y.rows[j]? =some r2→r.length=r2.length∧∀(k:Nat) (a a2:AV),r[k]? =some a→r2[k]? =some a2→Fz K a a2:=fun b y hy=>by
  by_cases hb2:b∈L2.names
  ·obtain⟨q,hq,rfl⟩:=List.mem_map.1 hb2
   have hqy:H2.get q.1=some q.2:=(hget q.1).1 q.2 hq
   rw[hy]at hqy
   cases hqy
   obtain⟨i,hi,hqi⟩:=List.getElem_of_mem hq
   have hi':i<R.length:=by omega
   obtain⟨e1,e2,e3,e4⟩:=hR i R[i] q (List.getElem?_eq_getElem hi') (by rw[List.getElem?_eq_getElem hi,hqi])
   refine⟨R[i].2,?_,fun hk=>hs'.disj hk (hnames▸hb2),e2,e3,e4⟩
   rw[←e1]
   exact hs'.right.get _ (List.getElem_mem hi')
  ·rw[(hget b).2 hb2]at hy
   split at hy
   ·cases hy
   ·rename_i hk
    exact⟨y,hy,hk,rfl,rfl,fun j r r2 h1 h2=>by rw[h1]at h2;cases h2;exact⟨rfl,fun k a a2 h3 h4=>by rw[h3]at h4;cases h4;exact .refl _⟩⟩
 have hout:∀b,b∉L.names→H2.get b=H.get b:=fun b hbn=>by
  rw[hn,not_or]at hbn
  rw[(hget b).2 (by rw[hnames];exact hbn.2),if_neg hbn.1]
 refine⟨H2,⟨by rw[hnext];exact Nat.le_refl _,fun b hb'=>?_,⟨hnd2,fun p hp=>(hget p.1).1 p.2 hp⟩,fun b x h1 h2=>⟨by rw[hout b h2];exact h1,fun h3=>h2 ((hn b).2 (.inr (hnames▸h3)))⟩,fun b _ h1=>?_,fun b h1 _=>(hn b).2 (.inr (hnames▸h1))⟩,hnext,fun w σ hW=>?_,hout⟩
 ·rw[hnext]at hb'
  cases hg:H2.get b with
  | none=>rfl
  | some y=>obtain⟨x,hx,_⟩:=hold b y hg;rw[hb b hb']at hx;cases hx
 ·cases hg:H2.get b with
  | none=>rfl
  | some y=>obtain⟨x,hx,_⟩:=hold b y hg;rw[h1]at hx;cases hx
 ·have hown:∀c,aq σ H2 c→aq σ H c:=fun c hc=>by
   rcases hc with hc | ⟨b,y,pl,h1,h2,h3⟩
   ·exact .inl hc
   ·obtain⟨x,hx,_⟩:=hold b y h1
    exact .inr ⟨b,x,pl,hx,h2,h3⟩
  have hnot:∀b∈K.names,∀pl,σ b=some pl→¬aq σ H2 pl.block:=fun b hbK pl hpl ho=>by
   obtain⟨x,_,hx⟩:=hs'.left.mem hbK
   rcases ho with ho | ⟨b',y,pl',h1,h2,h3⟩
   ·exact(hW.apart _ ho).2 ⟨b,x,pl,hx,hpl,rfl⟩
   ·obtain⟨x',hx',hk',_⟩:=hold b' y h1
    have:=hW.inj b' b x' x pl' pl hx' hx h2 hpl h3
    subst this
    exact hk' hbK
  refine⟨⟨fun b pl hb=>by rw[hnext];exact hW.named b pl hb,hW.lt,fun b y hy=>?_,fun c hc=>⟨(hW.apart c hc).1,fun⟨b,y,pl,h1,h2,h3⟩=>?_⟩,fun b b' y y' pl pl' h1 h2 h3 h4 h5=>?_,hW.glob.less hown⟩,hown,fun us hus=>⟨by rw[←hl];exact hus.1,fun i a2 u h1 h2=>?_⟩⟩
  ·obtain⟨x,hx,hk,e1,e2,e3⟩:=hold b y hy
   obtain⟨pl,cs,e,g1,g2⟩:=hW.live b x hx
   have row:∀(j:Nat) (r2:List AV),y.rows[j]? =some r2→∃r,x.rows[j]? =some r:=fun j r2 h2=>⟨_,List.getElem?_eq_getElem (by rw[e2];exact ah h2)⟩
   refine⟨pl,cs,e,g1,fun hp=>?_,fun hp=>(g2.2 hp).fz e1 e2 e3⟩
   replace g2:=g2.1 hp
   refine⟨g2.size.trans e1,g2.block,fun i r2 h2=>?_,by rw[←e2,←e1];exact g2.room,fun i r2 j a2 u h2 h3 h4=>?_⟩
   ·obtain⟨r,h1⟩:=row i r2 h2
    rw[←(e3 i r r2 h1 h2).1,g2.even i r h1,e1]
   ·obtain⟨r,h1⟩:=row i r2 h2
    obtain⟨e4,e5⟩:=e3 i r r2 h1 h2
    have hj:j<r.length:=by rw[e4];exact ah h3
    exact su hW hs'.left hown hnot (e5 j _ a2 (List.getElem?_eq_getElem hj) h3) (g2.rep i r j _ u h1 (List.getElem?_eq_getElem hj) (by rw[e1];exact h4))
  ·obtain⟨x,hx,_⟩:=hold b y h1
   exact(hW.apart c hc).2 ⟨b,x,pl,hx,h2,h3⟩
  ·obtain⟨x,hx,_⟩:=hold b y h1
   obtain⟨x',hx',_⟩:=hold b' y' h2
   exact hW.inj b b' x x' pl pl' hx hx' h3 h4 h5
  ·have hi:i<vs.length:=by rw[hl];exact ah h1
   exact su hW hs'.left hown hnot (hv i _ a2 (List.getElem?_eq_getElem hi) h1) (hus.2 i _ u (List.getElem?_eq_getElem hi) h2)
theorem aR.fz{c:Code}{τ τ2:List AV}{L L2:SH}{Q:Ex→List AV→SH→Prop}(hz:bM τ L τ2 L2)(h:aR P c τ2 L2 Q):aR P c τ L Q:=fun H hb hs=>by
 obtain⟨H2,f1,f2,f3,f4⟩:=kf hz hs hb
 obtain⟨e,τ',H',L',h1,h2,h3⟩:=h H2 f1.bd f1.sub
 refine⟨e,τ',H',L',⟨by rw[←f2];exact h1.1,fun w σ a hW hτ Q hQ=>?_⟩,f1.trans (h2.low (by rw[f2];exact Nat.le_refl _)) (Nat.le_refl _),h3⟩
 obtain⟨g1,g2,g3⟩:=f3 w σ hW
 refine h1.2 w σ a g1 ⟨g3 _ hτ.1,hτ.2⟩ Q fun a' w' ⟨σ',t,r,e1,m⟩=>hQ a' w' ⟨σ',t,r,?_,fun c pl hc=>by rw[←f2];exact m c pl hc⟩
 exact⟨e1.os,e1.tape,e1.output,e1.size,fun c hc hT=>e1.keep c hc (fun h=>hT (g2 c h)),e1.shape,e1.sig,e1.eqfr,e1.frame,fun c hc=>(e1.own c hc).imp (g2 c) id⟩
theorem al.fz{f:FuncId}{args:List AV}{L0:SH}{Q:AV→SH→Prop}(h:al P f args L0 fun v L=>∃v2 L2,bM [v] L [v2] L2∧Q v2 L2):al P f args L0 Q:=⟨h.1,fun H hb hs=>by
 obtain⟨v,H',L',h1,h2,v2,L2,hz,h3⟩:=h.2 H hb hs
 obtain⟨H2,f1,f2,f3,f4⟩:=kf hz h2.sub h2.bd
 refine⟨v2,H2,L2,fun w σ vs hW hvs=>(h1 w σ vs hW hvs).mono ?_,h2.trans (f1.low h2.next) (Nat.le_refl _),h3⟩
 rintro e w' ⟨v',σ',rfl,k1,k2,k3,k4⟩
 obtain⟨g1,g2,g3⟩:=f3 w' σ' k2
 have:=g3 [v'] ⟨rfl,fun i a u h1 h2=>by
  match i with
  | 0=>cases h1;cases h2;exact k1
  | i+1=>cases h1⟩
 exact⟨v',σ',rfl,this.2 0 v2 v' rfl rfl,g1,⟨k3.os,k3.tape,k3.output,k3.size,k3.keep,k3.shape,k3.sig,k3.eqfr,k3.frame,fun c hc=>k3.own c (g2 c hc)⟩,k4⟩⟩
end
end Go.Proofs.YtelgfgfgghpjgaaGreatDoor.Am
end
section
namespace Go.Proofs.YtelgfgfgghpjgaaGreatDoor.Am
open Go.RowKit
set_option linter.unusedVariables false
structure sv where

 join:Nat→Option (List Nat)

 loop:Nat→List Nat

 frz:Nat→List Nat

 mask:Nat→List Nat
def fp(live:List Nat)(τ:List AV):List AV:=live.map fun t=>τ.getD t .junk
def aj(live:List Nat)(vs:List AV)(t:Nat):AV:=match live,vs with
 | [],_=>.junk
 | _,[]=>.junk
 | d::ds,v::vs=>if d=t then v else aj ds vs t
def cS(n:Nat)(live:List Nat)(vs:List AV):List AV:=(List.range n).map (aj live vs)
def dD:Code→Option Nat
 | .region id _ _=>some id
 | .seq a b=>match dD a with
  | some i=>some i
  | none=>dD b
 | .cond _ a b=>match dD a with
  | some i=>some i
  | none=>dD b
 | .block _ b=>dD b
 | .loop b=>dD b
 | _=>none
def fq:Code→Option Nat
 | .region id _ _=>some id
 | .seq a b=>match fq b with
  | some i=>some i
  | none=>fq a
 | .cond _ a b=>match fq b with
  | some i=>some i
  | none=>fq a
 | .block _ b=>fq b
 | .loop b=>fq b
 | _=>none
namespace W
abbrev Kn:=List AV→SH→Prop
def frz0(v:AV)(L:SH)(K:AV→SH→Prop):Prop:=match v with
 | .ptr b i off=>∃x L',oe b x L L'∧0<x.size∧0<x.rows.length∧K (.pptr x.rows i off) L'
 | .sl b i n=>∃x L',oe b x L L'∧0<x.size∧i+n≤x.rows.length∧K (.lst ((x.rows.drop i).take n)) L'
 | .nils=>K (.lst []) L
 | .emp=>K (.lst []) L
 | v=>K v L
structure frz1(v:AV)(L:SH)(K:AV→SH→Prop):Prop where
 h:frz0 v L K
def frzs:List Nat→List AV→SH→Kn→Prop
 | [],τ,L,K=>K τ L
 | d::ds,τ,L,K=>frz1 (τ.getD d .junk) L fun v L=>frzs ds (τ.set d v) L K
structure cond(v:AV)(A B:Prop):Prop where
 h:(v=.bool true∧A)∨(v=.bool false∧B)
structure join(J:Kn)(B:Kn→Prop):Prop where
 h:B J
structure loop(B:List AV→SH→Kn→Prop)(vs:List AV)(L:SH):Prop where
 h:∃I:Nat→Kn,(∃n vs2 L2,bM vs L vs2 L2∧I n vs2 L2)∧∀n vs L,I n vs L→B vs L fun vs' L'=>∃m vs2 L2,m<n∧bM vs' L' vs2 L2∧I m vs2 L2
section
variable (P:Program) (F:TypeId→Option (List TypeId)) (ht:sv)
def code:Code→List AV→SH→Kn→(Nat→Kn)→Kn→Prop
 | .skip,τ,L,kn,_,_=>kn τ L
 | .label _,τ,L,kn,_,_=>kn τ L
 | .region id ops draw,τ,L,kn,_,_=>if draw then(qO ops&&od ops&&(aH ops.toList []==ht.mask id))=true∧dr P F ops (ht.mask id) (List.range' 0 ops.size) τ L [] fun τ L=>frzs (ht.frz id) τ L kn
   else sq P F ops (List.range ops.size) τ L fun τ L=>frzs (ht.frz id) τ L kn
 | .seq a b,τ,L,kn,kx,kr=>match (fq a).bind ht.join with
  | none=>code a τ L (fun τ L=>code b τ L kn kx kr) kx kr
  | some live=>join (fun vs L=>code b (cS τ.length live vs) L kn kx kr) fun j=>code a τ L (fun τ L=>j (fp live τ) L) kx kr
 | .cond x a b,τ,L,kn,kx,kr=>cond (dU τ x) (code a τ L kn kx kr) (code b τ L kn kx kr)
 | .block id b,τ,L,kn,kx,kr=>code b τ L kn (fun id' τ L=>if id'=id then kn τ L else kx id' τ L) kr
 | .loop b,τ,L,kn,kx,kr=>match dD b with
  | none=>False
  | some r=>loop (fun vs L next=>code b (cS τ.length (ht.loop r) vs) L (fun τ L=>next (fp (ht.loop r) τ) L) kx kr) (fp (ht.loop r) τ) L
 | .exit id,τ,L,_,kx,_=>kx id τ L
 | .ret,τ,L,_,_,kr=>kr τ L
 | _,_,_,_,_,_=>False
def pack:List AV→AV
 | [v]=>v
 | vs=>.tup vs
def res:List ResultVar→List AV→SH→List AV→(AV→SH→Prop)→Prop
 | [],_,L,vs,Q=>Q (pack vs.reverse) L
 | .tmp t::rs,τ,L,vs,Q=>res rs τ L (τ.getD t aA::vs) Q
 | .cell a t::rs,τ,L,vs,Q=>match b0 P t,au P t with
  | some ag,some n=>load ag n (τ.getD a aA) L fun v=>res rs τ L (v::vs) Q
  | _,_=>False
def func(fn:Func)(c:Code)(args:List AV)(L:SH)(Q:AV→SH→Prop):Prop:=
 code P F ht c (args++List.replicate (fn.ntmps-args.length) aA) L (fun τ L=>res P fn.results.toList τ L [] Q) (fun _ _ _=>False) (fun τ L=>res P fn.results.toList τ L [] Q)
end
end W
section
variable {P:Program} {F:TypeId→Option (List TypeId)} {ht:sv}
theorem iP(τ:List AV)(t:Nat):∀live:List Nat,aj live (fp live τ) t=.junk∨aj live (fp live τ) t=τ.getD t .junk
 | []=>.inl rfl
 | d::ds=>by
  simp only[fp,List.map_cons,aj]
  by_cases h:d=t
  ·subst h;rw[if_pos rfl];exact .inr rfl
  ·rw[if_neg h];exact iP τ t ds
theorem mb(live:List Nat)(τ:List AV):xA τ (cS τ.length live (fp live τ)):=by
 refine⟨by simp[cS],fun i x hx=>?_⟩
 simp only[cS,List.getElem?_map]at hx
 rcases Nat.lt_or_ge i τ.length with hi | hi
 ·rw[List.getElem?_range hi]at hx
  simp only[Option.map_some,Option.some.injEq]at hx
  subst hx
  rcases iP τ i live with h | h
  ·exact .inl h
  ·right
   rw[h,List.getElem?_eq_getElem hi]
   simp[List.getD,hi]
 ·rw[List.getElem?_eq_none (by simpa using hi)]at hx;cases hx
theorem rG{n:Nat}{live:List Nat}{vs vs2:List AV}{L L2:SH}(h:bM vs L vs2 L2):bM (cS n live vs) L (cS n live vs2) L2:=by
 obtain⟨K,R,h1,⟨h2,h3⟩,h4⟩:=h.ex
 refine⟨K,R,h1,⟨by simp[cS],fun i a a2 g1 g2=>?_⟩,h4⟩
 simp only[cS,List.getElem?_map]at g1 g2
 cases hr:(List.range n)[i]? with
 | none=>rw[hr]at g1;cases g1
 | some t=>
  rw[hr]at g1 g2
  simp only[Option.map_some,Option.some.injEq]at g1 g2
  subst g1;subst g2
  clear hr h1 h h4
  induction live generalizing vs vs2 with
  | nil=>exact .refl _
  | cons d ds ih=>
   cases vs with
   | nil=>cases vs2 with
    | nil=>exact .refl _
    | cons y ys=>simp at h2
   | cons x xs=>cases vs2 with
    | nil=>simp at h2
    | cons y ys=>
     simp only[aj]
     by_cases hd:d=t
     ·rw[if_pos hd,if_pos hd];exact h3 0 x y rfl rfl
     ·rw[if_neg hd,if_neg hd]
      exact ih (by simpa using h2) fun i a a2 e1 e2=>h3 (i+1) a a2 (by simpa using e1) (by simpa using e2)
theorem mc{τ:List AV}{d:Nat}{v:AV}{L K R:SH}(hL:L.Perm (K++R))(hv:Fz K (τ.getD d .junk) v):bM τ L (τ.set d v) R:=by
 refine .drop hL (by simp) fun i a a2 h1 h2=>?_
 rw[List.getElem?_set]at h2
 by_cases hd:d=i
 ·subst hd
  rw[if_pos rfl]at h2
  split at h2
  ·cases h2
   rw[List.getD,h1]at hv
   exact hv
  ·cases h2
 ·rw[if_neg hd,h1]at h2
  cases h2
  exact .refl _
theorem Fz.rows{K:SH}{b i n:Nat}{x:Blk}(hm:(b,x)∈K)(hs:0<x.size)(hle:i+n≤x.rows.length):Fz K (.sl b i n) (.lst ((x.rows.drop i).take n)):=by
 rcases Nat.eq_zero_or_pos n with rfl | hn
 ·simp only[List.take_zero];exact .sl0 b i
 ·have get:∀(j:Nat) (r r2:List AV),x.rows[i+j]? =some r→((x.rows.drop i).take n)[j]? =some r2→r=r2:=fun j r r2 h1 h2=>by
   rw[List.getElem?_take]at h2
   split at h2
   ·rw[List.getElem?_drop,h1]at h2;cases h2;rfl
   ·cases h2
  refine .sl b i n x _ hm hs hn (by simp;omega) hle (fun j r r2 h1 h2=>by rw[get j r r2 h1 h2]) fun j r r2 q a a2 h1 h2 h3 h4=>?_
  have:=get j r r2 h1 h2
  subst this
  rw[h3]at h4;cases h4
  exact .refl _
theorem Fz.box{K:SH}{b i off:Nat}{x:Blk}(hm:(b,x)∈K)(hs:0<x.size)(hn:0<x.rows.length):Fz K (.ptr b i off) (.pptr x.rows i off):=
 .ptr b i off x x.rows hm hs rfl hn (fun j r r2 h1 h2=>by rw[h1]at h2;cases h2;rfl) fun j r r2 q a a2 h1 h2 h3 h4=>by
  rw[h1]at h2;cases h2;rw[h3]at h4;cases h4;exact .refl _
theorem aR.post{c:Code}{τ:List AV}{L:SH}{Q Q2:Ex→List AV→SH→Prop}(h:aR P c τ L Q)(hq:∀e τ' L',Q e τ' L'→∃τ2 L2,bM τ' L' τ2 L2∧Q2 e τ2 L2):aR P c τ L Q2:=fun H hb hs=>by
 obtain⟨e,τ',H',L',h1,h2,h3⟩:=h H hb hs
 obtain⟨τ2,L2,hz,h4⟩:=hq e τ' L' h3
 obtain⟨H2,f1,f2,f3,f4⟩:=kf hz h2.sub h2.bd
 refine⟨e,τ2,H2,L2,⟨by rw[f2];exact h1.1,fun w σ a hW hτ Q hQ=>h1.2 w σ a hW hτ Q fun a' w' ⟨σ',t,r,e1,m⟩=>?_⟩,h2.trans (f1.low h2.next) (Nat.le_refl _),h4⟩
 obtain⟨g1,g2,g3⟩:=f3 w' σ' r
 exact hQ a' w' ⟨σ',⟨g3 _ t.1,t.2⟩,g1,⟨e1.os,e1.tape,e1.output,e1.size,e1.keep,e1.shape,e1.sig,e1.eqfr,e1.frame,fun c hc=>e1.own c (g2 c hc)⟩,m⟩
theorem aR.frzs{c:Code}{τ:List AV}{L:SH}{K:W.Kn}{n:Nat}:∀(ds:List Nat),aR P c τ L (fun e τ' L'=>e=.normal∧τ'.length=n∧W.frzs ds τ' L' K)→aR P c τ L (fun e τ' L'=>e=.normal∧τ'.length=n∧K τ' L')
 | [],h=>h
 | d::ds,h=>by
  refine aR.frzs ds (h.post ?_)
  rintro e τ' L' ⟨he,hn,hz⟩
  simp only[W.frzs]at hz
  have hz:=hz.h
  simp only[W.frz0]at hz
  have set:∀(v:AV) (L2:SH),bM τ' L' (τ'.set d v) L2→W.frzs ds (τ'.set d v) L2 K→∃τ2 L2,bM τ' L' τ2 L2∧e=.normal∧τ2.length=n∧W.frzs ds τ2 L2 K:=fun v L2 h1 h2=>⟨_,L2,h1,he,by simpa using hn,h2⟩
  split at hz
  ·rename_i b i off hv
   obtain⟨x,L2,h1,h2,h3,h4⟩:=hz
   refine set _ L2 (mc (K:=[(b,x)]) h1.perm ?_) h4
   rw[hv]
   exact .box (by simp) h2 h3
  ·rename_i b i k hv
   obtain⟨x,L2,h1,h2,h3,h4⟩:=hz
   refine set _ L2 (mc (K:=[(b,x)]) h1.perm ?_) h4
   rw[hv]
   exact .rows (by simp) h2 h3
  ·rename_i hv
   refine set _ L' (mc (K:=[]) (.refl _) ?_) hz
   rw[hv]
   exact .nils
  ·rename_i hv
   refine set _ L' (mc (K:=[]) (.refl _) ?_) hz
   rw[hv]
   exact .emp
  ·refine set _ L' (mc (K:=[]) (.refl _) ?_) hz
   exact .refl _
theorem qS(τ:List AV)(d:Option Tmp)(v:AV):(cp τ d v).length=τ.length:=by cases d<;>simp[cp]
theorem pk{ops:Array Oper}{base:Nat}{call:FuncId→List AV→aa→Option (AV×aa)}:∀(l:List Nat) (τ:List AV) (H:aa) (τ':List AV) (H':aa),fW P F call ops base l τ H=some (τ',H')→τ'.length=τ.length
 | [],τ,H,τ',H',h=>by cases h;rfl
 | i::l,τ,H,τ',H',h=>by
  unfold fW at h
  split at h
  ·rename_i τ1 H1 hs
   rw[pk l _ _ _ _ h]
   unfold d8 at hs
   repeat' (first | (cases hs;exact qS _ _ _) | (cases hs;done) | split at hs)
  ·cases h
theorem kg{ops:Array Oper}{base:Nat}{before:List Nat}{call:FuncId→List AV→aa→Option (AV×aa)}:∀(l:List Nat) (τ:List AV) (H:aa) (rs:List iL) (τ':List AV) (H':aa) (rs':List iL),bI P F call ops base before l τ H rs=some (τ',H',rs')→τ'.length=τ.length
 | [],τ,H,rs,τ',H',rs',h=>by cases h;rfl
 | i::l,τ,H,rs,τ',H',rs',h=>by
  have key:∀{mask:Nat} {τ1:List AV} {H1:aa} {r:Option iL},az P F call ops base i mask τ H=some (τ1,H1,r)→τ1.length=τ.length:=fun {mask τ1 H1 r} hs=>by
   unfold az at hs
   repeat' (first | (cases hs;exact qS _ _ _) | (cases hs;done) | split at hs)
  unfold bI at h
  split at h
  ·rename_i hs;rw[kg l _ _ _ _ _ _ h,key hs]
  ·rename_i hs
   split at h
   ·rw[kg l _ _ _ _ _ _ h,key hs]
   ·cases h
  ·cases h
theorem aR.region'{ops:Array Oper}{id:Nat}{τ:List AV}{L:SH}{K:W.Kn}(fit:p7 P F)(h:W.sq P F ops (List.range ops.size) τ L K):aR P (.region id ops false) τ L fun e τ' L'=>e=.normal∧τ'.length=τ.length∧K τ' L':=fun H hb hs=>by
 obtain⟨call,τ',H',L',k1,k2,k3,k4,k5⟩:=jN (base:=H.next) (List.range ops.size) τ L _ h List.nodup_range {H with next:=H.next+ops.size} (hb.bump _ _ (Nat.le_add_right _ _)) (hs.congr fun _=>rfl)
  (fun i hi=>⟨Nat.add_lt_add_left (List.mem_range.1 hi) _,hb _ (Nat.le_add_right _ _)⟩) (Nat.le_add_right _ _)
 have hr:cg P F call ops false τ H=some (τ',H'):=by simp only[cg,Bool.false_eq_true,if_false];exact k3
 exact⟨.normal,τ',H',L',jB fit k1 hr,⟨Nat.le_trans (Nat.le_add_right _ _) k4.next,k4.bd,k4.sub,k4.keep,k4.dom,k4.fresh⟩,rfl,pk _ _ _ _ _ k3,k5⟩
theorem aR.draw'{ops:Array Oper}{id:Nat}{τ:List AV}{L:SH}{K:W.Kn}(fit:p7 P F)(hst:fm ops)(hed:jH ops)(h:W.dr P F ops (aH ops.toList []) (List.range' 0 ops.size) τ L [] K):aR P (.region id ops true) τ L fun e τ' L'=>e=.normal∧τ'.length=τ.length∧K τ' L':=fun H hb hs=>by
 obtain⟨call,τ',H',L',rs',k1,k2,k3,k4,k5⟩:=jO (base:=H.next) ops.size 0 τ L [] _ h {H with next:=H.next+ops.size} [] (hb.bump _ _ (Nat.le_add_right _ _)) (hs.congr fun _=>rfl)
  (fun i _ hi=>⟨by show H.next+i<H.next+ops.size;omega,hb _ (Nat.le_add_right _ _)⟩) (by show H.next+0≤H.next+ops.size;omega) (by simp) (fun j hj=>by omega)
 have hr:cg P F call ops true τ H=some (τ',{H' with log:=rs'.flatMap (·.writes)++H'.log}):=by
  simp only[cg,if_true]
  rw[List.range_eq_range',k3]
 obtain⟨n1,n2⟩:=lZ fit k1 k2 hst hed hr
 exact⟨.normal,τ',_,L',⟨n1,fun w σ a hW hτ Q hQ=>n2 id w σ a hW hτ Q hQ⟩,⟨Nat.le_trans (Nat.le_add_right _ _) k4.next,k4.bd,k4.sub.congr fun _=>rfl,k4.keep,k4.dom,k4.fresh⟩,rfl,kg _ _ _ _ _ _ _ k3,k5⟩
def v3(n:Nat)(kn:W.Kn)(kx:Nat→W.Kn)(kr:W.Kn)(e:Ex)(τ:List AV)(L:SH):Prop:=τ.length=n∧match e with
 | .normal=>kn τ L
 | .exit id=>kx id τ L
 | .ret=>kr τ L
theorem bz(fit:p7 P F):∀(c:Code) (τ:List AV) (L:SH) (kn:W.Kn) (kx:Nat→W.Kn) (kr:W.Kn),W.code P F ht c τ L kn kx kr→aR P c τ L (v3 τ.length kn kx kr)
 | .skip,τ,L,kn,kx,kr,h=>.skip ⟨rfl,h⟩
 | .label l,τ,L,kn,kx,kr,h=>.label ⟨rfl,h⟩
 | .exit id,τ,L,kn,kx,kr,h=>.exit ⟨rfl,h⟩
 | .ret,τ,L,kn,kx,kr,h=>.ret ⟨rfl,h⟩
 | .region id ops draw,τ,L,kn,kx,kr,h=>by
  simp only[W.code]at h
  have fin:aR P (.region id ops draw) τ L (fun e τ' L'=>e=.normal∧τ'.length=τ.length∧kn τ' L')→aR P (.region id ops draw) τ L (v3 τ.length kn kx kr):=fun h=>h.mono fun e τ' L' ⟨h1,h2,h3⟩=>by subst h1;exact⟨h2,h3⟩
  cases draw with
  | false=>exact fin (.frzs _ (.region' fit h))
  | true=>
   simp only[if_true,Bool.and_eq_true]at h
   have hm:=h.2
   rw[←eq_of_beq h.1.2]at hm
   exact fin (.frzs _ (.draw' fit (pe h.1.1.1) (nM h.1.1.2) hm))
 | .seq a b,τ,L,kn,kx,kr,h=>by
  simp only[W.code]at h
  split at h
  ·refine aR.seq ((bz fit a τ L _ kx kr h).mono fun e τ' L' ⟨h1,h2⟩=>?_)
   cases e with
   | normal=>simp only;rw[←h1];exact bz fit b τ' L' kn kx kr h2
   | exit id=>exact⟨h1,h2⟩
   | ret=>exact⟨h1,h2⟩
  ·rename_i live _
   have hB:=h.h
   refine aR.seq ((bz fit a τ L _ kx kr hB).mono fun e τ' L' ⟨h1,h2⟩=>?_)
   cases e with
   | normal=>
    have h5:=bz fit b _ L' kn kx kr h2
    have hlen:(cS τ.length live (fp live τ')).length=τ.length:=by simp[cS]
    rw[hlen]at h5
    have hd:=mb live τ'
    rw[h1]at hd
    exact aR.dim hd h5
   | exit id=>exact⟨h1,h2⟩
   | ret=>exact⟨h1,h2⟩
 | .cond x a b,τ,L,kn,kx,kr,h=>by
  rcases h.h with⟨h1,h2⟩ | ⟨h1,h2⟩
  ·exact aR.cond (t:=true) h1 (bz fit a τ L kn kx kr h2)
  ·exact aR.cond (t:=false) h1 (bz fit b τ L kn kx kr h2)
 | .block id b,τ,L,kn,kx,kr,h=>by
  refine aR.block ((bz fit b τ L _ _ kr h).mono fun e τ' L' ⟨h1,h2⟩=>?_)
  cases e with
  | normal=>exact⟨h1,h2⟩
  | ret=>exact⟨h1,h2⟩
  | exit id'=>
   simp only[Ex.leave]
   simp only at h2
   by_cases hid:id'=id
   ·rw[if_pos hid]at h2 ⊢;exact⟨h1,h2⟩
   ·rw[if_neg hid]at h2 ⊢;exact⟨h1,h2⟩
 | .loop b,τ,L,kn,kx,kr,h=>by
  simp only[W.code]at h
  split at h
  ·exact h.elim
  ·rename_i r _
   obtain⟨I,⟨n,vs0,L0,hz0,h0⟩,hB⟩:=h.h
   refine aR.loop (fun m τ' L'=>τ'.length=τ.length∧∃vs2 L2,bM (fp (ht.loop r) τ') L' vs2 L2∧I m vs2 L2) (fun m τ' L' ⟨h1,vs2,L2,hz,h2⟩=>?_) n ⟨rfl,vs0,L0,hz0,h0⟩
   have h4:=bz fit b _ L2 _ kx kr (hB m vs2 L2 h2)
   have hlen:(cS τ.length (ht.loop r) vs2).length=τ.length:=by simp[cS]
   rw[hlen]at h4
   have h5:=aR.fz (rG (n:=τ.length) (live:=ht.loop r) hz) h4
   have hd:=mb (ht.loop r) τ'
   rw[h1]at hd
   refine(aR.dim hd h5).mono fun e τ1 L1 ⟨g1,g2⟩=>?_
   cases e with
   | normal=>
    obtain⟨m',vs3,L3,k1,k2,k3⟩:=g2
    exact⟨m',k1,g1,vs3,L3,k2,k3⟩
   | exit id=>exact⟨g1,g2⟩
   | ret=>exact⟨g1,g2⟩
 | .rangeFunc ..,_,_,_,_,_,h=>h.elim
 | .scope _,_,_,_,_,_,h=>h.elim
 | .goto _,_,_,_,_,_,h=>h.elim
 | .refuse _,_,_,_,_,_,h=>h.elim
theorem ql{τ:List AV}{L:SH}{H:aa}{Q:AV→SH→Prop}(hs:el L H):∀(rs:List ResultVar) (vs:List AV),W.res P rs τ L vs Q→∃us,aL (rs.map (d9 P τ H))=some us∧Q (W.pack (vs.reverse++us)) L
 | [],vs,h=>⟨[],rfl,by simpa[W.res]using h⟩
 | .tmp t::rs,vs,h=>by
  obtain⟨us,h1,h2⟩:=ql hs rs _ h
  refine⟨τ.getD t aA::us,?_,by simpa using h2⟩
  simp only[List.map_cons,d9,aL,h1]
 | .cell a t::rs,vs,h=>by
  simp only[W.res]at h
  split at h
  ·rename_i ag n hag hn
   obtain⟨v,g1,g2⟩:=qP hs hag hn h.h
   obtain⟨us,h1,h2⟩:=ql hs rs _ g2
   refine⟨v::us,?_,by simpa using h2⟩
   simp only[List.map_cons,d9,g1,aL,h1]
  ·exact h.elim
theorem qm(fit:p7 P F){f:FuncId}{fn:Func}{c:Code}{args:List AV}{L:SH}{Q:AV→SH→Prop}(hf:P.funcs[f]? =some fn)(hb:fn.body=some c)(h:W.func P F ht fn c args L Q):al P f args L Q:=by
 refine⟨⟨fn,c,hf,hb⟩,fun H hB hs=>?_⟩
 obtain⟨e,τ',H',L',k1,k2,k3,k4⟩:=bz fit c _ L _ _ _ h H hB hs
 have hres:(e=.normal∨e=.ret)∧W.res P fn.results.toList τ' L' [] Q:=by
  cases e with
  | normal=>exact⟨.inl rfl,k4⟩
  | ret=>exact⟨.inr rfl,k4⟩
  | exit id=>exact k4.elim
 obtain⟨he,hr⟩:=hres
 obtain⟨us,r1,r2⟩:=ql k2.sub _ _ hr
 have hv:eN P τ' H' fn.results.toList=some (W.pack us):=by
  unfold eN
  rw[r1]
  match us with
  | []=>rfl
  | [v]=>rfl
  | v::u::l=>rfl
 simp only[List.reverse_nil,List.nil_append]at r2
 refine⟨_,H',L',fun w σ vs hW hvs=>?_,k2,r2⟩
 refine calls_of_wp hf hb (k1.2 w σ _ hW ⟨⟨by simp[hvs.1],fun i x u h1 h2=>?_⟩,rfl⟩ _ fun a' w' haf=>?_)
 ·simp only[Array.toList_append,Array.toList_replicate]at h2
  rcases Nat.lt_or_ge i args.length with hi | hi
  ·rw[List.getElem?_append_left hi]at h1
   rw[List.getElem?_append_left (by rw[←hvs.1];exact hi)]at h2
   exact hvs.2 i x u h1 h2
  ·rw[List.getElem?_append_right hi,List.getElem?_replicate]at h1
   rw[List.getElem?_append_right (by rw[←hvs.1];exact hi),List.getElem?_replicate]at h2
   split at h1
   ·split at h2
    ·cases h1;cases h2;exact eQ
    ·cases h2
   ·cases h1
 ·obtain⟨σ',t1,g1,e1,m1⟩:=haf
  obtain⟨v',q1,q2⟩:=iO (P:=P) g1 t1 hv
  have hpost:a'.defers=[]∧∃v,(results fn a'.tmps).run P w'=.ok v w'∧∃v' σ',Ending.returned v=.returned v'∧aw w' σ' (aq σ' H') _ v'∧ay w' σ' H'∧bV w σ (aq σ H) w' σ' (aq σ' H')∧∀c pl,σ' c=some pl→σ c=some pl∨H.next≤c:=
   ⟨t1.2,v',q1,v',σ',rfl,q2,g1,e1,m1⟩
  rcases he with rfl | rfl
  ·exact hpost
  ·exact hpost
end
end Go.Proofs.YtelgfgfgghpjgaaGreatDoor.Am
end
section
namespace Go.Proofs.YtelgfgfgghpjgaaGreatDoor.Am
def qn(P:Program)(t:TypeId):Option (List TypeId):=match P.underlying t with
 | some (.struct fs) => if (!P.stoodInHeld t && !P.eqGuardType P.depth t && fs.toList.zipIdx.all fun p => p.1.offset == p.2 && p.1.name != "_" && (match b0 P p.1.type with | some false => true | _ => false)) = true then some (fs.toList.map (·.type)) else none
 | _=>none
theorem rH{P:Program}{t:TypeId}{ts:List TypeId}(h:qn P t=some ts):sc P t ts:=by
 unfold qn at h
 split at h
 ·rename_i fs hu
  split at h
  ·rename_i hc
   cases h
   simp only[Bool.and_eq_true,Bool.not_eq_true',List.all_eq_true]at hc
   have hf:P.fieldsOf t=fs:=by simp[Program.fieldsOf,hu]
   refine⟨by rw[hf];exact hu,hc.1.1,hc.1.2,by rw[hf],fun i f hi=>?_⟩
   rw[hf]at hi
   have:=hc.2 (f,i) (by rw[List.mem_iff_getElem?];exact⟨i,by rw[List.getElem?_zipIdx,hi];simp⟩)
   simp only[beq_iff_eq,bne_iff_ne]at this
   refine⟨this.1.2,this.1.1,?_⟩
   have h2:=this.2
   split at h2
   ·assumption
   ·cases h2
  ·cases h
 ·cases h
noncomputable def Fl:TypeId→Option (List TypeId):=qn Tryz.prog
set_option maxRecDepth 1000000 in
theorem md:Tryz.prog.funcs.toList.all pf=true:=by kernel_rfl
theorem fit:p7 Tryz.prog Fl:=⟨fun t ts h=>rH h,(uG md).1,by kernel_rfl⟩
end Go.Proofs.YtelgfgfgghpjgaaGreatDoor.Am
end
section
namespace Go.Proofs.YtelgfgfgghpjgaaGreatDoor.Am
set_option linter.unusedVariables false
section
variable {P:Program} {F:TypeId→Option (List TypeId)} {K:AV→Prop} {KL:AV→SH→Prop} {L:SH}
theorem aX(v:AV):W0.opt (some v) K=K v:=propext ⟨fun⟨u,h1,h2⟩=>by cases h1;exact h2,fun h=>⟨v,rfl,h⟩⟩
theorem pm:W0.opt none K=False:=propext ⟨fun⟨u,h1,h2⟩=>(by cases h1),fun h=>h.elim⟩
theorem vc(x y:AV):W.pick (.bool true) x y K=K x:=propext ⟨fun⟨t,h1,h2⟩=>by cases h1;exact h2,fun h=>⟨true,rfl,h⟩⟩
theorem vd(x y:AV):W.pick (.bool false) x y K=K y:=propext ⟨fun⟨t,h1,h2⟩=>by cases h1;exact h2,fun h=>⟨false,rfl,h⟩⟩
theorem v5(p:Bool)(A:(AV→SH→Prop)→Prop):W.grd (.bool p) true A L KL=((p=true→A KL)∧(p=false→KL aA L)):=propext ⟨fun⟨h⟩=>by
  rcases h with⟨h1,h2⟩ | ⟨h1 | h1,h2⟩
  ·cases h1;exact⟨fun _=>h2,fun h=>(by cases h)⟩
  ·cases h1;exact⟨fun h=>(by cases h),fun _=>h2⟩
  ·(cases h1),fun⟨h1,h2⟩=>by
  cases p with
  | true=>exact⟨.inl ⟨rfl,h1 rfl⟩⟩
  | false=>exact⟨.inr ⟨.inl rfl,h2 rfl⟩⟩⟩
theorem v8(p:Bool)(A:(AV→SH→Prop)→Prop):W.grd (.bool p) false A L KL=((p=false→A KL)∧(p=true→KL aA L)):=propext ⟨fun⟨h⟩=>by
  rcases h with⟨h1,h2⟩ | ⟨h1 | h1,h2⟩
  ·cases h1;exact⟨fun _=>h2,fun h=>(by cases h)⟩
  ·cases h1;exact⟨fun h=>(by cases h),fun _=>h2⟩
  ·(cases h1),fun⟨h1,h2⟩=>by
  cases p with
  | false=>exact⟨.inl ⟨rfl,h1 rfl⟩⟩
  | true=>exact⟨.inr ⟨.inl rfl,h2 rfl⟩⟩⟩
theorem ve{KF:AV→SH→W.Fp→Prop}(p:Bool)(A:(AV→SH→W.Fp→Prop)→Prop):W.dgrd (.bool p) false A L KF=((p=false→A KF)∧(p=true→KF aA L ⟨[],[],[],L.names⟩)):=propext ⟨fun⟨h⟩=>by
  rcases h with⟨h1,h2⟩ | ⟨h1 | h1,h2⟩
  ·cases h1;exact⟨fun _=>h2,fun h=>(by cases h)⟩
  ·cases h1;exact⟨fun h=>(by cases h),fun _=>h2⟩
  ·(cases h1),fun⟨h1,h2⟩=>by
  cases p with
  | false=>exact⟨.inl ⟨rfl,h1 rfl⟩⟩
  | true=>exact⟨.inr ⟨.inl rfl,h2 rfl⟩⟩⟩
theorem vf(p:Bool)(A B:Prop):W.cond (.bool p) A B=((p=true→A)∧(p=false→B)):=propext ⟨fun⟨h⟩=>by
  rcases h with⟨h1,h2⟩ | ⟨h1,h2⟩
  ·cases h1;exact⟨fun _=>h2,fun h=>(by cases h)⟩
  ·cases h1;exact⟨fun h=>(by cases h),fun _=>h2⟩,fun⟨h1,h2⟩=>by
  cases p with
  | true=>exact⟨.inl ⟨rfl,h1 rfl⟩⟩
  | false=>exact⟨.inr ⟨rfl,h2 rfl⟩⟩⟩
theorem b8(op:BinOp)(t:TypeId)(x y:AV):W.bin P F op t x y K=W0.opt (cX P F op t x y) K:=propext ⟨fun h=>h.h,fun h=>⟨h⟩⟩
theorem wa(t:TypeId)(k:IntKind)(a b:Int):W.bin P F .lss t (.int k a) (.int k b) K=K (.bool (decide (a<b))):=by rw[b8];simp[cX,aX]
theorem we(t:TypeId)(k:IntKind)(a b:Int):W.bin P F .leq t (.int k a) (.int k b) K=K (.bool (decide (a≤b))):=by rw[b8];simp[cX,aX]
theorem wh(t:TypeId)(k:IntKind)(a b:Int):W.bin P F .gtr t (.int k a) (.int k b) K=K (.bool (decide (b<a))):=by rw[b8];simp[cX,aX]
theorem wi(t:TypeId)(k:IntKind)(a b:Int):W.bin P F .geq t (.int k a) (.int k b) K=K (.bool (decide (b≤a))):=by rw[b8];simp[cX,aX]
theorem wj(t:TypeId)(k:IntKind)(a b:Int):W.bin P F .eql t (.int k a) (.int k b) K=K (.bool (decide (a=b))):=by
 rw[b8];simp only[cX,ne_eq,not_true_eq_false,if_false,aX];rw[show(a==b)=decide (a=b)from by cases h:(a==b)<;>simp_all]
theorem wm(t:TypeId)(k:IntKind)(a b:Int):W.bin P F .neq t (.int k a) (.int k b) K=K (.bool (decide (a≠b))):=by
 rw[b8];simp only[cX,ne_eq,not_true_eq_false,if_false,aX];rw[show(a != b)=decide (¬a=b)from by cases h:(a != b)<;>simp_all]
theorem wo(t:TypeId)(k:IntKind)(a b:Int):W.bin P F .add t (.int k a) (.int k b) K=K (.int k (k.wrap (a+b))):=by rw[b8];simp[cX,aX]
theorem wq(t:TypeId)(k:IntKind)(a b:Int):W.bin P F .sub t (.int k a) (.int k b) K=K (.int k (k.wrap (a-b))):=by rw[b8];simp[cX,aX]
theorem wu(t:TypeId)(k:IntKind)(a b:Int):W.bin P F .mul t (.int k a) (.int k b) K=K (.int k (k.wrap (a*b))):=by rw[b8];simp[cX,aX]
theorem wv(t:TypeId)(k:IntKind)(a b:Int):W.bin P F .quo t (.int k a) (.int k b) K=(b≠0∧K (.int k (k.wrap (a.tdiv b)))):=by
 rw[b8];by_cases h:b=0<;>simp[cX,aX,pm,h]
theorem wx(t:TypeId)(k:IntKind)(a b:Int):W.bin P F .rem t (.int k a) (.int k b) K=(b≠0∧K (.int k (a.tmod b))):=by
 rw[b8];by_cases h:b=0<;>simp[cX,aX,pm,h]
theorem wz(t:TypeId)(a b:List UInt8):W.bin P F .eql t (.str a) (.str b) K=K (.bool (decide (a=b))):=by
 rw[b8];simp only[cX,aX];rw[show(a==b)=decide (a=b)from by cases h:(a==b)<;>simp_all]
theorem wA(t:TypeId)(a b:List UInt8):W.bin P F .neq t (.str a) (.str b) K=K (.bool (decide (a≠b))):=by
 rw[b8];simp only[cX,aX];rw[show(!(a==b))=decide (a≠b)from by cases h:(a==b)<;>simp_all]
theorem wB(t:TypeId)(h:P.underlying t=some .bool)(a b:Bool):W.bin P F .eql t (.bool a) (.bool b) K=K (.bool (a==b)):=by rw[b8];simp[cX,kR,h,aX]
theorem wC(t:TypeId)(h:P.underlying t=some .bool)(a b:Bool):W.bin P F .neq t (.bool a) (.bool b) K=K (.bool (!(a==b))):=by rw[b8];simp[cX,kR,h,aX]
theorem vg(b:Bool):W.un .not (.bool b) K=K (.bool !b):=propext ⟨fun⟨v,h1,h2⟩=>by cases h1;exact h2,fun h=>⟨_,rfl,h⟩⟩
theorem vh(k:IntKind)(n:Int):W.un .neg (.int k n) K=K (.int k (k.wrap (0-n))):=propext ⟨fun⟨v,h1,h2⟩=>by cases h1;exact h2,fun h=>⟨_,rfl,h⟩⟩
theorem tR(g:FuncId)(cs args:List AV):W.call P (.fn g cs) args L KL=al P g (args++cs) L KL:=propext ⟨fun h=>h.h,fun h=>⟨h⟩⟩
theorem sw{KN:AV→SH→List Nat→Prop}(us:List W.WR)(i:Nat)(g:FuncId)(cs args:List AV):W.dcall P us i (.fn g cs) args L KN=∃Kc R:SH,L.Perm (Kc++R)∧(∀x∈us,W.free x ⟨i,[],Kc.names,[],true,[]⟩)∧al P g (args++cs) Kc fun v K'=>KN v (K'++R) Kc.names:=propext ⟨fun h=>h.h,fun h=>⟨h⟩⟩
theorem tS{KF:W.Fp→Prop}(r:W.Fp):W.note r KF=KF r:=propext ⟨fun h=>h.h r rfl,fun h=>⟨fun r' e=>e▸h⟩⟩
def ax(P:Program)(f:FuncId)(args:List AV)(v:AV):Prop:=al P f args [] fun u K=>u=v∧K=[]
theorem ax.call{f:FuncId}{args:List AV}{v:AV}(h:ax P f args v)(hk:KL v L):al P f args L KL:=
 al.frame h (K:=[]) (R:=L) (.refl _) fun u K ⟨h1,h2⟩=>by subst h1;subst h2;exact hk
theorem tT{α:Type}(S:α→List AV×SH)(m:α→Nat)(G:α→Prop){B:List AV→SH→W.Kn→Prop}{vs:List AV}(a0:α)(h0:G a0)(hv:vs=(S a0).1)(hL:L=(S a0).2)
  (h:∀a,G a→B (S a).1 (S a).2 fun vs' L'=>∃a',G a'∧m a'<m a∧bM vs' L' (S a').1 (S a').2):W.loop B vs L:=by
 refine⟨fun n vs L=>∃a,G a∧m a=n∧vs=(S a).1∧L=(S a).2,⟨m a0,_,_,.refl _ _,a0,h0,rfl,hv,hL⟩,?_⟩
 rintro n vs L ⟨a,ha,rfl,rfl,rfl⟩
 have e:(fun vs' L'=>∃a',G a'∧m a'<m a∧bM vs' L' (S a').1 (S a').2)=(fun vs' L'=>∃m_1 vs2 L2,m_1<m a∧bM vs' L' vs2 L2∧∃a,G a∧m a=m_1∧vs2=(S a).1∧L2=(S a).2):=by
  funext vs' L'
  apply propext
  constructor
  ·rintro⟨a',g1,g2,g3⟩;exact⟨m a',_,_,g2,g3,a',g1,rfl,rfl,rfl⟩
  ·rintro⟨n,vs2,L2,g1,g2,a',g3,rfl,rfl,rfl⟩;exact⟨a',g3,g1,g2⟩
 rw[←e]
 exact h a ha
end
end Go.Proofs.YtelgfgfgghpjgaaGreatDoor.Am
end
