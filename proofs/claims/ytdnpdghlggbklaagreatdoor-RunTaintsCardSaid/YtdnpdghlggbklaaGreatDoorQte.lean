/- A part of the proof; the statement is proved in the last part. -/
import Derived.Test.YtdnpdghlggbklaaGreatDoorQtd
import Derived.Test.YtdnpdghlggbklaaGreatDoorProg
import Derived.KernelRfl
import Derived.IntWalk
set_option linter.unusedSimpArgs false
set_option linter.unusedVariables false
namespace Go.Proofs.YtdnpdghlggbklaaGreatDoor.Am
section
open Go.RowKit
namespace W
structure pick(c x y:AV)(K:AV→Prop):Prop where
 h:W0.pick c x y K
structure un(op:UnOp)(x:AV)(K:AV→Prop):Prop where
 h:W0.un op x K
structure bin(P:Program)(F:TypeId→Option (List TypeId))(op:BinOp)(t:TypeId)(x y:AV)(K:AV→Prop):Prop where
 h:W0.bin P F op t x y K
structure conv(k:IntKind)(x:AV)(K:AV→Prop):Prop where
 h:W0.conv k x K
structure convS(x:AV)(K:AV→Prop):Prop where
 h:W0.convS x K
structure faddr(off:Nat)(x:AV)(K:AV→Prop):Prop where
 h:W0.faddr off x K
structure fld(ag:Bool)(n off:Nat)(x:AV)(K:AV→Prop):Prop where
 h:W0.fld ag n off x K
structure load(ag:Bool)(n:Nat)(a:AV)(L:SH)(K:AV→Prop):Prop where
 h:W0.loadR ag n a L K
structure store(n:Nat)(a v:AV)(L:SH)(K:SH→Prop):Prop where
 h:W0.storeR n a v L K
structure idx(n:Nat)(x ix:AV)(L:SH)(K:AV→Prop):Prop where
 h:W0.idxR n x ix L K
structure idxP(len n:Nat)(x ix:AV)(K:AV→Prop):Prop where
 h:W0.idxP len n x ix K
structure ixS(x ix:AV)(K:AV→Prop):Prop where
 h:W0.ixS x ix K
structure ixA(ag:Bool)(len n:Nat)(x ix:AV)(K:AV→Prop):Prop where
 h:W0.ixA ag len n x ix K
structure ext(i:Nat)(x:AV)(K:AV→Prop):Prop where
 h:W0.ext i x K
structure nilchk(x:AV)(K:AV→Prop):Prop where
 h:W0.nilchk x K
structure build(z:List AV)(parts:List (Nat×Nat×AV))(K:AV→Prop):Prop where
 h:W0.build z parts K
structure alloc(cs:List AV)(L:SH)(K:AV→SH→Prop):Prop where
 h:W0.alloc cs L K
structure box(x:AV)(L:SH)(K:AV→SH→Prop):Prop where
 h:W0.box x L K
structure bslice(n:Nat)(z:List AV)(len:Nat)(parts:List (Nat×AV))(L:SH)(K:AV→SH→Prop):Prop where
 h:W0.bslice n z len parts L K
structure mslice(n by_:Nat)(z:List AV)(l c:AV)(L:SH)(K:AV→SH→Prop):Prop where
 h:W0.mslice n by_ z l c L K
structure append(n by_:Nat)(s x:AV)(L:SH)(K:AV→SH→Prop):Prop where
 h:W0.appendR n by_ s x L K
structure clear(n:Nat)(z:List AV)(x:AV)(L:SH)(K:SH→Prop):Prop where
 h:W0.clearR n z x L K
structure len(x:AV)(K:AV→Prop):Prop where
 h:W0.len x K
structure lenS(x:AV)(K:AV→Prop):Prop where
 h:W0.lenS x K
structure mnx(mx:Bool)(x y:AV)(K:AV→Prop):Prop where
 h:W0.mnx mx x y K
structure slice(n:Nat)(x:AV)(lo hi mx:Option AV)(L:SH)(K:AV→Prop):Prop where
 h:W0.sliceR n x lo hi mx L K
structure sliceS(x:AV)(lo hi:Option AV)(K:AV→Prop):Prop where
 h:W0.sliceS x lo hi K
structure mkmap(L:SH)(K:AV→SH→Prop):Prop where
 h:W0.mkmap L K
structure look(z:AV)(ok:Bool)(m k:AV)(L:SH)(K:AV→Prop):Prop where
 h:W0.lookR z ok m k L K
structure mup(m k v:AV)(L:SH)(K:SH→Prop):Prop where
 h:W0.mupR m k v L K
structure rngS(x:AV)(L:SH)(K:AV→SH→Prop):Prop where
 h:W0.rngS x L K
structure nxt(it:AV)(L:SH)(K:AV→SH→Prop):Prop where
 h:W0.nextR it L K
structure call(P:Program)(fv:AV)(args:List AV)(L:SH)(K:AV→SH→Prop):Prop where
 h:match fv with
  |.fn g cs=>af P g (args++cs) L K
  |_=>False
section
variable (P:Program) (F:TypeId→Option (List TypeId))
def op(o:Op)(ρ:Operand→AV)(L:SH)(K:AV→SH→Prop):Prop:=
 let k:=λv=>K v L
 match o with
 |.move x|.assign x=>K (ρ x) L
 |.pick c x y=>pick (ρ c) (ρ x) (ρ y) k
 | .alloc t=>match W0.zof P t with
  |some cs=>alloc cs L K
  |none=>False
 |.box _ x=>box (ρ x) L K
 | .build t parts=>match P.underlying t,ez P t with
  | some (.struct fs),some (.agg z)=>if(fs.toList.all λf=>(aV P f.type).isSome)=true then
    (match cu (parts.toList.map λp=>(nv P fs p.1).map λq=>(q.1,q.2,ρ p.2))with
     |some ps=>build z ps k
     |none=>False)
   else False
  | some (.array _ e),some (.agg z)=>(match aV P e with
   |some n=>build z (parts.toList.map λp=>(p.1*n,n,ρ p.2)) k
   |none=>False)
  |_,_=>False
 | .buildSlice t len parts=>match P.underlying t with
  | some (.slice e)=>match aV P e,W0.zof P e with
   |some n,some z=>if z.length=n∧0<n then bslice n z len (parts.toList.map λp=>(p.1,ρ p.2)) L K else False
   |_,_=>False
  |_=>False
 | .load t a=>match fm P t,aV P t with
  |some ag,some n=>load ag n (ρ a) L k
  |_,_=>False
 | .store t a x=>match aV P t with
  |some n=>store n (ρ a) (ρ x) L (K (.tup []))
  |none=>False
 |.nilCheck x=>nilchk (ρ x) k
 |.binOp op t x y _=>bin P F op t (ρ x) (ρ y) k
 |.unOp op _ x=>un op (ρ x) k
 | .convert s d x=>match P.underlying s,P.underlying d with
  |some (.int _),some (.int kd)=>conv kd (ρ x) k
  |some .string,some .string=>convS (ρ x) k
  |_,_=>False
 |.makeFunc (.func f) first cap=>if first.size=0 then K (.fn f (cap.toList.map ρ)) L else False
 | .makeSlice t l c=>match P.underlying t with
  | some (.slice e)=>match aV P e,jw P e,W0.zof P e with
   |some n,some by_,some z=>if z.length=n∧0<n then mslice n by_ z (ρ l) (ρ c) L K else False
   |_,_,_=>False
  |_=>False
 | .slice t x lo hi mx=>if(hi.isNone&&mx.isSome)=true then False else match P.underlying t with
  | some (.slice e)=>(match aV P e with
   |some n=>slice n (ρ x) (lo.map ρ) (hi.map ρ) (mx.map ρ) L k
   |none=>False)
  |some .string=>if mx.isNone=true then sliceS (ρ x) (lo.map ρ) (hi.map ρ) k else False
  |_=>False
 | .fieldAddr s x f=>match P.underlying s with
  | some (.struct fs)=>match fs[f]? with
   | some f=>(match aV P f.type with
    |some n=>if n=0 then False else faddr f.offset (ρ x) k
    |none=>False)
   |none=>False
  |_=>False
 | .field s x f=>match P.underlying s with
  | some (.struct fs)=>match fs[f]? with
   | some f=>(match fm P f.type,aV P f.type with
    |some ag,some n=>fld ag n f.offset (ρ x) k
    |_,_=>False)
   |none=>False
  |_=>False
 | .indexAddr t x ix=>match P.underlying t with
  | some (.slice e)=>(match aV P e with
   |some n=>idx n (ρ x) (ρ ix) L k
   |none=>False)
  | some (.array len e)=>(match aV P e with
   |some n=>idxP len n (ρ x) (ρ ix) k
   |none=>False)
  |_=>False
 | .index t x ix=>match P.underlying t with
  |some .string=>ixS (ρ x) (ρ ix) k
  | some (.array len e)=>(match fm P e,aV P e with
   |some ag,some n=>ixA ag len n (ρ x) (ρ ix) k
   |_,_=>False)
  |_=>False
 |.extract x i=>ext i (ρ x) k
 |.makeMap _ none=>mkmap L K
 | .lookup t m y ok=>match P.underlying t with
  | some (.map kt et)=>(match P.underlying kt,ez P et with
   |some .string,some z=>look z ok (ρ m) (ρ y) L k
   |_,_=>False)
  |_=>False
 | .mapUpdate t m y x=>match P.underlying t with
  | some (.map kt _)=>(match P.underlying kt with
   |some .string=>mup (ρ m) (ρ y) (ρ x) L (K (.tup []))
   |_=>False)
  |_=>False
 | .range t x=>match P.underlying t with
  |some .string=>rngS (ρ x) L K
  |_=>False
 |.next it true=>nxt (ρ it) L K
 | .call c=>match c.callee with
  | .builtin .len=>(match c.args.toList,(c.argTypes[0]?).bind P.underlying with
   |[x],some (.slice _)=>len (ρ x) k
   |[x],some .string=>lenS (ρ x) k
   |[x],some (.array n _)=>(match ρ x with|.str _=>False|_=>K (.int .i64 n) L)
   |_,_=>False)
  | .builtin .append=>(match c.args.toList,c.argTypes.toList with
   | [s,x],[t,tx]=>(match P.underlying t,P.underlying tx with
    | some (.slice e),some (.slice _)=>(match aV P e,jw P e,W0.zof P e with
     |some n,some by_,some z=>if z.length=n∧0<n then append n by_ (ρ s) (ρ x) L K else False
     |_,_,_=>False)
    |_,_=>False)
   |_,_=>False)
  | .builtin .min=>(match c.args.toList with
   |[x,y]=>mnx false (ρ x) (ρ y) k
   |_=>False)
  | .builtin .max=>(match c.args.toList with
   |[x,y]=>mnx true (ρ x) (ρ y) k
   |_=>False)
  | .builtin .clear=>(match c.args.toList,c.argTypes.toList with
   | [x],[t]=>(match P.underlying t with
    | some (.slice e)=>(match aV P e,W0.zof P e with
     |some n,some z=>if(z.length=n∧0<n)∧z.all AV.one=true then clear n z (ρ x) L (K (.tup []))else False
     |_,_=>False)
    |_=>False)
   |_,_=>False)
  |.value f=>call P (ρ f) (c.args.toList.map ρ) L K
  |_=>False
 |_=>False
end
theorem op_raw{P:Program}{F:TypeId→Option (List TypeId)}{o:Op}{ρ:Operand→AV}{L:SH}{K:AV→SH→Prop}(h:op P F o ρ L K):W0.op P F o ρ L K:=by
 cases o with
 |makeFunc fn first cap=>
  cases fn with
  |func f=>
   simp only[op]at h;simp only[W0.op];split at h
   ·rename_i hc;rw[if_pos hc];exact h
   ·exact h.elim
  |_=>exact h
 |move x=>exact h
 |assign x=>exact h
 |pick c x y=>exact h.h
 |box t x=>exact h.h
 |nilCheck x=>exact h.h
 |binOp op t x y c=>exact h.h
 |unOp op t x=>exact h.h
 |extract x i=>exact h.h
 |makeMap t r=>
  cases r with
  |none=>exact h.h
  |some r=>exact h.elim
 |next it s=>
  cases s with
  |true=>exact h.h
  |false=>exact h.elim
 |lookup t m y ok|mapUpdate t m y x|range t x|alloc t|build t ps|buildSlice t l ps|load t a|store t a x|convert s d x|makeSlice t l c|slice t x lo hi mx|fieldAddr s x f|field s x f|indexAddr t x ix|index t x ix|call c=>
  simp only[op]at h;simp only[W0.op]
  repeat' split at h
  all_goals first
   |exact h.elim
   |(have h:=h.h;split at h<;>first|exact h.elim|(simp only[*];exact h))
   |(simp only[*,if_true,and_self];first|exact h.h|exact h)
   |(simp_all;done)
   |(simp_all;first|exact h.h|exact h)
 |_=>exact h.elim
structure grd(x:AV)(want:Bool)(A:(AV→SH→Prop)→Prop)(L:SH)(K:AV→SH→Prop):Prop where
 h:(x=.bool want∧A K)∨((x=.bool (!want)∨x=bL)∧K bL L)
section
variable (P:Program) (F:TypeId→Option (List TypeId)) (ops:Array Oper)
def sq:List Nat→List AV→SH→(List AV→SH→Prop)→Prop
 |[],τ,L,K=>K τ L
 | i::l,τ,L,K=>match ops[i]? with
  |none=>False
  | some o=>match o.guard with
   |none=>op P F o.op (kC τ) L λv L=>sq l (gj τ o.dst v) L K
   | some (j,want)=>match (ops[j]?).bind (·.dst)with
    |some d=>grd (τ.getD d .junk) want (op P F o.op (kC τ) L) L λv L=>sq l (gj τ o.dst v) L K
    |none=>False
structure WR where
 op:Nat
 reads:List Nat
 writes:List Nat
 made:List Nat
 isCall:Bool
 old:List Nat
def free(x y:WR):Prop:=(∀c∈x.writes,c∉y.reads∧c∉y.writes)∧(∀c∈x.reads,c∉y.writes)∧(∀c∈x.made,c∉y.reads∧c∉y.writes)∧
 (x.isCall=true→y.isCall=false∧y.writes=[]∧∀c∈y.reads,c∈x.old)∧(y.isCall=true→x.writes=[])
def isMem:Op→Bool
 |.load ..|.store ..|.indexAddr ..|.slice ..|.alloc ..|.box ..|.buildSlice ..|.makeSlice ..|.makeMap ..|.range ..|.lookup ..|.mapUpdate ..|.next ..=>true
 | .call c=>match c.callee with
  |.builtin .append=>true
  |.builtin .clear=>true
  |_=>false
 |_=>false
structure calm(us:List WR)(y:WR)(A:Prop):Prop where
 h:(∀x∈us,free x y)∧A
structure dcall(us:List WR)(i:Nat)(fv:AV)(args:List AV)(L:SH)(K:AV→SH→List Nat→Prop):Prop where
 h:match fv with
  |.fn g cs=>∃Kc R:SH,L.Perm (Kc++R)∧(∀x∈us,free x ⟨i,[],Kc.names,[],true,[]⟩)∧af P g (args++cs) Kc λv K'=>K v (K'++R) Kc.names
  |_=>False
structure Fp where
 reads:List Nat
 writes:List Nat
 made:List Nat
 old:List Nat
def isCallV:Op→Bool
 | .call c=>match c.callee with
  |.value _=>true
  |_=>false
 |_=>false
structure note(r0:Fp)(K:Fp→Prop):Prop where
 h:∀r,r=r0→K r
def dop(us:List WR)(i:Nat)(o:Op)(ρ:Operand→AV)(L:SH)(K:AV→SH→Fp→Prop):Prop:=
 match o with
 | .call c=>match c.callee with
  |.value f=>dcall P us i (ρ f) (c.args.toList.map ρ) L λv L' ks=>note ⟨[],ks,[],L.names⟩ λr=>K v L' r
  | .builtin .append=>(match c.args.toList with
   |[s,x]=>calm us ⟨i,aa (ρ s)++aa (ρ x),aa (ρ s),[],false,[]⟩ (op P F o ρ L λv L'=>note ⟨aa (ρ s)++aa (ρ x),aa (ρ s),aa v,[]⟩ λr=>K v L' r)
   |_=>False)
  | .builtin .clear=>(match c.args.toList with
   |[x]=>calm us ⟨i,aa (ρ x),aa (ρ x),[],false,[]⟩ (op P F o ρ L λv L'=>note ⟨aa (ρ x),aa (ρ x),[],[]⟩ λr=>K v L' r)
   |_=>False)
  |_=>op P F o ρ L λv L'=>K v L' ⟨[],[],[],[]⟩
 | o=>if isMem o then calm us ⟨i,aF o ρ,aD o ρ,[],false,[]⟩ (op P F o ρ L λv L'=>note ⟨aF o ρ,aD o ρ,if W0.makes o then aa v else [],[]⟩ λr=>K v L' r)
  else op P F o ρ L λv L'=>K v L' ⟨[],[],[],[]⟩
def push(i:Nat)(o:Op)(r:Fp)(rs:List WR):List WR:=if isCallV o||isMem o then⟨i,r.reads,r.writes,r.made,isCallV o,r.old⟩::rs else rs
structure dgrd(x:AV)(want:Bool)(A:(AV→SH→Fp→Prop)→Prop)(L:SH)(K:AV→SH→Fp→Prop):Prop where
 h:(x=.bool want∧A K)∨((x=.bool (!want)∨x=bL)∧K bL L ⟨[],[],[],L.names⟩)
def dr(before:List Nat):List Nat→List AV→SH→List WR→(List AV→SH→Prop)→Prop
 |[],τ,L,_,K=>K τ L
 | i::l,τ,L,rs,K=>match ops[i]? with
  |none=>False
  | some o=>match o.guard with
   |none=>dop P F (rs.filter λx=>!(before.getD i 0).testBit x.op) i o.op (kC τ) L λv L r=>dr before l (gj τ o.dst v) L (push i o.op r rs) K
   | some (j,want)=>match (ops[j]?).bind (·.dst)with
    |some d=>dgrd (τ.getD d .junk) want (dop P F (rs.filter λx=>!(before.getD i 0).testBit x.op) i o.op (kC τ) L) L λv L r=>dr before l (gj τ o.dst v) L (push i o.op r rs) K
    |none=>False
end
end W
section
variable {P:Program} {F:TypeId→Option (List TypeId)} {ops:Array Oper} {base:Nat}
open Classical in
noncomputable def OV (g:FuncId) (as_:List AV) (Hi:ac) (v:AV) (Ho:ac) (call:FuncId→List AV→ac→Option (AV×ac)):FuncId→List AV→ac→Option (AV×ac):=
 λf args H=>if f=g∧args=as_∧H=Hi then some (v,Ho)else call f args H
def Lu(call:FuncId→List AV→ac→Option (AV×ac)):Prop:=∀f args H v H',Bd H→call f args H=some (v,H')→Cf H H'
theorem Hf{g:FuncId}{as_:List AV}{Hi Ho:ac}{v:AV}{call:FuncId→List AV→ac→Option (AV×ac)}(hs:eC P call)(hc:p7 P g as_ Hi v Ho)(hn:Hi.next≤Ho.next)(hb:∃fn c,P.funcs[g]? =some fn∧fn.body=some c):eC P (OV g as_ Hi v Ho call):=by
 refine⟨λf args H u H' h=>?_,λf args H u H' h=>?_,λf args H u H' h=>?_⟩ <;>
 ·unfold OV at h;split at h
  ·rename_i hk;obtain⟨rfl,rfl,rfl⟩:=hk;cases h;assumption
  ·first|exact hs.ok _ _ _ _ _ h|exact hs.next _ _ _ _ _ h|exact hs.body _ _ _ _ _ h
theorem MH{g:FuncId}{as_:List AV}{Hi Ho:ac}{v:AV}{call:FuncId→List AV→ac→Option (AV×ac)}(hs:Lu call)(hc:Bd Hi→Cf Hi Ho):Lu (OV g as_ Hi v Ho call):=λf args H u H' hb h=>by
 unfold OV at h;split at h
 ·rename_i hk;obtain⟨rfl,rfl,rfl⟩:=hk;cases h;exact hc hb
 ·exact hs _ _ _ _ _ hb h
theorem MI{g:FuncId}{as_:List AV}{Hi Ho:ac}{v:AV}{call:FuncId→List AV→ac→Option (AV×ac)}:OV g as_ Hi v Ho call g as_ Hi=some (v,Ho):=by unfold OV;rw[if_pos ⟨rfl,rfl,rfl⟩]
theorem Hg{g:FuncId}{as_:List AV}{Hi Ho:ac}{v:AV}{call:FuncId→List AV→ac→Option (AV×ac)}{f:FuncId}{args:List AV}{H:ac}(h:Hi.next<H.next):OV g as_ Hi v Ho call f args H=call f args H:=by unfold OV;rw[if_neg];rintro⟨_,_,rfl⟩;omega
theorem JL{call1 call2:FuncId→List AV→ac→Option (AV×ac)}{i:Nat}{τ:List AV}{H:ac}(h:∀f args,call1 f args H=call2 f args H):kK P F call1 ops base i τ H=kK P F call2 ops base i τ H:=by
 unfold kK;split
 ·rfl
 ·split
  ·split
   ·rfl
   ·rw[h]
   ·rfl
  ·rfl
  ·rfl
theorem Ej{call1 call2:FuncId→List AV→ac→Option (AV×ac)}{n:Nat}(hag:∀f args H,n<H.next→call1 f args H=call2 f args H)(hs:eC P call1):∀(l:List Nat) (τ:List AV) (H:ac) (r:List AV×ac),n<H.next→nz P F call1 ops base l τ H=some r→nz P F call2 ops base l τ H=some r
 |[],τ,H,r,_,h=>h
 | i::l,τ,H,r,hn,h=>by
  unfold nz at h ⊢;rw[←JL (call1:=call1) (λf args=>hag f args H hn)];split at h
  ·rename_i τ1 H1 hst;exact Ej hag hs l τ1 H1 r (Yw hn (nD hs hst)) h
  ·cases h
theorem p7.bump{f:FuncId}{args:List AV}{H H1:ac}{v:AV}(h:p7 P f args H v H1)(l:List Nat):p7 P f args H v {H1 with next:=H1.next+1,log:=l}:=by
 intro w σ vs hW hvs;refine(h w σ vs hW hvs).mono ?_;rintro e w' ⟨v',σ',rfl,k1,k2,k3,k4⟩;have ho:aK σ' ({H1 with next:=H1.next+1,log:=l}:ac)=aK σ' H1:=aK.congr λ_=>rfl
 exact⟨v',σ',rfl,by rw[ho];exact k1,k2.congr (λ_=>rfl) (Zu _),by rw[ho];exact k3,k4⟩
theorem Fr.chg{L L':SH}{H H':ac}(h:Fr H.next L H L' H')(l:List Nat)(hl:∀b,b∈H.log→b∈l)(hL:∀b,b∈L.names→b∈l)(n:Nat)(hn:H'.next≤n):Cf H {H' with next:=n,log:=l} where
 next:=Yn h.next hn
 dom:=λb hb h0=>h.dom b hb h0
 keep:=λb hb hnl=>by
  show H'.get b=H.get b;cases hg:H.get b with
  |none=>exact h.dom b hb hg
  |some x=>exact(h.keep b x hg (λhm=>hnl (hL b hm))).1
 log:=hl
 bd:=λ_ b hb=>h.bd b (Yn hn hb)
theorem Bd.bump{H:ac}(h:Bd H)(l:List Nat)(n:Nat)(hn:H.next≤n):Bd {H with next:=n,log:=l}:=λb hb=>h b (Yn hn hb)
theorem po.fr{b:Nat}{L L':SH}{H H':ac}(h:po b L H L' H')(hb:base≤b):Fr base L H L' H':=
 ⟨Nat.le_of_eq h.next.symm,h.bd,h.sub,h.keep,λc hc=>h.dom c ZJ,λc hc hlt=>by
  rcases h.fresh c hc with rfl|h1
  ·omega
  ·exact h1⟩
theorem Ek{o:Oper}{τ:List AV}{j d:Nat}{want:Bool}(hg:o.guard=some (j,want))(hd:(ops[j]?).bind (·.dst)=some d)(h:τ.getD d .junk=.bool want):dF ops o τ=some true:=by
 have:τ[d]? =some (.bool want):=by
  cases hx:τ[d]? with
  |none=>rw[List.getD,hx]at h;cases h
  |some x=>rw[List.getD,hx]at h;exact congrArg some h
 simp[dF,hg,hd,this]
theorem Hj{o:Oper}{τ:List AV}{j d:Nat}{want:Bool}(hg:o.guard=some (j,want))(hd:(ops[j]?).bind (·.dst)=some d)(h:τ.getD d .junk=.bool (!want)∨τ.getD d .junk=bL):dF ops o τ=some false:=by
 rcases h with h|h
 ·have:τ[d]? =some (.bool (!want)):=by
   cases hx:τ[d]? with
   |none=>rw[List.getD,hx]at h;cases h
   |some x=>rw[List.getD,hx]at h;exact congrArg some h
  simp[dF,hg,hd,this]
 ·have:τ[d]? =some (.tup []):=by
   cases hx:τ[d]? with
   |none=>rw[List.getD,hx]at h;cases h
   |some x=>rw[List.getD,hx]at h;exact congrArg some h
  simp[dF,hg,hd,this]
theorem Ci{o:Oper}{τ:List AV}(hg:o.guard=none):dF ops o τ=some true:=by simp[dF,hg]
theorem qc:∀(l:List Nat) (τ:List AV) (L:SH) (K:List AV→SH→Prop),W.sq P F ops l τ L K→l.Nodup→∀H,Bd H→lC L H→(∀i∈l,base+i<H.next∧H.get (base+i)=none)→base≤H.next→
  ∃call τ' H' L',eC P call∧Lu call∧nz P F call ops base l τ H=some (τ',H')∧Fr base L H L' H'∧K τ' L'
 |[],τ,L,K,h,_,H,hb,hs,_,_=>⟨Lt,τ,H,L,xK P,λ_ _ _ _ _ _ h=>(by cases h),rfl,.refl hb hs,h⟩
 | i::l,τ,L,K,h,hnd,H,hb,hs,hfr,hbase=>by
  have hnd':=Yj.1 hnd;have h0:=hfr i ZM;unfold W.sq at h;split at h
  ·exact h.elim
  ·rename_i o ho;have go:∀(Kc:AV→SH→Prop),dF ops o τ=some true→W.op P F o.op (kC τ) L Kc→(∀v L1,Kc v L1→W.sq P F ops l (gj τ o.dst v) L1 K)→
     ∃call τ' H' L',eC P call∧Lu call∧nz P F call ops base (i::l) τ H=some (τ',H')∧Fr base L H L' H'∧K τ' L':=by
    intro Kc hw hop hk;rcases H3 (b:=base+i) hb hs h0.1 h0.2 (W.op_raw hop)with⟨v,H1,L1,g1,g2,_,g3⟩|⟨g,args,g1,g2⟩
    ·obtain⟨call,τ',H',L',k1,k2,k3,k4,k5⟩:=qc l (gj τ o.dst v) L1 K (hk v L1 g3) hnd'.2 H1 g2.bd g2.sub (λj hj=>by
      have hj0:=hfr j (by simp[hj]);refine⟨by rw[g2.next];exact hj0.1,g2.dom _ (λe=>?_) hj0.2⟩;have:j=i:=by omega
      exact hnd'.1 (this▸hj)) (by rw[g2.next];exact hbase)
     refine⟨call,τ',H',L',k1,k2,?_,(g2.fr (YI _ _)).trans k4 (X7 _),k5⟩;unfold nz kK;simp only[ho,hw,g1];exact k3
    ·obtain⟨bd,g3⟩:=g2;obtain⟨v,H1,L1,c1,c2,c3⟩:=g3 H hb hs;have hH1:lC L1 ({H1 with next:=H1.next+1,log:=L.names++H.log}:ac):=c2.sub.congr λ_=>rfl
     obtain⟨call,τ',H',L',k1,k2,k3,k4,k5⟩:=qc l (gj τ o.dst v) L1 K (hk v L1 c3) hnd'.2 {H1 with next:=H1.next+1,log:=L.names++H.log} (c2.bd.bump _ _ (Zu _)) hH1 (λj hj=>by
      have hj0:=hfr j (by simp[hj]);have:=c2.next;exact⟨by show base+j<H1.next+1;omega,c2.dom _ hj0.1 hj0.2⟩) (by have:=c2.next;show base≤H1.next+1;omega)
     refine⟨OV g args H v _ call,τ',H',L',Hf k1 (c1.bump _) (by have:=c2.next;show H.next≤H1.next+1;omega) bd,MH k2 λ_=>c2.chg _ (λb hb=>Yq _ hb) (λb hb=>Y1 _ hb) _ (Zu _),?_,?_,k5⟩
     ·unfold nz kK;simp only[ho,hw,g1,MI];refine Ej (n:=H.next) (λf args K hK=>?_) k1 l _ _ _ (by have:=c2.next;show H.next<H1.next+1;omega) k3;exact(Hg hK).symm
     ·refine Fr.trans (H':={H1 with next:=H1.next+1,log:=L.names++H.log}) ⟨by have:=c2.next;show H.next≤H1.next+1;omega,c2.bd.bump _ _ (Zu _),hH1,c2.keep,λb hb'=>c2.dom b ZJ,λb h1 h2=>c2.fresh b h1 ZJ⟩ k4 (X7 _)
   split at h
   ·rename_i hg;exact go _ (Ci hg) h λv L1 h=>h
   ·rename_i j want hg;split at h
    ·rename_i d hd;rcases h.h with⟨h1,h2⟩|⟨h1,h2⟩
     ·exact go _ (Ek hg hd h1) h2 λv L1 h=>h
     ·obtain⟨call,τ',H',L',k1,k2,k3,k4,k5⟩:=qc l (gj τ o.dst bL) L K h2 hnd'.2 H hb hs (λj hj=>hfr j (by simp[hj])) hbase;refine⟨call,τ',H',L',k1,k2,?_,k4,k5⟩;unfold nz kK;simp only[ho,Hj hg hd h1];exact k3
    ·exact h.elim
theorem cE.region{id:Nat}{τ:List AV}{L:SH}{Q:Ex→List AV→SH→Prop}(fit:Fit P F)(h:W.sq P F ops (List.range ops.size) τ L λτ' L'=>Q .normal τ' L'):cE P (.region id ops false) τ L Q:=λH hb hs=>by
 obtain⟨call,τ',H',L',k1,k2,k3,k4,k5⟩:=qc (base:=H.next) (List.range ops.size) τ L _ h List.nodup_range {H with next:=H.next+ops.size} (hb.bump _ _ (YI _ _)) (hs.congr λ_=>rfl)
  (λi hi=>⟨Nat.add_lt_add_left (Y3.1 hi) _,hb _ (YI _ _)⟩) (YI _ _)
 have hr:dG P F call ops false τ H=some (τ',H'):=by simp only[dG,YB,if_false];exact k3
 exact⟨.normal,τ',H',L',gp fit k1 hr,⟨Yn (YI _ _) k4.next,k4.bd,k4.sub,k4.keep,k4.dom,k4.fresh⟩,k5⟩
end
end
section
open Go.RowKit
section
variable {P:Program} {F:TypeId→Option (List TypeId)} {ops:Array Oper} {base:Nat} {ρ:Operand→AV} {L:SH}
theorem JM{o:Op}{b:Nat}{g:FuncId}{args:List AV}{H:ac}(h:aM P F o ρ b H=some (.call g args)):∃c f,o=.call c∧c.callee=.value f:=by
 cases o with
 |call c=>
  simp only[aM]at h;split at h
  ·rename_i bi _;cases hbi:aX P H b bi c.argTypes (c.args.toList.map ρ)with
   |none=>rw[hbi]at h;cases h
   |some r=>rw[hbi]at h;cases h
  ·rename_i f hf;exact⟨c,f,rfl,hf⟩
  ·cases h
 |makeFunc fn first cap=>cases fn<;>simp only[aM]at h<;>(try split at h)<;>simp at h
 |makeMap t r=>cases r<;>simp[aM]at h
 |next it s=>cases s<;>simp[aM]at h
 |_=>
  exfalso;simp only[aM]at h
  repeat' (first|(cases h;done)|(simp at h;done)|split at h)
theorem H4{o:Op}(h:W.isMem o=false):aF o ρ=[]∧aD o ρ=[]:=by
  cases o with
  |call c=>
    simp only[W.isMem]at h;simp only[aF,aD];split at h
    · cases h
    · cases h
    · rename_i hn hn2
      constructor <;> · split
                        · rename_i he;exact absurd he hn
                        · rename_i he;exact absurd he hn2
                        · rfl
  |_=>first|(cases h;done)|exact⟨rfl,rfl⟩
theorem Cj{n:Nat}{s:AV}{rows:List (List AV)}(h:W0.rowsR L n s rows):∀c∈aa s,c∈L.names:=by
 intro c hc;unfold W0.rowsR at h;split at h
 ·simp[aa]at hc
 ·simp[aa]at hc
 ·simp[aa]at hc
 ·obtain⟨x,h1,_⟩:=h;simp only[aa,Ye]at hc;subst hc;exact YJ (f:=Prod.fst) h1
 ·exact h.elim
theorem JN{o:Op}{K:AV→SH→Prop}(h:W0.op P F o ρ L K):∀c∈aF o ρ,c∈L.names:=by
 intro c hc;cases o with
 |load t a=>
  simp only[W0.op]at h;split at h
  ·simp only[aF]at hc;unfold W0.loadR at h;split at h
   ·rename_i ha;obtain⟨x,r,v,g1,_⟩:=h;rw[ha]at hc;simp only[aa,Ye]at hc;subst hc;exact YJ (f:=Prod.fst) g1
   ·rename_i ha;rw[ha]at hc;simp[aa]at hc
   ·exact h.elim
  ·exact h.elim
 |store t a x=>
  simp only[W0.op]at h;split at h
  ·simp only[aF]at hc;unfold W0.storeR at h;split at h
   ·rename_i ha;obtain⟨x,r,cs,L',_,_,_,_,_,g1,_⟩:=h;rw[ha]at hc;simp only[aa,Ye]at hc;subst hc;exact YJ (f:=Prod.fst) g1.mem
   ·exact h.elim
  ·exact h.elim
 |indexAddr t x ix=>
  simp only[W0.op]at h;simp only[aF]at hc;split at h
  ·split at h
   ·unfold W0.idxR at h;split at h
    ·rename_i hx;obtain⟨k,i,y,_,_,_,g1,_⟩:=h;rw[hx]at hc;simp only[ed,Ye]at hc;subst hc;exact YJ (f:=Prod.fst) g1
    ·rename_i hx;rw[hx]at hc;simp[ed]at hc
    ·exact h.elim
   ·exact h.elim
  ·split at h
   ·obtain⟨k,i,_,_,_,g⟩:=h;split at g
    ·rename_i hx;rw[hx]at hc;simp[ed]at hc
    ·rename_i hx;rw[hx]at hc;simp[ed]at hc
    ·exact g.elim
   ·exact h.elim
  ·exact h.elim
 |slice t x lo hi mx=>
  simp only[W0.op]at h;simp only[aF]at hc;split at h
  ·exact h.elim
  ·split at h
   ·split at h
    ·obtain⟨len,l,hh,m,_,_,_,_,_,_,_,g⟩:=h;split at g
     ·rename_i hx;rw[hx]at hc;simp[ed]at hc
     ·rename_i hx;obtain⟨⟨y,g1,_⟩,_⟩:=g;rw[hx]at hc;simp only[ed,Ye]at hc;subst hc;exact YJ (f:=Prod.fst) g1
     ·rename_i hx;rw[hx]at hc;simp[ed]at hc
     ·exact g.elim
    ·exact h.elim
   ·split at h
    ·obtain⟨s,l,hh,hx,_⟩:=h;rw[hx]at hc;simp[ed]at hc
    ·exact h.elim
   ·exact h.elim
 |call k=>
  simp only[aF]at hc;split at hc
  ·rename_i hcal;simp only[W0.op,hcal]at h;split at h
   ·rename_i s x t tx ha ht;split at h
    ·split at h
     ·split at h
      ·obtain⟨l,m,g1,g2,_⟩:=h;simp only[ha,List.flatMap_cons,List.flatMap_nil,YM,Yg]at hc;rcases hc with hc|hc
       ·exact Cj g1 c hc
       ·exact Cj g2 c hc
      ·exact h.elim
     ·exact h.elim
    ·exact h.elim
   ·exact h.elim
  ·rename_i hcal;simp only[W0.op,hcal]at h;split at h
   ·rename_i x t ha ht;split at h
    ·split at h
     ·split at h
      ·simp only[ha,List.flatMap_cons,List.flatMap_nil,YM]at hc;unfold W0.clearR at h;split at h
       ·rename_i hx;rw[hx]at hc;simp[aa]at hc
       ·rename_i hx;obtain⟨y,L',_,_,g1,_⟩:=h;rw[hx]at hc;simp only[aa,Ye]at hc;subst hc;exact YJ (f:=Prod.fst) g1.mem
       ·exact h.elim
      ·exact h.elim
     ·exact h.elim
    ·exact h.elim
   ·exact h.elim
  ·simp at hc
 |lookup t m k ok=>
  simp only[W0.op]at h;simp only[aF]at hc;split at h
  ·split at h
   ·unfold W0.lookR at h;split at h
    ·rename_i hm hk;obtain⟨x,g1,_⟩:=h;rw[hm]at hc;simp only[aa,Ye]at hc;subst hc;exact YJ (f:=Prod.fst) g1
    ·exact h.elim
   ·exact h.elim
  ·exact h.elim
 |mapUpdate t m k x=>
  simp only[W0.op]at h;simp only[aF]at hc;split at h
  ·split at h
   ·unfold W0.mupR at h;split at h
    ·rename_i hm hk;obtain⟨y,L',_,_,g1,_⟩:=h;rw[hm]at hc;simp only[aa,Ye]at hc;subst hc;exact YJ (f:=Prod.fst) g1.mem
    ·exact h.elim
   ·exact h.elim
  ·exact h.elim
 |next it s=>
  cases s with
  |false=>exact h.elim
  |true=>
   simp only[W0.op]at h;simp only[aF]at hc;unfold W0.nextR at h;split at h
   ·rename_i hi;obtain⟨x,s,k,pos,g1,_⟩:=h;rw[hi]at hc;simp only[aa,Ye]at hc;subst hc;exact YJ (f:=Prod.fst) g1
   ·exact h.elim
 |_=>simp[aF]at hc
theorem Rw{o:Op}{K K2:AV→SH→Prop}(hK:∀v,K v L→K2 v L)(hm:W.isMem o=false)(hv:∀c f,o=.call c→c.callee≠.value f)(h:W0.op P F o ρ L K):W0.op P F o ρ L K2:=by
 cases o with
 |call c=>
  simp only[W0.op]at h ⊢;split at h
  ·split at h
   ·obtain⟨n,g1,g2⟩:=h;exact⟨n,g1,hK _ g2⟩
   ·obtain⟨n,g1,g2⟩:=h;exact⟨n,g1,hK _ g2⟩
   ·split at h
    ·exact h
    ·exact hK _ h
   ·exact h
  ·rename_i hc;simp[W.isMem,hc]at hm
  ·split at h
   ·obtain⟨k,a,c,g1,g2,g3⟩:=h;exact⟨k,a,c,g1,g2,hK _ g3⟩
   ·exact h
  ·split at h
   ·obtain⟨k,a,c,g1,g2,g3⟩:=h;exact⟨k,a,c,g1,g2,hK _ g3⟩
   ·exact h
  ·rename_i hc;simp[W.isMem,hc]at hm
  ·rename_i f hc;exact absurd hc (hv c f rfl)
  ·exact h
 |move x=>exact hK _ h
 |assign x=>exact hK _ h
 |pick c x y=>obtain⟨t,g1,g2⟩:=h;exact⟨t,g1,hK _ g2⟩
 |build t parts=>
  simp only[W0.op]at h ⊢;split at h
  ·split at h
   ·rename_i hall;rw[if_pos hall];split at h
    ·obtain⟨cs,g1,g2⟩:=h;exact⟨cs,g1,hK _ g2⟩
    ·exact h
   ·exact h.elim
  ·split at h
   ·obtain⟨cs,g1,g2⟩:=h;exact⟨cs,g1,hK _ g2⟩
   ·exact h
  ·exact h
 |nilCheck x=>simp only[W0.op,W0.nilchk]at h ⊢;split at h<;>first|exact hK _ h|exact h
 |binOp op t x y c=>obtain⟨v,g1,g2⟩:=h;exact⟨v,g1,hK _ g2⟩
 |unOp op t x=>obtain⟨v,g1,g2⟩:=h;exact⟨v,g1,hK _ g2⟩
 |convert s d x=>
  simp only[W0.op]at h ⊢;split at h
  ·obtain⟨k,n,g1,g2⟩:=h;exact⟨k,n,g1,hK _ g2⟩
  ·obtain⟨s,g1,g2⟩:=h;exact⟨s,g1,hK _ g2⟩
  ·exact h
 |makeFunc fn first cap=>
  cases fn with
  |func f=>
   simp only[W0.op]at h ⊢;split at h
   ·rename_i h0;rw[if_pos h0];exact hK _ h
   ·exact h.elim
  |_=>exact h
 |fieldAddr s x f=>
  simp only[W0.op]at h ⊢;split at h
  ·split at h
   ·split at h
    ·split at h
     ·exact h.elim
     ·rename_i h0;rw[if_neg h0];unfold W0.faddr at h ⊢;split at h<;>first|exact hK _ h|exact h
    ·exact h
   ·exact h
  ·exact h
 |field s x f=>
  simp only[W0.op]at h ⊢;split at h
  ·split at h
   ·split at h
    ·obtain⟨cs,v,g1,g2,g3⟩:=h;exact⟨cs,v,g1,g2,hK _ g3⟩
    ·exact h
   ·exact h
  ·exact h
 |index t x ix=>
  simp only[W0.op]at h ⊢;split at h
  ·obtain⟨s,k,i,y,g1,g2,g3,g4,g5⟩:=h;exact⟨s,k,i,y,g1,g2,g3,g4,hK _ g5⟩
  ·split at h
   ·obtain⟨cs,k,i,v,g1,g2,g3,g4,g5,g6⟩:=h;exact⟨cs,k,i,v,g1,g2,g3,g4,g5,hK _ g6⟩
   ·exact h
  ·exact h
 |extract x i=>obtain⟨vs,v,g1,g2,g3⟩:=h;exact⟨vs,v,g1,g2,hK _ g3⟩
 |_=>first|(cases hm;done)|exact h
theorem qd{x y:tB}(hw:∀c∈x.writes,c∉y.reads∧c∉y.writes)(hr:∀c∈x.reads,c∉y.writes)(hm:∀c∈x.made,c∉y.reads∧c∉y.writes)
  (hc:x.isCall=true→y.isCall=false∧y.writes=[]∧∀c∈y.reads,c<x.lo) (hy:y.isCall=true→x.writes=[]):mb x y=false:=by
 have ap:∀l m:List Nat,(∀c∈l,c∉m)→apart l m=true:=λl m h=>by simpa[apart]using h
 unfold mb;rw[ap _ _ λc h=>(hw c h).1,ap _ _ λc h=>(hw c h).2,ap _ _ hr,ap _ _ λc h=>(hm c h).1,ap _ _ λc h=>(hm c h).2];cases hx:x.isCall with
 |true=>obtain⟨h1,h2,h3⟩:=hc hx;simp only[h1,h2,List.isEmpty_nil,Bool.not_true,Bool.false_or,Bool.and_true,Bool.true_and,Bool.false_and,Bool.or_false];rw[List.any_eq_false];intro c hcm;have:=h3 c hcm;simp;omega
 |false=>
  cases hyc:y.isCall with
  |true=>simp[hy hyc]
  |false=>simp
theorem NG{us:List W.WR}{i:Nat}{o:Op}{K:AV→SH→W.Fp→Prop}(h:W.dop P F us i o ρ L K):
  (∃c f g cs,o=.call c∧c.callee=.value f∧ρ f=.fn g cs∧∃Kc R:SH,L.Perm (Kc++R)∧(∀x∈us,W.free x ⟨i,[],Kc.names,[],true,[]⟩)∧af P g (c.args.toList.map ρ++cs) Kc λv K'=>W.note ⟨[],Kc.names,[],L.names⟩ λr=>K v (K'++R) r) ∨
  (W.isMem o=true∧W.isCallV o=false∧(∀x∈us,W.free x ⟨i,aF o ρ,aD o ρ,[],false,[]⟩)∧W0.op P F o ρ L λv L'=>W.note ⟨aF o ρ,aD o ρ,if W0.makes o then aa v else [],[]⟩ λr=>K v L' r) ∨
  (W.isMem o=false∧W.isCallV o=false∧(∀c f,o=.call c→c.callee≠.value f)∧W0.op P F o ρ L λv L'=>K v L' ⟨[],[],[],[]⟩):=by
 cases o with
 |call c=>
  simp only[W.dop]at h;split at h
  ·rename_i f hf;have h:=h.h;split at h
   ·rename_i g cs hg;exact .inl ⟨c,f,g,cs,rfl,hf,hg,h⟩
   ·exact h.elim
  ·rename_i hc;split at h
   ·rename_i s x ha;have h1:aF (.call c) ρ=aa (ρ s)++aa (ρ x):=by simp[aF,hc,ha]
    have h2:aD (.call c) ρ=aa (ρ s):=by simp[aD,hc,ha]
    refine .inr (.inl ⟨by simp[W.isMem,hc],by simp[W.isCallV,hc],?_⟩);rw[h1,h2,show W0.makes (.call c)=true by simp[W0.makes,hc]];exact⟨h.h.1,W.op_raw h.h.2⟩
   ·exact h.elim
  ·rename_i hc;split at h
   ·rename_i x ha;have h1:aF (.call c) ρ=aa (ρ x):=by simp[aF,hc,ha]
    have h2:aD (.call c) ρ=aa (ρ x):=by simp[aD,hc,ha]
    refine .inr (.inl ⟨by simp[W.isMem,hc],by simp[W.isCallV,hc],?_⟩);rw[h1,h2,show W0.makes (.call c)=false by simp[W0.makes,hc]];exact⟨h.h.1,W.op_raw h.h.2⟩
   ·exact h.elim
  ·rename_i h1 h2 h3;refine .inr (.inr ⟨?_,?_,λc' f hc'=>?_,W.op_raw h⟩)
   ·simp only[W.isMem]
   ·simp only[W.isCallV]
   ·cases hc';exact h1 f
 |_=>first|exact .inr (.inl ⟨rfl,rfl,h.h.1,W.op_raw h.h.2⟩)|exact .inr (.inr ⟨rfl,rfl,λc f hc=>(by cases hc),W.op_raw h⟩)
def NH(base k:Nat)(ws:List W.WR)(r:tB):Prop:=r.op<k∧
  ((r.isCall=false∧r.reads=[]∧r.writes=[]∧r.made=[base+r.op]) ∨
   ∃x∈ws,x.op=r.op∧r.reads=x.reads∧(∀c∈r.writes,c∈x.writes)∧r.isCall=x.isCall∧(r.isCall=true→r.made=[]∧∀c∈x.old,c<r.lo)∧(r.isCall=false→r.made=[base+r.op]))
theorem NH.more{k k':Nat}{ws ws':List W.WR}{r:tB}(h:NH base k ws r)(hk:k≤k')(hw:∀x∈ws,x∈ws'):NH base k' ws' r:=by
 refine⟨Yw h.1 hk,?_⟩;rcases h.2 with h1|⟨x,h1,h2⟩
 ·exact .inl h1
 ·exact .inr ⟨x,hw x h1,h2⟩
def VI(base k:Nat)(L:SH)(ws:List W.WR):Prop:=∀j,j<k→base+j∈L.names→∃x∈ws,x.op=j∧base+j∈x.made
theorem El{k:Nat}{ws:List W.WR}{mask:Nat}{r y:tB}{wy:W.WR}(hr:NH base k ws r)(hma:VI base k L ws)(hun:mask.testBit r.op=false)
  (hf:∀x∈ws.filter (λx=>!mask.testBit x.op),W.free x wy) (h1:∀c∈y.reads,c∈wy.reads) (h2:∀c∈y.writes,c∈wy.writes) (h3:y.isCall=wy.isCall) (h4:wy.writes=[]→y.writes=[])
  (hL1:∀c∈wy.reads,c∈L.names) (hL2:∀c∈wy.writes,c∈L.names):mb r y=false:=by
 have mem:∀x∈ws,x.op=r.op→W.free x wy:=λx hx he=>hf x (by rw[Zj];exact⟨hx,by rw[he,hun];rfl⟩)
 have made:∀c∈[base+r.op],c∉y.reads∧c∉y.writes:=λc hc=>by
  rw[Ye]at hc;subst hc;constructor
  ·intro hy;obtain⟨x,g1,g2,g3⟩:=hma r.op hr.1 (hL1 _ (h1 _ hy));exact((mem x g1 g2).2.2.1 _ g3).1 (h1 _ hy)
  ·intro hy;obtain⟨x,g1,g2,g3⟩:=hma r.op hr.1 (hL2 _ (h2 _ hy));exact((mem x g1 g2).2.2.1 _ g3).2 (h2 _ hy)
 rcases hr.2 with⟨g1,g2,g3,g4⟩|⟨x,g1,g2,g3,g4,g5,g6,g7⟩
 ·exact qd (by simp[g3]) (by simp[g2]) (by rw[g4];exact made) (by simp[g1]) (λ_=>g3)
 ·obtain⟨f1,f2,f3,f4,f5⟩:=mem x g1 g2;refine qd (λc hc=>⟨λh=>(f1 c (g4 c hc)).1 (h1 c h),λh=>(f1 c (g4 c hc)).2 (h2 c h)⟩) (λc hc h=>f2 c (g3▸hc) (h2 c h)) ?_ (λhc=>?_) (λhc=>?_)
  ·cases hrc:r.isCall with
   |true=>rw[(g6 hrc).1];simp
   |false=>rw[g7 hrc];exact made
  ·obtain⟨e1,e2,e3⟩:=f4 (g5▸hc);exact⟨h3.trans e1,h4 e2,λc h=>(g6 hc).2 c (e3 c (h1 c h))⟩
  ·have:=f5 (h3▸hc);cases hw:r.writes with
   |nil=>rfl
   |cons c l=>have h:=g4 c (by rw[hw];simp);rw[this]at h;simp at h
theorem Em{call1 call2:FuncId→List AV→ac→Option (AV×ac)}{n i mask:Nat}{τ:List AV}{H:ac}(hag:∀f args H,n<H.next→call1 f args H=call2 f args H)(hn:n<H.next):bH P F call1 ops base i mask τ H=bH P F call2 ops base i mask τ H:=by
 unfold bH;split
 ·rfl
 ·split
  ·split
   ·rfl
   ·rw[hag _ _ _ (by show n<(dB base mask i H).next;rw[(fY base mask i H).1];exact hn)]
   ·rfl
  ·rfl
  ·rfl
theorem qe{call1 call2:FuncId→List AV→ac→Option (AV×ac)}{n:Nat}{before:List Nat}(hag:∀f args H,n<H.next→call1 f args H=call2 f args H)(hs:eC P call1):∀(l:List Nat) (τ:List AV) (H:ac) (rs:List tB) (r:List AV×ac×List tB),n<H.next→eB P F call1 ops base before l τ H rs=some r→eB P F call2 ops base before l τ H rs=some r
 |[],τ,H,rs,r,_,h=>h
 | i::l,τ,H,rs,r,hn,h=>by
  have key:∀{τ1 H1 x},bH P F call1 ops base i (before.getD i 0) τ H=some (τ1,H1,x)→H.next≤H1.next:=λ{τ1 H1 x} hd=>by
   have:∃l,eB P F call1 ops base before [i] τ H []=some (τ1,H1,l):=by
    unfold eB;rw[hd];cases x
    ·exact⟨_,rfl⟩
    ·exact⟨_,rfl⟩
   obtain⟨l,this⟩:=this;exact nG hs [i] _ _ _ _ _ _ this
  unfold eB at h ⊢;rw[←Em (call1:=call1) hag hn];split at h
  ·rename_i hd;exact qe hag hs l _ _ _ r (Yw hn (key hd)) h
  ·rename_i hd;split at h
   ·rename_i hc;rw[if_pos hc];exact qe hag hs l _ _ _ r (Yw hn (key hd)) h
   ·cases h
  ·cases h
theorem range'_succ(k m:Nat):List.range' k (m+1)=k::List.range' (k+1) m:=rfl
theorem xP{before:List Nat}:∀(m k:Nat) (τ:List AV) (L:SH) (ws:List W.WR) (K:List AV→SH→Prop),W.dr P F ops before (List.range' k m) τ L ws K→∀(H:ac) (rs:List tB),Bd H→lC L H→
  (∀j,k≤j→j<k+m→base+j<H.next∧H.get (base+j)=none)→base+k≤H.next→(∀r∈rs,NH base k ws r)→VI base k L ws→
  ∃call τ' H' L' rs',eC P call∧Lu call∧eB P F call ops base before (List.range' k m) τ H rs=some (τ',H',rs')∧Fr base L H L' H'∧K τ' L'
 |0,k,τ,L,ws,K,h,H,rs,hb,hs,_,_,_,_=>⟨Lt,τ,H,L,rs,xK P,λ_ _ _ _ _ _ h=>(by cases h),rfl,.refl hb hs,h⟩
 | m+1,k,τ,L,ws,K,h,H,rs,hb,hs,hfr,hbase,hrel,hma=>by
  rw[range'_succ]at h ⊢;have h0:=hfr k (X7 _) ZJ;have hlt:∀c,c∈L.names→c<H.next:=λc hc=>by
   obtain⟨x,_,hx⟩:=hs.mem hc;rcases X9 c H.next with h1|h1
   ·exact h1
   ·rw[hb c h1]at hx;cases hx
  unfold W.dr at h;split at h
  ·exact h.elim
  ·rename_i o ho;have go:∀(Kc:AV→SH→W.Fp→Prop),dF ops o τ=some true→W.dop P F (ws.filter λx=>!(before.getD k 0).testBit x.op) k o.op (kC τ) L Kc→(∀v L1 r,Kc v L1 r→W.dr P F ops before (List.range' (k+1) m) (gj τ o.dst v) L1 (W.push k o.op r ws) K)→
     ∃call τ' H' L' rs',eC P call∧Lu call∧eB P F call ops base before (k::List.range' (k+1) m) τ H rs=some (τ',H',rs')∧Fr base L H L' H'∧K τ' L':=by
    intro Kc hw hop hk;have val:∀(v:AV) (H1:ac) (L1:SH) (wr:W.Fp),aM P F o.op (kC τ) (base+k) H=some (.val v H1)→po (base+k) L H L1 H1→Kc v L1 wr→
      (∀r∈rs,(before.getD k 0).testBit r.op=false→mb r ⟨k,aF o.op (kC τ),aD o.op (kC τ),[base+k],false,0,0⟩=false)→
      NH base (k+1) (W.push k o.op wr ws) ⟨k,aF o.op (kC τ),aD o.op (kC τ),[base+k],false,0,0⟩→(∀x∈ws,x∈W.push k o.op wr ws)→(base+k∈L1.names→∃x∈W.push k o.op wr ws,x.op=k∧base+k∈x.made)→
      ∃call τ' H' L' rs',eC P call∧Lu call∧eB P F call ops base before (k::List.range' (k+1) m) τ H rs=some (τ',H',rs')∧Fr base L H L' H'∧K τ' L':=by
     intro v H1 L1 wr g1 g2 g3 g4 g5 g6 g7;obtain⟨call,τ',H',L',rs',k1,k2,k3,k4,k5⟩:=xP m (k+1) (gj τ o.dst v) L1 (W.push k o.op wr ws) K (hk v L1 wr g3) {H1 with log:=H.log} (⟨k,aF o.op (kC τ),aD o.op (kC τ),[base+k],false,0,0⟩::rs) g2.bd (g2.sub.congr λ_=>rfl) (λj h1 h2=>by
       have hj0:=hfr j ZJ ZJ;exact⟨by show base+j<H1.next;rw[g2.next];exact hj0.1,g2.dom _ ZJ hj0.2⟩) (by show base+(k+1)≤H1.next;rw[g2.next];omega) (λr hr=>by
       rcases Ya.1 hr with rfl|hr
       ·exact g5
       ·exact(hrel r hr).more (Zu _) g6) (λj hj hm=>by
       rcases g2.fresh _ hm with h1|h1
       ·have:j=k:=by omega
        subst this;exact g7 hm
       ·have hjk:j≠k:=λe=>by subst e;exact hs.not_mem h0.2 h1
        obtain⟨x,e1,e2⟩:=hma j ZJ h1;exact⟨x,g6 x e1,e2⟩)
     refine⟨call,τ',H',L',rs',k1,k2,?_,Fr.trans (H':={H1 with log:=H.log}) ⟨Nat.le_of_eq g2.next.symm,g2.bd,g2.sub.congr λ_=>rfl,g2.keep,λc hc=>g2.dom c ZJ,λc hc hlt=>(g2.fresh c hc).resolve_left ZJ⟩ k4 (X7 _),k5⟩;unfold eB bH;simp only[ho,hw,g1];rw[if_pos]
     ·exact k3
     ·rw[Yo];intro r hr;cases hm:(before.getD k 0).testBit r.op with
      |true=>rfl
      |false=>rw[g4 r hr hm];rfl
    rcases NG hop with⟨c,f,g,cs,e1,e2,e3,hd⟩|⟨hm,hcv,hfree,hop⟩|⟨hm,hcv,hv,hop⟩
    ·
     obtain⟨Kp,R,hL,hfree,bd,hcall⟩:=hd;have hs':=hs.perm hL;have hn:∀b,b∈L.names↔b∈Kp.names∨b∈R.names:=λb=>by rw[(hL.map Prod.fst).mem_iff,Yc,Yg]
     generalize hmask:before.getD k 0=mask at hfree hop
     let Hid:Nat→Prop:=λc=>∃j,j<k∧mask.testBit j=false∧c=base+j
     have hHid:∀c,Hid c→c<H.next∧base≤c:=λc ⟨j,hj,_,hc⟩=>by omega
     have hKp:∀c,c∈Kp.names→¬Hid c:=λc hc ⟨j,hj,hmj,hcj⟩=>by subst hcj;obtain⟨x,f1,f2,f3⟩:=hma j hj ((hn _).2 (.inl hc));exact((hfree x (by rw[Zj];exact⟨f1,by rw[f2,hmj];rfl⟩)).2.2.1 _ f3).2 hc
     have hhg:∀c,({dB base mask k H with log:=[]}:ac).get c=if Hid c then none else H.get c:=λc=>iv base mask k H c
     have hhn:({dB base mask k H with log:=[]}:ac).next=H.next:=(fY base mask k H).1
     generalize hHh:({dB base mask k H with log:=[]}:ac)=Hh at hhg hhn;have hhl:Hh.log=[]:=by rw[←hHh]
     have hbh:Bd Hh:=λc hc=>by
      rw[hhg];split
      ·rfl
      ·exact hb c ZJ
     have hsh:lC Kp Hh:=⟨hs'.left.nd,λp hp=>by rw[hhg,if_neg (hKp _ (YJ hp))];exact hs'.left.get p hp⟩;obtain⟨v,H1,K1,c1,c2,c3⟩:=hcall Hh hbh hsh;have hnx:=c2.next
     let Ho:ac:={H1 with next:=H1.next+1,log:=Kp.names}
     let Hn:ac:={iU base mask H k Ho with log:=H.log}
     have hng:∀c,Hn.get c=if Hid c then H.get c else H1.get c:=λc=>mi base mask H k Ho c
     have hnn:Hn.next=H1.next+1:=(gX base mask H k Ho).1;have hK1:∀c,c∈K1.names→¬Hid c:=λc hc hh=>hKp c (c2.fresh c hc (by have:=(hHid c hh).1;omega)) hh
     have hR:∀p∈R,Hn.get p.1=some p.2∧p.1∉K1.names:=λp hp=>by
      rw[hng];by_cases hh:Hid p.1
      ·rw[if_pos hh];exact⟨hs'.right.get p hp,λhc=>hK1 _ hc hh⟩
      ·rw[if_neg hh];exact c2.keep p.1 p.2 (by rw[hhg,if_neg hh];exact hs'.right.get p hp) (λhk=>hs'.disj hk (YJ hp))
     have frn:Fr base L H (K1++R) Hn:=by
      refine⟨by rw[hnn];omega,λc hc=>?_,⟨?_,λp hp=>?_⟩,λb x h1 h2=>?_,λb hb' h1=>?_,λb h1 h2=>?_⟩
      ·rw[hnn]at hc;rw[hng,if_neg (λhh=>by have:=(hHid c hh).1;omega)];exact c2.bd c ZJ
      ·unfold SH.names;rw[Yc,ZF];refine⟨c2.sub.nd,hs'.right.nd,λa ha b hb he=>?_⟩;subst he;obtain⟨p,hp,rfl⟩:=YH.1 hb;exact(hR p hp).2 ha
      ·rcases Yg.1 hp with hp|hp
       ·rw[hng,if_neg (hK1 _ (YJ hp))];exact c2.sub.get p hp
       ·exact(hR p hp).1
      ·rw[hn]at h2;have:Hn.get b=some x∧b∉K1.names:=by
        rw[hng];by_cases hh:Hid b
        ·rw[if_pos hh];exact⟨h1,λhc=>hK1 _ hc hh⟩
        ·rw[if_neg hh];exact c2.keep b x (by rw[hhg,if_neg hh];exact h1) (λhk=>h2 (.inl hk))
       refine⟨this.1,λhk=>?_⟩;unfold SH.names at hk;rw[Yc,Yg]at hk;rcases hk with hk|hk
       ·exact this.2 hk
       ·exact h2 (.inr hk)
      ·have hh:¬Hid b:=λhh=>by have:=(hHid b hh).2;omega
       rw[hng,if_neg hh];exact c2.dom b ZJ (by rw[hhg,if_neg hh];exact h1)
      ·unfold SH.names at h1;rw[Yc,Yg]at h1;rw[hn];rcases h1 with h1|h1
       ·exact .inl (c2.fresh b h1 ZJ)
       ·exact .inr h1
     let r:tB:=⟨k,[],Ho.log.filter (λc=>(Hh.get c).isSome),[],true,H.next,Ho.next⟩
     obtain⟨call,τ',H',L',rs',k1,k2,k3,k4,k5⟩:=xP m (k+1) (gj τ o.dst v) (K1++R) ((⟨k,[],Kp.names,[],true,L.names⟩:W.WR)::ws) K (by have:=hk v _ _ (c3.h _ rfl);rw[show W.push k o.op ⟨[],Kp.names,[],L.names⟩ ws=(⟨k,[],Kp.names,[],true,L.names⟩:W.WR)::ws from by simp[W.push,W.isCallV,e1,e2]]at this;exact this) Hn (r::rs) frn.bd frn.sub (λj h1 h2=>by
       have hj0:=hfr j ZJ ZJ;have hh:¬Hid (base+j):=λ⟨q,hq,_,he⟩=>by omega
       refine⟨by rw[hnn];omega,?_⟩;rw[hng,if_neg hh];exact c2.dom _ ZJ (by rw[hhg,if_neg hh];exact hj0.2)) (by rw[hnn];omega) (λq hq=>by
       rcases Ya.1 hq with rfl|hq
       ·exact⟨Nat.lt_succ_self _,.inr ⟨_,ZB,rfl,rfl,λc hc=>(Zj.1 hc).1,rfl,λ_=>⟨rfl,hlt⟩,λh=>(by cases h)⟩⟩
       ·exact(hrel q hq).more (Zu _) λx hx=>Y4 _ hx) (λj hj hm=>by
       have hjk:base+j∈L.names:=by
        rw[hn];unfold SH.names at hm;rw[Yc,Yg]at hm;rcases hm with hm|hm
        ·exact .inl (c2.fresh _ hm ZJ)
        ·exact .inr hm
       have hne:j≠k:=λe=>by subst e;exact hs.not_mem h0.2 hjk
       obtain⟨x,f1,f2⟩:=hma j ZJ hjk;exact⟨x,Y4 _ f1,f2⟩)
     refine⟨OV g (c.args.toList.map (kC τ)++cs) Hh v Ho call,τ',H',L',rs',Hf k1 (c1.bump _) (by show Hh.next≤H1.next+1;omega) bd,MH k2 λ_=>c2.chg _ (by rw[hhl];simp) (λb hb=>hb) _ (Zu _),?_,frn.trans k4 (X7 _),k5⟩;have ha:aM P F o.op (kC τ) (base+k) H=some (.call g (c.args.toList.map (kC τ)++cs)):=by rw[e1];simp[aM,e2,e3]
     have hbm:before.getD k 0=mask:=hmask;have hs1:bH P F (OV g (c.args.toList.map (kC τ)++cs) Hh v Ho call) ops base k mask τ H=some (gj τ o.dst v,Hn,some r):=by unfold bH;simp only[ho,hw,ha,hHh,MI];rw[show(dB base mask k H)={Hh with log:=H.log} from by rw[←hHh];exact(congrArg (λl=>({dB base mask k H with log:=l}:ac)) (fY base mask k H).2)];rfl
     unfold eB;rw[hbm,hs1];simp only[];rw[if_pos]
     ·refine qe (n:=Hh.next) (λf args K hK=>?_) k1 _ _ _ _ _ (by rw[hnn];omega) k3;exact(Hg hK).symm
     ·rw[Yo];intro q hq;cases hmq:mask.testBit q.op with
      |true=>rfl
      |false=>rw[El (wy:=⟨k,[],Kp.names,[],true,[]⟩) (hrel q hq) hma hmq hfree (by simp[r]) (λc hc=>(Zj.1 hc).1) rfl (λhe=>by show List.filter _ Kp.names=[];rw[show Kp.names=[]from he];rfl) ZM (λc hc=>(hn c).2 (.inl hc))];rfl
    ·
     rcases H3 (b:=base+k) hb hs h0.1 h0.2 hop with⟨v,H1,L1,g1,g2,g3,g4⟩|⟨g,args,g1,g2⟩
     ·have hp:W.push k o.op ⟨aF o.op (kC τ),aD o.op (kC τ),if W0.makes o.op then aa v else [],[]⟩ ws=(⟨k,aF o.op (kC τ),aD o.op (kC τ),if W0.makes o.op then aa v else [],false,[]⟩:W.WR)::ws:=by simp[W.push,hm,hcv]
      refine val v H1 L1 _ g1 g2 (g4.h _ rfl) (λr hr hun=>?_) (by rw[hp];exact⟨Nat.lt_succ_self _,.inr ⟨_,ZB,rfl,rfl,λc h=>h,rfl,λh=>(by cases h),λ_=>rfl⟩⟩) (λx hx=>by rw[hp];exact Y4 _ hx) (λhm=>by rw[hp];exact⟨_,ZB,rfl,by show _∈(if W0.makes o.op=true then aa v else []);rw[if_pos (g3 hm).1];exact(g3 hm).2⟩);exact El (wy:=⟨k,aF o.op (kC τ),aD o.op (kC τ),[],false,[]⟩) (hrel r hr) hma hun hfree (λc h=>h) (λc h=>h) rfl (λh=>h) (JN hop) (λc hc=>JN hop c (xI hc))
     ·obtain⟨c,f,e1,e2⟩:=JM g1;rw[e1]at hm;simp[W.isMem,e2]at hm
    ·
     have hop':=Rw (K2:=λv L'=>Kc v L' ⟨[],[],[],[]⟩∧L'=L) (λv h=>⟨h,rfl⟩) hm hv hop;rcases H3 (b:=base+k) hb hs h0.1 h0.2 hop' with⟨v,H1,L1,g1,g2,g3,g4,g5⟩|⟨g,args,g1,g2⟩
     ·obtain⟨n1,n2⟩:=H4 (ρ:=kC τ) hm;subst g5;have hp:W.push k o.op ⟨[],[],[],[]⟩ ws=ws:=by simp[W.push,hm,hcv]
      refine val v H1 _ ⟨[],[],[],[]⟩ g1 g2 g4 (λr hr hun=>?_) ⟨Nat.lt_succ_self _,.inl ⟨rfl,n1,n2,rfl⟩⟩ (λx hx=>by rw[hp];exact hx) (λh=>absurd h (hs.not_mem h0.2));rw[n1,n2];refine qd ZM ZM ZM ZM ZM
     ·obtain⟨c,f,e1,e2⟩:=JM g1;exact absurd e2 (hv c f e1)
   split at h
   ·rename_i hg;exact go _ (Ci hg) h λv L1 r h=>h
   ·rename_i j want hg;split at h
    ·rename_i d hd;rcases h.h with⟨h1,h2⟩|⟨h1,h2⟩
     ·exact go _ (Ek hg hd h1) h2 λv L1 r h=>h
     ·have hps:∀x∈ws,x∈W.push k o.op ⟨[],[],[],L.names⟩ ws:=λx hx=>by
       unfold W.push;split
       ·exact Y4 _ hx
       ·exact hx
      obtain⟨call,τ',H',L',rs',k1,k2,k3,k4,k5⟩:=xP m (k+1) (gj τ o.dst bL) L _ K h2 H rs hb hs (λj h1 h2=>hfr j ZJ ZJ) ZJ (λr hr=>(hrel r hr).more (Zu _) hps) (λj hj hm=>by
       have hne:j≠k:=λe=>by subst e;exact hs.not_mem h0.2 hm
       obtain⟨x,e1,e2⟩:=hma j ZJ hm;exact⟨x,hps x e1,e2⟩)
      refine⟨call,τ',H',L',rs',k1,k2,?_,k4,k5⟩;unfold eB bH;simp only[ho,Hj hg hd h1];exact k3
    ·exact h.elim
end
end
section
open Go.RowKit
inductive Fz (K:SH):AV→AV→Prop where
 |refl (v:AV):Fz K v v
 |nils:Fz K .nils (.lst [])
 |nile:Fz K .nils .emp
 |emp:Fz K .emp (.lst [])
 |sl0 (b i:Nat):Fz K (.sl b i 0) (.lst [])
 | sl (b i n:Nat) (x:Blk) (rows:List (List AV)) (hm:(b,x)∈K) (hs:0<x.size) (hn:0<n) (hl:rows.length=n) (hle:i+n≤x.rows.length)
   (hr:∀(j:Nat) (r r2:List AV),x.rows[i+j]? =some r→rows[j]? =some r2→r.length=r2.length)
   (hc:∀(j:Nat) (r r2:List AV) (q:Nat) (a a2:AV),x.rows[i+j]? =some r→rows[j]? =some r2→r[q]? =some a→r2[q]? =some a2→Fz K a a2):Fz K (.sl b i n) (.lst rows)
 | ptr (b i off:Nat) (x:Blk) (rows:List (List AV)) (hm:(b,x)∈K) (hs:0<x.size) (hl:rows.length=x.rows.length) (hn:0<rows.length)
   (hr:∀(j:Nat) (r r2:List AV),x.rows[j]? =some r→rows[j]? =some r2→r.length=r2.length)
   (hc:∀(j:Nat) (r r2:List AV) (q:Nat) (a a2:AV),x.rows[j]? =some r→rows[j]? =some r2→r[q]? =some a→r2[q]? =some a2→Fz K a a2):Fz K (.ptr b i off) (.pptr rows i off)
 |agg (cs cs2:List AV) (hl:cs.length=cs2.length) (h:∀(i:Nat) (a a2:AV),cs[i]? =some a→cs2[i]? =some a2→Fz K a a2):Fz K (.agg cs) (.agg cs2)
 |tup (cs cs2:List AV) (hl:cs.length=cs2.length) (h:∀(i:Nat) (a a2:AV),cs[i]? =some a→cs2[i]? =some a2→Fz K a a2):Fz K (.tup cs) (.tup cs2)
theorem TD{K:SH}{v:Value}{a a2:AV}(h:Jh v=some a)(hz:Fz K a a2):a2=a:=by cases v<;>simp only[Jh,Yi,reduceCtorEq]at h<;>subst h<;>cases hz<;>rfl
theorem xA.fz{K:SH}{w:World}{x y:Blk}{pl:cv}(h:xA w x pl)(e1:x.size=y.size)(e2:x.rows.length=y.rows.length)
  (e3:∀(j:Nat) (r r2:List AV),x.rows[j]? =some r→y.rows[j]? =some r2→r.length=r2.length∧∀(k:Nat) (a a2:AV),r[k]? =some a→r2[k]? =some a2→Fz K a a2):xA w y pl:=by
 have key:(∀(j:Nat) (r:List AV),x.rows[j]? =some r→∀(k:Nat) (a:AV),r[k]? =some a→∃v,Jh v=some a)→y.rows=x.rows:=λhk=>by
  refine Zh λj=>?_
  rcases X9 j x.rows.length with hj|hj
  ·have h1:x.rows[j]? =some x.rows[j]:=X6 hj;have h2:y.rows[j]? =some (y.rows[j]'ZJ):=X6 ZJ;obtain⟨g1,g2⟩:=e3 j _ _ h1 h2;rw[h1,h2];congr 1;refine Zh λk=>?_
   rcases X9 k x.rows[j].length with hk'|hk'
   ·have h3:x.rows[j][k]? =some x.rows[j][k]:=X6 hk';have h4:(y.rows[j]'ZJ)[k]? =some ((y.rows[j]'ZJ)[k]'ZJ):=X6 ZJ;obtain⟨v,hv⟩:=hk j _ h1 k _ h3;rw[h3,h4,TD hv (g2 k _ _ h3 h4)]
   ·rw[X8 hk',X8 ZJ]
  ·rw[X8 hj,X8 ZJ]
 have hy:y.rows=x.rows:=key λj r hr k a ha=>by
  rcases h.obj with⟨_,es,clk,_,h2⟩|⟨_,s,pos,_,h2⟩
  ·have h3:(es.toList.map Ji)[j]? =some (some r):=by rw[h2,Ym,hr];rfl
   rw[Ym]at h3;cases he:es.toList[j]? with
   |none=>rw[he]at h3;cases h3
   |some e=>
    rw[he]at h3;simp only[Yz,Yi]at h3;unfold Ji at h3;split at h3
    ·rename_i k' v' hk' hv';cases h3
     match k with
     |0=>cases ha;exact⟨_,hk'⟩
     |1=>cases ha;exact⟨_,hv'⟩
     |k+2=>simp at ha
    ·cases h3
  ·rw[h2]at hr
   match j with
   |0=>
    cases hr
    match k with
    |0=>cases ha;exact⟨.string s,rfl⟩
    |1=>cases ha;exact⟨.int .i64 pos,rfl⟩
    |k+2=>simp at ha
   |j+1=>simp at hr
 exact⟨e1▸h.size,h.psize,by rw[hy];exact h.obj⟩
section
variable {P:Program} {F:TypeId→Option (List TypeId)} {w:World} {σ:bD} {H H2:ac} {K:SH}
theorem OW(hW:bu w σ H)(hK:lC K H)(hown:∀c,aK σ H2 c→aK σ H c)(hout:∀b∈K.names,∀pl,σ b=some pl→¬aK σ H2 pl.block){a a2:AV}(hz:Fz K a a2):∀{v:Value},bb w σ (aK σ H) a v→bb w σ (aK σ H2) a2 v:=by
 induction hz with
 |refl v=>intro u h;exact h.shrink hown
 |nils=>intro u h;cases h;exact .lst0 _ _ (by unfold maxLen;omega)
 |nile=>intro u h;cases h;exact .emp _
 |emp=>intro u h;cases h;exact .lst0 _ _ (by unfold maxLen;omega)
 |sl0 b i=>intro u h;obtain⟨pl,ad,cap,rfl,hs,hn,hm,ha⟩:=h.sl_inv;exact .lst0 _ _ hm
 |sl b i n x rows hm hs hn hl hle hr hc ih=>
  intro u h;have h0_:=h;obtain⟨pl,ad,cap,rfl,hsg,hn',hmx,ha⟩:=h.sl_inv;obtain⟨rfl,cs,ty,hcs,hroom⟩:=ha ZJ;obtain⟨pl',cs',e',g1,g2⟩:=hW.live b x (hK.get _ hm);rw[hsg]at g1;cases g1;replace g2:=g2.1 (h0_.sl_ok hsg);have row:∀(j:Nat) (r2:List AV),rows[j]? =some r2→∃r,x.rows[i+j]? =some r∧r.length=r2.length:=λj r2 h2=>by
   have hj:=aB h2;have:i+j<x.rows.length:=by omega
   exact⟨_,X6 this,hr j _ r2 (X6 this) h2⟩
  have:=bb.lst (w:=w) (σ:=σ) (T:=aK σ H2) rows pl.block (pl.base+i*pl.size) pl.size cap
   ⟨hout b (YJ hm) pl hsg,λq r2 h2=>by
    obtain⟨r,k1,k2⟩:=row q r2 h2;rw[←k2,g2.even _ r k1,g2.size],λq j hq hj=>by
    obtain⟨r,k1,k2⟩:=row q rows[q] (X6 hq);have hj':j<r.length:=by rw[g2.even _ r k1,←g2.size];exact hj
    obtain⟨u,hu,_⟩:=g2.row k1 j _ (X6 hj');rw[YQ,←YZ]at hu;exact⟨u,hu⟩,by rw[g2.size];exact hs,ZJ⟩ ZJ hmx
   (λq r2 j y u h2 hy hu=>by
    obtain⟨r,k1,k2⟩:=row q r2 h2;have hj':j<r.length:=by rw[k2];exact aB hy
    obtain⟨u',hu',hz⟩:=g2.row k1 j _ (X6 hj');rw[YQ,←YZ]at hu';rw[hu]at hu';cases hu';exact ih q r r2 j _ y k1 h2 (X6 hj') hy hz)
  rw[hl]at this;exact this
 |ptr b i off x rows hm hs hl hn hr hc ih=>
  intro u h;cases h with
  |ptr _ _ _ pl hsg hp=>
  obtain⟨pl',cs',e',g1,g2⟩:=hW.live b x (hK.get _ hm);rw[hsg]at g1;cases g1;replace g2:=g2.1 hp;have row:∀(j:Nat) (r2:List AV),rows[j]? =some r2→∃r,x.rows[j]? =some r∧r.length=r2.length:=λj r2 h2=>by
   have hj:=aB h2;have:j<x.rows.length:=by omega
   exact⟨_,X6 this,hr j _ r2 (X6 this) h2⟩
  exact bb.pptr (w:=w) (σ:=σ) (T:=aK σ H2) rows i off pl.block pl.base pl.size
   ⟨hout b (YJ hm) pl hsg,λq r2 h2=>by
    obtain⟨r,k1,k2⟩:=row q r2 h2;rw[←k2,g2.even _ r k1,g2.size],λq j hq hj=>by
    obtain⟨r,k1,k2⟩:=row q rows[q] (X6 hq);have hj':j<r.length:=by rw[g2.even _ r k1,←g2.size];exact hj
    obtain⟨u,hu,_⟩:=g2.row k1 j _ (X6 hj');exact⟨u,hu⟩,by rw[g2.size];exact hs,ZJ⟩
   (λq r2 j y u h2 hy hu=>by
    obtain⟨r,k1,k2⟩:=row q r2 h2;have hj':j<r.length:=by rw[k2];exact aB hy
    obtain⟨u',hu',hz⟩:=g2.row k1 j _ (X6 hj');rw[hu]at hu';cases hu';exact ih q r r2 j _ y k1 h2 (X6 hj') hy hz)
 |agg cs cs2 hl h ih=>
  intro u hu;cases hu with
  |agg _ vs hlv hc=>
   refine .agg cs2 vs ZJ λq y z hy hz=>?_
   have hq:q<cs.length:=by rw[hl];exact aB hy
   exact ih q _ y (X6 hq) hy (hc q _ z (X6 hq) hz)
 |tup cs cs2 hl h ih=>
  intro u hu;cases hu with
  |tup _ vs hlv hc=>
   refine .tup cs2 vs ZJ λq y z hy hz=>?_
   have hq:q<cs.length:=by rw[hl];exact aB hy
   exact ih q _ y (X6 hq) hy (hc q _ z (X6 hq) hz)
structure aG(vs:List AV)(L:SH)(vs2:List AV)(L2:SH):Prop where
 ex:∃K R:SH,L.Perm (K++R)∧(vs.length=vs2.length∧∀(i:Nat) (a a2:AV),vs[i]? =some a→vs2[i]? =some a2→Fz K a a2)∧R.length=L2.length∧
  ∀(i:Nat) (p q:Nat×Blk),R[i]? =some p→L2[i]? =some q→p.1=q.1∧p.2.size=q.2.size∧p.2.rows.length=q.2.rows.length∧
   ∀(j:Nat) (r r2:List AV),p.2.rows[j]? =some r→q.2.rows[j]? =some r2→r.length=r2.length∧∀(k:Nat) (a a2:AV),r[k]? =some a→r2[k]? =some a2→Fz K a a2
theorem aG.refl(vs:List AV)(L:SH):aG vs L vs L:=⟨[],L,.refl _,⟨rfl,λi a a2 h1 h2=>by rw[h1]at h2;cases h2;exact .refl _⟩,rfl,λi p q h1 h2=>by
 rw[h1]at h2;cases h2;exact⟨rfl,rfl,rfl,λj r r2 h3 h4=>by rw[h3]at h4;cases h4;exact⟨rfl,λk a a2 h5 h6=>by rw[h5]at h6;cases h6;exact .refl _⟩⟩⟩
theorem aG.drop{vs vs2:List AV}{L K R:SH}(hL:L.Perm (K++R))(hl:vs.length=vs2.length)(h:∀(i:Nat) (a a2:AV),vs[i]? =some a→vs2[i]? =some a2→Fz K a a2):aG vs L vs2 R:=⟨K,R,hL,⟨hl,h⟩,rfl,λi p q h1 h2=>by
 rw[h1]at h2;cases h2;exact⟨rfl,rfl,rfl,λj r r2 h3 h4=>by rw[h3]at h4;cases h4;exact⟨rfl,λk a a2 h5 h6=>by rw[h5]at h6;cases h6;exact .refl _⟩⟩⟩
def ac.repl(H:ac)(K:List Nat)(L2:SH):ac:=L2.foldl (λH p=>{H with tr:=H.tr.set p.1 (some p.2)}) (K.foldl (λH b=>{H with tr:=H.tr.set b none}) H)
theorem En(K:List Nat):∀(H:ac) (c:Nat),(K.foldl (λH b=>({H with tr:=H.tr.set b none}:ac)) H).get c=(if c∈K then none else H.get c)∧(K.foldl (λH b=>({H with tr:=H.tr.set b none}:ac)) H).next=H.next:=by
 induction K with
 |nil=>intro H c;simp
 |cons b K ih=>
  intro H c;simp only[Zq];obtain⟨h1,h2⟩:=ih {H with tr:=H.tr.set b none} c;refine⟨?_,h2⟩;rw[h1];by_cases hc:c∈K
  ·simp[hc]
  ·have:({H with tr:=H.tr.set b none}:ac).get c=if b=c then none else H.get c:=Tr.get_set _ _ _ _
   rw[if_neg hc,this];by_cases hb:b=c
   ·subst hb;simp
   ·rw[if_neg hb,if_neg];simp only[Ya,not_or];exact⟨λe=>hb e.symm,hc⟩
theorem Eo:∀(L2:SH),L2.names.Nodup→∀(H:ac) (c:Nat),((∀x,(c,x)∈L2→(L2.foldl (λH p=>({H with tr:=H.tr.set p.1 (some p.2)}:ac)) H).get c=some x)∧(c∉L2.names→(L2.foldl (λH p=>({H with tr:=H.tr.set p.1 (some p.2)}:ac)) H).get c=H.get c))∧(L2.foldl (λH p=>({H with tr:=H.tr.set p.1 (some p.2)}:ac)) H).next=H.next:=by
 intro L2
 induction L2 with
 |nil=>intro _ H c;simp
 |cons p L ih=>
  intro hn H c;simp only[Yb,Yj]at hn;obtain⟨⟨h1,h2⟩,h3⟩:=ih hn.2 {H with tr:=H.tr.set p.1 (some p.2)} c;have hg:({H with tr:=H.tr.set p.1 (some p.2)}:ac).get c=if p.1=c then some p.2 else H.get c:=Tr.get_set _ _ _ _
  refine⟨⟨λx hx=>?_,λhc=>?_⟩,h3⟩
  ·simp only[Zq];rcases Ya.1 hx with hx|hx
   ·subst hx;rw[h2 hn.1,hg,if_pos rfl]
   ·exact h1 x hx
  ·simp only[Zq];simp only[Yb,Ya,not_or]at hc;rw[h2 hc.2,hg,if_neg (λe=>hc.1 e.symm)]
theorem mn{vs vs2:List AV}{L L2:SH}(h:aG vs L vs2 L2)(hs:lC L H)(hb:Bd H):∃H2:ac,Fr H.next L H L2 H2∧H2.next=H.next∧
  (∀(w:World) (σ:bD),bu w σ H→bu w σ H2∧(∀c,aK σ H2 c→aK σ H c)∧∀(us:List Value),eH w σ (aK σ H) vs us→eH w σ (aK σ H2) vs2 us)∧∀b,b∉L.names→H2.get b=H.get b:=by
 obtain⟨K,R,hL,⟨hl,hv⟩,hlen,hR⟩:=h.ex;have hs':=hs.perm hL;have hn:∀b,b∈L.names↔b∈K.names∨b∈R.names:=λb=>by rw[(hL.map Prod.fst).mem_iff,Yc,Yg]
 have hnames:L2.names=R.names:=by
  apply Zh;intro i;unfold SH.names;rw[Ym,Ym];rcases X9 i R.length with hi|hi
  ·have hi2:i<L2.length:=by omega
   rw[X6 hi,X6 hi2];simp only[Yz,Yi];exact(hR i _ _ (X6 hi) (X6 hi2)).1.symm
  ·rw[X8 hi,X8 ZJ]
 have hnd2:L2.names.Nodup:=by rw[hnames];exact hs'.right.nd
 let H2:=H.repl K.names L2
 have hget:∀c,(∀x,(c,x)∈L2→H2.get c=some x)∧(c∉L2.names→H2.get c=if c∈K.names then none else H.get c):=λc=>by obtain⟨⟨h1,h2⟩,_⟩:=Eo L2 hnd2 (K.names.foldl (λH b=>{H with tr:=H.tr.set b none}) H) c;exact⟨h1,λhc=>(h2 hc).trans (En K.names H c).1⟩
 have hnext:H2.next=H.next:=(Eo L2 hnd2 _ 0).2.trans (En K.names H 0).2;have hold:∀b y,H2.get b=some y→∃x,H.get b=some x∧b∉K.names∧x.size=y.size∧x.rows.length=y.rows.length∧∀(j:Nat) (r r2:List AV),x.rows[j]? =some r→y.rows[j]? =some r2→r.length=r2.length∧∀(k:Nat) (a a2:AV),r[k]? =some a→r2[k]? =some a2→Fz K a a2:=λb y hy=>by
  by_cases hb2:b∈L2.names
  ·obtain⟨q,hq,rfl⟩:=YH.1 hb2;have hqy:H2.get q.1=some q.2:=(hget q.1).1 q.2 hq;rw[hy]at hqy;cases hqy;obtain⟨i,hi,hqi⟩:=Zc hq;have hi':i<R.length:=by omega
   obtain⟨e1,e2,e3,e4⟩:=hR i R[i] q (X6 hi') (by rw[X6 hi,hqi]);refine⟨R[i].2,?_,λhk=>hs'.disj hk (hnames▸hb2),e2,e3,e4⟩;rw[←e1];exact hs'.right.get _ (Yr hi')
  ·rw[(hget b).2 hb2]at hy;split at hy
   ·cases hy
   ·rename_i hk;exact⟨y,hy,hk,rfl,rfl,λj r r2 h1 h2=>by rw[h1]at h2;cases h2;exact⟨rfl,λk a a2 h3 h4=>by rw[h3]at h4;cases h4;exact .refl _⟩⟩
 have hout:∀b,b∉L.names→H2.get b=H.get b:=λb hbn=>by rw[hn,not_or]at hbn;rw[(hget b).2 (by rw[hnames];exact hbn.2),if_neg hbn.1]
 refine⟨H2,⟨by rw[hnext];exact X7 _,λb hb'=>?_,⟨hnd2,λp hp=>(hget p.1).1 p.2 hp⟩,λb x h1 h2=>⟨by rw[hout b h2];exact h1,λh3=>h2 ((hn b).2 (.inr (hnames▸h3)))⟩,λb _ h1=>?_,λb h1 _=>(hn b).2 (.inr (hnames▸h1))⟩,hnext,λw σ hW=>?_,hout⟩
 ·rw[hnext]at hb';cases hg:H2.get b with
  |none=>rfl
  |some y=>obtain⟨x,hx,_⟩:=hold b y hg;rw[hb b hb']at hx;cases hx
 ·cases hg:H2.get b with
  |none=>rfl
  |some y=>obtain⟨x,hx,_⟩:=hold b y hg;rw[h1]at hx;cases hx
 ·have hown:∀c,aK σ H2 c→aK σ H c:=λc hc=>by
   rcases hc with hc|⟨b,y,pl,h1,h2,h3⟩
   ·exact .inl hc
   ·obtain⟨x,hx,_⟩:=hold b y h1;exact .inr ⟨b,x,pl,hx,h2,h3⟩
  have hnot:∀b∈K.names,∀pl,σ b=some pl→¬aK σ H2 pl.block:=λb hbK pl hpl ho=>by
   obtain⟨x,_,hx⟩:=hs'.left.mem hbK;rcases ho with ho|⟨b',y,pl',h1,h2,h3⟩
   ·exact(hW.apart _ ho).2 ⟨b,x,pl,hx,hpl,rfl⟩
   ·obtain⟨x',hx',hk',_⟩:=hold b' y h1;have:=hW.inj b' b x' x pl' pl hx' hx h2 hpl h3;subst this;exact hk' hbK
  refine⟨⟨λb pl hb=>by rw[hnext];exact hW.named b pl hb,hW.lt,λb y hy=>?_,λc hc=>⟨(hW.apart c hc).1,λ⟨b,y,pl,h1,h2,h3⟩=>?_⟩,λb b' y y' pl pl' h1 h2 h3 h4 h5=>?_,hW.glob.less hown⟩,hown,λus hus=>⟨by rw[←hl];exact hus.1,λi a2 u h1 h2=>?_⟩⟩
  ·obtain⟨x,hx,hk,e1,e2,e3⟩:=hold b y hy;obtain⟨pl,cs,e,g1,g2⟩:=hW.live b x hx;have row:∀(j:Nat) (r2:List AV),y.rows[j]? =some r2→∃r,x.rows[j]? =some r:=λj r2 h2=>⟨_,X6 (by rw[e2];exact aB h2)⟩
   refine⟨pl,cs,e,g1,λhp=>?_,λhp=>(g2.2 hp).fz e1 e2 e3⟩;replace g2:=g2.1 hp;refine⟨g2.size.trans e1,g2.block,λi r2 h2=>?_,by rw[←e2,←e1];exact g2.room,λi r2 j a2 u h2 h3 h4=>?_⟩
   ·obtain⟨r,h1⟩:=row i r2 h2;rw[←(e3 i r r2 h1 h2).1,g2.even i r h1,e1]
   ·obtain⟨r,h1⟩:=row i r2 h2;obtain⟨e4,e5⟩:=e3 i r r2 h1 h2;have hj:j<r.length:=by rw[e4];exact aB h3
    exact OW hW hs'.left hown hnot (e5 j _ a2 (X6 hj) h3) (g2.rep i r j _ u h1 (X6 hj) (by rw[e1];exact h4))
  ·obtain⟨x,hx,_⟩:=hold b y h1;exact(hW.apart c hc).2 ⟨b,x,pl,hx,h2,h3⟩
  ·obtain⟨x,hx,_⟩:=hold b y h1;obtain⟨x',hx',_⟩:=hold b' y' h2;exact hW.inj b b' x x' pl pl' hx hx' h3 h4 h5
  ·have hi:i<vs.length:=by rw[hl];exact aB h1
   exact OW hW hs'.left hown hnot (hv i _ a2 (X6 hi) h1) (hus.2 i _ u (X6 hi) h2)
theorem cE.fz{c:Code}{τ τ2:List AV}{L L2:SH}{Q:Ex→List AV→SH→Prop}(hz:aG τ L τ2 L2)(h:cE P c τ2 L2 Q):cE P c τ L Q:=λH hb hs=>by
 obtain⟨H2,f1,f2,f3,f4⟩:=mn hz hs hb;obtain⟨e,τ',H',L',h1,h2,h3⟩:=h H2 f1.bd f1.sub;refine⟨e,τ',H',L',⟨by rw[←f2];exact h1.1,λw σ a hW hτ Q hQ=>?_⟩,f1.trans (h2.low (by rw[f2];exact X7 _)) (X7 _),h3⟩;obtain⟨g1,g2,g3⟩:=f3 w σ hW;refine h1.2 w σ a g1 ⟨g3 _ hτ.1,hτ.2⟩ Q λa' w' ⟨σ',t,r,e1,m⟩=>hQ a' w' ⟨σ',t,r,?_,λc pl hc=>by rw[←f2];exact m c pl hc⟩
 exact⟨e1.os,e1.tape,e1.output,e1.size,λc hc hT=>e1.keep c hc (λh=>hT (g2 c h)),e1.shape,e1.sig,e1.eqfr,e1.frame,λc hc=>(e1.own c hc).imp (g2 c) id⟩
theorem af.fz{f:FuncId}{args:List AV}{L0:SH}{Q:AV→SH→Prop}(h:af P f args L0 λv L=>∃v2 L2,aG [v] L [v2] L2∧Q v2 L2):af P f args L0 Q:=⟨h.1,λH hb hs=>by
 obtain⟨v,H',L',h1,h2,v2,L2,hz,h3⟩:=h.2 H hb hs;obtain⟨H2,f1,f2,f3,f4⟩:=mn hz h2.sub h2.bd;refine⟨v2,H2,L2,λw σ vs hW hvs=>(h1 w σ vs hW hvs).mono ?_,h2.trans (f1.low h2.next) (X7 _),h3⟩;rintro e w' ⟨v',σ',rfl,k1,k2,k3,k4⟩;obtain⟨g1,g2,g3⟩:=f3 w' σ' k2;have:=g3 [v'] ⟨rfl,λi a u h1 h2=>by
  match i with
  |0=>cases h1;cases h2;exact k1
  |i+1=>cases h1⟩
 exact⟨v',σ',rfl,this.2 0 v2 v' rfl rfl,g1,⟨k3.os,k3.tape,k3.output,k3.size,k3.keep,k3.shape,k3.sig,k3.eqfr,k3.frame,λc hc=>k3.own c (g2 c hc)⟩,k4⟩⟩
end
end
section
open Go.RowKit
structure OX where
 join:Nat→Option (List Nat)
 loop:Nat→List Nat
 frz:Nat→List Nat
 mask:Nat→List Nat
def nH(live:List Nat)(τ:List AV):List AV:=live.map λt=>τ.getD t .junk
def aw(live:List Nat)(vs:List AV)(t:Nat):AV:=match live,vs with
 |[],_=>.junk
 |_,[]=>.junk
 |d::ds,v::vs=>if d=t then v else aw ds vs t
def hC(n:Nat)(live:List Nat)(vs:List AV):List AV:=(List.range n).map (aw live vs)
def jz:Code→Option Nat
 |.region id _ _=>some id
 | .seq a b=>match jz a with
  |some i=>some i
  |none=>jz b
 | .cond _ a b=>match jz a with
  |some i=>some i
  |none=>jz b
 |.block _ b=>jz b
 |.loop b=>jz b
 |_=>none
def nI:Code→Option Nat
 |.region id _ _=>some id
 | .seq a b=>match nI b with
  |some i=>some i
  |none=>nI a
 | .cond _ a b=>match nI b with
  |some i=>some i
  |none=>nI a
 |.block _ b=>nI b
 |.loop b=>nI b
 |_=>none
namespace W
abbrev Kn:=List AV→SH→Prop
def frz0(v:AV)(L:SH)(K:AV→SH→Prop):Prop:=match v with
 |.ptr b i off=>∃x L',eP b x L L'∧0<x.size∧0<x.rows.length∧K (.pptr x.rows i off) L'
 |.sl b i n=>∃x L',eP b x L L'∧0<x.size∧i+n≤x.rows.length∧K (.lst ((x.rows.drop i).take n)) L'
 |.nils=>K (.lst []) L
 |.emp=>K (.lst []) L
 |v=>K v L
structure frz1(v:AV)(L:SH)(K:AV→SH→Prop):Prop where
 h:frz0 v L K
def frzs:List Nat→List AV→SH→Kn→Prop
 |[],τ,L,K=>K τ L
 |d::ds,τ,L,K=>frz1 (τ.getD d .junk) L λv L=>frzs ds (τ.set d v) L K
structure cond(v:AV)(A B:Prop):Prop where
 h:(v=.bool true∧A)∨(v=.bool false∧B)
structure join(J:Kn)(B:Kn→Prop):Prop where
 h:B J
structure loop(B:List AV→SH→Kn→Prop)(vs:List AV)(L:SH):Prop where
 h:∃I:Nat→Kn,(∃n vs2 L2,aG vs L vs2 L2∧I n vs2 L2)∧∀n vs L,I n vs L→B vs L λvs' L'=>∃m vs2 L2,m<n∧aG vs' L' vs2 L2∧I m vs2 L2
section
variable (P:Program) (F:TypeId→Option (List TypeId)) (ht:OX)
def code:Code→List AV→SH→Kn→(Nat→Kn)→Kn→Prop
 |.skip,τ,L,kn,_,_=>kn τ L
 |.label _,τ,L,kn,_,_=>kn τ L
 | .region id ops draw,τ,L,kn,_,_=>if draw then(ME ops&&HY ops&&(ca ops.toList []==ht.mask id))=true∧dr P F ops (ht.mask id) (List.range' 0 ops.size) τ L [] λτ L=>frzs (ht.frz id) τ L kn
   else sq P F ops (List.range ops.size) τ L λτ L=>frzs (ht.frz id) τ L kn
 | .seq a b,τ,L,kn,kx,kr=>match (nI a).bind ht.join with
  |none=>code a τ L (λτ L=>code b τ L kn kx kr) kx kr
  |some live=>join (λvs L=>code b (hC τ.length live vs) L kn kx kr) λj=>code a τ L (λτ L=>j (nH live τ) L) kx kr
 |.cond x a b,τ,L,kn,kx,kr=>cond (kC τ x) (code a τ L kn kx kr) (code b τ L kn kx kr)
 |.block id b,τ,L,kn,kx,kr=>code b τ L kn (λid' τ L=>if id'=id then kn τ L else kx id' τ L) kr
 | .loop b,τ,L,kn,kx,kr=>match jz b with
  |none=>False
  |some r=>loop (λvs L next=>code b (hC τ.length (ht.loop r) vs) L (λτ L=>next (nH (ht.loop r) τ) L) kx kr) (nH (ht.loop r) τ) L
 |.exit id,τ,L,_,kx,_=>kx id τ L
 |.ret,τ,L,_,_,kr=>kr τ L
 |_,_,_,_,_,_=>False
def pack:List AV→AV
 |[v]=>v
 |vs=>.tup vs
def res:List ResultVar→List AV→SH→List AV→(AV→SH→Prop)→Prop
 |[],_,L,vs,Q=>Q (pack vs.reverse) L
 |.tmp t::rs,τ,L,vs,Q=>res rs τ L (τ.getD t bL::vs) Q
 | .cell a t::rs,τ,L,vs,Q=>match fm P t,aV P t with
  |some ag,some n=>load ag n (τ.getD a bL) L λv=>res rs τ L (v::vs) Q
  |_,_=>False
def func(fn:Func)(c:Code)(args:List AV)(L:SH)(Q:AV→SH→Prop):Prop:=
 code P F ht c (args++List.replicate (fn.ntmps-args.length) bL) L (λτ L=>res P fn.results.toList τ L [] Q) (λ_ _ _=>False) (λτ L=>res P fn.results.toList τ L [] Q)
end
end W
section
variable {P:Program} {F:TypeId→Option (List TypeId)} {ht:OX}
theorem tG(τ:List AV)(t:Nat):∀live:List Nat,aw live (nH live τ) t=.junk∨aw live (nH live τ) t=τ.getD t .junk
 |[]=>.inl rfl
 | d::ds=>by
  simp only[nH,Yb,aw];by_cases h:d=t
  ·subst h;rw[if_pos rfl];exact .inr rfl
  ·rw[if_neg h];exact tG τ t ds
theorem Ep(live:List Nat)(τ:List AV):Xx τ (hC τ.length live (nH live τ)):=by
 refine⟨by simp[hC],λi x hx=>?_⟩;simp only[hC,Ym]at hx;rcases X9 i τ.length with hi|hi
 ·rw[ZG hi]at hx;simp only[Yz,Yi]at hx;subst hx;rcases tG τ i live with h|h
  ·exact .inl h
  ·right;rw[h,X6 hi];simp[List.getD,hi]
 ·rw[X8 (by simpa using hi)]at hx;cases hx
theorem NI{n:Nat}{live:List Nat}{vs vs2:List AV}{L L2:SH}(h:aG vs L vs2 L2):aG (hC n live vs) L (hC n live vs2) L2:=by
 obtain⟨K,R,h1,⟨h2,h3⟩,h4⟩:=h.ex;refine⟨K,R,h1,⟨by simp[hC],λi a a2 g1 g2=>?_⟩,h4⟩;simp only[hC,Ym]at g1 g2;cases hr:(List.range n)[i]? with
 |none=>rw[hr]at g1;cases g1
 |some t=>
  rw[hr]at g1 g2;simp only[Yz,Yi]at g1 g2;subst g1;subst g2;clear hr h1 h h4
  induction live generalizing vs vs2 with
  |nil=>exact .refl _
  |cons d ds ih=>
   cases vs with
   | nil=>cases vs2 with
    |nil=>exact .refl _
    |cons y ys=>simp at h2
   | cons x xs=>cases vs2 with
    |nil=>simp at h2
    |cons y ys=>
     simp only[aw];by_cases hd:d=t
     ·rw[if_pos hd,if_pos hd];exact h3 0 x y rfl rfl
     ·rw[if_neg hd,if_neg hd];exact ih (by simpa using h2) λi a a2 e1 e2=>h3 (i+1) a a2 (by simpa using e1) (by simpa using e2)
theorem Er{τ:List AV}{d:Nat}{v:AV}{L K R:SH}(hL:L.Perm (K++R))(hv:Fz K (τ.getD d .junk) v):aG τ L (τ.set d v) R:=by
 refine .drop hL ZM λi a a2 h1 h2=>?_
 rw[Yu]at h2;by_cases hd:d=i
 ·subst hd;rw[if_pos rfl]at h2;split at h2
  ·cases h2;rw[List.getD,h1]at hv;exact hv
  ·cases h2
 ·rw[if_neg hd,h1]at h2;cases h2;exact .refl _
theorem Fz.rows{K:SH}{b i n:Nat}{x:Blk}(hm:(b,x)∈K)(hs:0<x.size)(hle:i+n≤x.rows.length):Fz K (.sl b i n) (.lst ((x.rows.drop i).take n)):=by
 rcases Y0 n with rfl|hn
 ·simp only[List.take_zero];exact .sl0 b i
 ·have get:∀(j:Nat) (r r2:List AV),x.rows[i+j]? =some r→((x.rows.drop i).take n)[j]? =some r2→r=r2:=λj r r2 h1 h2=>by
   rw[List.getElem?_take]at h2;split at h2
   ·rw[YY,h1]at h2;cases h2;rfl
   ·cases h2
  refine .sl b i n x _ hm hs hn (by simp;omega) hle (λj r r2 h1 h2=>by rw[get j r r2 h1 h2]) λj r r2 q a a2 h1 h2 h3 h4=>?_
  have:=get j r r2 h1 h2;subst this;rw[h3]at h4;cases h4;exact .refl _
theorem Fz.box{K:SH}{b i off:Nat}{x:Blk}(hm:(b,x)∈K)(hs:0<x.size)(hn:0<x.rows.length):Fz K (.ptr b i off) (.pptr x.rows i off):=
 .ptr b i off x x.rows hm hs rfl hn (λj r r2 h1 h2=>by rw[h1]at h2;cases h2;rfl) λj r r2 q a a2 h1 h2 h3 h4=>by rw[h1]at h2;cases h2;rw[h3]at h4;cases h4;exact .refl _
theorem cE.post{c:Code}{τ:List AV}{L:SH}{Q Q2:Ex→List AV→SH→Prop}(h:cE P c τ L Q)(hq:∀e τ' L',Q e τ' L'→∃τ2 L2,aG τ' L' τ2 L2∧Q2 e τ2 L2):cE P c τ L Q2:=λH hb hs=>by obtain⟨e,τ',H',L',h1,h2,h3⟩:=h H hb hs;obtain⟨τ2,L2,hz,h4⟩:=hq e τ' L' h3;obtain⟨H2,f1,f2,f3,f4⟩:=mn hz h2.sub h2.bd;refine⟨e,τ2,H2,L2,⟨by rw[f2];exact h1.1,λw σ a hW hτ Q hQ=>h1.2 w σ a hW hτ Q λa' w' ⟨σ',t,r,e1,m⟩=>?_⟩,h2.trans (f1.low h2.next) (X7 _),h4⟩;obtain⟨g1,g2,g3⟩:=f3 w' σ' r;exact hQ a' w' ⟨σ',⟨g3 _ t.1,t.2⟩,g1,⟨e1.os,e1.tape,e1.output,e1.size,e1.keep,e1.shape,e1.sig,e1.eqfr,e1.frame,λc hc=>e1.own c (g2 c hc)⟩,m⟩
theorem cE.frzs{c:Code}{τ:List AV}{L:SH}{K:W.Kn}{n:Nat}:∀(ds:List Nat),cE P c τ L (λe τ' L'=>e=.normal∧τ'.length=n∧W.frzs ds τ' L' K)→cE P c τ L (λe τ' L'=>e=.normal∧τ'.length=n∧K τ' L')
 |[],h=>h
 | d::ds,h=>by
  refine cE.frzs ds (h.post ?_);rintro e τ' L' ⟨he,hn,hz⟩;simp only[W.frzs]at hz;have hz:=hz.h;simp only[W.frz0]at hz;have set:∀(v:AV) (L2:SH),aG τ' L' (τ'.set d v) L2→W.frzs ds (τ'.set d v) L2 K→∃τ2 L2,aG τ' L' τ2 L2∧e=.normal∧τ2.length=n∧W.frzs ds τ2 L2 K:=λv L2 h1 h2=>⟨_,L2,h1,he,by simpa using hn,h2⟩
  split at hz
  ·rename_i b i off hv;obtain⟨x,L2,h1,h2,h3,h4⟩:=hz;refine set _ L2 (Er (K:=[(b,x)]) h1.perm ?_) h4;rw[hv];exact .box ZM h2 h3
  ·rename_i b i k hv;obtain⟨x,L2,h1,h2,h3,h4⟩:=hz;refine set _ L2 (Er (K:=[(b,x)]) h1.perm ?_) h4;rw[hv];exact .rows ZM h2 h3
  ·rename_i hv;refine set _ L' (Er (K:=[]) (.refl _) ?_) hz;rw[hv];exact .nils
  ·rename_i hv;refine set _ L' (Er (K:=[]) (.refl _) ?_) hz;rw[hv];exact .emp
  ·refine set _ L' (Er (K:=[]) (.refl _) ?_) hz;exact .refl _
theorem MJ(τ:List AV)(d:Option Tmp)(v:AV):(gj τ d v).length=τ.length:=by cases d<;>simp[gj]
theorem JO{ops:Array Oper}{base:Nat}{call:FuncId→List AV→ac→Option (AV×ac)}:∀(l:List Nat) (τ:List AV) (H:ac) (τ':List AV) (H':ac),nz P F call ops base l τ H=some (τ',H')→τ'.length=τ.length
 |[],τ,H,τ',H',h=>by cases h;rfl
 | i::l,τ,H,τ',H',h=>by
  unfold nz at h;split at h
  ·rename_i τ1 H1 hs;rw[JO l _ _ _ _ h];unfold kK at hs
   repeat' (first|(cases hs;exact MJ _ _ _)|(cases hs;done)|split at hs)
  ·cases h
theorem AD{ops:Array Oper}{base:Nat}{before:List Nat}{call:FuncId→List AV→ac→Option (AV×ac)}:∀(l:List Nat) (τ:List AV) (H:ac) (rs:List tB) (τ':List AV) (H':ac) (rs':List tB),eB P F call ops base before l τ H rs=some (τ',H',rs')→τ'.length=τ.length
 |[],τ,H,rs,τ',H',rs',h=>by cases h;rfl
 | i::l,τ,H,rs,τ',H',rs',h=>by
  have key:∀{mask:Nat} {τ1:List AV} {H1:ac} {r:Option tB},bH P F call ops base i mask τ H=some (τ1,H1,r)→τ1.length=τ.length:=λ{mask τ1 H1 r} hs=>by
   unfold bH at hs
   repeat' (first|(cases hs;exact MJ _ _ _)|(cases hs;done)|split at hs)
  unfold eB at h;split at h
  ·rename_i hs;rw[AD l _ _ _ _ _ _ h,key hs]
  ·rename_i hs;split at h
   ·rw[AD l _ _ _ _ _ _ h,key hs]
   ·cases h
  ·cases h
theorem cE.region'{ops:Array Oper}{id:Nat}{τ:List AV}{L:SH}{K:W.Kn}(fit:Fit P F)(h:W.sq P F ops (List.range ops.size) τ L K):cE P (.region id ops false) τ L λe τ' L'=>e=.normal∧τ'.length=τ.length∧K τ' L':=λH hb hs=>by
 obtain⟨call,τ',H',L',k1,k2,k3,k4,k5⟩:=qc (base:=H.next) (List.range ops.size) τ L _ h List.nodup_range {H with next:=H.next+ops.size} (hb.bump _ _ (YI _ _)) (hs.congr λ_=>rfl)
  (λi hi=>⟨Nat.add_lt_add_left (Y3.1 hi) _,hb _ (YI _ _)⟩) (YI _ _)
 have hr:dG P F call ops false τ H=some (τ',H'):=by simp only[dG,YB,if_false];exact k3
 exact⟨.normal,τ',H',L',gp fit k1 hr,⟨Yn (YI _ _) k4.next,k4.bd,k4.sub,k4.keep,k4.dom,k4.fresh⟩,rfl,JO _ _ _ _ _ k3,k5⟩
theorem cE.draw'{ops:Array Oper}{id:Nat}{τ:List AV}{L:SH}{K:W.Kn}(fit:Fit P F)(hst:nF ops)(hed:xJ ops)(h:W.dr P F ops (ca ops.toList []) (List.range' 0 ops.size) τ L [] K):cE P (.region id ops true) τ L λe τ' L'=>e=.normal∧τ'.length=τ.length∧K τ' L':=λH hb hs=>by
 obtain⟨call,τ',H',L',rs',k1,k2,k3,k4,k5⟩:=xP (base:=H.next) ops.size 0 τ L [] _ h {H with next:=H.next+ops.size} [] (hb.bump _ _ (YI _ _)) (hs.congr λ_=>rfl)
  (λi _ hi=>⟨by show H.next+i<H.next+ops.size;omega,hb _ (YI _ _)⟩) (by show H.next+0≤H.next+ops.size;omega) ZM (λj hj=>by omega)
 have hr:dG P F call ops true τ H=some (τ',{H' with log:=rs'.flatMap (·.writes)++H'.log}):=by simp only[dG,if_true];rw[List.range_eq_range',k3]
 obtain⟨n1,n2⟩:=Eh fit k1 k2 hst hed hr;exact⟨.normal,τ',_,L',⟨n1,λw σ a hW hτ Q hQ=>n2 id w σ a hW hτ Q hQ⟩,⟨Yn (YI _ _) k4.next,k4.bd,k4.sub.congr λ_=>rfl,k4.keep,k4.dom,k4.fresh⟩,rfl,AD _ _ _ _ _ _ _ k3,k5⟩
def VJ(n:Nat)(kn:W.Kn)(kx:Nat→W.Kn)(kr:W.Kn)(e:Ex)(τ:List AV)(L:SH):Prop:=τ.length=n∧match e with
 |.normal=>kn τ L
 |.exit id=>kx id τ L
 |.ret=>kr τ L
theorem dT(fit:Fit P F):∀(c:Code) (τ:List AV) (L:SH) (kn:W.Kn) (kx:Nat→W.Kn) (kr:W.Kn),W.code P F ht c τ L kn kx kr→cE P c τ L (VJ τ.length kn kx kr)
 |.skip,τ,L,kn,kx,kr,h=>.skip ⟨rfl,h⟩
 |.label l,τ,L,kn,kx,kr,h=>.label ⟨rfl,h⟩
 |.exit id,τ,L,kn,kx,kr,h=>.exit ⟨rfl,h⟩
 |.ret,τ,L,kn,kx,kr,h=>.ret ⟨rfl,h⟩
 | .region id ops draw,τ,L,kn,kx,kr,h=>by
  simp only[W.code]at h;have fin:cE P (.region id ops draw) τ L (λe τ' L'=>e=.normal∧τ'.length=τ.length∧kn τ' L')→cE P (.region id ops draw) τ L (VJ τ.length kn kx kr):=λh=>h.mono λe τ' L' ⟨h1,h2,h3⟩=>by subst h1;exact⟨h2,h3⟩
  cases draw with
  |false=>exact fin (.frzs _ (.region' fit h))
  |true=>simp only[if_true,Yl]at h;have hm:=h.2;rw[←eq_of_beq h.1.2]at hm;exact fin (.frzs _ (.draw' fit (JH h.1.1.1) (He h.1.1.2) hm))
 | .seq a b,τ,L,kn,kx,kr,h=>by
  simp only[W.code]at h;split at h
  ·refine cE.seq ((dT fit a τ L _ kx kr h).mono λe τ' L' ⟨h1,h2⟩=>?_);cases e with
   |normal=>simp only;rw[←h1];exact dT fit b τ' L' kn kx kr h2
   |exit id=>exact⟨h1,h2⟩
   |ret=>exact⟨h1,h2⟩
  ·rename_i live _;have hB:=h.h;refine cE.seq ((dT fit a τ L _ kx kr hB).mono λe τ' L' ⟨h1,h2⟩=>?_);cases e with
   |normal=>
    have h5:=dT fit b _ L' kn kx kr h2;have hlen:(hC τ.length live (nH live τ')).length=τ.length:=by simp[hC]
    rw[hlen]at h5;have hd:=Ep live τ';rw[h1]at hd;exact cE.dim hd h5
   |exit id=>exact⟨h1,h2⟩
   |ret=>exact⟨h1,h2⟩
 | .cond x a b,τ,L,kn,kx,kr,h=>by
  rcases h.h with⟨h1,h2⟩|⟨h1,h2⟩
  ·exact cE.cond (t:=true) h1 (dT fit a τ L kn kx kr h2)
  ·exact cE.cond (t:=false) h1 (dT fit b τ L kn kx kr h2)
 | .block id b,τ,L,kn,kx,kr,h=>by
  refine cE.block ((dT fit b τ L _ _ kr h).mono λe τ' L' ⟨h1,h2⟩=>?_);cases e with
  |normal=>exact⟨h1,h2⟩
  |ret=>exact⟨h1,h2⟩
  |exit id'=>
   simp only[Ex.leave];simp only at h2;by_cases hid:id'=id
   ·rw[if_pos hid]at h2 ⊢;exact⟨h1,h2⟩
   ·rw[if_neg hid]at h2 ⊢;exact⟨h1,h2⟩
 | .loop b,τ,L,kn,kx,kr,h=>by
  simp only[W.code]at h;split at h
  ·exact h.elim
  ·rename_i r _;obtain⟨I,⟨n,vs0,L0,hz0,h0⟩,hB⟩:=h.h;refine cE.loop (λm τ' L'=>τ'.length=τ.length∧∃vs2 L2,aG (nH (ht.loop r) τ') L' vs2 L2∧I m vs2 L2) (λm τ' L' ⟨h1,vs2,L2,hz,h2⟩=>?_) n ⟨rfl,vs0,L0,hz0,h0⟩;have h4:=dT fit b _ L2 _ kx kr (hB m vs2 L2 h2);have hlen:(hC τ.length (ht.loop r) vs2).length=τ.length:=by simp[hC]
   rw[hlen]at h4;have h5:=cE.fz (NI (n:=τ.length) (live:=ht.loop r) hz) h4;have hd:=Ep (ht.loop r) τ';rw[h1]at hd;refine(cE.dim hd h5).mono λe τ1 L1 ⟨g1,g2⟩=>?_
   cases e with
   |normal=>obtain⟨m',vs3,L3,k1,k2,k3⟩:=g2;exact⟨m',k1,g1,vs3,L3,k2,k3⟩
   |exit id=>exact⟨g1,g2⟩
   |ret=>exact⟨g1,g2⟩
 |.rangeFunc ..,_,_,_,_,_,h=>h.elim
 |.scope _,_,_,_,_,_,h=>h.elim
 |.goto _,_,_,_,_,_,h=>h.elim
 |.refuse _,_,_,_,_,_,h=>h.elim
theorem Lv{τ:List AV}{L:SH}{H:ac}{Q:AV→SH→Prop}(hs:lC L H):∀(rs:List ResultVar) (vs:List AV),W.res P rs τ L vs Q→∃us,cu (rs.map (kL P τ H))=some us∧Q (W.pack (vs.reverse++us)) L
 |[],vs,h=>⟨[],rfl,by simpa[W.res]using h⟩
 | .tmp t::rs,vs,h=>by obtain⟨us,h1,h2⟩:=Lv hs rs _ h;refine⟨τ.getD t bL::us,?_,by simpa using h2⟩;simp only[Yb,kL,cu,h1]
 | .cell a t::rs,vs,h=>by
  simp only[W.res]at h;split at h
  ·rename_i ag n hag hn;obtain⟨v,g1,g2⟩:=MG hs hag hn h.h;obtain⟨us,h1,h2⟩:=Lv hs rs _ g2;refine⟨v::us,?_,by simpa using h2⟩;simp only[Yb,kL,g1,cu,h1]
  ·exact h.elim
theorem Lw(fit:Fit P F){f:FuncId}{fn:Func}{c:Code}{args:List AV}{L:SH}{Q:AV→SH→Prop}(hf:P.funcs[f]? =some fn)(hb:fn.body=some c)(h:W.func P F ht fn c args L Q):af P f args L Q:=by
 refine⟨⟨fn,c,hf,hb⟩,λH hB hs=>?_⟩;obtain⟨e,τ',H',L',k1,k2,k3,k4⟩:=dT fit c _ L _ _ _ h H hB hs;have hres:(e=.normal∨e=.ret)∧W.res P fn.results.toList τ' L' [] Q:=by
  cases e with
  |normal=>exact⟨.inl rfl,k4⟩
  |ret=>exact⟨.inr rfl,k4⟩
  |exit id=>exact k4.elim
 obtain⟨he,hr⟩:=hres;obtain⟨us,r1,r2⟩:=Lv k2.sub _ _ hr;have hv:mc P τ' H' fn.results.toList=some (W.pack us):=by
  unfold mc;rw[r1]
  match us with
  |[]=>rfl
  |[v]=>rfl
  |v::u::l=>rfl
 simp only[List.reverse_nil,Za]at r2;refine⟨_,H',L',λw σ vs hW hvs=>?_,k2,r2⟩;refine calls_of_wp hf hb (k1.2 w σ _ hW ⟨⟨by simp[hvs.1],λi x u h1 h2=>?_⟩,rfl⟩ _ λa' w' haf=>?_)
 ·simp only[Array.toList_append,Array.toList_replicate]at h2;rcases X9 i args.length with hi|hi
  ·rw[Yp hi]at h1;rw[Yp (by rw[←hvs.1];exact hi)]at h2;exact hvs.2 i x u h1 h2
  ·rw[Yh hi,Zm]at h1;rw[Yh (by rw[←hvs.1];exact hi),Zm]at h2;split at h1
   ·split at h2
    ·cases h1;cases h2;exact mg
    ·cases h2
   ·cases h1
 ·obtain⟨σ',t1,g1,e1,m1⟩:=haf;obtain⟨v',q1,q2⟩:=tF (P:=P) g1 t1 hv;have hpost:a'.defers=[]∧∃v,(results fn a'.tmps).run P w'=.ok v w'∧∃v' σ',Ending.returned v=.returned v'∧bb w' σ' (aK σ' H') _ v'∧bu w' σ' H'∧eI w σ (aK σ H) w' σ' (aK σ' H')∧∀c pl,σ' c=some pl→σ c=some pl∨H.next≤c:=
   ⟨t1.2,v',q1,v',σ',rfl,q2,g1,e1,m1⟩
  rcases he with rfl|rfl
  ·exact hpost
  ·exact hpost
end
end
def Lx(P:Program)(t:TypeId):Option (List TypeId):=match P.underlying t with
 | some (.struct fs) => if (!P.stoodInHeld t && !P.eqGuardType P.depth t && fs.toList.zipIdx.all fun p => p.1.offset == p.2 && p.1.name != "_" && (match fm P p.1.type with | some false => true | _ => false)) = true then some (fs.toList.map (·.type)) else none
 |_=>none
theorem NJ{P:Program}{t:TypeId}{ts:List TypeId}(h:Lx P t=some ts):OM P t ts:=by
 unfold Lx at h;split at h
 ·rename_i fs hu;split at h
  ·rename_i hc;cases h;simp only[Yl,Bool.not_eq_true',Yo]at hc;have hf:P.fieldsOf t=fs:=by simp[Program.fieldsOf,hu]
   refine⟨by rw[hf];exact hu,hc.1.1,hc.1.2,by rw[hf],λi f hi=>?_⟩;rw[hf]at hi;have:=hc.2 (f,i) (by rw[List.mem_iff_getElem?];exact⟨i,by rw[List.getElem?_zipIdx,hi];simp⟩);simp only[beq_iff_eq,bne_iff_ne]at this;refine⟨this.1.2,this.1.1,?_⟩;have h2:=this.2;split at h2
   ·assumption
   ·cases h2
  ·cases h
 ·cases h
noncomputable def Fl:TypeId→Option (List TypeId):=Lx Tryz.prog
set_option maxRecDepth 1000000 in
theorem Es:Tryz.prog.funcs.toList.all JI=true:=by kernel_rfl
theorem fit:Fit Tryz.prog Fl:=⟨λt ts h=>NJ h,(SX Es).1,by kernel_rfl⟩
section
section
variable {P:Program} {F:TypeId→Option (List TypeId)} {K:AV→Prop} {KL:AV→SH→Prop} {L:SH}
theorem da(v:AV):W0.opt (some v) K=K v:=propext ⟨λ⟨u,h1,h2⟩=>by cases h1;exact h2,λh=>⟨v,rfl,h⟩⟩
theorem JP:W0.opt none K=False:=propext ⟨λ⟨u,h1,h2⟩=>(by cases h1),λh=>h.elim⟩
theorem TF(x y:AV):W.pick (.bool true) x y K=K x:=propext ⟨λ⟨t,h1,h2⟩=>by cases h1;exact h2,λh=>⟨true,rfl,h⟩⟩
theorem TG(x y:AV):W.pick (.bool false) x y K=K y:=propext ⟨λ⟨t,h1,h2⟩=>by cases h1;exact h2,λh=>⟨false,rfl,h⟩⟩
theorem VK(p:Bool)(A:(AV→SH→Prop)→Prop):W.grd (.bool p) true A L KL=((p=true→A KL)∧(p=false→KL bL L)):=propext ⟨λ⟨h⟩=>by
  rcases h with⟨h1,h2⟩|⟨h1|h1,h2⟩
  ·cases h1;exact⟨λ_=>h2,λh=>(by cases h)⟩
  ·cases h1;exact⟨λh=>(by cases h),λ_=>h2⟩
  ·(cases h1),λ⟨h1,h2⟩=>by
  cases p with
  |true=>exact⟨.inl ⟨rfl,h1 rfl⟩⟩
  |false=>exact⟨.inr ⟨.inl rfl,h2 rfl⟩⟩⟩
theorem VL(p:Bool)(A:(AV→SH→Prop)→Prop):W.grd (.bool p) false A L KL=((p=false→A KL)∧(p=true→KL bL L)):=propext ⟨λ⟨h⟩=>by
  rcases h with⟨h1,h2⟩|⟨h1|h1,h2⟩
  ·cases h1;exact⟨λ_=>h2,λh=>(by cases h)⟩
  ·cases h1;exact⟨λh=>(by cases h),λ_=>h2⟩
  ·(cases h1),λ⟨h1,h2⟩=>by
  cases p with
  |false=>exact⟨.inl ⟨rfl,h1 rfl⟩⟩
  |true=>exact⟨.inr ⟨.inl rfl,h2 rfl⟩⟩⟩
theorem TH{KF:AV→SH→W.Fp→Prop}(p:Bool)(A:(AV→SH→W.Fp→Prop)→Prop):W.dgrd (.bool p) true A L KF=((p=true→A KF)∧(p=false→KF bL L ⟨[],[],[],L.names⟩)):=propext ⟨λ⟨h⟩=>by
  rcases h with⟨h1,h2⟩|⟨h1|h1,h2⟩
  ·cases h1;exact⟨λ_=>h2,λh=>(by cases h)⟩
  ·cases h1;exact⟨λh=>(by cases h),λ_=>h2⟩
  ·(cases h1),λ⟨h1,h2⟩=>by
  cases p with
  |true=>exact⟨.inl ⟨rfl,h1 rfl⟩⟩
  |false=>exact⟨.inr ⟨.inl rfl,h2 rfl⟩⟩⟩
theorem TJ{KF:AV→SH→W.Fp→Prop}(p:Bool)(A:(AV→SH→W.Fp→Prop)→Prop):W.dgrd (.bool p) false A L KF=((p=false→A KF)∧(p=true→KF bL L ⟨[],[],[],L.names⟩)):=propext ⟨λ⟨h⟩=>by
  rcases h with⟨h1,h2⟩|⟨h1|h1,h2⟩
  ·cases h1;exact⟨λ_=>h2,λh=>(by cases h)⟩
  ·cases h1;exact⟨λh=>(by cases h),λ_=>h2⟩
  ·(cases h1),λ⟨h1,h2⟩=>by
  cases p with
  |false=>exact⟨.inl ⟨rfl,h1 rfl⟩⟩
  |true=>exact⟨.inr ⟨.inl rfl,h2 rfl⟩⟩⟩
theorem TK(p:Bool)(A B:Prop):W.cond (.bool p) A B=((p=true→A)∧(p=false→B)):=propext ⟨λ⟨h⟩=>by
  rcases h with⟨h1,h2⟩|⟨h1,h2⟩
  ·cases h1;exact⟨λ_=>h2,λh=>(by cases h)⟩
  ·cases h1;exact⟨λh=>(by cases h),λ_=>h2⟩,λ⟨h1,h2⟩=>by
  cases p with
  |true=>exact⟨.inl ⟨rfl,h1 rfl⟩⟩
  |false=>exact⟨.inr ⟨rfl,h2 rfl⟩⟩⟩
theorem fp(op:BinOp)(t:TypeId)(x y:AV):W.bin P F op t x y K=W0.opt (iu P F op t x y) K:=propext ⟨λh=>h.h,λh=>⟨h⟩⟩
theorem VM(t:TypeId)(k:IntKind)(a b:Int):W.bin P F .lss t (.int k a) (.int k b) K=K (.bool (decide (a<b))):=by rw[fp];simp[iu,da]
theorem VN(t:TypeId)(k:IntKind)(a b:Int):W.bin P F .leq t (.int k a) (.int k b) K=K (.bool (decide (a≤b))):=by rw[fp];simp[iu,da]
theorem VO(t:TypeId)(k:IntKind)(a b:Int):W.bin P F .gtr t (.int k a) (.int k b) K=K (.bool (decide (b<a))):=by rw[fp];simp[iu,da]
theorem VP(t:TypeId)(k:IntKind)(a b:Int):W.bin P F .geq t (.int k a) (.int k b) K=K (.bool (decide (b≤a))):=by rw[fp];simp[iu,da]
theorem VQ(t:TypeId)(k:IntKind)(a b:Int):W.bin P F .eql t (.int k a) (.int k b) K=K (.bool (decide (a=b))):=by rw[fp];simp only[iu,ne_eq,not_true_eq_false,if_false,da];rw[show(a==b)=decide (a=b)from by cases h:(a==b)<;>simp_all]
theorem VR(t:TypeId)(k:IntKind)(a b:Int):W.bin P F .neq t (.int k a) (.int k b) K=K (.bool (decide (a≠b))):=by rw[fp];simp only[iu,ne_eq,not_true_eq_false,if_false,da];rw[show(a != b)=decide (¬a=b)from by cases h:(a != b)<;>simp_all]
theorem VS(t:TypeId)(k:IntKind)(a b:Int):W.bin P F .add t (.int k a) (.int k b) K=K (.int k (k.wrap (a+b))):=by rw[fp];simp[iu,da]
theorem VT(t:TypeId)(k:IntKind)(a b:Int):W.bin P F .sub t (.int k a) (.int k b) K=K (.int k (k.wrap (a-b))):=by rw[fp];simp[iu,da]
theorem VU(t:TypeId)(k:IntKind)(a b:Int):W.bin P F .mul t (.int k a) (.int k b) K=K (.int k (k.wrap (a*b))):=by rw[fp];simp[iu,da]
theorem VV(t:TypeId)(k:IntKind)(a b:Int):W.bin P F .quo t (.int k a) (.int k b) K=(b≠0∧K (.int k (k.wrap (a.tdiv b)))):=by rw[fp];by_cases h:b=0<;>simp[iu,da,JP,h]
theorem VW(t:TypeId)(k:IntKind)(a b:Int):W.bin P F .rem t (.int k a) (.int k b) K=(b≠0∧K (.int k (a.tmod b))):=by rw[fp];by_cases h:b=0<;>simp[iu,da,JP,h]
theorem VX(t:TypeId)(a b:List UInt8):W.bin P F .eql t (.str a) (.str b) K=K (.bool (decide (a=b))):=by rw[fp];simp only[iu,da];rw[show(a==b)=decide (a=b)from by cases h:(a==b)<;>simp_all]
theorem VY(t:TypeId)(a b:List UInt8):W.bin P F .neq t (.str a) (.str b) K=K (.bool (decide (a≠b))):=by rw[fp];simp only[iu,da];rw[show(!(a==b))=decide (a≠b)from by cases h:(a==b)<;>simp_all]
theorem VZ(t:TypeId)(h:P.underlying t=some .bool)(a b:Bool):W.bin P F .eql t (.bool a) (.bool b) K=K (.bool (a==b)):=by rw[fp];simp[iu,Cc,h,da]
theorem V0(t:TypeId)(h:P.underlying t=some .bool)(a b:Bool):W.bin P F .neq t (.bool a) (.bool b) K=K (.bool (!(a==b))):=by rw[fp];simp[iu,Cc,h,da]
theorem TL(b:Bool):W.un .not (.bool b) K=K (.bool !b):=propext ⟨λ⟨v,h1,h2⟩=>by cases h1;exact h2,λh=>⟨_,rfl,h⟩⟩
theorem TM(k:IntKind)(n:Int):W.un .neg (.int k n) K=K (.int k (k.wrap (0-n))):=propext ⟨λ⟨v,h1,h2⟩=>by cases h1;exact h2,λh=>⟨_,rfl,h⟩⟩
theorem TN(k k':IntKind)(n:Int):W.conv k (.int k' n) K=K (.int k (k.wrap n)):=propext ⟨λ⟨k2,m,h1,h2⟩=>by cases h1;exact h2,λh=>⟨_,_,rfl,h⟩⟩
theorem SY(k:IntKind)(a c:Int):W.mnx true (.int k a) (.int k c) K=K (.int k (if c > a then c else a)):=propext ⟨λ⟨k',a',c',h1,h2,h3⟩=>by cases h1;cases h2;exact h3,λh=>⟨_,_,_,rfl,rfl,h⟩⟩
theorem Rx(g:FuncId)(cs args:List AV):W.call P (.fn g cs) args L KL=af P g (args++cs) L KL:=propext ⟨λh=>h.h,λh=>⟨h⟩⟩
theorem OY{KN:AV→SH→List Nat→Prop}(us:List W.WR)(i:Nat)(g:FuncId)(cs args:List AV):W.dcall P us i (.fn g cs) args L KN=∃Kc R:SH,L.Perm (Kc++R)∧(∀x∈us,W.free x ⟨i,[],Kc.names,[],true,[]⟩)∧af P g (args++cs) Kc λv K'=>KN v (K'++R) Kc.names:=propext ⟨λh=>h.h,λh=>⟨h⟩⟩
theorem Ry{KF:W.Fp→Prop}(r:W.Fp):W.note r KF=KF r:=propext ⟨λh=>h.h r rfl,λh=>⟨λr' e=>e▸h⟩⟩
def az(P:Program)(f:FuncId)(args:List AV)(v:AV):Prop:=af P f args [] λu K=>u=v∧K=[]
theorem az.call{f:FuncId}{args:List AV}{v:AV}(h:az P f args v)(hk:KL v L):af P f args L KL:=
 af.frame h (K:=[]) (R:=L) (.refl _) λu K ⟨h1,h2⟩=>by subst h1;subst h2;exact hk
theorem Rz{α:Type}(S:α→List AV×SH)(m:α→Nat)(G:α→Prop){B:List AV→SH→W.Kn→Prop}{vs:List AV}(a0:α)(h0:G a0)(hv:vs=(S a0).1)(hL:L=(S a0).2)
  (h:∀a,G a→B (S a).1 (S a).2 λvs' L'=>∃a',G a'∧m a'<m a∧aG vs' L' (S a').1 (S a').2):W.loop B vs L:=by
 refine⟨λn vs L=>∃a,G a∧m a=n∧vs=(S a).1∧L=(S a).2,⟨m a0,_,_,.refl _ _,a0,h0,rfl,hv,hL⟩,?_⟩;rintro n vs L ⟨a,ha,rfl,rfl,rfl⟩;have e:(λvs' L'=>∃a',G a'∧m a'<m a∧aG vs' L' (S a').1 (S a').2)=(λvs' L'=>∃m_1 vs2 L2,m_1<m a∧aG vs' L' vs2 L2∧∃a,G a∧m a=m_1∧vs2=(S a).1∧L2=(S a).2):=by
  funext vs' L';apply propext;constructor
  ·rintro⟨a',g1,g2,g3⟩;exact⟨m a',_,_,g2,g3,a',g1,rfl,rfl,rfl⟩
  ·rintro⟨n,vs2,L2,g1,g2,a',g3,rfl,rfl,rfl⟩;exact⟨a',g3,g1,g2⟩
 rw[←e];exact h a ha
end
end
section
section
variable {P:Program} {F:TypeId→Option (List TypeId)} {K:AV→Prop} {KL:AV→SH→Prop} {L:SH}
theorem OZ{p:Bool}{x y:AV}(hp:p=true)(h:K x):W.pick (.bool p) x y K:=by subst hp;rw[TF];exact h
theorem O0{p:Bool}{x y:AV}(hp:p=false)(h:K y):W.pick (.bool p) x y K:=by subst hp;rw[TG];exact h
theorem RA{p want:Bool}{A:(AV→SH→Prop)→Prop}(hp:p=want)(h:A KL):W.grd (.bool p) want A L KL:=⟨.inl ⟨by rw[hp],h⟩⟩
theorem RB{p want:Bool}{A:(AV→SH→Prop)→Prop}(hp:p=!want)(h:KL bL L):W.grd (.bool p) want A L KL:=⟨.inr ⟨.inl (by rw[hp]),h⟩⟩
theorem H5{want:Bool}{A:(AV→SH→Prop)→Prop}(h:KL bL L):W.grd bL want A L KL:=⟨.inr ⟨.inr rfl,h⟩⟩
theorem H6{p:Bool}{A:(AV→SH→Prop)→Prop}(h1:p=true→A KL)(h2:p=false→KL bL L):W.grd (.bool p) true A L KL:=by rw[VK];exact⟨h1,h2⟩
theorem H7{p:Bool}{A:(AV→SH→Prop)→Prop}(h1:p=false→A KL)(h2:p=true→KL bL L):W.grd (.bool p) false A L KL:=by rw[VL];exact⟨h1,h2⟩
theorem O1{KF:AV→SH→W.Fp→Prop}{p want:Bool}{A:(AV→SH→W.Fp→Prop)→Prop}(hp:p=want)(h:A KF):W.dgrd (.bool p) want A L KF:=⟨.inl ⟨by rw[hp],h⟩⟩
theorem O2{KF:AV→SH→W.Fp→Prop}{p want:Bool}{A:(AV→SH→W.Fp→Prop)→Prop}(hp:p=!want)(h:KF bL L ⟨[],[],[],L.names⟩):W.dgrd (.bool p) want A L KF:=⟨.inr ⟨.inl (by rw[hp]),h⟩⟩
theorem O3{KF:AV→SH→W.Fp→Prop}{want:Bool}{A:(AV→SH→W.Fp→Prop)→Prop}(h:KF bL L ⟨[],[],[],L.names⟩):W.dgrd bL want A L KF:=⟨.inr ⟨.inr rfl,h⟩⟩
theorem O4{KF:AV→SH→W.Fp→Prop}{p:Bool}{A:(AV→SH→W.Fp→Prop)→Prop}(h1:p=true→A KF)(h2:p=false→KF bL L ⟨[],[],[],L.names⟩):W.dgrd (.bool p) true A L KF:=by rw[TH];exact⟨h1,h2⟩
theorem O5{KF:AV→SH→W.Fp→Prop}{p:Bool}{A:(AV→SH→W.Fp→Prop)→Prop}(h1:p=false→A KF)(h2:p=true→KF bL L ⟨[],[],[],L.names⟩):W.dgrd (.bool p) false A L KF:=by rw[TJ];exact⟨h1,h2⟩
theorem O6{p:Bool}{A B:Prop}(hp:p=true)(h:A):W.cond (.bool p) A B:=⟨.inl ⟨by rw[hp],h⟩⟩
theorem JQ{p:Bool}{A B:Prop}(hp:p=false)(h:B):W.cond (.bool p) A B:=⟨.inr ⟨by rw[hp],h⟩⟩
theorem O7{p:Bool}{A B:Prop}(h1:p=true→A)(h2:p=false→B):W.cond (.bool p) A B:=by rw[TK];exact⟨h1,h2⟩
theorem O8{t:TypeId}{k:IntKind}{a b:Int}(h:K (.bool (decide (a<b)))):W.bin P F .lss t (.int k a) (.int k b) K:=by rw[VM];exact h
theorem SZ{t:TypeId}{k:IntKind}{a b:Int}(h:K (.bool (decide (a≤b)))):W.bin P F .leq t (.int k a) (.int k b) K:=by rw[VN];exact h
theorem S0{t:TypeId}{k:IntKind}{a b:Int}(h:K (.bool (decide (b<a)))):W.bin P F .gtr t (.int k a) (.int k b) K:=by rw[VO];exact h
theorem S1{t:TypeId}{k:IntKind}{a b:Int}(h:K (.bool (decide (b≤a)))):W.bin P F .geq t (.int k a) (.int k b) K:=by rw[VP];exact h
theorem S2{t:TypeId}{k:IntKind}{a b:Int}(h:K (.bool (decide (a=b)))):W.bin P F .eql t (.int k a) (.int k b) K:=by rw[VQ];exact h
theorem S3{t:TypeId}{k:IntKind}{a b:Int}(h:K (.bool (decide (a≠b)))):W.bin P F .neq t (.int k a) (.int k b) K:=by rw[VR];exact h
theorem O9{t:TypeId}{k:IntKind}{a b:Int}(h:K (.int k (k.wrap (a+b)))):W.bin P F .add t (.int k a) (.int k b) K:=by rw[VS];exact h
theorem Pa{t:TypeId}{k:IntKind}{a b:Int}(h:K (.int k (k.wrap (a-b)))):W.bin P F .sub t (.int k a) (.int k b) K:=by rw[VT];exact h
theorem S4{t:TypeId}{k:IntKind}{a b:Int}(h:K (.int k (k.wrap (a*b)))):W.bin P F .mul t (.int k a) (.int k b) K:=by rw[VU];exact h
theorem V1{t:TypeId}{k:IntKind}{a b:Int}(hb:b≠0)(h:K (.int k (k.wrap (a.tdiv b)))):W.bin P F .quo t (.int k a) (.int k b) K:=by rw[VV];exact⟨hb,h⟩
theorem Pb{t:TypeId}{k:IntKind}{a b:Int}(hb:b≠0)(h:K (.int k (a.tmod b))):W.bin P F .rem t (.int k a) (.int k b) K:=by rw[VW];exact⟨hb,h⟩
theorem S5{t:TypeId}{a b:List UInt8}(h:K (.bool (decide (a=b)))):W.bin P F .eql t (.str a) (.str b) K:=by rw[VX];exact h
theorem S6{t:TypeId}{a b:List UInt8}(h:K (.bool (decide (a≠b)))):W.bin P F .neq t (.str a) (.str b) K:=by rw[VY];exact h
theorem V2{b:Bool}(h:K (.bool !b)):W.un .not (.bool b) K:=by rw[TL];exact h
theorem V3{k:IntKind}{n:Int}(h:K (.int k (k.wrap (0-n)))):W.un .neg (.int k n) K:=by rw[TM];exact h
theorem TO{k k':IntKind}{n:Int}(h:K (.int k (k.wrap n))):W.conv k (.int k' n) K:=by rw[TN];exact h
theorem AE{off b i o:Nat}(h:K (.ptr b i (o+off))):W.faddr off (.ptr b i o) K:=⟨h⟩
theorem AF{off:Nat}{rows:List (List AV)}{i o:Nat}(h:K (.pptr rows i (o+off))):W.faddr off (.pptr rows i o) K:=⟨h⟩
theorem Et{n:Nat}{rows:List (List AV)}{i off:Nat}{r:List AV}{v:AV}(h1:rows[i]? =some r)(h2:r[off]? =some v)(h:K v):W.load false n (.pptr rows i off) L K:=⟨r,v,h1,h2,h⟩
theorem Eu{n b i off:Nat}{x:Blk}{r:List AV}{v:AV}(hm:(b,x)∈L)(h1:x.rows[i]? =some r)(h2:r[off]? =some v)(h:K v):W.load false n (.ptr b i off) L K:=⟨x,r,v,hm,h1,h2,h⟩
theorem RC{n:Nat}{rows:List (List AV)}{i:Nat}{r:List AV}(h1:rows[i]? =some r)(h2:r.length=n)(h:K (.agg r)):W.load true n (.pptr rows i 0) L K:=
 ⟨r,.agg r,h1,by simp[W0.rowLd,←h2],h⟩
theorem RD{n b i:Nat}{x:Blk}{r:List AV}(hm:(b,x)∈L)(h1:x.rows[i]? =some r)(h2:r.length=n)(h:K (.agg r)):W.load true n (.ptr b i 0) L K:=
 ⟨x,r,.agg r,hm,h1,by simp[W0.rowLd,←h2],h⟩
theorem Pc{n:Nat}{rows:List (List AV)}{i off:Nat}{r cs:List AV}(h1:rows[i]? =some r)(h2:off+n≤r.length)(h3:(r.drop off).take n=cs)(h:K (.agg cs)):W.load true n (.pptr rows i off) L K:=
 ⟨r,.agg cs,h1,by simp[W0.rowLd,h2,h3],h⟩
theorem Pd{n b i off:Nat}{x:Blk}{r cs:List AV}(hm:(b,x)∈L)(h1:x.rows[i]? =some r)(h2:off+n≤r.length)(h3:(r.drop off).take n=cs)(h:K (.agg cs)):W.load true n (.ptr b i off) L K:=
 ⟨x,r,.agg cs,hm,h1,by simp[W0.rowLd,h2,h3],h⟩
theorem au{KS:SH→Prop}{n b:Nat}{v:AV}{m:Nat}{r cs:List AV}{L':SH}(hu:DQ b ⟨m,[r]⟩ ⟨m,[cs]⟩ L L')(h2:v.cells? =some cs)(h3:cs.length=n)(h4:cs.all AV.one=true)(h5:r.length=n)(h:KS L'):W.store n (.ptr b 0 0) v L KS:=
 ⟨⟨m,[r]⟩,r,cs,L',rfl,h2,h3,h4,ZJ,by
  have:bK r 0 cs=cs:=by unfold bK;rw[List.take_zero,Za,List.drop_of_length_le ZJ,YM]
  rw[this];exact hu,h⟩
theorem H8(r:List AV)(off:Nat)(v:AV)(h:off<r.length):bK r off [v]=r.set off v:=by unfold bK;rw[List.set_eq_take_append_cons_drop,if_pos h];simp
theorem Ck{KS:SH→Prop}{b i off:Nat}{v:AV}{x x':Blk}{r:List AV}{L':SH}(hu:DQ b x x' L L')(h1:x.rows[i]? =some r)(h2:v.cells? =some [v])(h4:v.one=true)(h5:off<r.length)(h6:x'=⟨x.size,x.rows.set i (r.set off v)⟩)(h:KS L'):W.store 1 (.ptr b i off) v L KS:=
 ⟨x,r,[v],L',h1,h2,rfl,by simp[h4],ZJ,by rw[H8 r off v h5,←h6];exact hu,h⟩
theorem JR{KS:SH→Prop}{n b i:Nat}{v:AV}{x x':Blk}{r cs:List AV}{L':SH}(hu:DQ b x x' L L')(h1:x.rows[i]? =some r)(h2:v.cells? =some cs)(h3:cs.length=n)(h4:cs.all AV.one=true)(h5:r.length=n)(h6:x'=⟨x.size,x.rows.set i cs⟩)(h:KS L'):W.store n (.ptr b i 0) v L KS:=
 ⟨x,r,cs,L',h1,h2,h3,h4,ZJ,by
  have:bK r 0 cs=cs:=by unfold bK;rw[List.take_zero,Za,List.drop_of_length_le ZJ,YM]
  rw[this,←h6];exact hu,h⟩
theorem RE{n:Nat}{rows:List (List AV)}{k:IntKind}{j:Nat}{r:List AV}(h1:rows[j]? =some r)(h2:r.length=n)(h:K (.pptr rows j 0)):W.idx n (.lst rows) (.int k (j:Int)) L K:=
 ⟨k,j,r,rfl,Int.natCast_nonneg _,by simpa using h1,h2,by simpa using h⟩
theorem MK{n:Nat}{rows:List (List AV)}{k:IntKind}{i:Int}{r:List AV}(h0:0≤i)(h1:rows[i.toNat]? =some r)(h2:r.length=n)(h:K (.pptr rows i.toNat 0)):W.idx n (.lst rows) (.int k i) L K:=⟨k,i,r,rfl,h0,h1,h2,h⟩
theorem ML{n b j m:Nat}{k:IntKind}{i:Int}{y:Blk}(h0:0≤i)(h1:i.toNat<m)(hm:(b,y)∈L)(h2:y.size=n)(h:K (.ptr b (j+i.toNat) 0)):W.idx n (.sl b j m) (.int k i) L K:=⟨k,i,y,rfl,h0,h1,hm,h2,h⟩
theorem Pe{n b m:Nat}{k:IntKind}{i:Nat}{y:Blk}(h1:i<m)(hm:(b,y)∈L)(h2:y.size=n)(h:K (.ptr b i 0)):W.idx n (.sl b 0 m) (.int k (i:Int)) L K:=⟨k,i,y,rfl,Int.natCast_nonneg _,by simpa using h1,hm,h2,by simpa using h⟩
theorem Ev{len n:Nat}{rows:List (List AV)}{j off:Nat}{k:IntKind}{i:Int}(h0:0≤i)(h1:i.toNat<len)(h:K (.pptr rows j (off+i.toNat*n))):W.idxP len n (.pptr rows j off) (.int k i) K:=⟨k,i,rfl,h0,h1,h⟩
theorem V4{ag:Bool}{len n:Nat}{cs:List AV}{k:IntKind}{i:Int}{v:AV}(h0:0≤i)(h1:i.toNat<len)(h2:W0.rowLd ag n cs (i.toNat*n)=some v)(h:K v):W.ixA ag len n (.agg cs) (.int k i) K:=⟨cs,k,i,v,rfl,rfl,h0,h1,h2,h⟩
theorem V5{i:Nat}{vs:List AV}{v:AV}(h1:vs[i]? =some v)(h:K v):W.ext i (.tup vs) K:=⟨vs,v,rfl,h1,h⟩
theorem MM{b i off:Nat}(h:K (.ptr b i off)):W.nilchk (.ptr b i off) K:=⟨h⟩
theorem RF{z:List AV}{ps:List (Nat×Nat×AV)}{cs:List AV}(h1:W0.fillR z ps=some cs)(h:K (.agg cs)):W.build z ps K:=⟨cs,h1,h⟩
theorem MN{cs:List AV}(h:∀b,b∉L.names→KL (.ptr b 0 0) ((b,⟨cs.length,[cs]⟩)::L)):W.alloc cs L KL:=⟨h⟩
theorem S7{x:AV}{cs:List AV}(h1:x.cells? =some cs)(h2:cs.all AV.one=true)(h:∀b,b∉L.names→KL (.ptr b 0 0) ((b,⟨cs.length,[cs]⟩)::L)):W.box x L KL:=⟨cs,h1,h2,h⟩
theorem Pf{n:Nat}{z:List AV}{len:Nat}{ps:List (Nat×AV)}{rows:List (List AV)}(h1:len*n≤2^24)(h2:eb n (List.replicate len z) ps=some rows)(h:∀b,b∉L.names→KL (.sl b 0 len) ((b,⟨n,rows⟩)::L)):W.bslice n z len ps L KL:=⟨h1,rows,h2,h⟩
theorem gr{n by_:Nat}{z:List AV}{k k':IntKind}{i j:Nat}(h1:i≤j)(h2:j≤2^62)(h3:j*by_≤2^48)(h:∀b,b∉L.names→KL (.sl b 0 i) ((b,⟨n,List.replicate i z⟩)::L)):W.mslice n by_ z (.int k (i:Int)) (.int k' (j:Int)) L KL:=⟨k,k',i,j,rfl,rfl,h1,h2,h3,h⟩
theorem xQ{rows:List (List AV)}(h:K (.int .i64 (rows.length:Int))):W.len (.lst rows) K:=⟨_,rfl,h⟩
theorem RG{α:Type}{f:α→List AV}{l:List α}(h:K (.int .i64 (l.length:Int))):W.len (.lst (l.map f)) K:=⟨_,rfl,by rw[Y9];exact h⟩
theorem H9{b i n:Nat}(h:K (.int .i64 (n:Int))):W.len (.sl b i n) K:=⟨_,rfl,h⟩
theorem TP{s:List UInt8}(h:K (.int .i64 (s.length:Int))):W.lenS (.str s) K:=⟨_,rfl,h⟩
theorem Ia{b i off:Nat}{x:Blk}{L':SH}(h1:eP b x L L')(h2:0<x.size)(h3:0<x.rows.length)(h:KL (.pptr x.rows i off) L'):W.frz1 (.ptr b i off) L KL:=⟨x,L',h1,h2,h3,h⟩
theorem ud{KF:W.Fp→Prop}{r:W.Fp}(h:KF r):W.note r KF:=by rw[Ry];exact h
theorem Pg{us:List W.WR}{y:W.WR}{A:Prop}(h1:∀x∈us,W.free x y)(h:A):W.calm us y A:=⟨h1,h⟩
theorem XD{A:Prop}(h:A):(true=true)∧A:=⟨rfl,h⟩
theorem TQ{J:W.Kn}{B:W.Kn→Prop}(h:B J):W.join J B:=⟨h⟩
theorem nJ{n by_ b' i k:Nat}{x:AV}{y:Blk}{l m:List (List AV)}{L':SH}(hm:(b',y)∈L)(hs:y.size=n)(hl:i+k≤y.rows.length)(he:(y.rows.drop i).take k=l)(h1:W0.rowsR L n x m)
  (h2:2*(l.length+m.length)*by_≤2^48) (h3:2*(l.length+m.length)≤2^62) (h4:(m.all λr=>r.all AV.one)=true) (hd:eP b' y L L')
  (h:∀b,b∉L.names→KL (.sl b 0 (l.length+m.length)) ((b,⟨n,l++m⟩)::L')):W.append n by_ (.sl b' i k) x L KL:=
 ⟨l,m,⟨y,hm,hs,hl,he.symm⟩,h1,h2,h3,h4,y,L',hd,h⟩
theorem Ib{n by_:Nat}{x:AV}{m:List (List AV)}(h1:W0.rowsR L n x m)(h2:2*m.length*by_≤2^48)(h3:2*m.length≤2^62)(h4:(m.all λr=>r.all AV.one)=true)(h0:m.length≠0)
  (h:∀b,b∉L.names→KL (.sl b 0 m.length) ((b,⟨n,m⟩)::L)):W.append n by_ .emp x L KL:=
 ⟨[],m,rfl,h1,by simpa using h2,by simpa using h3,h4,λe=>absurd e h0,λ_=>h⟩
theorem Ic(h:K (.int .i64 (0:Nat))):W.len .emp K:=⟨_,rfl,h⟩
theorem NK{KS:SH→Prop}{n:Nat}{z:List AV}{b i k:Nat}{y y':Blk}{L':SH}(hu:DQ b y y' L L')(h1:y.size=n)(h2:i+k≤y.rows.length)(h3:y'=⟨y.size,y.rows.take i++List.replicate k z++y.rows.drop (i+k)⟩)(h:KS L'):W.clear n z (.sl b i k) L KS:=
 ⟨y,L',h1,h2,h3▸hu,h⟩
theorem AG{n b i m:Nat}{lo hi:Option AV}{l h:Nat}{y:Blk}(h1:cI lo 0=some l)(h2:cI hi m=some h)(hl:l≤h)(hh:h≤m)(hm:(b,y)∈L)(hs:y.size=n)(hk:K (.sl b (i+l) (h-l))):W.slice n (.sl b i m) lo hi none L K:=
 ⟨m,l,h,m,rfl,h1,h2,rfl,hl,hh,X7 _,⟨y,hm,hs⟩,hk⟩
theorem AH{n:Nat}{rows:List (List AV)}{lo hi:Option AV}{l h:Nat}(h1:cI lo 0=some l)(h2:cI hi rows.length=some h)(hl:l≤h)(hh:h≤rows.length)(hs:∀r,rows.head? =some r→r.length=n)(hk:K (.lst ((rows.drop l).take (h-l)))):W.slice n (.lst rows) lo hi none L K:=
 ⟨rows.length,l,h,rows.length,rfl,h1,h2,rfl,hl,hh,X7 _,⟨rfl,hs⟩,hk⟩
theorem xR{α:Type}{f:α→List AV}{l:List α}{n:Nat}(h:∀x,(f x).length=n):W0.rowsR L n (.lst (l.map f)) (l.map f):=⟨rfl,λr hr=>by
 cases l with
 |nil=>cases hr
 |cons x l=>simp at hr;rw[←hr];exact h x⟩
theorem kP{n b k:Nat}{x:Blk}(hm:(b,x)∈L)(hs:x.size=n)(hk:k=x.rows.length):W0.rowsR L n (.sl b 0 k) x.rows:=⟨x,hm,hs,ZJ,by simp[hk]⟩
end
end
end Go.Proofs.YtdnpdghlggbklaaGreatDoor.Am
