/- part -/
import Derived.Test.YtfcfhjadaknphaaGreatDoorQxd
import Derived.KernelRfl
set_option linter.all false
set_option maxRecDepth 100000
set_option maxHeartbeats 0
namespace Go.Proofs.YtfcfhjadaknphaaGreatDoor.Am
section
open Go.RowKit
namespace W
structure pick(c x y:AV)(K:AV->Prop):Prop where
 h:W0.pick c x y K
structure un(op:UnOp)(x:AV)(K:AV->Prop):Prop where
 h:W0.un op x K
structure bin(P:Program)(F:TypeId->Option (List TypeId))(op:BinOp)(t:TypeId)(x y:AV)(K:AV->Prop):Prop where
 h:W0.bin P F op t x y K
structure conv(k:IntKind)(x:AV)(K:AV->Prop):Prop where
 h:W0.conv k x K
structure convS(x:AV)(K:AV->Prop):Prop where
 h:W0.convS x K
structure faddr(off:Nat)(x:AV)(K:AV->Prop):Prop where
 h:W0.faddr off x K
structure fld(ag:Bool)(n off:Nat)(x:AV)(K:AV->Prop):Prop where
 h:W0.fld ag n off x K
structure load(ag:Bool)(n:Nat)(a:AV)(L:SH)(K:AV->Prop):Prop where
 h:W0.loadR ag n a L K
structure store(n:Nat)(a v:AV)(L:SH)(K:SH->Prop):Prop where
 h:W0.storeR n a v L K
structure idx(n:Nat)(x ix:AV)(L:SH)(K:AV->Prop):Prop where
 h:W0.idxR n x ix L K
structure idxP(len n:Nat)(x ix:AV)(K:AV->Prop):Prop where
 h:W0.idxP len n x ix K
structure ixS(x ix:AV)(K:AV->Prop):Prop where
 h:W0.ixS x ix K
structure ixA(ag:Bool)(len n:Nat)(x ix:AV)(K:AV->Prop):Prop where
 h:W0.ixA ag len n x ix K
structure ext(i:Nat)(x:AV)(K:AV->Prop):Prop where
 h:W0.ext i x K
structure nilchk(x:AV)(K:AV->Prop):Prop where
 h:W0.nilchk x K
structure build(z:List AV)(parts:List (Nat×Nat×AV))(K:AV->Prop):Prop where
 h:W0.build z parts K
structure alloc(cs:List AV)(L:SH)(K:AV->SH->Prop):Prop where
 h:W0.alloc cs L K
structure box(x:AV)(L:SH)(K:AV->SH->Prop):Prop where
 h:W0.box x L K
structure bslice(n:Nat)(z:List AV)(len:Nat)(parts:List (Nat×AV))(L:SH)(K:AV->SH->Prop):Prop where
 h:W0.bslice n z len parts L K
structure mslice(n by_:Nat)(z:List AV)(l c:AV)(L:SH)(K:AV->SH->Prop):Prop where
 h:W0.mslice n by_ z l c L K
structure append(n by_:Nat)(s x:AV)(L:SH)(K:AV->SH->Prop):Prop where
 h:W0.appendR n by_ s x L K
structure clear(n:Nat)(z:List AV)(x:AV)(L:SH)(K:SH->Prop):Prop where
 h:W0.clearR n z x L K
structure len(x:AV)(K:AV->Prop):Prop where
 h:W0.len x K
structure lenS(x:AV)(K:AV->Prop):Prop where
 h:W0.lenS x K
structure mnx(mx:Bool)(x y:AV)(K:AV->Prop):Prop where
 h:W0.mnx mx x y K
structure slice(n:Nat)(x:AV)(lo hi mx:Option AV)(L:SH)(K:AV->Prop):Prop where
 h:W0.sliceR n x lo hi mx L K
structure sliceS(x:AV)(lo hi:Option AV)(K:AV->Prop):Prop where
 h:W0.sliceS x lo hi K
structure mkmap(L:SH)(K:AV->SH->Prop):Prop where
 h:W0.mkmap L K
structure look(z:AV)(ok:Bool)(m k:AV)(L:SH)(K:AV->Prop):Prop where
 h:W0.lookR z ok m k L K
structure mup(m k v:AV)(L:SH)(K:SH->Prop):Prop where
 h:W0.mupR m k v L K
structure rngS(x:AV)(L:SH)(K:AV->SH->Prop):Prop where
 h:W0.rngS x L K
structure nxt(it:AV)(L:SH)(K:AV->SH->Prop):Prop where
 h:W0.nextR it L K
structure call(P:Program)(fv:AV)(args:List AV)(L:SH)(K:AV->SH->Prop):Prop where
 h:match fv with
  |.fn g cs=>ac P g (args++cs) L K
  |_=>False
section
variable (P:Program) (F:TypeId->Option (List TypeId))
def op(o:Op)(ρ:Operand->AV)(L:SH)(K:AV->SH->Prop):Prop:=
 let k:=λv=>K v L
 match o with
 |.move x|.assign x=>K (ρ x) L
 |.pick c x y=>pick (ρ c) (ρ x) (ρ y) k
 | .alloc t=>match W0.zof P t with
  |some cs=>alloc cs L K
  |none=>False
 |.box _ x=>box (ρ x) L K
 | .build t parts=>match P.underlying t,fa P t with
  | some (.struct fs),some (.agg z)=>if(fs.toList.all λf=>(bj P f.type).isSome)=true then
    (match ee (parts.toList.map λp=>(kX P fs p.1).map λq=>(q.1,q.2,ρ p.2))with
     |some ps=>build z ps k
     |none=>False)
   else False
  | some (.array _ e),some (.agg z)=>(match bj P e with
   |some n=>build z (parts.toList.map λp=>(p.1*n,n,ρ p.2)) k
   |none=>False)
  |_,_=>False
 | .buildSlice t len parts=>match P.underlying t with
  | some (.slice e)=>match bj P e,W0.zof P e with
   |some n,some z=>if z.length=n/\0<n then bslice n z len (parts.toList.map λp=>(p.1,ρ p.2)) L K else False
   |_,_=>False
  |_=>False
 | .load t a=>match ff P t,bj P t with
  |some ag,some n=>load ag n (ρ a) L k
  |_,_=>False
 | .store t a x=>match bj P t with
  |some n=>store n (ρ a) (ρ x) L (K (.tup []))
  |none=>False
 |.nilCheck x=>nilchk (ρ x) k
 |.binOp op t x y _=>bin P F op t (ρ x) (ρ y) k
 |.unOp op _ x=>un op (ρ x) k
 | .convert s d x=>match P.underlying s,P.underlying d with
  |some (.int _),some (.int kd)=>conv kd (ρ x) k
  |some .string,some .string=>convS (ρ x) k
  |_,_=>False
 |.makeFunc (.func f) first cap=>if first.size=0 then K (.fn f (cap.toList.map ρ)) L else False
 | .makeSlice t l c=>match P.underlying t with
  | some (.slice e)=>match bj P e,iN P e,W0.zof P e with
   |some n,some by_,some z=>if z.length=n/\0<n then mslice n by_ z (ρ l) (ρ c) L K else False
   |_,_,_=>False
  |_=>False
 | .slice t x lo hi mx=>if(hi.isNone&&mx.isSome)=true then False else match P.underlying t with
  | some (.slice e)=>(match bj P e with
   |some n=>slice n (ρ x) (lo.map ρ) (hi.map ρ) (mx.map ρ) L k
   |none=>False)
  |some .string=>if mx.isNone=true then sliceS (ρ x) (lo.map ρ) (hi.map ρ) k else False
  |_=>False
 | .fieldAddr s x f=>match P.underlying s with
  | some (.struct fs)=>match fs[f]? with
   | some f=>(match bj P f.type with
    |some n=>if n=0 then False else faddr f.offset (ρ x) k
    |none=>False)
   |none=>False
  |_=>False
 | .field s x f=>match P.underlying s with
  | some (.struct fs)=>match fs[f]? with
   | some f=>(match ff P f.type,bj P f.type with
    |some ag,some n=>fld ag n f.offset (ρ x) k
    |_,_=>False)
   |none=>False
  |_=>False
 | .indexAddr t x ix=>match P.underlying t with
  | some (.slice e)=>(match bj P e with
   |some n=>idx n (ρ x) (ρ ix) L k
   |none=>False)
  | some (.array len e)=>(match bj P e with
   |some n=>idxP len n (ρ x) (ρ ix) k
   |none=>False)
  |_=>False
 | .index t x ix=>match P.underlying t with
  |some .string=>ixS (ρ x) (ρ ix) k
  | some (.array len e)=>(match ff P e,bj P e with
   |some ag,some n=>ixA ag len n (ρ x) (ρ ix) k
   |_,_=>False)
  |_=>False
 |.extract x i=>ext i (ρ x) k
 |.makeMap _ none=>mkmap L K
 | .lookup t m y ok=>match P.underlying t with
  | some (.map kt et)=>(match P.underlying kt,fa P et with
   |some .string,some z=>look z ok (ρ m) (ρ y) L k
   |_,_=>False)
  |_=>False
 | .mapUpdate t m y x=>match P.underlying t with
  | some (.map kt _)=>(match P.underlying kt with
   |some .string=>mup (ρ m) (ρ y) (ρ x) L (K (.tup []))
   |_=>False)
  |_=>False
 | .range t x=>match P.underlying t with
  |some .string=>rngS (ρ x) L K
  |_=>False
 |.next it true=>nxt (ρ it) L K
 | .call c=>match c.callee with
  | .builtin .len=>(match c.args.toList,(c.argTypes[0]?).bind P.underlying with
   |[x],some (.slice _)=>len (ρ x) k
   |[x],some .string=>lenS (ρ x) k
   |[x],some (.array n _)=>(match ρ x with|.str _=>False|_=>K (.int .i64 n) L)
   |_,_=>False)
  | .builtin .append=>(match c.args.toList,c.argTypes.toList with
   | [s,x],[t,tx]=>(match P.underlying t,P.underlying tx with
    | some (.slice e),some (.slice _)=>(match bj P e,iN P e,W0.zof P e with
     |some n,some by_,some z=>if z.length=n/\0<n then append n by_ (ρ s) (ρ x) L K else False
     |_,_,_=>False)
    |_,_=>False)
   |_,_=>False)
  | .builtin .min=>(match c.args.toList with
   |[x,y]=>mnx false (ρ x) (ρ y) k
   |_=>False)
  | .builtin .max=>(match c.args.toList with
   |[x,y]=>mnx true (ρ x) (ρ y) k
   |_=>False)
  | .builtin .clear=>(match c.args.toList,c.argTypes.toList with
   | [x],[t]=>(match P.underlying t with
    | some (.slice e)=>(match bj P e,W0.zof P e with
     |some n,some z=>if(z.length=n/\0<n)/\z.all AV.one=true then clear n z (ρ x) L (K (.tup []))else False
     |_,_=>False)
    |_=>False)
   |_,_=>False)
  |.value f=>call P (ρ f) (c.args.toList.map ρ) L K
  |_=>False
 |_=>False
end
theorem op_raw{P:Program}{F:TypeId->Option (List TypeId)}{o:Op}{ρ:Operand->AV}{L:SH}{K:AV->SH->Prop}(h:op P F o ρ L K):W0.op P F o ρ L K:=by
 cases o with
 |makeFunc fn first cap=>
  cases fn with
  |func f=>
   simp only[op]at h;simp only[W0.op];split at h
   .rename_i hc;rw[if_pos hc];exact h
   .exact h.elim
  |_=>exact h
 |move x=>exact h
 |assign x=>exact h
 |pick c x y=>exact h.h
 |box t x=>exact h.h
 |nilCheck x=>exact h.h
 |binOp op t x y c=>exact h.h
 |unOp op t x=>exact h.h
 |extract x i=>exact h.h
 |makeMap t r=>
  cases r with
  |none=>exact h.h
  |some r=>exact h.elim
 |next it s=>
  cases s with
  |true=>exact h.h
  |false=>exact h.elim
 |lookup t m y ok|mapUpdate t m y x|range t x|alloc t|build t ps|buildSlice t l ps|load t a|store t a x|convert s d x|makeSlice t l c|slice t x lo hi mx|fieldAddr s x f|field s x f|indexAddr t x ix|index t x ix|call c=>
  simp only[op]at h;simp only[W0.op]
  repeat' split at h
  all_goals first
   |exact h.elim
   |(have h:=h.h;split at h<;>first|exact h.elim|(simp only[*];exact h))
   |(simp only[*,if_true,and_self];first|exact h.h|exact h)
   |(simp_all;done)
   |(simp_all;first|exact h.h|exact h)
 |_=>exact h.elim
structure grd(x:AV)(want:Bool)(A:(AV->SH->Prop)->Prop)(L:SH)(K:AV->SH->Prop):Prop where
 h:(x=.bool want/\A K)\/((x=.bool (!want)\/x=ca)/\K ca L)
section
variable (P:Program) (F:TypeId->Option (List TypeId)) (ops:Array Oper)
def sq:List Nat->List AV->SH->(List AV->SH->Prop)->Prop
 |[],τ,L,K=>K τ L
 | i::l,τ,L,K=>match ops[i]? with
  |none=>False
  | some o=>match o.guard with
   |none=>op P F o.op (kV τ) L λv L=>sq l (ik τ o.dst v) L K
   | some (j,want)=>match (ops[j]?).bind (·.dst)with
    |some d=>grd (τ.getD d .junk) want (op P F o.op (kV τ) L) L λv L=>sq l (ik τ o.dst v) L K
    |none=>False
structure WR where
 op:Nat
 reads:List Nat
 writes:List Nat
 made:List Nat
 isCall:Bool
 old:List Nat
def free(x y:WR):Prop:=(∀c∈x.writes,c∉y.reads/\c∉y.writes)/\(∀c∈x.reads,c∉y.writes)/\(∀c∈x.made,c∉y.reads/\c∉y.writes)/\
 (x.isCall=true->y.isCall=false/\y.writes=[]/\∀c∈y.reads,c∈x.old)/\(y.isCall=true->x.writes=[])
def isMem:Op->Bool
 |.load ..|.store ..|.indexAddr ..|.slice ..|.alloc ..|.box ..|.buildSlice ..|.makeSlice ..|.makeMap ..|.range ..|.lookup ..|.mapUpdate ..|.next ..=>true
 | .call c=>match c.callee with
  |.builtin .append=>true
  |.builtin .clear=>true
  |_=>false
 |_=>false
structure calm(us:List WR)(y:WR)(A:Prop):Prop where
 h:(∀x∈us,free x y)/\A
structure dcall(us:List WR)(i:Nat)(fv:AV)(args:List AV)(L:SH)(K:AV->SH->List Nat->Prop):Prop where
 h:match fv with
  |.fn g cs=>∃Kc R:SH,L.Perm (Kc++R)/\(∀x∈us,free x ⟨i,[],Kc.names,[],true,[]⟩)/\ac P g (args++cs) Kc λv K'=>K v (K'++R) Kc.names
  |_=>False
structure Fp where
 reads:List Nat
 writes:List Nat
 made:List Nat
 old:List Nat
def isCallV:Op->Bool
 | .call c=>match c.callee with
  |.value _=>true
  |_=>false
 |_=>false
structure note(r0:Fp)(K:Fp->Prop):Prop where
 h:∀r,r=r0->K r
def dop(us:List WR)(i:Nat)(o:Op)(ρ:Operand->AV)(L:SH)(K:AV->SH->Fp->Prop):Prop:=
 match o with
 | .call c=>match c.callee with
  |.value f=>dcall P us i (ρ f) (c.args.toList.map ρ) L λv L' ks=>note ⟨[],ks,[],L.names⟩ λr=>K v L' r
  | .builtin .append=>(match c.args.toList with
   |[s,x]=>calm us ⟨i,am (ρ s)++am (ρ x),am (ρ s),[],false,[]⟩ (op P F o ρ L λv L'=>note ⟨am (ρ s)++am (ρ x),am (ρ s),am v,[]⟩ λr=>K v L' r)
   |_=>False)
  | .builtin .clear=>(match c.args.toList with
   |[x]=>calm us ⟨i,am (ρ x),am (ρ x),[],false,[]⟩ (op P F o ρ L λv L'=>note ⟨am (ρ x),am (ρ x),[],[]⟩ λr=>K v L' r)
   |_=>False)
  |_=>op P F o ρ L λv L'=>K v L' ⟨[],[],[],[]⟩
 | o=>if isMem o then calm us ⟨i,aT o ρ,aJ o ρ,[],false,[]⟩ (op P F o ρ L λv L'=>note ⟨aT o ρ,aJ o ρ,if W0.makes o then am v else [],[]⟩ λr=>K v L' r)
  else op P F o ρ L λv L'=>K v L' ⟨[],[],[],[]⟩
def push(i:Nat)(o:Op)(r:Fp)(rs:List WR):List WR:=if isCallV o||isMem o then⟨i,r.reads,r.writes,r.made,isCallV o,r.old⟩::rs else rs
structure dgrd(x:AV)(want:Bool)(A:(AV->SH->Fp->Prop)->Prop)(L:SH)(K:AV->SH->Fp->Prop):Prop where
 h:(x=.bool want/\A K)\/((x=.bool (!want)\/x=ca)/\K ca L ⟨[],[],[],L.names⟩)
def dr(before:List Nat):List Nat->List AV->SH->List WR->(List AV->SH->Prop)->Prop
 |[],τ,L,_,K=>K τ L
 | i::l,τ,L,rs,K=>match ops[i]? with
  |none=>False
  | some o=>match o.guard with
   |none=>dop P F (rs.filter λx=>!(before.getD i 0).testBit x.op) i o.op (kV τ) L λv L r=>dr before l (ik τ o.dst v) L (push i o.op r rs) K
   | some (j,want)=>match (ops[j]?).bind (·.dst)with
    |some d=>dgrd (τ.getD d .junk) want (dop P F (rs.filter λx=>!(before.getD i 0).testBit x.op) i o.op (kV τ) L) L λv L r=>dr before l (ik τ o.dst v) L (push i o.op r rs) K
    |none=>False
end
end W
section
variable {P:Program} {F:TypeId->Option (List TypeId)} {ops:Array Oper} {base:Nat}
open Classical in
noncomputable def MA (g:FuncId) (as_:List AV) (Hi:af) (v:AV) (Ho:af) (call:FuncId->List AV->af->Option (AV×af)):FuncId->List AV->af->Option (AV×af):=
 λf args H=>if f=g/\args=as_/\H=Hi then some (v,Ho)else call f args H
def IE(call:FuncId->List AV->af->Option (AV×af)):Prop:=∀f args H v H',Bd H->call f args H=some (v,H')->zr H H'
theorem DC{g:FuncId}{j:List AV}{D B:af}{v:AV}{call:FuncId->List AV->af->Option (AV×af)}(hs:gz P call)(hc:s9 P g j D v B)(hn:D.next<=B.next)(hb:∃fn c,P.funcs[g]? =some fn/\fn.body=some c):gz P (MA g j D v B call):=by
 refine⟨λf args H u H' h=>?_,λf args H u H' h=>?_,λf args H u H' h=>?_⟩ <;>
 .unfold MA at h;split at h
  .rename_i E;obtain⟨rfl,rfl,rfl⟩:=E;cases h;assumption
  .first|exact hs.ok _ _ _ _ _ h|exact hs.next _ _ _ _ _ h|exact hs.body _ _ _ _ _ h
theorem JZ{g:FuncId}{j:List AV}{B D:af}{v:AV}{call:FuncId->List AV->af->Option (AV×af)}(hs:IE call)(hc:Bd B->zr B D):IE (MA g j B v D call):=λf args H u H' hb h=>by
 unfold MA at h;split at h
 .rename_i E;obtain⟨rfl,rfl,rfl⟩:=E;cases h;exact hc hb
 .exact hs _ _ _ _ _ hb h
theorem J0{g:FuncId}{j:List AV}{B u:af}{v:AV}{call:FuncId->List AV->af->Option (AV×af)}:MA g j B v u call g j B=some (v,u):=by unfold MA;rw[if_pos ⟨rfl,rfl,rfl⟩]
theorem DD{g:FuncId}{j:List AV}{u B:af}{v:AV}{call:FuncId->List AV->af->Option (AV×af)}{f:FuncId}{args:List AV}{H:af}(h:u.next<H.next):MA g j u v B call f args H=call f args H:=by unfold MA;rw[if_neg];rintro⟨_,_,rfl⟩;omega
theorem Gq{call1 j:FuncId->List AV->af->Option (AV×af)}{i:Nat}{u:List AV}{H:af}(h:∀f args,call1 f args H=j f args H):kZ P F call1 ops base i u H=kZ P F j ops base i u H:=by
 unfold kZ;split
 .rfl
 .split
  .split
   .rfl
   .rw[h]
   .rfl
  .rfl
  .rfl
theorem Aa{call1 j:FuncId->List AV->af->Option (AV×af)}{n:Nat}(u:∀f args H,n<H.next->call1 f args H=j f args H)(hs:gz P call1):∀(l:List Nat) (B:List AV) (H:af) (r:List AV×af),n<H.next->nC P F call1 ops base l B H=some r->nC P F j ops base l B H=some r
 |[],B,H,r,_,h=>h
 | i::l,B,H,r,hn,h=>by
  unfold nC at h ⊢;rw[<-Gq (call1:=call1) (λf args=>u f args H hn)];split at h
  .rename_i D G E;exact Aa u hs l D G r (Xf hn (nH hs E)) h
  .cases h
theorem s9.bump{f:FuncId}{args:List AV}{H j:af}{v:AV}(h:s9 P f args H v j)(l:List Nat):s9 P f args H v {j with next:=j.next+1,log:=l}:=by
 intro w σ vs S u;refine(h w σ vs S u).mono ?_;rintro e w' ⟨D,σ',rfl,O,M,G,E⟩;have B:bB σ' ({j with next:=j.next+1,log:=l}:af)=bB σ' j:=bB.congr λ_=>rfl
 exact⟨D,σ',rfl,by rw[B];exact O,M.congr (λ_=>rfl) (Yi _),by rw[B];exact G,E⟩
theorem Fr.chg{L L':SH}{H H':af}(h:Fr H.next L H L' H')(l:List Nat)(hl:∀b,b∈H.log->b∈l)(B:∀b,b∈L.names->b∈l)(n:Nat)(hn:H'.next<=n):zr H {H' with next:=n,log:=l} where
 next:=W5 h.next hn
 dom:=λb hb D=>h.dom b hb D
 keep:=λb hb j=>by
  show H'.get b=H.get b;cases u:H.get b with
  |none=>exact h.dom b hb u
  |some x=>exact(h.keep b x u (λhm=>j (B b hm))).1
 log:=hl
 bd:=λ_ b hb=>h.bd b (W5 hn hb)
theorem Bd.bump{H:af}(h:Bd H)(l:List Nat)(n:Nat)(hn:H.next<=n):Bd {H with next:=n,log:=l}:=λb hb=>h b (W5 hn hb)
theorem o5.fr{b:Nat}{L L':SH}{H H':af}(h:o5 b L H L' H')(hb:base<=b):Fr base L H L' H':=
 ⟨Nat.le_of_eq h.next.symm,h.bd,h.sub,h.keep,λc hc=>h.dom c YC,λc hc j=>by
  rcases h.fresh c hc with rfl|u
  .omega
  .exact u⟩
theorem Ab{o:Oper}{u:List AV}{j d:Nat}{want:Bool}(D:o.guard=some (j,want))(E:(ops[j]?).bind (·.dst)=some d)(h:u.getD d .junk=.bool want):eK ops o u=some true:=by
 have:u[d]? =some (.bool want):=by
  cases B:u[d]? with
  |none=>rw[List.getD,B]at h;cases h
  |some x=>rw[List.getD,B]at h;exact congrArg some h
 simp[eK,D,E,this]
theorem DE{o:Oper}{u:List AV}{j d:Nat}{want:Bool}(D:o.guard=some (j,want))(E:(ops[j]?).bind (·.dst)=some d)(h:u.getD d .junk=.bool (!want)\/u.getD d .junk=ca):eK ops o u=some false:=by
 rcases h with h|h
 .have:u[d]? =some (.bool (!want)):=by
   cases B:u[d]? with
   |none=>rw[List.getD,B]at h;cases h
   |some x=>rw[List.getD,B]at h;exact congrArg some h
  simp[eK,D,E,this]
 .have:u[d]? =some (.tup []):=by
   cases B:u[d]? with
   |none=>rw[List.getD,B]at h;cases h
   |some x=>rw[List.getD,B]at h;exact congrArg some h
  simp[eK,D,E,this]
theorem xP{o:Oper}{j:List AV}(u:o.guard=none):eK ops o j=some true:=by simp[eK,u]
theorem pA:∀(l:List Nat) (E:List AV) (L:SH) (K:List AV->SH->Prop),W.sq P F ops l E L K->l.Nodup->∀H,Bd H->lV L H->(∀i∈l,base+i<H.next/\H.get (base+i)=none)->base<=H.next->
  ∃call u H' L',gz P call/\IE call/\nC P F call ops base l E H=some (u,H')/\Fr base L H L' H'/\K u L'
 |[],E,L,K,h,_,H,hb,hs,_,_=>⟨ID,E,H,L,uv P,λ_ _ _ _ _ _ h=>(by cases h),rfl,.refl hb hs,h⟩
 | i::l,E,L,K,h,hnd,H,hb,hs,hfr,hbase=>by
  have B:=Xw.1 hnd;have h0:=hfr i YF;unfold W.sq at h;split at h
  .exact h.elim
  .rename_i o ho;have go:∀(Kc:AV->SH->Prop),eK ops o E=some true->W.op P F o.op (kV E) L Kc->(∀v M,Kc v M->W.sq P F ops l (ik E o.dst v) M K)->
     ∃call u H' L',gz P call/\IE call/\nC P F call ops base (i::l) E H=some (u,H')/\Fr base L H L' H'/\K u L':=by
    intro Kc hw hop hk;rcases Ep (b:=base+i) hb hs h0.1 h0.2 (W.op_raw hop)with⟨v,D,M,g1,g2,_,g3⟩|⟨g,args,g1,g2⟩
    .obtain⟨call,u,H',L',O,k2,k3,Z,Y⟩:=pA l (ik E o.dst v) M K (hk v M g3) B.2 D g2.bd g2.sub (λj S=>by
      have G:=hfr j (by simp[S]);refine⟨by rw[g2.next];exact G.1,g2.dom _ (λe=>?_) G.2⟩;have:j=i:=by omega
      exact B.1 (this▸S)) (by rw[g2.next];exact hbase)
     refine⟨call,u,H',L',O,k2,?_,(g2.fr (Xu _ _)).trans Z (Fd _),Y⟩;unfold nC kZ;simp only[ho,hw,g1];exact k3
    .obtain⟨bd,g3⟩:=g2;obtain⟨v,D,M,c1,c2,c3⟩:=g3 H hb hs;have hH1:lV M ({D with next:=D.next+1,log:=L.names++H.log}:af):=c2.sub.congr λ_=>rfl
     obtain⟨call,u,H',L',O,k2,k3,Z,Y⟩:=pA l (ik E o.dst v) M K (hk v M c3) B.2 {D with next:=D.next+1,log:=L.names++H.log} (c2.bd.bump _ _ (Yi _)) hH1 (λj S=>by
      have G:=hfr j (by simp[S]);have:=c2.next;exact⟨by show base+j<D.next+1;omega,c2.dom _ G.1 G.2⟩) (by have:=c2.next;show base<=D.next+1;omega)
     refine⟨MA g args H v _ call,u,H',L',DC O (c1.bump _) (by have:=c2.next;show H.next<=D.next+1;omega) bd,JZ k2 λ_=>c2.chg _ (λb hb=>W8 _ hb) (λb hb=>XK _ hb) _ (Yi _),?_,?_,Y⟩
     .unfold nC kZ;simp only[ho,hw,g1,J0];refine Aa (n:=H.next) (λf args K hK=>?_) O l _ _ _ (by have:=c2.next;show H.next<D.next+1;omega) k3;exact(DD hK).symm
     .refine Fr.trans (H':={D with next:=D.next+1,log:=L.names++H.log}) ⟨by have:=c2.next;show H.next<=D.next+1;omega,c2.bd.bump _ _ (Yi _),hH1,c2.keep,λb hb'=>c2.dom b YC,λb h1 h2=>c2.fresh b h1 YC⟩ Z (Fd _)
   split at h
   .rename_i hg;exact go _ (xP hg) h λv M h=>h
   .rename_i j want hg;split at h
    .rename_i d hd;rcases h.h with⟨h1,h2⟩|⟨h1,h2⟩
     .exact go _ (Ab hg hd h1) h2 λv M h=>h
     .obtain⟨call,u,H',L',O,k2,k3,Z,Y⟩:=pA l (ik E o.dst ca) L K h2 B.2 H hb hs (λj S=>hfr j (by simp[S])) hbase;refine⟨call,u,H',L',O,k2,?_,Z,Y⟩;unfold nC kZ;simp only[ho,DE hg hd h1];exact k3
    .exact h.elim
theorem c7.region{id:Nat}{B:List AV}{L:SH}{Q:Ex->List AV->SH->Prop}(fit:Fit P F)(h:W.sq P F ops (List.range ops.size) B L λj L'=>Q .normal j L'):c7 P (.region id ops false) B L Q:=λH hb hs=>by
 obtain⟨call,j,H',L',G,M,E,u,D⟩:=pA (base:=H.next) (List.range ops.size) B L _ h List.nodup_range {H with next:=H.next+ops.size} (hb.bump _ _ (Xu _ _)) (hs.congr λ_=>rfl)
  (λi hi=>⟨Nat.add_lt_add_left (XR.1 hi) _,hb _ (Xu _ _)⟩) (Xu _ _)
 have hr:eM P F call ops false B H=some (j,H'):=by simp only[eM,W7,if_false];exact E
 exact⟨.normal,j,H',L',iq fit G hr,⟨W5 (Xu _ _) u.next,u.bd,u.sub,u.keep,u.dom,u.fresh⟩,D⟩
end
end
section
open Go.RowKit
section
variable {P:Program} {F:TypeId->Option (List TypeId)} {ops:Array Oper} {base:Nat} {ρ:Operand->AV} {L:SH}
theorem Gr{o:Op}{b:Nat}{g:FuncId}{args:List AV}{H:af}(h:bA P F o ρ b H=some (.call g args)):∃c f,o=.call c/\c.callee=.value f:=by
 cases o with
 |call c=>
  simp only[bA]at h;split at h
  .rename_i E _;cases j:bJ P H b E c.argTypes (c.args.toList.map ρ)with
   |none=>rw[j]at h;cases h
   |some r=>rw[j]at h;cases h
  .rename_i f u;exact⟨c,f,rfl,u⟩
  .cases h
 |makeFunc B first D=>cases B<;>simp only[bA]at h<;>(try split at h)<;>simp at h
 |makeMap t r=>cases r<;>simp[bA]at h
 |next G s=>cases s<;>simp[bA]at h
 |_=>
  exfalso;simp only[bA]at h
  repeat' (first|(cases h;done)|(simp at h;done)|split at h)
theorem Er{o:Op}(h:W.isMem o=false):aT o ρ=[]∧aJ o ρ=[]:=by
  cases o with
  |call c=>
    simp only[W.isMem]at h;simp only[aT,aJ];split at h
    · cases h
    · cases h
    · rename_i hn hn2
      constructor <;> · split
                        · rename_i he;exact absurd he hn
                        · rename_i he;exact absurd he hn2
                        · rfl
  |_=>first|(cases h;done)|exact⟨rfl,rfl⟩
theorem xQ{n:Nat}{s:AV}{rows:List (List AV)}(h:W0.rowsR L n s rows):∀c∈am s,c∈L.names:=by
 intro c j;unfold W0.rowsR at h;split at h
 .simp[am]at j
 .simp[am]at j
 .simp[am]at j
 .obtain⟨x,u,_⟩:=h;simp only[am,WP]at j;subst j;exact Xs (f:=Prod.fst) u
 .exact h.elim
theorem Gs{o:Op}{K:AV->SH->Prop}(h:W0.op P F o ρ L K):∀c∈aT o ρ,c∈L.names:=by
 intro c j;cases o with
 |load t a=>
  simp only[W0.op]at h;split at h
  .simp only[aT]at j;unfold W0.loadR at h;split at h
   .rename_i E;obtain⟨x,r,v,B,_⟩:=h;rw[E]at j;simp only[am,WP]at j;subst j;exact Xs (f:=Prod.fst) B
   .rename_i E;rw[E]at j;simp[am]at j
   .exact h.elim
  .exact h.elim
 |store t a x=>
  simp only[W0.op]at h;split at h
  .simp only[aT]at j;unfold W0.storeR at h;split at h
   .rename_i E;obtain⟨x,r,cs,O,_,_,_,_,_,B,_⟩:=h;rw[E]at j;simp only[am,WP]at j;subst j;exact Xs (f:=Prod.fst) B.mem
   .exact h.elim
  .exact h.elim
 |indexAddr t x ix=>
  simp only[W0.op]at h;simp only[aT]at j;split at h
  .split at h
   .unfold W0.idxR at h;split at h
    .rename_i u;obtain⟨k,i,y,_,_,_,B,_⟩:=h;rw[u]at j;simp only[gE,WP]at j;subst j;exact Xs (f:=Prod.fst) B
    .rename_i u;rw[u]at j;simp[gE]at j
    .exact h.elim
   .exact h.elim
  .split at h
   .obtain⟨k,i,_,_,_,g⟩:=h;split at g
    .rename_i u;rw[u]at j;simp[gE]at j
    .rename_i u;rw[u]at j;simp[gE]at j
    .exact g.elim
   .exact h.elim
  .exact h.elim
 |slice t x lo M mx=>
  simp only[W0.op]at h;simp only[aT]at j;split at h
  .exact h.elim
  .split at h
   .split at h
    .obtain⟨len,l,hh,m,_,_,_,_,_,_,_,g⟩:=h;split at g
     .rename_i u;rw[u]at j;simp[gE]at j
     .rename_i u;obtain⟨⟨y,B,_⟩,_⟩:=g;rw[u]at j;simp only[gE,WP]at j;subst j;exact Xs (f:=Prod.fst) B
     .rename_i u;rw[u]at j;simp[gE]at j
     .exact g.elim
    .exact h.elim
   .split at h
    .obtain⟨s,l,hh,u,_⟩:=h;rw[u]at j;simp[gE]at j
    .exact h.elim
   .exact h.elim
 |call k=>
  simp only[aT]at j;split at j
  .rename_i D;simp only[W0.op,D]at h;split at h
   .rename_i s x t tx E Y;split at h
    .split at h
     .split at h
      .obtain⟨l,m,B,g2,_⟩:=h;simp only[E,List.flatMap_cons,List.flatMap_nil,Xr,WM]at j;rcases j with j|j
       .exact xQ B c j
       .exact xQ g2 c j
      .exact h.elim
     .exact h.elim
    .exact h.elim
   .exact h.elim
  .rename_i D;simp only[W0.op,D]at h;split at h
   .rename_i x t E Y;split at h
    .split at h
     .split at h
      .simp only[E,List.flatMap_cons,List.flatMap_nil,Xr]at j;unfold W0.clearR at h;split at h
       .rename_i u;rw[u]at j;simp[am]at j
       .rename_i u;obtain⟨y,O,_,_,B,_⟩:=h;rw[u]at j;simp only[am,WP]at j;subst j;exact Xs (f:=Prod.fst) B.mem
       .exact h.elim
      .exact h.elim
     .exact h.elim
    .exact h.elim
   .exact h.elim
  .simp at j
 |lookup t m k ok=>
  simp only[W0.op]at h;simp only[aT]at j;split at h
  .split at h
   .unfold W0.lookR at h;split at h
    .rename_i G Z;obtain⟨x,B,_⟩:=h;rw[G]at j;simp only[am,WP]at j;subst j;exact Xs (f:=Prod.fst) B
    .exact h.elim
   .exact h.elim
  .exact h.elim
 |mapUpdate t m k x=>
  simp only[W0.op]at h;simp only[aT]at j;split at h
  .split at h
   .unfold W0.mupR at h;split at h
    .rename_i G Z;obtain⟨y,O,_,_,B,_⟩:=h;rw[G]at j;simp only[am,WP]at j;subst j;exact Xs (f:=Prod.fst) B.mem
    .exact h.elim
   .exact h.elim
  .exact h.elim
 |next it s=>
  cases s with
  |false=>exact h.elim
  |true=>
   simp only[W0.op]at h;simp only[aT]at j;unfold W0.nextR at h;split at h
   .rename_i M;obtain⟨x,s,k,S,B,_⟩:=h;rw[M]at j;simp only[am,WP]at j;subst j;exact Xs (f:=Prod.fst) B
   .exact h.elim
 |_=>simp[aT]at j
theorem Pq{o:Op}{K K2:AV->SH->Prop}(B:∀v,K v L->K2 v L)(S:W.isMem o=false)(hv:∀c f,o=.call c->c.callee≠.value f)(h:W0.op P F o ρ L K):W0.op P F o ρ L K2:=by
 cases o with
 |call c=>
  simp only[W0.op]at h ⊢;split at h
  .split at h
   .obtain⟨n,u,j⟩:=h;exact⟨n,u,B _ j⟩
   .obtain⟨n,u,j⟩:=h;exact⟨n,u,B _ j⟩
   .split at h
    .exact h
    .exact B _ h
   .exact h
  .rename_i G;simp[W.isMem,G]at S
  .split at h
   .obtain⟨k,a,c,u,j,D⟩:=h;exact⟨k,a,c,u,j,B _ D⟩
   .exact h
  .split at h
   .obtain⟨k,a,c,u,j,D⟩:=h;exact⟨k,a,c,u,j,B _ D⟩
   .exact h
  .rename_i G;simp[W.isMem,G]at S
  .rename_i f G;exact absurd G (hv c f rfl)
  .exact h
 |move x=>exact B _ h
 |assign x=>exact B _ h
 |pick c x y=>obtain⟨t,u,j⟩:=h;exact⟨t,u,B _ j⟩
 |build t O=>
  simp only[W0.op]at h ⊢;split at h
  .split at h
   .rename_i M;rw[if_pos M];split at h
    .obtain⟨E,u,j⟩:=h;exact⟨E,u,B _ j⟩
    .exact h
   .exact h.elim
  .split at h
   .obtain⟨E,u,j⟩:=h;exact⟨E,u,B _ j⟩
   .exact h
  .exact h
 |nilCheck x=>simp only[W0.op,W0.nilchk]at h ⊢;split at h<;>first|exact B _ h|exact h
 |binOp op t x y c=>obtain⟨v,u,j⟩:=h;exact⟨v,u,B _ j⟩
 |unOp op t x=>obtain⟨v,u,j⟩:=h;exact⟨v,u,B _ j⟩
 |convert s d x=>
  simp only[W0.op]at h ⊢;split at h
  .obtain⟨k,n,u,j⟩:=h;exact⟨k,n,u,B _ j⟩
  .obtain⟨s,u,j⟩:=h;exact⟨s,u,B _ j⟩
  .exact h
 |makeFunc fn first cap=>
  cases fn with
  |func f=>
   simp only[W0.op]at h ⊢;split at h
   .rename_i Y;rw[if_pos Y];exact B _ h
   .exact h.elim
  |_=>exact h
 |fieldAddr s x f=>
  simp only[W0.op]at h ⊢;split at h
  .split at h
   .split at h
    .split at h
     .exact h.elim
     .rename_i Y;rw[if_neg Y];unfold W0.faddr at h ⊢;split at h<;>first|exact B _ h|exact h
    .exact h
   .exact h
  .exact h
 |field s x f=>
  simp only[W0.op]at h ⊢;split at h
  .split at h
   .split at h
    .obtain⟨E,v,u,j,D⟩:=h;exact⟨E,v,u,j,B _ D⟩
    .exact h
   .exact h
  .exact h
 |index t x ix=>
  simp only[W0.op]at h ⊢;split at h
  .obtain⟨s,k,i,y,u,j,D,g4,Z⟩:=h;exact⟨s,k,i,y,u,j,D,g4,B _ Z⟩
  .split at h
   .obtain⟨E,k,i,v,u,j,D,g4,Z,g6⟩:=h;exact⟨E,k,i,v,u,j,D,g4,Z,B _ g6⟩
   .exact h
  .exact h
 |extract x i=>obtain⟨vs,v,u,j,D⟩:=h;exact⟨vs,v,u,j,B _ D⟩
 |_=>first|(cases S;done)|exact h
theorem pB{x y:rX}(D:∀c∈x.writes,c∉y.reads/\c∉y.writes)(O:∀c∈x.reads,c∉y.writes)(E:∀c∈x.made,c∉y.reads/\c∉y.writes)
  (S:x.isCall=true->y.isCall=false/\y.writes=[]/\∀c∈y.reads,c<x.lo) (G:y.isCall=true->x.writes=[]):mg x y=false:=by
 have j:∀l m:List Nat,(∀c∈l,c∉m)->apart l m=true:=λl m h=>by simpa[apart]using h
 unfold mg;rw[j _ _ λc h=>(D c h).1,j _ _ λc h=>(D c h).2,j _ _ O,j _ _ λc h=>(E c h).1,j _ _ λc h=>(E c h).2];cases M:x.isCall with
 |true=>obtain⟨h1,Z,Y⟩:=S M;simp only[h1,Z,List.isEmpty_nil,Yx,Bool.false_or,Yy,X8,Yb,Bool.or_false];rw[List.any_eq_false];intro c B;have:=Y c B;simp;omega
 |false=>
  cases u:y.isCall with
  |true=>simp[G u]
  |false=>simp
theorem K0{us:List W.WR}{i:Nat}{o:Op}{K:AV->SH->W.Fp->Prop}(h:W.dop P F us i o ρ L K):
  (∃c f g cs,o=.call c/\c.callee=.value f/\ρ f=.fn g cs/\∃E R:SH,L.Perm (E++R)/\(∀x∈us,W.free x ⟨i,[],E.names,[],true,[]⟩)/\ac P g (c.args.toList.map ρ++cs) E λv Y=>W.note ⟨[],E.names,[],L.names⟩ λr=>K v (Y++R) r) \/
  (W.isMem o=true/\W.isCallV o=false/\(∀x∈us,W.free x ⟨i,aT o ρ,aJ o ρ,[],false,[]⟩)/\W0.op P F o ρ L λv M=>W.note ⟨aT o ρ,aJ o ρ,if W0.makes o then am v else [],[]⟩ λr=>K v M r) \/
  (W.isMem o=false/\W.isCallV o=false/\(∀c f,o=.call c->c.callee≠.value f)/\W0.op P F o ρ L λv M=>K v M ⟨[],[],[],[]⟩):=by
 cases o with
 |call c=>
  simp only[W.dop]at h;split at h
  .rename_i f S;have h:=h.h;split at h
   .rename_i g cs O;exact .inl ⟨c,f,g,cs,rfl,S,O,h⟩
   .exact h.elim
  .rename_i j;split at h
   .rename_i s x u;have B:aT (.call c) ρ=am (ρ s)++am (ρ x):=by simp[aT,j,u]
    have D:aJ (.call c) ρ=am (ρ s):=by simp[aJ,j,u]
    refine .inr (.inl ⟨by simp[W.isMem,j],by simp[W.isCallV,j],?_⟩);rw[B,D,show W0.makes (.call c)=true by simp[W0.makes,j]];exact⟨h.h.1,W.op_raw h.h.2⟩
   .exact h.elim
  .rename_i j;split at h
   .rename_i x u;have B:aT (.call c) ρ=am (ρ x):=by simp[aT,j,u]
    have D:aJ (.call c) ρ=am (ρ x):=by simp[aJ,j,u]
    refine .inr (.inl ⟨by simp[W.isMem,j],by simp[W.isCallV,j],?_⟩);rw[B,D,show W0.makes (.call c)=false by simp[W0.makes,j]];exact⟨h.h.1,W.op_raw h.h.2⟩
   .exact h.elim
  .rename_i B D Z;refine .inr (.inr ⟨?_,?_,λc' f G=>?_,W.op_raw h⟩)
   .simp only[W.isMem]
   .simp only[W.isCallV]
   .cases G;exact B f
 |_=>first|exact .inr (.inl ⟨rfl,rfl,h.h.1,W.op_raw h.h.2⟩)|exact .inr (.inr ⟨rfl,rfl,λc f j=>(by cases j),W.op_raw h⟩)
def K3(base k:Nat)(ws:List W.WR)(r:rX):Prop:=r.op<k/\
  ((r.isCall=false/\r.reads=[]/\r.writes=[]/\r.made=[base+r.op]) \/
   ∃x∈ws,x.op=r.op/\r.reads=x.reads/\(∀c∈r.writes,c∈x.writes)/\r.isCall=x.isCall/\(r.isCall=true->r.made=[]/\∀c∈x.old,c<r.lo)/\(r.isCall=false->r.made=[base+r.op]))
theorem K3.more{k D:Nat}{B j:List W.WR}{r:rX}(h:K3 base k B r)(G:k<=D)(E:∀x∈B,x∈j):K3 base D j r:=by
 refine⟨Xf h.1 G,?_⟩;rcases h.2 with u|⟨x,u,M⟩
 .exact .inl u
 .exact .inr ⟨x,E x u,M⟩
def Uf(base k:Nat)(L:SH)(ws:List W.WR):Prop:=∀j,j<k->base+j∈L.names->∃x∈ws,x.op=j/\base+j∈x.made
theorem Ac{k:Nat}{Z:List W.WR}{u:Nat}{r y:rX}{wy:W.WR}(hr:K3 base k Z r)(S:Uf base k L Z)(hun:u.testBit r.op=false)
  (hf:∀x∈Z.filter (λx=>!u.testBit x.op),W.free x wy) (h1:∀c∈y.reads,c∈wy.reads) (h2:∀c∈y.writes,c∈wy.writes) (h3:y.isCall=wy.isCall) (h4:wy.writes=[]->y.writes=[])
  (hL1:∀c∈wy.reads,c∈L.names) (hL2:∀c∈wy.writes,c∈L.names):mg r y=false:=by
 have mem:∀x∈Z,x.op=r.op->W.free x wy:=λx hx he=>hf x (by rw[Ye];exact⟨hx,by rw[he,hun];rfl⟩)
 have B:∀c∈[base+r.op],c∉y.reads/\c∉y.writes:=λc j=>by
  rw[WP]at j;subst j;constructor
  .intro M;obtain⟨x,G,E,D⟩:=S r.op hr.1 (hL1 _ (h1 _ M));exact((mem x G E).2.2.1 _ D).1 (h1 _ M)
  .intro M;obtain⟨x,G,E,D⟩:=S r.op hr.1 (hL2 _ (h2 _ M));exact((mem x G E).2.2.1 _ D).2 (h2 _ M)
 rcases hr.2 with⟨G,E,D,Y⟩|⟨x,G,E,D,Y,g5,g6,g7⟩
 .exact pB (by simp[D]) (by simp[E]) (by rw[Y];exact B) (by simp[G]) (λ_=>D)
 .obtain⟨f1,f2,f3,f4,f5⟩:=mem x G E;refine pB (λc j=>⟨λh=>(f1 c (Y c j)).1 (h1 c h),λh=>(f1 c (Y c j)).2 (h2 c h)⟩) (λc j h=>f2 c (D▸j) (h2 c h)) ?_ (λj=>?_) (λj=>?_)
  .cases O:r.isCall with
   |true=>rw[(g6 O).1];simp
   |false=>rw[g7 O];exact B
  .obtain⟨e1,e2,e3⟩:=f4 (g5▸j);exact⟨h3.trans e1,h4 e2,λc h=>(g6 j).2 c (e3 c (h1 c h))⟩
  .have:=f5 (h3▸j);cases hw:r.writes with
   |nil=>rfl
   |cons c l=>have h:=Y c (by rw[hw];simp);rw[this]at h;simp at h
theorem Ad{call1 u:FuncId->List AV->af->Option (AV×af)}{n i j:Nat}{D:List AV}{H:af}(B:∀f args H,n<H.next->call1 f args H=u f args H)(E:n<H.next):bZ P F call1 ops base i j D H=bZ P F u ops base i j D H:=by
 unfold bZ;split
 .rfl
 .split
  .split
   .rfl
   .rw[B _ _ _ (by show n<(eI base j i H).next;rw[(hY base j i H).1];exact E)]
   .rfl
  .rfl
  .rfl
theorem pC{call1 u:FuncId->List AV->af->Option (AV×af)}{n:Nat}{j:List Nat}(D:∀f args H,n<H.next->call1 f args H=u f args H)(Y:gz P call1):∀(l:List Nat) (E:List AV) (H:af) (O:List rX) (r:List AV×af×List rX),n<H.next->fK P F call1 ops base j l E H O=some r->fK P F u ops base j l E H O=some r
 |[],E,H,O,r,_,h=>h
 | i::l,E,H,O,r,hn,h=>by
  have G:∀{B S x},bZ P F call1 ops base i (j.getD i 0) E H=some (B,S,x)->H.next<=S.next:=λ{B S x} M=>by
   have:∃l,fK P F call1 ops base j [i] E H []=some (B,S,l):=by
    unfold fK;rw[M];cases x
    .exact⟨_,rfl⟩
    .exact⟨_,rfl⟩
   obtain⟨l,this⟩:=this;exact nK Y [i] _ _ _ _ _ _ this
  unfold fK at h ⊢;rw[<-Ad (call1:=call1) D hn];split at h
  .rename_i M;exact pC D Y l _ _ _ r (Xf hn (G M)) h
  .rename_i M;split at h
   .rename_i Z;rw[if_pos Z];exact pC D Y l _ _ _ r (Xf hn (G M)) h
   .cases h
  .cases h
theorem range'_succ(k m:Nat):List.range' k (m+1)=k::List.range' (k+1) m:=rfl
theorem uy{u:List Nat}:∀(m k:Nat) (B:List AV) (L:SH) (Z:List W.WR) (K:List AV->SH->Prop),W.dr P F ops u (List.range' k m) B L Z K->∀(H:af) (rs:List rX),Bd H->lV L H->
  (∀j,k<=j->j<k+m->base+j<H.next/\H.get (base+j)=none)->base+k<=H.next->(∀r∈rs,K3 base k Z r)->Uf base k L Z->
  ∃call D H' L' O,gz P call/\IE call/\fK P F call ops base u (List.range' k m) B H rs=some (D,H',O)/\Fr base L H L' H'/\K D L'
 |0,k,B,L,Z,K,h,H,rs,hb,hs,_,_,_,_=>⟨ID,B,H,L,rs,uv P,λ_ _ _ _ _ _ h=>(by cases h),rfl,.refl hb hs,h⟩
 | m+1,k,B,L,Z,K,h,H,rs,hb,hs,hfr,hbase,hrel,hma=>by
  rw[range'_succ]at h ⊢;have h0:=hfr k (Fd _) YC;have hlt:∀c,c∈L.names->c<H.next:=λc M=>by
   obtain⟨x,_,hx⟩:=hs.mem M;rcases Fn c H.next with E|E
   .exact E
   .rw[hb c E]at hx;cases hx
  unfold W.dr at h;split at h
  .exact h.elim
  .rename_i o ho;have go:∀(Kc:AV->SH->W.Fp->Prop),eK ops o B=some true->W.dop P F (Z.filter λx=>!(u.getD k 0).testBit x.op) k o.op (kV B) L Kc->(∀v L1 r,Kc v L1 r->W.dr P F ops u (List.range' (k+1) m) (ik B o.dst v) L1 (W.push k o.op r Z) K)->
     ∃call D H' L' O,gz P call/\IE call/\fK P F call ops base u (k::List.range' (k+1) m) B H rs=some (D,H',O)/\Fr base L H L' H'/\K D L':=by
    intro Kc hw hop hk;have val:∀(v:AV) (H1:af) (L1:SH) (wr:W.Fp),bA P F o.op (kV B) (base+k) H=some (.val v H1)->o5 (base+k) L H L1 H1->Kc v L1 wr->
      (∀r∈rs,(u.getD k 0).testBit r.op=false->mg r ⟨k,aT o.op (kV B),aJ o.op (kV B),[base+k],false,0,0⟩=false)->
      K3 base (k+1) (W.push k o.op wr Z) ⟨k,aT o.op (kV B),aJ o.op (kV B),[base+k],false,0,0⟩->(∀x∈Z,x∈W.push k o.op wr Z)->(base+k∈L1.names->∃x∈W.push k o.op wr Z,x.op=k/\base+k∈x.made)->
      ∃call D H' L' O,gz P call/\IE call/\fK P F call ops base u (k::List.range' (k+1) m) B H rs=some (D,H',O)/\Fr base L H L' H'/\K D L':=by
     intro v H1 L1 wr g1 g2 g3 g4 g5 g6 g7;obtain⟨call,D,H',L',O,k1,k2,k3,k4,k5⟩:=uy m (k+1) (ik B o.dst v) L1 (W.push k o.op wr Z) K (hk v L1 wr g3) {H1 with log:=H.log} (⟨k,aT o.op (kV B),aJ o.op (kV B),[base+k],false,0,0⟩::rs) g2.bd (g2.sub.congr λ_=>rfl) (λj E h2=>by
       have hj0:=hfr j YC YC;exact⟨by show base+j<H1.next;rw[g2.next];exact hj0.1,g2.dom _ YC hj0.2⟩) (by show base+(k+1)<=H1.next;rw[g2.next];omega) (λr hr=>by
       rcases WX.1 hr with rfl|hr
       .exact g5
       .exact(hrel r hr).more (Yi _) g6) (λj hj G=>by
       rcases g2.fresh _ G with E|E
       .have:j=k:=by omega
        subst this;exact g7 G
       .have hjk:j≠k:=λe=>by subst e;exact hs.not_mem h0.2 E
        obtain⟨x,e1,e2⟩:=hma j YC E;exact⟨x,g6 x e1,e2⟩)
     refine⟨call,D,H',L',O,k1,k2,?_,Fr.trans (H':={H1 with log:=H.log}) ⟨Nat.le_of_eq g2.next.symm,g2.bd,g2.sub.congr λ_=>rfl,g2.keep,λc M=>g2.dom c YC,λc M hlt=>(g2.fresh c M).resolve_left YC⟩ k4 (Fd _),k5⟩;unfold fK bZ;simp only[ho,hw,g1];rw[if_pos]
     .exact k3
     .rw[W2];intro r hr;cases G:(u.getD k 0).testBit r.op with
      |true=>rfl
      |false=>rw[g4 r hr G];rfl
    rcases K0 hop with⟨c,f,g,cs,e1,e2,e3,hd⟩|⟨G,hcv,S,hop⟩|⟨G,hcv,hv,hop⟩
    ·
     obtain⟨Kp,R,hL,S,bd,hcall⟩:=hd;have hs':=hs.perm hL;have hn:∀b,b∈L.names↔b∈Kp.names\/b∈R.names:=λb=>by rw[(hL.map Prod.fst).mem_iff,WL,WM]
     generalize hmask:u.getD k 0=mask at S hop
     let Hid:Nat->Prop:=λc=>∃j,j<k/\mask.testBit j=false/\c=base+j
     have hHid:∀c,Hid c->c<H.next/\base<=c:=λc ⟨j,hj,_,M⟩=>by omega
     have hKp:∀c,c∈Kp.names->¬Hid c:=λc M ⟨j,hj,hmj,hcj⟩=>by subst hcj;obtain⟨x,f1,f2,f3⟩:=hma j hj ((hn _).2 (.inl M));exact((S x (by rw[Ye];exact⟨f1,by rw[f2,hmj];rfl⟩)).2.2.1 _ f3).2 M
     have hhg:∀c,({eI base mask k H with log:=[]}:af).get c=if Hid c then none else H.get c:=λc=>i9 base mask k H c
     have hhn:({eI base mask k H with log:=[]}:af).next=H.next:=(hY base mask k H).1
     generalize hHh:({eI base mask k H with log:=[]}:af)=Hh at hhg hhn;have hhl:Hh.log=[]:=by rw[<-hHh]
     have hbh:Bd Hh:=λc M=>by
      rw[hhg];split
      .rfl
      .exact hb c YC
     have hsh:lV Kp Hh:=⟨hs'.left.nd,λp hp=>by rw[hhg,if_neg (hKp _ (Xs hp))];exact hs'.left.get p hp⟩;obtain⟨v,H1,K1,c1,c2,c3⟩:=hcall Hh hbh hsh;have hnx:=c2.next
     let Ho:af:={H1 with next:=H1.next+1,log:=Kp.names}
     let Hn:af:={jJ base mask H k Ho with log:=H.log}
     have hng:∀c,Hn.get c=if Hid c then H.get c else H1.get c:=λc=>mq base mask H k Ho c
     have hnn:Hn.next=H1.next+1:=(iR base mask H k Ho).1;have hK1:∀c,c∈K1.names->¬Hid c:=λc M Y=>hKp c (c2.fresh c M (by have:=(hHid c Y).1;omega)) Y
     have hR:∀p∈R,Hn.get p.1=some p.2/\p.1∉K1.names:=λp hp=>by
      rw[hng];by_cases Y:Hid p.1
      .rw[if_pos Y];exact⟨hs'.right.get p hp,λM=>hK1 _ M Y⟩
      .rw[if_neg Y];exact c2.keep p.1 p.2 (by rw[hhg,if_neg Y];exact hs'.right.get p hp) (λhk=>hs'.disj hk (Xs hp))
     have frn:Fr base L H (K1++R) Hn:=by
      refine⟨by rw[hnn];omega,λc M=>?_,⟨?_,λp hp=>?_⟩,λb x E h2=>?_,λb hb' E=>?_,λb E h2=>?_⟩
      .rw[hnn]at M;rw[hng,if_neg (λY=>by have:=(hHid c Y).1;omega)];exact c2.bd c YC
      .unfold SH.names;rw[WL,X1];refine⟨c2.sub.nd,hs'.right.nd,λa ha b hb he=>?_⟩;subst he;obtain⟨p,hp,rfl⟩:=Xi.1 hb;exact(hR p hp).2 ha
      .rcases WM.1 hp with hp|hp
       .rw[hng,if_neg (hK1 _ (Xs hp))];exact c2.sub.get p hp
       .exact(hR p hp).1
      .rw[hn]at h2;have:Hn.get b=some x/\b∉K1.names:=by
        rw[hng];by_cases Y:Hid b
        .rw[if_pos Y];exact⟨E,λM=>hK1 _ M Y⟩
        .rw[if_neg Y];exact c2.keep b x (by rw[hhg,if_neg Y];exact E) (λhk=>h2 (.inl hk))
       refine⟨this.1,λhk=>?_⟩;unfold SH.names at hk;rw[WL,WM]at hk;rcases hk with hk|hk
       .exact this.2 hk
       .exact h2 (.inr hk)
      .have Y:¬Hid b:=λY=>by have:=(hHid b Y).2;omega
       rw[hng,if_neg Y];exact c2.dom b YC (by rw[hhg,if_neg Y];exact E)
      .unfold SH.names at E;rw[WL,WM]at E;rw[hn];rcases E with E|E
       .exact .inl (c2.fresh b E YC)
       .exact .inr E
     let r:rX:=⟨k,[],Ho.log.filter (λc=>(Hh.get c).isSome),[],true,H.next,Ho.next⟩
     obtain⟨call,D,H',L',O,k1,k2,k3,k4,k5⟩:=uy m (k+1) (ik B o.dst v) (K1++R) ((⟨k,[],Kp.names,[],true,L.names⟩:W.WR)::Z) K (by have:=hk v _ _ (c3.h _ rfl);rw[show W.push k o.op ⟨[],Kp.names,[],L.names⟩ Z=(⟨k,[],Kp.names,[],true,L.names⟩:W.WR)::Z from by simp[W.push,W.isCallV,e1,e2]]at this;exact this) Hn (r::rs) frn.bd frn.sub (λj E h2=>by
       have hj0:=hfr j YC YC;have Y:¬Hid (base+j):=λ⟨q,hq,_,he⟩=>by omega
       refine⟨by rw[hnn];omega,?_⟩;rw[hng,if_neg Y];exact c2.dom _ YC (by rw[hhg,if_neg Y];exact hj0.2)) (by rw[hnn];omega) (λq hq=>by
       rcases WX.1 hq with rfl|hq
       .exact⟨Nat.lt_succ_self _,.inr ⟨_,Yr,rfl,rfl,λc M=>(Ye.1 M).1,rfl,λ_=>⟨rfl,hlt⟩,λh=>(by cases h)⟩⟩
       .exact(hrel q hq).more (Yi _) λx hx=>XN _ hx) (λj hj G=>by
       have hjk:base+j∈L.names:=by
        rw[hn];unfold SH.names at G;rw[WL,WM]at G;rcases G with G|G
        .exact .inl (c2.fresh _ G YC)
        .exact .inr G
       have hne:j≠k:=λe=>by subst e;exact hs.not_mem h0.2 hjk
       obtain⟨x,f1,f2⟩:=hma j YC hjk;exact⟨x,XN _ f1,f2⟩)
     refine⟨MA g (c.args.toList.map (kV B)++cs) Hh v Ho call,D,H',L',O,DC k1 (c1.bump _) (by show Hh.next<=H1.next+1;omega) bd,JZ k2 λ_=>c2.chg _ (by rw[hhl];simp) (λb hb=>hb) _ (Yi _),?_,frn.trans k4 (Fd _),k5⟩;have ha:bA P F o.op (kV B) (base+k) H=some (.call g (c.args.toList.map (kV B)++cs)):=by rw[e1];simp[bA,e2,e3]
     have hbm:u.getD k 0=mask:=hmask;have hs1:bZ P F (MA g (c.args.toList.map (kV B)++cs) Hh v Ho call) ops base k mask B H=some (ik B o.dst v,Hn,some r):=by unfold bZ;simp only[ho,hw,ha,hHh,J0];rw[show(eI base mask k H)={Hh with log:=H.log} from by rw[<-hHh];exact(congrArg (λl=>({eI base mask k H with log:=l}:af)) (hY base mask k H).2)];rfl
     unfold fK;rw[hbm,hs1];simp only[];rw[if_pos]
     .refine pC (n:=Hh.next) (λf args K hK=>?_) k1 _ _ _ _ _ (by rw[hnn];omega) k3;exact(DD hK).symm
     .rw[W2];intro q hq;cases hmq:mask.testBit q.op with
      |true=>rfl
      |false=>rw[Ac (wy:=⟨k,[],Kp.names,[],true,[]⟩) (hrel q hq) hma hmq S (by simp[r]) (λc M=>(Ye.1 M).1) rfl (λhe=>by show List.filter _ Kp.names=[];rw[show Kp.names=[]from he];rfl) YF (λc M=>(hn c).2 (.inl M))];rfl
    ·
     rcases Ep (b:=base+k) hb hs h0.1 h0.2 hop with⟨v,H1,L1,g1,g2,g3,g4⟩|⟨g,args,g1,g2⟩
     .have hp:W.push k o.op ⟨aT o.op (kV B),aJ o.op (kV B),if W0.makes o.op then am v else [],[]⟩ Z=(⟨k,aT o.op (kV B),aJ o.op (kV B),if W0.makes o.op then am v else [],false,[]⟩:W.WR)::Z:=by simp[W.push,G,hcv]
      refine val v H1 L1 _ g1 g2 (g4.h _ rfl) (λr hr hun=>?_) (by rw[hp];exact⟨Nat.lt_succ_self _,.inr ⟨_,Yr,rfl,rfl,λc h=>h,rfl,λh=>(by cases h),λ_=>rfl⟩⟩) (λx hx=>by rw[hp];exact XN _ hx) (λG=>by rw[hp];exact⟨_,Yr,rfl,by show _∈(if W0.makes o.op=true then am v else []);rw[if_pos (g3 G).1];exact(g3 G).2⟩);exact Ac (wy:=⟨k,aT o.op (kV B),aJ o.op (kV B),[],false,[]⟩) (hrel r hr) hma hun S (λc h=>h) (λc h=>h) rfl (λh=>h) (Gs hop) (λc M=>Gs hop c (ut M))
     .obtain⟨c,f,e1,e2⟩:=Gr g1;rw[e1]at G;simp[W.isMem,e2]at G
    ·
     have hop':=Pq (K2:=λv L'=>Kc v L' ⟨[],[],[],[]⟩/\L'=L) (λv h=>⟨h,rfl⟩) G hv hop;rcases Ep (b:=base+k) hb hs h0.1 h0.2 hop' with⟨v,H1,L1,g1,g2,g3,g4,g5⟩|⟨g,args,g1,g2⟩
     .obtain⟨n1,n2⟩:=Er (ρ:=kV B) G;subst g5;have hp:W.push k o.op ⟨[],[],[],[]⟩ Z=Z:=by simp[W.push,G,hcv]
      refine val v H1 _ ⟨[],[],[],[]⟩ g1 g2 g4 (λr hr hun=>?_) ⟨Nat.lt_succ_self _,.inl ⟨rfl,n1,n2,rfl⟩⟩ (λx hx=>by rw[hp];exact hx) (λh=>absurd h (hs.not_mem h0.2));rw[n1,n2];refine pB YF YF YF YF YF
     .obtain⟨c,f,e1,e2⟩:=Gr g1;exact absurd e2 (hv c f e1)
   split at h
   .rename_i hg;exact go _ (xP hg) h λv L1 r h=>h
   .rename_i j want hg;split at h
    .rename_i d hd;rcases h.h with⟨E,h2⟩|⟨E,h2⟩
     .exact go _ (Ab hg hd E) h2 λv L1 r h=>h
     .have hps:∀x∈Z,x∈W.push k o.op ⟨[],[],[],L.names⟩ Z:=λx hx=>by
       unfold W.push;split
       .exact XN _ hx
       .exact hx
      obtain⟨call,D,H',L',O,k1,k2,k3,k4,k5⟩:=uy m (k+1) (ik B o.dst ca) L _ K h2 H rs hb hs (λj E h2=>hfr j YC YC) YC (λr hr=>(hrel r hr).more (Yi _) hps) (λj hj G=>by
       have hne:j≠k:=λe=>by subst e;exact hs.not_mem h0.2 G
       obtain⟨x,e1,e2⟩:=hma j YC G;exact⟨x,hps x e1,e2⟩)
      refine⟨call,D,H',L',O,k1,k2,?_,k4,k5⟩;unfold fK bZ;simp only[ho,DE hg hd E];exact k3
    .exact h.elim
end
end
section
open Go.RowKit
inductive Fz (K:SH):AV->AV->Prop where
 |refl (v:AV):Fz K v v
 |nils:Fz K .nils (.lst [])
 |nile:Fz K .nils .emp
 |emp:Fz K .emp (.lst [])
 |sl0 (b i:Nat):Fz K (.sl b i 0) (.lst [])
 | sl (b i n:Nat) (x:Blk) (rows:List (List AV)) (hm:(b,x)∈K) (hs:0<x.size) (hn:0<n) (hl:rows.length=n) (hle:i+n<=x.rows.length)
   (hr:∀(j:Nat) (r r2:List AV),x.rows[i+j]? =some r->rows[j]? =some r2->r.length=r2.length)
   (hc:∀(j:Nat) (r r2:List AV) (q:Nat) (a a2:AV),x.rows[i+j]? =some r->rows[j]? =some r2->r[q]? =some a->r2[q]? =some a2->Fz K a a2):Fz K (.sl b i n) (.lst rows)
 | ptr (b i off:Nat) (x:Blk) (rows:List (List AV)) (hm:(b,x)∈K) (hs:0<x.size) (hl:rows.length=x.rows.length) (hn:0<rows.length)
   (hr:∀(j:Nat) (r r2:List AV),x.rows[j]? =some r->rows[j]? =some r2->r.length=r2.length)
   (hc:∀(j:Nat) (r r2:List AV) (q:Nat) (a a2:AV),x.rows[j]? =some r->rows[j]? =some r2->r[q]? =some a->r2[q]? =some a2->Fz K a a2):Fz K (.ptr b i off) (.pptr rows i off)
 |agg (cs cs2:List AV) (hl:cs.length=cs2.length) (h:∀(i:Nat) (a a2:AV),cs[i]? =some a->cs2[i]? =some a2->Fz K a a2):Fz K (.agg cs) (.agg cs2)
 |tup (cs cs2:List AV) (hl:cs.length=cs2.length) (h:∀(i:Nat) (a a2:AV),cs[i]? =some a->cs2[i]? =some a2->Fz K a a2):Fz K (.tup cs) (.tup cs2)
theorem RN{K:SH}{v:Value}{a j:AV}(h:FV v=some a)(u:Fz K a j):j=a:=by cases v<;>simp only[FV,W3,reduceCtorEq]at h<;>subst h<;>cases u<;>rfl
theorem uf.fz{K:SH}{w:World}{x y:Blk}{pl:cR}(h:uf w x pl)(e1:x.size=y.size)(e2:x.rows.length=y.rows.length)
  (e3:∀(j:Nat) (r M:List AV),x.rows[j]? =some r->y.rows[j]? =some M->r.length=M.length/\∀(k:Nat) (a a2:AV),r[k]? =some a->M[k]? =some a2->Fz K a a2):uf w y pl:=by
 have S:(∀(j:Nat) (r:List AV),x.rows[j]? =some r->∀(k:Nat) (a:AV),r[k]? =some a->∃v,FV v=some a)->y.rows=x.rows:=λhk=>by
  refine XW λj=>?_
  rcases Fn j x.rows.length with Z|Z
  .have h1:x.rows[j]? =some x.rows[j]:=mt Z;have E:y.rows[j]? =some (y.rows[j]'YC):=mt YC;obtain⟨g1,g2⟩:=e3 j _ _ h1 E;rw[h1,E];congr 1;refine XW λk=>?_
   rcases Fn k x.rows[j].length with B|B
   .have u:x.rows[j][k]? =some x.rows[j][k]:=mt B;have h4:(y.rows[j]'YC)[k]? =some ((y.rows[j]'YC)[k]'YC):=mt YC;obtain⟨v,hv⟩:=hk j _ h1 k _ u;rw[u,h4,RN hv (g2 k _ _ u h4)]
   .rw[ST B,ST YC]
  .rw[ST Z,ST YC]
 have hy:y.rows=x.rows:=S λj r G k a D=>by
  rcases h.obj with⟨_,es,clk,_,E⟩|⟨_,s,O,_,E⟩
  .have u:(es.toList.map FW)[j]? =some (some r):=by rw[E,W6,G];rfl
   rw[W6]at u;cases he:es.toList[j]? with
   |none=>rw[he]at u;cases u
   |some e=>
    rw[he]at u;simp only[Xl,W3]at u;unfold FW at u;split at u
    .rename_i k' v' B Y;cases u
     match k with
     |0=>cases D;exact⟨_,B⟩
     |1=>cases D;exact⟨_,Y⟩
     |k+2=>simp at D
    .cases u
  .rw[E]at G
   match j with
   |0=>
    cases G
    match k with
    |0=>cases D;exact⟨.string s,rfl⟩
    |1=>cases D;exact⟨.int .i64 O,rfl⟩
    |k+2=>simp at D
   |j+1=>simp at G
 exact⟨e1▸h.size,h.psize,by rw[hy];exact h.obj⟩
section
variable {P:Program} {F:TypeId->Option (List TypeId)} {w:World} {σ:bR} {H H2:af} {K:SH}
theorem MB(hW:bQ w σ H)(hK:lV K H)(hown:∀c,bB σ H2 c->bB σ H c)(hout:∀b∈K.names,∀Y,σ b=some Y->¬bB σ H2 Y.block){a a2:AV}(hz:Fz K a a2):∀{v:Value},bN w σ (bB σ H) a v->bN w σ (bB σ H2) a2 v:=by
 induction hz with
 |refl v=>intro u h;exact h.shrink hown
 |nils=>intro u h;cases h;exact .lst0 _ _ (by unfold maxLen;omega)
 |nile=>intro u h;cases h;exact .emp _
 |emp=>intro u h;cases h;exact .lst0 _ _ (by unfold maxLen;omega)
 |sl0 b i=>intro u h;obtain⟨Y,ad,cap,rfl,hs,hn,hm,ha⟩:=h.sl_inv;exact .lst0 _ _ hm
 |sl b i n x B hm hs hn hl hle hr hc ih=>
  intro u h;have h0_:=h;obtain⟨Y,ad,cap,rfl,hsg,hn',hmx,ha⟩:=h.sl_inv;obtain⟨rfl,cs,ty,hcs,hroom⟩:=ha YC;obtain⟨pl',cs',e',g1,G⟩:=hW.live b x (hK.get _ hm);rw[hsg]at g1;cases g1;replace G:=G.1 (h0_.sl_ok hsg);have M:∀(j:Nat) (D:List AV),B[j]? =some D->∃r,x.rows[i+j]? =some r/\r.length=D.length:=λj D S=>by
   have hj:=aF S;have:i+j<x.rows.length:=by omega
   exact⟨_,mt this,hr j _ D (mt this) S⟩
  have:=bN.lst (w:=w) (σ:=σ) (T:=bB σ H2) B Y.block (Y.base+i*Y.size) Y.size cap
   ⟨hout b (Xs hm) Y hsg,λq D S=>by
    obtain⟨r,O,k2⟩:=M q D S;rw[<-k2,G.even _ r O,G.size],λq j hq hj=>by
    obtain⟨r,O,k2⟩:=M q B[q] (mt hq);have E:j<r.length:=by rw[G.even _ r O,<-G.size];exact hj
    obtain⟨u,hu,_⟩:=G.row O j _ (mt E);rw[XD,<-Nat.add_assoc]at hu;exact⟨u,hu⟩,by rw[G.size];exact hs,YC⟩ YC hmx
   (λq D j y u S hy hu=>by
    obtain⟨r,O,k2⟩:=M q D S;have E:j<r.length:=by rw[k2];exact aF hy
    obtain⟨u',Z,hz⟩:=G.row O j _ (mt E);rw[XD,<-Nat.add_assoc]at Z;rw[hu]at Z;cases Z;exact ih q r D j _ y O S (mt E) hy hz)
  rw[hl]at this;exact this
 |ptr b i off x B hm hs hl hn hr hc ih=>
  intro u h;cases h with
  |ptr _ _ _ Y hsg hp=>
  obtain⟨pl',cs',e',g1,G⟩:=hW.live b x (hK.get _ hm);rw[hsg]at g1;cases g1;replace G:=G.1 hp;have M:∀(j:Nat) (D:List AV),B[j]? =some D->∃r,x.rows[j]? =some r/\r.length=D.length:=λj D S=>by
   have hj:=aF S;have:j<x.rows.length:=by omega
   exact⟨_,mt this,hr j _ D (mt this) S⟩
  exact bN.pptr (w:=w) (σ:=σ) (T:=bB σ H2) B i off Y.block Y.base Y.size
   ⟨hout b (Xs hm) Y hsg,λq D S=>by
    obtain⟨r,O,k2⟩:=M q D S;rw[<-k2,G.even _ r O,G.size],λq j hq hj=>by
    obtain⟨r,O,k2⟩:=M q B[q] (mt hq);have E:j<r.length:=by rw[G.even _ r O,<-G.size];exact hj
    obtain⟨u,hu,_⟩:=G.row O j _ (mt E);exact⟨u,hu⟩,by rw[G.size];exact hs,YC⟩
   (λq D j y u S hy hu=>by
    obtain⟨r,O,k2⟩:=M q D S;have E:j<r.length:=by rw[k2];exact aF hy
    obtain⟨u',Z,hz⟩:=G.row O j _ (mt E);rw[hu]at Z;cases Z;exact ih q r D j _ y O S (mt E) hy hz)
 |agg cs cs2 hl h ih=>
  intro u hu;cases hu with
  |agg _ vs hlv hc=>
   refine .agg cs2 vs YC λq y z hy hz=>?_
   have hq:q<cs.length:=by rw[hl];exact aF hy
   exact ih q _ y (mt hq) hy (hc q _ z (mt hq) hz)
 |tup cs cs2 hl h ih=>
  intro u hu;cases hu with
  |tup _ vs hlv hc=>
   refine .tup cs2 vs YC λq y z hy hz=>?_
   have hq:q<cs.length:=by rw[hl];exact aF hy
   exact ih q _ y (mt hq) hy (hc q _ z (mt hq) hz)
structure aE(vs:List AV)(L:SH)(vs2:List AV)(L2:SH):Prop where
 ex:∃K R:SH,L.Perm (K++R)/\(vs.length=vs2.length/\∀(i:Nat) (a a2:AV),vs[i]? =some a->vs2[i]? =some a2->Fz K a a2)/\R.length=L2.length/\
  ∀(i:Nat) (p q:Nat×Blk),R[i]? =some p->L2[i]? =some q->p.1=q.1/\p.2.size=q.2.size/\p.2.rows.length=q.2.rows.length/\
   ∀(j:Nat) (r r2:List AV),p.2.rows[j]? =some r->q.2.rows[j]? =some r2->r.length=r2.length/\∀(k:Nat) (a a2:AV),r[k]? =some a->r2[k]? =some a2->Fz K a a2
theorem aE.refl(vs:List AV)(L:SH):aE vs L vs L:=⟨[],L,.refl _,⟨rfl,λi a O B u=>by rw[B]at u;cases u;exact .refl _⟩,rfl,λi p q B u=>by
 rw[B]at u;cases u;exact⟨rfl,rfl,rfl,λj r S M E=>by rw[M]at E;cases E;exact⟨rfl,λk a O G D=>by rw[G]at D;cases D;exact .refl _⟩⟩⟩
theorem aE.drop{vs u:List AV}{L K R:SH}(O:L.Perm (K++R))(M:vs.length=u.length)(h:∀(i:Nat) (a B:AV),vs[i]? =some a->u[i]? =some B->Fz K a B):aE vs L u R:=⟨K,R,O,⟨M,h⟩,rfl,λi p q Z G=>by
 rw[Z]at G;cases G;exact⟨rfl,rfl,rfl,λj r r2 Y E=>by rw[Y]at E;cases E;exact⟨rfl,λk a B S D=>by rw[S]at D;cases D;exact .refl _⟩⟩⟩
def af.repl(H:af)(K:List Nat)(L2:SH):af:=L2.foldl (λH p=>{H with tr:=H.tr.set p.1 (some p.2)}) (K.foldl (λH b=>{H with tr:=H.tr.set b none}) H)
theorem Ae(K:List Nat):∀(H:af) (c:Nat),(K.foldl (λH b=>({H with tr:=H.tr.set b none}:af)) H).get c=(if c∈K then none else H.get c)/\(K.foldl (λH b=>({H with tr:=H.tr.set b none}:af)) H).next=H.next:=by
 induction K with
 |nil=>intro H c;simp
 |cons b K B=>
  intro H c;simp only[XL];obtain⟨E,D⟩:=B {H with tr:=H.tr.set b none} c;refine⟨?_,D⟩;rw[E];by_cases j:c∈K
  .simp[j]
  .have:({H with tr:=H.tr.set b none}:af).get c=if b=c then none else H.get c:=Tr.get_set _ _ _ _
   rw[if_neg j,this];by_cases u:b=c
   .subst u;simp
   .rw[if_neg u,if_neg];simp only[WX,not_or];exact⟨λe=>u e.symm,j⟩
theorem Af:∀(L2:SH),L2.names.Nodup->∀(H:af) (c:Nat),((∀x,(c,x)∈L2->(L2.foldl (λH p=>({H with tr:=H.tr.set p.1 (some p.2)}:af)) H).get c=some x)/\(c∉L2.names->(L2.foldl (λH p=>({H with tr:=H.tr.set p.1 (some p.2)}:af)) H).get c=H.get c))/\(L2.foldl (λH p=>({H with tr:=H.tr.set p.1 (some p.2)}:af)) H).next=H.next:=by
 intro L2
 induction L2 with
 |nil=>intro _ H c;simp
 |cons p L G=>
  intro u H c;simp only[WS,Xw]at u;obtain⟨⟨M,E⟩,h3⟩:=G u.2 {H with tr:=H.tr.set p.1 (some p.2)} c;have D:({H with tr:=H.tr.set p.1 (some p.2)}:af).get c=if p.1=c then some p.2 else H.get c:=Tr.get_set _ _ _ _
  refine⟨⟨λx j=>?_,λB=>?_⟩,h3⟩
  .simp only[XL];rcases WX.1 j with j|j
   .subst j;rw[E u.1,D,if_pos rfl]
   .exact M x j
  .simp only[XL];simp only[WS,WX,not_or]at B;rw[E B.2,D,if_neg (λe=>B.1 e.symm)]
theorem my{vs vs2:List AV}{L L2:SH}(h:aE vs L vs2 L2)(hs:lV L H)(hb:Bd H):∃H2:af,Fr H.next L H L2 H2/\H2.next=H.next/\
  (∀(w:World) (σ:bR),bQ w σ H->bQ w σ H2/\(∀c,bB σ H2 c->bB σ H c)/\∀(us:List Value),fP w σ (bB σ H) vs us->fP w σ (bB σ H2) vs2 us)/\∀b,b∉L.names->H2.get b=H.get b:=by
 obtain⟨K,R,hL,⟨hl,hv⟩,hlen,hR⟩:=h.ex;have hs':=hs.perm hL;have hn:∀b,b∈L.names↔b∈K.names\/b∈R.names:=λb=>by rw[(hL.map Prod.fst).mem_iff,WL,WM]
 have B:L2.names=R.names:=by
  apply XW;intro i;unfold SH.names;rw[W6,W6];rcases Fn i R.length with hi|hi
  .have hi2:i<L2.length:=by omega
   rw[mt hi,mt hi2];simp only[Xl,W3];exact(hR i _ _ (mt hi) (mt hi2)).1.symm
  .rw[ST hi,ST YC]
 have hnd2:L2.names.Nodup:=by rw[B];exact hs'.right.nd
 let H2:=H.repl K.names L2
 have hget:∀c,(∀x,(c,x)∈L2->H2.get c=some x)/\(c∉L2.names->H2.get c=if c∈K.names then none else H.get c):=λc=>by obtain⟨⟨E,G⟩,_⟩:=Af L2 hnd2 (K.names.foldl (λH b=>{H with tr:=H.tr.set b none}) H) c;exact⟨E,λhc=>(G hc).trans (Ae K.names H c).1⟩
 have M:H2.next=H.next:=(Af L2 hnd2 _ 0).2.trans (Ae K.names H 0).2;have D:∀b y,H2.get b=some y->∃x,H.get b=some x/\b∉K.names/\x.size=y.size/\x.rows.length=y.rows.length/\∀(j:Nat) (r r2:List AV),x.rows[j]? =some r->y.rows[j]? =some r2->r.length=r2.length/\∀(k:Nat) (a a2:AV),r[k]? =some a->r2[k]? =some a2->Fz K a a2:=λb y hy=>by
  by_cases hb2:b∈L2.names
  .obtain⟨q,hq,rfl⟩:=Xi.1 hb2;have hqy:H2.get q.1=some q.2:=(hget q.1).1 q.2 hq;rw[hy]at hqy;cases hqy;obtain⟨i,hi,hqi⟩:=XJ hq;have hi':i<R.length:=by omega
   obtain⟨e1,e2,e3,e4⟩:=hR i R[i] q (mt hi') (by rw[mt hi,hqi]);refine⟨R[i].2,?_,λhk=>hs'.disj hk (B▸hb2),e2,e3,e4⟩;rw[<-e1];exact hs'.right.get _ (WN hi')
  .rw[(hget b).2 hb2]at hy;split at hy
   .cases hy
   .rename_i hk;exact⟨y,hy,hk,rfl,rfl,λj r r2 E G=>by rw[E]at G;cases G;exact⟨rfl,λk a a2 Z h4=>by rw[Z]at h4;cases h4;exact .refl _⟩⟩
 have hout:∀b,b∉L.names->H2.get b=H.get b:=λb hbn=>by rw[hn,not_or]at hbn;rw[(hget b).2 (by rw[B];exact hbn.2),if_neg hbn.1]
 refine⟨H2,⟨by rw[M];exact Fd _,λb hb'=>?_,⟨hnd2,λp hp=>(hget p.1).1 p.2 hp⟩,λb x E G=>⟨by rw[hout b G];exact E,λZ=>G ((hn b).2 (.inr (B▸Z)))⟩,λb _ E=>?_,λb E _=>(hn b).2 (.inr (B▸E))⟩,M,λw σ hW=>?_,hout⟩
 .rw[M]at hb';cases hg:H2.get b with
  |none=>rfl
  |some y=>obtain⟨x,O,_⟩:=D b y hg;rw[hb b hb']at O;cases O
 .cases hg:H2.get b with
  |none=>rfl
  |some y=>obtain⟨x,O,_⟩:=D b y hg;rw[E]at O;cases O
 .have Y:∀c,bB σ H2 c->bB σ H c:=λc hc=>by
   rcases hc with hc|⟨b,y,S,E,G,Z⟩
   .exact .inl hc
   .obtain⟨x,O,_⟩:=D b y E;exact .inr ⟨b,x,S,O,G,Z⟩
  have hnot:∀b∈K.names,∀S,σ b=some S->¬bB σ H2 S.block:=λb hbK S hpl ho=>by
   obtain⟨x,_,O⟩:=hs'.left.mem hbK;rcases ho with ho|⟨b',y,pl',E,G,Z⟩
   .exact(hW.apart _ ho).2 ⟨b,x,S,O,hpl,rfl⟩
   .obtain⟨x',hx',hk',_⟩:=D b' y E;have:=hW.inj b' b x' x pl' S hx' O G hpl Z;subst this;exact hk' hbK
  refine⟨⟨λb S hb=>by rw[M];exact hW.named b S hb,hW.lt,λb y hy=>?_,λc hc=>⟨(hW.apart c hc).1,λ⟨b,y,S,E,G,Z⟩=>?_⟩,λb b' y y' S pl' E G Z h4 h5=>?_,hW.glob.less Y⟩,Y,λus hus=>⟨by rw[<-hl];exact hus.1,λi a2 u E G=>?_⟩⟩
  .obtain⟨x,O,hk,e1,e2,e3⟩:=D b y hy;obtain⟨S,cs,e,g1,g2⟩:=hW.live b x O;have row:∀(j:Nat) (r2:List AV),y.rows[j]? =some r2->∃r,x.rows[j]? =some r:=λj r2 G=>⟨_,mt (by rw[e2];exact aF G)⟩
   refine⟨S,cs,e,g1,λhp=>?_,λhp=>(g2.2 hp).fz e1 e2 e3⟩;replace g2:=g2.1 hp;refine⟨g2.size.trans e1,g2.block,λi r2 G=>?_,by rw[<-e2,<-e1];exact g2.room,λi r2 j a2 u G Z h4=>?_⟩
   .obtain⟨r,E⟩:=row i r2 G;rw[<-(e3 i r r2 E G).1,g2.even i r E,e1]
   .obtain⟨r,E⟩:=row i r2 G;obtain⟨e4,e5⟩:=e3 i r r2 E G;have hj:j<r.length:=by rw[e4];exact aF Z
    exact MB hW hs'.left Y hnot (e5 j _ a2 (mt hj) Z) (g2.rep i r j _ u E (mt hj) (by rw[e1];exact h4))
  .obtain⟨x,O,_⟩:=D b y E;exact(hW.apart c hc).2 ⟨b,x,S,O,G,Z⟩
  .obtain⟨x,O,_⟩:=D b y E;obtain⟨x',hx',_⟩:=D b' y' G;exact hW.inj b b' x x' S pl' O hx' Z h4 h5
  .have hi:i<vs.length:=by rw[hl];exact aF E
   exact MB hW hs'.left Y hnot (hv i _ a2 (mt hi) E) (hus.2 i _ u (mt hi) G)
theorem c7.fz{c:Code}{S u:List AV}{L L2:SH}{Q:Ex->List AV->SH->Prop}(hz:aE S L u L2)(h:c7 P c u L2 Q):c7 P c S L Q:=λH hb hs=>by
 obtain⟨H2,O,M,f3,f4⟩:=my hz hs hb;obtain⟨e,E,H',L',Y,h2,h3⟩:=h H2 O.bd O.sub;refine⟨e,E,H',L',⟨by rw[<-M];exact Y.1,λw σ a hW B Q hQ=>?_⟩,O.trans (h2.low (by rw[M];exact Fd _)) (Fd _),h3⟩;obtain⟨g1,Z,g3⟩:=f3 w σ hW;refine Y.2 w σ a g1 ⟨g3 _ B.1,B.2⟩ Q λa' w' ⟨G,t,r,j,m⟩=>hQ a' w' ⟨G,t,r,?_,λc pl D=>by rw[<-M];exact m c pl D⟩
 exact⟨j.os,j.tape,j.output,j.size,λc D hT=>j.keep c D (λh=>hT (Z c h)),j.shape,j.sig,j.eqfr,j.frame,λc D=>(j.own c D).imp (Z c) id⟩
theorem ac.fz{f:FuncId}{args:List AV}{S:SH}{Q:AV->SH->Prop}(h:ac P f args S λv L=>∃E L2,aE [v] L [E] L2/\Q E L2):ac P f args S Q:=⟨h.1,λH hb hs=>by
 obtain⟨v,H',L',G,B,E,L2,hz,h3⟩:=h.2 H hb hs;obtain⟨H2,f1,f2,f3,f4⟩:=my hz B.sub B.bd;refine⟨E,H2,L2,λw σ Z hW O=>(G w σ Z hW O).mono ?_,B.trans (f1.low B.next) (Fd _),h3⟩;rintro e Y ⟨M,D,rfl,k1,k2,j,k4⟩;obtain⟨g1,g2,g3⟩:=f3 Y D k2;have:=g3 [M] ⟨rfl,λi a u G B=>by
  match i with
  |0=>cases G;cases B;exact k1
  |i+1=>cases G⟩
 exact⟨M,D,rfl,this.2 0 E M rfl rfl,g1,⟨j.os,j.tape,j.output,j.size,j.keep,j.shape,j.sig,j.eqfr,j.frame,λc hc=>j.own c (g2 c hc)⟩,k4⟩⟩
end
end
section
open Go.RowKit
structure J1 where
 join:Nat->Option (List Nat)
 loop:Nat->List Nat
 frz:Nat->List Nat
 mask:Nat->List Nat
def nL(live:List Nat)(τ:List AV):List AV:=live.map λt=>τ.getD t .junk
def c8(live:List Nat)(vs:List AV)(t:Nat):AV:=match live,vs with
 |[],_=>.junk
 |_,[]=>.junk
 |d::ds,v::vs=>if d=t then v else c8 ds vs t
def iT(n:Nat)(live:List Nat)(vs:List AV):List AV:=(List.range n).map (c8 live vs)
def gK:Code->Option Nat
 |.region id _ _=>some id
 | .seq a b=>match gK a with
  |some i=>some i
  |none=>gK b
 | .cond _ a b=>match gK a with
  |some i=>some i
  |none=>gK b
 |.block _ b=>gK b
 |.loop b=>gK b
 |_=>none
def lh:Code->Option Nat
 |.region id _ _=>some id
 | .seq a b=>match lh b with
  |some i=>some i
  |none=>lh a
 | .cond _ a b=>match lh b with
  |some i=>some i
  |none=>lh a
 |.block _ b=>lh b
 |.loop b=>lh b
 |_=>none
namespace W
abbrev Kn:=List AV->SH->Prop
def frz0(v:AV)(L:SH)(K:AV->SH->Prop):Prop:=match v with
 |.ptr b i off=>∃x L',fQ b x L L'/\0<x.size/\0<x.rows.length/\K (.pptr x.rows i off) L'
 |.sl b i n=>∃x L',fQ b x L L'/\0<x.size/\i+n<=x.rows.length/\K (.lst ((x.rows.drop i).take n)) L'
 |.nils=>K (.lst []) L
 |.emp=>K (.lst []) L
 |v=>K v L
structure frz1(v:AV)(L:SH)(K:AV->SH->Prop):Prop where
 h:frz0 v L K
def frzs:List Nat->List AV->SH->Kn->Prop
 |[],τ,L,K=>K τ L
 |d::ds,τ,L,K=>frz1 (τ.getD d .junk) L λv L=>frzs ds (τ.set d v) L K
structure cond(v:AV)(A B:Prop):Prop where
 h:(v=.bool true/\A)\/(v=.bool false/\B)
structure join(J:Kn)(B:Kn->Prop):Prop where
 h:B J
structure loop(B:List AV->SH->Kn->Prop)(vs:List AV)(L:SH):Prop where
 h:∃I:Nat->Kn,(∃n vs2 L2,aE vs L vs2 L2/\I n vs2 L2)/\∀n vs L,I n vs L->B vs L λvs' L'=>∃m vs2 L2,m<n/\aE vs' L' vs2 L2/\I m vs2 L2
section
variable (P:Program) (F:TypeId->Option (List TypeId)) (ht:J1)
def code:Code->List AV->SH->Kn->(Nat->Kn)->Kn->Prop
 |.skip,τ,L,kn,_,_=>kn τ L
 |.label _,τ,L,kn,_,_=>kn τ L
 | .region id ops draw,τ,L,kn,_,_=>if draw then(JX ops&&En ops&&(cz ops.toList []==ht.mask id))=true/\dr P F ops (ht.mask id) (List.range' 0 ops.size) τ L [] λτ L=>frzs (ht.frz id) τ L kn
   else sq P F ops (List.range ops.size) τ L λτ L=>frzs (ht.frz id) τ L kn
 | .seq a b,τ,L,kn,kx,kr=>match (lh a).bind ht.join with
  |none=>code a τ L (λτ L=>code b τ L kn kx kr) kx kr
  |some live=>join (λvs L=>code b (iT τ.length live vs) L kn kx kr) λj=>code a τ L (λτ L=>j (nL live τ) L) kx kr
 |.cond x a b,τ,L,kn,kx,kr=>cond (kV τ x) (code a τ L kn kx kr) (code b τ L kn kx kr)
 |.block id b,τ,L,kn,kx,kr=>code b τ L kn (λid' τ L=>if id'=id then kn τ L else kx id' τ L) kr
 | .loop b,τ,L,kn,kx,kr=>match gK b with
  |none=>False
  |some r=>loop (λvs L next=>code b (iT τ.length (ht.loop r) vs) L (λτ L=>next (nL (ht.loop r) τ) L) kx kr) (nL (ht.loop r) τ) L
 |.exit id,τ,L,_,kx,_=>kx id τ L
 |.ret,τ,L,_,_,kr=>kr τ L
 |_,_,_,_,_,_=>False
def pack:List AV->AV
 |[v]=>v
 |vs=>.tup vs
def res:List ResultVar->List AV->SH->List AV->(AV->SH->Prop)->Prop
 |[],_,L,vs,Q=>Q (pack vs.reverse) L
 |.tmp t::rs,τ,L,vs,Q=>res rs τ L (τ.getD t ca::vs) Q
 | .cell a t::rs,τ,L,vs,Q=>match ff P t,bj P t with
  |some ag,some n=>load ag n (τ.getD a ca) L λv=>res rs τ L (v::vs) Q
  |_,_=>False
def func(fn:Func)(c:Code)(args:List AV)(L:SH)(Q:AV->SH->Prop):Prop:=
 code P F ht c (args++List.replicate (fn.ntmps-args.length) ca) L (λτ L=>res P fn.results.toList τ L [] Q) (λ_ _ _=>False) (λτ L=>res P fn.results.toList τ L [] Q)
end
end W
section
variable {P:Program} {F:TypeId->Option (List TypeId)} {ht:J1}
theorem r9(j:List AV)(t:Nat):∀live:List Nat,c8 live (nL live j) t=.junk\/c8 live (nL live j) t=j.getD t .junk
 |[]=>.inl rfl
 | d::ds=>by
  simp only[nL,WS,c8];by_cases h:d=t
  .subst h;rw[if_pos rfl];exact .inr rfl
  .rw[if_neg h];exact r9 j t ds
theorem Ag(live:List Nat)(u:List AV):VX u (iT u.length live (nL live u)):=by
 refine⟨by simp[iT],λi x j=>?_⟩;simp only[iT,W6]at j;rcases Fn i u.length with hi|hi
 .rw[Yz hi]at j;simp only[Xl,W3]at j;subst j;rcases r9 u i live with h|h
  .exact .inl h
  .right;rw[h,mt hi];simp[List.getD,hi]
 .rw[ST (by simpa using hi)]at j;cases j
theorem K4{n:Nat}{live:List Nat}{vs vs2:List AV}{L L2:SH}(h:aE vs L vs2 L2):aE (iT n live vs) L (iT n live vs2) L2:=by
 obtain⟨K,R,G,⟨D,E⟩,h4⟩:=h.ex;refine⟨K,R,G,⟨by simp[iT],λi a a2 j B=>?_⟩,h4⟩;simp only[iT,W6]at j B;cases hr:(List.range n)[i]? with
 |none=>rw[hr]at j;cases j
 |some t=>
  rw[hr]at j B;simp only[Xl,W3]at j B;subst j;subst B;clear hr G h h4
  induction live generalizing vs vs2 with
  |nil=>exact .refl _
  |cons d ds O=>
   cases vs with
   | nil=>cases vs2 with
    |nil=>exact .refl _
    |cons y M=>simp at D
   | cons x xs=>cases vs2 with
    |nil=>simp at D
    |cons y M=>
     simp only[c8];by_cases u:d=t
     .rw[if_pos u,if_pos u];exact E 0 x y rfl rfl
     .rw[if_neg u,if_neg u];exact O (by simpa using D) λi a a2 Y S=>E (i+1) a a2 (by simpa using Y) (by simpa using S)
theorem Ah{u:List AV}{d:Nat}{v:AV}{L K R:SH}(G:L.Perm (K++R))(B:Fz K (u.getD d .junk) v):aE u L (u.set d v) R:=by
 refine .drop G YF λi a a2 E j=>?_
 rw[Xc]at j;by_cases D:d=i
 .subst D;rw[if_pos rfl]at j;split at j
  .cases j;rw[List.getD,E]at B;exact B
  .cases j
 .rw[if_neg D,E]at j;cases j;exact .refl _
theorem Fz.rows{K:SH}{b i n:Nat}{x:Blk}(hm:(b,x)∈K)(hs:0<x.size)(hle:i+n<=x.rows.length):Fz K (.sl b i n) (.lst ((x.rows.drop i).take n)):=by
 rcases XH n with rfl|hn
 .simp only[List.take_zero];exact .sl0 b i
 .have get:∀(j:Nat) (r r2:List AV),x.rows[i+j]? =some r->((x.rows.drop i).take n)[j]? =some r2->r=r2:=λj r r2 B u=>by
   rw[List.getElem?_take]at u;split at u
   .rw[XE,B]at u;cases u;rfl
   .cases u
  refine .sl b i n x _ hm hs hn YH hle (λj r r2 B u=>by rw[get j r r2 B u]) λj r r2 q a a2 B u E D=>?_
  have:=get j r r2 B u;subst this;rw[E]at D;cases D;exact .refl _
theorem Fz.box{K:SH}{b i off:Nat}{x:Blk}(hm:(b,x)∈K)(hs:0<x.size)(hn:0<x.rows.length):Fz K (.ptr b i off) (.pptr x.rows i off):=
 .ptr b i off x x.rows hm hs rfl hn (λj r r2 B u=>by rw[B]at u;cases u;rfl) λj r r2 q a a2 B u E D=>by rw[B]at u;cases u;rw[E]at D;cases D;exact .refl _
theorem c7.post{c:Code}{G:List AV}{L:SH}{Q O:Ex->List AV->SH->Prop}(h:c7 P c G L Q)(S:∀e B L',Q e B L'->∃u L2,aE B L' u L2/\O e u L2):c7 P c G L O:=λH hb hs=>by obtain⟨e,B,H',L',M,D,h3⟩:=h H hb hs;obtain⟨u,L2,hz,h4⟩:=S e B L' h3;obtain⟨H2,f1,f2,f3,f4⟩:=my hz D.sub D.bd;refine⟨e,u,H2,L2,⟨by rw[f2];exact M.1,λw σ a Y E Q Z=>M.2 w σ a Y E Q λa' w' ⟨σ',t,r,j,m⟩=>?_⟩,D.trans (f1.low D.next) (Fd _),h4⟩;obtain⟨g1,g2,g3⟩:=f3 w' σ' r;exact Z a' w' ⟨σ',⟨g3 _ t.1,t.2⟩,g1,⟨j.os,j.tape,j.output,j.size,j.keep,j.shape,j.sig,j.eqfr,j.frame,λc hc=>j.own c (g2 c hc)⟩,m⟩
theorem c7.frzs{c:Code}{O:List AV}{L:SH}{K:W.Kn}{n:Nat}:∀(ds:List Nat),c7 P c O L (λe j L'=>e=.normal/\j.length=n/\W.frzs ds j L' K)->c7 P c O L (λe j L'=>e=.normal/\j.length=n/\K j L')
 |[],h=>h
 | d::ds,h=>by
  refine c7.frzs ds (h.post ?_);rintro e j L' ⟨S,hn,hz⟩;simp only[W.frzs]at hz;have hz:=hz.h;simp only[W.frz0]at hz;have set:∀(v:AV) (L2:SH),aE j L' (j.set d v) L2->W.frzs ds (j.set d v) L2 K->∃u L2,aE j L' u L2/\e=.normal/\u.length=n/\W.frzs ds u L2 K:=λv L2 E D=>⟨_,L2,E,S,by simpa using hn,D⟩
  split at hz
  .rename_i b i off B;obtain⟨x,L2,E,D,M,G⟩:=hz;refine set _ L2 (Ah (K:=[(b,x)]) E.perm ?_) G;rw[B];exact .box YF D M
  .rename_i b i k B;obtain⟨x,L2,E,D,M,G⟩:=hz;refine set _ L2 (Ah (K:=[(b,x)]) E.perm ?_) G;rw[B];exact .rows YF D M
  .rename_i B;refine set _ L' (Ah (K:=[]) (.refl _) ?_) hz;rw[B];exact .nils
  .rename_i B;refine set _ L' (Ah (K:=[]) (.refl _) ?_) hz;rw[B];exact .emp
  .refine set _ L' (Ah (K:=[]) (.refl _) ?_) hz;exact .refl _
theorem J2(j:List AV)(d:Option Tmp)(v:AV):(ik j d v).length=j.length:=by cases d<;>simp[ik]
theorem Gt{ops:Array Oper}{base:Nat}{call:FuncId->List AV->af->Option (AV×af)}:∀(l:List Nat) (u:List AV) (H:af) (j:List AV) (H':af),nC P F call ops base l u H=some (j,H')->j.length=u.length
 |[],u,H,j,H',h=>by cases h;rfl
 | i::l,u,H,j,H',h=>by
  unfold nC at h;split at h
  .rename_i B D hs;rw[Gt l _ _ _ _ h];unfold kZ at hs
   repeat' (first|(cases hs;exact J2 _ _ _)|(cases hs;done)|split at hs)
  .cases h
theorem wh{ops:Array Oper}{base:Nat}{before:List Nat}{call:FuncId->List AV->af->Option (AV×af)}:∀(l:List Nat) (D:List AV) (H:af) (E:List rX) (j:List AV) (H':af) (B:List rX),fK P F call ops base before l D H E=some (j,H',B)->j.length=D.length
 |[],D,H,E,j,H',B,h=>by cases h;rfl
 | i::l,D,H,E,j,H',B,h=>by
  have key:∀{mask:Nat} {u:List AV} {G:af} {r:Option rX},bZ P F call ops base i mask D H=some (u,G,r)->u.length=D.length:=λ{mask u G r} hs=>by
   unfold bZ at hs
   repeat' (first|(cases hs;exact J2 _ _ _)|(cases hs;done)|split at hs)
  unfold fK at h;split at h
  .rename_i hs;rw[wh l _ _ _ _ _ _ h,key hs]
  .rename_i hs;split at h
   .rw[wh l _ _ _ _ _ _ h,key hs]
   .cases h
  .cases h
theorem c7.region'{ops:Array Oper}{id:Nat}{B:List AV}{L:SH}{K:W.Kn}(fit:Fit P F)(h:W.sq P F ops (List.range ops.size) B L K):c7 P (.region id ops false) B L λe j L'=>e=.normal/\j.length=B.length/\K j L':=λH hb hs=>by
 obtain⟨call,j,H',L',G,M,D,u,E⟩:=pA (base:=H.next) (List.range ops.size) B L _ h List.nodup_range {H with next:=H.next+ops.size} (hb.bump _ _ (Xu _ _)) (hs.congr λ_=>rfl)
  (λi hi=>⟨Nat.add_lt_add_left (XR.1 hi) _,hb _ (Xu _ _)⟩) (Xu _ _)
 have hr:eM P F call ops false B H=some (j,H'):=by simp only[eM,W7,if_false];exact D
 exact⟨.normal,j,H',L',iq fit G hr,⟨W5 (Xu _ _) u.next,u.bd,u.sub,u.keep,u.dom,u.fresh⟩,rfl,Gt _ _ _ _ _ D,E⟩
theorem c7.draw'{ops:Array Oper}{id:Nat}{D:List AV}{L:SH}{K:W.Kn}(fit:Fit P F)(M:nJ ops)(O:uu ops)(h:W.dr P F ops (cz ops.toList []) (List.range' 0 ops.size) D L [] K):c7 P (.region id ops true) D L λe u L'=>e=.normal/\u.length=D.length/\K u L':=λH hb hs=>by
 obtain⟨call,u,H',L',E,k1,Z,S,B,Y⟩:=uy (base:=H.next) ops.size 0 D L [] _ h {H with next:=H.next+ops.size} [] (hb.bump _ _ (Xu _ _)) (hs.congr λ_=>rfl)
  (λi _ hi=>⟨by show H.next+i<H.next+ops.size;omega,hb _ (Xu _ _)⟩) (by show H.next+0<=H.next+ops.size;omega) YF (λj hj=>by omega)
 have hr:eM P F call ops true D H=some (u,{H' with log:=E.flatMap (·.writes)++H'.log}):=by simp only[eM,if_true];rw[List.range_eq_range',S]
 obtain⟨n1,n2⟩:=z7 fit k1 Z M O hr;exact⟨.normal,u,_,L',⟨n1,λw σ a hW G Q hQ=>n2 id w σ a hW G Q hQ⟩,⟨W5 (Xu _ _) B.next,B.bd,B.sub.congr λ_=>rfl,B.keep,B.dom,B.fresh⟩,rfl,wh _ _ _ _ _ _ _ S,Y⟩
def Ug(n:Nat)(kn:W.Kn)(kx:Nat->W.Kn)(kr:W.Kn)(e:Ex)(τ:List AV)(L:SH):Prop:=τ.length=n/\match e with
 |.normal=>kn τ L
 |.exit id=>kx id τ L
 |.ret=>kr τ L
theorem fh(fit:Fit P F):∀(c:Code) (u:List AV) (L:SH) (M:W.Kn) (G:Nat->W.Kn) (D:W.Kn),W.code P F ht c u L M G D->c7 P c u L (Ug u.length M G D)
 |.skip,u,L,M,G,D,h=>.skip ⟨rfl,h⟩
 |.label l,u,L,M,G,D,h=>.label ⟨rfl,h⟩
 |.exit id,u,L,M,G,D,h=>.exit ⟨rfl,h⟩
 |.ret,u,L,M,G,D,h=>.ret ⟨rfl,h⟩
 | .region id ops draw,u,L,M,G,D,h=>by
  simp only[W.code]at h;have fin:c7 P (.region id ops draw) u L (λe j L'=>e=.normal/\j.length=u.length/\M j L')->c7 P (.region id ops draw) u L (Ug u.length M G D):=λh=>h.mono λe j L' ⟨E,B,h3⟩=>by subst E;exact⟨B,h3⟩
  cases draw with
  |false=>exact fin (.frzs _ (.region' fit h))
  |true=>simp only[if_true,WZ]at h;have hm:=h.2;rw[<-eq_of_beq h.1.2]at hm;exact fin (.frzs _ (.draw' fit (Gm h.1.1.1) (DB h.1.1.2) hm))
 | .seq a b,u,L,M,G,D,h=>by
  simp only[W.code]at h;split at h
  .refine c7.seq ((fh fit a u L _ G D h).mono λe j L' ⟨E,B⟩=>?_);cases e with
   |normal=>simp only;rw[<-E];exact fh fit b j L' M G D B
   |exit id=>exact⟨E,B⟩
   |ret=>exact⟨E,B⟩
  .rename_i live _;have hB:=h.h;refine c7.seq ((fh fit a u L _ G D hB).mono λe j L' ⟨E,B⟩=>?_);cases e with
   |normal=>
    have Z:=fh fit b _ L' M G D B;have O:(iT u.length live (nL live j)).length=u.length:=by simp[iT]
    rw[O]at Z;have Y:=Ag live j;rw[E]at Y;exact c7.dim Y Z
   |exit id=>exact⟨E,B⟩
   |ret=>exact⟨E,B⟩
 | .cond x a b,u,L,M,G,D,h=>by
  rcases h.h with⟨E,B⟩|⟨E,B⟩
  .exact c7.cond (t:=true) E (fh fit a u L M G D B)
  .exact c7.cond (t:=false) E (fh fit b u L M G D B)
 | .block id b,u,L,M,G,D,h=>by
  refine c7.block ((fh fit b u L _ _ D h).mono λe j L' ⟨E,B⟩=>?_);cases e with
  |normal=>exact⟨E,B⟩
  |ret=>exact⟨E,B⟩
  |exit id'=>
   simp only[Ex.leave];simp only at B;by_cases S:id'=id
   .rw[if_pos S]at B ⊢;exact⟨E,B⟩
   .rw[if_neg S]at B ⊢;exact⟨E,B⟩
 | .loop b,u,L,M,G,D,h=>by
  simp only[W.code]at h;split at h
  .exact h.elim
  .rename_i r _;obtain⟨I,⟨n,vs0,L0,hz0,h0⟩,hB⟩:=h.h;refine c7.loop (λm j L'=>j.length=u.length/\∃vs2 L2,aE (nL (ht.loop r) j) L' vs2 L2/\I m vs2 L2) (λm j L' ⟨E,vs2,L2,hz,B⟩=>?_) n ⟨rfl,vs0,L0,hz0,h0⟩;have h4:=fh fit b _ L2 _ G D (hB m vs2 L2 B);have O:(iT u.length (ht.loop r) vs2).length=u.length:=by simp[iT]
   rw[O]at h4;have Z:=c7.fz (K4 (n:=u.length) (live:=ht.loop r) hz) h4;have Y:=Ag (ht.loop r) j;rw[E]at Y;refine(c7.dim Y Z).mono λe τ1 L1 ⟨g1,g2⟩=>?_
   cases e with
   |normal=>obtain⟨m',vs3,L3,k1,k2,k3⟩:=g2;exact⟨m',k1,g1,vs3,L3,k2,k3⟩
   |exit id=>exact⟨g1,g2⟩
   |ret=>exact⟨g1,g2⟩
 |.rangeFunc ..,_,_,_,_,_,h=>h.elim
 |.scope _,_,_,_,_,_,h=>h.elim
 |.goto _,_,_,_,_,_,h=>h.elim
 |.refuse _,_,_,_,_,_,h=>h.elim
theorem IF{u:List AV}{L:SH}{H:af}{Q:AV->SH->Prop}(hs:lV L H):∀(j:List ResultVar) (vs:List AV),W.res P j u L vs Q->∃us,ee (j.map (k9 P u H))=some us/\Q (W.pack (vs.reverse++us)) L
 |[],vs,h=>⟨[],rfl,by simpa[W.res]using h⟩
 | .tmp t::j,vs,h=>by obtain⟨us,D,h2⟩:=IF hs j _ h;refine⟨u.getD t ca::us,?_,by simpa using h2⟩;simp only[WS,k9,ee,D]
 | .cell a t::j,vs,h=>by
  simp only[W.res]at h;split at h
  .rename_i ag n B hn;obtain⟨v,G,E⟩:=JY hs B hn h.h;obtain⟨us,D,h2⟩:=IF hs j _ E;refine⟨v::us,?_,by simpa using h2⟩;simp only[WS,k9,G,ee,D]
  .exact h.elim
theorem IG(fit:Fit P F){f:FuncId}{fn:Func}{c:Code}{args:List AV}{L:SH}{Q:AV->SH->Prop}(hf:P.funcs[f]? =some fn)(hb:fn.body=some c)(h:W.func P F ht fn c args L Q):ac P f args L Q:=by
 refine⟨⟨fn,c,hf,hb⟩,λH hB hs=>?_⟩;obtain⟨e,G,H',L',k1,Z,k3,S⟩:=fh fit c _ L _ _ _ h H hB hs;have O:(e=.normal\/e=.ret)/\W.res P fn.results.toList G L' [] Q:=by
  cases e with
  |normal=>exact⟨.inl rfl,S⟩
  |ret=>exact⟨.inr rfl,S⟩
  |exit id=>exact S.elim
 obtain⟨he,hr⟩:=O;obtain⟨us,r1,r2⟩:=IF Z.sub _ _ hr;have hv:mh P G H' fn.results.toList=some (W.pack us):=by
  unfold mh;rw[r1]
  match us with
  |[]=>rfl
  |[v]=>rfl
  |v::u::l=>rfl
 simp only[List.reverse_nil,XM]at r2;refine⟨_,H',L',λw σ vs hW B=>?_,Z,r2⟩;refine calls_of_wp hf hb (k1.2 w σ _ hW ⟨⟨by simp[B.1],λi x u E D=>?_⟩,rfl⟩ _ λa' w' Y=>?_)
 .simp only[Array.toList_append,Array.toList_replicate]at D;rcases Fn i args.length with hi|hi
  .rw[WW hi]at E;rw[WW (by rw[<-B.1];exact hi)]at D;exact B.2 i x u E D
  .rw[WQ hi,X6]at E;rw[WQ (by rw[<-B.1];exact hi),X6]at D;split at E
   .split at D
    .cases E;cases D;exact mn
    .cases D
   .cases E
 .obtain⟨σ',t1,g1,e1,m1⟩:=Y;obtain⟨M,q1,q2⟩:=r8 (P:=P) g1 t1 hv;have j:a'.defers=[]/\∃v,(results fn a'.tmps).run P w'=.ok v w'/\∃M σ',Ending.returned v=.returned M/\bN w' σ' (bB σ' H') _ M/\bQ w' σ' H'/\fR w σ (bB σ H) w' σ' (bB σ' H')/\∀c pl,σ' c=some pl->σ c=some pl\/H.next<=c:=
   ⟨t1.2,M,q1,M,σ',rfl,q2,g1,e1,m1⟩
  rcases he with rfl|rfl
  .exact j
  .exact j
end
end
def IH(P:Program)(t:TypeId):Option (List TypeId):=match P.underlying t with
 | some (.struct fs) => if (!P.stoodInHeld t && !P.eqGuardType P.depth t && fs.toList.zipIdx.all fun p => p.1.offset == p.2 && p.1.name != "_" && (match ff P p.1.type with | some false => true | _ => false)) = true then some (fs.toList.map (·.type)) else none
 |_=>none
def K5{P:Program}{t:TypeId}{ts:List TypeId}(h:IH P t=some ts):Mp P t ts:=by
 unfold IH at h;split at h
 .rename_i G B;split at h
  .rename_i j;cases h;simp only[WZ,Yj,W2]at j;have u:P.fieldsOf t=G:=by simp[Program.fieldsOf,B]
   refine⟨by rw[u];exact B,j.1.1,j.1.2,by rw[u],λi f D=>?_⟩;rw[u]at D;have:=j.2 (f,i) (by rw[List.mem_iff_getElem?];exact⟨i,by rw[List.getElem?_zipIdx,D];simp⟩);simp only[beq_iff_eq,bne_iff_ne]at this;refine⟨this.1.2,this.1.1,?_⟩;have E:=this.2;split at E
   .assumption
   .cases E
  .cases h
 .cases h
noncomputable def Fl:TypeId->Option (List TypeId):=IH Tryz.prog
def Ai:Tryz.prog.funcs.toList.all Gn=true:=by kernel_rfl
def fit:Fit Tryz.prog Fl:=⟨λt j h=>K5 h,(QT Ai).1,by kernel_rfl⟩
section
section
variable {P:Program} {F:TypeId->Option (List TypeId)} {K:AV->Prop} {KL:AV->SH->Prop} {L:SH}
theorem dW(v:AV):W0.opt (some v) K=K v:=propext ⟨λ⟨u,B,j⟩=>by cases B;exact j,λh=>⟨v,rfl,h⟩⟩
theorem Gu:W0.opt none K=False:=propext ⟨λ⟨u,j,B⟩=>(by cases j),λh=>h.elim⟩
theorem RQ(x y:AV):W.pick (.bool true) x y K=K x:=propext ⟨λ⟨t,u,j⟩=>by cases u;exact j,λh=>⟨true,rfl,h⟩⟩
theorem RS(x y:AV):W.pick (.bool false) x y K=K y:=propext ⟨λ⟨t,u,j⟩=>by cases u;exact j,λh=>⟨false,rfl,h⟩⟩
theorem Uh(p:Bool)(A:(AV->SH->Prop)->Prop):W.grd (.bool p) true A L KL=((p=true->A KL)/\(p=false->KL ca L)):=propext ⟨λ⟨h⟩=>by
  rcases h with⟨j,u⟩|⟨j|j,u⟩
  .cases j;exact⟨λ_=>u,λh=>(by cases h)⟩
  .cases j;exact⟨λh=>(by cases h),λ_=>u⟩
  ·(cases j),λ⟨j,u⟩=>by
  cases p with
  |true=>exact⟨.inl ⟨rfl,j rfl⟩⟩
  |false=>exact⟨.inr ⟨.inl rfl,u rfl⟩⟩⟩
theorem Ui(p:Bool)(A:(AV->SH->Prop)->Prop):W.grd (.bool p) false A L KL=((p=false->A KL)/\(p=true->KL ca L)):=propext ⟨λ⟨h⟩=>by
  rcases h with⟨j,u⟩|⟨j|j,u⟩
  .cases j;exact⟨λ_=>u,λh=>(by cases h)⟩
  .cases j;exact⟨λh=>(by cases h),λ_=>u⟩
  ·(cases j),λ⟨j,u⟩=>by
  cases p with
  |false=>exact⟨.inl ⟨rfl,j rfl⟩⟩
  |true=>exact⟨.inr ⟨.inl rfl,u rfl⟩⟩⟩
theorem RU{B:AV->SH->W.Fp->Prop}(p:Bool)(A:(AV->SH->W.Fp->Prop)->Prop):W.dgrd (.bool p) true A L B=((p=true->A B)/\(p=false->B ca L ⟨[],[],[],L.names⟩)):=propext ⟨λ⟨h⟩=>by
  rcases h with⟨j,u⟩|⟨j|j,u⟩
  .cases j;exact⟨λ_=>u,λh=>(by cases h)⟩
  .cases j;exact⟨λh=>(by cases h),λ_=>u⟩
  ·(cases j),λ⟨j,u⟩=>by
  cases p with
  |true=>exact⟨.inl ⟨rfl,j rfl⟩⟩
  |false=>exact⟨.inr ⟨.inl rfl,u rfl⟩⟩⟩
theorem RV{B:AV->SH->W.Fp->Prop}(p:Bool)(A:(AV->SH->W.Fp->Prop)->Prop):W.dgrd (.bool p) false A L B=((p=false->A B)/\(p=true->B ca L ⟨[],[],[],L.names⟩)):=propext ⟨λ⟨h⟩=>by
  rcases h with⟨j,u⟩|⟨j|j,u⟩
  .cases j;exact⟨λ_=>u,λh=>(by cases h)⟩
  .cases j;exact⟨λh=>(by cases h),λ_=>u⟩
  ·(cases j),λ⟨j,u⟩=>by
  cases p with
  |false=>exact⟨.inl ⟨rfl,j rfl⟩⟩
  |true=>exact⟨.inr ⟨.inl rfl,u rfl⟩⟩⟩
theorem RW(p:Bool)(A B:Prop):W.cond (.bool p) A B=((p=true->A)/\(p=false->B)):=propext ⟨λ⟨h⟩=>by
  rcases h with⟨u,j⟩|⟨u,j⟩
  .cases u;exact⟨λ_=>j,λh=>(by cases h)⟩
  .cases u;exact⟨λh=>(by cases h),λ_=>j⟩,λ⟨u,j⟩=>by
  cases p with
  |true=>exact⟨.inl ⟨rfl,u rfl⟩⟩
  |false=>exact⟨.inr ⟨rfl,j rfl⟩⟩⟩
theorem fX(op:BinOp)(t:TypeId)(x y:AV):W.bin P F op t x y K=W0.opt (iO P F op t x y) K:=propext ⟨λh=>h.h,λh=>⟨h⟩⟩
theorem Uj(t:TypeId)(k:IntKind)(a b:Int):W.bin P F .lss t (.int k a) (.int k b) K=K (.bool (decide (a<b))):=by rw[fX];simp[iO,dW]
theorem Uk(t:TypeId)(k:IntKind)(a b:Int):W.bin P F .leq t (.int k a) (.int k b) K=K (.bool (decide (a<=b))):=by rw[fX];simp[iO,dW]
theorem Ul(t:TypeId)(k:IntKind)(a b:Int):W.bin P F .gtr t (.int k a) (.int k b) K=K (.bool (decide (b<a))):=by rw[fX];simp[iO,dW]
theorem Um(t:TypeId)(k:IntKind)(a b:Int):W.bin P F .geq t (.int k a) (.int k b) K=K (.bool (decide (b<=a))):=by rw[fX];simp[iO,dW]
theorem Un(t:TypeId)(k:IntKind)(a b:Int):W.bin P F .eql t (.int k a) (.int k b) K=K (.bool (decide (a=b))):=by rw[fX];simp only[iO,ne_eq,not_true_eq_false,if_false,dW];rw[show(a==b)=decide (a=b)from by cases h:(a==b)<;>simp_all]
theorem Uo(t:TypeId)(k:IntKind)(a b:Int):W.bin P F .neq t (.int k a) (.int k b) K=K (.bool (decide (a≠b))):=by rw[fX];simp only[iO,ne_eq,not_true_eq_false,if_false,dW];rw[show(a != b)=decide (¬a=b)from by cases h:(a != b)<;>simp_all]
theorem Up(t:TypeId)(k:IntKind)(a b:Int):W.bin P F .add t (.int k a) (.int k b) K=K (.int k (k.wrap (a+b))):=by rw[fX];simp[iO,dW]
theorem Uq(t:TypeId)(k:IntKind)(a b:Int):W.bin P F .sub t (.int k a) (.int k b) K=K (.int k (k.wrap (a-b))):=by rw[fX];simp[iO,dW]
theorem Ur(t:TypeId)(k:IntKind)(a b:Int):W.bin P F .mul t (.int k a) (.int k b) K=K (.int k (k.wrap (a*b))):=by rw[fX];simp[iO,dW]
theorem Us(t:TypeId)(k:IntKind)(a b:Int):W.bin P F .quo t (.int k a) (.int k b) K=(b≠0/\K (.int k (k.wrap (a.tdiv b)))):=by rw[fX];by_cases h:b=0<;>simp[iO,dW,Gu,h]
theorem Ut(t:TypeId)(k:IntKind)(a b:Int):W.bin P F .rem t (.int k a) (.int k b) K=(b≠0/\K (.int k (a.tmod b))):=by rw[fX];by_cases h:b=0<;>simp[iO,dW,Gu,h]
theorem Uu(t:TypeId)(a b:List UInt8):W.bin P F .eql t (.str a) (.str b) K=K (.bool (decide (a=b))):=by rw[fX];simp only[iO,dW];rw[show(a==b)=decide (a=b)from by cases h:(a==b)<;>simp_all]
theorem Uv(t:TypeId)(a b:List UInt8):W.bin P F .neq t (.str a) (.str b) K=K (.bool (decide (a≠b))):=by rw[fX];simp only[iO,dW];rw[show(!(a==b))=decide (a≠b)from by cases h:(a==b)<;>simp_all]
theorem Uw(t:TypeId)(h:P.underlying t=some .bool)(a b:Bool):W.bin P F .eql t (.bool a) (.bool b) K=K (.bool (a==b)):=by rw[fX];simp[iO,sZ,h,dW]
theorem Ux(t:TypeId)(h:P.underlying t=some .bool)(a b:Bool):W.bin P F .neq t (.bool a) (.bool b) K=K (.bool (!(a==b))):=by rw[fX];simp[iO,sZ,h,dW]
theorem RX(b:Bool):W.un .not (.bool b) K=K (.bool !b):=propext ⟨λ⟨v,u,j⟩=>by cases u;exact j,λh=>⟨_,rfl,h⟩⟩
theorem RY(k:IntKind)(n:Int):W.un .neg (.int k n) K=K (.int k (k.wrap (0-n))):=propext ⟨λ⟨v,u,j⟩=>by cases u;exact j,λh=>⟨_,rfl,h⟩⟩
theorem R0(k j:IntKind)(n:Int):W.conv k (.int j n) K=K (.int k (k.wrap n)):=propext ⟨λ⟨D,m,B,u⟩=>by cases B;exact u,λh=>⟨_,_,rfl,h⟩⟩
theorem MC(k:IntKind)(a c:Int):W.mnx true (.int k a) (.int k c) K=K (.int k (if c > a then c else a)):=propext ⟨λ⟨D,G,E,B,u,j⟩=>by cases B;cases u;exact j,λh=>⟨_,_,_,rfl,rfl,h⟩⟩
theorem Pr(g:FuncId)(cs args:List AV):W.call P (.fn g cs) args L KL=ac P g (args++cs) L KL:=propext ⟨λh=>h.h,λh=>⟨h⟩⟩
theorem MD{u:AV->SH->List Nat->Prop}(us:List W.WR)(i:Nat)(g:FuncId)(cs args:List AV):W.dcall P us i (.fn g cs) args L u=∃j R:SH,L.Perm (j++R)/\(∀x∈us,W.free x ⟨i,[],j.names,[],true,[]⟩)/\ac P g (args++cs) j λv B=>u v (B++R) j.names:=propext ⟨λh=>h.h,λh=>⟨h⟩⟩
theorem Ps{j:W.Fp->Prop}(r:W.Fp):W.note r j=j r:=propext ⟨λh=>h.h r rfl,λh=>⟨λu e=>e▸h⟩⟩
def ao(P:Program)(f:FuncId)(args:List AV)(v:AV):Prop:=ac P f args [] λu K=>u=v/\K=[]
theorem ao.call{f:FuncId}{args:List AV}{v:AV}(h:ao P f args v)(j:KL v L):ac P f args L KL:=
 ac.frame h (K:=[]) (R:=L) (.refl _) λu K ⟨D,B⟩=>by subst D;subst B;exact j
theorem Pt{α:Type}(S:α->List AV×SH)(m:α->Nat)(G:α->Prop){B:List AV->SH->W.Kn->Prop}{vs:List AV}(O:α)(h0:G O)(hv:vs=(S O).1)(hL:L=(S O).2)
  (h:∀a,G a->B (S a).1 (S a).2 λu E=>∃j,G j/\m j<m a/\aE u E (S j).1 (S j).2):W.loop B vs L:=by
 refine⟨λn vs L=>∃a,G a/\m a=n/\vs=(S a).1/\L=(S a).2,⟨m O,_,_,.refl _ _,O,h0,rfl,hv,hL⟩,?_⟩;rintro n vs L ⟨a,ha,rfl,rfl,rfl⟩;have e:(λu E=>∃j,G j/\m j<m a/\aE u E (S j).1 (S j).2)=(λu E=>∃M D L2,M<m a/\aE u E D L2/\∃a,G a/\m a=M/\D=(S a).1/\L2=(S a).2):=by
  funext u E;apply propext;constructor
  .rintro⟨j,g1,Z,Y⟩;exact⟨m j,_,_,Z,Y,j,g1,rfl,rfl,rfl⟩
  .rintro⟨n,D,L2,g1,Z,j,Y,rfl,rfl,rfl⟩;exact⟨j,Y,g1,Z⟩
 rw[<-e];exact h a ha
end
end
section
section
variable {P:Program} {F:TypeId->Option (List TypeId)} {K:AV->Prop} {KL:AV->SH->Prop} {L:SH}
theorem ME{p:Bool}{x y:AV}(hp:p=true)(h:K x):W.pick (.bool p) x y K:=by subst hp;rw[RQ];exact h
theorem MF{p:Bool}{x y:AV}(hp:p=false)(h:K y):W.pick (.bool p) x y K:=by subst hp;rw[RS];exact h
theorem Pu{p j:Bool}{A:(AV->SH->Prop)->Prop}(hp:p=j)(h:A KL):W.grd (.bool p) j A L KL:=⟨.inl ⟨by rw[hp],h⟩⟩
theorem Pv{p j:Bool}{A:(AV->SH->Prop)->Prop}(hp:p=!j)(h:KL ca L):W.grd (.bool p) j A L KL:=⟨.inr ⟨.inl (by rw[hp]),h⟩⟩
theorem Es{j:Bool}{A:(AV->SH->Prop)->Prop}(h:KL ca L):W.grd ca j A L KL:=⟨.inr ⟨.inr rfl,h⟩⟩
theorem Et{p:Bool}{A:(AV->SH->Prop)->Prop}(j:p=true->A KL)(h2:p=false->KL ca L):W.grd (.bool p) true A L KL:=by rw[Uh];exact⟨j,h2⟩
theorem Eu{p:Bool}{A:(AV->SH->Prop)->Prop}(j:p=false->A KL)(h2:p=true->KL ca L):W.grd (.bool p) false A L KL:=by rw[Ui];exact⟨j,h2⟩
theorem MG{u:AV->SH->W.Fp->Prop}{p j:Bool}{A:(AV->SH->W.Fp->Prop)->Prop}(hp:p=j)(h:A u):W.dgrd (.bool p) j A L u:=⟨.inl ⟨by rw[hp],h⟩⟩
theorem MH{u:AV->SH->W.Fp->Prop}{p j:Bool}{A:(AV->SH->W.Fp->Prop)->Prop}(hp:p=!j)(h:u ca L ⟨[],[],[],L.names⟩):W.dgrd (.bool p) j A L u:=⟨.inr ⟨.inl (by rw[hp]),h⟩⟩
theorem MI{u:AV->SH->W.Fp->Prop}{j:Bool}{A:(AV->SH->W.Fp->Prop)->Prop}(h:u ca L ⟨[],[],[],L.names⟩):W.dgrd ca j A L u:=⟨.inr ⟨.inr rfl,h⟩⟩
theorem MJ{j:AV->SH->W.Fp->Prop}{p:Bool}{A:(AV->SH->W.Fp->Prop)->Prop}(u:p=true->A j)(h2:p=false->j ca L ⟨[],[],[],L.names⟩):W.dgrd (.bool p) true A L j:=by rw[RU];exact⟨u,h2⟩
theorem MK{j:AV->SH->W.Fp->Prop}{p:Bool}{A:(AV->SH->W.Fp->Prop)->Prop}(u:p=false->A j)(h2:p=true->j ca L ⟨[],[],[],L.names⟩):W.dgrd (.bool p) false A L j:=by rw[RV];exact⟨u,h2⟩
theorem ML{p:Bool}{A B:Prop}(hp:p=true)(h:A):W.cond (.bool p) A B:=⟨.inl ⟨by rw[hp],h⟩⟩
theorem Gv{p:Bool}{A B:Prop}(hp:p=false)(h:B):W.cond (.bool p) A B:=⟨.inr ⟨by rw[hp],h⟩⟩
theorem MM{p:Bool}{A B:Prop}(j:p=true->A)(h2:p=false->B):W.cond (.bool p) A B:=by rw[RW];exact⟨j,h2⟩
theorem MN{t:TypeId}{k:IntKind}{a b:Int}(h:K (.bool (decide (a<b)))):W.bin P F .lss t (.int k a) (.int k b) K:=by rw[Uj];exact h
theorem QU{t:TypeId}{k:IntKind}{a b:Int}(h:K (.bool (decide (a<=b)))):W.bin P F .leq t (.int k a) (.int k b) K:=by rw[Uk];exact h
theorem QV{t:TypeId}{k:IntKind}{a b:Int}(h:K (.bool (decide (b<a)))):W.bin P F .gtr t (.int k a) (.int k b) K:=by rw[Ul];exact h
theorem QW{t:TypeId}{k:IntKind}{a b:Int}(h:K (.bool (decide (b<=a)))):W.bin P F .geq t (.int k a) (.int k b) K:=by rw[Um];exact h
theorem QX{t:TypeId}{k:IntKind}{a b:Int}(h:K (.bool (decide (a=b)))):W.bin P F .eql t (.int k a) (.int k b) K:=by rw[Un];exact h
theorem QY{t:TypeId}{k:IntKind}{a b:Int}(h:K (.bool (decide (a≠b)))):W.bin P F .neq t (.int k a) (.int k b) K:=by rw[Uo];exact h
theorem MO{t:TypeId}{k:IntKind}{a b:Int}(h:K (.int k (k.wrap (a+b)))):W.bin P F .add t (.int k a) (.int k b) K:=by rw[Up];exact h
theorem MP{t:TypeId}{k:IntKind}{a b:Int}(h:K (.int k (k.wrap (a-b)))):W.bin P F .sub t (.int k a) (.int k b) K:=by rw[Uq];exact h
theorem QZ{t:TypeId}{k:IntKind}{a b:Int}(h:K (.int k (k.wrap (a*b)))):W.bin P F .mul t (.int k a) (.int k b) K:=by rw[Ur];exact h
theorem Uy{t:TypeId}{k:IntKind}{a b:Int}(j:b≠0)(h:K (.int k (k.wrap (a.tdiv b)))):W.bin P F .quo t (.int k a) (.int k b) K:=by rw[Us];exact⟨j,h⟩
theorem Gw{t:TypeId}{k:IntKind}{a b:Int}(j:b≠0)(h:K (.int k (a.tmod b))):W.bin P F .rem t (.int k a) (.int k b) K:=by rw[Ut];exact⟨j,h⟩
theorem Q0{t:TypeId}{a b:List UInt8}(h:K (.bool (decide (a=b)))):W.bin P F .eql t (.str a) (.str b) K:=by rw[Uu];exact h
theorem Q3{t:TypeId}{a b:List UInt8}(h:K (.bool (decide (a≠b)))):W.bin P F .neq t (.str a) (.str b) K:=by rw[Uv];exact h
theorem Uz{b:Bool}(h:K (.bool !b)):W.un .not (.bool b) K:=by rw[RX];exact h
theorem UA{k:IntKind}{n:Int}(h:K (.int k (k.wrap (0-n)))):W.un .neg (.int k n) K:=by rw[RY];exact h
theorem R3{k j:IntKind}{n:Int}(h:K (.int k (k.wrap n))):W.conv k (.int j n) K:=by rw[R0];exact h
theorem wi{j b i o:Nat}(h:K (.ptr b i (o+j))):W.faddr j (.ptr b i o) K:=⟨h⟩
theorem wj{j:Nat}{rows:List (List AV)}{i o:Nat}(h:K (.pptr rows i (o+j))):W.faddr j (.pptr rows i o) K:=⟨h⟩
theorem Aj{n:Nat}{rows:List (List AV)}{i j:Nat}{r:List AV}{v:AV}(u:rows[i]? =some r)(h2:r[j]? =some v)(h:K v):W.load false n (.pptr rows i j) L K:=⟨r,v,u,h2,h⟩
theorem Ak{n b i j:Nat}{x:Blk}{r:List AV}{v:AV}(u:(b,x)∈L)(B:x.rows[i]? =some r)(h2:r[j]? =some v)(h:K v):W.load false n (.ptr b i j) L K:=⟨x,r,v,u,B,h2,h⟩
theorem Pw{n:Nat}{rows:List (List AV)}{i:Nat}{r:List AV}(j:rows[i]? =some r)(h2:r.length=n)(h:K (.agg r)):W.load true n (.pptr rows i 0) L K:=
 ⟨r,.agg r,j,by simp[W0.rowLd,<-h2],h⟩
theorem Px{n b i:Nat}{x:Blk}{r:List AV}(j:(b,x)∈L)(u:x.rows[i]? =some r)(h2:r.length=n)(h:K (.agg r)):W.load true n (.ptr b i 0) L K:=
 ⟨x,r,.agg r,j,u,by simp[W0.rowLd,<-h2],h⟩
theorem MQ{n:Nat}{rows:List (List AV)}{i j:Nat}{r cs:List AV}(B:rows[i]? =some r)(h2:j+n<=r.length)(u:(r.drop j).take n=cs)(h:K (.agg cs)):W.load true n (.pptr rows i j) L K:=
 ⟨r,.agg cs,B,by simp[W0.rowLd,h2,u],h⟩
theorem MR{n b i j:Nat}{x:Blk}{r cs:List AV}(u:(b,x)∈L)(D:x.rows[i]? =some r)(h2:j+n<=r.length)(B:(r.drop j).take n=cs)(h:K (.agg cs)):W.load true n (.ptr b i j) L K:=
 ⟨x,r,.agg cs,u,D,by simp[W0.rowLd,h2,B],h⟩
theorem bI{u:SH->Prop}{n b:Nat}{v:AV}{m:Nat}{r cs:List AV}{j:SH}(B:zt b ⟨m,[r]⟩ ⟨m,[cs]⟩ L j)(h2:v.cells? =some cs)(D:cs.length=n)(h4:cs.all AV.one=true)(E:r.length=n)(h:u j):W.store n (.ptr b 0 0) v L u:=
 ⟨⟨m,[r]⟩,r,cs,j,rfl,h2,D,h4,YC,by
  have:bL r 0 cs=cs:=by unfold bL;rw[List.take_zero,XM,Yn YC,Xr]
  rw[this];exact B,h⟩
theorem Ev(r:List AV)(j:Nat)(v:AV)(h:j<r.length):bL r j [v]=r.set j v:=by unfold bL;rw[List.set_eq_take_append_cons_drop,if_pos h];simp
theorem xR{B:SH->Prop}{b i j:Nat}{v:AV}{x x':Blk}{r:List AV}{u:SH}(D:zt b x x' L u)(M:x.rows[i]? =some r)(h2:v.cells? =some [v])(h4:v.one=true)(G:j<r.length)(E:x'=⟨x.size,x.rows.set i (r.set j v)⟩)(h:B u):W.store 1 (.ptr b i j) v L B:=
 ⟨x,r,[v],u,M,h2,rfl,by simp[h4],YC,by rw[Ev r j v G,<-E];exact D,h⟩
theorem Gx{u:SH->Prop}{n b i:Nat}{v:AV}{x x':Blk}{r cs:List AV}{j:SH}(B:zt b x x' L j)(G:x.rows[i]? =some r)(h2:v.cells? =some cs)(E:cs.length=n)(h4:cs.all AV.one=true)(M:r.length=n)(D:x'=⟨x.size,x.rows.set i cs⟩)(h:u j):W.store n (.ptr b i 0) v L u:=
 ⟨x,r,cs,j,G,h2,E,h4,YC,by
  have:bL r 0 cs=cs:=by unfold bL;rw[List.take_zero,XM,Yn YC,Xr]
  rw[this,<-D];exact B,h⟩
theorem Py{n:Nat}{rows:List (List AV)}{k:IntKind}{j:Nat}{r:List AV}(u:rows[j]? =some r)(h2:r.length=n)(h:K (.pptr rows j 0)):W.idx n (.lst rows) (.int k (j:Int)) L K:=
 ⟨k,j,r,rfl,Yq _,by simpa using u,h2,by simpa using h⟩
theorem J3{n:Nat}{rows:List (List AV)}{k:IntKind}{i:Int}{r:List AV}(u:0<=i)(j:rows[i.toNat]? =some r)(h2:r.length=n)(h:K (.pptr rows i.toNat 0)):W.idx n (.lst rows) (.int k i) L K:=⟨k,i,r,rfl,u,j,h2,h⟩
theorem Ew{n b j m:Nat}{k:IntKind}{i:Int}{y:Blk}(D:0<=i)(B:i.toNat<m)(u:(b,y)∈L)(h2:y.size=n)(h:K (.ptr b (j+i.toNat) 0)):W.idx n (.sl b j m) (.int k i) L K:=⟨k,i,y,rfl,D,B,u,h2,h⟩
theorem MS{n b m:Nat}{k:IntKind}{i:Nat}{y:Blk}(u:i<m)(j:(b,y)∈L)(h2:y.size=n)(h:K (.ptr b i 0)):W.idx n (.sl b 0 m) (.int k (i:Int)) L K:=⟨k,i,y,rfl,Yq _,by simpa using u,j,h2,by simpa using h⟩
theorem Al{len n:Nat}{rows:List (List AV)}{j u:Nat}{k:IntKind}{i:Int}(D:0<=i)(B:i.toNat<len)(h:K (.pptr rows j (u+i.toNat*n))):W.idxP len n (.pptr rows j u) (.int k i) K:=⟨k,i,rfl,D,B,h⟩
theorem UB{j:Bool}{len n:Nat}{cs:List AV}{k:IntKind}{i:Int}{v:AV}(B:0<=i)(u:i.toNat<len)(h2:W0.rowLd j n cs (i.toNat*n)=some v)(h:K v):W.ixA j len n (.agg cs) (.int k i) K:=⟨cs,k,i,v,rfl,rfl,B,u,h2,h⟩
theorem UC{i:Nat}{vs:List AV}{v:AV}(j:vs[i]? =some v)(h:K v):W.ext i (.tup vs) K:=⟨vs,v,rfl,j,h⟩
theorem J4{b i j:Nat}(h:K (.ptr b i j)):W.nilchk (.ptr b i j) K:=⟨h⟩
theorem Pz{z:List AV}{ps:List (Nat×Nat×AV)}{cs:List AV}(j:W0.fillR z ps=some cs)(h:K (.agg cs)):W.build z ps K:=⟨cs,j,h⟩
theorem Ey{cs:List AV}(h:∀b,b∉L.names->KL (.ptr b 0 0) ((b,⟨cs.length,[cs]⟩)::L)):W.alloc cs L KL:=⟨h⟩
theorem An{x:AV}{cs:List AV}(j:x.cells? =some cs)(h2:cs.all AV.one=true)(h:∀b,b∉L.names->KL (.ptr b 0 0) ((b,⟨cs.length,[cs]⟩)::L)):W.box x L KL:=⟨cs,j,h2,h⟩
theorem MT{n:Nat}{z:List AV}{len:Nat}{ps:List (Nat×AV)}{rows:List (List AV)}(j:len*n<=2^24)(h2:fw n (List.replicate len z) ps=some rows)(h:∀b,b∉L.names->KL (.sl b 0 len) ((b,⟨n,rows⟩)::L)):W.bslice n z len ps L KL:=⟨j,rows,h2,h⟩
theorem fY{n by_:Nat}{z:List AV}{k u:IntKind}{i j:Nat}(D:i<=j)(h2:j<=2^62)(B:j*by_<=2^48)(h:∀b,b∉L.names->KL (.sl b 0 i) ((b,⟨n,List.replicate i z⟩)::L)):W.mslice n by_ z (.int k (i:Int)) (.int u (j:Int)) L KL:=⟨k,u,i,j,rfl,rfl,D,h2,B,h⟩
theorem PA{rows:List (List AV)}(h:K (.int .i64 (rows.length:Int))):W.len (.lst rows) K:=⟨_,rfl,h⟩
theorem PB{α:Type}{f:α->List AV}{l:List α}(h:K (.int .i64 (l.length:Int))):W.len (.lst (l.map f)) K:=⟨_,rfl,by rw[Xd];exact h⟩
theorem Ez{b i n:Nat}(h:K (.int .i64 (n:Int))):W.len (.sl b i n) K:=⟨_,rfl,h⟩
theorem R4{s:List UInt8}(h:K (.int .i64 (s.length:Int))):W.lenS (.str s) K:=⟨_,rfl,h⟩
theorem EA{b i j:Nat}{x:Blk}{u:SH}(D:fQ b x L u)(h2:0<x.size)(B:0<x.rows.length)(h:KL (.pptr x.rows i j) u):W.frz1 (.ptr b i j) L KL:=⟨x,u,D,h2,B,h⟩
theorem tg{j:W.Fp->Prop}{r:W.Fp}(h:j r):W.note r j:=by rw[Ps];exact h
theorem EB{us:List W.WR}{y:W.WR}{A:Prop}(j:∀x∈us,W.free x y)(h:A):W.calm us y A:=⟨j,h⟩
theorem V6{A:Prop}(h:A):(true=true)/\A:=⟨rfl,h⟩
theorem R5{J:W.Kn}{B:W.Kn->Prop}(h:B J):W.join J B:=⟨h⟩
theorem lm{n by_ j i k:Nat}{x:AV}{y:Blk}{l m:List (List AV)}{u:SH}(D:(j,y)∈L)(B:y.size=n)(E:i+k<=y.rows.length)(G:(y.rows.drop i).take k=l)(S:W0.rowsR L n x m)
  (h2:2*(l.length+m.length)*by_<=2^48) (O:2*(l.length+m.length)<=2^62) (h4:(m.all λr=>r.all AV.one)=true) (M:fQ j y L u)
  (h:∀b,b∉L.names->KL (.sl b 0 (l.length+m.length)) ((b,⟨n,l++m⟩)::u)):W.append n by_ (.sl j i k) x L KL:=
 ⟨l,m,⟨y,D,B,E,G.symm⟩,S,h2,O,h4,y,u,M,h⟩
theorem EC{n by_:Nat}{x:AV}{m:List (List AV)}(u:W0.rowsR L n x m)(h2:2*m.length*by_<=2^48)(j:2*m.length<=2^62)(h4:(m.all λr=>r.all AV.one)=true)(B:m.length≠0)
  (h:∀b,b∉L.names->KL (.sl b 0 m.length) ((b,⟨n,m⟩)::L)):W.append n by_ .emp x L KL:=
 ⟨[],m,rfl,u,by simpa using h2,by simpa using j,h4,λe=>absurd e B,λ_=>h⟩
theorem ED(h:K (.int .i64 (0:Nat))):W.len .emp K:=⟨_,rfl,h⟩
theorem K6{B:SH->Prop}{n:Nat}{z:List AV}{b i k:Nat}{y u:Blk}{j:SH}(D:zt b y u L j)(G:y.size=n)(h2:i+k<=y.rows.length)(E:u=⟨y.size,y.rows.take i++List.replicate k z++y.rows.drop (i+k)⟩)(h:B j):W.clear n z (.sl b i k) L B:=
 ⟨y,j,G,h2,E▸D,h⟩
theorem wm{n b i m:Nat}{j u:Option AV}{l h:Nat}{y:Blk}(O:cZ j 0=some l)(h2:cZ u m=some h)(E:l<=h)(M:h<=m)(D:(b,y)∈L)(B:y.size=n)(G:K (.sl b (i+l) (h-l))):W.slice n (.sl b i m) j u none L K:=
 ⟨m,l,h,m,rfl,O,h2,rfl,E,M,Fd _,⟨y,D,B⟩,G⟩
theorem qH{n:Nat}{rows:List (List AV)}{j u:Option AV}{l h:Nat}(M:cZ j 0=some l)(h2:cZ u rows.length=some h)(D:l<=h)(G:h<=rows.length)(B:∀r,rows.head? =some r->r.length=n)(E:K (.lst ((rows.drop l).take (h-l)))):W.slice n (.lst rows) j u none L K:=
 ⟨rows.length,l,h,rows.length,rfl,M,h2,rfl,D,G,Fd _,⟨rfl,B⟩,E⟩
theorem qI{α:Type}{f:α->List AV}{l:List α}{n:Nat}(h:∀x,(f x).length=n):W0.rowsR L n (.lst (l.map f)) (l.map f):=⟨rfl,λr j=>by
 cases l with
 |nil=>cases j
 |cons x l=>simp at j;rw[<-j];exact h x⟩
theorem lq{n b k:Nat}{x:Blk}(u:(b,x)∈L)(j:x.size=n)(B:k=x.rows.length):W0.rowsR L n (.sl b 0 k) x.rows:=⟨x,u,j,YC,by simp[B]⟩
end
end
abbrev aO:=List UInt8
structure J5 where
 name:aO
 index:Int
 size:Int
 volatile:Bool
 init:Int
 deriving Inhabited,DecidableEq
structure J6 where
 name:aO
 rw:Bool
 deriving Inhabited,DecidableEq
structure J7 where
 name:aO
 mutex:Int
 deriving Inhabited,DecidableEq
structure J8 where
 thread:Int
 stmt:Int
 line:Int
 deriving Inhabited,DecidableEq
structure MU where
 cells:List J5
 locks:List J6
 conds:List J7
 futures:List aO
 threads:List aO
 sites:List J8
 deriving Inhabited,DecidableEq
structure LockD where
 owner:Int
 readers:List Int
 deriving Inhabited,DecidableEq
structure ThrD where
 status:Int
 cond:Int
 atomic:Bool
 deriving Inhabited,DecidableEq
structure SyncD where
 locks:List LockD
 tx:Int
 done:List Bool
 threads:List ThrD
 deriving Inhabited,DecidableEq
def J5.enc(c:J5):List AV:=[.str c.name,.int .i64 c.index,.int .i64 c.size,.bool c.volatile,.int .i64 c.init]
def J6.enc(c:J6):List AV:=[.str c.name,.bool c.rw]
def J7.enc(c:J7):List AV:=[.str c.name,.int .i64 c.mutex]
def J8.enc(c:J8):List AV:=[.int .i64 c.thread,.int .i64 c.stmt,.int .i64 c.line]
def av(s:aO):List AV:=[.str s]
def ah(n:Int):List AV:=[.int .i64 n]
def aD(b:Bool):List AV:=[.bool b]
def LockD.enc(l:LockD):List AV:=[.int .i64 l.owner,.lst (l.readers.map ah)]
def ThrD.enc(t:ThrD):List AV:=[.int .i64 t.status,.int .i64 t.cond,.bool t.atomic]
def MU.enc(w:MU):List AV:=[.lst (w.cells.map J5.enc),.lst (w.locks.map J6.enc),.lst (w.conds.map J7.enc),.lst (w.futures.map av),.lst (w.threads.map av),.lst (w.sites.map J8.enc)]
def SyncD.enc(s:SyncD):List AV:=[.lst (s.locks.map LockD.enc),.int .i64 s.tx,.lst (s.done.map aD),.lst (s.threads.map ThrD.enc)]
def aq{α β:Type}{f:α->β}{l:List α}{i:Nat}(h:i<l.length):(l.map f)[i]? =some (f l[i]):=by simp[h]
def PC{α β:Type}{f:α->β}{l:List α}{i:Nat}{x:α}(h:l[i]? =some x):(l.map f)[i]? =some (f x):=by simp[h]
def ax{i n:Nat}(h:i<n)(j:n<2^62):IntKind.i64.wrap ((i:Int)+1)=((i+1:Nat):Int):=by rw[WY _ YC];omega
def a8{i n:Nat}(h:i<n):decide ((i:Int)<(n:Int))=true:=by simpa using h
def bq{i n:Nat}(h:n<=i):decide ((i:Int)<(n:Int))=false:=by simpa using h
def dX{vs j:List AV}{L L2:SH}(u:vs=j)(B:L=L2):aE vs L j L2:=by subst u;subst B;exact .refl _ _
def j8(n:Nat)(S:Nat->List AV×SH)(G:Nat->Prop){B:List AV->SH->W.Kn->Prop}{vs:List AV}{L:SH}(h0:G 0)(hv:vs=(S 0).1)(hL:L=(S 0).2)
  (h:∀i,i<=n->G i->B (S i).1 (S i).2 λu E=>∃j,i<j/\j<=n/\G j/\aE u E (S j).1 (S j).2):W.loop B vs L:=by
 refine⟨λk vs L=>∃i,i<=n/\G i/\k=n-i/\vs=(S i).1/\L=(S i).2,⟨n,_,_,.refl _ _,0,Xq _,h0,rfl,hv,hL⟩,?_⟩;rintro k vs L ⟨i,hi,hG,rfl,rfl,rfl⟩;have e:(λu E=>∃m D Z,m<n-i/\aE u E D Z/\∃j,j<=n/\G j/\m=n-j/\D=(S j).1/\Z=(S j).2)=λu E=>∃j,i<j/\j<=n/\G j/\aE u E (S j).1 (S j).2:=by
  funext u E;apply propext;constructor
  .rintro⟨m,D,Z,h1,Y,j,O,M,rfl,rfl,rfl⟩;exact⟨j,YC,O,M,Y⟩
  .rintro⟨j,h1,Y,O,M⟩;exact⟨n-j,_,_,YC,M,j,Y,O,rfl,rfl,rfl⟩
 rw[e];exact h i hi hG
def inB(i:Int)(n:Nat):Bool:=decide (0<=i)&&decide (i<(n:Int))
def aw{i:Int}{n:Nat}:inB i n=true↔0<=i/\i<n:=by simp[inB]
def cT{i:Int}{n:Nat}(h:inB i n=true):0<=i:=(aw.1 h).1
def co{α:Type}[Inhabited α]{f:α->List AV}{l:List α}{i:Int}(h:inB i l.length=true):(l.map f)[i.toNat]? =some (f (l.getD i.toNat default)):=by
 obtain⟨u,j⟩:=aw.1 h;have:i.toNat<l.length:=by omega
 simp[this]
def Wx:Fit Tryz.prog (λ_=>none):=⟨λt j h=>(by cases h),fit.names,fit.order⟩
