/- part -/
import Derived.Test.YtfckbjehkbhkgaaGreatQwd
import Derived.Test.YtfckbjehkbhkgaaGreatProg
import Derived.KernelRfl
import Derived.IntWalk
set_option linter.all false
set_option maxRecDepth 100000
set_option maxHeartbeats 0
namespace Go.Proofs.YtfckbjehkbhkgaaGreat.Am
section
open Go.RowKit
namespace W
structure pick(c x y:AV)(K:AV->Prop):Prop where
 h:W0.pick c x y K
structure un(op:UnOp)(x:AV)(K:AV->Prop):Prop where
 h:W0.un op x K
structure bin(P:Program)(F:TypeId->Option (List TypeId))(op:BinOp)(t:TypeId)(x y:AV)(K:AV->Prop):Prop where
 h:W0.bin P F op t x y K
structure conv(k:IntKind)(x:AV)(K:AV->Prop):Prop where
 h:W0.conv k x K
structure convS(x:AV)(K:AV->Prop):Prop where
 h:W0.convS x K
structure faddr(off:Nat)(x:AV)(K:AV->Prop):Prop where
 h:W0.faddr off x K
structure fld(ag:Bool)(n off:Nat)(x:AV)(K:AV->Prop):Prop where
 h:W0.fld ag n off x K
structure load(ag:Bool)(n:Nat)(a:AV)(L:SH)(K:AV->Prop):Prop where
 h:W0.loadR ag n a L K
structure store(n:Nat)(a v:AV)(L:SH)(K:SH->Prop):Prop where
 h:W0.storeR n a v L K
structure idx(n:Nat)(x ix:AV)(L:SH)(K:AV->Prop):Prop where
 h:W0.idxR n x ix L K
structure idxP(len n:Nat)(x ix:AV)(K:AV->Prop):Prop where
 h:W0.idxP len n x ix K
structure ixS(x ix:AV)(K:AV->Prop):Prop where
 h:W0.ixS x ix K
structure ixA(ag:Bool)(len n:Nat)(x ix:AV)(K:AV->Prop):Prop where
 h:W0.ixA ag len n x ix K
structure ext(i:Nat)(x:AV)(K:AV->Prop):Prop where
 h:W0.ext i x K
structure nilchk(x:AV)(K:AV->Prop):Prop where
 h:W0.nilchk x K
structure build(z:List AV)(parts:List (Nat×Nat×AV))(K:AV->Prop):Prop where
 h:W0.build z parts K
structure alloc(cs:List AV)(L:SH)(K:AV->SH->Prop):Prop where
 h:W0.alloc cs L K
structure box(x:AV)(L:SH)(K:AV->SH->Prop):Prop where
 h:W0.box x L K
structure bslice(n:Nat)(z:List AV)(len:Nat)(parts:List (Nat×AV))(L:SH)(K:AV->SH->Prop):Prop where
 h:W0.bslice n z len parts L K
structure mslice(n by_:Nat)(z:List AV)(l c:AV)(L:SH)(K:AV->SH->Prop):Prop where
 h:W0.mslice n by_ z l c L K
structure append(n by_:Nat)(s x:AV)(L:SH)(K:AV->SH->Prop):Prop where
 h:W0.appendR n by_ s x L K
structure clear(n:Nat)(z:List AV)(x:AV)(L:SH)(K:SH->Prop):Prop where
 h:W0.clearR n z x L K
structure len(x:AV)(K:AV->Prop):Prop where
 h:W0.len x K
structure lenS(x:AV)(K:AV->Prop):Prop where
 h:W0.lenS x K
structure mnx(mx:Bool)(x y:AV)(K:AV->Prop):Prop where
 h:W0.mnx mx x y K
structure slice(n:Nat)(x:AV)(lo hi mx:Option AV)(L:SH)(K:AV->Prop):Prop where
 h:W0.sliceR n x lo hi mx L K
structure sliceS(x:AV)(lo hi:Option AV)(K:AV->Prop):Prop where
 h:W0.sliceS x lo hi K
structure mkmap(L:SH)(K:AV->SH->Prop):Prop where
 h:W0.mkmap L K
structure look(z:AV)(ok:Bool)(m k:AV)(L:SH)(K:AV->Prop):Prop where
 h:W0.lookR z ok m k L K
structure mup(m k v:AV)(L:SH)(K:SH->Prop):Prop where
 h:W0.mupR m k v L K
structure rngS(x:AV)(L:SH)(K:AV->SH->Prop):Prop where
 h:W0.rngS x L K
structure nxt(it:AV)(L:SH)(K:AV->SH->Prop):Prop where
 h:W0.nextR it L K
structure call(P:Program)(fv:AV)(args:List AV)(L:SH)(K:AV->SH->Prop):Prop where
 h:match fv with
  |.fn g cs=>ac P g (args++cs) L K
  |_=>False
section
variable (P:Program) (F:TypeId->Option (List TypeId))
def op(o:Op)(ρ:Operand->AV)(L:SH)(K:AV->SH->Prop):Prop:=
 let k:=λv=>K v L
 match o with
 |.move x|.assign x=>K (ρ x) L
 |.pick c x y=>pick (ρ c) (ρ x) (ρ y) k
 | .alloc t=>match W0.zof P t with
  |some cs=>alloc cs L K
  |none=>False
 |.box _ x=>box (ρ x) L K
 | .build t parts=>match P.underlying t,fB P t with
  | some (.struct fs),some (.agg z)=>if(fs.toList.all λf=>(bk P f.type).isSome)=true then
    (match cX (parts.toList.map λp=>(lz P fs p.1).map λq=>(q.1,q.2,ρ p.2))with
     |some ps=>build z ps k
     |none=>False)
   else False
  | some (.array _ e),some (.agg z)=>(match bk P e with
   |some n=>build z (parts.toList.map λp=>(p.1*n,n,ρ p.2)) k
   |none=>False)
  |_,_=>False
 | .buildSlice t len parts=>match P.underlying t with
  | some (.slice e)=>match bk P e,W0.zof P e with
   |some n,some z=>if z.length=n/\0<n then bslice n z len (parts.toList.map λp=>(p.1,ρ p.2)) L K else False
   |_,_=>False
  |_=>False
 | .load t a=>match fE P t,bk P t with
  |some ag,some n=>load ag n (ρ a) L k
  |_,_=>False
 | .store t a x=>match bk P t with
  |some n=>store n (ρ a) (ρ x) L (K (.tup []))
  |none=>False
 |.nilCheck x=>nilchk (ρ x) k
 |.binOp op t x y _=>bin P F op t (ρ x) (ρ y) k
 |.unOp op _ x=>un op (ρ x) k
 | .convert s d x=>match P.underlying s,P.underlying d with
  |some (.int _),some (.int kd)=>conv kd (ρ x) k
  |some .string,some .string=>convS (ρ x) k
  |_,_=>False
 |.makeFunc (.func f) first cap=>if first.size=0 then K (.fn f (cap.toList.map ρ)) L else False
 | .makeSlice t l c=>match P.underlying t with
  | some (.slice e)=>match bk P e,iR P e,W0.zof P e with
   |some n,some by_,some z=>if z.length=n/\0<n then mslice n by_ z (ρ l) (ρ c) L K else False
   |_,_,_=>False
  |_=>False
 | .slice t x lo hi mx=>if(hi.isNone&&mx.isSome)=true then False else match P.underlying t with
  | some (.slice e)=>(match bk P e with
   |some n=>slice n (ρ x) (lo.map ρ) (hi.map ρ) (mx.map ρ) L k
   |none=>False)
  |some .string=>if mx.isNone=true then sliceS (ρ x) (lo.map ρ) (hi.map ρ) k else False
  |_=>False
 | .fieldAddr s x f=>match P.underlying s with
  | some (.struct fs)=>match fs[f]? with
   | some f=>(match bk P f.type with
    |some n=>if n=0 then False else faddr f.offset (ρ x) k
    |none=>False)
   |none=>False
  |_=>False
 | .field s x f=>match P.underlying s with
  | some (.struct fs)=>match fs[f]? with
   | some f=>(match fE P f.type,bk P f.type with
    |some ag,some n=>fld ag n f.offset (ρ x) k
    |_,_=>False)
   |none=>False
  |_=>False
 | .indexAddr t x ix=>match P.underlying t with
  | some (.slice e)=>(match bk P e with
   |some n=>idx n (ρ x) (ρ ix) L k
   |none=>False)
  | some (.array len e)=>(match bk P e with
   |some n=>idxP len n (ρ x) (ρ ix) k
   |none=>False)
  |_=>False
 | .index t x ix=>match P.underlying t with
  |some .string=>ixS (ρ x) (ρ ix) k
  | some (.array len e)=>(match fE P e,bk P e with
   |some ag,some n=>ixA ag len n (ρ x) (ρ ix) k
   |_,_=>False)
  |_=>False
 |.extract x i=>ext i (ρ x) k
 |.makeMap _ none=>mkmap L K
 | .lookup t m y ok=>match P.underlying t with
  | some (.map kt et)=>(match P.underlying kt,fB P et with
   |some .string,some z=>look z ok (ρ m) (ρ y) L k
   |_,_=>False)
  |_=>False
 | .mapUpdate t m y x=>match P.underlying t with
  | some (.map kt _)=>(match P.underlying kt with
   |some .string=>mup (ρ m) (ρ y) (ρ x) L (K (.tup []))
   |_=>False)
  |_=>False
 | .range t x=>match P.underlying t with
  |some .string=>rngS (ρ x) L K
  |_=>False
 |.next it true=>nxt (ρ it) L K
 | .call c=>match c.callee with
  | .builtin .len=>(match c.args.toList,(c.argTypes[0]?).bind P.underlying with
   |[x],some (.slice _)=>len (ρ x) k
   |[x],some .string=>lenS (ρ x) k
   |[x],some (.array n _)=>(match ρ x with|.str _=>False|_=>K (.int .i64 n) L)
   |_,_=>False)
  | .builtin .append=>(match c.args.toList,c.argTypes.toList with
   | [s,x],[t,tx]=>(match P.underlying t,P.underlying tx with
    | some (.slice e),some (.slice _)=>(match bk P e,iR P e,W0.zof P e with
     |some n,some by_,some z=>if z.length=n/\0<n then append n by_ (ρ s) (ρ x) L K else False
     |_,_,_=>False)
    |_,_=>False)
   |_,_=>False)
  | .builtin .min=>(match c.args.toList with
   |[x,y]=>mnx false (ρ x) (ρ y) k
   |_=>False)
  | .builtin .max=>(match c.args.toList with
   |[x,y]=>mnx true (ρ x) (ρ y) k
   |_=>False)
  | .builtin .clear=>(match c.args.toList,c.argTypes.toList with
   | [x],[t]=>(match P.underlying t with
    | some (.slice e)=>(match bk P e,W0.zof P e with
     |some n,some z=>if(z.length=n/\0<n)/\z.all AV.one=true then clear n z (ρ x) L (K (.tup []))else False
     |_,_=>False)
    |_=>False)
   |_,_=>False)
  |.value f=>call P (ρ f) (c.args.toList.map ρ) L K
  |_=>False
 |_=>False
end
theorem op_raw{P:Program}{F:TypeId->Option (List TypeId)}{o:Op}{ρ:Operand->AV}{L:SH}{K:AV->SH->Prop}(h:op P F o ρ L K):W0.op P F o ρ L K:=by
 cases o with
 |makeFunc fn first cap=>
  cases fn with
  |func f=>
   simp only[op]at h;simp only[W0.op];split at h
   .rename_i hc;rw[if_pos hc];exact h
   .exact h.elim
  |_=>exact h
 |move x=>exact h
 |assign x=>exact h
 |pick c x y=>exact h.h
 |box t x=>exact h.h
 |nilCheck x=>exact h.h
 |binOp op t x y c=>exact h.h
 |unOp op t x=>exact h.h
 |extract x i=>exact h.h
 |makeMap t r=>
  cases r with
  |none=>exact h.h
  |some r=>exact h.elim
 |next it s=>
  cases s with
  |true=>exact h.h
  |false=>exact h.elim
 |lookup t m y ok|mapUpdate t m y x|range t x|alloc t|build t ps|buildSlice t l ps|load t a|store t a x|convert s d x|makeSlice t l c|slice t x lo hi mx|fieldAddr s x f|field s x f|indexAddr t x ix|index t x ix|call c=>
  simp only[op]at h;simp only[W0.op]
  repeat' split at h
  all_goals first
   |exact h.elim
   |(have h:=h.h;split at h<;>first|exact h.elim|(simp only[*];exact h))
   |(simp only[*,if_true,and_self];first|exact h.h|exact h)
   |(simp_all;done)
   |(simp_all;first|exact h.h|exact h)
 |_=>exact h.elim
structure grd(x:AV)(want:Bool)(A:(AV->SH->Prop)->Prop)(L:SH)(K:AV->SH->Prop):Prop where
 h:(x=.bool want/\A K)\/((x=.bool (!want)\/x=bY)/\K bY L)
section
variable (P:Program) (F:TypeId->Option (List TypeId)) (ops:Array Oper)
def sq:List Nat->List AV->SH->(List AV->SH->Prop)->Prop
 |[],τ,L,K=>K τ L
 | i::l,τ,L,K=>match ops[i]? with
  |none=>False
  | some o=>match o.guard with
   |none=>op P F o.op (lj τ) L λv L=>sq l (iw τ o.dst v) L K
   | some (j,want)=>match (ops[j]?).bind (·.dst)with
    |some d=>grd (τ.getD d .junk) want (op P F o.op (lj τ) L) L λv L=>sq l (iw τ o.dst v) L K
    |none=>False
structure WR where
 op:Nat
 reads:List Nat
 writes:List Nat
 made:List Nat
 isCall:Bool
 old:List Nat
def free(x y:WR):Prop:=(∀c∈x.writes,c∉y.reads/\c∉y.writes)/\(∀c∈x.reads,c∉y.writes)/\(∀c∈x.made,c∉y.reads/\c∉y.writes)/\
 (x.isCall=true->y.isCall=false/\y.writes=[]/\∀c∈y.reads,c∈x.old)/\(y.isCall=true->x.writes=[])
def isMem:Op->Bool
 |.load ..|.store ..|.indexAddr ..|.slice ..|.alloc ..|.box ..|.buildSlice ..|.makeSlice ..|.makeMap ..|.range ..|.lookup ..|.mapUpdate ..|.next ..=>true
 | .call c=>match c.callee with
  |.builtin .append=>true
  |.builtin .clear=>true
  |_=>false
 |_=>false
structure calm(us:List WR)(y:WR)(A:Prop):Prop where
 h:(∀x∈us,free x y)/\A
structure dcall(us:List WR)(i:Nat)(fv:AV)(args:List AV)(L:SH)(K:AV->SH->List Nat->Prop):Prop where
 h:match fv with
  |.fn g cs=>∃Kc R:SH,L.Perm (Kc++R)/\(∀x∈us,free x ⟨i,[],Kc.names,[],true,[]⟩)/\ac P g (args++cs) Kc λv K'=>K v (K'++R) Kc.names
  |_=>False
structure Fp where
 reads:List Nat
 writes:List Nat
 made:List Nat
 old:List Nat
def isCallV:Op->Bool
 | .call c=>match c.callee with
  |.value _=>true
  |_=>false
 |_=>false
structure note(r0:Fp)(K:Fp->Prop):Prop where
 h:∀r,r=r0->K r
def dop(us:List WR)(i:Nat)(o:Op)(ρ:Operand->AV)(L:SH)(K:AV->SH->Fp->Prop):Prop:=
 match o with
 | .call c=>match c.callee with
  |.value f=>dcall P us i (ρ f) (c.args.toList.map ρ) L λv L' ks=>note ⟨[],ks,[],L.names⟩ λr=>K v L' r
  | .builtin .append=>(match c.args.toList with
   |[s,x]=>calm us ⟨i,ai (ρ s)++ai (ρ x),ai (ρ s),[],false,[]⟩ (op P F o ρ L λv L'=>note ⟨ai (ρ s)++ai (ρ x),ai (ρ s),ai v,[]⟩ λr=>K v L' r)
   |_=>False)
  | .builtin .clear=>(match c.args.toList with
   |[x]=>calm us ⟨i,ai (ρ x),ai (ρ x),[],false,[]⟩ (op P F o ρ L λv L'=>note ⟨ai (ρ x),ai (ρ x),[],[]⟩ λr=>K v L' r)
   |_=>False)
  |_=>op P F o ρ L λv L'=>K v L' ⟨[],[],[],[]⟩
 | o=>if isMem o then calm us ⟨i,aV o ρ,aK o ρ,[],false,[]⟩ (op P F o ρ L λv L'=>note ⟨aV o ρ,aK o ρ,if W0.makes o then ai v else [],[]⟩ λr=>K v L' r)
  else op P F o ρ L λv L'=>K v L' ⟨[],[],[],[]⟩
def push(i:Nat)(o:Op)(r:Fp)(rs:List WR):List WR:=if isCallV o||isMem o then⟨i,r.reads,r.writes,r.made,isCallV o,r.old⟩::rs else rs
structure dgrd(x:AV)(want:Bool)(A:(AV->SH->Fp->Prop)->Prop)(L:SH)(K:AV->SH->Fp->Prop):Prop where
 h:(x=.bool want/\A K)\/((x=.bool (!want)\/x=bY)/\K bY L ⟨[],[],[],L.names⟩)
def dr(before:List Nat):List Nat->List AV->SH->List WR->(List AV->SH->Prop)->Prop
 |[],τ,L,_,K=>K τ L
 | i::l,τ,L,rs,K=>match ops[i]? with
  |none=>False
  | some o=>match o.guard with
   |none=>dop P F (rs.filter λx=>!(before.getD i 0).testBit x.op) i o.op (lj τ) L λv L r=>dr before l (iw τ o.dst v) L (push i o.op r rs) K
   | some (j,want)=>match (ops[j]?).bind (·.dst)with
    |some d=>dgrd (τ.getD d .junk) want (dop P F (rs.filter λx=>!(before.getD i 0).testBit x.op) i o.op (lj τ) L) L λv L r=>dr before l (iw τ o.dst v) L (push i o.op r rs) K
    |none=>False
end
end W
section
variable {P:Program} {F:TypeId->Option (List TypeId)} {ops:Array Oper} {base:Nat}
open Classical in
noncomputable def Qv (g:FuncId) (as_:List AV) (Hi:ah) (v:AV) (Ho:ah) (call:FuncId->List AV->ah->Option (AV×ah)):FuncId->List AV->ah->Option (AV×ah):=
 λf args H=>if f=g/\args=as_/\H=Hi then some (v,Ho)else call f args H
def LS(call:FuncId->List AV->ah->Option (AV×ah)):Prop:=∀f args H v H',Bd H->call f args H=some (v,H')->zn H H'
theorem F6{g:FuncId}{j:List AV}{D B:ah}{v:AV}{call:FuncId->List AV->ah->Option (AV×ah)}(hs:fU P call)(hc:p7 P g j D v B)(hn:D.next<=B.next)(hb:∃fn c,P.funcs[g]? =some fn/\fn.body=some c):fU P (Qv g j D v B call):=by
 refine⟨λf args H u H' h=>?_,λf args H u H' h=>?_,λf args H u H' h=>?_⟩ <;>
 .unfold Qv at h;split at h
  .rename_i E;obtain⟨rfl,rfl,rfl⟩:=E;cases h;assumption
  .first|exact hs.ok _ _ _ _ _ h|exact hs.next _ _ _ _ _ h|exact hs.body _ _ _ _ _ h
theorem Ny{g:FuncId}{j:List AV}{B D:ah}{v:AV}{call:FuncId->List AV->ah->Option (AV×ah)}(hs:LS call)(hc:Bd B->zn B D):LS (Qv g j B v D call):=λf args H u H' hb h=>by
 unfold Qv at h;split at h
 .rename_i E;obtain⟨rfl,rfl,rfl⟩:=E;cases h;exact hc hb
 .exact hs _ _ _ _ _ hb h
theorem Nz{g:FuncId}{j:List AV}{B u:ah}{v:AV}{call:FuncId->List AV->ah->Option (AV×ah)}:Qv g j B v u call g j B=some (v,u):=by unfold Qv;rw[if_pos ⟨rfl,rfl,rfl⟩]
theorem F7{g:FuncId}{j:List AV}{u B:ah}{v:AV}{call:FuncId->List AV->ah->Option (AV×ah)}{f:FuncId}{args:List AV}{H:ah}(h:u.next<H.next):Qv g j u v B call f args H=call f args H:=by unfold Qv;rw[if_neg];rintro⟨_,_,rfl⟩;omega
theorem Jr{call1 j:FuncId->List AV->ah->Option (AV×ah)}{i:Nat}{u:List AV}{H:ah}(h:∀f args,call1 f args H=j f args H):lC P F call1 ops base i u H=lC P F j ops base i u H:=by
 unfold lC;split
 .rfl
 .split
  .split
   .rfl
   .rw[h]
   .rfl
  .rfl
  .rfl
theorem Bz{call1 j:FuncId->List AV->ah->Option (AV×ah)}{n:Nat}(u:∀f args H,n<H.next->call1 f args H=j f args H)(hs:fU P call1):∀(l:List Nat) (B:List AV) (H:ah) (r:List AV×ah),n<H.next->oa P F call1 ops base l B H=some r->oa P F j ops base l B H=some r
 |[],B,H,r,_,h=>h
 | i::l,B,H,r,hn,h=>by
  unfold oa at h ⊢;rw[<-Jr (call1:=call1) (λf args=>u f args H hn)];split at h
  .rename_i D G E;exact Bz u hs l D G r (abk hn (oo hs E)) h
  .cases h
theorem p7.bump{f:FuncId}{args:List AV}{H j:ah}{v:AV}(h:p7 P f args H v j)(l:List Nat):p7 P f args H v {j with next:=j.next+1,log:=l}:=by
 intro w σ vs M u;refine(h w σ vs M u).mono ?_;rintro e w' ⟨D,σ',rfl,k1,k2,G,E⟩;have B:aX σ' ({j with next:=j.next+1,log:=l}:ah)=aX σ' j:=aX.congr λ_=>rfl
 exact⟨D,σ',rfl,by rw[B];exact k1,k2.congr (λ_=>rfl) (acC _),by rw[B];exact G,E⟩
theorem Fr.chg{L L':SH}{H H':ah}(h:Fr H.next L H L' H')(l:List Nat)(hl:∀b,b∈H.log->b∈l)(hL:∀b,b∈L.names->b∈l)(n:Nat)(hn:H'.next<=n):zn H {H' with next:=n,log:=l} where
 next:=abe h.next hn
 dom:=λb hb h0=>h.dom b hb h0
 keep:=λb hb j=>by
  show H'.get b=H.get b;cases u:H.get b with
  |none=>exact h.dom b hb u
  |some x=>exact(h.keep b x u (λhm=>j (hL b hm))).1
 log:=hl
 bd:=λ_ b hb=>h.bd b (abe hn hb)
theorem Bd.bump{H:ah}(h:Bd H)(l:List Nat)(n:Nat)(hn:H.next<=n):Bd {H with next:=n,log:=l}:=λb hb=>h b (abe hn hb)
theorem pI.fr{b:Nat}{L L':SH}{H H':ah}(h:pI b L H L' H')(hb:base<=b):Fr base L H L' H':=
 ⟨Nat.le_of_eq h.next.symm,h.bd,h.sub,h.keep,λc hc=>h.dom c acN,λc hc j=>by
  rcases h.fresh c hc with rfl|u
  .omega
  .exact u⟩
theorem BA{o:Oper}{u:List AV}{j d:Nat}{want:Bool}(D:o.guard=some (j,want))(E:(ops[j]?).bind (·.dst)=some d)(h:u.getD d .junk=.bool want):ff ops o u=some true:=by
 have:u[d]? =some (.bool want):=by
  cases B:u[d]? with
  |none=>rw[List.getD,B]at h;cases h
  |some x=>rw[List.getD,B]at h;exact congrArg some h
 simp[ff,D,E,this]
theorem F8{o:Oper}{u:List AV}{j d:Nat}{want:Bool}(D:o.guard=some (j,want))(E:(ops[j]?).bind (·.dst)=some d)(h:u.getD d .junk=.bool (!want)\/u.getD d .junk=bY):ff ops o u=some false:=by
 rcases h with h|h
 .have:u[d]? =some (.bool (!want)):=by
   cases B:u[d]? with
   |none=>rw[List.getD,B]at h;cases h
   |some x=>rw[List.getD,B]at h;exact congrArg some h
  simp[ff,D,E,this]
 .have:u[d]? =some (.tup []):=by
   cases B:u[d]? with
   |none=>rw[List.getD,B]at h;cases h
   |some x=>rw[List.getD,B]at h;exact congrArg some h
  simp[ff,D,E,this]
theorem zr{o:Oper}{j:List AV}(u:o.guard=none):ff ops o j=some true:=by simp[ff,u]
theorem qe:∀(l:List Nat) (G:List AV) (L:SH) (K:List AV->SH->Prop),W.sq P F ops l G L K->l.Nodup->∀H,Bd H->mf L H->(∀i∈l,base+i<H.next/\H.get (base+i)=none)->base<=H.next->
  ∃call u H' L',fU P call/\LS call/\oa P F call ops base l G H=some (u,H')/\Fr base L H L' H'/\K u L'
 |[],G,L,K,h,_,H,hb,hs,_,_=>⟨LR,G,H,L,vx P,λ_ _ _ _ _ _ h=>(by cases h),rfl,.refl hb hs,h⟩
 | i::l,G,L,K,h,hnd,H,hb,hs,hfr,hbase=>by
  have B:=abG.1 hnd;have h0:=hfr i acQ;unfold W.sq at h;split at h
  .exact h.elim
  .rename_i o ho;have go:∀(Kc:AV->SH->Prop),ff ops o G=some true->W.op P F o.op (lj G) L Kc->(∀v N,Kc v N->W.sq P F ops l (iw G o.dst v) N K)->
     ∃call u H' L',fU P call/\LS call/\oa P F call ops base (i::l) G H=some (u,H')/\Fr base L H L' H'/\K u L':=by
    intro Kc hw hop hk;rcases G6 (b:=base+i) hb hs h0.1 h0.2 (W.op_raw hop)with⟨v,E,N,g1,g2,_,g3⟩|⟨g,args,g1,g2⟩
    .obtain⟨call,u,H',L',k1,k2,Y,S,O⟩:=qe l (iw G o.dst v) N K (hk v N g3) B.2 E g2.bd g2.sub (λj hj=>by
      have M:=hfr j (by simp[hj]);refine⟨by rw[g2.next];exact M.1,g2.dom _ (λe=>?_) M.2⟩;have:j=i:=by omega
      exact B.1 (this▸hj)) (by rw[g2.next];exact hbase)
     refine⟨call,u,H',L',k1,k2,?_,(g2.fr (abB _ _)).trans S (Fd _),O⟩;unfold oa lC;simp only[ho,hw,g1];exact Y
    .obtain⟨bd,g3⟩:=g2;obtain⟨v,E,N,c1,D,c3⟩:=g3 H hb hs;have Z:mf N ({E with next:=E.next+1,log:=L.names++H.log}:ah):=D.sub.congr λ_=>rfl
     obtain⟨call,u,H',L',k1,k2,Y,S,O⟩:=qe l (iw G o.dst v) N K (hk v N c3) B.2 {E with next:=E.next+1,log:=L.names++H.log} (D.bd.bump _ _ (acC _)) Z (λj hj=>by
      have M:=hfr j (by simp[hj]);have:=D.next;exact⟨by show base+j<E.next+1;omega,D.dom _ M.1 M.2⟩) (by have:=D.next;show base<=E.next+1;omega)
     refine⟨Qv g args H v _ call,u,H',L',F6 k1 (c1.bump _) (by have:=D.next;show H.next<=E.next+1;omega) bd,Ny k2 λ_=>D.chg _ (λb hb=>aaY _ hb) (λb hb=>abR _ hb) _ (acC _),?_,?_,O⟩
     .unfold oa lC;simp only[ho,hw,g1,Nz];refine Bz (n:=H.next) (λf args K hK=>?_) k1 l _ _ _ (by have:=D.next;show H.next<E.next+1;omega) Y;exact(F7 hK).symm
     .refine Fr.trans (H':={E with next:=E.next+1,log:=L.names++H.log}) ⟨by have:=D.next;show H.next<=E.next+1;omega,D.bd.bump _ _ (acC _),Z,D.keep,λb hb'=>D.dom b acN,λb h1 h2=>D.fresh b h1 acN⟩ S (Fd _)
   split at h
   .rename_i hg;exact go _ (zr hg) h λv N h=>h
   .rename_i j want hg;split at h
    .rename_i d hd;rcases h.h with⟨h1,h2⟩|⟨h1,h2⟩
     .exact go _ (BA hg hd h1) h2 λv N h=>h
     .obtain⟨call,u,H',L',k1,k2,Y,S,O⟩:=qe l (iw G o.dst bY) L K h2 B.2 H hb hs (λj hj=>hfr j (by simp[hj])) hbase;refine⟨call,u,H',L',k1,k2,?_,S,O⟩;unfold oa lC;simp only[ho,F8 hg hd h1];exact Y
    .exact h.elim
theorem dD.region{id:Nat}{B:List AV}{L:SH}{Q:Ex->List AV->SH->Prop}(fit:Fit P F)(h:W.sq P F ops (List.range ops.size) B L λj L'=>Q .normal j L'):dD P (.region id ops false) B L Q:=λH hb hs=>by
 obtain⟨call,j,H',L',k1,k2,E,u,D⟩:=qe (base:=H.next) (List.range ops.size) B L _ h List.nodup_range {H with next:=H.next+ops.size} (hb.bump _ _ (abB _ _)) (hs.congr λ_=>rfl)
  (λi hi=>⟨Nat.add_lt_add_left (acd.1 hi) _,hb _ (abB _ _)⟩) (abB _ _)
 have hr:fg P F call ops false B H=some (j,H'):=by simp only[fg,abj,if_false];exact E
 exact⟨.normal,j,H',L',iA fit k1 hr,⟨abe (abB _ _) u.next,u.bd,u.sub,u.keep,u.dom,u.fresh⟩,D⟩
end
end
section
open Go.RowKit
section
variable {P:Program} {F:TypeId->Option (List TypeId)} {ops:Array Oper} {base:Nat} {ρ:Operand->AV} {L:SH}
theorem Js{o:Op}{b:Nat}{g:FuncId}{args:List AV}{H:ah}(h:bu P F o ρ b H=some (.call g args)):∃c f,o=.call c/\c.callee=.value f:=by
 cases o with
 |call c=>
  simp only[bu]at h;split at h
  .rename_i E _;cases j:bE P H b E c.argTypes (c.args.toList.map ρ)with
   |none=>rw[j]at h;cases h
   |some r=>rw[j]at h;cases h
  .rename_i f u;exact⟨c,f,rfl,u⟩
  .cases h
 |makeFunc B first D=>cases B<;>simp only[bu]at h<;>(try split at h)<;>simp at h
 |makeMap t r=>cases r<;>simp[bu]at h
 |next G s=>cases s<;>simp[bu]at h
 |_=>
  exfalso;simp only[bu]at h
  repeat' (first|(cases h;done)|(simp at h;done)|split at h)
theorem G7{o:Op}(h:W.isMem o=false):aV o ρ=[]∧aK o ρ=[]:=by
  cases o with
  |call c=>
    simp only[W.isMem]at h;simp only[aV,aK];split at h
    · cases h
    · cases h
    · rename_i hn hn2
      constructor <;> · split
                        · rename_i he;exact absurd he hn
                        · rename_i he;exact absurd he hn2
                        · rfl
  |_=>first|(cases h;done)|exact⟨rfl,rfl⟩
theorem zt{n:Nat}{s:AV}{rows:List (List AV)}(h:W0.rowsR L n s rows):∀c∈ai s,c∈L.names:=by
 intro c j;unfold W0.rowsR at h;split at h
 .simp[ai]at j
 .simp[ai]at j
 .simp[ai]at j
 .obtain⟨x,u,_⟩:=h;simp only[ai,aag]at j;subst j;exact abE (f:=Prod.fst) u
 .exact h.elim
theorem Jt{o:Op}{K:AV->SH->Prop}(h:W0.op P F o ρ L K):∀c∈aV o ρ,c∈L.names:=by
 intro c j;cases o with
 |load t a=>
  simp only[W0.op]at h;split at h
  .simp only[aV]at j;unfold W0.loadR at h;split at h
   .rename_i E;obtain⟨x,r,v,B,_⟩:=h;rw[E]at j;simp only[ai,aag]at j;subst j;exact abE (f:=Prod.fst) B
   .rename_i E;rw[E]at j;simp[ai]at j
   .exact h.elim
  .exact h.elim
 |store t a x=>
  simp only[W0.op]at h;split at h
  .simp only[aV]at j;unfold W0.storeR at h;split at h
   .rename_i E;obtain⟨x,r,cs,N,_,_,_,_,_,B,_⟩:=h;rw[E]at j;simp only[ai,aag]at j;subst j;exact abE (f:=Prod.fst) B.mem
   .exact h.elim
  .exact h.elim
 |indexAddr t x ix=>
  simp only[W0.op]at h;simp only[aV]at j;split at h
  .split at h
   .unfold W0.idxR at h;split at h
    .rename_i u;obtain⟨k,i,y,_,_,_,B,_⟩:=h;rw[u]at j;simp only[dV,aag]at j;subst j;exact abE (f:=Prod.fst) B
    .rename_i u;rw[u]at j;simp[dV]at j
    .exact h.elim
   .exact h.elim
  .split at h
   .obtain⟨k,i,_,_,_,g⟩:=h;split at g
    .rename_i u;rw[u]at j;simp[dV]at j
    .rename_i u;rw[u]at j;simp[dV]at j
    .exact g.elim
   .exact h.elim
  .exact h.elim
 |slice t x lo M mx=>
  simp only[W0.op]at h;simp only[aV]at j;split at h
  .exact h.elim
  .split at h
   .split at h
    .obtain⟨len,l,Z,m,_,_,_,_,_,_,_,g⟩:=h;split at g
     .rename_i u;rw[u]at j;simp[dV]at j
     .rename_i u;obtain⟨⟨y,B,_⟩,_⟩:=g;rw[u]at j;simp only[dV,aag]at j;subst j;exact abE (f:=Prod.fst) B
     .rename_i u;rw[u]at j;simp[dV]at j
     .exact g.elim
    .exact h.elim
   .split at h
    .obtain⟨s,l,Z,u,_⟩:=h;rw[u]at j;simp[dV]at j
    .exact h.elim
   .exact h.elim
 |call k=>
  simp only[aV]at j;split at j
  .rename_i D;simp only[W0.op,D]at h;split at h
   .rename_i s x t tx E S;split at h
    .split at h
     .split at h
      .obtain⟨l,m,B,g2,_⟩:=h;simp only[E,List.flatMap_cons,List.flatMap_nil,aby,aak]at j;rcases j with j|j
       .exact zt B c j
       .exact zt g2 c j
      .exact h.elim
     .exact h.elim
    .exact h.elim
   .exact h.elim
  .rename_i D;simp only[W0.op,D]at h;split at h
   .rename_i x t E S;split at h
    .split at h
     .split at h
      .simp only[E,List.flatMap_cons,List.flatMap_nil,aby]at j;unfold W0.clearR at h;split at h
       .rename_i u;rw[u]at j;simp[ai]at j
       .rename_i u;obtain⟨y,N,_,_,B,_⟩:=h;rw[u]at j;simp only[ai,aag]at j;subst j;exact abE (f:=Prod.fst) B.mem
       .exact h.elim
      .exact h.elim
     .exact h.elim
    .exact h.elim
   .exact h.elim
  .simp at j
 |lookup t m k ok=>
  simp only[W0.op]at h;simp only[aV]at j;split at h
  .split at h
   .unfold W0.lookR at h;split at h
    .rename_i G Y;obtain⟨x,B,_⟩:=h;rw[G]at j;simp only[ai,aag]at j;subst j;exact abE (f:=Prod.fst) B
    .exact h.elim
   .exact h.elim
  .exact h.elim
 |mapUpdate t m k x=>
  simp only[W0.op]at h;simp only[aV]at j;split at h
  .split at h
   .unfold W0.mupR at h;split at h
    .rename_i G Y;obtain⟨y,N,_,_,B,_⟩:=h;rw[G]at j;simp only[ai,aag]at j;subst j;exact abE (f:=Prod.fst) B.mem
    .exact h.elim
   .exact h.elim
  .exact h.elim
 |next it s=>
  cases s with
  |false=>exact h.elim
  |true=>
   simp only[W0.op]at h;simp only[aV]at j;unfold W0.nextR at h;split at h
   .rename_i M;obtain⟨x,s,k,O,B,_⟩:=h;rw[M]at j;simp only[ai,aag]at j;subst j;exact abE (f:=Prod.fst) B
   .exact h.elim
 |_=>simp[aV]at j
theorem Tw{o:Op}{K K2:AV->SH->Prop}(B:∀v,K v L->K2 v L)(O:W.isMem o=false)(hv:∀c f,o=.call c->c.callee≠.value f)(h:W0.op P F o ρ L K):W0.op P F o ρ L K2:=by
 cases o with
 |call c=>
  simp only[W0.op]at h ⊢;split at h
  .split at h
   .obtain⟨n,u,j⟩:=h;exact⟨n,u,B _ j⟩
   .obtain⟨n,u,j⟩:=h;exact⟨n,u,B _ j⟩
   .split at h
    .exact h
    .exact B _ h
   .exact h
  .rename_i G;simp[W.isMem,G]at O
  .split at h
   .obtain⟨k,a,c,u,j,D⟩:=h;exact⟨k,a,c,u,j,B _ D⟩
   .exact h
  .split at h
   .obtain⟨k,a,c,u,j,D⟩:=h;exact⟨k,a,c,u,j,B _ D⟩
   .exact h
  .rename_i G;simp[W.isMem,G]at O
  .rename_i f G;exact absurd G (hv c f rfl)
  .exact h
 |move x=>exact B _ h
 |assign x=>exact B _ h
 |pick c x y=>obtain⟨t,u,j⟩:=h;exact⟨t,u,B _ j⟩
 |build t N=>
  simp only[W0.op]at h ⊢;split at h
  .split at h
   .rename_i M;rw[if_pos M];split at h
    .obtain⟨E,u,j⟩:=h;exact⟨E,u,B _ j⟩
    .exact h
   .exact h.elim
  .split at h
   .obtain⟨E,u,j⟩:=h;exact⟨E,u,B _ j⟩
   .exact h
  .exact h
 |nilCheck x=>simp only[W0.op,W0.nilchk]at h ⊢;split at h<;>first|exact B _ h|exact h
 |binOp op t x y c=>obtain⟨v,u,j⟩:=h;exact⟨v,u,B _ j⟩
 |unOp op t x=>obtain⟨v,u,j⟩:=h;exact⟨v,u,B _ j⟩
 |convert s d x=>
  simp only[W0.op]at h ⊢;split at h
  .obtain⟨k,n,u,j⟩:=h;exact⟨k,n,u,B _ j⟩
  .obtain⟨s,u,j⟩:=h;exact⟨s,u,B _ j⟩
  .exact h
 |makeFunc fn first cap=>
  cases fn with
  |func f=>
   simp only[W0.op]at h ⊢;split at h
   .rename_i S;rw[if_pos S];exact B _ h
   .exact h.elim
  |_=>exact h
 |fieldAddr s x f=>
  simp only[W0.op]at h ⊢;split at h
  .split at h
   .split at h
    .split at h
     .exact h.elim
     .rename_i S;rw[if_neg S];unfold W0.faddr at h ⊢;split at h<;>first|exact B _ h|exact h
    .exact h
   .exact h
  .exact h
 |field s x f=>
  simp only[W0.op]at h ⊢;split at h
  .split at h
   .split at h
    .obtain⟨E,v,u,j,D⟩:=h;exact⟨E,v,u,j,B _ D⟩
    .exact h
   .exact h
  .exact h
 |index t x ix=>
  simp only[W0.op]at h ⊢;split at h
  .obtain⟨s,k,i,y,u,j,D,Z,Y⟩:=h;exact⟨s,k,i,y,u,j,D,Z,B _ Y⟩
  .split at h
   .obtain⟨E,k,i,v,u,j,D,Z,Y,g6⟩:=h;exact⟨E,k,i,v,u,j,D,Z,Y,B _ g6⟩
   .exact h
  .exact h
 |extract x i=>obtain⟨vs,v,u,j,D⟩:=h;exact⟨vs,v,u,j,B _ D⟩
 |_=>first|(cases O;done)|exact h
theorem qf{x y:sZ}(D:∀c∈x.writes,c∉y.reads/\c∉y.writes)(N:∀c∈x.reads,c∉y.writes)(E:∀c∈x.made,c∉y.reads/\c∉y.writes)
  (O:x.isCall=true->y.isCall=false/\y.writes=[]/\∀c∈y.reads,c<x.lo) (G:y.isCall=true->x.writes=[]):mH x y=false:=by
 have j:∀l m:List Nat,(∀c∈l,c∉m)->apart l m=true:=λl m h=>by simpa[apart]using h
 unfold mH;rw[j _ _ λc h=>(D c h).1,j _ _ λc h=>(D c h).2,j _ _ N,j _ _ λc h=>(E c h).1,j _ _ λc h=>(E c h).2];cases M:x.isCall with
 |true=>obtain⟨Z,Y,S⟩:=O M;simp only[Z,Y,List.isEmpty_nil,Bool.not_true,Bool.false_or,Bool.and_true,acB,Bool.false_and,Bool.or_false];rw[List.any_eq_false];intro c B;have:=S c B;simp;omega
 |false=>
  cases u:y.isCall with
  |true=>simp[G u]
  |false=>simp
theorem OP{us:List W.WR}{i:Nat}{o:Op}{K:AV->SH->W.Fp->Prop}(h:W.dop P F us i o ρ L K):
  (∃c f g cs,o=.call c/\c.callee=.value f/\ρ f=.fn g cs/\∃E R:SH,L.Perm (E++R)/\(∀x∈us,W.free x ⟨i,[],E.names,[],true,[]⟩)/\ac P g (c.args.toList.map ρ++cs) E λv S=>W.note ⟨[],E.names,[],L.names⟩ λr=>K v (S++R) r) \/
  (W.isMem o=true/\W.isCallV o=false/\(∀x∈us,W.free x ⟨i,aV o ρ,aK o ρ,[],false,[]⟩)/\W0.op P F o ρ L λv M=>W.note ⟨aV o ρ,aK o ρ,if W0.makes o then ai v else [],[]⟩ λr=>K v M r) \/
  (W.isMem o=false/\W.isCallV o=false/\(∀c f,o=.call c->c.callee≠.value f)/\W0.op P F o ρ L λv M=>K v M ⟨[],[],[],[]⟩):=by
 cases o with
 |call c=>
  simp only[W.dop]at h;split at h
  .rename_i f O;have h:=h.h;split at h
   .rename_i g cs N;exact .inl ⟨c,f,g,cs,rfl,O,N,h⟩
   .exact h.elim
  .rename_i j;split at h
   .rename_i s x u;have B:aV (.call c) ρ=ai (ρ s)++ai (ρ x):=by simp[aV,j,u]
    have D:aK (.call c) ρ=ai (ρ s):=by simp[aK,j,u]
    refine .inr (.inl ⟨by simp[W.isMem,j],by simp[W.isCallV,j],?_⟩);rw[B,D,show W0.makes (.call c)=true by simp[W0.makes,j]];exact⟨h.h.1,W.op_raw h.h.2⟩
   .exact h.elim
  .rename_i j;split at h
   .rename_i x u;have B:aV (.call c) ρ=ai (ρ x):=by simp[aV,j,u]
    have D:aK (.call c) ρ=ai (ρ x):=by simp[aK,j,u]
    refine .inr (.inl ⟨by simp[W.isMem,j],by simp[W.isCallV,j],?_⟩);rw[B,D,show W0.makes (.call c)=false by simp[W0.makes,j]];exact⟨h.h.1,W.op_raw h.h.2⟩
   .exact h.elim
  .rename_i B D Y;refine .inr (.inr ⟨?_,?_,λZ f G=>?_,W.op_raw h⟩)
   .simp only[W.isMem]
   .simp only[W.isCallV]
   .cases G;exact B f
 |_=>first|exact .inr (.inl ⟨rfl,rfl,h.h.1,W.op_raw h.h.2⟩)|exact .inr (.inr ⟨rfl,rfl,λc f j=>(by cases j),W.op_raw h⟩)
def OQ(base k:Nat)(ws:List W.WR)(r:sZ):Prop:=r.op<k/\
  ((r.isCall=false/\r.reads=[]/\r.writes=[]/\r.made=[base+r.op]) \/
   ∃x∈ws,x.op=r.op/\r.reads=x.reads/\(∀c∈r.writes,c∈x.writes)/\r.isCall=x.isCall/\(r.isCall=true->r.made=[]/\∀c∈x.old,c<r.lo)/\(r.isCall=false->r.made=[base+r.op]))
theorem OQ.more{k D:Nat}{B j:List W.WR}{r:sZ}(h:OQ base k B r)(G:k<=D)(E:∀x∈B,x∈j):OQ base D j r:=by
 refine⟨abk h.1 G,?_⟩;rcases h.2 with u|⟨x,u,M⟩
 .exact .inl u
 .exact .inr ⟨x,E x u,M⟩
def YC(base k:Nat)(L:SH)(ws:List W.WR):Prop:=∀j,j<k->base+j∈L.names->∃x∈ws,x.op=j/\base+j∈x.made
theorem BB{k:Nat}{Y:List W.WR}{u:Nat}{r y:sZ}{wy:W.WR}(hr:OQ base k Y r)(O:YC base k L Y)(hun:u.testBit r.op=false)
  (hf:∀x∈Y.filter (λx=>!u.testBit x.op),W.free x wy) (Z:∀c∈y.reads,c∈wy.reads) (h2:∀c∈y.writes,c∈wy.writes) (h3:y.isCall=wy.isCall) (h4:wy.writes=[]->y.writes=[])
  (hL1:∀c∈wy.reads,c∈L.names) (hL2:∀c∈wy.writes,c∈L.names):mH r y=false:=by
 have mem:∀x∈Y,x.op=r.op->W.free x wy:=λx hx he=>hf x (by rw[acn];exact⟨hx,by rw[he,hun];rfl⟩)
 have B:∀c∈[base+r.op],c∉y.reads/\c∉y.writes:=λc j=>by
  rw[aag]at j;subst j;constructor
  .intro M;obtain⟨x,G,E,D⟩:=O r.op hr.1 (hL1 _ (Z _ M));exact((mem x G E).2.2.1 _ D).1 (Z _ M)
  .intro M;obtain⟨x,G,E,D⟩:=O r.op hr.1 (hL2 _ (h2 _ M));exact((mem x G E).2.2.1 _ D).2 (h2 _ M)
 rcases hr.2 with⟨G,E,D,S⟩|⟨x,G,E,D,S,g5,g6,g7⟩
 .exact qf (by simp[D]) (by simp[E]) (by rw[S];exact B) (by simp[G]) (λ_=>D)
 .obtain⟨f1,f2,f3,f4,f5⟩:=mem x G E;refine qf (λc j=>⟨λh=>(f1 c (S c j)).1 (Z c h),λh=>(f1 c (S c j)).2 (h2 c h)⟩) (λc j h=>f2 c (D▸j) (h2 c h)) ?_ (λj=>?_) (λj=>?_)
  .cases N:r.isCall with
   |true=>rw[(g6 N).1];simp
   |false=>rw[g7 N];exact B
  .obtain⟨e1,e2,e3⟩:=f4 (g5▸j);exact⟨h3.trans e1,h4 e2,λc h=>(g6 j).2 c (e3 c (Z c h))⟩
  .have:=f5 (h3▸j);cases hw:r.writes with
   |nil=>rfl
   |cons c l=>have h:=S c (by rw[hw];simp);rw[this]at h;simp at h
theorem BC{call1 u:FuncId->List AV->ah->Option (AV×ah)}{n i j:Nat}{D:List AV}{H:ah}(B:∀f args H,n<H.next->call1 f args H=u f args H)(E:n<H.next):bW P F call1 ops base i j D H=bW P F u ops base i j D H:=by
 unfold bW;split
 .rfl
 .split
  .split
   .rfl
   .rw[B _ _ _ (by show n<(eZ base j i H).next;rw[(io base j i H).1];exact E)]
   .rfl
  .rfl
  .rfl
theorem qg{call1 u:FuncId->List AV->ah->Option (AV×ah)}{n:Nat}{j:List Nat}(D:∀f args H,n<H.next->call1 f args H=u f args H)(O:fU P call1):∀(l:List Nat) (E:List AV) (H:ah) (rs:List sZ) (r:List AV×ah×List sZ),n<H.next->fS P F call1 ops base j l E H rs=some r->fS P F u ops base j l E H rs=some r
 |[],E,H,rs,r,_,h=>h
 | i::l,E,H,rs,r,hn,h=>by
  have G:∀{B N x},bW P F call1 ops base i (j.getD i 0) E H=some (B,N,x)->H.next<=N.next:=λ{B N x} M=>by
   have:∃l,fS P F call1 ops base j [i] E H []=some (B,N,l):=by
    unfold fS;rw[M];cases x
    .exact⟨_,rfl⟩
    .exact⟨_,rfl⟩
   obtain⟨l,this⟩:=this;exact oz O [i] _ _ _ _ _ _ this
  unfold fS at h ⊢;rw[<-BC (call1:=call1) D hn];split at h
  .rename_i M;exact qg D O l _ _ _ r (abk hn (G M)) h
  .rename_i M;split at h
   .rename_i S;rw[if_pos S];exact qg D O l _ _ _ r (abk hn (G M)) h
   .cases h
  .cases h
theorem range'_succ(k m:Nat):List.range' k (m+1)=k::List.range' (k+1) m:=rfl
theorem vD{u:List Nat}:∀(m k:Nat) (B:List AV) (L:SH) (Y:List W.WR) (K:List AV->SH->Prop),W.dr P F ops u (List.range' k m) B L Y K->∀(H:ah) (rs:List sZ),Bd H->mf L H->
  (∀j,k<=j->j<k+m->base+j<H.next/\H.get (base+j)=none)->base+k<=H.next->(∀r∈rs,OQ base k Y r)->YC base k L Y->
  ∃call D H' L' N,fU P call/\LS call/\fS P F call ops base u (List.range' k m) B H rs=some (D,H',N)/\Fr base L H L' H'/\K D L'
 |0,k,B,L,Y,K,h,H,rs,hb,hs,_,_,_,_=>⟨LR,B,H,L,rs,vx P,λ_ _ _ _ _ _ h=>(by cases h),rfl,.refl hb hs,h⟩
 | m+1,k,B,L,Y,K,h,H,rs,hb,hs,hfr,hbase,hrel,hma=>by
  rw[range'_succ]at h ⊢;have h0:=hfr k (Fd _) acN;have hlt:∀c,c∈L.names->c<H.next:=λc M=>by
   obtain⟨x,_,hx⟩:=hs.mem M;rcases LE c H.next with E|E
   .exact E
   .rw[hb c E]at hx;cases hx
  unfold W.dr at h;split at h
  .exact h.elim
  .rename_i o ho;have go:∀(Kc:AV->SH->W.Fp->Prop),ff ops o B=some true->W.dop P F (Y.filter λx=>!(u.getD k 0).testBit x.op) k o.op (lj B) L Kc->(∀v L1 r,Kc v L1 r->W.dr P F ops u (List.range' (k+1) m) (iw B o.dst v) L1 (W.push k o.op r Y) K)->
     ∃call D H' L' N,fU P call/\LS call/\fS P F call ops base u (k::List.range' (k+1) m) B H rs=some (D,H',N)/\Fr base L H L' H'/\K D L':=by
    intro Kc hw hop hk;have val:∀(v:AV) (H1:ah) (L1:SH) (wr:W.Fp),bu P F o.op (lj B) (base+k) H=some (.val v H1)->pI (base+k) L H L1 H1->Kc v L1 wr->
      (∀r∈rs,(u.getD k 0).testBit r.op=false->mH r ⟨k,aV o.op (lj B),aK o.op (lj B),[base+k],false,0,0⟩=false)->
      OQ base (k+1) (W.push k o.op wr Y) ⟨k,aV o.op (lj B),aK o.op (lj B),[base+k],false,0,0⟩->(∀x∈Y,x∈W.push k o.op wr Y)->(base+k∈L1.names->∃x∈W.push k o.op wr Y,x.op=k/\base+k∈x.made)->
      ∃call D H' L' N,fU P call/\LS call/\fS P F call ops base u (k::List.range' (k+1) m) B H rs=some (D,H',N)/\Fr base L H L' H'/\K D L':=by
     intro v H1 L1 wr g1 Z g3 g4 g5 g6 g7;obtain⟨call,D,H',L',N,k1,k2,k3,k4,k5⟩:=vD m (k+1) (iw B o.dst v) L1 (W.push k o.op wr Y) K (hk v L1 wr g3) {H1 with log:=H.log} (⟨k,aV o.op (lj B),aK o.op (lj B),[base+k],false,0,0⟩::rs) Z.bd (Z.sub.congr λ_=>rfl) (λj E h2=>by
       have hj0:=hfr j acN acN;exact⟨by show base+j<H1.next;rw[Z.next];exact hj0.1,Z.dom _ acN hj0.2⟩) (by show base+(k+1)<=H1.next;rw[Z.next];omega) (λr hr=>by
       rcases aaj.1 hr with rfl|hr
       .exact g5
       .exact(hrel r hr).more (acC _) g6) (λj hj G=>by
       rcases Z.fresh _ G with E|E
       .have:j=k:=by omega
        subst this;exact g7 G
       .have hjk:j≠k:=λe=>by subst e;exact hs.not_mem h0.2 E
        obtain⟨x,e1,e2⟩:=hma j acN E;exact⟨x,g6 x e1,e2⟩)
     refine⟨call,D,H',L',N,k1,k2,?_,Fr.trans (H':={H1 with log:=H.log}) ⟨Nat.le_of_eq Z.next.symm,Z.bd,Z.sub.congr λ_=>rfl,Z.keep,λc M=>Z.dom c acN,λc M hlt=>(Z.fresh c M).resolve_left acN⟩ k4 (Fd _),k5⟩;unfold fS bW;simp only[ho,hw,g1];rw[if_pos]
     .exact k3
     .rw[abh];intro r hr;cases G:(u.getD k 0).testBit r.op with
      |true=>rfl
      |false=>rw[g4 r hr G];rfl
    rcases OP hop with⟨c,f,g,cs,e1,e2,e3,hd⟩|⟨G,hcv,O,hop⟩|⟨G,hcv,hv,hop⟩
    ·
     obtain⟨Kp,R,hL,O,bd,hcall⟩:=hd;have hs':=hs.perm hL;have hn:∀b,b∈L.names↔b∈Kp.names\/b∈R.names:=λb=>by rw[(hL.map Prod.fst).mem_iff,ST,aak]
     generalize hmask:u.getD k 0=mask at O hop
     let Hid:Nat->Prop:=λc=>∃j,j<k/\mask.testBit j=false/\c=base+j
     have hHid:∀c,Hid c->c<H.next/\base<=c:=λc ⟨j,hj,_,M⟩=>by omega
     have hKp:∀c,c∈Kp.names->¬Hid c:=λc M ⟨j,hj,hmj,hcj⟩=>by subst hcj;obtain⟨x,f1,f2,f3⟩:=hma j hj ((hn _).2 (.inl M));exact((O x (by rw[acn];exact⟨f1,by rw[f2,hmj];rfl⟩)).2.2.1 _ f3).2 M
     have hhg:∀c,({eZ base mask k H with log:=[]}:ah).get c=if Hid c then none else H.get c:=λc=>jp base mask k H c
     have hhn:({eZ base mask k H with log:=[]}:ah).next=H.next:=(io base mask k H).1
     generalize hHh:({eZ base mask k H with log:=[]}:ah)=Hh at hhg hhn;have hhl:Hh.log=[]:=by rw[<-hHh]
     have hbh:Bd Hh:=λc M=>by
      rw[hhg];split
      .rfl
      .exact hb c acN
     have hsh:mf Kp Hh:=⟨hs'.left.nd,λp hp=>by rw[hhg,if_neg (hKp _ (abE hp))];exact hs'.left.get p hp⟩;obtain⟨v,H1,K1,c1,c2,c3⟩:=hcall Hh hbh hsh;have hnx:=c2.next
     let Ho:ah:={H1 with next:=H1.next+1,log:=Kp.names}
     let Hn:ah:={jO base mask H k Ho with log:=H.log}
     have hng:∀c,Hn.get c=if Hid c then H.get c else H1.get c:=λc=>mO base mask H k Ho c
     have hnn:Hn.next=H1.next+1:=(iU base mask H k Ho).1;have hK1:∀c,c∈K1.names->¬Hid c:=λc M S=>hKp c (c2.fresh c M (by have:=(hHid c S).1;omega)) S
     have hR:∀p∈R,Hn.get p.1=some p.2/\p.1∉K1.names:=λp hp=>by
      rw[hng];by_cases S:Hid p.1
      .rw[if_pos S];exact⟨hs'.right.get p hp,λM=>hK1 _ M S⟩
      .rw[if_neg S];exact c2.keep p.1 p.2 (by rw[hhg,if_neg S];exact hs'.right.get p hp) (λhk=>hs'.disj hk (abE hp))
     have frn:Fr base L H (K1++R) Hn:=by
      refine⟨by rw[hnn];omega,λc M=>?_,⟨?_,λp hp=>?_⟩,λb x E h2=>?_,λb hb' E=>?_,λb E h2=>?_⟩
      .rw[hnn]at M;rw[hng,if_neg (λS=>by have:=(hHid c S).1;omega)];exact c2.bd c acN
      .unfold SH.names;rw[ST,acy];refine⟨c2.sub.nd,hs'.right.nd,λa ha b hb he=>?_⟩;subst he;obtain⟨p,hp,rfl⟩:=abP.1 hb;exact(hR p hp).2 ha
      .rcases aak.1 hp with hp|hp
       .rw[hng,if_neg (hK1 _ (abE hp))];exact c2.sub.get p hp
       .exact(hR p hp).1
      .rw[hn]at h2;have:Hn.get b=some x/\b∉K1.names:=by
        rw[hng];by_cases S:Hid b
        .rw[if_pos S];exact⟨E,λM=>hK1 _ M S⟩
        .rw[if_neg S];exact c2.keep b x (by rw[hhg,if_neg S];exact E) (λhk=>h2 (.inl hk))
       refine⟨this.1,λhk=>?_⟩;unfold SH.names at hk;rw[ST,aak]at hk;rcases hk with hk|hk
       .exact this.2 hk
       .exact h2 (.inr hk)
      .have S:¬Hid b:=λS=>by have:=(hHid b S).2;omega
       rw[hng,if_neg S];exact c2.dom b acN (by rw[hhg,if_neg S];exact E)
      .unfold SH.names at E;rw[ST,aak]at E;rw[hn];rcases E with E|E
       .exact .inl (c2.fresh b E acN)
       .exact .inr E
     let r:sZ:=⟨k,[],Ho.log.filter (λc=>(Hh.get c).isSome),[],true,H.next,Ho.next⟩
     obtain⟨call,D,H',L',N,k1,k2,k3,k4,k5⟩:=vD m (k+1) (iw B o.dst v) (K1++R) ((⟨k,[],Kp.names,[],true,L.names⟩:W.WR)::Y) K (by have:=hk v _ _ (c3.h _ rfl);rw[show W.push k o.op ⟨[],Kp.names,[],L.names⟩ Y=(⟨k,[],Kp.names,[],true,L.names⟩:W.WR)::Y from by simp[W.push,W.isCallV,e1,e2]]at this;exact this) Hn (r::rs) frn.bd frn.sub (λj E h2=>by
       have hj0:=hfr j acN acN;have S:¬Hid (base+j):=λ⟨q,hq,_,he⟩=>by omega
       refine⟨by rw[hnn];omega,?_⟩;rw[hng,if_neg S];exact c2.dom _ acN (by rw[hhg,if_neg S];exact hj0.2)) (by rw[hnn];omega) (λq hq=>by
       rcases aaj.1 hq with rfl|hq
       .exact⟨Nat.lt_succ_self _,.inr ⟨_,acJ,rfl,rfl,λc M=>(acn.1 M).1,rfl,λ_=>⟨rfl,hlt⟩,λh=>(by cases h)⟩⟩
       .exact(hrel q hq).more (acC _) λx hx=>acb _ hx) (λj hj G=>by
       have hjk:base+j∈L.names:=by
        rw[hn];unfold SH.names at G;rw[ST,aak]at G;rcases G with G|G
        .exact .inl (c2.fresh _ G acN)
        .exact .inr G
       have hne:j≠k:=λe=>by subst e;exact hs.not_mem h0.2 hjk
       obtain⟨x,f1,f2⟩:=hma j acN hjk;exact⟨x,acb _ f1,f2⟩)
     refine⟨Qv g (c.args.toList.map (lj B)++cs) Hh v Ho call,D,H',L',N,F6 k1 (c1.bump _) (by show Hh.next<=H1.next+1;omega) bd,Ny k2 λ_=>c2.chg _ (by rw[hhl];simp) (λb hb=>hb) _ (acC _),?_,frn.trans k4 (Fd _),k5⟩;have ha:bu P F o.op (lj B) (base+k) H=some (.call g (c.args.toList.map (lj B)++cs)):=by rw[e1];simp[bu,e2,e3]
     have hbm:u.getD k 0=mask:=hmask;have hs1:bW P F (Qv g (c.args.toList.map (lj B)++cs) Hh v Ho call) ops base k mask B H=some (iw B o.dst v,Hn,some r):=by unfold bW;simp only[ho,hw,ha,hHh,Nz];rw[show(eZ base mask k H)={Hh with log:=H.log} from by rw[<-hHh];exact(congrArg (λl=>({eZ base mask k H with log:=l}:ah)) (io base mask k H).2)];rfl
     unfold fS;rw[hbm,hs1];simp only[];rw[if_pos]
     .refine qg (n:=Hh.next) (λf args K hK=>?_) k1 _ _ _ _ _ (by rw[hnn];omega) k3;exact(F7 hK).symm
     .rw[abh];intro q hq;cases hmq:mask.testBit q.op with
      |true=>rfl
      |false=>rw[BB (wy:=⟨k,[],Kp.names,[],true,[]⟩) (hrel q hq) hma hmq O (by simp[r]) (λc M=>(acn.1 M).1) rfl (λhe=>by show List.filter _ Kp.names=[];rw[show Kp.names=[]from he];rfl) acQ (λc M=>(hn c).2 (.inl M))];rfl
    ·
     rcases G6 (b:=base+k) hb hs h0.1 h0.2 hop with⟨v,H1,L1,g1,Z,g3,g4⟩|⟨g,args,g1,Z⟩
     .have hp:W.push k o.op ⟨aV o.op (lj B),aK o.op (lj B),if W0.makes o.op then ai v else [],[]⟩ Y=(⟨k,aV o.op (lj B),aK o.op (lj B),if W0.makes o.op then ai v else [],false,[]⟩:W.WR)::Y:=by simp[W.push,G,hcv]
      refine val v H1 L1 _ g1 Z (g4.h _ rfl) (λr hr hun=>?_) (by rw[hp];exact⟨Nat.lt_succ_self _,.inr ⟨_,acJ,rfl,rfl,λc h=>h,rfl,λh=>(by cases h),λ_=>rfl⟩⟩) (λx hx=>by rw[hp];exact acb _ hx) (λG=>by rw[hp];exact⟨_,acJ,rfl,by show _∈(if W0.makes o.op=true then ai v else []);rw[if_pos (g3 G).1];exact(g3 G).2⟩);exact BB (wy:=⟨k,aV o.op (lj B),aK o.op (lj B),[],false,[]⟩) (hrel r hr) hma hun O (λc h=>h) (λc h=>h) rfl (λh=>h) (Jt hop) (λc M=>Jt hop c (vt M))
     .obtain⟨c,f,e1,e2⟩:=Js g1;rw[e1]at G;simp[W.isMem,e2]at G
    ·
     have hop':=Tw (K2:=λv L'=>Kc v L' ⟨[],[],[],[]⟩/\L'=L) (λv h=>⟨h,rfl⟩) G hv hop;rcases G6 (b:=base+k) hb hs h0.1 h0.2 hop' with⟨v,H1,L1,g1,Z,g3,g4,g5⟩|⟨g,args,g1,Z⟩
     .obtain⟨n1,n2⟩:=G7 (ρ:=lj B) G;subst g5;have hp:W.push k o.op ⟨[],[],[],[]⟩ Y=Y:=by simp[W.push,G,hcv]
      refine val v H1 _ ⟨[],[],[],[]⟩ g1 Z g4 (λr hr hun=>?_) ⟨Nat.lt_succ_self _,.inl ⟨rfl,n1,n2,rfl⟩⟩ (λx hx=>by rw[hp];exact hx) (λh=>absurd h (hs.not_mem h0.2));rw[n1,n2];refine qf acQ acQ acQ acQ acQ
     .obtain⟨c,f,e1,e2⟩:=Js g1;exact absurd e2 (hv c f e1)
   split at h
   .rename_i hg;exact go _ (zr hg) h λv L1 r h=>h
   .rename_i j want hg;split at h
    .rename_i d hd;rcases h.h with⟨E,h2⟩|⟨E,h2⟩
     .exact go _ (BA hg hd E) h2 λv L1 r h=>h
     .have hps:∀x∈Y,x∈W.push k o.op ⟨[],[],[],L.names⟩ Y:=λx hx=>by
       unfold W.push;split
       .exact acb _ hx
       .exact hx
      obtain⟨call,D,H',L',N,k1,k2,k3,k4,k5⟩:=vD m (k+1) (iw B o.dst bY) L _ K h2 H rs hb hs (λj E h2=>hfr j acN acN) acN (λr hr=>(hrel r hr).more (acC _) hps) (λj hj G=>by
       have hne:j≠k:=λe=>by subst e;exact hs.not_mem h0.2 G
       obtain⟨x,e1,e2⟩:=hma j acN G;exact⟨x,hps x e1,e2⟩)
      refine⟨call,D,H',L',N,k1,k2,?_,k4,k5⟩;unfold fS bW;simp only[ho,F8 hg hd E];exact k3
    .exact h.elim
end
end
section
open Go.RowKit
inductive Fz (K:SH):AV->AV->Prop where
 |refl (v:AV):Fz K v v
 |nils:Fz K .nils (.lst [])
 |nile:Fz K .nils .emp
 |emp:Fz K .emp (.lst [])
 |sl0 (b i:Nat):Fz K (.sl b i 0) (.lst [])
 | sl (b i n:Nat) (x:Blk) (rows:List (List AV)) (hm:(b,x)∈K) (hs:0<x.size) (hn:0<n) (hl:rows.length=n) (hle:i+n<=x.rows.length)
   (hr:∀(j:Nat) (r r2:List AV),x.rows[i+j]? =some r->rows[j]? =some r2->r.length=r2.length)
   (hc:∀(j:Nat) (r r2:List AV) (q:Nat) (a a2:AV),x.rows[i+j]? =some r->rows[j]? =some r2->r[q]? =some a->r2[q]? =some a2->Fz K a a2):Fz K (.sl b i n) (.lst rows)
 | ptr (b i off:Nat) (x:Blk) (rows:List (List AV)) (hm:(b,x)∈K) (hs:0<x.size) (hl:rows.length=x.rows.length) (hn:0<rows.length)
   (hr:∀(j:Nat) (r r2:List AV),x.rows[j]? =some r->rows[j]? =some r2->r.length=r2.length)
   (hc:∀(j:Nat) (r r2:List AV) (q:Nat) (a a2:AV),x.rows[j]? =some r->rows[j]? =some r2->r[q]? =some a->r2[q]? =some a2->Fz K a a2):Fz K (.ptr b i off) (.pptr rows i off)
 |agg (cs cs2:List AV) (hl:cs.length=cs2.length) (h:∀(i:Nat) (a a2:AV),cs[i]? =some a->cs2[i]? =some a2->Fz K a a2):Fz K (.agg cs) (.agg cs2)
 |tup (cs cs2:List AV) (hl:cs.length=cs2.length) (h:∀(i:Nat) (a a2:AV),cs[i]? =some a->cs2[i]? =some a2->Fz K a a2):Fz K (.tup cs) (.tup cs2)
theorem Wn{K:SH}{v:Value}{a j:AV}(h:LD v=some a)(u:Fz K a j):j=a:=by cases v<;>simp only[LD,aaS,reduceCtorEq]at h<;>subst h<;>cases u<;>rfl
theorem vh.fz{K:SH}{w:World}{x y:Blk}{pl:de}(h:vh w x pl)(e1:x.size=y.size)(e2:x.rows.length=y.rows.length)
  (e3:∀(j:Nat) (r M:List AV),x.rows[j]? =some r->y.rows[j]? =some M->r.length=M.length/\∀(k:Nat) (a a2:AV),r[k]? =some a->M[k]? =some a2->Fz K a a2):vh w y pl:=by
 have O:(∀(j:Nat) (r:List AV),x.rows[j]? =some r->∀(k:Nat) (a:AV),r[k]? =some a->∃v,LD v=some a)->y.rows=x.rows:=λhk=>by
  refine acp λj=>?_
  rcases LE j x.rows.length with Y|Y
  .have Z:x.rows[j]? =some x.rows[j]:=mt Y;have E:y.rows[j]? =some (y.rows[j]'acN):=mt acN;obtain⟨g1,g2⟩:=e3 j _ _ Z E;rw[Z,E];congr 1;refine acp λk=>?_
   rcases LE k x.rows[j].length with B|B
   .have u:x.rows[j][k]? =some x.rows[j][k]:=mt B;have h4:(y.rows[j]'acN)[k]? =some ((y.rows[j]'acN)[k]'acN):=mt acN;obtain⟨v,hv⟩:=hk j _ Z k _ u;rw[u,h4,Wn hv (g2 k _ _ u h4)]
   .rw[aah B,aah acN]
  .rw[aah Y,aah acN]
 have hy:y.rows=x.rows:=O λj r G k a D=>by
  rcases h.obj with⟨_,es,clk,_,E⟩|⟨_,s,N,_,E⟩
  .have u:(es.toList.map IX)[j]? =some (some r):=by rw[E,abn,G];rfl
   rw[abn]at u;cases he:es.toList[j]? with
   |none=>rw[he]at u;cases u
   |some e=>
    rw[he]at u;simp only[abp,aaS]at u;unfold IX at u;split at u
    .rename_i k' v' B S;cases u
     match k with
     |0=>cases D;exact⟨_,B⟩
     |1=>cases D;exact⟨_,S⟩
     |k+2=>simp at D
    .cases u
  .rw[E]at G
   match j with
   |0=>
    cases G
    match k with
    |0=>cases D;exact⟨.string s,rfl⟩
    |1=>cases D;exact⟨.int .i64 N,rfl⟩
    |k+2=>simp at D
   |j+1=>simp at G
 exact⟨e1▸h.size,h.psize,by rw[hy];exact h.obj⟩
section
variable {P:Program} {F:TypeId->Option (List TypeId)} {w:World} {σ:bO} {H H2:ah} {K:SH}
theorem Qw(hW:bJ w σ H)(hK:mf K H)(hown:∀c,aX σ H2 c->aX σ H c)(hout:∀b∈K.names,∀S,σ b=some S->¬aX σ H2 S.block){a a2:AV}(hz:Fz K a a2):∀{v:Value},bC w σ (aX σ H) a v->bC w σ (aX σ H2) a2 v:=by
 induction hz with
 |refl v=>intro u h;exact h.shrink hown
 |nils=>intro u h;cases h;exact .lst0 _ _ (by unfold maxLen;omega)
 |nile=>intro u h;cases h;exact .emp _
 |emp=>intro u h;cases h;exact .lst0 _ _ (by unfold maxLen;omega)
 |sl0 b i=>intro u h;obtain⟨S,ad,cap,rfl,hs,hn,hm,ha⟩:=h.sl_inv;exact .lst0 _ _ hm
 |sl b i n x B hm hs hn hl hle hr hc ih=>
  intro u h;have h0_:=h;obtain⟨S,ad,cap,rfl,Z,hn',hmx,ha⟩:=h.sl_inv;obtain⟨rfl,cs,ty,hcs,hroom⟩:=ha acN;obtain⟨pl',cs',e',g1,G⟩:=hW.live b x (hK.get _ hm);rw[Z]at g1;cases g1;replace G:=G.1 (h0_.sl_ok Z);have M:∀(j:Nat) (D:List AV),B[j]? =some D->∃r,x.rows[i+j]? =some r/\r.length=D.length:=λj D O=>by
   have hj:=aH O;have:i+j<x.rows.length:=by omega
   exact⟨_,mt this,hr j _ D (mt this) O⟩
  have:=bC.lst (w:=w) (σ:=σ) (T:=aX σ H2) B S.block (S.base+i*S.size) S.size cap
   ⟨hout b (abE hm) S Z,λq D O=>by
    obtain⟨r,N,k2⟩:=M q D O;rw[<-k2,G.even _ r N,G.size],λq j hq hj=>by
    obtain⟨r,N,k2⟩:=M q B[q] (mt hq);have E:j<r.length:=by rw[G.even _ r N,<-G.size];exact hj
    obtain⟨u,hu,_⟩:=G.row N j _ (mt E);rw[abM,<-Nat.add_assoc]at hu;exact⟨u,hu⟩,by rw[G.size];exact hs,acN⟩ acN hmx
   (λq D j y u O hy hu=>by
    obtain⟨r,N,k2⟩:=M q D O;have E:j<r.length:=by rw[k2];exact aH hy
    obtain⟨u',Y,hz⟩:=G.row N j _ (mt E);rw[abM,<-Nat.add_assoc]at Y;rw[hu]at Y;cases Y;exact ih q r D j _ y N O (mt E) hy hz)
  rw[hl]at this;exact this
 |ptr b i off x B hm hs hl hn hr hc ih=>
  intro u h;cases h with
  |ptr _ _ _ S Z hp=>
  obtain⟨pl',cs',e',g1,G⟩:=hW.live b x (hK.get _ hm);rw[Z]at g1;cases g1;replace G:=G.1 hp;have M:∀(j:Nat) (D:List AV),B[j]? =some D->∃r,x.rows[j]? =some r/\r.length=D.length:=λj D O=>by
   have hj:=aH O;have:j<x.rows.length:=by omega
   exact⟨_,mt this,hr j _ D (mt this) O⟩
  exact bC.pptr (w:=w) (σ:=σ) (T:=aX σ H2) B i off S.block S.base S.size
   ⟨hout b (abE hm) S Z,λq D O=>by
    obtain⟨r,N,k2⟩:=M q D O;rw[<-k2,G.even _ r N,G.size],λq j hq hj=>by
    obtain⟨r,N,k2⟩:=M q B[q] (mt hq);have E:j<r.length:=by rw[G.even _ r N,<-G.size];exact hj
    obtain⟨u,hu,_⟩:=G.row N j _ (mt E);exact⟨u,hu⟩,by rw[G.size];exact hs,acN⟩
   (λq D j y u O hy hu=>by
    obtain⟨r,N,k2⟩:=M q D O;have E:j<r.length:=by rw[k2];exact aH hy
    obtain⟨u',Y,hz⟩:=G.row N j _ (mt E);rw[hu]at Y;cases Y;exact ih q r D j _ y N O (mt E) hy hz)
 |agg cs cs2 hl h ih=>
  intro u hu;cases hu with
  |agg _ vs hlv hc=>
   refine .agg cs2 vs acN λq y z hy hz=>?_
   have hq:q<cs.length:=by rw[hl];exact aH hy
   exact ih q _ y (mt hq) hy (hc q _ z (mt hq) hz)
 |tup cs cs2 hl h ih=>
  intro u hu;cases hu with
  |tup _ vs hlv hc=>
   refine .tup cs2 vs acN λq y z hy hz=>?_
   have hq:q<cs.length:=by rw[hl];exact aH hy
   exact ih q _ y (mt hq) hy (hc q _ z (mt hq) hz)
structure ax(vs:List AV)(L:SH)(vs2:List AV)(L2:SH):Prop where
 ex:∃K R:SH,L.Perm (K++R)/\(vs.length=vs2.length/\∀(i:Nat) (a a2:AV),vs[i]? =some a->vs2[i]? =some a2->Fz K a a2)/\R.length=L2.length/\
  ∀(i:Nat) (p q:Nat×Blk),R[i]? =some p->L2[i]? =some q->p.1=q.1/\p.2.size=q.2.size/\p.2.rows.length=q.2.rows.length/\
   ∀(j:Nat) (r r2:List AV),p.2.rows[j]? =some r->q.2.rows[j]? =some r2->r.length=r2.length/\∀(k:Nat) (a a2:AV),r[k]? =some a->r2[k]? =some a2->Fz K a a2
theorem ax.refl(vs:List AV)(L:SH):ax vs L vs L:=⟨[],L,.refl _,⟨rfl,λi a N B u=>by rw[B]at u;cases u;exact .refl _⟩,rfl,λi p q B u=>by
 rw[B]at u;cases u;exact⟨rfl,rfl,rfl,λj r O M E=>by rw[M]at E;cases E;exact⟨rfl,λk a N G D=>by rw[G]at D;cases D;exact .refl _⟩⟩⟩
theorem ax.drop{vs u:List AV}{L K R:SH}(N:L.Perm (K++R))(M:vs.length=u.length)(h:∀(i:Nat) (a B:AV),vs[i]? =some a->u[i]? =some B->Fz K a B):ax vs L u R:=⟨K,R,N,⟨M,h⟩,rfl,λi p q Y G=>by
 rw[Y]at G;cases G;exact⟨rfl,rfl,rfl,λj r Z S E=>by rw[S]at E;cases E;exact⟨rfl,λk a B O D=>by rw[O]at D;cases D;exact .refl _⟩⟩⟩
def ah.repl(H:ah)(K:List Nat)(L2:SH):ah:=L2.foldl (λH p=>{H with tr:=H.tr.set p.1 (some p.2)}) (K.foldl (λH b=>{H with tr:=H.tr.set b none}) H)
theorem BD(K:List Nat):∀(H:ah) (c:Nat),(K.foldl (λH b=>({H with tr:=H.tr.set b none}:ah)) H).get c=(if c∈K then none else H.get c)/\(K.foldl (λH b=>({H with tr:=H.tr.set b none}:ah)) H).next=H.next:=by
 induction K with
 |nil=>intro H c;simp
 |cons b K B=>
  intro H c;simp only[acg];obtain⟨E,D⟩:=B {H with tr:=H.tr.set b none} c;refine⟨?_,D⟩;rw[E];by_cases j:c∈K
  .simp[j]
  .have:({H with tr:=H.tr.set b none}:ah).get c=if b=c then none else H.get c:=Tr.get_set _ _ _ _
   rw[if_neg j,this];by_cases u:b=c
   .subst u;simp
   .rw[if_neg u,if_neg];simp only[aaj,not_or];exact⟨λe=>u e.symm,j⟩
theorem BE:∀(L2:SH),L2.names.Nodup->∀(H:ah) (c:Nat),((∀x,(c,x)∈L2->(L2.foldl (λH p=>({H with tr:=H.tr.set p.1 (some p.2)}:ah)) H).get c=some x)/\(c∉L2.names->(L2.foldl (λH p=>({H with tr:=H.tr.set p.1 (some p.2)}:ah)) H).get c=H.get c))/\(L2.foldl (λH p=>({H with tr:=H.tr.set p.1 (some p.2)}:ah)) H).next=H.next:=by
 intro L2
 induction L2 with
 |nil=>intro _ H c;simp
 |cons p L G=>
  intro u H c;simp only[aai,abG]at u;obtain⟨⟨M,E⟩,h3⟩:=G u.2 {H with tr:=H.tr.set p.1 (some p.2)} c;have D:({H with tr:=H.tr.set p.1 (some p.2)}:ah).get c=if p.1=c then some p.2 else H.get c:=Tr.get_set _ _ _ _
  refine⟨⟨λx j=>?_,λB=>?_⟩,h3⟩
  .simp only[acg];rcases aaj.1 j with j|j
   .subst j;rw[E u.1,D,if_pos rfl]
   .exact M x j
  .simp only[acg];simp only[aai,aaj,not_or]at B;rw[E B.2,D,if_neg (λe=>B.1 e.symm)]
theorem km{vs vs2:List AV}{L L2:SH}(h:ax vs L vs2 L2)(hs:mf L H)(hb:Bd H):∃H2:ah,Fr H.next L H L2 H2/\H2.next=H.next/\
  (∀(w:World) (σ:bO),bJ w σ H->bJ w σ H2/\(∀c,aX σ H2 c->aX σ H c)/\∀(us:List Value),fX w σ (aX σ H) vs us->fX w σ (aX σ H2) vs2 us)/\∀b,b∉L.names->H2.get b=H.get b:=by
 obtain⟨K,R,hL,⟨hl,hv⟩,hlen,hR⟩:=h.ex;have hs':=hs.perm hL;have hn:∀b,b∈L.names↔b∈K.names\/b∈R.names:=λb=>by rw[(hL.map Prod.fst).mem_iff,ST,aak]
 have B:L2.names=R.names:=by
  apply acp;intro i;unfold SH.names;rw[abn,abn];rcases LE i R.length with hi|hi
  .have hi2:i<L2.length:=by omega
   rw[mt hi,mt hi2];simp only[abp,aaS];exact(hR i _ _ (mt hi) (mt hi2)).1.symm
  .rw[aah hi,aah acN]
 have hnd2:L2.names.Nodup:=by rw[B];exact hs'.right.nd
 let H2:=H.repl K.names L2
 have hget:∀c,(∀x,(c,x)∈L2->H2.get c=some x)/\(c∉L2.names->H2.get c=if c∈K.names then none else H.get c):=λc=>by obtain⟨⟨E,G⟩,_⟩:=BE L2 hnd2 (K.names.foldl (λH b=>{H with tr:=H.tr.set b none}) H) c;exact⟨E,λhc=>(G hc).trans (BD K.names H c).1⟩
 have M:H2.next=H.next:=(BE L2 hnd2 _ 0).2.trans (BD K.names H 0).2;have D:∀b y,H2.get b=some y->∃x,H.get b=some x/\b∉K.names/\x.size=y.size/\x.rows.length=y.rows.length/\∀(j:Nat) (r Z:List AV),x.rows[j]? =some r->y.rows[j]? =some Z->r.length=Z.length/\∀(k:Nat) (a a2:AV),r[k]? =some a->Z[k]? =some a2->Fz K a a2:=λb y hy=>by
  by_cases hb2:b∈L2.names
  .obtain⟨q,hq,rfl⟩:=abP.1 hb2;have hqy:H2.get q.1=some q.2:=(hget q.1).1 q.2 hq;rw[hy]at hqy;cases hqy;obtain⟨i,hi,hqi⟩:=abC hq;have hi':i<R.length:=by omega
   obtain⟨e1,e2,e3,e4⟩:=hR i R[i] q (mt hi') (by rw[mt hi,hqi]);refine⟨R[i].2,?_,λhk=>hs'.disj hk (B▸hb2),e2,e3,e4⟩;rw[<-e1];exact hs'.right.get _ (LT hi')
  .rw[(hget b).2 hb2]at hy;split at hy
   .cases hy
   .rename_i hk;exact⟨y,hy,hk,rfl,rfl,λj r Z E G=>by rw[E]at G;cases G;exact⟨rfl,λk a a2 Y h4=>by rw[Y]at h4;cases h4;exact .refl _⟩⟩
 have hout:∀b,b∉L.names->H2.get b=H.get b:=λb hbn=>by rw[hn,not_or]at hbn;rw[(hget b).2 (by rw[B];exact hbn.2),if_neg hbn.1]
 refine⟨H2,⟨by rw[M];exact Fd _,λb hb'=>?_,⟨hnd2,λp hp=>(hget p.1).1 p.2 hp⟩,λb x E G=>⟨by rw[hout b G];exact E,λY=>G ((hn b).2 (.inr (B▸Y)))⟩,λb _ E=>?_,λb E _=>(hn b).2 (.inr (B▸E))⟩,M,λw σ hW=>?_,hout⟩
 .rw[M]at hb';cases hg:H2.get b with
  |none=>rfl
  |some y=>obtain⟨x,N,_⟩:=D b y hg;rw[hb b hb']at N;cases N
 .cases hg:H2.get b with
  |none=>rfl
  |some y=>obtain⟨x,N,_⟩:=D b y hg;rw[E]at N;cases N
 .have S:∀c,aX σ H2 c->aX σ H c:=λc hc=>by
   rcases hc with hc|⟨b,y,O,E,G,Y⟩
   .exact .inl hc
   .obtain⟨x,N,_⟩:=D b y E;exact .inr ⟨b,x,O,N,G,Y⟩
  have hnot:∀b∈K.names,∀O,σ b=some O->¬aX σ H2 O.block:=λb hbK O hpl ho=>by
   obtain⟨x,_,N⟩:=hs'.left.mem hbK;rcases ho with ho|⟨b',y,pl',E,G,Y⟩
   .exact(hW.apart _ ho).2 ⟨b,x,O,N,hpl,rfl⟩
   .obtain⟨x',hx',hk',_⟩:=D b' y E;have:=hW.inj b' b x' x pl' O hx' N G hpl Y;subst this;exact hk' hbK
  refine⟨⟨λb O hb=>by rw[M];exact hW.named b O hb,hW.lt,λb y hy=>?_,λc hc=>⟨(hW.apart c hc).1,λ⟨b,y,O,E,G,Y⟩=>?_⟩,λb b' y y' O pl' E G Y h4 h5=>?_,hW.glob.less S⟩,S,λus hus=>⟨by rw[<-hl];exact hus.1,λi a2 u E G=>?_⟩⟩
  .obtain⟨x,N,hk,e1,e2,e3⟩:=D b y hy;obtain⟨O,cs,e,g1,g2⟩:=hW.live b x N;have row:∀(j:Nat) (Z:List AV),y.rows[j]? =some Z->∃r,x.rows[j]? =some r:=λj Z G=>⟨_,mt (by rw[e2];exact aH G)⟩
   refine⟨O,cs,e,g1,λhp=>?_,λhp=>(g2.2 hp).fz e1 e2 e3⟩;replace g2:=g2.1 hp;refine⟨g2.size.trans e1,g2.block,λi Z G=>?_,by rw[<-e2,<-e1];exact g2.room,λi Z j a2 u G Y h4=>?_⟩
   .obtain⟨r,E⟩:=row i Z G;rw[<-(e3 i r Z E G).1,g2.even i r E,e1]
   .obtain⟨r,E⟩:=row i Z G;obtain⟨e4,e5⟩:=e3 i r Z E G;have hj:j<r.length:=by rw[e4];exact aH Y
    exact Qw hW hs'.left S hnot (e5 j _ a2 (mt hj) Y) (g2.rep i r j _ u E (mt hj) (by rw[e1];exact h4))
  .obtain⟨x,N,_⟩:=D b y E;exact(hW.apart c hc).2 ⟨b,x,O,N,G,Y⟩
  .obtain⟨x,N,_⟩:=D b y E;obtain⟨x',hx',_⟩:=D b' y' G;exact hW.inj b b' x x' O pl' N hx' Y h4 h5
  .have hi:i<vs.length:=by rw[hl];exact aH E
   exact Qw hW hs'.left S hnot (hv i _ a2 (mt hi) E) (hus.2 i _ u (mt hi) G)
theorem dD.fz{c:Code}{O u:List AV}{L L2:SH}{Q:Ex->List AV->SH->Prop}(hz:ax O L u L2)(h:dD P c u L2 Q):dD P c O L Q:=λH hb hs=>by
 obtain⟨H2,N,M,f3,f4⟩:=km hz hs hb;obtain⟨e,E,H',L',S,h2,h3⟩:=h H2 N.bd N.sub;refine⟨e,E,H',L',⟨by rw[<-M];exact S.1,λw σ a hW B Q hQ=>?_⟩,N.trans (h2.low (by rw[M];exact Fd _)) (Fd _),h3⟩;obtain⟨g1,Y,g3⟩:=f3 w σ hW;refine S.2 w σ a g1 ⟨g3 _ B.1,B.2⟩ Q λa' Z ⟨G,t,r,j,m⟩=>hQ a' Z ⟨G,t,r,?_,λc pl D=>by rw[<-M];exact m c pl D⟩
 exact⟨j.os,j.tape,j.output,j.size,λc D hT=>j.keep c D (λh=>hT (Y c h)),j.shape,j.sig,j.eqfr,j.frame,λc D=>(j.own c D).imp (Y c) id⟩
theorem ac.fz{f:FuncId}{args:List AV}{N:SH}{Q:AV->SH->Prop}(h:ac P f args N λv L=>∃v2 L2,ax [v] L [v2] L2/\Q v2 L2):ac P f args N Q:=⟨h.1,λH hb hs=>by
 obtain⟨v,H',L',E,B,v2,L2,hz,h3⟩:=h.2 H hb hs;obtain⟨H2,f1,f2,f3,f4⟩:=km hz B.sub B.bd;refine⟨v2,H2,L2,λw σ S hW M=>(E w σ S hW M).mono ?_,B.trans (f1.low B.next) (Fd _),h3⟩;rintro e O ⟨G,D,rfl,k1,Z,j,Y⟩;obtain⟨g1,g2,g3⟩:=f3 O D Z;have:=g3 [G] ⟨rfl,λi a u E B=>by
  match i with
  |0=>cases E;cases B;exact k1
  |i+1=>cases E⟩
 exact⟨G,D,rfl,this.2 0 v2 G rfl rfl,g1,⟨j.os,j.tape,j.output,j.size,j.keep,j.shape,j.sig,j.eqfr,j.frame,λc hc=>j.own c (g2 c hc)⟩,Y⟩⟩
end
end
section
open Go.RowKit
structure NA where
 join:Nat->Option (List Nat)
 loop:Nat->List Nat
 frz:Nat->List Nat
 mask:Nat->List Nat
def oA(live:List Nat)(τ:List AV):List AV:=live.map λt=>τ.getD t .junk
def co(live:List Nat)(vs:List AV)(t:Nat):AV:=match live,vs with
 |[],_=>.junk
 |_,[]=>.junk
 |d::ds,v::vs=>if d=t then v else co ds vs t
def iW(n:Nat)(live:List Nat)(vs:List AV):List AV:=(List.range n).map (co live vs)
def gS:Code->Option Nat
 |.region id _ _=>some id
 | .seq a b=>match gS a with
  |some i=>some i
  |none=>gS b
 | .cond _ a b=>match gS a with
  |some i=>some i
  |none=>gS b
 |.block _ b=>gS b
 |.loop b=>gS b
 |_=>none
def lH:Code->Option Nat
 |.region id _ _=>some id
 | .seq a b=>match lH b with
  |some i=>some i
  |none=>lH a
 | .cond _ a b=>match lH b with
  |some i=>some i
  |none=>lH a
 |.block _ b=>lH b
 |.loop b=>lH b
 |_=>none
namespace W
abbrev Kn:=List AV->SH->Prop
def frz0(v:AV)(L:SH)(K:AV->SH->Prop):Prop:=match v with
 |.ptr b i off=>∃x L',dF b x L L'/\0<x.size/\0<x.rows.length/\K (.pptr x.rows i off) L'
 |.sl b i n=>∃x L',dF b x L L'/\0<x.size/\i+n<=x.rows.length/\K (.lst ((x.rows.drop i).take n)) L'
 |.nils=>K (.lst []) L
 |.emp=>K (.lst []) L
 |v=>K v L
structure frz1(v:AV)(L:SH)(K:AV->SH->Prop):Prop where
 h:frz0 v L K
def frzs:List Nat->List AV->SH->Kn->Prop
 |[],τ,L,K=>K τ L
 |d::ds,τ,L,K=>frz1 (τ.getD d .junk) L λv L=>frzs ds (τ.set d v) L K
structure cond(v:AV)(A B:Prop):Prop where
 h:(v=.bool true/\A)\/(v=.bool false/\B)
structure join(J:Kn)(B:Kn->Prop):Prop where
 h:B J
structure loop(B:List AV->SH->Kn->Prop)(vs:List AV)(L:SH):Prop where
 h:∃I:Nat->Kn,(∃n vs2 L2,ax vs L vs2 L2/\I n vs2 L2)/\∀n vs L,I n vs L->B vs L λvs' L'=>∃m vs2 L2,m<n/\ax vs' L' vs2 L2/\I m vs2 L2
section
variable (P:Program) (F:TypeId->Option (List TypeId)) (ht:NA)
def code:Code->List AV->SH->Kn->(Nat->Kn)->Kn->Prop
 |.skip,τ,L,kn,_,_=>kn τ L
 |.label _,τ,L,kn,_,_=>kn τ L
 | .region id ops draw,τ,L,kn,_,_=>if draw then(Nv ops&&G4 ops&&(cI ops.toList []==ht.mask id))=true/\dr P F ops (ht.mask id) (List.range' 0 ops.size) τ L [] λτ L=>frzs (ht.frz id) τ L kn
   else sq P F ops (List.range ops.size) τ L λτ L=>frzs (ht.frz id) τ L kn
 | .seq a b,τ,L,kn,kx,kr=>match (lH a).bind ht.join with
  |none=>code a τ L (λτ L=>code b τ L kn kx kr) kx kr
  |some live=>join (λvs L=>code b (iW τ.length live vs) L kn kx kr) λj=>code a τ L (λτ L=>j (oA live τ) L) kx kr
 |.cond x a b,τ,L,kn,kx,kr=>cond (lj τ x) (code a τ L kn kx kr) (code b τ L kn kx kr)
 |.block id b,τ,L,kn,kx,kr=>code b τ L kn (λid' τ L=>if id'=id then kn τ L else kx id' τ L) kr
 | .loop b,τ,L,kn,kx,kr=>match gS b with
  |none=>False
  |some r=>loop (λvs L next=>code b (iW τ.length (ht.loop r) vs) L (λτ L=>next (oA (ht.loop r) τ) L) kx kr) (oA (ht.loop r) τ) L
 |.exit id,τ,L,_,kx,_=>kx id τ L
 |.ret,τ,L,_,_,kr=>kr τ L
 |_,_,_,_,_,_=>False
def pack:List AV->AV
 |[v]=>v
 |vs=>.tup vs
def res:List ResultVar->List AV->SH->List AV->(AV->SH->Prop)->Prop
 |[],_,L,vs,Q=>Q (pack vs.reverse) L
 |.tmp t::rs,τ,L,vs,Q=>res rs τ L (τ.getD t bY::vs) Q
 | .cell a t::rs,τ,L,vs,Q=>match fE P t,bk P t with
  |some ag,some n=>load ag n (τ.getD a bY) L λv=>res rs τ L (v::vs) Q
  |_,_=>False
def func(fn:Func)(c:Code)(args:List AV)(L:SH)(Q:AV->SH->Prop):Prop:=
 code P F ht c (args++List.replicate (fn.ntmps-args.length) bY) L (λτ L=>res P fn.results.toList τ L [] Q) (λ_ _ _=>False) (λτ L=>res P fn.results.toList τ L [] Q)
end
end W
section
variable {P:Program} {F:TypeId->Option (List TypeId)} {ht:NA}
theorem tj(j:List AV)(t:Nat):∀live:List Nat,co live (oA live j) t=.junk\/co live (oA live j) t=j.getD t .junk
 |[]=>.inl rfl
 | d::ds=>by
  simp only[oA,aai,co];by_cases h:d=t
  .subst h;rw[if_pos rfl];exact .inr rfl
  .rw[if_neg h];exact tj j t ds
theorem BF(live:List Nat)(u:List AV):Dim u (iW u.length live (oA live u)):=by
 refine⟨by simp[iW],λi x j=>?_⟩;simp only[iW,abn]at j;rcases LE i u.length with hi|hi
 .rw[acM hi]at j;simp only[abp,aaS]at j;subst j;rcases tj u i live with h|h
  .exact .inl h
  .right;rw[h,mt hi];simp[List.getD,hi]
 .rw[aah (by simpa using hi)]at j;cases j
theorem OR{n:Nat}{live:List Nat}{vs vs2:List AV}{L L2:SH}(h:ax vs L vs2 L2):ax (iW n live vs) L (iW n live vs2) L2:=by
 obtain⟨K,R,G,⟨D,E⟩,h4⟩:=h.ex;refine⟨K,R,G,⟨by simp[iW],λi a a2 j B=>?_⟩,h4⟩;simp only[iW,abn]at j B;cases hr:(List.range n)[i]? with
 |none=>rw[hr]at j;cases j
 |some t=>
  rw[hr]at j B;simp only[abp,aaS]at j B;subst j;subst B;clear hr G h h4
  induction live generalizing vs vs2 with
  |nil=>exact .refl _
  |cons d ds N=>
   cases vs with
   | nil=>cases vs2 with
    |nil=>exact .refl _
    |cons y M=>simp at D
   | cons x xs=>cases vs2 with
    |nil=>simp at D
    |cons y M=>
     simp only[co];by_cases u:d=t
     .rw[if_pos u,if_pos u];exact E 0 x y rfl rfl
     .rw[if_neg u,if_neg u];exact N (by simpa using D) λi a a2 S O=>E (i+1) a a2 (by simpa using S) (by simpa using O)
theorem BG{u:List AV}{d:Nat}{v:AV}{L K R:SH}(hL:L.Perm (K++R))(B:Fz K (u.getD d .junk) v):ax u L (u.set d v) R:=by
 refine .drop hL acQ λi a a2 E j=>?_
 rw[abs]at j;by_cases D:d=i
 .subst D;rw[if_pos rfl]at j;split at j
  .cases j;rw[List.getD,E]at B;exact B
  .cases j
 .rw[if_neg D,E]at j;cases j;exact .refl _
theorem Fz.rows{K:SH}{b i n:Nat}{x:Blk}(hm:(b,x)∈K)(hs:0<x.size)(hle:i+n<=x.rows.length):Fz K (.sl b i n) (.lst ((x.rows.drop i).take n)):=by
 rcases abZ n with rfl|hn
 .simp only[List.take_zero];exact .sl0 b i
 .have get:∀(j:Nat) (r r2:List AV),x.rows[i+j]? =some r->((x.rows.drop i).take n)[j]? =some r2->r=r2:=λj r r2 B u=>by
   rw[List.getElem?_take]at u;split at u
   .rw[abY,B]at u;cases u;rfl
   .cases u
  refine .sl b i n x _ hm hs hn acS hle (λj r r2 B u=>by rw[get j r r2 B u]) λj r r2 q a a2 B u E D=>?_
  have:=get j r r2 B u;subst this;rw[E]at D;cases D;exact .refl _
theorem Fz.box{K:SH}{b i off:Nat}{x:Blk}(hm:(b,x)∈K)(hs:0<x.size)(hn:0<x.rows.length):Fz K (.ptr b i off) (.pptr x.rows i off):=
 .ptr b i off x x.rows hm hs rfl hn (λj r r2 B u=>by rw[B]at u;cases u;rfl) λj r r2 q a a2 B u E D=>by rw[B]at u;cases u;rw[E]at D;cases D;exact .refl _
theorem dD.post{c:Code}{G:List AV}{L:SH}{Q N:Ex->List AV->SH->Prop}(h:dD P c G L Q)(O:∀e B L',Q e B L'->∃u L2,ax B L' u L2/\N e u L2):dD P c G L N:=λH hb hs=>by obtain⟨e,B,H',L',M,D,h3⟩:=h H hb hs;obtain⟨u,L2,hz,Z⟩:=O e B L' h3;obtain⟨H2,f1,f2,f3,f4⟩:=km hz D.sub D.bd;refine⟨e,u,H2,L2,⟨by rw[f2];exact M.1,λw σ a S E Q Y=>M.2 w σ a S E Q λa' w' ⟨σ',t,r,j,m⟩=>?_⟩,D.trans (f1.low D.next) (Fd _),Z⟩;obtain⟨g1,g2,g3⟩:=f3 w' σ' r;exact Y a' w' ⟨σ',⟨g3 _ t.1,t.2⟩,g1,⟨j.os,j.tape,j.output,j.size,j.keep,j.shape,j.sig,j.eqfr,j.frame,λc hc=>j.own c (g2 c hc)⟩,m⟩
theorem dD.frzs{c:Code}{N:List AV}{L:SH}{K:W.Kn}{n:Nat}:∀(ds:List Nat),dD P c N L (λe j L'=>e=.normal/\j.length=n/\W.frzs ds j L' K)->dD P c N L (λe j L'=>e=.normal/\j.length=n/\K j L')
 |[],h=>h
 | d::ds,h=>by
  refine dD.frzs ds (h.post ?_);rintro e j L' ⟨O,hn,hz⟩;simp only[W.frzs]at hz;have hz:=hz.h;simp only[W.frz0]at hz;have set:∀(v:AV) (L2:SH),ax j L' (j.set d v) L2->W.frzs ds (j.set d v) L2 K->∃u L2,ax j L' u L2/\e=.normal/\u.length=n/\W.frzs ds u L2 K:=λv L2 E D=>⟨_,L2,E,O,by simpa using hn,D⟩
  split at hz
  .rename_i b i off B;obtain⟨x,L2,E,D,M,G⟩:=hz;refine set _ L2 (BG (K:=[(b,x)]) E.perm ?_) G;rw[B];exact .box acQ D M
  .rename_i b i k B;obtain⟨x,L2,E,D,M,G⟩:=hz;refine set _ L2 (BG (K:=[(b,x)]) E.perm ?_) G;rw[B];exact .rows acQ D M
  .rename_i B;refine set _ L' (BG (K:=[]) (.refl _) ?_) hz;rw[B];exact .nils
  .rename_i B;refine set _ L' (BG (K:=[]) (.refl _) ?_) hz;rw[B];exact .emp
  .refine set _ L' (BG (K:=[]) (.refl _) ?_) hz;exact .refl _
theorem NB(j:List AV)(d:Option Tmp)(v:AV):(iw j d v).length=j.length:=by cases d<;>simp[iw]
theorem Ju{ops:Array Oper}{base:Nat}{call:FuncId->List AV->ah->Option (AV×ah)}:∀(l:List Nat) (u:List AV) (H:ah) (j:List AV) (H':ah),oa P F call ops base l u H=some (j,H')->j.length=u.length
 |[],u,H,j,H',h=>by cases h;rfl
 | i::l,u,H,j,H',h=>by
  unfold oa at h;split at h
  .rename_i B D hs;rw[Ju l _ _ _ _ h];unfold lC at hs
   repeat' (first|(cases hs;exact NB _ _ _)|(cases hs;done)|split at hs)
  .cases h
theorem xK{ops:Array Oper}{base:Nat}{before:List Nat}{call:FuncId->List AV->ah->Option (AV×ah)}:∀(l:List Nat) (D:List AV) (H:ah) (rs:List sZ) (j:List AV) (H':ah) (B:List sZ),fS P F call ops base before l D H rs=some (j,H',B)->j.length=D.length
 |[],D,H,rs,j,H',B,h=>by cases h;rfl
 | i::l,D,H,rs,j,H',B,h=>by
  have key:∀{mask:Nat} {u:List AV} {E:ah} {r:Option sZ},bW P F call ops base i mask D H=some (u,E,r)->u.length=D.length:=λ{mask u E r} hs=>by
   unfold bW at hs
   repeat' (first|(cases hs;exact NB _ _ _)|(cases hs;done)|split at hs)
  unfold fS at h;split at h
  .rename_i hs;rw[xK l _ _ _ _ _ _ h,key hs]
  .rename_i hs;split at h
   .rw[xK l _ _ _ _ _ _ h,key hs]
   .cases h
  .cases h
theorem dD.region'{ops:Array Oper}{id:Nat}{B:List AV}{L:SH}{K:W.Kn}(fit:Fit P F)(h:W.sq P F ops (List.range ops.size) B L K):dD P (.region id ops false) B L λe j L'=>e=.normal/\j.length=B.length/\K j L':=λH hb hs=>by
 obtain⟨call,j,H',L',k1,k2,D,u,E⟩:=qe (base:=H.next) (List.range ops.size) B L _ h List.nodup_range {H with next:=H.next+ops.size} (hb.bump _ _ (abB _ _)) (hs.congr λ_=>rfl)
  (λi hi=>⟨Nat.add_lt_add_left (acd.1 hi) _,hb _ (abB _ _)⟩) (abB _ _)
 have hr:fg P F call ops false B H=some (j,H'):=by simp only[fg,abj,if_false];exact D
 exact⟨.normal,j,H',L',iA fit k1 hr,⟨abe (abB _ _) u.next,u.bd,u.sub,u.keep,u.dom,u.fresh⟩,rfl,Ju _ _ _ _ _ D,E⟩
theorem dD.draw'{ops:Array Oper}{id:Nat}{D:List AV}{L:SH}{K:W.Kn}(fit:Fit P F)(M:ou ops)(N:vu ops)(h:W.dr P F ops (cI ops.toList []) (List.range' 0 ops.size) D L [] K):dD P (.region id ops true) D L λe u L'=>e=.normal/\u.length=D.length/\K u L':=λH hb hs=>by
 obtain⟨call,u,H',L',E,k1,k2,O,B,Y⟩:=vD (base:=H.next) ops.size 0 D L [] _ h {H with next:=H.next+ops.size} [] (hb.bump _ _ (abB _ _)) (hs.congr λ_=>rfl)
  (λi _ hi=>⟨by show H.next+i<H.next+ops.size;omega,hb _ (abB _ _)⟩) (by show H.next+0<=H.next+ops.size;omega) acQ (λj hj=>by omega)
 have hr:fg P F call ops true D H=some (u,{H' with log:=E.flatMap (·.writes)++H'.log}):=by simp only[fg,if_true];rw[List.range_eq_range',O]
 obtain⟨S,n2⟩:=Bw fit k1 k2 M N hr;exact⟨.normal,u,_,L',⟨S,λw σ a Z G Q hQ=>n2 id w σ a Z G Q hQ⟩,⟨abe (abB _ _) B.next,B.bd,B.sub.congr λ_=>rfl,B.keep,B.dom,B.fresh⟩,rfl,xK _ _ _ _ _ _ _ O,Y⟩
def YD(n:Nat)(kn:W.Kn)(kx:Nat->W.Kn)(kr:W.Kn)(e:Ex)(τ:List AV)(L:SH):Prop:=τ.length=n/\match e with
 |.normal=>kn τ L
 |.exit id=>kx id τ L
 |.ret=>kr τ L
theorem fG(fit:Fit P F):∀(c:Code) (u:List AV) (L:SH) (M:W.Kn) (G:Nat->W.Kn) (D:W.Kn),W.code P F ht c u L M G D->dD P c u L (YD u.length M G D)
 |.skip,u,L,M,G,D,h=>.skip ⟨rfl,h⟩
 |.label l,u,L,M,G,D,h=>.label ⟨rfl,h⟩
 |.exit id,u,L,M,G,D,h=>.exit ⟨rfl,h⟩
 |.ret,u,L,M,G,D,h=>.ret ⟨rfl,h⟩
 | .region id ops draw,u,L,M,G,D,h=>by
  simp only[W.code]at h;have fin:dD P (.region id ops draw) u L (λe j L'=>e=.normal/\j.length=u.length/\M j L')->dD P (.region id ops draw) u L (YD u.length M G D):=λh=>h.mono λe j L' ⟨E,B,h3⟩=>by subst E;exact⟨B,h3⟩
  cases draw with
  |false=>exact fin (.frzs _ (.region' fit h))
  |true=>simp only[if_true,aas]at h;have hm:=h.2;rw[<-eq_of_beq h.1.2]at hm;exact fin (.frzs _ (.draw' fit (Jn h.1.1.1) (F5 h.1.1.2) hm))
 | .seq a b,u,L,M,G,D,h=>by
  simp only[W.code]at h;split at h
  .refine dD.seq ((fG fit a u L _ G D h).mono λe j L' ⟨E,B⟩=>?_);cases e with
   |normal=>simp only;rw[<-E];exact fG fit b j L' M G D B
   |exit id=>exact⟨E,B⟩
   |ret=>exact⟨E,B⟩
  .rename_i live _;have hB:=h.h;refine dD.seq ((fG fit a u L _ G D hB).mono λe j L' ⟨E,B⟩=>?_);cases e with
   |normal=>
    have Y:=fG fit b _ L' M G D B;have N:(iW u.length live (oA live j)).length=u.length:=by simp[iW]
    rw[N]at Y;have S:=BF live j;rw[E]at S;exact dD.dim S Y
   |exit id=>exact⟨E,B⟩
   |ret=>exact⟨E,B⟩
 | .cond x a b,u,L,M,G,D,h=>by
  rcases h.h with⟨E,B⟩|⟨E,B⟩
  .exact dD.cond (t:=true) E (fG fit a u L M G D B)
  .exact dD.cond (t:=false) E (fG fit b u L M G D B)
 | .block id b,u,L,M,G,D,h=>by
  refine dD.block ((fG fit b u L _ _ D h).mono λe j L' ⟨E,B⟩=>?_);cases e with
  |normal=>exact⟨E,B⟩
  |ret=>exact⟨E,B⟩
  |exit id'=>
   simp only[Ex.leave];simp only at B;by_cases O:id'=id
   .rw[if_pos O]at B ⊢;exact⟨E,B⟩
   .rw[if_neg O]at B ⊢;exact⟨E,B⟩
 | .loop b,u,L,M,G,D,h=>by
  simp only[W.code]at h;split at h
  .exact h.elim
  .rename_i r _;obtain⟨I,⟨n,vs0,L0,hz0,h0⟩,hB⟩:=h.h;refine dD.loop (λm j L'=>j.length=u.length/\∃vs2 L2,ax (oA (ht.loop r) j) L' vs2 L2/\I m vs2 L2) (λm j L' ⟨E,vs2,L2,hz,B⟩=>?_) n ⟨rfl,vs0,L0,hz0,h0⟩;have h4:=fG fit b _ L2 _ G D (hB m vs2 L2 B);have N:(iW u.length (ht.loop r) vs2).length=u.length:=by simp[iW]
   rw[N]at h4;have Y:=dD.fz (OR (n:=u.length) (live:=ht.loop r) hz) h4;have S:=BF (ht.loop r) j;rw[E]at S;refine(dD.dim S Y).mono λe τ1 L1 ⟨g1,g2⟩=>?_
   cases e with
   |normal=>obtain⟨m',Z,L3,k1,k2,k3⟩:=g2;exact⟨m',k1,g1,Z,L3,k2,k3⟩
   |exit id=>exact⟨g1,g2⟩
   |ret=>exact⟨g1,g2⟩
 |.rangeFunc ..,_,_,_,_,_,h=>h.elim
 |.scope _,_,_,_,_,_,h=>h.elim
 |.goto _,_,_,_,_,_,h=>h.elim
 |.refuse _,_,_,_,_,_,h=>h.elim
theorem LU{j:List AV}{L:SH}{H:ah}{Q:AV->SH->Prop}(hs:mf L H):∀(rs:List ResultVar) (vs:List AV),W.res P rs j L vs Q->∃us,cX (rs.map (lD P j H))=some us/\Q (W.pack (vs.reverse++us)) L
 |[],vs,h=>⟨[],rfl,by simpa[W.res]using h⟩
 | .tmp t::rs,vs,h=>by obtain⟨us,B,h2⟩:=LU hs rs _ h;refine⟨j.getD t bY::us,?_,by simpa using h2⟩;simp only[aai,lD,cX,B]
 | .cell a t::rs,vs,h=>by
  simp only[W.res]at h;split at h
  .rename_i ag n u hn;obtain⟨v,E,D⟩:=Nx hs u hn h.h;obtain⟨us,B,h2⟩:=LU hs rs _ D;refine⟨v::us,?_,by simpa using h2⟩;simp only[aai,lD,E,cX,B]
  .exact h.elim
theorem LV(fit:Fit P F){f:FuncId}{fn:Func}{c:Code}{args:List AV}{L:SH}{Q:AV->SH->Prop}(Y:P.funcs[f]? =some fn)(hb:fn.body=some c)(h:W.func P F ht fn c args L Q):ac P f args L Q:=by
 refine⟨⟨fn,c,Y,hb⟩,λH hB hs=>?_⟩;obtain⟨e,G,H',L',k1,k2,k3,O⟩:=fG fit c _ L _ _ _ h H hB hs;have N:(e=.normal\/e=.ret)/\W.res P fn.results.toList G L' [] Q:=by
  cases e with
  |normal=>exact⟨.inl rfl,O⟩
  |ret=>exact⟨.inr rfl,O⟩
  |exit id=>exact O.elim
 obtain⟨he,hr⟩:=N;obtain⟨us,r1,r2⟩:=LU k2.sub _ _ hr;have hv:mI P G H' fn.results.toList=some (W.pack us):=by
  unfold mI;rw[r1]
  match us with
  |[]=>rfl
  |[v]=>rfl
  |v::u::l=>rfl
 simp only[List.reverse_nil,abK]at r2;refine⟨_,H',L',λw σ vs hW B=>?_,k2,r2⟩;refine calls_of_wp Y hb (k1.2 w σ _ hW ⟨⟨by simp[B.1],λi x u E D=>?_⟩,rfl⟩ _ λa' w' S=>?_)
 .simp only[Array.toList_append,Array.toList_replicate]at D;rcases LE i args.length with hi|hi
  .rw[aaW hi]at E;rw[aaW (by rw[<-B.1];exact hi)]at D;exact B.2 i x u E D
  .rw[aaL hi,acu]at E;rw[aaL (by rw[<-B.1];exact hi),acu]at D;split at E
   .split at D
    .cases E;cases D;exact mM
    .cases D
   .cases E
 .obtain⟨σ',t1,Z,e1,m1⟩:=S;obtain⟨M,q1,q2⟩:=tg (P:=P) Z t1 hv;have j:a'.defers=[]/\∃v,(results fn a'.tmps).run P w'=.ok v w'/\∃M σ',Ending.returned v=.returned M/\bC w' σ' (aX σ' H') _ M/\bJ w' σ' H'/\fT w σ (aX σ H) w' σ' (aX σ' H')/\∀c pl,σ' c=some pl->σ c=some pl\/H.next<=c:=
   ⟨t1.2,M,q1,M,σ',rfl,q2,Z,e1,m1⟩
  rcases he with rfl|rfl
  .exact j
  .exact j
end
end
def LX(P:Program)(t:TypeId):Option (List TypeId):=match P.underlying t with
 | some (.struct fs) => if (!P.stoodInHeld t && !P.eqGuardType P.depth t && fs.toList.zipIdx.all fun p => p.1.offset == p.2 && p.1.name != "_" && (match fE P p.1.type with | some false => true | _ => false)) = true then some (fs.toList.map (·.type)) else none
 |_=>none
def OS{P:Program}{t:TypeId}{ts:List TypeId}(h:LX P t=some ts):Qm P t ts:=by
 unfold LX at h;split at h
 .rename_i G B;split at h
  .rename_i j;cases h;simp only[aas,Bool.not_eq_true',abh]at j;have u:P.fieldsOf t=G:=by simp[Program.fieldsOf,B]
   refine⟨by rw[u];exact B,j.1.1,j.1.2,by rw[u],λi f D=>?_⟩;rw[u]at D;have:=j.2 (f,i) (by rw[List.mem_iff_getElem?];exact⟨i,by rw[List.getElem?_zipIdx,D];simp⟩);simp only[beq_iff_eq,bne_iff_ne]at this;refine⟨this.1.2,this.1.1,?_⟩;have E:=this.2;split at E
   .assumption
   .cases E
  .cases h
 .cases h
noncomputable def Fl:TypeId->Option (List TypeId):=LX Tryz.prog
def BH:Tryz.prog.funcs.toList.all Jo=true:=by kernel_rfl
def fit:Fit Tryz.prog Fl:=⟨λt j h=>OS h,(VB BH).1,by kernel_rfl⟩
section
section
variable {P:Program} {F:TypeId->Option (List TypeId)} {K:AV->Prop} {KL:AV->SH->Prop} {L:SH}
theorem ez(v:AV):W0.opt (some v) K=K v:=propext ⟨λ⟨u,B,j⟩=>by cases B;exact j,λh=>⟨v,rfl,h⟩⟩
theorem Jv:W0.opt none K=False:=propext ⟨λ⟨u,j,B⟩=>(by cases j),λh=>h.elim⟩
theorem Wo(x y:AV):W.pick (.bool true) x y K=K x:=propext ⟨λ⟨t,u,j⟩=>by cases u;exact j,λh=>⟨true,rfl,h⟩⟩
theorem Wp(x y:AV):W.pick (.bool false) x y K=K y:=propext ⟨λ⟨t,u,j⟩=>by cases u;exact j,λh=>⟨false,rfl,h⟩⟩
theorem YE(p:Bool)(A:(AV->SH->Prop)->Prop):W.grd (.bool p) true A L KL=((p=true->A KL)/\(p=false->KL bY L)):=propext ⟨λ⟨h⟩=>by
  rcases h with⟨j,u⟩|⟨j|j,u⟩
  .cases j;exact⟨λ_=>u,λh=>(by cases h)⟩
  .cases j;exact⟨λh=>(by cases h),λ_=>u⟩
  ·(cases j),λ⟨j,u⟩=>by
  cases p with
  |true=>exact⟨.inl ⟨rfl,j rfl⟩⟩
  |false=>exact⟨.inr ⟨.inl rfl,u rfl⟩⟩⟩
theorem YF(p:Bool)(A:(AV->SH->Prop)->Prop):W.grd (.bool p) false A L KL=((p=false->A KL)/\(p=true->KL bY L)):=propext ⟨λ⟨h⟩=>by
  rcases h with⟨j,u⟩|⟨j|j,u⟩
  .cases j;exact⟨λ_=>u,λh=>(by cases h)⟩
  .cases j;exact⟨λh=>(by cases h),λ_=>u⟩
  ·(cases j),λ⟨j,u⟩=>by
  cases p with
  |false=>exact⟨.inl ⟨rfl,j rfl⟩⟩
  |true=>exact⟨.inr ⟨.inl rfl,u rfl⟩⟩⟩
theorem Wq{B:AV->SH->W.Fp->Prop}(p:Bool)(A:(AV->SH->W.Fp->Prop)->Prop):W.dgrd (.bool p) true A L B=((p=true->A B)/\(p=false->B bY L ⟨[],[],[],L.names⟩)):=propext ⟨λ⟨h⟩=>by
  rcases h with⟨j,u⟩|⟨j|j,u⟩
  .cases j;exact⟨λ_=>u,λh=>(by cases h)⟩
  .cases j;exact⟨λh=>(by cases h),λ_=>u⟩
  ·(cases j),λ⟨j,u⟩=>by
  cases p with
  |true=>exact⟨.inl ⟨rfl,j rfl⟩⟩
  |false=>exact⟨.inr ⟨.inl rfl,u rfl⟩⟩⟩
theorem Wr{B:AV->SH->W.Fp->Prop}(p:Bool)(A:(AV->SH->W.Fp->Prop)->Prop):W.dgrd (.bool p) false A L B=((p=false->A B)/\(p=true->B bY L ⟨[],[],[],L.names⟩)):=propext ⟨λ⟨h⟩=>by
  rcases h with⟨j,u⟩|⟨j|j,u⟩
  .cases j;exact⟨λ_=>u,λh=>(by cases h)⟩
  .cases j;exact⟨λh=>(by cases h),λ_=>u⟩
  ·(cases j),λ⟨j,u⟩=>by
  cases p with
  |false=>exact⟨.inl ⟨rfl,j rfl⟩⟩
  |true=>exact⟨.inr ⟨.inl rfl,u rfl⟩⟩⟩
theorem Ws(p:Bool)(A B:Prop):W.cond (.bool p) A B=((p=true->A)/\(p=false->B)):=propext ⟨λ⟨h⟩=>by
  rcases h with⟨u,j⟩|⟨u,j⟩
  .cases u;exact⟨λ_=>j,λh=>(by cases h)⟩
  .cases u;exact⟨λh=>(by cases h),λ_=>j⟩,λ⟨u,j⟩=>by
  cases p with
  |true=>exact⟨.inl ⟨rfl,u rfl⟩⟩
  |false=>exact⟨.inr ⟨rfl,j rfl⟩⟩⟩
theorem gg(op:BinOp)(t:TypeId)(x y:AV):W.bin P F op t x y K=W0.opt (iS P F op t x y) K:=propext ⟨λh=>h.h,λh=>⟨h⟩⟩
theorem YG(t:TypeId)(k:IntKind)(a b:Int):W.bin P F .lss t (.int k a) (.int k b) K=K (.bool (decide (a<b))):=by rw[gg];simp[iS,ez]
theorem YH(t:TypeId)(k:IntKind)(a b:Int):W.bin P F .leq t (.int k a) (.int k b) K=K (.bool (decide (a<=b))):=by rw[gg];simp[iS,ez]
theorem YI(t:TypeId)(k:IntKind)(a b:Int):W.bin P F .gtr t (.int k a) (.int k b) K=K (.bool (decide (b<a))):=by rw[gg];simp[iS,ez]
theorem YJ(t:TypeId)(k:IntKind)(a b:Int):W.bin P F .geq t (.int k a) (.int k b) K=K (.bool (decide (b<=a))):=by rw[gg];simp[iS,ez]
theorem YK(t:TypeId)(k:IntKind)(a b:Int):W.bin P F .eql t (.int k a) (.int k b) K=K (.bool (decide (a=b))):=by rw[gg];simp only[iS,ne_eq,not_true_eq_false,if_false,ez];rw[show(a==b)=decide (a=b)from by cases h:(a==b)<;>simp_all]
theorem YL(t:TypeId)(k:IntKind)(a b:Int):W.bin P F .neq t (.int k a) (.int k b) K=K (.bool (decide (a≠b))):=by rw[gg];simp only[iS,ne_eq,not_true_eq_false,if_false,ez];rw[show(a != b)=decide (¬a=b)from by cases h:(a != b)<;>simp_all]
theorem YM(t:TypeId)(k:IntKind)(a b:Int):W.bin P F .add t (.int k a) (.int k b) K=K (.int k (k.wrap (a+b))):=by rw[gg];simp[iS,ez]
theorem YN(t:TypeId)(k:IntKind)(a b:Int):W.bin P F .sub t (.int k a) (.int k b) K=K (.int k (k.wrap (a-b))):=by rw[gg];simp[iS,ez]
theorem YO(t:TypeId)(k:IntKind)(a b:Int):W.bin P F .mul t (.int k a) (.int k b) K=K (.int k (k.wrap (a*b))):=by rw[gg];simp[iS,ez]
theorem YP(t:TypeId)(k:IntKind)(a b:Int):W.bin P F .quo t (.int k a) (.int k b) K=(b≠0/\K (.int k (k.wrap (a.tdiv b)))):=by rw[gg];by_cases h:b=0<;>simp[iS,ez,Jv,h]
theorem YQ(t:TypeId)(k:IntKind)(a b:Int):W.bin P F .rem t (.int k a) (.int k b) K=(b≠0/\K (.int k (a.tmod b))):=by rw[gg];by_cases h:b=0<;>simp[iS,ez,Jv,h]
theorem YR(t:TypeId)(a b:List UInt8):W.bin P F .eql t (.str a) (.str b) K=K (.bool (decide (a=b))):=by rw[gg];simp only[iS,ez];rw[show(a==b)=decide (a=b)from by cases h:(a==b)<;>simp_all]
theorem YS(t:TypeId)(a b:List UInt8):W.bin P F .neq t (.str a) (.str b) K=K (.bool (decide (a≠b))):=by rw[gg];simp only[iS,ez];rw[show(!(a==b))=decide (a≠b)from by cases h:(a==b)<;>simp_all]
theorem YU(t:TypeId)(h:P.underlying t=some .bool)(a b:Bool):W.bin P F .neq t (.bool a) (.bool b) K=K (.bool (!(a==b))):=by rw[gg];simp[iS,vg,h,ez]
theorem Wt(b:Bool):W.un .not (.bool b) K=K (.bool !b):=propext ⟨λ⟨v,u,j⟩=>by cases u;exact j,λh=>⟨_,rfl,h⟩⟩
theorem Wu(k:IntKind)(n:Int):W.un .neg (.int k n) K=K (.int k (k.wrap (0-n))):=propext ⟨λ⟨v,u,j⟩=>by cases u;exact j,λh=>⟨_,rfl,h⟩⟩
theorem Wv(k j:IntKind)(n:Int):W.conv k (.int j n) K=K (.int k (k.wrap n)):=propext ⟨λ⟨D,m,B,u⟩=>by cases B;exact u,λh=>⟨_,_,rfl,h⟩⟩
theorem NC(k:IntKind)(a c:Int):W.mnx false (.int k a) (.int k c) K=K (.int k (if c<a then c else a)):=propext ⟨λ⟨D,G,E,B,u,j⟩=>by cases B;cases u;exact j,λh=>⟨_,_,_,rfl,rfl,h⟩⟩
theorem Qx(k:IntKind)(a c:Int):W.mnx true (.int k a) (.int k c) K=K (.int k (if c > a then c else a)):=propext ⟨λ⟨D,G,E,B,u,j⟩=>by cases B;cases u;exact j,λh=>⟨_,_,_,rfl,rfl,h⟩⟩
theorem Tx(g:FuncId)(cs args:List AV):W.call P (.fn g cs) args L KL=ac P g (args++cs) L KL:=propext ⟨λh=>h.h,λh=>⟨h⟩⟩
theorem Qy{u:AV->SH->List Nat->Prop}(us:List W.WR)(i:Nat)(g:FuncId)(cs args:List AV):W.dcall P us i (.fn g cs) args L u=∃j R:SH,L.Perm (j++R)/\(∀x∈us,W.free x ⟨i,[],j.names,[],true,[]⟩)/\ac P g (args++cs) j λv B=>u v (B++R) j.names:=propext ⟨λh=>h.h,λh=>⟨h⟩⟩
theorem Ty{j:W.Fp->Prop}(r:W.Fp):W.note r j=j r:=propext ⟨λh=>h.h r rfl,λh=>⟨λu e=>e▸h⟩⟩
def aq(P:Program)(f:FuncId)(args:List AV)(v:AV):Prop:=ac P f args [] λu K=>u=v/\K=[]
theorem aq.call{f:FuncId}{args:List AV}{v:AV}(h:aq P f args v)(j:KL v L):ac P f args L KL:=
 ac.frame h (K:=[]) (R:=L) (.refl _) λu K ⟨D,B⟩=>by subst D;subst B;exact j
theorem Tz{α:Type}(S:α->List AV×SH)(m:α->Nat)(G:α->Prop){B:List AV->SH->W.Kn->Prop}{vs:List AV}(N:α)(h0:G N)(hv:vs=(S N).1)(hL:L=(S N).2)
  (h:∀a,G a->B (S a).1 (S a).2 λu E=>∃j,G j/\m j<m a/\ax u E (S j).1 (S j).2):W.loop B vs L:=by
 refine⟨λn vs L=>∃a,G a/\m a=n/\vs=(S a).1/\L=(S a).2,⟨m N,_,_,.refl _ _,N,h0,rfl,hv,hL⟩,?_⟩;rintro n vs L ⟨a,ha,rfl,rfl,rfl⟩;have e:(λu E=>∃j,G j/\m j<m a/\ax u E (S j).1 (S j).2)=(λu E=>∃M D L2,M<m a/\ax u E D L2/\∃a,G a/\m a=M/\D=(S a).1/\L2=(S a).2):=by
  funext u E;apply propext;constructor
  .rintro⟨j,Z,Y,O⟩;exact⟨m j,_,_,Y,O,j,Z,rfl,rfl,rfl⟩
  .rintro⟨n,D,L2,Z,Y,j,O,rfl,rfl,rfl⟩;exact⟨j,O,Z,Y⟩
 rw[<-e];exact h a ha
end
end
section
def F9(T:FuncId->List AV->Option AV)(call:FuncId->List AV->ah->Option (AV×ah))(g:FuncId)(args:List AV)(H:ah):Option (AV×ah):=match T g args with
 |some v=>some (v,H)
 |none=>call g args H
def fi(P:Program)(F:TypeId->Option (List TypeId))(T:FuncId->List AV->Option AV):Nat->Code->List AV->ah->Option (Ex×List AV×ah)
 |0,_,_,_=>none
 |f+1,c,τ,H=>
  match c with
  |.skip|.label _=>some (.normal,τ,H)
  | .region _ ops draw=>match fg P F (F9 T (pW P (fi P F T f))) ops draw τ H with
   |some (τ,H)=>some (.normal,τ,H)
   |none=>none
  | .seq a b=>match fi P F T f a τ H with
   |some (.normal,τ,H)=>fi P F T f b τ H
   |r=>r
  | .cond c a b=>match lj τ c with
   |.bool true=>fi P F T f a τ H
   |.bool false=>fi P F T f b τ H
   |_=>none
  | .block id b=>match fi P F T f b τ H with
   |some (.exit id',τ,H)=>if id'=id then some (.normal,τ,H)else some (.exit id',τ,H)
   |r=>r
  | .loop b=>match fi P F T f b τ H with
   |some (.normal,τ,H)=>fi P F T f (.loop b) τ H
   |r=>r
  |.exit id=>some (.exit id,τ,H)
  |.ret=>some (.ret,τ,H)
  |_=>none
def kE(P:Program)(T:FuncId->List AV->Option AV):Prop:=∀f args v,T f args=some v->dX P f args v
section
variable {P:Program} {F:TypeId->Option (List TypeId)} {T:FuncId->List AV->Option AV} {call:FuncId->List AV->ah->Option (AV×ah)}
theorem Jw(G:kE P T)(E:fU P call):fU P (F9 T call):=by
 refine⟨λf B H v M j=>?_,λf B H v M j=>?_,λf B H v M j=>?_⟩
 all_goals
  unfold F9 at j;split at j
 .rename_i u D;cases j;exact(G _ _ _ D).1 _
 .exact E.ok _ _ _ _ _ j
 .cases j;exact Fd _
 .exact E.next _ _ _ _ _ j
 .rename_i u D;cases j;exact(G _ _ _ D).2
 .exact E.body _ _ _ _ _ j
theorem Ga(h:∀f args H v H',Bd H->call f args H=some (v,H')->zn H H'):∀f args H v H',Bd H->F9 T call f args H=some (v,H')->zn H H':=λf args H v H' u j=>by
 unfold F9 at j;split at j
 .cases j;exact .refl _
 .exact h _ _ _ _ _ u j
theorem OT(f:Nat):∀(c:Code) (M:List AV) (H:ah) (e:Ex) (B:List AV) (H':ah),Bd H->fi P F T f c M H=some (e,B,H')->zn H H':=by
 induction f with
 |zero=>intro c M H e B H' _ h;cases h
 |succ f u=>
  intro c M H e B H' j h;cases c with
  |skip=>cases h;exact .refl _
  |label l=>cases h;exact .refl _
  |exit O=>cases h;exact .refl _
  |ret=>cases h;exact .refl _
  |region O ops S=>
   simp only[fi]at h;split at h
   .rename_i hr;cases h;exact LM (λf Z H v H' N D=>Ga (λ_ _ _ _ _ N hc=>Br u N hc) _ _ _ _ _ N D) j hr
   .cases h
  |seq x y=>
   simp only[fi]at h;split at h
   .rename_i E;have G:=u _ _ _ _ _ _ j E;exact G.trans (u _ _ _ _ _ _ (G.bd j) h)
   .exact u _ _ _ _ _ _ j h
  |cond x Y c2=>
   simp only[fi]at h;split at h
   .exact u _ _ _ _ _ _ j h
   .exact u _ _ _ _ _ _ j h
   .cases h
  |block O Y=>
   simp only[fi]at h;split at h
   .rename_i E;split at h
    .cases h;exact u _ _ _ _ _ _ j E
    .cases h;exact u _ _ _ _ _ _ j E
   .exact u _ _ _ _ _ _ j h
  |loop Y=>
   simp only[fi]at h;split at h
   .rename_i E;have G:=u _ _ _ _ _ _ j E;exact G.trans (u _ _ _ _ _ _ (G.bd j) h)
   .exact u _ _ _ _ _ _ j h
  |_=>simp[fi]at h
theorem G8(fit:Fit P F)(hT:kE P T)(hgood:∀(g:Nat) (fn:Func) (c:Code),P.funcs[g]? =some fn->fn.body=some c->lG c)(f:Nat):(∀(c:Code) (N:List AV) (H:ah) (e:Ex) (B:List AV) (H':ah),lG c->fi P F T f c N H=some (e,B,H')->dQ P c N H e B H')/\
  (∀(c:Code) (N:List AV) (H:ah) (e:Ex) (B:List AV) (H':ah),lG c->fi P F T f (.loop c) N H=some (e,B,H')->me P f c N H e B H'):=by
 induction f with
 |zero=>exact⟨λc N H e B H' _ h=>(by cases h),λc N H e B H' _ h=>(by cases h)⟩
 |succ f ih0=>
  obtain⟨ih,ihl⟩:=ih0;have hs:=Jw hT (vm (P:=P) hgood ih);have hch:∀g args H v H',Bd H->F9 T (pW P (fi P F T f)) g args H=some (v,H')->zn H H':=Ga (λ_ _ _ _ _ hb hc=>Br (OT f) hb hc);have hloop:∀(c:Code) (N:List AV) (H:ah) (e:Ex) (B:List AV) (H':ah),lG c->fi P F T (f+1) (.loop c) N H=some (e,B,H')->me P (f+1) c N H e B H':=by
   intro c1 N H e B H' dr h;simp only[fi]at h;split at h
   .rename_i Y H1 h1;obtain⟨O,S⟩:=ih c1 N H .normal Y H1 dr h1;obtain⟨n2,k2⟩:=ihl c1 Y H1 e B H' dr h;refine⟨abe O n2,λw M a G j Q E=>?_⟩;rw[rounds_succ];refine S w M a G j _ λa' w' D=>?_
    obtain⟨σ1,t1,r1,e1,m1⟩:=D;exact k2 w' σ1 a' r1 t1 Q λa2 w2 haf2=>E a2 w2 (haf2.trans e1 m1 O)
   .rename_i Z;obtain⟨O,S⟩:=ih c1 N H e B H' dr h;refine⟨O,λw M a G j Q E=>?_⟩;rw[rounds_succ];refine S w M a G j _ λa' w' D=>?_
    cases e with
    |normal=>exact absurd h (Z _ _)
    |exit id=>exact E _ _ D
    |ret=>exact E _ _ D
  refine⟨?_,hloop⟩;intro c N H e B H' dr h;cases c with
  |skip=>cases h;exact⟨Fd _,λw M a G j Q E=>wp_skip (E _ _ (.refl G j))⟩
  |label l=>cases h;exact⟨Fd _,λw M a G j Q E=>wp_label (E _ _ (.refl G j))⟩
  |exit id=>cases h;exact⟨Fd _,λw M a G j Q E=>wp_exit (E _ _ (.refl G j))⟩
  |ret=>cases h;exact⟨Fd _,λw M a G j Q E=>wp_ret (E _ _ (.refl G j))⟩
  |region id ops draw=>
   simp only[fi]at h;split at h
   .rename_i Y H1 hr;cases h;cases draw with
    |false=>exact iA fit hs hr
    |true=>obtain⟨h1,h2⟩:=Bw fit hs hch (dr rfl).1 (dr rfl).2 hr;exact⟨h1,λw M a G j Q E=>h2 id w M a G j Q E⟩
   .cases h
  |seq x y=>
   simp only[fi]at h;split at h
   .rename_i Y H1 h1;obtain⟨O,S⟩:=ih x N H .normal Y H1 dr.1 h1;obtain⟨n2,k2⟩:=ih y Y H1 e B H' dr.2 h;refine⟨abe O n2,λw M a G j Q E=>wp_seq (S w M a G j _ λa' w' D=>?_)⟩;obtain⟨σ1,t1,r1,e1,m1⟩:=D;exact k2 w' σ1 a' r1 t1 Q λa2 w2 haf2=>E a2 w2 (haf2.trans e1 m1 O)
   .rename_i Z;obtain⟨O,S⟩:=ih x N H e B H' dr.1 h;refine⟨O,λw M a G j Q E=>wp_seq (S w M a G j _ λa' w' D=>?_)⟩;cases e with
    |normal=>exact absurd h (Z _ _)
    |exit id=>exact E _ _ D
    |ret=>exact E _ _ D
  |cond x c1 c2=>
   simp only[fi]at h;split at h
   .rename_i hb;obtain⟨O,S⟩:=ih c1 N H e B H' dr.1 h;refine⟨O,λw M a G j Q E=>wp_cond_true ?_ (S w M a G j Q E)⟩;have:=j.eval G.glob x;rw[hb]at this;generalize a.eval x=u at this;cases this;rfl
   .rename_i hb;obtain⟨O,S⟩:=ih c2 N H e B H' dr.2 h;refine⟨O,λw M a G j Q E=>wp_cond_false ?_ (S w M a G j Q E)⟩;have:=j.eval G.glob x;rw[hb]at this;generalize a.eval x=u at this;cases this;rfl
   .cases h
  |block id c1=>
   simp only[fi]at h;split at h
   .rename_i id' Y H1 h1;obtain⟨O,S⟩:=ih c1 N H _ Y H1 dr h1;split at h
    .rename_i hid;cases h;exact⟨O,λw M a G j Q E=>wp_block (S w M a G j _ λa' w' D=>by simp only[Jc,Exit.inBlock,hid,if_true];exact E _ _ D)⟩
    .rename_i hid;cases h;exact⟨O,λw M a G j Q E=>wp_block (S w M a G j _ λa' w' D=>by simp only[Jc,Exit.inBlock,hid,if_false];exact E _ _ D)⟩
   .rename_i Z;obtain⟨O,S⟩:=ih c1 N H e B H' dr h;refine⟨O,λw M a G j Q E=>wp_block (S w M a G j _ λa' w' D=>?_)⟩;cases e with
    |normal=>exact E _ _ D
    |exit id=>exact absurd h (Z _ _ _)
    |ret=>exact E _ _ D
  |loop c1=>obtain⟨O,S⟩:=hloop c1 N H e B H' dr h;exact⟨O,λw M a G j Q E=>wp_loop_rounds (f+1) (S w M a G j Q E)⟩
  |_=>simp[fi]at h
theorem Jx(fit:Fit P F)(E:kE P T)(u:∀(g:Nat) (D:Func) (c:Code),P.funcs[g]? =some D->D.body=some c->lG c)(f:Nat)(c:Code)(B:List AV)(H:ah)(e:Ex)(j:List AV)(H':ah)(dr:lG c)(h:fi P F T f c B H=some (e,j,H')):dQ P c B H e j H':=
 (G8 fit E u f).1 c B H e j H' dr h
end
theorem dX.of_pure{f:FuncId}{args:List AV}{v:AV}(h:aq Tryz.prog f args v)(S:bv v)(ha:∀(i:Nat) (a:AV),args[i]? =some a->bv a):dX Tryz.prog f args v:=by
 obtain⟨fn,c,Y,Z⟩:=h.1;refine .of_v Y Z S ha λw D E hW B=>?_
 obtain⟨u,H',L',h1,_,h3,_⟩:=h.2 ah.empty (λb _=>cS b) ⟨.nil,λp h=>by simp at h⟩;subst h3;refine(h1 w D E hW B).mono λe w' ⟨G,j,O,N,k3,M,k5⟩=>⟨G,j,H',O,N,M⟩
end
def G9{α:Type}(f:α->α->Bool):List α->List α->Bool
 |[],[]=>true
 |a::l,b::m=>f a b&&G9 f l m
 |_,_=>false
def oC{α:Type}{f:α->α->Bool}(h:∀a b,f a b=true->a=b):∀{l m:List α},G9 f l m=true->l=m
 |[],[],_=>rfl
 | a::l,b::m,e=>by rw[G9,aas]at e;rw[h _ _ e.1,oC h e.2]
 |[],_::_,e=>by cases e
 |_::_,[],e=>by cases e
def LY:Nat->AV->AV->Bool
 |0,_,_=>false
 | n+1,a,b=>match a,b with
  |.int k x,.int k' y=>decide (k=k')&&decide (x=y)
  |.bool x,.bool y=>x==y
  |.str x,.str y=>G9 (λ(p q:UInt8)=>decide (p=q)) x y
  |.nils,.nils=>true
  |.emp,.emp=>true
  |.nilp,.nilp=>true
  |.lst r,.lst s=>G9 (G9 (LY n)) r s
  |.agg r,.agg s=>G9 (LY n) r s
  |.tup r,.tup s=>G9 (LY n) r s
  |_,_=>false
def ND:∀{n:Nat} {a b:AV},LY n a b=true->a=b:=by
 intro n
 induction n with
 |zero=>intro a b h;cases h
 |succ n j=>
  intro a b h;unfold LY at h;split at h
  .simp only[aas,decide_eq_true_eq]at h;rw[h.1,h.2]
  .rw[beq_iff_eq]at h;rw[h]
  .rw[oC (λp q h=>of_decide_eq_true h) h]
  .rfl
  .rfl
  .rfl
  .rw[oC (λp q h=>oC (λa b h=>j h) h) h]
  .rw[oC (λa b h=>j h) h]
  .rw[oC (λa b h=>j h) h]
  .cases h
def BI:Nat->AV->Bool
 |0,_=>false
 | n+1,a=>match a with
  |.int ..|.bool _|.str _|.nils|.emp|.nilp=>true
  |.lst r=>r.all λl=>l.all (BI n)
  |.agg r=>r.all (BI n)
  |.tup r=>r.all (BI n)
  |_=>false
def Jy:∀{n:Nat} {a:AV},BI n a=true->bv a:=by
 intro n
 induction n with
 |zero=>intro a h;cases h
 |succ n B=>
  intro a h;unfold BI at h;split at h
  .exact .int _ _
  .exact .bool _
  .exact .str _
  .exact .nils
  .exact .emp
  .exact .nilp
  .refine .lst _ λi r j a u D=>?_
   rw[abh]at h;have:=h _ (abN u);rw[abh]at this;exact B (this _ (abN D))
  .refine .agg _ λi a u=>?_
   rw[abh]at h;exact B (h _ (abN u))
  .refine .tup _ λi a u=>?_
   rw[abh]at h;exact B (h _ (abN u))
  .cases h
def BJ(n:Nat):List (FuncId×List AV×AV)->(FuncId->List AV->Option AV)->FuncId->List AV->Option AV
 |[],T,f,args=>T f args
 |e::L,T,f,args=>if(Nat.beq f e.1&&G9 (LY n) args e.2.1)=true then some e.2.2 else BJ n L T f args
def j6{n:Nat}{T:FuncId->List AV->Option AV}(B:kE Tryz.prog T):∀{L:List (FuncId×List AV×AV)},(∀e∈L,dX Tryz.prog e.1 e.2.1 e.2.2)->kE Tryz.prog (BJ n L T)
 |[],_=>B
 | e::L,h=>λf args v j=>by
  unfold BJ at j;split at j
  .rename_i u;rw[aas]at u;cases j;have G:f=e.1:=Nat.eq_of_beq_eq_true u.1;have E:=oC (λa b h=>ND h) u.2;rw[G,E];exact h e acQ
  .exact j6 B (λe D=>h e (by simp[D])) f args v j
noncomputable def VC (T:FuncId->List AV->Option AV) (n d:Nat) (f:FuncId) (args:List AV):Option AV:=match pW Tryz.prog (fi Tryz.prog Fl T n) f args ah.empty with
 |some (v,H)=>frz H d v
 |none=>none
def isV(d:Nat)(v:AV):Option AV->Bool
 |some u=>LY d u v
 |none=>false
def cB{f:FuncId}{n d:Nat}{args:List AV}{v:AV}{T:FuncId->List AV->Option AV}(hT:kE Tryz.prog T)(hp:(BI d v&&args.all (BI d))=true)(j:isV d v (VC T n d f args)=true):dX Tryz.prog f args v:=by
 rw[aas,abh]at hp;have Y:=(VB BH).2;have S:=vm (P:=Tryz.prog) Y (λc τ H e G E dr hx=>Jx fit hT Y n c τ H e G E dr hx);unfold VC at j;split at j
 .rename_i u E Z;have hz:frz E d u=some v:=by
   cases B:frz E d u with
   |none=>rw[B]at j;cases j
   |some x=>rw[B]at j;rw[ND j]
  have hV:Nw Tryz.prog f args v:=λw σ vs hW N=>(S.ok _ _ _ _ _ Z w σ vs hW N).mono λe w' ⟨O,M,he,k1,k2,k3,k4⟩=>
   ⟨O,M,ah.empty,he,vz k2 d u v O hz k1,k3.trans (fT.sub λb x D=>by rw[cS]at D;cases D)⟩
  obtain⟨fn,c,B,D⟩:=S.body _ _ _ _ _ Z;exact .of_v B D (Jy hp.1) (λi a h=>Jy (hp.2 a (abN h))) hV
 .cases j
def aq.of_ok{f:FuncId}{args:List AV}{v:AV}(h:dX Tryz.prog f args v):aq Tryz.prog f args v:=
 ⟨h.2,λH j u=>⟨v,H,[],h.1 H,.refl j u,rfl,rfl⟩⟩
