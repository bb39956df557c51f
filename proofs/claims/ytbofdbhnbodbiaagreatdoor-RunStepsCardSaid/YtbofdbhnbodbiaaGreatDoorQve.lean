/- A part of the proof; the statement is proved in the last part. -/
import Derived.Test.YtbofdbhnbodbiaaGreatDoorQvd
import Derived.Test.YtbofdbhnbodbiaaGreatDoorProg
import Derived.KernelRfl
import Derived.IntWalk
set_option linter.all false
set_option maxRecDepth 100000
set_option maxHeartbeats 20000000
namespace Go.Proofs.YtbofdbhnbodbiaaGreatDoor.Am
section
open Go.RowKit
namespace W
structure pick(c x y:AV)(K:AV->Prop):Prop where
 h:W0.pick c x y K
structure un(op:UnOp)(x:AV)(K:AV->Prop):Prop where
 h:W0.un op x K
structure bin(P:Program)(F:TypeId->Option (List TypeId))(op:BinOp)(t:TypeId)(x y:AV)(K:AV->Prop):Prop where
 h:W0.bin P F op t x y K
structure conv(k:IntKind)(x:AV)(K:AV->Prop):Prop where
 h:W0.conv k x K
structure convS(x:AV)(K:AV->Prop):Prop where
 h:W0.convS x K
structure faddr(off:Nat)(x:AV)(K:AV->Prop):Prop where
 h:W0.faddr off x K
structure fld(ag:Bool)(n off:Nat)(x:AV)(K:AV->Prop):Prop where
 h:W0.fld ag n off x K
structure load(ag:Bool)(n:Nat)(a:AV)(L:SH)(K:AV->Prop):Prop where
 h:W0.loadR ag n a L K
structure store(n:Nat)(a v:AV)(L:SH)(K:SH->Prop):Prop where
 h:W0.storeR n a v L K
structure idx(n:Nat)(x ix:AV)(L:SH)(K:AV->Prop):Prop where
 h:W0.idxR n x ix L K
structure idxP(len n:Nat)(x ix:AV)(K:AV->Prop):Prop where
 h:W0.idxP len n x ix K
structure ixS(x ix:AV)(K:AV->Prop):Prop where
 h:W0.ixS x ix K
structure ixA(ag:Bool)(len n:Nat)(x ix:AV)(K:AV->Prop):Prop where
 h:W0.ixA ag len n x ix K
structure ext(i:Nat)(x:AV)(K:AV->Prop):Prop where
 h:W0.ext i x K
structure nilchk(x:AV)(K:AV->Prop):Prop where
 h:W0.nilchk x K
structure build(z:List AV)(parts:List (Nat×Nat×AV))(K:AV->Prop):Prop where
 h:W0.build z parts K
structure alloc(cs:List AV)(L:SH)(K:AV->SH->Prop):Prop where
 h:W0.alloc cs L K
structure box(x:AV)(L:SH)(K:AV->SH->Prop):Prop where
 h:W0.box x L K
structure bslice(n:Nat)(z:List AV)(len:Nat)(parts:List (Nat×AV))(L:SH)(K:AV->SH->Prop):Prop where
 h:W0.bslice n z len parts L K
structure mslice(n by_:Nat)(z:List AV)(l c:AV)(L:SH)(K:AV->SH->Prop):Prop where
 h:W0.mslice n by_ z l c L K
structure append(n by_:Nat)(s x:AV)(L:SH)(K:AV->SH->Prop):Prop where
 h:W0.appendR n by_ s x L K
structure clear(n:Nat)(z:List AV)(x:AV)(L:SH)(K:SH->Prop):Prop where
 h:W0.clearR n z x L K
structure len(x:AV)(K:AV->Prop):Prop where
 h:W0.len x K
structure lenS(x:AV)(K:AV->Prop):Prop where
 h:W0.lenS x K
structure mnx(mx:Bool)(x y:AV)(K:AV->Prop):Prop where
 h:W0.mnx mx x y K
structure slice(n:Nat)(x:AV)(lo hi mx:Option AV)(L:SH)(K:AV->Prop):Prop where
 h:W0.sliceR n x lo hi mx L K
structure sliceS(x:AV)(lo hi:Option AV)(K:AV->Prop):Prop where
 h:W0.sliceS x lo hi K
structure mkmap(L:SH)(K:AV->SH->Prop):Prop where
 h:W0.mkmap L K
structure look(z:AV)(ok:Bool)(m k:AV)(L:SH)(K:AV->Prop):Prop where
 h:W0.lookR z ok m k L K
structure mup(m k v:AV)(L:SH)(K:SH->Prop):Prop where
 h:W0.mupR m k v L K
structure rngS(x:AV)(L:SH)(K:AV->SH->Prop):Prop where
 h:W0.rngS x L K
structure nxt(it:AV)(L:SH)(K:AV->SH->Prop):Prop where
 h:W0.nextR it L K
structure call(P:Program)(fv:AV)(args:List AV)(L:SH)(K:AV->SH->Prop):Prop where
 h:match fv with
  |.fn g cs=>ac P g (args++cs) L K
  |_=>False
section
variable (P:Program) (F:TypeId->Option (List TypeId))
def op(o:Op)(ρ:Operand->AV)(L:SH)(K:AV->SH->Prop):Prop:=
 let k:=λv=>K v L
 match o with
 |.move x|.assign x=>K (ρ x) L
 |.pick c x y=>pick (ρ c) (ρ x) (ρ y) k
 | .alloc t=>match W0.zof P t with
  |some cs=>alloc cs L K
  |none=>False
 |.box _ x=>box (ρ x) L K
 | .build t parts=>match P.underlying t,dU P t with
  | some (.struct fs),some (.agg z)=>if(fs.toList.all λf=>(aP P f.type).isSome)=true then
    (match cf (parts.toList.map λp=>(jx P fs p.1).map λq=>(q.1,q.2,ρ p.2))with
     |some ps=>build z ps k
     |none=>False)
   else False
  | some (.array _ e),some (.agg z)=>(match aP P e with
   |some n=>build z (parts.toList.map λp=>(p.1*n,n,ρ p.2)) k
   |none=>False)
  |_,_=>False
 | .buildSlice t len parts=>match P.underlying t with
  | some (.slice e)=>match aP P e,W0.zof P e with
   |some n,some z=>if z.length=n/\0<n then bslice n z len (parts.toList.map λp=>(p.1,ρ p.2)) L K else False
   |_,_=>False
  |_=>False
 | .load t a=>match dY P t,aP P t with
  |some ag,some n=>load ag n (ρ a) L k
  |_,_=>False
 | .store t a x=>match aP P t with
  |some n=>store n (ρ a) (ρ x) L (K (.tup []))
  |none=>False
 |.nilCheck x=>nilchk (ρ x) k
 |.binOp op t x y _=>bin P F op t (ρ x) (ρ y) k
 |.unOp op _ x=>un op (ρ x) k
 | .convert s d x=>match P.underlying s,P.underlying d with
  |some (.int _),some (.int kd)=>conv kd (ρ x) k
  |some .string,some .string=>convS (ρ x) k
  |_,_=>False
 |.makeFunc (.func f) first cap=>if first.size=0 then K (.fn f (cap.toList.map ρ)) L else False
 | .makeSlice t l c=>match P.underlying t with
  | some (.slice e)=>match aP P e,gB P e,W0.zof P e with
   |some n,some by_,some z=>if z.length=n/\0<n then mslice n by_ z (ρ l) (ρ c) L K else False
   |_,_,_=>False
  |_=>False
 | .slice t x lo hi mx=>if(hi.isNone&&mx.isSome)=true then False else match P.underlying t with
  | some (.slice e)=>(match aP P e with
   |some n=>slice n (ρ x) (lo.map ρ) (hi.map ρ) (mx.map ρ) L k
   |none=>False)
  |some .string=>if mx.isNone=true then sliceS (ρ x) (lo.map ρ) (hi.map ρ) k else False
  |_=>False
 | .fieldAddr s x f=>match P.underlying s with
  | some (.struct fs)=>match fs[f]? with
   | some f=>(match aP P f.type with
    |some n=>if n=0 then False else faddr f.offset (ρ x) k
    |none=>False)
   |none=>False
  |_=>False
 | .field s x f=>match P.underlying s with
  | some (.struct fs)=>match fs[f]? with
   | some f=>(match dY P f.type,aP P f.type with
    |some ag,some n=>fld ag n f.offset (ρ x) k
    |_,_=>False)
   |none=>False
  |_=>False
 | .indexAddr t x ix=>match P.underlying t with
  | some (.slice e)=>(match aP P e with
   |some n=>idx n (ρ x) (ρ ix) L k
   |none=>False)
  | some (.array len e)=>(match aP P e with
   |some n=>idxP len n (ρ x) (ρ ix) k
   |none=>False)
  |_=>False
 | .index t x ix=>match P.underlying t with
  |some .string=>ixS (ρ x) (ρ ix) k
  | some (.array len e)=>(match dY P e,aP P e with
   |some ag,some n=>ixA ag len n (ρ x) (ρ ix) k
   |_,_=>False)
  |_=>False
 |.extract x i=>ext i (ρ x) k
 |.makeMap _ none=>mkmap L K
 | .lookup t m y ok=>match P.underlying t with
  | some (.map kt et)=>(match P.underlying kt,dU P et with
   |some .string,some z=>look z ok (ρ m) (ρ y) L k
   |_,_=>False)
  |_=>False
 | .mapUpdate t m y x=>match P.underlying t with
  | some (.map kt _)=>(match P.underlying kt with
   |some .string=>mup (ρ m) (ρ y) (ρ x) L (K (.tup []))
   |_=>False)
  |_=>False
 | .range t x=>match P.underlying t with
  |some .string=>rngS (ρ x) L K
  |_=>False
 |.next it true=>nxt (ρ it) L K
 | .call c=>match c.callee with
  | .builtin .len=>(match c.args.toList,(c.argTypes[0]?).bind P.underlying with
   |[x],some (.slice _)=>len (ρ x) k
   |[x],some .string=>lenS (ρ x) k
   |[x],some (.array n _)=>(match ρ x with|.str _=>False|_=>K (.int .i64 n) L)
   |_,_=>False)
  | .builtin .append=>(match c.args.toList,c.argTypes.toList with
   | [s,x],[t,tx]=>(match P.underlying t,P.underlying tx with
    | some (.slice e),some (.slice _)=>(match aP P e,gB P e,W0.zof P e with
     |some n,some by_,some z=>if z.length=n/\0<n then append n by_ (ρ s) (ρ x) L K else False
     |_,_,_=>False)
    |_,_=>False)
   |_,_=>False)
  | .builtin .min=>(match c.args.toList with
   |[x,y]=>mnx false (ρ x) (ρ y) k
   |_=>False)
  | .builtin .max=>(match c.args.toList with
   |[x,y]=>mnx true (ρ x) (ρ y) k
   |_=>False)
  | .builtin .clear=>(match c.args.toList,c.argTypes.toList with
   | [x],[t]=>(match P.underlying t with
    | some (.slice e)=>(match aP P e,W0.zof P e with
     |some n,some z=>if(z.length=n/\0<n)/\z.all AV.one=true then clear n z (ρ x) L (K (.tup []))else False
     |_,_=>False)
    |_=>False)
   |_,_=>False)
  |.value f=>call P (ρ f) (c.args.toList.map ρ) L K
  |_=>False
 |_=>False
end
theorem op_raw{P:Program}{F:TypeId->Option (List TypeId)}{o:Op}{ρ:Operand->AV}{L:SH}{K:AV->SH->Prop}(h:op P F o ρ L K):W0.op P F o ρ L K:=by
 cases o with
 |makeFunc fn first cap=>
  cases fn with
  |func f=>
   simp only[op]at h;simp only[W0.op];split at h
   .rename_i hc;rw[if_pos hc];exact h
   .exact h.elim
  |_=>exact h
 |move x=>exact h
 |assign x=>exact h
 |pick c x y=>exact h.h
 |box t x=>exact h.h
 |nilCheck x=>exact h.h
 |binOp op t x y c=>exact h.h
 |unOp op t x=>exact h.h
 |extract x i=>exact h.h
 |makeMap t r=>
  cases r with
  |none=>exact h.h
  |some r=>exact h.elim
 |next it s=>
  cases s with
  |true=>exact h.h
  |false=>exact h.elim
 |lookup t m y ok|mapUpdate t m y x|range t x|alloc t|build t ps|buildSlice t l ps|load t a|store t a x|convert s d x|makeSlice t l c|slice t x lo hi mx|fieldAddr s x f|field s x f|indexAddr t x ix|index t x ix|call c=>
  simp only[op]at h;simp only[W0.op]
  repeat' split at h
  all_goals first
   |exact h.elim
   |(have h:=h.h;split at h<;>first|exact h.elim|(simp only[*];exact h))
   |(simp only[*,if_true,and_self];first|exact h.h|exact h)
   |(simp_all;done)
   |(simp_all;first|exact h.h|exact h)
 |_=>exact h.elim
structure grd(x:AV)(want:Bool)(A:(AV->SH->Prop)->Prop)(L:SH)(K:AV->SH->Prop):Prop where
 h:(x=.bool want/\A K)\/((x=.bool (!want)\/x=bK)/\K bK L)
section
variable (P:Program) (F:TypeId->Option (List TypeId)) (ops:Array Oper)
def sq:List Nat->List AV->SH->(List AV->SH->Prop)->Prop
 |[],τ,L,K=>K τ L
 | i::l,τ,L,K=>match ops[i]? with
  |none=>False
  | some o=>match o.guard with
   |none=>op P F o.op (jr τ) L λv L=>sq l (fT τ o.dst v) L K
   | some (j,want)=>match (ops[j]?).bind (·.dst)with
    |some d=>grd (τ.getD d .junk) want (op P F o.op (jr τ) L) L λv L=>sq l (fT τ o.dst v) L K
    |none=>False
structure WR where
 op:Nat
 reads:List Nat
 writes:List Nat
 made:List Nat
 isCall:Bool
 old:List Nat
def free(x y:WR):Prop:=(∀c∈x.writes,c∉y.reads/\c∉y.writes)/\(∀c∈x.reads,c∉y.writes)/\(∀c∈x.made,c∉y.reads/\c∉y.writes)/\
 (x.isCall=true->y.isCall=false/\y.writes=[]/\∀c∈y.reads,c∈x.old)/\(y.isCall=true->x.writes=[])
def isMem:Op->Bool
 |.load ..|.store ..|.indexAddr ..|.slice ..|.alloc ..|.box ..|.buildSlice ..|.makeSlice ..|.makeMap ..|.range ..|.lookup ..|.mapUpdate ..|.next ..=>true
 | .call c=>match c.callee with
  |.builtin .append=>true
  |.builtin .clear=>true
  |_=>false
 |_=>false
structure calm(us:List WR)(y:WR)(A:Prop):Prop where
 h:(∀x∈us,free x y)/\A
structure dcall(us:List WR)(i:Nat)(fv:AV)(args:List AV)(L:SH)(K:AV->SH->List Nat->Prop):Prop where
 h:match fv with
  |.fn g cs=>∃Kc R:SH,L.Perm (Kc++R)/\(∀x∈us,free x ⟨i,[],Kc.names,[],true,[]⟩)/\ac P g (args++cs) Kc λv K'=>K v (K'++R) Kc.names
  |_=>False
structure Fp where
 reads:List Nat
 writes:List Nat
 made:List Nat
 old:List Nat
def isCallV:Op->Bool
 | .call c=>match c.callee with
  |.value _=>true
  |_=>false
 |_=>false
structure note(r0:Fp)(K:Fp->Prop):Prop where
 h:∀r,r=r0->K r
def dop(us:List WR)(i:Nat)(o:Op)(ρ:Operand->AV)(L:SH)(K:AV->SH->Fp->Prop):Prop:=
 match o with
 | .call c=>match c.callee with
  |.value f=>dcall P us i (ρ f) (c.args.toList.map ρ) L λv L' ks=>note ⟨[],ks,[],L.names⟩ λr=>K v L' r
  | .builtin .append=>(match c.args.toList with
   |[s,x]=>calm us ⟨i,af (ρ s)++af (ρ x),af (ρ s),[],false,[]⟩ (op P F o ρ L λv L'=>note ⟨af (ρ s)++af (ρ x),af (ρ s),af v,[]⟩ λr=>K v L' r)
   |_=>False)
  | .builtin .clear=>(match c.args.toList with
   |[x]=>calm us ⟨i,af (ρ x),af (ρ x),[],false,[]⟩ (op P F o ρ L λv L'=>note ⟨af (ρ x),af (ρ x),[],[]⟩ λr=>K v L' r)
   |_=>False)
  |_=>op P F o ρ L λv L'=>K v L' ⟨[],[],[],[]⟩
 | o=>if isMem o then calm us ⟨i,aK o ρ,aD o ρ,[],false,[]⟩ (op P F o ρ L λv L'=>note ⟨aK o ρ,aD o ρ,if W0.makes o then af v else [],[]⟩ λr=>K v L' r)
  else op P F o ρ L λv L'=>K v L' ⟨[],[],[],[]⟩
def push(i:Nat)(o:Op)(r:Fp)(rs:List WR):List WR:=if isCallV o||isMem o then⟨i,r.reads,r.writes,r.made,isCallV o,r.old⟩::rs else rs
structure dgrd(x:AV)(want:Bool)(A:(AV->SH->Fp->Prop)->Prop)(L:SH)(K:AV->SH->Fp->Prop):Prop where
 h:(x=.bool want/\A K)\/((x=.bool (!want)\/x=bK)/\K bK L ⟨[],[],[],L.names⟩)
def dr(before:List Nat):List Nat->List AV->SH->List WR->(List AV->SH->Prop)->Prop
 |[],τ,L,_,K=>K τ L
 | i::l,τ,L,rs,K=>match ops[i]? with
  |none=>False
  | some o=>match o.guard with
   |none=>dop P F (rs.filter λx=>!(before.getD i 0).testBit x.op) i o.op (jr τ) L λv L r=>dr before l (fT τ o.dst v) L (push i o.op r rs) K
   | some (j,want)=>match (ops[j]?).bind (·.dst)with
    |some d=>dgrd (τ.getD d .junk) want (dop P F (rs.filter λx=>!(before.getD i 0).testBit x.op) i o.op (jr τ) L) L λv L r=>dr before l (fT τ o.dst v) L (push i o.op r rs) K
    |none=>False
end
end W
section
variable {P:Program} {F:TypeId->Option (List TypeId)} {ops:Array Oper} {base:Nat}
open Classical in
noncomputable def I4 (g:FuncId) (as_:List AV) (Hi:ae) (v:AV) (Ho:ae) (call:FuncId->List AV->ae->Option (AV×ae)):FuncId->List AV->ae->Option (AV×ae):=
 λf args H=>if f=g/\args=as_/\H=Hi then some (v,Ho)else call f args H
def FB(call:FuncId->List AV->ae->Option (AV×ae)):Prop:=∀f args H v H',Bd H->call f args H=some (v,H')->vc H H'
theorem A9{g:FuncId}{j:List AV}{D B:ae}{v:AV}{call:FuncId->List AV->ae->Option (AV×ae)}(hs:ez P call)(hc:mZ P g j D v B)(hn:D.next<=B.next)(hb:∃fn c,P.funcs[g]? =some fn/\fn.body=some c):ez P (I4 g j D v B call):=by
 refine⟨λf args H u H' h=>?_,λf args H u H' h=>?_,λf args H u H' h=>?_⟩ <;>
 .unfold I4 at h;split at h
  .rename_i E;obtain⟨rfl,rfl,rfl⟩:=E;cases h;assumption
  .first|exact hs.ok _ _ _ _ _ h|exact hs.next _ _ _ _ _ h|exact hs.body _ _ _ _ _ h
theorem GG{g:FuncId}{j:List AV}{B D:ae}{v:AV}{call:FuncId->List AV->ae->Option (AV×ae)}(hs:FB call)(hc:Bd B->vc B D):FB (I4 g j B v D call):=λf args H u H' hb h=>by
 unfold I4 at h;split at h
 .rename_i E;obtain⟨rfl,rfl,rfl⟩:=E;cases h;exact hc hb
 .exact hs _ _ _ _ _ hb h
theorem GH{g:FuncId}{j:List AV}{B u:ae}{v:AV}{call:FuncId->List AV->ae->Option (AV×ae)}:I4 g j B v u call g j B=some (v,u):=by unfold I4;rw[if_pos ⟨rfl,rfl,rfl⟩]
theorem Ba{g:FuncId}{j:List AV}{u B:ae}{v:AV}{call:FuncId->List AV->ae->Option (AV×ae)}{f:FuncId}{args:List AV}{H:ae}(h:u.next<H.next):I4 g j u v B call f args H=call f args H:=by unfold I4;rw[if_neg];rintro⟨_,_,rfl⟩;omega
theorem DB{call1 j:FuncId->List AV->ae->Option (AV×ae)}{i:Nat}{u:List AV}{H:ae}(h:∀f args,call1 f args H=j f args H):jz P F call1 ops base i u H=jz P F j ops base i u H:=by
 unfold jz;split
 .rfl
 .split
  .split
   .rfl
   .rw[h]
   .rfl
  .rfl
  .rfl
theorem xF{call1 j:FuncId->List AV->ae->Option (AV×ae)}{n:Nat}(u:∀f args H,n<H.next->call1 f args H=j f args H)(hs:ez P call1):∀(l:List Nat) (B:List AV) (H:ae) (r:List AV×ae),n<H.next->lH P F call1 ops base l B H=some r->lH P F j ops base l B H=some r
 |[],B,H,r,_,h=>h
 | i::l,B,H,r,hn,h=>by
  unfold lH at h ⊢;rw[<-DB (call1:=call1) (λf args=>u f args H hn)];split at h
  .rename_i D G E;exact xF u hs l D G r (SW hn (lL hs E)) h
  .cases h
theorem mZ.bump{f:FuncId}{args:List AV}{H j:ae}{v:AV}(h:mZ P f args H v j)(l:List Nat):mZ P f args H v {j with next:=j.next+1,log:=l}:=by
 intro w σ vs O u;refine(h w σ vs O u).mono ?_;rintro e w' ⟨D,σ',rfl,N,M,G,E⟩;have B:aQ σ' ({j with next:=j.next+1,log:=l}:ae)=aQ σ' j:=aQ.congr λ_=>rfl
 exact⟨D,σ',rfl,by rw[B];exact N,M.congr (λ_=>rfl) (TY _),by rw[B];exact G,E⟩
theorem Fr.chg{L L':SH}{H H':ae}(h:Fr H.next L H L' H')(l:List Nat)(hl:∀b,b∈H.log->b∈l)(B:∀b,b∈L.names->b∈l)(n:Nat)(hn:H'.next<=n):vc H {H' with next:=n,log:=l} where
 next:=SK h.next hn
 dom:=λb hb D=>h.dom b hb D
 keep:=λb hb j=>by
  show H'.get b=H.get b;cases u:H.get b with
  |none=>exact h.dom b hb u
  |some x=>exact(h.keep b x u (λhm=>j (B b hm))).1
 log:=hl
 bd:=λ_ b hb=>h.bd b (SK hn hb)
theorem Bd.bump{H:ae}(h:Bd H)(l:List Nat)(n:Nat)(hn:H.next<=n):Bd {H with next:=n,log:=l}:=λb hb=>h b (SK hn hb)
theorem mK.fr{b:Nat}{L L':SH}{H H':ae}(h:mK b L H L' H')(hb:base<=b):Fr base L H L' H':=
 ⟨Nat.le_of_eq h.next.symm,h.bd,h.sub,h.keep,λc hc=>h.dom c Ua,λc hc j=>by
  rcases h.fresh c hc with rfl|u
  .omega
  .exact u⟩
theorem xG{o:Oper}{u:List AV}{j d:Nat}{want:Bool}(D:o.guard=some (j,want))(E:(ops[j]?).bind (·.dst)=some d)(h:u.getD d .junk=.bool want):dI ops o u=some true:=by
 have:u[d]? =some (.bool want):=by
  cases B:u[d]? with
  |none=>rw[List.getD,B]at h;cases h
  |some x=>rw[List.getD,B]at h;exact congrArg some h
 simp[dI,D,E,this]
theorem Bb{o:Oper}{u:List AV}{j d:Nat}{want:Bool}(D:o.guard=some (j,want))(E:(ops[j]?).bind (·.dst)=some d)(h:u.getD d .junk=.bool (!want)\/u.getD d .junk=bK):dI ops o u=some false:=by
 rcases h with h|h
 .have:u[d]? =some (.bool (!want)):=by
   cases B:u[d]? with
   |none=>rw[List.getD,B]at h;cases h
   |some x=>rw[List.getD,B]at h;exact congrArg some h
  simp[dI,D,E,this]
 .have:u[d]? =some (.tup []):=by
   cases B:u[d]? with
   |none=>rw[List.getD,B]at h;cases h
   |some x=>rw[List.getD,B]at h;exact congrArg some h
  simp[dI,D,E,this]
theorem vh{o:Oper}{j:List AV}(u:o.guard=none):dI ops o j=some true:=by simp[dI,u]
theorem nu:∀(l:List Nat) (G:List AV) (L:SH) (K:List AV->SH->Prop),W.sq P F ops l G L K->l.Nodup->∀H,Bd H->j8 L H->(∀i∈l,base+i<H.next/\H.get (base+i)=none)->base<=H.next->
  ∃call u H' L',ez P call/\FB call/\lH P F call ops base l G H=some (u,H')/\Fr base L H L' H'/\K u L'
 |[],G,L,K,h,_,H,hb,hs,_,_=>⟨FA,G,H,L,rW P,λ_ _ _ _ _ _ h=>(by cases h),rfl,.refl hb hs,h⟩
 | i::l,G,L,K,h,hnd,H,hb,hs,hfr,hbase=>by
  have B:=Tc.1 hnd;have h0:=hfr i Ud;unfold W.sq at h;split at h
  .exact h.elim
  .rename_i o ho;have go:∀(Kc:AV->SH->Prop),dI ops o G=some true->W.op P F o.op (jr G) L Kc->(∀v N,Kc v N->W.sq P F ops l (fT G o.dst v) N K)->
     ∃call u H' L',ez P call/\FB call/\lH P F call ops base (i::l) G H=some (u,H')/\Fr base L H L' H'/\K u L':=by
    intro Kc hw hop hk;rcases BY (b:=base+i) hb hs h0.1 h0.2 (W.op_raw hop)with⟨v,E,N,g1,g2,_,g3⟩|⟨g,args,g1,g2⟩
    .obtain⟨call,u,H',L',O,k2,k3,Z,Y⟩:=nu l (fT G o.dst v) N K (hk v N g3) B.2 E g2.bd g2.sub (λj S=>by
      have M:=hfr j (by simp[S]);refine⟨by rw[g2.next];exact M.1,g2.dom _ (λe=>?_) M.2⟩;have:j=i:=by omega
      exact B.1 (this▸S)) (by rw[g2.next];exact hbase)
     refine⟨call,u,H',L',O,k2,?_,(g2.fr (S7 _ _)).trans Z (Fd _),Y⟩;unfold lH jz;simp only[ho,hw,g1];exact k3
    .obtain⟨bd,g3⟩:=g2;obtain⟨v,E,N,c1,D,c3⟩:=g3 H hb hs;have hH1:j8 N ({E with next:=E.next+1,log:=L.names++H.log}:ae):=D.sub.congr λ_=>rfl
     obtain⟨call,u,H',L',O,k2,k3,Z,Y⟩:=nu l (fT G o.dst v) N K (hk v N c3) B.2 {E with next:=E.next+1,log:=L.names++H.log} (D.bd.bump _ _ (TY _)) hH1 (λj S=>by
      have M:=hfr j (by simp[S]);have:=D.next;exact⟨by show base+j<E.next+1;omega,D.dom _ M.1 M.2⟩) (by have:=D.next;show base<=E.next+1;omega)
     refine⟨I4 g args H v _ call,u,H',L',A9 O (c1.bump _) (by have:=D.next;show H.next<=E.next+1;omega) bd,GG k2 λ_=>D.chg _ (λb hb=>SP _ hb) (λb hb=>Tt _ hb) _ (TY _),?_,?_,Y⟩
     .unfold lH jz;simp only[ho,hw,g1,GH];refine xF (n:=H.next) (λf args K hK=>?_) O l _ _ _ (by have:=D.next;show H.next<E.next+1;omega) k3;exact(Ba hK).symm
     .refine Fr.trans (H':={E with next:=E.next+1,log:=L.names++H.log}) ⟨by have:=D.next;show H.next<=E.next+1;omega,D.bd.bump _ _ (TY _),hH1,D.keep,λb hb'=>D.dom b Ua,λb h1 h2=>D.fresh b h1 Ua⟩ Z (Fd _)
   split at h
   .rename_i hg;exact go _ (vh hg) h λv N h=>h
   .rename_i j want hg;split at h
    .rename_i d hd;rcases h.h with⟨h1,h2⟩|⟨h1,h2⟩
     .exact go _ (xG hg hd h1) h2 λv N h=>h
     .obtain⟨call,u,H',L',O,k2,k3,Z,Y⟩:=nu l (fT G o.dst bK) L K h2 B.2 H hb hs (λj S=>hfr j (by simp[S])) hbase;refine⟨call,u,H',L',O,k2,?_,Z,Y⟩;unfold lH jz;simp only[ho,Bb hg hd h1];exact k3
    .exact h.elim
theorem cE.region{id:Nat}{B:List AV}{L:SH}{Q:Ex->List AV->SH->Prop}(fit:Fit P F)(h:W.sq P F ops (List.range ops.size) B L λj L'=>Q .normal j L'):cE P (.region id ops false) B L Q:=λH hb hs=>by
 obtain⟨call,j,H',L',G,M,E,u,D⟩:=nu (base:=H.next) (List.range ops.size) B L _ h List.nodup_range {H with next:=H.next+ops.size} (hb.bump _ _ (S7 _ _)) (hs.congr λ_=>rfl)
  (λi hi=>⟨Nat.add_lt_add_left (Tw.1 hi) _,hb _ (S7 _ _)⟩) (S7 _ _)
 have hr:dJ P F call ops false B H=some (j,H'):=by simp only[dJ,SO,if_false];exact E
 exact⟨.normal,j,H',L',fY fit G hr,⟨SK (S7 _ _) u.next,u.bd,u.sub,u.keep,u.dom,u.fresh⟩,D⟩
end
end
section
open Go.RowKit
section
variable {P:Program} {F:TypeId->Option (List TypeId)} {ops:Array Oper} {base:Nat} {ρ:Operand->AV} {L:SH}
theorem DC{o:Op}{b:Nat}{g:FuncId}{args:List AV}{H:ae}(h:aV P F o ρ b H=some (.call g args)):∃c f,o=.call c/\c.callee=.value f:=by
 cases o with
 |call c=>
  simp only[aV]at h;split at h
  .rename_i E _;cases j:bj P H b E c.argTypes (c.args.toList.map ρ)with
   |none=>rw[j]at h;cases h
   |some r=>rw[j]at h;cases h
  .rename_i f u;exact⟨c,f,rfl,u⟩
  .cases h
 |makeFunc B first D=>cases B<;>simp only[aV]at h<;>(try split at h)<;>simp at h
 |makeMap t r=>cases r<;>simp[aV]at h
 |next G s=>cases s<;>simp[aV]at h
 |_=>
  exfalso;simp only[aV]at h
  repeat' (first|(cases h;done)|(simp at h;done)|split at h)
theorem BZ{o:Op}(h:W.isMem o=false):aK o ρ=[]∧aD o ρ=[]:=by
  cases o with
  |call c=>
    simp only[W.isMem]at h;simp only[aK,aD];split at h
    · cases h
    · cases h
    · rename_i hn hn2
      constructor <;> · split
                        · rename_i he;exact absurd he hn
                        · rename_i he;exact absurd he hn2
                        · rfl
  |_=>first|(cases h;done)|exact⟨rfl,rfl⟩
theorem vj{n:Nat}{s:AV}{rows:List (List AV)}(h:W0.rowsR L n s rows):∀c∈af s,c∈L.names:=by
 intro c j;unfold W0.rowsR at h;split at h
 .simp[af]at j
 .simp[af]at j
 .simp[af]at j
 .obtain⟨x,u,_⟩:=h;simp only[af,Sz]at j;subst j;exact S9 (f:=Prod.fst) u
 .exact h.elim
theorem DD{o:Op}{K:AV->SH->Prop}(h:W0.op P F o ρ L K):∀c∈aK o ρ,c∈L.names:=by
 intro c j;cases o with
 |load t a=>
  simp only[W0.op]at h;split at h
  .simp only[aK]at j;unfold W0.loadR at h;split at h
   .rename_i E;obtain⟨x,r,v,B,_⟩:=h;rw[E]at j;simp only[af,Sz]at j;subst j;exact S9 (f:=Prod.fst) B
   .rename_i E;rw[E]at j;simp[af]at j
   .exact h.elim
  .exact h.elim
 |store t a x=>
  simp only[W0.op]at h;split at h
  .simp only[aK]at j;unfold W0.storeR at h;split at h
   .rename_i E;obtain⟨x,r,cs,N,_,_,_,_,_,B,_⟩:=h;rw[E]at j;simp only[af,Sz]at j;subst j;exact S9 (f:=Prod.fst) B.mem
   .exact h.elim
  .exact h.elim
 |indexAddr t x ix=>
  simp only[W0.op]at h;simp only[aK]at j;split at h
  .split at h
   .unfold W0.idxR at h;split at h
    .rename_i u;obtain⟨k,i,y,_,_,_,B,_⟩:=h;rw[u]at j;simp only[fk,Sz]at j;subst j;exact S9 (f:=Prod.fst) B
    .rename_i u;rw[u]at j;simp[fk]at j
    .exact h.elim
   .exact h.elim
  .split at h
   .obtain⟨k,i,_,_,_,g⟩:=h;split at g
    .rename_i u;rw[u]at j;simp[fk]at j
    .rename_i u;rw[u]at j;simp[fk]at j
    .exact g.elim
   .exact h.elim
  .exact h.elim
 |slice t x lo M mx=>
  simp only[W0.op]at h;simp only[aK]at j;split at h
  .exact h.elim
  .split at h
   .split at h
    .obtain⟨len,l,Z,m,_,_,_,_,_,_,_,g⟩:=h;split at g
     .rename_i u;rw[u]at j;simp[fk]at j
     .rename_i u;obtain⟨⟨y,B,_⟩,_⟩:=g;rw[u]at j;simp only[fk,Sz]at j;subst j;exact S9 (f:=Prod.fst) B
     .rename_i u;rw[u]at j;simp[fk]at j
     .exact g.elim
    .exact h.elim
   .split at h
    .obtain⟨s,l,Z,u,_⟩:=h;rw[u]at j;simp[fk]at j
    .exact h.elim
   .exact h.elim
 |call k=>
  simp only[aK]at j;split at j
  .rename_i D;simp only[W0.op,D]at h;split at h
   .rename_i s x t tx E S;split at h
    .split at h
     .split at h
      .obtain⟨l,m,B,g2,_⟩:=h;simp only[E,List.flatMap_cons,List.flatMap_nil,Ta,SC]at j;rcases j with j|j
       .exact vj B c j
       .exact vj g2 c j
      .exact h.elim
     .exact h.elim
    .exact h.elim
   .exact h.elim
  .rename_i D;simp only[W0.op,D]at h;split at h
   .rename_i x t E S;split at h
    .split at h
     .split at h
      .simp only[E,List.flatMap_cons,List.flatMap_nil,Ta]at j;unfold W0.clearR at h;split at h
       .rename_i u;rw[u]at j;simp[af]at j
       .rename_i u;obtain⟨y,N,_,_,B,_⟩:=h;rw[u]at j;simp only[af,Sz]at j;subst j;exact S9 (f:=Prod.fst) B.mem
       .exact h.elim
      .exact h.elim
     .exact h.elim
    .exact h.elim
   .exact h.elim
  .simp at j
 |lookup t m k ok=>
  simp only[W0.op]at h;simp only[aK]at j;split at h
  .split at h
   .unfold W0.lookR at h;split at h
    .rename_i G Y;obtain⟨x,B,_⟩:=h;rw[G]at j;simp only[af,Sz]at j;subst j;exact S9 (f:=Prod.fst) B
    .exact h.elim
   .exact h.elim
  .exact h.elim
 |mapUpdate t m k x=>
  simp only[W0.op]at h;simp only[aK]at j;split at h
  .split at h
   .unfold W0.mupR at h;split at h
    .rename_i G Y;obtain⟨y,N,_,_,B,_⟩:=h;rw[G]at j;simp only[af,Sz]at j;subst j;exact S9 (f:=Prod.fst) B.mem
    .exact h.elim
   .exact h.elim
  .exact h.elim
 |next it s=>
  cases s with
  |false=>exact h.elim
  |true=>
   simp only[W0.op]at h;simp only[aK]at j;unfold W0.nextR at h;split at h
   .rename_i M;obtain⟨x,s,k,O,B,_⟩:=h;rw[M]at j;simp only[af,Sz]at j;subst j;exact S9 (f:=Prod.fst) B
   .exact h.elim
 |_=>simp[aK]at j
theorem Lt{o:Op}{K K2:AV->SH->Prop}(B:∀v,K v L->K2 v L)(O:W.isMem o=false)(hv:∀c f,o=.call c->c.callee≠.value f)(h:W0.op P F o ρ L K):W0.op P F o ρ L K2:=by
 cases o with
 |call c=>
  simp only[W0.op]at h ⊢;split at h
  .split at h
   .obtain⟨n,u,j⟩:=h;exact⟨n,u,B _ j⟩
   .obtain⟨n,u,j⟩:=h;exact⟨n,u,B _ j⟩
   .split at h
    .exact h
    .exact B _ h
   .exact h
  .rename_i G;simp[W.isMem,G]at O
  .split at h
   .obtain⟨k,a,c,u,j,D⟩:=h;exact⟨k,a,c,u,j,B _ D⟩
   .exact h
  .split at h
   .obtain⟨k,a,c,u,j,D⟩:=h;exact⟨k,a,c,u,j,B _ D⟩
   .exact h
  .rename_i G;simp[W.isMem,G]at O
  .rename_i f G;exact absurd G (hv c f rfl)
  .exact h
 |move x=>exact B _ h
 |assign x=>exact B _ h
 |pick c x y=>obtain⟨t,u,j⟩:=h;exact⟨t,u,B _ j⟩
 |build t N=>
  simp only[W0.op]at h ⊢;split at h
  .split at h
   .rename_i M;rw[if_pos M];split at h
    .obtain⟨E,u,j⟩:=h;exact⟨E,u,B _ j⟩
    .exact h
   .exact h.elim
  .split at h
   .obtain⟨E,u,j⟩:=h;exact⟨E,u,B _ j⟩
   .exact h
  .exact h
 |nilCheck x=>simp only[W0.op,W0.nilchk]at h ⊢;split at h<;>first|exact B _ h|exact h
 |binOp op t x y c=>obtain⟨v,u,j⟩:=h;exact⟨v,u,B _ j⟩
 |unOp op t x=>obtain⟨v,u,j⟩:=h;exact⟨v,u,B _ j⟩
 |convert s d x=>
  simp only[W0.op]at h ⊢;split at h
  .obtain⟨k,n,u,j⟩:=h;exact⟨k,n,u,B _ j⟩
  .obtain⟨s,u,j⟩:=h;exact⟨s,u,B _ j⟩
  .exact h
 |makeFunc fn first cap=>
  cases fn with
  |func f=>
   simp only[W0.op]at h ⊢;split at h
   .rename_i S;rw[if_pos S];exact B _ h
   .exact h.elim
  |_=>exact h
 |fieldAddr s x f=>
  simp only[W0.op]at h ⊢;split at h
  .split at h
   .split at h
    .split at h
     .exact h.elim
     .rename_i S;rw[if_neg S];unfold W0.faddr at h ⊢;split at h<;>first|exact B _ h|exact h
    .exact h
   .exact h
  .exact h
 |field s x f=>
  simp only[W0.op]at h ⊢;split at h
  .split at h
   .split at h
    .obtain⟨E,v,u,j,D⟩:=h;exact⟨E,v,u,j,B _ D⟩
    .exact h
   .exact h
  .exact h
 |index t x ix=>
  simp only[W0.op]at h ⊢;split at h
  .obtain⟨s,k,i,y,u,j,D,Z,Y⟩:=h;exact⟨s,k,i,y,u,j,D,Z,B _ Y⟩
  .split at h
   .obtain⟨E,k,i,v,u,j,D,Z,Y,g6⟩:=h;exact⟨E,k,i,v,u,j,D,Z,Y,B _ g6⟩
   .exact h
  .exact h
 |extract x i=>obtain⟨vs,v,u,j,D⟩:=h;exact⟨vs,v,u,j,B _ D⟩
 |_=>first|(cases O;done)|exact h
theorem nw{x y:pR}(D:∀c∈x.writes,c∉y.reads/\c∉y.writes)(N:∀c∈x.reads,c∉y.writes)(E:∀c∈x.made,c∉y.reads/\c∉y.writes)
  (O:x.isCall=true->y.isCall=false/\y.writes=[]/\∀c∈y.reads,c<x.lo) (G:y.isCall=true->x.writes=[]):kz x y=false:=by
 have j:∀l m:List Nat,(∀c∈l,c∉m)->apart l m=true:=λl m h=>by simpa[apart]using h
 unfold kz;rw[j _ _ λc h=>(D c h).1,j _ _ λc h=>(D c h).2,j _ _ N,j _ _ λc h=>(E c h).1,j _ _ λc h=>(E c h).2];cases M:x.isCall with
 |true=>obtain⟨Z,Y,S⟩:=O M;simp only[Z,Y,List.isEmpty_nil,Bool.not_true,Bool.false_or,Bool.and_true,Bool.true_and,Bool.false_and,Bool.or_false];rw[List.any_eq_false];intro c B;have:=S c B;simp;omega
 |false=>
  cases u:y.isCall with
  |true=>simp[G u]
  |false=>simp
theorem HH{us:List W.WR}{i:Nat}{o:Op}{K:AV->SH->W.Fp->Prop}(h:W.dop P F us i o ρ L K):
  (∃c f g cs,o=.call c/\c.callee=.value f/\ρ f=.fn g cs/\∃E R:SH,L.Perm (E++R)/\(∀x∈us,W.free x ⟨i,[],E.names,[],true,[]⟩)/\ac P g (c.args.toList.map ρ++cs) E λv S=>W.note ⟨[],E.names,[],L.names⟩ λr=>K v (S++R) r) \/
  (W.isMem o=true/\W.isCallV o=false/\(∀x∈us,W.free x ⟨i,aK o ρ,aD o ρ,[],false,[]⟩)/\W0.op P F o ρ L λv M=>W.note ⟨aK o ρ,aD o ρ,if W0.makes o then af v else [],[]⟩ λr=>K v M r) \/
  (W.isMem o=false/\W.isCallV o=false/\(∀c f,o=.call c->c.callee≠.value f)/\W0.op P F o ρ L λv M=>K v M ⟨[],[],[],[]⟩):=by
 cases o with
 |call c=>
  simp only[W.dop]at h;split at h
  .rename_i f O;have h:=h.h;split at h
   .rename_i g cs N;exact .inl ⟨c,f,g,cs,rfl,O,N,h⟩
   .exact h.elim
  .rename_i j;split at h
   .rename_i s x u;have B:aK (.call c) ρ=af (ρ s)++af (ρ x):=by simp[aK,j,u]
    have D:aD (.call c) ρ=af (ρ s):=by simp[aD,j,u]
    refine .inr (.inl ⟨by simp[W.isMem,j],by simp[W.isCallV,j],?_⟩);rw[B,D,show W0.makes (.call c)=true by simp[W0.makes,j]];exact⟨h.h.1,W.op_raw h.h.2⟩
   .exact h.elim
  .rename_i j;split at h
   .rename_i x u;have B:aK (.call c) ρ=af (ρ x):=by simp[aK,j,u]
    have D:aD (.call c) ρ=af (ρ x):=by simp[aD,j,u]
    refine .inr (.inl ⟨by simp[W.isMem,j],by simp[W.isCallV,j],?_⟩);rw[B,D,show W0.makes (.call c)=false by simp[W0.makes,j]];exact⟨h.h.1,W.op_raw h.h.2⟩
   .exact h.elim
  .rename_i B D Y;refine .inr (.inr ⟨?_,?_,λZ f G=>?_,W.op_raw h⟩)
   .simp only[W.isMem]
   .simp only[W.isCallV]
   .cases G;exact B f
 |_=>first|exact .inr (.inl ⟨rfl,rfl,h.h.1,W.op_raw h.h.2⟩)|exact .inr (.inr ⟨rfl,rfl,λc f j=>(by cases j),W.op_raw h⟩)
def HI(base k:Nat)(ws:List W.WR)(r:pR):Prop:=r.op<k/\
  ((r.isCall=false/\r.reads=[]/\r.writes=[]/\r.made=[base+r.op]) \/
   ∃x∈ws,x.op=r.op/\r.reads=x.reads/\(∀c∈r.writes,c∈x.writes)/\r.isCall=x.isCall/\(r.isCall=true->r.made=[]/\∀c∈x.old,c<r.lo)/\(r.isCall=false->r.made=[base+r.op]))
theorem HI.more{k D:Nat}{B j:List W.WR}{r:pR}(h:HI base k B r)(G:k<=D)(E:∀x∈B,x∈j):HI base D j r:=by
 refine⟨SW h.1 G,?_⟩;rcases h.2 with u|⟨x,u,M⟩
 .exact .inl u
 .exact .inr ⟨x,E x u,M⟩
def PL(base k:Nat)(L:SH)(ws:List W.WR):Prop:=∀j,j<k->base+j∈L.names->∃x∈ws,x.op=j/\base+j∈x.made
theorem xH{k:Nat}{Y:List W.WR}{u:Nat}{r y:pR}{wy:W.WR}(hr:HI base k Y r)(O:PL base k L Y)(hun:u.testBit r.op=false)
  (hf:∀x∈Y.filter (λx=>!u.testBit x.op),W.free x wy) (Z:∀c∈y.reads,c∈wy.reads) (h2:∀c∈y.writes,c∈wy.writes) (h3:y.isCall=wy.isCall) (h4:wy.writes=[]->y.writes=[])
  (hL1:∀c∈wy.reads,c∈L.names) (hL2:∀c∈wy.writes,c∈L.names):kz r y=false:=by
 have mem:∀x∈Y,x.op=r.op->W.free x wy:=λx hx he=>hf x (by rw[TT];exact⟨hx,by rw[he,hun];rfl⟩)
 have B:∀c∈[base+r.op],c∉y.reads/\c∉y.writes:=λc j=>by
  rw[Sz]at j;subst j;constructor
  .intro M;obtain⟨x,G,E,D⟩:=O r.op hr.1 (hL1 _ (Z _ M));exact((mem x G E).2.2.1 _ D).1 (Z _ M)
  .intro M;obtain⟨x,G,E,D⟩:=O r.op hr.1 (hL2 _ (h2 _ M));exact((mem x G E).2.2.1 _ D).2 (h2 _ M)
 rcases hr.2 with⟨G,E,D,S⟩|⟨x,G,E,D,S,g5,g6,g7⟩
 .exact nw (by simp[D]) (by simp[E]) (by rw[S];exact B) (by simp[G]) (λ_=>D)
 .obtain⟨f1,f2,f3,f4,f5⟩:=mem x G E;refine nw (λc j=>⟨λh=>(f1 c (S c j)).1 (Z c h),λh=>(f1 c (S c j)).2 (h2 c h)⟩) (λc j h=>f2 c (D▸j) (h2 c h)) ?_ (λj=>?_) (λj=>?_)
  .cases N:r.isCall with
   |true=>rw[(g6 N).1];simp
   |false=>rw[g7 N];exact B
  .obtain⟨e1,e2,e3⟩:=f4 (g5▸j);exact⟨h3.trans e1,h4 e2,λc h=>(g6 j).2 c (e3 c (Z c h))⟩
  .have:=f5 (h3▸j);cases hw:r.writes with
   |nil=>rfl
   |cons c l=>have h:=S c (by rw[hw];simp);rw[this]at h;simp at h
theorem xI{call1 u:FuncId->List AV->ae->Option (AV×ae)}{n i j:Nat}{D:List AV}{H:ae}(B:∀f args H,n<H.next->call1 f args H=u f args H)(E:n<H.next):bJ P F call1 ops base i j D H=bJ P F u ops base i j D H:=by
 unfold bJ;split
 .rfl
 .split
  .split
   .rfl
   .rw[B _ _ _ (by show n<(dG base j i H).next;rw[(fN base j i H).1];exact E)]
   .rfl
  .rfl
  .rfl
theorem nz{call1 u:FuncId->List AV->ae->Option (AV×ae)}{n:Nat}{j:List Nat}(D:∀f args H,n<H.next->call1 f args H=u f args H)(S:ez P call1):∀(l:List Nat) (E:List AV) (H:ae) (N:List pR) (r:List AV×ae×List pR),n<H.next->ey P F call1 ops base j l E H N=some r->ey P F u ops base j l E H N=some r
 |[],E,H,N,r,_,h=>h
 | i::l,E,H,N,r,hn,h=>by
  have G:∀{B O x},bJ P F call1 ops base i (j.getD i 0) E H=some (B,O,x)->H.next<=O.next:=λ{B O x} M=>by
   have:∃l,ey P F call1 ops base j [i] E H []=some (B,O,l):=by
    unfold ey;rw[M];cases x
    .exact⟨_,rfl⟩
    .exact⟨_,rfl⟩
   obtain⟨l,this⟩:=this;exact lO S [i] _ _ _ _ _ _ this
  unfold ey at h ⊢;rw[<-xI (call1:=call1) D hn];split at h
  .rename_i M;exact nz D S l _ _ _ r (SW hn (G M)) h
  .rename_i M;split at h
   .rename_i Y;rw[if_pos Y];exact nz D S l _ _ _ r (SW hn (G M)) h
   .cases h
  .cases h
theorem range'_succ(k m:Nat):List.range' k (m+1)=k::List.range' (k+1) m:=rfl
theorem r8{u:List Nat}:∀(m k:Nat) (B:List AV) (L:SH) (Y:List W.WR) (K:List AV->SH->Prop),W.dr P F ops u (List.range' k m) B L Y K->∀(H:ae) (rs:List pR),Bd H->j8 L H->
  (∀j,k<=j->j<k+m->base+j<H.next/\H.get (base+j)=none)->base+k<=H.next->(∀r∈rs,HI base k Y r)->PL base k L Y->
  ∃call D H' L' N,ez P call/\FB call/\ey P F call ops base u (List.range' k m) B H rs=some (D,H',N)/\Fr base L H L' H'/\K D L'
 |0,k,B,L,Y,K,h,H,rs,hb,hs,_,_,_,_=>⟨FA,B,H,L,rs,rW P,λ_ _ _ _ _ _ h=>(by cases h),rfl,.refl hb hs,h⟩
 | m+1,k,B,L,Y,K,h,H,rs,hb,hs,hfr,hbase,hrel,hma=>by
  rw[range'_succ]at h ⊢;have h0:=hfr k (Fd _) Ua;have hlt:∀c,c∈L.names->c<H.next:=λc M=>by
   obtain⟨x,_,hx⟩:=hs.mem M;rcases Fn c H.next with E|E
   .exact E
   .rw[hb c E]at hx;cases hx
  unfold W.dr at h;split at h
  .exact h.elim
  .rename_i o ho;have go:∀(Kc:AV->SH->W.Fp->Prop),dI ops o B=some true->W.dop P F (Y.filter λx=>!(u.getD k 0).testBit x.op) k o.op (jr B) L Kc->(∀v L1 r,Kc v L1 r->W.dr P F ops u (List.range' (k+1) m) (fT B o.dst v) L1 (W.push k o.op r Y) K)->
     ∃call D H' L' N,ez P call/\FB call/\ey P F call ops base u (k::List.range' (k+1) m) B H rs=some (D,H',N)/\Fr base L H L' H'/\K D L':=by
    intro Kc hw hop hk;have val:∀(v:AV) (H1:ae) (L1:SH) (wr:W.Fp),aV P F o.op (jr B) (base+k) H=some (.val v H1)->mK (base+k) L H L1 H1->Kc v L1 wr->
      (∀r∈rs,(u.getD k 0).testBit r.op=false->kz r ⟨k,aK o.op (jr B),aD o.op (jr B),[base+k],false,0,0⟩=false)->
      HI base (k+1) (W.push k o.op wr Y) ⟨k,aK o.op (jr B),aD o.op (jr B),[base+k],false,0,0⟩->(∀x∈Y,x∈W.push k o.op wr Y)->(base+k∈L1.names->∃x∈W.push k o.op wr Y,x.op=k/\base+k∈x.made)->
      ∃call D H' L' N,ez P call/\FB call/\ey P F call ops base u (k::List.range' (k+1) m) B H rs=some (D,H',N)/\Fr base L H L' H'/\K D L':=by
     intro v H1 L1 wr g1 Z g3 g4 g5 g6 g7;obtain⟨call,D,H',L',N,k1,k2,k3,k4,k5⟩:=r8 m (k+1) (fT B o.dst v) L1 (W.push k o.op wr Y) K (hk v L1 wr g3) {H1 with log:=H.log} (⟨k,aK o.op (jr B),aD o.op (jr B),[base+k],false,0,0⟩::rs) Z.bd (Z.sub.congr λ_=>rfl) (λj E h2=>by
       have hj0:=hfr j Ua Ua;exact⟨by show base+j<H1.next;rw[Z.next];exact hj0.1,Z.dom _ Ua hj0.2⟩) (by show base+(k+1)<=H1.next;rw[Z.next];omega) (λr hr=>by
       rcases SB.1 hr with rfl|hr
       .exact g5
       .exact(hrel r hr).more (TY _) g6) (λj hj G=>by
       rcases Z.fresh _ G with E|E
       .have:j=k:=by omega
        subst this;exact g7 G
       .have hjk:j≠k:=λe=>by subst e;exact hs.not_mem h0.2 E
        obtain⟨x,e1,e2⟩:=hma j Ua E;exact⟨x,g6 x e1,e2⟩)
     refine⟨call,D,H',L',N,k1,k2,?_,Fr.trans (H':={H1 with log:=H.log}) ⟨Nat.le_of_eq Z.next.symm,Z.bd,Z.sub.congr λ_=>rfl,Z.keep,λc M=>Z.dom c Ua,λc M hlt=>(Z.fresh c M).resolve_left Ua⟩ k4 (Fd _),k5⟩;unfold ey bJ;simp only[ho,hw,g1];rw[if_pos]
     .exact k3
     .rw[SM];intro r hr;cases G:(u.getD k 0).testBit r.op with
      |true=>rfl
      |false=>rw[g4 r hr G];rfl
    rcases HH hop with⟨c,f,g,cs,e1,e2,e3,hd⟩|⟨G,hcv,O,hop⟩|⟨G,hcv,hv,hop⟩
    ·
     obtain⟨Kp,R,hL,O,bd,hcall⟩:=hd;have hs':=hs.perm hL;have hn:∀b,b∈L.names↔b∈Kp.names\/b∈R.names:=λb=>by rw[(hL.map Prod.fst).mem_iff,LT,SC]
     generalize hmask:u.getD k 0=mask at O hop
     let Hid:Nat->Prop:=λc=>∃j,j<k/\mask.testBit j=false/\c=base+j
     have hHid:∀c,Hid c->c<H.next/\base<=c:=λc ⟨j,hj,_,M⟩=>by omega
     have hKp:∀c,c∈Kp.names->¬Hid c:=λc M ⟨j,hj,hmj,hcj⟩=>by subst hcj;obtain⟨x,f1,f2,f3⟩:=hma j hj ((hn _).2 (.inl M));exact((O x (by rw[TT];exact⟨f1,by rw[f2,hmj];rfl⟩)).2.2.1 _ f3).2 M
     have hhg:∀c,({dG base mask k H with log:=[]}:ae).get c=if Hid c then none else H.get c:=λc=>gS base mask k H c
     have hhn:({dG base mask k H with log:=[]}:ae).next=H.next:=(fN base mask k H).1
     generalize hHh:({dG base mask k H with log:=[]}:ae)=Hh at hhg hhn;have hhl:Hh.log=[]:=by rw[<-hHh]
     have hbh:Bd Hh:=λc M=>by
      rw[hhg];split
      .rfl
      .exact hb c Ua
     have hsh:j8 Kp Hh:=⟨hs'.left.nd,λp hp=>by rw[hhg,if_neg (hKp _ (S9 hp))];exact hs'.left.get p hp⟩;obtain⟨v,H1,K1,c1,c2,c3⟩:=hcall Hh hbh hsh;have hnx:=c2.next
     let Ho:ae:={H1 with next:=H1.next+1,log:=Kp.names}
     let Hn:ae:={iu base mask H k Ho with log:=H.log}
     have hng:∀c,Hn.get c=if Hid c then H.get c else H1.get c:=λc=>kJ base mask H k Ho c
     have hnn:Hn.next=H1.next+1:=(gF base mask H k Ho).1;have hK1:∀c,c∈K1.names->¬Hid c:=λc M S=>hKp c (c2.fresh c M (by have:=(hHid c S).1;omega)) S
     have hR:∀p∈R,Hn.get p.1=some p.2/\p.1∉K1.names:=λp hp=>by
      rw[hng];by_cases S:Hid p.1
      .rw[if_pos S];exact⟨hs'.right.get p hp,λM=>hK1 _ M S⟩
      .rw[if_neg S];exact c2.keep p.1 p.2 (by rw[hhg,if_neg S];exact hs'.right.get p hp) (λhk=>hs'.disj hk (S9 hp))
     have frn:Fr base L H (K1++R) Hn:=by
      refine⟨by rw[hnn];omega,λc M=>?_,⟨?_,λp hp=>?_⟩,λb x E h2=>?_,λb hb' E=>?_,λb E h2=>?_⟩
      .rw[hnn]at M;rw[hng,if_neg (λS=>by have:=(hHid c S).1;omega)];exact c2.bd c Ua
      .unfold SH.names;rw[LT,TN];refine⟨c2.sub.nd,hs'.right.nd,λa ha b hb he=>?_⟩;subst he;obtain⟨p,hp,rfl⟩:=Tl.1 hb;exact(hR p hp).2 ha
      .rcases SC.1 hp with hp|hp
       .rw[hng,if_neg (hK1 _ (S9 hp))];exact c2.sub.get p hp
       .exact(hR p hp).1
      .rw[hn]at h2;have:Hn.get b=some x/\b∉K1.names:=by
        rw[hng];by_cases S:Hid b
        .rw[if_pos S];exact⟨E,λM=>hK1 _ M S⟩
        .rw[if_neg S];exact c2.keep b x (by rw[hhg,if_neg S];exact E) (λhk=>h2 (.inl hk))
       refine⟨this.1,λhk=>?_⟩;unfold SH.names at hk;rw[LT,SC]at hk;rcases hk with hk|hk
       .exact this.2 hk
       .exact h2 (.inr hk)
      .have S:¬Hid b:=λS=>by have:=(hHid b S).2;omega
       rw[hng,if_neg S];exact c2.dom b Ua (by rw[hhg,if_neg S];exact E)
      .unfold SH.names at E;rw[LT,SC]at E;rw[hn];rcases E with E|E
       .exact .inl (c2.fresh b E Ua)
       .exact .inr E
     let r:pR:=⟨k,[],Ho.log.filter (λc=>(Hh.get c).isSome),[],true,H.next,Ho.next⟩
     obtain⟨call,D,H',L',N,k1,k2,k3,k4,k5⟩:=r8 m (k+1) (fT B o.dst v) (K1++R) ((⟨k,[],Kp.names,[],true,L.names⟩:W.WR)::Y) K (by have:=hk v _ _ (c3.h _ rfl);rw[show W.push k o.op ⟨[],Kp.names,[],L.names⟩ Y=(⟨k,[],Kp.names,[],true,L.names⟩:W.WR)::Y from by simp[W.push,W.isCallV,e1,e2]]at this;exact this) Hn (r::rs) frn.bd frn.sub (λj E h2=>by
       have hj0:=hfr j Ua Ua;have S:¬Hid (base+j):=λ⟨q,hq,_,he⟩=>by omega
       refine⟨by rw[hnn];omega,?_⟩;rw[hng,if_neg S];exact c2.dom _ Ua (by rw[hhg,if_neg S];exact hj0.2)) (by rw[hnn];omega) (λq hq=>by
       rcases SB.1 hq with rfl|hq
       .exact⟨Nat.lt_succ_self _,.inr ⟨_,T5,rfl,rfl,λc M=>(TT.1 M).1,rfl,λ_=>⟨rfl,hlt⟩,λh=>(by cases h)⟩⟩
       .exact(hrel q hq).more (TY _) λx hx=>Tv _ hx) (λj hj G=>by
       have hjk:base+j∈L.names:=by
        rw[hn];unfold SH.names at G;rw[LT,SC]at G;rcases G with G|G
        .exact .inl (c2.fresh _ G Ua)
        .exact .inr G
       have hne:j≠k:=λe=>by subst e;exact hs.not_mem h0.2 hjk
       obtain⟨x,f1,f2⟩:=hma j Ua hjk;exact⟨x,Tv _ f1,f2⟩)
     refine⟨I4 g (c.args.toList.map (jr B)++cs) Hh v Ho call,D,H',L',N,A9 k1 (c1.bump _) (by show Hh.next<=H1.next+1;omega) bd,GG k2 λ_=>c2.chg _ (by rw[hhl];simp) (λb hb=>hb) _ (TY _),?_,frn.trans k4 (Fd _),k5⟩;have ha:aV P F o.op (jr B) (base+k) H=some (.call g (c.args.toList.map (jr B)++cs)):=by rw[e1];simp[aV,e2,e3]
     have hbm:u.getD k 0=mask:=hmask;have hs1:bJ P F (I4 g (c.args.toList.map (jr B)++cs) Hh v Ho call) ops base k mask B H=some (fT B o.dst v,Hn,some r):=by unfold bJ;simp only[ho,hw,ha,hHh,GH];rw[show(dG base mask k H)={Hh with log:=H.log} from by rw[<-hHh];exact(congrArg (λl=>({dG base mask k H with log:=l}:ae)) (fN base mask k H).2)];rfl
     unfold ey;rw[hbm,hs1];simp only[];rw[if_pos]
     .refine nz (n:=Hh.next) (λf args K hK=>?_) k1 _ _ _ _ _ (by rw[hnn];omega) k3;exact(Ba hK).symm
     .rw[SM];intro q hq;cases hmq:mask.testBit q.op with
      |true=>rfl
      |false=>rw[xH (wy:=⟨k,[],Kp.names,[],true,[]⟩) (hrel q hq) hma hmq O (by simp[r]) (λc M=>(TT.1 M).1) rfl (λhe=>by show List.filter _ Kp.names=[];rw[show Kp.names=[]from he];rfl) Ud (λc M=>(hn c).2 (.inl M))];rfl
    ·
     rcases BY (b:=base+k) hb hs h0.1 h0.2 hop with⟨v,H1,L1,g1,Z,g3,g4⟩|⟨g,args,g1,Z⟩
     .have hp:W.push k o.op ⟨aK o.op (jr B),aD o.op (jr B),if W0.makes o.op then af v else [],[]⟩ Y=(⟨k,aK o.op (jr B),aD o.op (jr B),if W0.makes o.op then af v else [],false,[]⟩:W.WR)::Y:=by simp[W.push,G,hcv]
      refine val v H1 L1 _ g1 Z (g4.h _ rfl) (λr hr hun=>?_) (by rw[hp];exact⟨Nat.lt_succ_self _,.inr ⟨_,T5,rfl,rfl,λc h=>h,rfl,λh=>(by cases h),λ_=>rfl⟩⟩) (λx hx=>by rw[hp];exact Tv _ hx) (λG=>by rw[hp];exact⟨_,T5,rfl,by show _∈(if W0.makes o.op=true then af v else []);rw[if_pos (g3 G).1];exact(g3 G).2⟩);exact xH (wy:=⟨k,aK o.op (jr B),aD o.op (jr B),[],false,[]⟩) (hrel r hr) hma hun O (λc h=>h) (λc h=>h) rfl (λh=>h) (DD hop) (λc M=>DD hop c (rU M))
     .obtain⟨c,f,e1,e2⟩:=DC g1;rw[e1]at G;simp[W.isMem,e2]at G
    ·
     have hop':=Lt (K2:=λv L'=>Kc v L' ⟨[],[],[],[]⟩/\L'=L) (λv h=>⟨h,rfl⟩) G hv hop;rcases BY (b:=base+k) hb hs h0.1 h0.2 hop' with⟨v,H1,L1,g1,Z,g3,g4,g5⟩|⟨g,args,g1,Z⟩
     .obtain⟨n1,n2⟩:=BZ (ρ:=jr B) G;subst g5;have hp:W.push k o.op ⟨[],[],[],[]⟩ Y=Y:=by simp[W.push,G,hcv]
      refine val v H1 _ ⟨[],[],[],[]⟩ g1 Z g4 (λr hr hun=>?_) ⟨Nat.lt_succ_self _,.inl ⟨rfl,n1,n2,rfl⟩⟩ (λx hx=>by rw[hp];exact hx) (λh=>absurd h (hs.not_mem h0.2));rw[n1,n2];refine nw Ud Ud Ud Ud Ud
     .obtain⟨c,f,e1,e2⟩:=DC g1;exact absurd e2 (hv c f e1)
   split at h
   .rename_i hg;exact go _ (vh hg) h λv L1 r h=>h
   .rename_i j want hg;split at h
    .rename_i d hd;rcases h.h with⟨E,h2⟩|⟨E,h2⟩
     .exact go _ (xG hg hd E) h2 λv L1 r h=>h
     .have hps:∀x∈Y,x∈W.push k o.op ⟨[],[],[],L.names⟩ Y:=λx hx=>by
       unfold W.push;split
       .exact Tv _ hx
       .exact hx
      obtain⟨call,D,H',L',N,k1,k2,k3,k4,k5⟩:=r8 m (k+1) (fT B o.dst bK) L _ K h2 H rs hb hs (λj E h2=>hfr j Ua Ua) Ua (λr hr=>(hrel r hr).more (TY _) hps) (λj hj G=>by
       have hne:j≠k:=λe=>by subst e;exact hs.not_mem h0.2 G
       obtain⟨x,e1,e2⟩:=hma j Ua G;exact⟨x,hps x e1,e2⟩)
      refine⟨call,D,H',L',N,k1,k2,?_,k4,k5⟩;unfold ey bJ;simp only[ho,Bb hg hd E];exact k3
    .exact h.elim
end
end
section
open Go.RowKit
inductive Fz (K:SH):AV->AV->Prop where
 |refl (v:AV):Fz K v v
 |nils:Fz K .nils (.lst [])
 |nile:Fz K .nils .emp
 |emp:Fz K .emp (.lst [])
 |sl0 (b i:Nat):Fz K (.sl b i 0) (.lst [])
 | sl (b i n:Nat) (x:Blk) (rows:List (List AV)) (hm:(b,x)∈K) (hs:0<x.size) (hn:0<n) (hl:rows.length=n) (hle:i+n<=x.rows.length)
   (hr:∀(j:Nat) (r r2:List AV),x.rows[i+j]? =some r->rows[j]? =some r2->r.length=r2.length)
   (hc:∀(j:Nat) (r r2:List AV) (q:Nat) (a a2:AV),x.rows[i+j]? =some r->rows[j]? =some r2->r[q]? =some a->r2[q]? =some a2->Fz K a a2):Fz K (.sl b i n) (.lst rows)
 | ptr (b i off:Nat) (x:Blk) (rows:List (List AV)) (hm:(b,x)∈K) (hs:0<x.size) (hl:rows.length=x.rows.length) (hn:0<rows.length)
   (hr:∀(j:Nat) (r r2:List AV),x.rows[j]? =some r->rows[j]? =some r2->r.length=r2.length)
   (hc:∀(j:Nat) (r r2:List AV) (q:Nat) (a a2:AV),x.rows[j]? =some r->rows[j]? =some r2->r[q]? =some a->r2[q]? =some a2->Fz K a a2):Fz K (.ptr b i off) (.pptr rows i off)
 |agg (cs cs2:List AV) (hl:cs.length=cs2.length) (h:∀(i:Nat) (a a2:AV),cs[i]? =some a->cs2[i]? =some a2->Fz K a a2):Fz K (.agg cs) (.agg cs2)
 |tup (cs cs2:List AV) (hl:cs.length=cs2.length) (h:∀(i:Nat) (a a2:AV),cs[i]? =some a->cs2[i]? =some a2->Fz K a a2):Fz K (.tup cs) (.tup cs2)
theorem NE{K:SH}{v:Value}{a j:AV}(h:C8 v=some a)(u:Fz K a j):j=a:=by cases v<;>simp only[C8,SF,reduceCtorEq]at h<;>subst h<;>cases u<;>rfl
theorem rM.fz{K:SH}{w:World}{x y:Blk}{pl:cq}(h:rM w x pl)(e1:x.size=y.size)(e2:x.rows.length=y.rows.length)
  (e3:∀(j:Nat) (r M:List AV),x.rows[j]? =some r->y.rows[j]? =some M->r.length=M.length/\∀(k:Nat) (a a2:AV),r[k]? =some a->M[k]? =some a2->Fz K a a2):rM w y pl:=by
 have O:(∀(j:Nat) (r:List AV),x.rows[j]? =some r->∀(k:Nat) (a:AV),r[k]? =some a->∃v,C8 v=some a)->y.rows=x.rows:=λhk=>by
  refine TH λj=>?_
  rcases Fn j x.rows.length with Y|Y
  .have Z:x.rows[j]? =some x.rows[j]:=mt Y;have E:y.rows[j]? =some (y.rows[j]'Ua):=mt Ua;obtain⟨g1,g2⟩:=e3 j _ _ Z E;rw[Z,E];congr 1;refine TH λk=>?_
   rcases Fn k x.rows[j].length with B|B
   .have u:x.rows[j][k]? =some x.rows[j][k]:=mt B;have h4:(y.rows[j]'Ua)[k]? =some ((y.rows[j]'Ua)[k]'Ua):=mt Ua;obtain⟨v,hv⟩:=hk j _ Z k _ u;rw[u,h4,NE hv (g2 k _ _ u h4)]
   .rw[LE B,LE Ua]
  .rw[LE Y,LE Ua]
 have hy:y.rows=x.rows:=O λj r G k a D=>by
  rcases h.obj with⟨_,es,clk,_,E⟩|⟨_,s,N,_,E⟩
  .have u:(es.toList.map C9)[j]? =some (some r):=by rw[E,SJ,G];rfl
   rw[SJ]at u;cases he:es.toList[j]? with
   |none=>rw[he]at u;cases u
   |some e=>
    rw[he]at u;simp only[S0,SF]at u;unfold C9 at u;split at u
    .rename_i k' v' B S;cases u
     match k with
     |0=>cases D;exact⟨_,B⟩
     |1=>cases D;exact⟨_,S⟩
     |k+2=>simp at D
    .cases u
  .rw[E]at G
   match j with
   |0=>
    cases G
    match k with
    |0=>cases D;exact⟨.string s,rfl⟩
    |1=>cases D;exact⟨.int .i64 N,rfl⟩
    |k+2=>simp at D
   |j+1=>simp at G
 exact⟨e1▸h.size,h.psize,by rw[hy];exact h.obj⟩
section
variable {P:Program} {F:TypeId->Option (List TypeId)} {w:World} {σ:bE} {H H2:ae} {K:SH}
theorem I5(hW:bv w σ H)(hK:j8 K H)(hown:∀c,aQ σ H2 c->aQ σ H c)(hout:∀b∈K.names,∀S,σ b=some S->¬aQ σ H2 S.block){a a2:AV}(hz:Fz K a a2):∀{v:Value},bn w σ (aQ σ H) a v->bn w σ (aQ σ H2) a2 v:=by
 induction hz with
 |refl v=>intro u h;exact h.shrink hown
 |nils=>intro u h;cases h;exact .lst0 _ _ (by unfold maxLen;omega)
 |nile=>intro u h;cases h;exact .emp _
 |emp=>intro u h;cases h;exact .lst0 _ _ (by unfold maxLen;omega)
 |sl0 b i=>intro u h;obtain⟨S,ad,cap,rfl,hs,hn,hm,ha⟩:=h.sl_inv;exact .lst0 _ _ hm
 |sl b i n x B hm hs hn hl hle hr hc ih=>
  intro u h;have h0_:=h;obtain⟨S,ad,cap,rfl,Z,hn',hmx,ha⟩:=h.sl_inv;obtain⟨rfl,cs,ty,hcs,hroom⟩:=ha Ua;obtain⟨pl',cs',e',g1,G⟩:=hW.live b x (hK.get _ hm);rw[Z]at g1;cases g1;replace G:=G.1 (h0_.sl_ok Z);have M:∀(j:Nat) (D:List AV),B[j]? =some D->∃r,x.rows[i+j]? =some r/\r.length=D.length:=λj D O=>by
   have hj:=aA O;have:i+j<x.rows.length:=by omega
   exact⟨_,mt this,hr j _ D (mt this) O⟩
  have:=bn.lst (w:=w) (σ:=σ) (T:=aQ σ H2) B S.block (S.base+i*S.size) S.size cap
   ⟨hout b (S9 hm) S Z,λq D O=>by
    obtain⟨r,N,k2⟩:=M q D O;rw[<-k2,G.even _ r N,G.size],λq j hq hj=>by
    obtain⟨r,N,k2⟩:=M q B[q] (mt hq);have E:j<r.length:=by rw[G.even _ r N,<-G.size];exact hj
    obtain⟨u,hu,_⟩:=G.row N j _ (mt E);rw[Tg,<-Tq]at hu;exact⟨u,hu⟩,by rw[G.size];exact hs,Ua⟩ Ua hmx
   (λq D j y u O hy hu=>by
    obtain⟨r,N,k2⟩:=M q D O;have E:j<r.length:=by rw[k2];exact aA hy
    obtain⟨u',Y,hz⟩:=G.row N j _ (mt E);rw[Tg,<-Tq]at Y;rw[hu]at Y;cases Y;exact ih q r D j _ y N O (mt E) hy hz)
  rw[hl]at this;exact this
 |ptr b i off x B hm hs hl hn hr hc ih=>
  intro u h;cases h with
  |ptr _ _ _ S Z hp=>
  obtain⟨pl',cs',e',g1,G⟩:=hW.live b x (hK.get _ hm);rw[Z]at g1;cases g1;replace G:=G.1 hp;have M:∀(j:Nat) (D:List AV),B[j]? =some D->∃r,x.rows[j]? =some r/\r.length=D.length:=λj D O=>by
   have hj:=aA O;have:j<x.rows.length:=by omega
   exact⟨_,mt this,hr j _ D (mt this) O⟩
  exact bn.pptr (w:=w) (σ:=σ) (T:=aQ σ H2) B i off S.block S.base S.size
   ⟨hout b (S9 hm) S Z,λq D O=>by
    obtain⟨r,N,k2⟩:=M q D O;rw[<-k2,G.even _ r N,G.size],λq j hq hj=>by
    obtain⟨r,N,k2⟩:=M q B[q] (mt hq);have E:j<r.length:=by rw[G.even _ r N,<-G.size];exact hj
    obtain⟨u,hu,_⟩:=G.row N j _ (mt E);exact⟨u,hu⟩,by rw[G.size];exact hs,Ua⟩
   (λq D j y u O hy hu=>by
    obtain⟨r,N,k2⟩:=M q D O;have E:j<r.length:=by rw[k2];exact aA hy
    obtain⟨u',Y,hz⟩:=G.row N j _ (mt E);rw[hu]at Y;cases Y;exact ih q r D j _ y N O (mt E) hy hz)
 |agg cs cs2 hl h ih=>
  intro u hu;cases hu with
  |agg _ vs hlv hc=>
   refine .agg cs2 vs Ua λq y z hy hz=>?_
   have hq:q<cs.length:=by rw[hl];exact aA hy
   exact ih q _ y (mt hq) hy (hc q _ z (mt hq) hz)
 |tup cs cs2 hl h ih=>
  intro u hu;cases hu with
  |tup _ vs hlv hc=>
   refine .tup cs2 vs Ua λq y z hy hz=>?_
   have hq:q<cs.length:=by rw[hl];exact aA hy
   exact ih q _ y (mt hq) hy (hc q _ z (mt hq) hz)
structure az(vs:List AV)(L:SH)(vs2:List AV)(L2:SH):Prop where
 ex:∃K R:SH,L.Perm (K++R)/\(vs.length=vs2.length/\∀(i:Nat) (a a2:AV),vs[i]? =some a->vs2[i]? =some a2->Fz K a a2)/\R.length=L2.length/\
  ∀(i:Nat) (p q:Nat×Blk),R[i]? =some p->L2[i]? =some q->p.1=q.1/\p.2.size=q.2.size/\p.2.rows.length=q.2.rows.length/\
   ∀(j:Nat) (r r2:List AV),p.2.rows[j]? =some r->q.2.rows[j]? =some r2->r.length=r2.length/\∀(k:Nat) (a a2:AV),r[k]? =some a->r2[k]? =some a2->Fz K a a2
theorem az.refl(vs:List AV)(L:SH):az vs L vs L:=⟨[],L,.refl _,⟨rfl,λi a N B u=>by rw[B]at u;cases u;exact .refl _⟩,rfl,λi p q B u=>by
 rw[B]at u;cases u;exact⟨rfl,rfl,rfl,λj r O M E=>by rw[M]at E;cases E;exact⟨rfl,λk a N G D=>by rw[G]at D;cases D;exact .refl _⟩⟩⟩
theorem az.drop{vs u:List AV}{L K R:SH}(N:L.Perm (K++R))(M:vs.length=u.length)(h:∀(i:Nat) (a B:AV),vs[i]? =some a->u[i]? =some B->Fz K a B):az vs L u R:=⟨K,R,N,⟨M,h⟩,rfl,λi p q Y G=>by
 rw[Y]at G;cases G;exact⟨rfl,rfl,rfl,λj r Z S E=>by rw[S]at E;cases E;exact⟨rfl,λk a B O D=>by rw[O]at D;cases D;exact .refl _⟩⟩⟩
def ae.repl(H:ae)(K:List Nat)(L2:SH):ae:=L2.foldl (λH p=>{H with tr:=H.tr.set p.1 (some p.2)}) (K.foldl (λH b=>{H with tr:=H.tr.set b none}) H)
theorem xJ(K:List Nat):∀(H:ae) (c:Nat),(K.foldl (λH b=>({H with tr:=H.tr.set b none}:ae)) H).get c=(if c∈K then none else H.get c)/\(K.foldl (λH b=>({H with tr:=H.tr.set b none}:ae)) H).next=H.next:=by
 induction K with
 |nil=>intro H c;simp
 |cons b K B=>
  intro H c;simp only[TL];obtain⟨E,D⟩:=B {H with tr:=H.tr.set b none} c;refine⟨?_,D⟩;rw[E];by_cases j:c∈K
  .simp[j]
  .have:({H with tr:=H.tr.set b none}:ae).get c=if b=c then none else H.get c:=Tr.get_set _ _ _ _
   rw[if_neg j,this];by_cases u:b=c
   .subst u;simp
   .rw[if_neg u,if_neg];simp only[SB,not_or];exact⟨λe=>u e.symm,j⟩
theorem xK:∀(L2:SH),L2.names.Nodup->∀(H:ae) (c:Nat),((∀x,(c,x)∈L2->(L2.foldl (λH p=>({H with tr:=H.tr.set p.1 (some p.2)}:ae)) H).get c=some x)/\(c∉L2.names->(L2.foldl (λH p=>({H with tr:=H.tr.set p.1 (some p.2)}:ae)) H).get c=H.get c))/\(L2.foldl (λH p=>({H with tr:=H.tr.set p.1 (some p.2)}:ae)) H).next=H.next:=by
 intro L2
 induction L2 with
 |nil=>intro _ H c;simp
 |cons p L G=>
  intro u H c;simp only[Sx,Tc]at u;obtain⟨⟨M,E⟩,h3⟩:=G u.2 {H with tr:=H.tr.set p.1 (some p.2)} c;have D:({H with tr:=H.tr.set p.1 (some p.2)}:ae).get c=if p.1=c then some p.2 else H.get c:=Tr.get_set _ _ _ _
  refine⟨⟨λx j=>?_,λB=>?_⟩,h3⟩
  .simp only[TL];rcases SB.1 j with j|j
   .subst j;rw[E u.1,D,if_pos rfl]
   .exact M x j
  .simp only[TL];simp only[Sx,SB,not_or]at B;rw[E B.2,D,if_neg (λe=>B.1 e.symm)]
theorem kM{vs vs2:List AV}{L L2:SH}(h:az vs L vs2 L2)(hs:j8 L H)(hb:Bd H):∃H2:ae,Fr H.next L H L2 H2/\H2.next=H.next/\
  (∀(w:World) (σ:bE),bv w σ H->bv w σ H2/\(∀c,aQ σ H2 c->aQ σ H c)/\∀(us:List Value),eG w σ (aQ σ H) vs us->eG w σ (aQ σ H2) vs2 us)/\∀b,b∉L.names->H2.get b=H.get b:=by
 obtain⟨K,R,hL,⟨hl,hv⟩,hlen,hR⟩:=h.ex;have hs':=hs.perm hL;have hn:∀b,b∈L.names↔b∈K.names\/b∈R.names:=λb=>by rw[(hL.map Prod.fst).mem_iff,LT,SC]
 have B:L2.names=R.names:=by
  apply TH;intro i;unfold SH.names;rw[SJ,SJ];rcases Fn i R.length with hi|hi
  .have hi2:i<L2.length:=by omega
   rw[mt hi,mt hi2];simp only[S0,SF];exact(hR i _ _ (mt hi) (mt hi2)).1.symm
  .rw[LE hi,LE Ua]
 have hnd2:L2.names.Nodup:=by rw[B];exact hs'.right.nd
 let H2:=H.repl K.names L2
 have hget:∀c,(∀x,(c,x)∈L2->H2.get c=some x)/\(c∉L2.names->H2.get c=if c∈K.names then none else H.get c):=λc=>by obtain⟨⟨E,G⟩,_⟩:=xK L2 hnd2 (K.names.foldl (λH b=>{H with tr:=H.tr.set b none}) H) c;exact⟨E,λhc=>(G hc).trans (xJ K.names H c).1⟩
 have M:H2.next=H.next:=(xK L2 hnd2 _ 0).2.trans (xJ K.names H 0).2;have D:∀b y,H2.get b=some y->∃x,H.get b=some x/\b∉K.names/\x.size=y.size/\x.rows.length=y.rows.length/\∀(j:Nat) (r Z:List AV),x.rows[j]? =some r->y.rows[j]? =some Z->r.length=Z.length/\∀(k:Nat) (a a2:AV),r[k]? =some a->Z[k]? =some a2->Fz K a a2:=λb y hy=>by
  by_cases hb2:b∈L2.names
  .obtain⟨q,hq,rfl⟩:=Tl.1 hb2;have hqy:H2.get q.1=some q.2:=(hget q.1).1 q.2 hq;rw[hy]at hqy;cases hqy;obtain⟨i,hi,hqi⟩:=TG hq;have hi':i<R.length:=by omega
   obtain⟨e1,e2,e3,e4⟩:=hR i R[i] q (mt hi') (by rw[mt hi,hqi]);refine⟨R[i].2,?_,λhk=>hs'.disj hk (B▸hb2),e2,e3,e4⟩;rw[<-e1];exact hs'.right.get _ (Sy hi')
  .rw[(hget b).2 hb2]at hy;split at hy
   .cases hy
   .rename_i hk;exact⟨y,hy,hk,rfl,rfl,λj r Z E G=>by rw[E]at G;cases G;exact⟨rfl,λk a a2 Y h4=>by rw[Y]at h4;cases h4;exact .refl _⟩⟩
 have hout:∀b,b∉L.names->H2.get b=H.get b:=λb hbn=>by rw[hn,not_or]at hbn;rw[(hget b).2 (by rw[B];exact hbn.2),if_neg hbn.1]
 refine⟨H2,⟨by rw[M];exact Fd _,λb hb'=>?_,⟨hnd2,λp hp=>(hget p.1).1 p.2 hp⟩,λb x E G=>⟨by rw[hout b G];exact E,λY=>G ((hn b).2 (.inr (B▸Y)))⟩,λb _ E=>?_,λb E _=>(hn b).2 (.inr (B▸E))⟩,M,λw σ hW=>?_,hout⟩
 .rw[M]at hb';cases hg:H2.get b with
  |none=>rfl
  |some y=>obtain⟨x,N,_⟩:=D b y hg;rw[hb b hb']at N;cases N
 .cases hg:H2.get b with
  |none=>rfl
  |some y=>obtain⟨x,N,_⟩:=D b y hg;rw[E]at N;cases N
 .have S:∀c,aQ σ H2 c->aQ σ H c:=λc hc=>by
   rcases hc with hc|⟨b,y,O,E,G,Y⟩
   .exact .inl hc
   .obtain⟨x,N,_⟩:=D b y E;exact .inr ⟨b,x,O,N,G,Y⟩
  have hnot:∀b∈K.names,∀O,σ b=some O->¬aQ σ H2 O.block:=λb hbK O hpl ho=>by
   obtain⟨x,_,N⟩:=hs'.left.mem hbK;rcases ho with ho|⟨b',y,pl',E,G,Y⟩
   .exact(hW.apart _ ho).2 ⟨b,x,O,N,hpl,rfl⟩
   .obtain⟨x',hx',hk',_⟩:=D b' y E;have:=hW.inj b' b x' x pl' O hx' N G hpl Y;subst this;exact hk' hbK
  refine⟨⟨λb O hb=>by rw[M];exact hW.named b O hb,hW.lt,λb y hy=>?_,λc hc=>⟨(hW.apart c hc).1,λ⟨b,y,O,E,G,Y⟩=>?_⟩,λb b' y y' O pl' E G Y h4 h5=>?_,hW.glob.less S⟩,S,λus hus=>⟨by rw[<-hl];exact hus.1,λi a2 u E G=>?_⟩⟩
  .obtain⟨x,N,hk,e1,e2,e3⟩:=D b y hy;obtain⟨O,cs,e,g1,g2⟩:=hW.live b x N;have row:∀(j:Nat) (Z:List AV),y.rows[j]? =some Z->∃r,x.rows[j]? =some r:=λj Z G=>⟨_,mt (by rw[e2];exact aA G)⟩
   refine⟨O,cs,e,g1,λhp=>?_,λhp=>(g2.2 hp).fz e1 e2 e3⟩;replace g2:=g2.1 hp;refine⟨g2.size.trans e1,g2.block,λi Z G=>?_,by rw[<-e2,<-e1];exact g2.room,λi Z j a2 u G Y h4=>?_⟩
   .obtain⟨r,E⟩:=row i Z G;rw[<-(e3 i r Z E G).1,g2.even i r E,e1]
   .obtain⟨r,E⟩:=row i Z G;obtain⟨e4,e5⟩:=e3 i r Z E G;have hj:j<r.length:=by rw[e4];exact aA Y
    exact I5 hW hs'.left S hnot (e5 j _ a2 (mt hj) Y) (g2.rep i r j _ u E (mt hj) (by rw[e1];exact h4))
  .obtain⟨x,N,_⟩:=D b y E;exact(hW.apart c hc).2 ⟨b,x,O,N,G,Y⟩
  .obtain⟨x,N,_⟩:=D b y E;obtain⟨x',hx',_⟩:=D b' y' G;exact hW.inj b b' x x' O pl' N hx' Y h4 h5
  .have hi:i<vs.length:=by rw[hl];exact aA E
   exact I5 hW hs'.left S hnot (hv i _ a2 (mt hi) E) (hus.2 i _ u (mt hi) G)
theorem cE.fz{c:Code}{N j:List AV}{L L2:SH}{Q:Ex->List AV->SH->Prop}(hz:az N L j L2)(h:cE P c j L2 Q):cE P c N L Q:=λH hb hs=>by
 obtain⟨H2,M,G,f3,f4⟩:=kM hz hs hb;obtain⟨e,D,H',L',O,h2,h3⟩:=h H2 M.bd M.sub;refine⟨e,D,H',L',⟨by rw[<-G];exact O.1,λw σ a hW u Q hQ=>?_⟩,M.trans (h2.low (by rw[G];exact Fd _)) (Fd _),h3⟩;obtain⟨g1,S,g3⟩:=f3 w σ hW;refine O.2 w σ a g1 ⟨g3 _ u.1,u.2⟩ Q λa' Y ⟨E,t,r,e1,m⟩=>hQ a' Y ⟨E,t,r,?_,λc Z B=>by rw[<-G];exact m c Z B⟩
 exact⟨e1.os,e1.tape,e1.output,e1.size,λc B hT=>e1.keep c B (λh=>hT (S c h)),e1.shape,e1.sig,e1.eqfr,e1.frame,λc B=>(e1.own c B).imp (S c) id⟩
theorem ac.fz{f:FuncId}{args:List AV}{O:SH}{Q:AV->SH->Prop}(h:ac P f args O λv L=>∃E L2,az [v] L [E] L2/\Q E L2):ac P f args O Q:=⟨h.1,λH hb hs=>by
 obtain⟨v,H',L',G,B,E,L2,hz,h3⟩:=h.2 H hb hs;obtain⟨H2,f1,f2,f3,f4⟩:=kM hz B.sub B.bd;refine⟨E,H2,L2,λw σ Y hW N=>(G w σ Y hW N).mono ?_,B.trans (f1.low B.next) (Fd _),h3⟩;rintro e S ⟨M,D,rfl,k1,k2,j,Z⟩;obtain⟨g1,g2,g3⟩:=f3 S D k2;have:=g3 [M] ⟨rfl,λi a u G B=>by
  match i with
  |0=>cases G;cases B;exact k1
  |i+1=>cases G⟩
 exact⟨M,D,rfl,this.2 0 E M rfl rfl,g1,⟨j.os,j.tape,j.output,j.size,j.keep,j.shape,j.sig,j.eqfr,j.frame,λc hc=>j.own c (g2 c hc)⟩,Z⟩⟩
end
end
section
open Go.RowKit
structure GI where
 join:Nat->Option (List Nat)
 loop:Nat->List Nat
 frz:Nat->List Nat
 mask:Nat->List Nat
def lP(live:List Nat)(τ:List AV):List AV:=live.map λt=>τ.getD t .junk
def cF(live:List Nat)(vs:List AV)(t:Nat):AV:=match live,vs with
 |[],_=>.junk
 |_,[]=>.junk
 |d::ds,v::vs=>if d=t then v else cF ds vs t
def gI(n:Nat)(live:List Nat)(vs:List AV):List AV:=(List.range n).map (cF live vs)
def fq:Code->Option Nat
 |.region id _ _=>some id
 | .seq a b=>match fq a with
  |some i=>some i
  |none=>fq b
 | .cond _ a b=>match fq a with
  |some i=>some i
  |none=>fq b
 |.block _ b=>fq b
 |.loop b=>fq b
 |_=>none
def jE:Code->Option Nat
 |.region id _ _=>some id
 | .seq a b=>match jE b with
  |some i=>some i
  |none=>jE a
 | .cond _ a b=>match jE b with
  |some i=>some i
  |none=>jE a
 |.block _ b=>jE b
 |.loop b=>jE b
 |_=>none
namespace W
abbrev Kn:=List AV->SH->Prop
def frz0(v:AV)(L:SH)(K:AV->SH->Prop):Prop:=match v with
 |.ptr b i off=>∃x L',eJ b x L L'/\0<x.size/\0<x.rows.length/\K (.pptr x.rows i off) L'
 |.sl b i n=>∃x L',eJ b x L L'/\0<x.size/\i+n<=x.rows.length/\K (.lst ((x.rows.drop i).take n)) L'
 |.nils=>K (.lst []) L
 |.emp=>K (.lst []) L
 |v=>K v L
structure frz1(v:AV)(L:SH)(K:AV->SH->Prop):Prop where
 h:frz0 v L K
def frzs:List Nat->List AV->SH->Kn->Prop
 |[],τ,L,K=>K τ L
 |d::ds,τ,L,K=>frz1 (τ.getD d .junk) L λv L=>frzs ds (τ.set d v) L K
structure cond(v:AV)(A B:Prop):Prop where
 h:(v=.bool true/\A)\/(v=.bool false/\B)
structure join(J:Kn)(B:Kn->Prop):Prop where
 h:B J
structure loop(B:List AV->SH->Kn->Prop)(vs:List AV)(L:SH):Prop where
 h:∃I:Nat->Kn,(∃n vs2 L2,az vs L vs2 L2/\I n vs2 L2)/\∀n vs L,I n vs L->B vs L λvs' L'=>∃m vs2 L2,m<n/\az vs' L' vs2 L2/\I m vs2 L2
section
variable (P:Program) (F:TypeId->Option (List TypeId)) (ht:GI)
def code:Code->List AV->SH->Kn->(Nat->Kn)->Kn->Prop
 |.skip,τ,L,kn,_,_=>kn τ L
 |.label _,τ,L,kn,_,_=>kn τ L
 | .region id ops draw,τ,L,kn,_,_=>if draw then(GD ops&&BW ops&&(bS ops.toList []==ht.mask id))=true/\dr P F ops (ht.mask id) (List.range' 0 ops.size) τ L [] λτ L=>frzs (ht.frz id) τ L kn
   else sq P F ops (List.range ops.size) τ L λτ L=>frzs (ht.frz id) τ L kn
 | .seq a b,τ,L,kn,kx,kr=>match (jE a).bind ht.join with
  |none=>code a τ L (λτ L=>code b τ L kn kx kr) kx kr
  |some live=>join (λvs L=>code b (gI τ.length live vs) L kn kx kr) λj=>code a τ L (λτ L=>j (lP live τ) L) kx kr
 |.cond x a b,τ,L,kn,kx,kr=>cond (jr τ x) (code a τ L kn kx kr) (code b τ L kn kx kr)
 |.block id b,τ,L,kn,kx,kr=>code b τ L kn (λid' τ L=>if id'=id then kn τ L else kx id' τ L) kr
 | .loop b,τ,L,kn,kx,kr=>match fq b with
  |none=>False
  |some r=>loop (λvs L next=>code b (gI τ.length (ht.loop r) vs) L (λτ L=>next (lP (ht.loop r) τ) L) kx kr) (lP (ht.loop r) τ) L
 |.exit id,τ,L,_,kx,_=>kx id τ L
 |.ret,τ,L,_,_,kr=>kr τ L
 |_,_,_,_,_,_=>False
def pack:List AV->AV
 |[v]=>v
 |vs=>.tup vs
def res:List ResultVar->List AV->SH->List AV->(AV->SH->Prop)->Prop
 |[],_,L,vs,Q=>Q (pack vs.reverse) L
 |.tmp t::rs,τ,L,vs,Q=>res rs τ L (τ.getD t bK::vs) Q
 | .cell a t::rs,τ,L,vs,Q=>match dY P t,aP P t with
  |some ag,some n=>load ag n (τ.getD a bK) L λv=>res rs τ L (v::vs) Q
  |_,_=>False
def func(fn:Func)(c:Code)(args:List AV)(L:SH)(Q:AV->SH->Prop):Prop:=
 code P F ht c (args++List.replicate (fn.ntmps-args.length) bK) L (λτ L=>res P fn.results.toList τ L [] Q) (λ_ _ _=>False) (λτ L=>res P fn.results.toList τ L [] Q)
end
end W
section
variable {P:Program} {F:TypeId->Option (List TypeId)} {ht:GI}
theorem pW(j:List AV)(t:Nat):∀live:List Nat,cF live (lP live j) t=.junk\/cF live (lP live j) t=j.getD t .junk
 |[]=>.inl rfl
 | d::ds=>by
  simp only[lP,Sx,cF];by_cases h:d=t
  .subst h;rw[if_pos rfl];exact .inr rfl
  .rw[if_neg h];exact pW j t ds
theorem xL(live:List Nat)(u:List AV):RH u (gI u.length live (lP live u)):=by
 refine⟨by simp[gI],λi x j=>?_⟩;simp only[gI,SJ]at j;rcases Fn i u.length with hi|hi
 .rw[T9 hi]at j;simp only[S0,SF]at j;subst j;rcases pW u i live with h|h
  .exact .inl h
  .right;rw[h,mt hi];simp[List.getD,hi]
 .rw[LE (by simpa using hi)]at j;cases j
theorem HJ{n:Nat}{live:List Nat}{vs vs2:List AV}{L L2:SH}(h:az vs L vs2 L2):az (gI n live vs) L (gI n live vs2) L2:=by
 obtain⟨K,R,G,⟨D,E⟩,h4⟩:=h.ex;refine⟨K,R,G,⟨by simp[gI],λi a a2 j B=>?_⟩,h4⟩;simp only[gI,SJ]at j B;cases hr:(List.range n)[i]? with
 |none=>rw[hr]at j;cases j
 |some t=>
  rw[hr]at j B;simp only[S0,SF]at j B;subst j;subst B;clear hr G h h4
  induction live generalizing vs vs2 with
  |nil=>exact .refl _
  |cons d ds N=>
   cases vs with
   | nil=>cases vs2 with
    |nil=>exact .refl _
    |cons y M=>simp at D
   | cons x xs=>cases vs2 with
    |nil=>simp at D
    |cons y M=>
     simp only[cF];by_cases u:d=t
     .rw[if_pos u,if_pos u];exact E 0 x y rfl rfl
     .rw[if_neg u,if_neg u];exact N (by simpa using D) λi a a2 e1 e2=>E (i+1) a a2 (by simpa using e1) (by simpa using e2)
theorem xM{u:List AV}{d:Nat}{v:AV}{L K R:SH}(G:L.Perm (K++R))(B:Fz K (u.getD d .junk) v):az u L (u.set d v) R:=by
 refine .drop G Ud λi a a2 E j=>?_
 rw[SS]at j;by_cases D:d=i
 .subst D;rw[if_pos rfl]at j;split at j
  .cases j;rw[List.getD,E]at B;exact B
  .cases j
 .rw[if_neg D,E]at j;cases j;exact .refl _
theorem Fz.rows{K:SH}{b i n:Nat}{x:Blk}(hm:(b,x)∈K)(hs:0<x.size)(hle:i+n<=x.rows.length):Fz K (.sl b i n) (.lst ((x.rows.drop i).take n)):=by
 rcases Ts n with rfl|hn
 .simp only[List.take_zero];exact .sl0 b i
 .have get:∀(j:Nat) (r r2:List AV),x.rows[i+j]? =some r->((x.rows.drop i).take n)[j]? =some r2->r=r2:=λj r r2 B u=>by
   rw[List.getElem?_take]at u;split at u
   .rw[Ti,B]at u;cases u;rfl
   .cases u
  refine .sl b i n x _ hm hs hn (by simp;omega) hle (λj r r2 B u=>by rw[get j r r2 B u]) λj r r2 q a a2 B u E D=>?_
  have:=get j r r2 B u;subst this;rw[E]at D;cases D;exact .refl _
theorem Fz.box{K:SH}{b i off:Nat}{x:Blk}(hm:(b,x)∈K)(hs:0<x.size)(hn:0<x.rows.length):Fz K (.ptr b i off) (.pptr x.rows i off):=
 .ptr b i off x x.rows hm hs rfl hn (λj r r2 B u=>by rw[B]at u;cases u;rfl) λj r r2 q a a2 B u E D=>by rw[B]at u;cases u;rw[E]at D;cases D;exact .refl _
theorem cE.post{c:Code}{E:List AV}{L:SH}{Q M:Ex->List AV->SH->Prop}(h:cE P c E L Q)(N:∀e u L',Q e u L'->∃j L2,az u L' j L2/\M e j L2):cE P c E L M:=λH hb hs=>by obtain⟨e,u,H',L',G,B,Z⟩:=h H hb hs;obtain⟨j,L2,hz,Y⟩:=N e u L' Z;obtain⟨H2,f1,f2,f3,f4⟩:=kM hz B.sub B.bd;refine⟨e,j,H2,L2,⟨by rw[f2];exact G.1,λw σ a O D Q S=>G.2 w σ a O D Q λa' w' ⟨σ',t,r,e1,m⟩=>?_⟩,B.trans (f1.low B.next) (Fd _),Y⟩;obtain⟨g1,g2,g3⟩:=f3 w' σ' r;exact S a' w' ⟨σ',⟨g3 _ t.1,t.2⟩,g1,⟨e1.os,e1.tape,e1.output,e1.size,e1.keep,e1.shape,e1.sig,e1.eqfr,e1.frame,λc hc=>e1.own c (g2 c hc)⟩,m⟩
theorem cE.frzs{c:Code}{N:List AV}{L:SH}{K:W.Kn}{n:Nat}:∀(ds:List Nat),cE P c N L (λe j L'=>e=.normal/\j.length=n/\W.frzs ds j L' K)->cE P c N L (λe j L'=>e=.normal/\j.length=n/\K j L')
 |[],h=>h
 | d::ds,h=>by
  refine cE.frzs ds (h.post ?_);rintro e j L' ⟨O,hn,hz⟩;simp only[W.frzs]at hz;have hz:=hz.h;simp only[W.frz0]at hz;have set:∀(v:AV) (L2:SH),az j L' (j.set d v) L2->W.frzs ds (j.set d v) L2 K->∃u L2,az j L' u L2/\e=.normal/\u.length=n/\W.frzs ds u L2 K:=λv L2 E D=>⟨_,L2,E,O,by simpa using hn,D⟩
  split at hz
  .rename_i b i off B;obtain⟨x,L2,E,D,M,G⟩:=hz;refine set _ L2 (xM (K:=[(b,x)]) E.perm ?_) G;rw[B];exact .box Ud D M
  .rename_i b i k B;obtain⟨x,L2,E,D,M,G⟩:=hz;refine set _ L2 (xM (K:=[(b,x)]) E.perm ?_) G;rw[B];exact .rows Ud D M
  .rename_i B;refine set _ L' (xM (K:=[]) (.refl _) ?_) hz;rw[B];exact .nils
  .rename_i B;refine set _ L' (xM (K:=[]) (.refl _) ?_) hz;rw[B];exact .emp
  .refine set _ L' (xM (K:=[]) (.refl _) ?_) hz;exact .refl _
theorem GJ(j:List AV)(d:Option Tmp)(v:AV):(fT j d v).length=j.length:=by cases d<;>simp[fT]
theorem DE{ops:Array Oper}{base:Nat}{call:FuncId->List AV->ae->Option (AV×ae)}:∀(l:List Nat) (u:List AV) (H:ae) (j:List AV) (H':ae),lH P F call ops base l u H=some (j,H')->j.length=u.length
 |[],u,H,j,H',h=>by cases h;rfl
 | i::l,u,H,j,H',h=>by
  unfold lH at h;split at h
  .rename_i B D hs;rw[DE l _ _ _ _ h];unfold jz at hs
   repeat' (first|(cases hs;exact GJ _ _ _)|(cases hs;done)|split at hs)
  .cases h
theorem tQ{ops:Array Oper}{base:Nat}{before:List Nat}{call:FuncId->List AV->ae->Option (AV×ae)}:∀(l:List Nat) (D:List AV) (H:ae) (E:List pR) (j:List AV) (H':ae) (B:List pR),ey P F call ops base before l D H E=some (j,H',B)->j.length=D.length
 |[],D,H,E,j,H',B,h=>by cases h;rfl
 | i::l,D,H,E,j,H',B,h=>by
  have key:∀{mask:Nat} {u:List AV} {G:ae} {r:Option pR},bJ P F call ops base i mask D H=some (u,G,r)->u.length=D.length:=λ{mask u G r} hs=>by
   unfold bJ at hs
   repeat' (first|(cases hs;exact GJ _ _ _)|(cases hs;done)|split at hs)
  unfold ey at h;split at h
  .rename_i hs;rw[tQ l _ _ _ _ _ _ h,key hs]
  .rename_i hs;split at h
   .rw[tQ l _ _ _ _ _ _ h,key hs]
   .cases h
  .cases h
theorem cE.region'{ops:Array Oper}{id:Nat}{B:List AV}{L:SH}{K:W.Kn}(fit:Fit P F)(h:W.sq P F ops (List.range ops.size) B L K):cE P (.region id ops false) B L λe j L'=>e=.normal/\j.length=B.length/\K j L':=λH hb hs=>by
 obtain⟨call,j,H',L',G,M,D,u,E⟩:=nu (base:=H.next) (List.range ops.size) B L _ h List.nodup_range {H with next:=H.next+ops.size} (hb.bump _ _ (S7 _ _)) (hs.congr λ_=>rfl)
  (λi hi=>⟨Nat.add_lt_add_left (Tw.1 hi) _,hb _ (S7 _ _)⟩) (S7 _ _)
 have hr:dJ P F call ops false B H=some (j,H'):=by simp only[dJ,SO,if_false];exact D
 exact⟨.normal,j,H',L',fY fit G hr,⟨SK (S7 _ _) u.next,u.bd,u.sub,u.keep,u.dom,u.fresh⟩,rfl,DE _ _ _ _ _ D,E⟩
theorem cE.draw'{ops:Array Oper}{id:Nat}{D:List AV}{L:SH}{K:W.Kn}(fit:Fit P F)(M:lN ops)(N:rV ops)(h:W.dr P F ops (bS ops.toList []) (List.range' 0 ops.size) D L [] K):cE P (.region id ops true) D L λe u L'=>e=.normal/\u.length=D.length/\K u L':=λH hb hs=>by
 obtain⟨call,u,H',L',E,k1,Z,O,B,Y⟩:=r8 (base:=H.next) ops.size 0 D L [] _ h {H with next:=H.next+ops.size} [] (hb.bump _ _ (S7 _ _)) (hs.congr λ_=>rfl)
  (λi _ hi=>⟨by show H.next+i<H.next+ops.size;omega,hb _ (S7 _ _)⟩) (by show H.next+0<=H.next+ops.size;omega) Ud (λj hj=>by omega)
 have hr:dJ P F call ops true D H=some (u,{H' with log:=E.flatMap (·.writes)++H'.log}):=by simp only[dJ,if_true];rw[List.range_eq_range',O]
 obtain⟨S,n2⟩:=xD fit k1 Z M N hr;exact⟨.normal,u,_,L',⟨S,λw σ a hW G Q hQ=>n2 id w σ a hW G Q hQ⟩,⟨SK (S7 _ _) B.next,B.bd,B.sub.congr λ_=>rfl,B.keep,B.dom,B.fresh⟩,rfl,tQ _ _ _ _ _ _ _ O,Y⟩
def PM(n:Nat)(kn:W.Kn)(kx:Nat->W.Kn)(kr:W.Kn)(e:Ex)(τ:List AV)(L:SH):Prop:=τ.length=n/\match e with
 |.normal=>kn τ L
 |.exit id=>kx id τ L
 |.ret=>kr τ L
theorem d9(fit:Fit P F):∀(c:Code) (u:List AV) (L:SH) (M:W.Kn) (G:Nat->W.Kn) (D:W.Kn),W.code P F ht c u L M G D->cE P c u L (PM u.length M G D)
 |.skip,u,L,M,G,D,h=>.skip ⟨rfl,h⟩
 |.label l,u,L,M,G,D,h=>.label ⟨rfl,h⟩
 |.exit id,u,L,M,G,D,h=>.exit ⟨rfl,h⟩
 |.ret,u,L,M,G,D,h=>.ret ⟨rfl,h⟩
 | .region id ops draw,u,L,M,G,D,h=>by
  simp only[W.code]at h;have fin:cE P (.region id ops draw) u L (λe j L'=>e=.normal/\j.length=u.length/\M j L')->cE P (.region id ops draw) u L (PM u.length M G D):=λh=>h.mono λe j L' ⟨E,B,h3⟩=>by subst E;exact⟨B,h3⟩
  cases draw with
  |false=>exact fin (.frzs _ (.region' fit h))
  |true=>simp only[if_true,SN]at h;have hm:=h.2;rw[<-eq_of_beq h.1.2]at hm;exact fin (.frzs _ (.draw' fit (Dy h.1.1.1) (A8 h.1.1.2) hm))
 | .seq a b,u,L,M,G,D,h=>by
  simp only[W.code]at h;split at h
  .refine cE.seq ((d9 fit a u L _ G D h).mono λe j L' ⟨E,B⟩=>?_);cases e with
   |normal=>simp only;rw[<-E];exact d9 fit b j L' M G D B
   |exit id=>exact⟨E,B⟩
   |ret=>exact⟨E,B⟩
  .rename_i live _;have hB:=h.h;refine cE.seq ((d9 fit a u L _ G D hB).mono λe j L' ⟨E,B⟩=>?_);cases e with
   |normal=>
    have Y:=d9 fit b _ L' M G D B;have N:(gI u.length live (lP live j)).length=u.length:=by simp[gI]
    rw[N]at Y;have S:=xL live j;rw[E]at S;exact cE.dim S Y
   |exit id=>exact⟨E,B⟩
   |ret=>exact⟨E,B⟩
 | .cond x a b,u,L,M,G,D,h=>by
  rcases h.h with⟨E,B⟩|⟨E,B⟩
  .exact cE.cond (t:=true) E (d9 fit a u L M G D B)
  .exact cE.cond (t:=false) E (d9 fit b u L M G D B)
 | .block id b,u,L,M,G,D,h=>by
  refine cE.block ((d9 fit b u L _ _ D h).mono λe j L' ⟨E,B⟩=>?_);cases e with
  |normal=>exact⟨E,B⟩
  |ret=>exact⟨E,B⟩
  |exit id'=>
   simp only[Ex.leave];simp only at B;by_cases O:id'=id
   .rw[if_pos O]at B ⊢;exact⟨E,B⟩
   .rw[if_neg O]at B ⊢;exact⟨E,B⟩
 | .loop b,u,L,M,G,D,h=>by
  simp only[W.code]at h;split at h
  .exact h.elim
  .rename_i r _;obtain⟨I,⟨n,vs0,L0,hz0,h0⟩,hB⟩:=h.h;refine cE.loop (λm j L'=>j.length=u.length/\∃vs2 L2,az (lP (ht.loop r) j) L' vs2 L2/\I m vs2 L2) (λm j L' ⟨E,vs2,L2,hz,B⟩=>?_) n ⟨rfl,vs0,L0,hz0,h0⟩;have h4:=d9 fit b _ L2 _ G D (hB m vs2 L2 B);have N:(gI u.length (ht.loop r) vs2).length=u.length:=by simp[gI]
   rw[N]at h4;have Y:=cE.fz (HJ (n:=u.length) (live:=ht.loop r) hz) h4;have S:=xL (ht.loop r) j;rw[E]at S;refine(cE.dim S Y).mono λe τ1 L1 ⟨g1,g2⟩=>?_
   cases e with
   |normal=>obtain⟨m',Z,L3,k1,k2,k3⟩:=g2;exact⟨m',k1,g1,Z,L3,k2,k3⟩
   |exit id=>exact⟨g1,g2⟩
   |ret=>exact⟨g1,g2⟩
 |.rangeFunc ..,_,_,_,_,_,h=>h.elim
 |.scope _,_,_,_,_,_,h=>h.elim
 |.goto _,_,_,_,_,_,h=>h.elim
 |.refuse _,_,_,_,_,_,h=>h.elim
theorem FC{u:List AV}{L:SH}{H:ae}{Q:AV->SH->Prop}(hs:j8 L H):∀(j:List ResultVar) (vs:List AV),W.res P j u L vs Q->∃us,cf (j.map (jA P u H))=some us/\Q (W.pack (vs.reverse++us)) L
 |[],vs,h=>⟨[],rfl,by simpa[W.res]using h⟩
 | .tmp t::j,vs,h=>by obtain⟨us,D,h2⟩:=FC hs j _ h;refine⟨u.getD t bK::us,?_,by simpa using h2⟩;simp only[Sx,jA,cf,D]
 | .cell a t::j,vs,h=>by
  simp only[W.res]at h;split at h
  .rename_i ag n B hn;obtain⟨v,G,E⟩:=GF hs B hn h.h;obtain⟨us,D,h2⟩:=FC hs j _ E;refine⟨v::us,?_,by simpa using h2⟩;simp only[Sx,jA,G,cf,D]
  .exact h.elim
theorem FD(fit:Fit P F){f:FuncId}{fn:Func}{c:Code}{args:List AV}{L:SH}{Q:AV->SH->Prop}(Z:P.funcs[f]? =some fn)(hb:fn.body=some c)(h:W.func P F ht fn c args L Q):ac P f args L Q:=by
 refine⟨⟨fn,c,Z,hb⟩,λH hB hs=>?_⟩;obtain⟨e,G,H',L',k1,Y,k3,O⟩:=d9 fit c _ L _ _ _ h H hB hs;have N:(e=.normal\/e=.ret)/\W.res P fn.results.toList G L' [] Q:=by
  cases e with
  |normal=>exact⟨.inl rfl,O⟩
  |ret=>exact⟨.inr rfl,O⟩
  |exit id=>exact O.elim
 obtain⟨he,hr⟩:=N;obtain⟨us,r1,r2⟩:=FC Y.sub _ _ hr;have hv:kB P G H' fn.results.toList=some (W.pack us):=by
  unfold kB;rw[r1]
  match us with
  |[]=>rfl
  |[v]=>rfl
  |v::u::l=>rfl
 simp only[List.reverse_nil,Tu]at r2;refine⟨_,H',L',λw σ vs hW B=>?_,Y,r2⟩;refine calls_of_wp Z hb (k1.2 w σ _ hW ⟨⟨by simp[B.1],λi x u E D=>?_⟩,rfl⟩ _ λa' w' S=>?_)
 .simp only[Array.toList_append,Array.toList_replicate]at D;rcases Fn i args.length with hi|hi
  .rw[SE hi]at E;rw[SE (by rw[<-B.1];exact hi)]at D;exact B.2 i x u E D
  .rw[SA hi,TR]at E;rw[SA (by rw[<-B.1];exact hi),TR]at D;split at E
   .split at D
    .cases E;cases D;exact kH
    .cases D
   .cases E
 .obtain⟨σ',t1,g1,e1,m1⟩:=S;obtain⟨M,q1,q2⟩:=pV (P:=P) g1 t1 hv;have j:a'.defers=[]/\∃v,(results fn a'.tmps).run P w'=.ok v w'/\∃M σ',Ending.returned v=.returned M/\bn w' σ' (aQ σ' H') _ M/\bv w' σ' H'/\eH w σ (aQ σ H) w' σ' (aQ σ' H')/\∀c pl,σ' c=some pl->σ c=some pl\/H.next<=c:=
   ⟨t1.2,M,q1,M,σ',rfl,q2,g1,e1,m1⟩
  rcases he with rfl|rfl
  .exact j
  .exact j
end
end
def FE(P:Program)(t:TypeId):Option (List TypeId):=match P.underlying t with
 | some (.struct fs) => if (!P.stoodInHeld t && !P.eqGuardType P.depth t && fs.toList.zipIdx.all fun p => p.1.offset == p.2 && p.1.name != "_" && (match dY P p.1.type with | some false => true | _ => false)) = true then some (fs.toList.map (·.type)) else none
 |_=>none
def HK{P:Program}{t:TypeId}{ts:List TypeId}(h:FE P t=some ts):IU P t ts:=by
 unfold FE at h;split at h
 .rename_i G B;split at h
  .rename_i j;cases h;simp only[SN,Bool.not_eq_true',SM]at j;have u:P.fieldsOf t=G:=by simp[Program.fieldsOf,B]
   refine⟨by rw[u];exact B,j.1.1,j.1.2,by rw[u],λi f D=>?_⟩;rw[u]at D;have:=j.2 (f,i) (by rw[List.mem_iff_getElem?];exact⟨i,by rw[List.getElem?_zipIdx,D];simp⟩);simp only[beq_iff_eq,bne_iff_ne]at this;refine⟨this.1.2,this.1.1,?_⟩;have E:=this.2;split at E
   .assumption
   .cases E
  .cases h
 .cases h
noncomputable def Fl:TypeId->Option (List TypeId):=FE Tryz.prog
def xN:Tryz.prog.funcs.toList.all Dz=true:=by kernel_rfl
def fit:Fit Tryz.prog Fl:=⟨λt j h=>HK h,(MS xN).1,by kernel_rfl⟩
section
section
variable {P:Program} {F:TypeId->Option (List TypeId)} {K:AV->Prop} {KL:AV->SH->Prop} {L:SH}
theorem de(v:AV):W0.opt (some v) K=K v:=propext ⟨λ⟨u,B,j⟩=>by cases B;exact j,λh=>⟨v,rfl,h⟩⟩
theorem DF:W0.opt none K=False:=propext ⟨λ⟨u,j,B⟩=>(by cases j),λh=>h.elim⟩
theorem NF(x y:AV):W.pick (.bool true) x y K=K x:=propext ⟨λ⟨t,u,j⟩=>by cases u;exact j,λh=>⟨true,rfl,h⟩⟩
theorem NG(x y:AV):W.pick (.bool false) x y K=K y:=propext ⟨λ⟨t,u,j⟩=>by cases u;exact j,λh=>⟨false,rfl,h⟩⟩
theorem PN(p:Bool)(A:(AV->SH->Prop)->Prop):W.grd (.bool p) true A L KL=((p=true->A KL)/\(p=false->KL bK L)):=propext ⟨λ⟨h⟩=>by
  rcases h with⟨j,u⟩|⟨j|j,u⟩
  .cases j;exact⟨λ_=>u,λh=>(by cases h)⟩
  .cases j;exact⟨λh=>(by cases h),λ_=>u⟩
  ·(cases j),λ⟨j,u⟩=>by
  cases p with
  |true=>exact⟨.inl ⟨rfl,j rfl⟩⟩
  |false=>exact⟨.inr ⟨.inl rfl,u rfl⟩⟩⟩
theorem PO(p:Bool)(A:(AV->SH->Prop)->Prop):W.grd (.bool p) false A L KL=((p=false->A KL)/\(p=true->KL bK L)):=propext ⟨λ⟨h⟩=>by
  rcases h with⟨j,u⟩|⟨j|j,u⟩
  .cases j;exact⟨λ_=>u,λh=>(by cases h)⟩
  .cases j;exact⟨λh=>(by cases h),λ_=>u⟩
  ·(cases j),λ⟨j,u⟩=>by
  cases p with
  |false=>exact⟨.inl ⟨rfl,j rfl⟩⟩
  |true=>exact⟨.inr ⟨.inl rfl,u rfl⟩⟩⟩
theorem NH{B:AV->SH->W.Fp->Prop}(p:Bool)(A:(AV->SH->W.Fp->Prop)->Prop):W.dgrd (.bool p) true A L B=((p=true->A B)/\(p=false->B bK L ⟨[],[],[],L.names⟩)):=propext ⟨λ⟨h⟩=>by
  rcases h with⟨j,u⟩|⟨j|j,u⟩
  .cases j;exact⟨λ_=>u,λh=>(by cases h)⟩
  .cases j;exact⟨λh=>(by cases h),λ_=>u⟩
  ·(cases j),λ⟨j,u⟩=>by
  cases p with
  |true=>exact⟨.inl ⟨rfl,j rfl⟩⟩
  |false=>exact⟨.inr ⟨.inl rfl,u rfl⟩⟩⟩
theorem NI{B:AV->SH->W.Fp->Prop}(p:Bool)(A:(AV->SH->W.Fp->Prop)->Prop):W.dgrd (.bool p) false A L B=((p=false->A B)/\(p=true->B bK L ⟨[],[],[],L.names⟩)):=propext ⟨λ⟨h⟩=>by
  rcases h with⟨j,u⟩|⟨j|j,u⟩
  .cases j;exact⟨λ_=>u,λh=>(by cases h)⟩
  .cases j;exact⟨λh=>(by cases h),λ_=>u⟩
  ·(cases j),λ⟨j,u⟩=>by
  cases p with
  |false=>exact⟨.inl ⟨rfl,j rfl⟩⟩
  |true=>exact⟨.inr ⟨.inl rfl,u rfl⟩⟩⟩
theorem NJ(p:Bool)(A B:Prop):W.cond (.bool p) A B=((p=true->A)/\(p=false->B)):=propext ⟨λ⟨h⟩=>by
  rcases h with⟨u,j⟩|⟨u,j⟩
  .cases u;exact⟨λ_=>j,λh=>(by cases h)⟩
  .cases u;exact⟨λh=>(by cases h),λ_=>j⟩,λ⟨u,j⟩=>by
  cases p with
  |true=>exact⟨.inl ⟨rfl,u rfl⟩⟩
  |false=>exact⟨.inr ⟨rfl,j rfl⟩⟩⟩
theorem eP(op:BinOp)(t:TypeId)(x y:AV):W.bin P F op t x y K=W0.opt (gC P F op t x y) K:=propext ⟨λh=>h.h,λh=>⟨h⟩⟩
theorem PP(t:TypeId)(k:IntKind)(a b:Int):W.bin P F .lss t (.int k a) (.int k b) K=K (.bool (decide (a<b))):=by rw[eP];simp[gC,de]
theorem PQ(t:TypeId)(k:IntKind)(a b:Int):W.bin P F .leq t (.int k a) (.int k b) K=K (.bool (decide (a<=b))):=by rw[eP];simp[gC,de]
theorem PR(t:TypeId)(k:IntKind)(a b:Int):W.bin P F .gtr t (.int k a) (.int k b) K=K (.bool (decide (b<a))):=by rw[eP];simp[gC,de]
theorem PS(t:TypeId)(k:IntKind)(a b:Int):W.bin P F .geq t (.int k a) (.int k b) K=K (.bool (decide (b<=a))):=by rw[eP];simp[gC,de]
theorem PT(t:TypeId)(k:IntKind)(a b:Int):W.bin P F .eql t (.int k a) (.int k b) K=K (.bool (decide (a=b))):=by rw[eP];simp only[gC,ne_eq,not_true_eq_false,if_false,de];rw[show(a==b)=decide (a=b)from by cases h:(a==b)<;>simp_all]
theorem PU(t:TypeId)(k:IntKind)(a b:Int):W.bin P F .neq t (.int k a) (.int k b) K=K (.bool (decide (a≠b))):=by rw[eP];simp only[gC,ne_eq,not_true_eq_false,if_false,de];rw[show(a != b)=decide (¬a=b)from by cases h:(a != b)<;>simp_all]
theorem PV(t:TypeId)(k:IntKind)(a b:Int):W.bin P F .add t (.int k a) (.int k b) K=K (.int k (k.wrap (a+b))):=by rw[eP];simp[gC,de]
theorem PW(t:TypeId)(k:IntKind)(a b:Int):W.bin P F .sub t (.int k a) (.int k b) K=K (.int k (k.wrap (a-b))):=by rw[eP];simp[gC,de]
theorem PX(t:TypeId)(k:IntKind)(a b:Int):W.bin P F .mul t (.int k a) (.int k b) K=K (.int k (k.wrap (a*b))):=by rw[eP];simp[gC,de]
theorem PY(t:TypeId)(k:IntKind)(a b:Int):W.bin P F .quo t (.int k a) (.int k b) K=(b≠0/\K (.int k (k.wrap (a.tdiv b)))):=by rw[eP];by_cases h:b=0<;>simp[gC,de,DF,h]
theorem P0(t:TypeId)(k:IntKind)(a b:Int):W.bin P F .rem t (.int k a) (.int k b) K=(b≠0/\K (.int k (a.tmod b))):=by rw[eP];by_cases h:b=0<;>simp[gC,de,DF,h]
theorem P1(t:TypeId)(a b:List UInt8):W.bin P F .eql t (.str a) (.str b) K=K (.bool (decide (a=b))):=by rw[eP];simp only[gC,de];rw[show(a==b)=decide (a=b)from by cases h:(a==b)<;>simp_all]
theorem P2(t:TypeId)(a b:List UInt8):W.bin P F .neq t (.str a) (.str b) K=K (.bool (decide (a≠b))):=by rw[eP];simp only[gC,de];rw[show(!(a==b))=decide (a≠b)from by cases h:(a==b)<;>simp_all]
theorem P3(t:TypeId)(h:P.underlying t=some .bool)(a b:Bool):W.bin P F .eql t (.bool a) (.bool b) K=K (.bool (a==b)):=by rw[eP];simp[gC,tH,h,de]
theorem P4(t:TypeId)(h:P.underlying t=some .bool)(a b:Bool):W.bin P F .neq t (.bool a) (.bool b) K=K (.bool (!(a==b))):=by rw[eP];simp[gC,tH,h,de]
theorem NK(b:Bool):W.un .not (.bool b) K=K (.bool !b):=propext ⟨λ⟨v,u,j⟩=>by cases u;exact j,λh=>⟨_,rfl,h⟩⟩
theorem NL(k:IntKind)(n:Int):W.un .neg (.int k n) K=K (.int k (k.wrap (0-n))):=propext ⟨λ⟨v,u,j⟩=>by cases u;exact j,λh=>⟨_,rfl,h⟩⟩
theorem NM(k j:IntKind)(n:Int):W.conv k (.int j n) K=K (.int k (k.wrap n)):=propext ⟨λ⟨D,m,B,u⟩=>by cases B;exact u,λh=>⟨_,_,rfl,h⟩⟩
theorem MT(k:IntKind)(a c:Int):W.mnx true (.int k a) (.int k c) K=K (.int k (if c > a then c else a)):=propext ⟨λ⟨D,G,E,B,u,j⟩=>by cases B;cases u;exact j,λh=>⟨_,_,_,rfl,rfl,h⟩⟩
theorem Lu(g:FuncId)(cs args:List AV):W.call P (.fn g cs) args L KL=ac P g (args++cs) L KL:=propext ⟨λh=>h.h,λh=>⟨h⟩⟩
theorem I6{u:AV->SH->List Nat->Prop}(us:List W.WR)(i:Nat)(g:FuncId)(cs args:List AV):W.dcall P us i (.fn g cs) args L u=∃j R:SH,L.Perm (j++R)/\(∀x∈us,W.free x ⟨i,[],j.names,[],true,[]⟩)/\ac P g (args++cs) j λv B=>u v (B++R) j.names:=propext ⟨λh=>h.h,λh=>⟨h⟩⟩
theorem Lv{j:W.Fp->Prop}(r:W.Fp):W.note r j=j r:=propext ⟨λh=>h.h r rfl,λh=>⟨λu e=>e▸h⟩⟩
def aq(P:Program)(f:FuncId)(args:List AV)(v:AV):Prop:=ac P f args [] λu K=>u=v/\K=[]
theorem aq.call{f:FuncId}{args:List AV}{v:AV}(h:aq P f args v)(j:KL v L):ac P f args L KL:=
 ac.frame h (K:=[]) (R:=L) (.refl _) λu K ⟨D,B⟩=>by subst D;subst B;exact j
theorem Lw{α:Type}(S:α->List AV×SH)(m:α->Nat)(G:α->Prop){B:List AV->SH->W.Kn->Prop}{vs:List AV}(N:α)(h0:G N)(hv:vs=(S N).1)(hL:L=(S N).2)
  (h:∀a,G a->B (S a).1 (S a).2 λu E=>∃j,G j/\m j<m a/\az u E (S j).1 (S j).2):W.loop B vs L:=by
 refine⟨λn vs L=>∃a,G a/\m a=n/\vs=(S a).1/\L=(S a).2,⟨m N,_,_,.refl _ _,N,h0,rfl,hv,hL⟩,?_⟩;rintro n vs L ⟨a,ha,rfl,rfl,rfl⟩;have e:(λu E=>∃j,G j/\m j<m a/\az u E (S j).1 (S j).2)=(λu E=>∃M D L2,M<m a/\az u E D L2/\∃a,G a/\m a=M/\D=(S a).1/\L2=(S a).2):=by
  funext u E;apply propext;constructor
  .rintro⟨j,Z,Y,O⟩;exact⟨m j,_,_,Y,O,j,Z,rfl,rfl,rfl⟩
  .rintro⟨n,D,L2,Z,Y,j,O,rfl,rfl,rfl⟩;exact⟨j,O,Z,Y⟩
 rw[<-e];exact h a ha
end
end
section
section
variable {P:Program} {F:TypeId->Option (List TypeId)} {K:AV->Prop} {KL:AV->SH->Prop} {L:SH}
theorem I7{p:Bool}{x y:AV}(hp:p=true)(h:K x):W.pick (.bool p) x y K:=by subst hp;rw[NF];exact h
theorem I8{p:Bool}{x y:AV}(hp:p=false)(h:K y):W.pick (.bool p) x y K:=by subst hp;rw[NG];exact h
theorem Lx{p j:Bool}{A:(AV->SH->Prop)->Prop}(hp:p=j)(h:A KL):W.grd (.bool p) j A L KL:=⟨.inl ⟨by rw[hp],h⟩⟩
theorem Ly{p j:Bool}{A:(AV->SH->Prop)->Prop}(hp:p=!j)(h:KL bK L):W.grd (.bool p) j A L KL:=⟨.inr ⟨.inl (by rw[hp]),h⟩⟩
theorem B0{j:Bool}{A:(AV->SH->Prop)->Prop}(h:KL bK L):W.grd bK j A L KL:=⟨.inr ⟨.inr rfl,h⟩⟩
theorem B1{p:Bool}{A:(AV->SH->Prop)->Prop}(j:p=true->A KL)(h2:p=false->KL bK L):W.grd (.bool p) true A L KL:=by rw[PN];exact⟨j,h2⟩
theorem B2{p:Bool}{A:(AV->SH->Prop)->Prop}(j:p=false->A KL)(h2:p=true->KL bK L):W.grd (.bool p) false A L KL:=by rw[PO];exact⟨j,h2⟩
theorem I9{u:AV->SH->W.Fp->Prop}{p j:Bool}{A:(AV->SH->W.Fp->Prop)->Prop}(hp:p=j)(h:A u):W.dgrd (.bool p) j A L u:=⟨.inl ⟨by rw[hp],h⟩⟩
theorem Ja{u:AV->SH->W.Fp->Prop}{p j:Bool}{A:(AV->SH->W.Fp->Prop)->Prop}(hp:p=!j)(h:u bK L ⟨[],[],[],L.names⟩):W.dgrd (.bool p) j A L u:=⟨.inr ⟨.inl (by rw[hp]),h⟩⟩
theorem Jb{u:AV->SH->W.Fp->Prop}{j:Bool}{A:(AV->SH->W.Fp->Prop)->Prop}(h:u bK L ⟨[],[],[],L.names⟩):W.dgrd bK j A L u:=⟨.inr ⟨.inr rfl,h⟩⟩
theorem Jc{j:AV->SH->W.Fp->Prop}{p:Bool}{A:(AV->SH->W.Fp->Prop)->Prop}(u:p=true->A j)(h2:p=false->j bK L ⟨[],[],[],L.names⟩):W.dgrd (.bool p) true A L j:=by rw[NH];exact⟨u,h2⟩
theorem Jd{j:AV->SH->W.Fp->Prop}{p:Bool}{A:(AV->SH->W.Fp->Prop)->Prop}(u:p=false->A j)(h2:p=true->j bK L ⟨[],[],[],L.names⟩):W.dgrd (.bool p) false A L j:=by rw[NI];exact⟨u,h2⟩
theorem Je{p:Bool}{A B:Prop}(hp:p=true)(h:A):W.cond (.bool p) A B:=⟨.inl ⟨by rw[hp],h⟩⟩
theorem DG{p:Bool}{A B:Prop}(hp:p=false)(h:B):W.cond (.bool p) A B:=⟨.inr ⟨by rw[hp],h⟩⟩
theorem Jf{p:Bool}{A B:Prop}(j:p=true->A)(h2:p=false->B):W.cond (.bool p) A B:=by rw[NJ];exact⟨j,h2⟩
theorem Jg{t:TypeId}{k:IntKind}{a b:Int}(h:K (.bool (decide (a<b)))):W.bin P F .lss t (.int k a) (.int k b) K:=by rw[PP];exact h
theorem MU{t:TypeId}{k:IntKind}{a b:Int}(h:K (.bool (decide (a<=b)))):W.bin P F .leq t (.int k a) (.int k b) K:=by rw[PQ];exact h
theorem MV{t:TypeId}{k:IntKind}{a b:Int}(h:K (.bool (decide (b<a)))):W.bin P F .gtr t (.int k a) (.int k b) K:=by rw[PR];exact h
theorem MW{t:TypeId}{k:IntKind}{a b:Int}(h:K (.bool (decide (b<=a)))):W.bin P F .geq t (.int k a) (.int k b) K:=by rw[PS];exact h
theorem MX{t:TypeId}{k:IntKind}{a b:Int}(h:K (.bool (decide (a=b)))):W.bin P F .eql t (.int k a) (.int k b) K:=by rw[PT];exact h
theorem MY{t:TypeId}{k:IntKind}{a b:Int}(h:K (.bool (decide (a≠b)))):W.bin P F .neq t (.int k a) (.int k b) K:=by rw[PU];exact h
theorem Jh{t:TypeId}{k:IntKind}{a b:Int}(h:K (.int k (k.wrap (a+b)))):W.bin P F .add t (.int k a) (.int k b) K:=by rw[PV];exact h
theorem Ji{t:TypeId}{k:IntKind}{a b:Int}(h:K (.int k (k.wrap (a-b)))):W.bin P F .sub t (.int k a) (.int k b) K:=by rw[PW];exact h
theorem MZ{t:TypeId}{k:IntKind}{a b:Int}(h:K (.int k (k.wrap (a*b)))):W.bin P F .mul t (.int k a) (.int k b) K:=by rw[PX];exact h
theorem P5{t:TypeId}{k:IntKind}{a b:Int}(j:b≠0)(h:K (.int k (k.wrap (a.tdiv b)))):W.bin P F .quo t (.int k a) (.int k b) K:=by rw[PY];exact⟨j,h⟩
theorem DH{t:TypeId}{k:IntKind}{a b:Int}(j:b≠0)(h:K (.int k (a.tmod b))):W.bin P F .rem t (.int k a) (.int k b) K:=by rw[P0];exact⟨j,h⟩
theorem M1{t:TypeId}{a b:List UInt8}(h:K (.bool (decide (a=b)))):W.bin P F .eql t (.str a) (.str b) K:=by rw[P1];exact h
theorem M2{t:TypeId}{a b:List UInt8}(h:K (.bool (decide (a≠b)))):W.bin P F .neq t (.str a) (.str b) K:=by rw[P2];exact h
theorem P6{b:Bool}(h:K (.bool !b)):W.un .not (.bool b) K:=by rw[NK];exact h
theorem P7{k:IntKind}{n:Int}(h:K (.int k (k.wrap (0-n)))):W.un .neg (.int k n) K:=by rw[NL];exact h
theorem NN{k j:IntKind}{n:Int}(h:K (.int k (k.wrap n))):W.conv k (.int j n) K:=by rw[NM];exact h
theorem tR{j b i o:Nat}(h:K (.ptr b i (o+j))):W.faddr j (.ptr b i o) K:=⟨h⟩
theorem tS{j:Nat}{rows:List (List AV)}{i o:Nat}(h:K (.pptr rows i (o+j))):W.faddr j (.pptr rows i o) K:=⟨h⟩
theorem DI{n:Nat}{rows:List (List AV)}{i j:Nat}{r:List AV}{v:AV}(u:rows[i]? =some r)(h2:r[j]? =some v)(h:K v):W.load false n (.pptr rows i j) L K:=⟨r,v,u,h2,h⟩
theorem xO{n b i j:Nat}{x:Blk}{r:List AV}{v:AV}(u:(b,x)∈L)(B:x.rows[i]? =some r)(h2:r[j]? =some v)(h:K v):W.load false n (.ptr b i j) L K:=⟨x,r,v,u,B,h2,h⟩
theorem Lz{n:Nat}{rows:List (List AV)}{i:Nat}{r:List AV}(j:rows[i]? =some r)(h2:r.length=n)(h:K (.agg r)):W.load true n (.pptr rows i 0) L K:=
 ⟨r,.agg r,j,by simp[W0.rowLd,<-h2],h⟩
theorem LA{n b i:Nat}{x:Blk}{r:List AV}(j:(b,x)∈L)(u:x.rows[i]? =some r)(h2:r.length=n)(h:K (.agg r)):W.load true n (.ptr b i 0) L K:=
 ⟨x,r,.agg r,j,u,by simp[W0.rowLd,<-h2],h⟩
theorem Jj{n:Nat}{rows:List (List AV)}{i j:Nat}{r cs:List AV}(B:rows[i]? =some r)(h2:j+n<=r.length)(u:(r.drop j).take n=cs)(h:K (.agg cs)):W.load true n (.pptr rows i j) L K:=
 ⟨r,.agg cs,B,by simp[W0.rowLd,h2,u],h⟩
theorem Jk{n b i j:Nat}{x:Blk}{r cs:List AV}(u:(b,x)∈L)(D:x.rows[i]? =some r)(h2:j+n<=r.length)(B:(r.drop j).take n=cs)(h:K (.agg cs)):W.load true n (.ptr b i j) L K:=
 ⟨x,r,.agg cs,u,D,by simp[W0.rowLd,h2,B],h⟩
theorem a8{u:SH->Prop}{n b:Nat}{v:AV}{m:Nat}{r cs:List AV}{j:SH}(B:wZ b ⟨m,[r]⟩ ⟨m,[cs]⟩ L j)(h2:v.cells? =some cs)(D:cs.length=n)(h4:cs.all AV.one=true)(E:r.length=n)(h:u j):W.store n (.ptr b 0 0) v L u:=
 ⟨⟨m,[r]⟩,r,cs,j,rfl,h2,D,h4,Ua,by
  have:bq r 0 cs=cs:=by unfold bq;rw[List.take_zero,Tu,List.drop_of_length_le Ua,Ta]
  rw[this];exact B,h⟩
theorem B3(r:List AV)(j:Nat)(v:AV)(h:j<r.length):bq r j [v]=r.set j v:=by unfold bq;rw[List.set_eq_take_append_cons_drop,if_pos h];simp
theorem vk{B:SH->Prop}{b i j:Nat}{v:AV}{x x':Blk}{r:List AV}{u:SH}(D:wZ b x x' L u)(M:x.rows[i]? =some r)(h2:v.cells? =some [v])(h4:v.one=true)(G:j<r.length)(E:x'=⟨x.size,x.rows.set i (r.set j v)⟩)(h:B u):W.store 1 (.ptr b i j) v L B:=
 ⟨x,r,[v],u,M,h2,rfl,by simp[h4],Ua,by rw[B3 r j v G,<-E];exact D,h⟩
theorem DJ{u:SH->Prop}{n b i:Nat}{v:AV}{x x':Blk}{r cs:List AV}{j:SH}(B:wZ b x x' L j)(G:x.rows[i]? =some r)(h2:v.cells? =some cs)(E:cs.length=n)(h4:cs.all AV.one=true)(M:r.length=n)(D:x'=⟨x.size,x.rows.set i cs⟩)(h:u j):W.store n (.ptr b i 0) v L u:=
 ⟨x,r,cs,j,G,h2,E,h4,Ua,by
  have:bq r 0 cs=cs:=by unfold bq;rw[List.take_zero,Tu,List.drop_of_length_le Ua,Ta]
  rw[this,<-D];exact B,h⟩
theorem LB{n:Nat}{rows:List (List AV)}{k:IntKind}{j:Nat}{r:List AV}(u:rows[j]? =some r)(h2:r.length=n)(h:K (.pptr rows j 0)):W.idx n (.lst rows) (.int k (j:Int)) L K:=
 ⟨k,j,r,rfl,Int.natCast_nonneg _,by simpa using u,h2,by simpa using h⟩
theorem LC{n:Nat}{rows:List (List AV)}{k:IntKind}{i:Int}{r:List AV}(u:0<=i)(j:rows[i.toNat]? =some r)(h2:r.length=n)(h:K (.pptr rows i.toNat 0)):W.idx n (.lst rows) (.int k i) L K:=⟨k,i,r,rfl,u,j,h2,h⟩
theorem B4{n b j m:Nat}{k:IntKind}{i:Int}{y:Blk}(D:0<=i)(B:i.toNat<m)(u:(b,y)∈L)(h2:y.size=n)(h:K (.ptr b (j+i.toNat) 0)):W.idx n (.sl b j m) (.int k i) L K:=⟨k,i,y,rfl,D,B,u,h2,h⟩
theorem Jl{n b m:Nat}{k:IntKind}{i:Nat}{y:Blk}(u:i<m)(j:(b,y)∈L)(h2:y.size=n)(h:K (.ptr b i 0)):W.idx n (.sl b 0 m) (.int k (i:Int)) L K:=⟨k,i,y,rfl,Int.natCast_nonneg _,by simpa using u,j,h2,by simpa using h⟩
theorem xP{len n:Nat}{rows:List (List AV)}{j u:Nat}{k:IntKind}{i:Int}(D:0<=i)(B:i.toNat<len)(h:K (.pptr rows j (u+i.toNat*n))):W.idxP len n (.pptr rows j u) (.int k i) K:=⟨k,i,rfl,D,B,h⟩
theorem P8{j:Bool}{len n:Nat}{cs:List AV}{k:IntKind}{i:Int}{v:AV}(B:0<=i)(u:i.toNat<len)(h2:W0.rowLd j n cs (i.toNat*n)=some v)(h:K v):W.ixA j len n (.agg cs) (.int k i) K:=⟨cs,k,i,v,rfl,rfl,B,u,h2,h⟩
theorem P9{i:Nat}{vs:List AV}{v:AV}(j:vs[i]? =some v)(h:K v):W.ext i (.tup vs) K:=⟨vs,v,rfl,j,h⟩
theorem GK{b i j:Nat}(h:K (.ptr b i j)):W.nilchk (.ptr b i j) K:=⟨h⟩
theorem LD{z:List AV}{ps:List (Nat×Nat×AV)}{cs:List AV}(j:W0.fillR z ps=some cs)(h:K (.agg cs)):W.build z ps K:=⟨cs,j,h⟩
theorem GL{cs:List AV}(h:∀b,b∉L.names->KL (.ptr b 0 0) ((b,⟨cs.length,[cs]⟩)::L)):W.alloc cs L KL:=⟨h⟩
theorem xQ{x:AV}{cs:List AV}(j:x.cells? =some cs)(h2:cs.all AV.one=true)(h:∀b,b∉L.names->KL (.ptr b 0 0) ((b,⟨cs.length,[cs]⟩)::L)):W.box x L KL:=⟨cs,j,h2,h⟩
theorem Jm{n:Nat}{z:List AV}{len:Nat}{ps:List (Nat×AV)}{rows:List (List AV)}(j:len*n<=2^24)(h2:eg n (List.replicate len z) ps=some rows)(h:∀b,b∉L.names->KL (.sl b 0 len) ((b,⟨n,rows⟩)::L)):W.bslice n z len ps L KL:=⟨j,rows,h2,h⟩
theorem ft{n by_:Nat}{z:List AV}{k u:IntKind}{i j:Nat}(D:i<=j)(h2:j<=2^62)(B:j*by_<=2^48)(h:∀b,b∉L.names->KL (.sl b 0 i) ((b,⟨n,List.replicate i z⟩)::L)):W.mslice n by_ z (.int k (i:Int)) (.int u (j:Int)) L KL:=⟨k,u,i,j,rfl,rfl,D,h2,B,h⟩
theorem LF{rows:List (List AV)}(h:K (.int .i64 (rows.length:Int))):W.len (.lst rows) K:=⟨_,rfl,h⟩
theorem LG{α:Type}{f:α->List AV}{l:List α}(h:K (.int .i64 (l.length:Int))):W.len (.lst (l.map f)) K:=⟨_,rfl,by rw[Ty];exact h⟩
theorem B5{b i n:Nat}(h:K (.int .i64 (n:Int))):W.len (.sl b i n) K:=⟨_,rfl,h⟩
theorem NO{s:List UInt8}(h:K (.int .i64 (s.length:Int))):W.lenS (.str s) K:=⟨_,rfl,h⟩
theorem B6{b i j:Nat}{x:Blk}{u:SH}(D:eJ b x L u)(h2:0<x.size)(B:0<x.rows.length)(h:KL (.pptr x.rows i j) u):W.frz1 (.ptr b i j) L KL:=⟨x,u,D,h2,B,h⟩
theorem qL{j:W.Fp->Prop}{r:W.Fp}(h:j r):W.note r j:=by rw[Lv];exact h
theorem B7{us:List W.WR}{y:W.WR}{A:Prop}(j:∀x∈us,W.free x y)(h:A):W.calm us y A:=⟨j,h⟩
theorem RL{A:Prop}(h:A):(true=true)/\A:=⟨rfl,h⟩
theorem NP{J:W.Kn}{B:W.Kn->Prop}(h:B J):W.join J B:=⟨h⟩
theorem jF{n by_ j i k:Nat}{x:AV}{y:Blk}{l m:List (List AV)}{u:SH}(D:(j,y)∈L)(B:y.size=n)(E:i+k<=y.rows.length)(G:(y.rows.drop i).take k=l)(O:W0.rowsR L n x m)
  (h2:2*(l.length+m.length)*by_<=2^48) (N:2*(l.length+m.length)<=2^62) (h4:(m.all λr=>r.all AV.one)=true) (M:eJ j y L u)
  (h:∀b,b∉L.names->KL (.sl b 0 (l.length+m.length)) ((b,⟨n,l++m⟩)::u)):W.append n by_ (.sl j i k) x L KL:=
 ⟨l,m,⟨y,D,B,E,G.symm⟩,O,h2,N,h4,y,u,M,h⟩
theorem B8{n by_:Nat}{x:AV}{m:List (List AV)}(u:W0.rowsR L n x m)(h2:2*m.length*by_<=2^48)(j:2*m.length<=2^62)(h4:(m.all λr=>r.all AV.one)=true)(B:m.length≠0)
  (h:∀b,b∉L.names->KL (.sl b 0 m.length) ((b,⟨n,m⟩)::L)):W.append n by_ .emp x L KL:=
 ⟨[],m,rfl,u,by simpa using h2,by simpa using j,h4,λe=>absurd e B,λ_=>h⟩
theorem B9(h:K (.int .i64 (0:Nat))):W.len .emp K:=⟨_,rfl,h⟩
theorem HL{B:SH->Prop}{n:Nat}{z:List AV}{b i k:Nat}{y u:Blk}{j:SH}(D:wZ b y u L j)(G:y.size=n)(h2:i+k<=y.rows.length)(E:u=⟨y.size,y.rows.take i++List.replicate k z++y.rows.drop (i+k)⟩)(h:B j):W.clear n z (.sl b i k) L B:=
 ⟨y,j,G,h2,E▸D,h⟩
theorem tT{n b i m:Nat}{j u:Option AV}{l h:Nat}{y:Blk}(N:cC j 0=some l)(h2:cC u m=some h)(E:l<=h)(M:h<=m)(D:(b,y)∈L)(B:y.size=n)(G:K (.sl b (i+l) (h-l))):W.slice n (.sl b i m) j u none L K:=
 ⟨m,l,h,m,rfl,N,h2,rfl,E,M,Fd _,⟨y,D,B⟩,G⟩
theorem oS{n:Nat}{rows:List (List AV)}{j u:Option AV}{l h:Nat}(M:cC j 0=some l)(h2:cC u rows.length=some h)(D:l<=h)(G:h<=rows.length)(B:∀r,rows.head? =some r->r.length=n)(E:K (.lst ((rows.drop l).take (h-l)))):W.slice n (.lst rows) j u none L K:=
 ⟨rows.length,l,h,rows.length,rfl,M,h2,rfl,D,G,Fd _,⟨rfl,B⟩,E⟩
theorem oU{α:Type}{f:α->List AV}{l:List α}{n:Nat}(h:∀x,(f x).length=n):W0.rowsR L n (.lst (l.map f)) (l.map f):=⟨rfl,λr j=>by
 cases l with
 |nil=>cases j
 |cons x l=>simp at j;rw[<-j];exact h x⟩
theorem jG{n b k:Nat}{x:Blk}(u:(b,x)∈L)(j:x.size=n)(B:k=x.rows.length):W0.rowsR L n (.sl b 0 k) x.rows:=⟨x,u,j,Ua,by simp[B]⟩
end
end
abbrev bu:=List UInt8
structure GM where
 name:bu
 index:Int
 size:Int
 volatile:Bool
 init:Int
 deriving Inhabited,DecidableEq
structure GN where
 name:bu
 rw:Bool
 deriving Inhabited,DecidableEq
structure GO where
 name:bu
 mutex:Int
 deriving Inhabited,DecidableEq
structure GP where
 thread:Int
 stmt:Int
 line:Int
 deriving Inhabited,DecidableEq
structure Jn where
 cells:List GM
 locks:List GN
 conds:List GO
 futures:List bu
 threads:List bu
 sites:List GP
 deriving Inhabited,DecidableEq
structure LockD where
 owner:Int
 readers:List Int
 deriving Inhabited,DecidableEq
structure ThrD where
 status:Int
 cond:Int
 atomic:Bool
 deriving Inhabited,DecidableEq
structure SyncD where
 locks:List LockD
 tx:Int
 done:List Bool
 threads:List ThrD
 deriving Inhabited,DecidableEq
def GM.enc(c:GM):List AV:=[.str c.name,.int .i64 c.index,.int .i64 c.size,.bool c.volatile,.int .i64 c.init]
def GN.enc(c:GN):List AV:=[.str c.name,.bool c.rw]
def GO.enc(c:GO):List AV:=[.str c.name,.int .i64 c.mutex]
def GP.enc(c:GP):List AV:=[.int .i64 c.thread,.int .i64 c.stmt,.int .i64 c.line]
def au(s:bu):List AV:=[.str s]
def ah(n:Int):List AV:=[.int .i64 n]
def aB(b:Bool):List AV:=[.bool b]
def LockD.enc(l:LockD):List AV:=[.int .i64 l.owner,.lst (l.readers.map ah)]
def ThrD.enc(t:ThrD):List AV:=[.int .i64 t.status,.int .i64 t.cond,.bool t.atomic]
def Jn.enc(w:Jn):List AV:=[.lst (w.cells.map GM.enc),.lst (w.locks.map GN.enc),.lst (w.conds.map GO.enc),.lst (w.futures.map au),.lst (w.threads.map au),.lst (w.sites.map GP.enc)]
def SyncD.enc(s:SyncD):List AV:=[.lst (s.locks.map LockD.enc),.int .i64 s.tx,.lst (s.done.map aB),.lst (s.threads.map ThrD.enc)]
def ao{α β:Type}{f:α->β}{l:List α}{i:Nat}(h:i<l.length):(l.map f)[i]? =some (f l[i]):=by simp[h]
def LH{α β:Type}{f:α->β}{l:List α}{i:Nat}{x:α}(h:l[i]? =some x):(l.map f)[i]? =some (f x):=by simp[h]
def ax{i n:Nat}(h:i<n)(j:n<2^62):IntKind.i64.wrap ((i:Int)+1)=((i+1:Nat):Int):=by rw[Te _ Ua];omega
def aW{i n:Nat}(h:i<n):decide ((i:Int)<(n:Int))=true:=by simpa using h
def aX{i n:Nat}(h:n<=i):decide ((i:Int)<(n:Int))=false:=by simpa using h
def df{vs j:List AV}{L L2:SH}(u:vs=j)(B:L=L2):az vs L j L2:=by subst u;subst B;exact .refl _ _
def iR(n:Nat)(S:Nat->List AV×SH)(G:Nat->Prop){B:List AV->SH->W.Kn->Prop}{vs:List AV}{L:SH}(h0:G 0)(Z:vs=(S 0).1)(hL:L=(S 0).2)
  (h:∀i,i<=n->G i->B (S i).1 (S i).2 λu E=>∃j,i<j/\j<=n/\G j/\az u E (S j).1 (S j).2):W.loop B vs L:=by
 refine⟨λk vs L=>∃i,i<=n/\G i/\k=n-i/\vs=(S i).1/\L=(S i).2,⟨n,_,_,.refl _ _,0,SL _,h0,rfl,Z,hL⟩,?_⟩;rintro k vs L ⟨i,hi,hG,rfl,rfl,rfl⟩;have e:(λu E=>∃m D Y,m<n-i/\az u E D Y/\∃j,j<=n/\G j/\m=n-j/\D=(S j).1/\Y=(S j).2)=λu E=>∃j,i<j/\j<=n/\G j/\az u E (S j).1 (S j).2:=by
  funext u E;apply propext;constructor
  .rintro⟨m,D,Y,h1,O,j,N,M,rfl,rfl,rfl⟩;exact⟨j,Ua,N,M,O⟩
  .rintro⟨j,h1,O,N,M⟩;exact⟨n-j,_,_,Ua,M,j,O,N,rfl,rfl,rfl⟩
 rw[e];exact h i hi hG
def inB(i:Int)(n:Nat):Bool:=decide (0<=i)&&decide (i<(n:Int))
def av{i:Int}{n:Nat}:inB i n=true↔0<=i/\i<n:=by simp[inB]
def cG{i:Int}{n:Nat}(h:inB i n=true):0<=i:=(av.1 h).1
def bQ{α:Type}[Inhabited α]{f:α->List AV}{l:List α}{i:Int}(h:inB i l.length=true):(l.map f)[i.toNat]? =some (f (l.getD i.toNat default)):=by
 obtain⟨u,j⟩:=av.1 h;have:i.toNat<l.length:=by omega
 simp[this]
end Go.Proofs.YtbofdbhnbodbiaaGreatDoor.Am
