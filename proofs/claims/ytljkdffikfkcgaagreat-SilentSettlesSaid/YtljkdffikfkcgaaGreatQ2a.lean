/- A part of the proof; the statement is proved in the last part. -/
import Derived.Calls
import Derived.Orders
import Derived.Below
import Derived.Handy
import Derived.RowKit
import Derived.Laws.Cells
import Derived.Laws.CopyRow
import Derived.Laws.Entries
import Derived.Laws.StructEq
import Derived.Lib.Strings
import Derived.IntWalk
import Derived.Deep.AppendSrc
set_option linter.unusedSimpArgs false
set_option linter.unusedVariables false
section
namespace Go.Proofs.YtljkdffikfkcgaaGreat.Am
inductive Tr (α:Type) where
 | leaf
 | node (v:Option α) (l r:Tr α)
namespace Tr
variable {α:Type}
def bitsF:Nat→Nat→List Bool
 | 0,_=>[]
 | _+1,0=>[]
 | f+1,n+1=>((n+1) % 2==1)::bitsF f ((n+1) / 2)
def bits(n:Nat):List Bool:=bitsF n n
def getP:Tr α→List Bool→Option α
 | leaf,_=>none
 | node v _ _,[]=>v
 | node _ l r,b::p=>if b then l.getP p else r.getP p
def setP:List Bool→Option α→Tr α→Tr α
 | [],x,leaf=>node x leaf leaf
 | [],x,node _ l r=>node x l r
 | b::p,x,leaf=>if b then node none (setP p x leaf) leaf else node none leaf (setP p x leaf)
 | b::p,x,node v l r=>if b then node v (setP p x l) r else node v l (setP p x r)
theorem getP_leaf(p:List Bool):(leaf:Tr α).getP p=none:=by cases p<;>rfl
theorem getP_setP(p q:List Bool)(x:Option α)(t:Tr α):(setP p x t).getP q=if p=q then x else t.getP q:=by
 induction p generalizing q t with
 | nil=>cases t<;>cases q<;>simp[setP,getP]
 | cons b p ih=>
  cases t<;>cases q<;>cases b<;>simp[setP,getP]
  all_goals (rename_i c q;cases c<;>simp[ih,getP_leaf])
def val:List Bool→Nat
 | []=>0
 | b::p=>(if b then 1 else 0)+2*val p
theorem val_bitsF(f n:Nat)(h:n≤f):val (bitsF f n)=n:=by
 induction f generalizing n with
 | zero=>simp[bitsF,val];omega
 | succ f ih=>
  cases n with
  | zero=>rfl
  | succ n=>
   simp only[bitsF,val]
   rw[ih ((n+1) / 2) (by omega)]
   by_cases h1:(n+1) % 2=1<;>simp[h1]<;>omega
theorem bits_inj{a b:Nat}(h:bits a=bits b):a=b:=by
 have:=congrArg val h
 rwa [bits,bits,val_bitsF _ _ (Nat.le_refl _),val_bitsF _ _ (Nat.le_refl _)]at this
def get(t:Tr α)(n:Nat):Option α:=t.getP (bits n)
def set(t:Tr α)(n:Nat)(x:Option α):Tr α:=setP (bits n) x t
theorem get_set(t:Tr α)(n m:Nat)(x:Option α):(t.set n x).get m=if n=m then x else t.get m:=by
 unfold get set
 rw[getP_setP]
 by_cases h:n=m
 ·subst h;simp
 ·rw[if_neg h,if_neg (fun e=>h (bits_inj e))]
theorem get_leaf(m:Nat):(leaf:Tr α).get m=none:=getP_leaf _
end Tr
end Go.Proofs.YtljkdffikfkcgaaGreat.Am
end
section
namespace Go.Proofs.YtljkdffikfkcgaaGreat.Am
inductive AV where
 | int (k:IntKind) (n:Int)
 | bool (b:Bool)
 | str (s:List UInt8)
 | nilp
 | ptr (b i off:Nat)
 | pptr (rows:List (List AV)) (i off:Nat)
 | nils
 | emp
 | sl (b i n:Nat)
 | lst (rows:List (List AV))
 | agg (cells:List AV)
 | tup (vs:List AV)
 | fn (f:FuncId) (captured:List AV)
 | nilf
 | junk
 deriving Inhabited
def AV.cells? :AV→Option (List AV)
 | .agg cs=>some cs
 | .junk=>none
 | v=>some [v]
def AV.one:AV→Bool
 | .agg _ | .tup _ | .junk=>false
 | _=>true
def cI{α:Type}:List (Option α)→Option (List α)
 | []=>some []
 | none::_=>none
 | some x::l=>match cI l with
  | some l=>some (x::l)
  | none=>none
def Jx:Value→Option AV
 | .int k n=>some (.int k n)
 | .bool b=>some (.bool b)
 | .string s=>some (.str s.data.toList)
 | .pointer none=>some .nilp
 | .slice none 0 0=>some .nils
 | .nilFunc=>some .nilf
 | _=>none
def DW:Value→Option AV
 | .agg cs=>(cI (cs.toList.map Jx)).map .agg
 | v=>Jx v
structure Blk where
 size:Nat
 rows:List (List AV)
 deriving Inhabited
structure ah where
 next:Nat
 tr:Tr Blk
 log:List Nat
def ah.get(H:ah)(b:Nat):Option Blk:=H.tr.get b
def ah.new(H:ah)(b:Nat)(x:Blk):ah:={H with tr:=H.tr.set b (some x)}
def ah.put(H:ah)(b:Nat)(x:Option Blk):ah:={H with tr:=H.tr.set b x,log:=b::H.log}
inductive fJ where
 | val (v:AV) (H:ah)
 | call (f:FuncId) (args:List AV)
section
variable (P:Program)
def aU(t:TypeId):Option Nat:=(P.info? t).map (·.size)
def gb(t:TypeId):Option Nat:=(P.info? t).map (·.bytes)
def dY(t:TypeId):Option AV:=(P.info? t).bind fun i=>i.zero.bind DW
def dN(t:TypeId):Option Bool:=(P.underlying t).map fun | .struct _ | .array _ _=>true | _=>false
def fk(t:TypeId)(row:List AV)(off:Nat):Option AV:=
 match dN P t,aU P t with
 | some true,some n=>if off+n≤row.length then some (.agg ((row.drop off).take n))else none
 | some false,some _=>row[off]?
 | _,_=>none
def bJ(row:List AV)(off:Nat)(cs:List AV):List AV:=row.take off++cs++row.drop (off+cs.length)
def jH(H:ah)(t:TypeId):AV→Option AV
 | .ptr b i off=>(H.get b).bind fun x=>(x.rows[i]?).bind fun r=>fk P t r off
 | .pptr rows i off=>(rows[i]?).bind fun r=>fk P t r off
 | _=>none
def eH(H:ah)(t:TypeId)(a v:AV):Option ah:=
 match a,v.cells?,aU P t with
 | .ptr b i off,some cs,some n=>
  match H.get b with
  | some x=>match x.rows[i]? with
   | some r=>if cs.length=n∧cs.all AV.one∧off+n≤r.length then some (H.put b (some {x with rows:=x.rows.set i (bJ r off cs)}))else none
   | none=>none
  | none=>none
 | _,_,_=>none
def qg(place:Nat→Option (Nat×Nat))(cells:List AV):List (Nat×AV)→Option (List AV)
 | []=>some cells
 | (i,v)::rest=>
  match place i,v.cells? with
  | some (off,size),some cs=>if cs.length=size∧off+size≤cells.length∧cs.all AV.one then qg place (bJ cells off cs) rest else none
  | _,_=>none
def db(size:Nat)(rows:List (List AV)):List (Nat×AV)→Option (List (List AV))
 | []=>some rows
 | (i,v)::rest=>
  match v.cells? with
  | some cs=>if cs.length=size∧i<rows.length∧cs.all AV.one then db size (rows.set i cs) rest else none
  | none=>none
def jk(fs:Array Field)(i:Nat):Option (Nat×Nat):=(fs[i]?).bind fun f=>(aU P f.type).map fun n=>(f.offset,n)
def vA(t:TypeId)(parts:List (Nat×AV)):Option AV:=
 match P.underlying t,dY P t with
 | some (.struct fs),some (.agg z)=>if(fs.toList.all fun f=>(aU P f.type).isSome)=true then(qg (jk P fs) z parts).map .agg else none
 | some (.array _ e),some (.agg z)=>(aU P e).bind fun n=>(qg (fun i=>some (i*n,n)) z parts).map .agg
 | _,_=>none
def BM:AV→Option Nat
 | .nils=>some 0
 | .emp=>some 0
 | .lst rows=>some rows.length
 | .sl _ _ n=>some n
 | _=>none
def qh:List UInt8→List UInt8→Bool
 | _,[]=>false
 | [],_::_=>true
 | a::x,b::y=>a<b||(a==b&&qh x y)
def vi(t:TypeId)(x y:AV):Option Bool:=
 match P.underlying t,x,y with
 | some (.int _),.int k a,.int k' b=>if k=k' then some (a==b)else none
 | some .bool,.bool a,.bool b=>some (a==b)
 | some .string,.str a,.str b=>some (a==b)
 | some (.pointer _),.nilp,.nilp=>some true
 | some (.pointer _),.nilp,.ptr .. | some (.pointer _),.ptr ..,.nilp | some (.pointer _),.nilp,.pptr .. | some (.pointer _),.pptr ..,.nilp=>some false
 | some (.slice _),.nils,.nils=>some true
 | some (.slice _),.nils,.sl .. | some (.slice _),.sl ..,.nils=>some false
 | _,_,_=>none
def Af:List TypeId→List AV→List AV→Option Bool
 | [],[],[]=>some true
 | t::ts,a::l,b::m=>match vi P t a b with
  | some true=>Af ts l m
  | r=>r
 | _,_,_=>none
def fV(F:TypeId→Option (List TypeId))(op:BinOp)(t:TypeId)(x y:AV):Option AV:=
 match op,x,y with
 | .shl,.int k a,.int _ b=>if 0≤b then some (.int k (k.wrap (a*2^min b.toNat k.bits)))else none
 | .shr,.int k a,.int _ b=>if 0≤b then some (.int k (a.fdiv (2^min b.toNat k.bits)))else none
 | op,.int k a,.int k' b=>
  if k≠k' then none else
  match op with
  | .add=>some (.int k (k.wrap (a+b)))
  | .sub=>some (.int k (k.wrap (a-b)))
  | .mul=>some (.int k (k.wrap (a*b)))
  | .quo=>if b=0 then none else some (.int k (k.wrap (a.tdiv b)))
  | .rem=>if b=0 then none else some (.int k (a.tmod b))
  | .and=>some (.int k (k.wrap (BitVec.ofInt k.bits a &&& BitVec.ofInt k.bits b).toNat))
  | .or=>some (.int k (k.wrap (BitVec.ofInt k.bits a ||| BitVec.ofInt k.bits b).toNat))
  | .xor=>some (.int k (k.wrap (BitVec.ofInt k.bits a ^^^ BitVec.ofInt k.bits b).toNat))
  | .eql=>some (.bool (a==b))
  | .neq=>some (.bool (a != b))
  | .lss=>some (.bool (decide (a<b)))
  | .leq=>some (.bool (decide (a≤b)))
  | .gtr=>some (.bool (decide (a > b)))
  | .geq=>some (.bool (decide (a≥b)))
  | _=>none
 | op,.str a,.str b=>
  match op with
  | .eql=>some (.bool (a==b))
  | .neq=>some (.bool !(a==b))
  | .lss=>some (.bool (qh a b))
  | .add=>if a.length+b.length≤2^62 then some (.str (a++b))else none
  | _=>none
 | .eql,.agg a,.agg b=>(F t).bind fun ts=>(Af P ts a b).map .bool
 | .neq,.agg a,.agg b=>(F t).bind fun ts=>(Af P ts a b).map fun r=>.bool !r
 | .eql,.bool a,.bool b=>(vi P t (.bool a) (.bool b)).map .bool
 | .neq,.bool a,.bool b=>(vi P t (.bool a) (.bool b)).map fun r=>.bool !r
 | .eql,.nilp,y=>(vi P t .nilp y).map .bool
 | .neq,.nilp,y=>(vi P t .nilp y).map fun r=>.bool !r
 | .eql,x,.nilp=>(vi P t x .nilp).map .bool
 | .neq,x,.nilp=>(vi P t x .nilp).map fun r=>.bool !r
 | .eql,.nils,y=>(vi P t .nils y).map .bool
 | .neq,.nils,y=>(vi P t .nils y).map fun r=>.bool !r
 | .eql,x,.nils=>(vi P t x .nils).map .bool
 | .neq,x,.nils=>(vi P t x .nils).map fun r=>.bool !r
 | _,_,_=>none
def KP(op:UnOp)(x:AV):Option AV:=
 match op,x with
 | .neg,.int k n=>some (.int k (k.wrap (0-n)))
 | .not,.bool b=>some (.bool !b)
 | _,_=>none
def Ag(src dst:TypeId)(x:AV):Option AV:=
 match P.underlying src,P.underlying dst,x with
 | some (.int _),some (.int k),.int _ n=>some (.int k (k.wrap n))
 | some .string,some .string,.str s=>some (.str s)
 | _,_,_=>none
def el(H:ah)(n:Nat):AV→Option (List (List AV))
 | .nils=>some []
 | .emp=>some []
 | .lst rows=>match rows with
  | []=>some []
  | r::l=>if r.length=n then some (r::l)else none
 | .sl b i k=>match H.get b with
  | some x=>if x.size=n∧i+k≤x.rows.length then some ((x.rows.drop i).take k)else none
  | none=>none
 | _=>none
def jl(H:ah):AV→Option Nat
 | .sl b _ _=>(H.get b).map (·.size)
 | _=>none
def c8(sz:Option Nat)(t:TypeId)(x ix:AV):Option AV:=
 match ix with
 | .int _ i=>
  if i<0 then none else
  match P.underlying t,x with
  | some (.slice e),.sl b j n=>if i.toNat<n∧sz.isSome∧aU P e=sz then some (.ptr b (j+i.toNat) 0)else none
  | some (.slice e),.lst rows=>match rows[i.toNat]? with
   | some r=>if aU P e=some r.length then some (.pptr rows i.toNat 0)else none
   | none=>none
  | some (.array len e),.ptr b j off=>if i.toNat<len then(aU P e).map fun n=>.ptr b j (off+i.toNat*n)else none
  | some (.array len e),.pptr rows j off=>if i.toNat<len then(aU P e).map fun n=>.pptr rows j (off+i.toNat*n)else none
  | _,_=>none
 | _=>none
def vB(t:TypeId)(x ix:AV):Option AV:=
 match P.underlying t,x,ix with
 | some .string,.str s,.int _ i=>if i<0 then none else(s[i.toNat]?).map fun b=>.int .u8 b.toNat
 | some (.array len e),.agg cs,.int _ i=>if 0≤i∧i.toNat<len then(aU P e).bind fun n=>fk P e cs (i.toNat*n)else none
 | _,_,_=>none
def ge(s:TypeId)(x:AV)(f:Nat):Option AV:=
 match P.underlying s with
 | some (.struct fs)=>(fs[f]?).bind fun f=>(aU P f.type).bind fun n=>if n=0 then none else
   match x with
   | .ptr b i off=>some (.ptr b i (off+f.offset))
   | .pptr rows i off=>some (.pptr rows i (off+f.offset))
   | _=>none
 | _=>none
def zk(s:TypeId)(x:AV)(f:Nat):Option AV:=
 match P.underlying s,x with
 | some (.struct fs),.agg cs=>(fs[f]?).bind fun f=>fk P f.type cs f.offset
 | _,_=>none
def jI:AV→Option Nat
 | .int _ i=>if 0≤i then some i.toNat else none
 | _=>none
def cf(x:Option AV)(d:Nat):Option Nat:=
 match x with
 | none=>some d
 | some v=>jI v
def iw(sz:Option Nat)(t:TypeId)(x:AV)(lo hi mx:Option AV):Option AV:=
 match P.underlying t,BM x with
 | some (.slice e),some n=>
  match cf lo 0,cf hi n,cf mx n with
  | some l,some h,some m=>if(l≤h∧h≤m∧m≤n)∧(aU P e).isSome=true then
    (match x with
     | .nils=>some .nils
     | .sl b i _=>if sz.isSome∧aU P e=sz then some (.sl b (i+l) (h-l))else none
     | .lst rows=>match rows with
      | []=>some (.lst [])
      | r::rs=>if aU P e=some r.length then some (.lst (((r::rs).drop l).take (h-l)))else none
     | _=>none)else none
  | _,_,_=>none
 | some .string,_=>
  match x,mx with
  | .str s,none=>match cf lo 0,cf hi s.length with
   | some l,some h=>if l≤h∧h≤s.length then some (.str ((s.drop l).take (h-l)))else none
   | _,_=>none
  | _,_=>none
 | _,_=>none
def cu(H:ah)(b:Nat)(t:TypeId)(s x:AV):Option (AV×ah):=
 match P.underlying t with
 | some (.slice e)=>
  match aU P e,gb P e,(dY P e).bind AV.cells? with
  | some n,some by_,some z=>match el H n s,el H n x with
   | some l,some m=>if 2*(l.length+m.length)*by_≤2^48∧2*(l.length+m.length)≤2^62∧0<n∧z.length=n∧(m.all fun r=>r.all AV.one)=true then
    match s with
    | .nils=>if m.length=0 then some (.nils,H)else some (.sl b 0 m.length,H.new b ⟨n,m⟩)
    | .emp=>if m.length=0 then some (.emp,H)else some (.sl b 0 m.length,H.new b ⟨n,m⟩)
    | .sl b' _ _=>some (.sl b 0 (l.length+m.length),(H.put b' none).new b ⟨n,l++m⟩)
    | _=>none
    else none
   | _,_=>none
  | _,_,_=>none
 | _=>none
def dO(H:ah)(t:TypeId)(x:AV):Option ah:=
 match P.underlying t with
 | some (.slice e)=>
  match aU P e,(dY P e).bind AV.cells? with
  | some n,some z=>match x with
   | .nils=>some H
   | .sl c i k=>match H.get c with
    | some y=>if(y.size=n∧z.length=n)∧(0<n∧i+k≤y.rows.length)∧z.all AV.one=true then some (H.put c (some {y with rows:=y.rows.take i++List.replicate k z++y.rows.drop (i+k)}))else none
    | none=>none
   | _=>none
  | _,_=>none
 | _=>none
def aV(H:ah)(b:Nat)(op:Builtin)(types:Array TypeId)(args:List AV):Option (AV×ah):=
 match op,args with
 | .len,[.str s]=>match (types[0]?).bind P.underlying with
  | some .string=>some (.int .i64 s.length,H)
  | _=>none
 | .len,[x]=>match (types[0]?).bind P.underlying with
  | some (.slice _)=>(BM x).map fun(n:Nat)=>(.int .i64 (n:Int),H)
  | some (.array n _)=>some (.int .i64 n,H)
  | _=>none
 | .append,[s,x]=>match types.toList with
  | [t,tx]=>match P.underlying tx with
   | some (.slice _)=>cu P H b t s x
   | _=>none
  | _=>none
 | .min,[.int k a,.int k' c]=>if k=k' then some (.int k (if c<a then c else a),H)else none
 | .max,[.int k a,.int k' c]=>if k=k' then some (.int k (if c > a then c else a),H)else none
 | .clear,[x]=>match types.toList with
  | [t]=>(dO P H t x).map fun H'=>(.tup [],H')
  | _=>none
 | _,_=>none
def aX(F:TypeId→Option (List TypeId))(o:Op)(ρ:Operand→AV)(b:Nat)(H:ah):Option fJ:=
 let v (r:Option AV):Option fJ:=r.map fun x=>.val x H
 match o with
 | .move x | .assign x=>some (.val (ρ x) H)
 | .pick c x y=>match ρ c with
  | .bool t=>some (.val (if t then ρ x else ρ y) H)
  | _=>none
 | .alloc t=>match (dY P t).bind AV.cells? with
  | some cs=>some (.val (.ptr b 0 0) (H.new b ⟨cs.length,[cs]⟩))
  | none=>none
 | .box _ x=>match (ρ x).cells? with
  | some cs=>if cs.all AV.one then some (.val (.ptr b 0 0) (H.new b ⟨cs.length,[cs]⟩))else none
  | none=>none
 | .build t parts=>v (vA P t (parts.toList.map fun p=>(p.1,ρ p.2)))
 | .buildSlice t len parts=>match P.underlying t with
  | some (.slice e)=>match aU P e,(dY P e).bind AV.cells? with
   | some n,some z=>if z.length=n∧0<n∧len*n≤2^24 then
     (db n (List.replicate len z) (parts.toList.map fun p=>(p.1,ρ p.2))).map fun rows=>.val (.sl b 0 len) (H.new b ⟨n,rows⟩)
    else none
   | _,_=>none
  | _=>none
 | .load t a=>v (jH P H t (ρ a))
 | .store t a x=>(eH P H t (ρ a) (ρ x)).map fun H=>.val (.tup []) H
 | .nilCheck x=>match ρ x with
  | .ptr b i off=>some (.val (.ptr b i off) H)
  | .pptr rows i off=>some (.val (.pptr rows i off) H)
  | .fn f cs=>some (.val (.fn f cs) H)
  | _=>none
 | .binOp op t x y _=>v (fV P F op t (ρ x) (ρ y))
 | .unOp op _ x=>v (KP op (ρ x))
 | .convert s d x=>v (Ag P s d (ρ x))
 | .makeFunc (.func f) first cap=>if first.size=0 then some (.val (.fn f (cap.toList.map ρ)) H)else none
 | .makeSlice t l c=>match P.underlying t with
  | some (.slice e)=>match aU P e,gb P e,(dY P e).bind AV.cells?,jI (ρ l),jI (ρ c)with
   | some n,some by_,some z,some l,some c=>if z.length=n∧0<n∧l≤c∧c≤2^62∧c*by_≤2^48 then
     some (.val (.sl b 0 l) (H.new b ⟨n,List.replicate l z⟩))else none
   | _,_,_,_,_=>none
  | _=>none
 | .slice t x lo hi mx=>if hi.isNone&&mx.isSome then none else v (iw P (jl H (ρ x)) t (ρ x) (lo.map ρ) (hi.map ρ) (mx.map ρ))
 | .fieldAddr s x f=>v (ge P s (ρ x) f)
 | .field s x f=>v (zk P s (ρ x) f)
 | .indexAddr t x ix=>v (c8 P (jl H (ρ x)) t (ρ x) (ρ ix))
 | .index t x ix=>v (vB P t (ρ x) (ρ ix))
 | .extract x i=>match ρ x with
  | .tup vs=>v (vs[i]?)
  | _=>none
 | .call c=>match c.callee with
  | .builtin bi=>(aV P H b bi c.argTypes (c.args.toList.map ρ)).map fun r=>.val r.1 r.2
  | .value f=>match ρ f with
   | .fn g cs=>some (.call g (c.args.toList.map ρ++cs))
   | _=>none
  | _=>none
 | _=>none
end
end Go.Proofs.YtljkdffikfkcgaaGreat.Am
end
section
namespace Go.Proofs.YtljkdffikfkcgaaGreat.Am
inductive Ex where
 | normal
 | exit (id:Nat)
 | ret
def bj:AV:=.tup []
def gV(τ:List AV):Operand→AV
 | .tmp t=>τ.getD t bj
 | .const v=>(DW v).getD .junk
 | .global _=>.junk
 | .func f=>.fn f []
def eF(τ:List AV)(dst:Option Tmp)(v:AV):List AV:=
 match dst with
 | some d=>τ.set d v
 | none=>τ
def cS(ops:Array Oper)(o:Oper)(τ:List AV):Option Bool:=
 match o.guard with
 | none=>some true
 | some (j,want)=>match (ops[j]?).bind (·.dst)with
  | some d=>match τ[d]? with
   | some (.bool b)=>some (b==want)
   | some (.tup [])=>some false
   | _=>none
  | none=>none
section
variable (P:Program) (F:TypeId→Option (List TypeId)) (call:FuncId→List AV→ah→Option (AV×ah))
def gY(ops:Array Oper)(base i:Nat)(τ:List AV)(H:ah):Option (List AV×ah):=
 match ops[i]? with
 | none=>none
 | some o=>match cS ops o τ with
  | some true=>match aX P F o.op (gV τ) (base+i) H with
   | some (.val v H')=>some (eF τ o.dst v,H')
   | some (.call f args)=>match call f args H with
    | some (v,H')=>some (eF τ o.dst v,H')
    | none=>none
   | none=>none
  | some false=>some (eF τ o.dst bj,H)
  | none=>none
def jm(ops:Array Oper)(base:Nat):List Nat→List AV→ah→Option (List AV×ah)
 | [],τ,H=>some (τ,H)
 | i::l,τ,H=>match gY P F call ops base i τ H with
  | some (τ,H)=>jm ops base l τ H
  | none=>none
def ac:AV→List Nat
 | .ptr b _ _ | .sl b _ _=>[b]
 | _=>[]
def dt:AV→List Nat
 | .sl b _ _=>[b]
 | _=>[]
def aT(o:Op)(ρ:Operand→AV):List Nat:=
 match o with
 | .load _ a=>ac (ρ a)
 | .store _ a _=>ac (ρ a)
 | .indexAddr _ x _=>dt (ρ x)
 | .slice _ x _ _ _=>dt (ρ x)
 | .call c=>match c.callee with
  | .builtin .append=>c.args.toList.flatMap fun x=>ac (ρ x)
  | .builtin .clear=>c.args.toList.flatMap fun x=>ac (ρ x)
  | _=>[]
 | _=>[]
def aH(o:Op)(ρ:Operand→AV):List Nat:=
 match o with
 | .store _ a _=>ac (ρ a)
 | .call c=>match c.callee with
  | .builtin .append=>(c.args.toList.take 1).flatMap fun x=>ac (ρ x)
  | .builtin .clear=>c.args.toList.flatMap fun x=>ac (ρ x)
  | _=>[]
 | _=>[]
structure mR where
 op:Nat
 reads:List Nat
 writes:List Nat
 made:List Nat
 isCall:Bool
 lo:Nat
 hi:Nat
def apart(l m:List Nat):Bool:=l.all fun x=>!m.contains x
def iF(x y:mR):Bool:=
 !(apart x.writes y.reads&&apart x.writes y.writes&&apart x.reads y.writes&&apart x.made y.reads&&apart x.made y.writes) ||
 (x.isCall&&(y.isCall||!y.writes.isEmpty||y.reads.any fun b=>decide (x.lo≤b)&&decide (b<x.hi)))||(y.isCall&&!x.writes.isEmpty)
def bE:List Oper→List Nat→List Nat
 | [],acc=>acc
 | o::l,acc=>bE l (acc++[o.after.toList.foldl (fun s e=>if Region.binds .any e then s ||| 2^e.on ||| acc.getD e.on 0 else s) 0])
def cQ(base mask:Nat):Nat→ah→ah
 | 0,H=>H
 | j+1,H=>cQ base mask j (if mask.testBit j then H else {H with tr:=H.tr.set (base+j) none})
def fK(base mask:Nat)(H:ah):Nat→ah→ah
 | 0,K=>K
 | j+1,K=>fK base mask H j (if mask.testBit j then K else {K with tr:=K.tr.set (base+j) (H.tr.get (base+j))})
def aZ(ops:Array Oper)(base i mask:Nat)(τ:List AV)(H:ah):Option (List AV×ah×Option mR):=
 match ops[i]? with
 | none=>none
 | some o=>match cS ops o τ with
  | some true=>match aX P F o.op (gV τ) (base+i) H with
   | some (.val v H')=>some (eF τ o.dst v,{H' with log:=H.log},some ⟨i,aT o.op (gV τ),aH o.op (gV τ),[base+i],false,0,0⟩)
   | some (.call f args)=>match call f args {cQ base mask i H with log:=[]} with
    | some (v,H')=>some (eF τ o.dst v,{fK base mask H i H' with log:=H.log},some ⟨i,[],H'.log.filter (fun c=>((cQ base mask i H).get c).isSome),[],true,H.next,H'.next⟩)
    | none=>none
   | none=>none
  | some false=>some (eF τ o.dst bj,H,none)
  | none=>none
def dm(ops:Array Oper)(base:Nat)(before:List Nat):List Nat→List AV→ah→List mR→Option (List AV×ah×List mR)
 | [],τ,H,rs=>some (τ,H,rs)
 | i::l,τ,H,rs=>match aZ P F call ops base i (before.getD i 0) τ H with
  | some (τ,H,none)=>dm ops base before l τ H rs
  | some (τ,H,some r)=>if rs.all fun x=>(before.getD i 0).testBit x.op||!iF x r then dm ops base before l τ H (r::rs)else none
  | none=>none
def cT(ops:Array Oper)(draw:Bool)(τ:List AV)(H:ah):Option (List AV×ah):=
 let H':={H with next:=H.next+ops.size}
 if draw then match dm P F call ops H.next (bE ops.toList []) (List.range ops.size) τ H' []with
  | some (τ,K,rs)=>some (τ,{K with log:=rs.flatMap (·.writes)++K.log})
  | none=>none
 else jm P F call ops H.next (List.range ops.size) τ H'
def gZ(τ:List AV)(H:ah):ResultVar→Option AV
 | .tmp t=>some (τ.getD t bj)
 | .cell a t=>jH P H t (τ.getD a bj)
def iG(τ:List AV)(H:ah)(rs:List ResultVar):Option AV:=
 match cI (rs.map (gZ P τ H))with
 | some [v]=>some v
 | some vs=>some (.tup vs)
 | none=>none
def jn(ex:Code→List AV→ah→Option (Ex×List AV×ah))(g:FuncId)(args:List AV)(H:ah):Option (AV×ah):=
 match P.funcs[g]? with
 | some fn=>match fn.body with
  | some c=>match ex c (args++List.replicate (fn.ntmps-args.length) bj) {H with log:=[]} with
   | some (.exit _,_,_)=>none
   | some (_,τ,H')=>match iG P τ H' fn.results.toList with
    | some v=>some (v,{H' with log:=H'.log.filter (·<H.next)++H.log})
    | none=>none
   | none=>none
  | none=>none
 | none=>none
end
def eW(P:Program)(F:TypeId→Option (List TypeId)):Nat→Code→List AV→ah→Option (Ex×List AV×ah)
 | 0,_,_,_=>none
 | f+1,c,τ,H=>
  match c with
  | .skip | .label _=>some (.normal,τ,H)
  | .region _ ops draw=>match cT P F (jn P (eW P F f)) ops draw τ H with
   | some (τ,H)=>some (.normal,τ,H)
   | none=>none
  | .seq a b=>match eW P F f a τ H with
   | some (.normal,τ,H)=>eW P F f b τ H
   | r=>r
  | .cond c a b=>match gV τ c with
   | .bool true=>eW P F f a τ H
   | .bool false=>eW P F f b τ H
   | _=>none
  | .block id b=>match eW P F f b τ H with
   | some (.exit id',τ,H)=>if id'=id then some (.normal,τ,H)else some (.exit id',τ,H)
   | r=>r
  | .loop b=>match eW P F f b τ H with
   | some (.normal,τ,H)=>eW P F f (.loop b) τ H
   | r=>r
  | .exit id=>some (.exit id,τ,H)
  | .ret=>some (.ret,τ,H)
  | _=>none
def ah.empty:ah:=⟨0,.leaf,[]⟩
end Go.Proofs.YtljkdffikfkcgaaGreat.Am
end
section
namespace Go.Proofs.YtljkdffikfkcgaaGreat.Am
structure fo where
 block:Nat
 base:Nat
 size:Nat
structure bz where
 map:Nat→Option fo
 fr:Nat→Prop
instance:CoeFun bz (fun _=>Nat→Option fo):=⟨bz.map⟩
structure nA(w:World)(T:Nat→Prop)(rows:List (List AV))(b o sz:Nat):Prop where
 out:¬T b
 even:∀(i:Nat) (r:List AV),rows[i]? =some r→r.length=sz
 cell:∀i j,i<rows.length→j<sz→∃u,w.cell? ⟨b,o+i*sz+j,none⟩=some u
 pos:0<sz
 ne:0<rows.length
inductive bq (w:World) (σ:bz) (T:Nat→Prop):AV→Value→Prop where
 | int (k:IntKind) (n:Int):bq w σ T (.int k n) (.int k n)
 | bool (b:Bool):bq w σ T (.bool b) (.bool b)
 | str (s:ByteArray):bq w σ T (.str s.data.toList) (.string s)
 | nilp:bq w σ T .nilp (.pointer none)
 | ptr (b i off:Nat) (pl:fo) (h:σ b=some pl):bq w σ T (.ptr b i off) (.pointer (some ⟨pl.block,pl.base+i*pl.size+off,none⟩))
 | pptr (rows:List (List AV)) (i off b o sz:Nat) (hl:nA w T rows b o sz)
   (h:∀(i:Nat) (r:List AV) (j:Nat) (a:AV) (u:Value),rows[i]? =some r→r[j]? =some a→w.cell? ⟨b,o+i*sz+j,none⟩=some u→bq w σ T a u) :
   bq w σ T (.pptr rows i off) (.pointer (some ⟨b,o+i*sz+off,none⟩))
 | nils:bq w σ T .nils (.slice none 0 0)
 | emp (a:Option Addr):bq w σ T .emp (.slice a 0 0)
 | sl (b i n:Nat) (pl:fo) (a:Addr) (cap:Nat) (h:σ b=some pl) (hn:n≤cap) (hm:cap≤maxLen)
   (ha:0<cap→a=⟨pl.block,pl.base+i*pl.size,none⟩∧∃cs e,w.heap[pl.block]? =some (.cells cs e (0,0))∧pl.base+(i+cap)*pl.size≤cs.size) :
   bq w σ T (.sl b i n) (.slice (some a) n cap)
 | lst0 (a:Option Addr) (cap:Nat) (hm:cap≤maxLen):bq w σ T (.lst []) (.slice a 0 cap)
 | lst (rows:List (List AV)) (b o sz cap:Nat) (hl:nA w T rows b o sz) (hn:rows.length≤cap) (hm:cap≤maxLen)
   (h:∀(i:Nat) (r:List AV) (j:Nat) (a:AV) (u:Value),rows[i]? =some r→r[j]? =some a→w.cell? ⟨b,o+i*sz+j,none⟩=some u→bq w σ T a u) :
   bq w σ T (.lst rows) (.slice (some ⟨b,o,none⟩) rows.length cap)
 | agg (cs:List AV) (vs:List Value) (hl:cs.length=vs.length) (h:∀(i:Nat) (a:AV) (v:Value),cs[i]? =some a→vs[i]? =some v→bq w σ T a v):bq w σ T (.agg cs) (.agg vs.toArray)
 | tup (cs:List AV) (vs:List Value) (hl:cs.length=vs.length) (h:∀(i:Nat) (a:AV) (v:Value),cs[i]? =some a→vs[i]? =some v→bq w σ T a v):bq w σ T (.tup cs) (.tuple vs.toArray)
 | fn (f:FuncId) (cs:List AV) (vs:List Value) (hl:cs.length=vs.length) (h:∀(i:Nat) (a:AV) (v:Value),cs[i]? =some a→vs[i]? =some v→bq w σ T a v):bq w σ T (.fn f cs) (.func (.func f) #[] vs.toArray)
 | nilf:bq w σ T .nilf .nilFunc
 | junk (v:Value):bq w σ T .junk v
def du(w:World)(σ:bz)(T:Nat→Prop)(cs:List AV)(vs:List Value):Prop:=
 cs.length=vs.length∧∀(i:Nat) (a:AV) (v:Value),cs[i]? =some a→vs[i]? =some v→bq w σ T a v
def zl(σ:bz)(H:ah)(c:Nat):Prop:=∃b x pl,H.get b=some x∧σ b=some pl∧pl.block=c
def aS(σ:bz)(H:ah)(c:Nat):Prop:=σ.fr c∨zl σ H c
structure qi(w:World)(σ:bz)(T:Nat→Prop)(x:Blk)(pl:fo)(cs:Array Value)(e:TypeId):Prop where
 size:pl.size=x.size
 block:w.heap[pl.block]? =some (.cells cs e (0,0))
 even:∀(i:Nat) (r:List AV),x.rows[i]? =some r→r.length=x.size
 room:pl.base+x.rows.length*x.size≤cs.size
 rep:∀(i:Nat) (r:List AV) (j:Nat) (a:AV) (u:Value),x.rows[i]? =some r→r[j]? =some a→cs[pl.base+i*x.size+j]? =some u→bq w σ T a u
structure bn(w:World)(σ:bz)(H:ah):Prop where
 named:∀b pl,σ b=some pl→b<H.next
 lt:∀b pl,σ b=some pl→pl.block<w.heap.size
 live:∀b x,H.get b=some x→∃pl cs e,σ b=some pl∧qi w σ (aS σ H) x pl cs e
 apart:∀c,σ.fr c→c<w.heap.size∧¬zl σ H c
 inj:∀b b' x x' pl pl',H.get b=some x→H.get b'=some x'→σ b=some pl→σ b'=some pl'→pl.block=pl'.block→b=b'
structure ew(w:World)(σ:bz)(T:Nat→Prop)(w':World)(σ':bz)(T':Nat→Prop):Prop where
 os:w'.os=w.os
 tape:w'.tape=w.tape
 output:w'.output=w.output
 size:w.heap.size≤w'.heap.size
 keep:∀c,c<w.heap.size→¬T c→w'.heap[c]? =w.heap[c]?
 shape:∀(c:Nat) (cs:Array Value) (e:TypeId),w.heap[c]? =some (.cells cs e (0,0))→∃cs':Array Value,w'.heap[c]? =some (.cells cs' e (0,0))∧cs'.size=cs.size
 sig:∀b pl,σ b=some pl→σ' b=some pl
 eqfr:σ'.fr=σ.fr
 frame:∀c,σ.fr c→w'.heap[c]? =w.heap[c]?
 own:∀c,T' c→T c∨w.heap.size≤c
theorem ew.refl(w:World)(σ:bz)(T:Nat→Prop):ew w σ T w σ T:=
 ⟨rfl,rfl,rfl,Nat.le_refl _,fun _ _ _=>rfl,fun _ cs _ h=>⟨cs,h,rfl⟩,fun _ _ h=>h,rfl,fun _ _=>rfl,fun _ h=>.inl h⟩
theorem ew.trans{w w' w'':World}{σ σ' σ'':bz}{T T' T'':Nat→Prop}(h:ew w σ T w' σ' T')(k:ew w' σ' T' w'' σ'' T''):ew w σ T w'' σ'' T'' where
 os:=k.os.trans h.os
 tape:=k.tape.trans h.tape
 output:=k.output.trans h.output
 size:=Nat.le_trans h.size k.size
 keep:=fun c hc hT=>by
  have hc':c<w'.heap.size:=Nat.lt_of_lt_of_le hc h.size
  have:¬T' c:=fun ht=>by
   rcases h.own c ht with h1 | h1
   ·exact hT h1
   ·omega
  exact(k.keep c hc' this).trans (h.keep c hc hT)
 shape:=fun c cs e hcs=>by
  obtain⟨cs',h1,h2⟩:=h.shape c cs e hcs
  obtain⟨cs'',h3,h4⟩:=k.shape c cs' e h1
  exact⟨cs'',h3,h4.trans h2⟩
 sig:=fun b pl hb=>k.sig b pl (h.sig b pl hb)
 eqfr:=k.eqfr.trans h.eqfr
 frame:=fun c hc=>(k.frame c (by rw[h.eqfr];exact hc)).trans (h.frame c hc)
 own:=fun c hc=>by
  rcases k.own c hc with h1 | h1
  ·exact h.own c h1
  ·exact .inr (Nat.le_trans h.size h1)
theorem Ah{w:World}{b o:Nat}{u:Value}(h:w.cell? ⟨b,o,none⟩=some u):b<w.heap.size:=by
 rcases Nat.lt_or_ge b w.heap.size with hlt | hge
 ·exact hlt
 ·simp[World.cell?,Array.getElem?_eq_none hge]at h
theorem nA.lt{w:World}{T:Nat→Prop}{rows:List (List AV)}{b o sz:Nat}(h:nA w T rows b o sz):b<w.heap.size:=by
 obtain⟨u,hu⟩:=h.cell 0 0 h.ne h.pos
 exact Ah hu
theorem nA.cell_eq{w w':World}{σ σ':bz}{T T':Nat→Prop}{rows:List (List AV)}{b o sz:Nat}(h:nA w T rows b o sz)(e:ew w σ T w' σ' T')(k:Nat):
  w'.cell? ⟨b,k,none⟩=w.cell? ⟨b,k,none⟩:=
 World.cell?_of_block (w:=w) (w':=w') (a:=⟨b,k,none⟩) (e.keep b h.lt h.out)
theorem nA.mono{w w':World}{σ σ':bz}{T T':Nat→Prop}{rows:List (List AV)}{b o sz:Nat}(h:nA w T rows b o sz)(e:ew w σ T w' σ' T'):nA w' T' rows b o sz where
 out:=fun ht=>by
  rcases e.own b ht with h1 | h1
  ·exact h.out h1
  ·have:=h.lt;omega
 even:=h.even
 cell:=fun i j hi hj=>by rw[h.cell_eq e];exact h.cell i j hi hj
 pos:=h.pos
 ne:=h.ne
theorem bq.mono{w w':World}{σ σ':bz}{T T':Nat→Prop}(e:ew w σ T w' σ' T'){a:AV}{v:Value}(h:bq w σ T a v):bq w' σ' T' a v:=by
 induction h with
 | int k n=>exact .int k n
 | bool b=>exact .bool b
 | str s=>exact .str s
 | nilp=>exact .nilp
 | ptr b i off pl h=>exact .ptr b i off pl (e.sig b pl h)
 | pptr rows i off b o sz hl h ih=>exact .pptr rows i off b o sz (hl.mono e) fun i r j a u h1 h2 h3=>ih i r j a u h1 h2 (by rwa [hl.cell_eq e]at h3)
 | nils=>exact .nils
 | emp a=>exact .emp a
 | sl b i n pl a cap h hn hm ha=>
  refine .sl b i n pl a cap (e.sig b pl h) hn hm fun hc=>?_
  obtain⟨h1,cs,ty,h2,h3⟩:=ha hc
  obtain⟨cs',h4,h5⟩:=e.shape _ _ _ h2
  exact⟨h1,cs',ty,h4,by omega⟩
 | lst0 a cap hm=>exact .lst0 a cap hm
 | lst rows b o sz cap hl hn hm h ih=>exact .lst rows b o sz cap (hl.mono e) hn hm fun i r j a u h1 h2 h3=>ih i r j a u h1 h2 (by rwa [hl.cell_eq e]at h3)
 | agg cs vs hl h ih=>exact .agg cs vs hl ih
 | tup cs vs hl h ih=>exact .tup cs vs hl ih
 | fn f cs vs hl h ih=>exact .fn f cs vs hl ih
 | nilf=>exact .nilf
 | junk v=>exact .junk v
theorem du.mono{w w':World}{σ σ':bz}{T T':Nat→Prop}(e:ew w σ T w' σ' T'){cs:List AV}{vs:List Value}(h:du w σ T cs vs):du w' σ' T' cs vs:=
 ⟨h.1,fun i a v h1 h2=>(h.2 i a v h1 h2).mono e⟩
end Go.Proofs.YtljkdffikfkcgaaGreat.Am
end
section
namespace Go.Proofs.YtljkdffikfkcgaaGreat.Am
theorem ah.get_new(H:ah)(b c:Nat)(x:Blk):(H.new b x).get c=if b=c then some x else H.get c:=Tr.get_set _ _ _ _
theorem ah.get_put(H:ah)(b c:Nat)(x:Option Blk):(H.put b x).get c=if b=c then x else H.get c:=Tr.get_set _ _ _ _
theorem qi.mono{w w':World}{σ σ':bz}{T T':Nat→Prop}{x:Blk}{pl:fo}{cs:Array Value}{e:TypeId}(h:qi w σ T x pl cs e)(ex:ew w σ T w' σ' T')
  (hb:w'.heap[pl.block]? =w.heap[pl.block]?):qi w' σ' T' x pl cs e:=
 ⟨h.size,hb.trans h.block,h.even,h.room,fun i r j a u h1 h2 h3=>(h.rep i r j a u h1 h2 h3).mono ex⟩
theorem ew.same{w w':World}(σ:bz)(T:Nat→Prop)(hh:w'.heap=w.heap)(ho:w'.os=w.os)(ht:w'.tape=w.tape)(hp:w'.output=w.output):ew w σ T w' σ T:=
 ⟨ho,ht,hp,by rw[hh];exact Nat.le_refl _,fun _ _ _=>by rw[hh],fun _ cs _ h=>⟨cs,by rw[hh];exact h,rfl⟩,fun _ _ h=>h,rfl,fun _ _=>by rw[hh],fun _ h=>.inl h⟩
theorem bn.same{w w':World}{σ:bz}{H:ah}(h:bn w σ H)(hh:w'.heap=w.heap)(ho:w'.os=w.os)(ht:w'.tape=w.tape)(hp:w'.output=w.output):bn w' σ H:=
 ⟨h.named,fun b pl hb=>by rw[hh];exact h.lt b pl hb,fun b x hb=>by
  obtain⟨pl,cs,e,h1,h2⟩:=h.live b x hb
  exact⟨pl,cs,e,h1,h2.mono (ew.same σ _ hh ho ht hp) (by rw[hh])⟩,fun c hc=>by rw[hh];exact h.apart c hc,h.inj⟩
theorem bn.congr{w:World}{σ:bz}{H K:ah}(h:bn w σ H)(hg:∀b,K.get b=H.get b)(hn:H.next≤K.next):bn w σ K:=by
 have ht:zl σ K=zl σ H:=by funext c;simp[zl,hg]
 have ho:aS σ K=aS σ H:=by funext c;simp[aS,ht]
 refine⟨fun b pl hb=>Nat.lt_of_lt_of_le (h.named b pl hb) hn,h.lt,fun b x hb=>?_,by rw[ht];exact h.apart,fun b b' x x' pl pl' h1 h2=>h.inj b b' x x' pl pl' (by rwa [hg]at h1) (by rwa [hg]at h2)⟩
 rw[ho]
 exact h.live b x (by rwa [hg]at hb)
theorem aS.congr{σ:bz}{H K:ah}(hg:∀b,K.get b=H.get b):aS σ K=aS σ H:=by funext c;simp[aS,zl,hg]
theorem aS.sub{σ:bz}{H K:ah}(hg:∀b x,K.get b=some x→H.get b=some x){c:Nat}(h:aS σ K c):aS σ H c:=by
 rcases h with h | ⟨b,x,pl,h1,h2,h3⟩
 ·exact .inl h
 ·exact .inr ⟨b,x,pl,hg b x h1,h2,h3⟩
theorem ew.sub{w:World}{σ:bz}{H K:ah}(hg:∀b x,K.get b=some x→H.get b=some x):ew w σ (aS σ H) w σ (aS σ K):=
 ⟨rfl,rfl,rfl,Nat.le_refl _,fun _ _ _=>rfl,fun _ cs _ h=>⟨cs,h,rfl⟩,fun _ _ h=>h,rfl,fun _ _=>rfl,fun _ h=>.inl (aS.sub hg h)⟩
theorem bn.sub{w:World}{σ:bz}{H K:ah}(h:bn w σ H)(hg:∀b x,K.get b=some x→H.get b=some x)(hn:H.next≤K.next):bn w σ K:=
 ⟨fun b pl hb=>Nat.lt_of_lt_of_le (h.named b pl hb) hn,h.lt,fun b x hb=>by
  obtain⟨pl,cs,e,h1,h2⟩:=h.live b x (hg b x hb)
  exact⟨pl,cs,e,h1,h2.mono (ew.sub hg) rfl⟩,fun c hc=>⟨(h.apart c hc).1,fun⟨b,x,pl,h1,h2,h3⟩=>(h.apart c hc).2 ⟨b,x,pl,hg b x h1,h2,h3⟩⟩,fun b b' x x' pl pl' h1 h2=>h.inj b b' x x' pl pl' (hg _ _ h1) (hg _ _ h2)⟩
def bz.set(σ:bz)(b:Nat)(pl:fo):bz:={σ with map:=fun c=>if b=c then some pl else σ c}
theorem bz.set_eq(σ:bz)(b:Nat)(pl:fo):σ.set b pl b=some pl:=by simp[bz.set]
theorem bz.set_ne(σ:bz){b c:Nat}(pl:fo)(h:b≠c):σ.set b pl c=σ c:=by simp[bz.set,h]
theorem bz.set_old{σ:bz}{b c:Nat}{pl q:fo}(hb:σ b=none)(h:σ c=some q):σ.set b pl c=some q:=by
 rw[bz.set_ne _ _ (by rintro rfl;rw[hb]at h;cases h)];exact h
def World.push(w:World)(o:Obj):World:={w with heap:=w.heap.push o}
theorem bn.new{w:World}{σ:bz}{H:ah}(h:bn w σ H){b:Nat}(hb:σ b=none)(hlt:b<H.next){x:Blk}{cs:Array Value}{e:TypeId}
  (even:∀(i:Nat) (r:List AV),x.rows[i]? =some r→r.length=x.size) (room:x.rows.length*x.size≤cs.size)
  (rep:∀(i:Nat) (r:List AV) (j:Nat) (a:AV) (u:Value),x.rows[i]? =some r→r[j]? =some a→cs[i*x.size+j]? =some u→bq w σ (aS σ H) a u) :
  bn (World.push w (.cells cs e (0,0))) (σ.set b ⟨w.heap.size,0,x.size⟩) (H.new b x)∧
  ew w σ (aS σ H) (World.push w (.cells cs e (0,0))) (σ.set b ⟨w.heap.size,0,x.size⟩) (aS (σ.set b ⟨w.heap.size,0,x.size⟩) (H.new b x)):=by
 have hnone:H.get b=none:=by
  cases hg:H.get b with
  | none=>rfl
  | some y=>obtain⟨pl,_,_,h1,_⟩:=h.live b y hg;rw[hb]at h1;cases h1
 have hold:∀c,c<w.heap.size→(World.push w (.cells cs e (0,0))).heap[c]? =w.heap[c]? :=fun c hc=>by
  show(w.heap.push _)[c]? =_
  rw[Array.getElem?_push,if_neg (Nat.ne_of_lt hc)]
 have ext:ew w σ (aS σ H) (World.push w (.cells cs e (0,0))) (σ.set b ⟨w.heap.size,0,x.size⟩) (aS (σ.set b ⟨w.heap.size,0,x.size⟩) (H.new b x)):=by
  refine⟨rfl,rfl,rfl,by simp[World.push],fun c hc _=>hold c hc,fun c cs' e' hc=>⟨cs',?_,rfl⟩,fun c q hq=>bz.set_old hb hq,rfl,fun c hc=>hold c (h.apart c hc).1,?_⟩
  ·rcases Nat.lt_or_ge c w.heap.size with hlt | hge
   ·rw[hold c hlt];exact hc
   ·rw[Array.getElem?_eq_none hge]at hc;cases hc
  ·rintro c (hfr | ⟨b',y,pl,h1,h2,h3⟩)
   ·exact .inl (.inl hfr)
   rw[ah.get_new]at h1
   by_cases hbb:b=b'
   ·subst hbb
    rw[bz.set_eq]at h2
    cases h2
    exact .inr (by simp only[]at h3;omega)
   ·rw[if_neg hbb]at h1
    rw[bz.set_ne _ _ hbb]at h2
    exact .inl (.inr ⟨b',y,pl,h1,h2,h3⟩)
 have hap:∀c,(σ.set b ⟨w.heap.size,0,x.size⟩).fr c→c<(World.push w (.cells cs e (0,0))).heap.size∧¬zl (σ.set b ⟨w.heap.size,0,x.size⟩) (H.new b x) c:=fun c hc=>by
  have hlt':=(h.apart c hc).1
  refine⟨by simp[World.push];omega,?_⟩
  rintro⟨b',y,pl,h1,h2,h3⟩
  rw[ah.get_new]at h1
  by_cases hbb:b=b'
  ·subst hbb
   rw[bz.set_eq]at h2
   cases h2
   simp only[]at h3;omega
  ·rw[if_neg hbb]at h1
   rw[bz.set_ne _ _ hbb]at h2
   exact(h.apart c hc).2 ⟨b',y,pl,h1,h2,h3⟩
 refine⟨⟨?_,?_,?_,hap,?_⟩,ext⟩
 ·intro c pl hc
  by_cases hbc:b=c
  ·subst hbc;exact hlt
  ·rw[bz.set_ne _ _ hbc]at hc;exact h.named c pl hc
 ·intro c pl hc
  by_cases hbc:b=c
  ·subst hbc;rw[bz.set_eq]at hc;cases hc;simp[World.push]
  ·rw[bz.set_ne _ _ hbc]at hc;have:=h.lt c pl hc;simp[World.push];omega
 ·intro c y hy
  rw[ah.get_new]at hy
  by_cases hbc:b=c
  ·subst hbc
   rw[if_pos rfl]at hy
   cases hy
   refine⟨_,cs,e,bz.set_eq _ _ _,⟨rfl,by show(w.heap.push _)[w.heap.size]? =_;simp,even,by simpa using room,fun i r j a u h1 h2 h3=>(rep i r j a u h1 h2 (by simpa using h3)).mono ext⟩⟩
  ·rw[if_neg hbc]at hy
   obtain⟨pl,cs',e',h1,h2⟩:=h.live c y hy
   exact⟨pl,cs',e',by rw[bz.set_ne _ _ hbc];exact h1,h2.mono ext (hold _ (h.lt c pl h1))⟩
 ·intro c c' y y' pl pl' h1 h2 h3 h4 h5
  rw[ah.get_new]at h1 h2
  by_cases hbc:b=c
  ·by_cases hbc':b=c'
   ·exact hbc.symm.trans hbc'
   ·subst hbc
    rw[bz.set_eq]at h3;cases h3
    rw[bz.set_ne _ _ hbc']at h4
    have:=h.lt c' pl' h4
    simp only[]at h5;omega
  ·by_cases hbc':b=c'
   ·subst hbc'
    rw[bz.set_eq]at h4;cases h4
    rw[bz.set_ne _ _ hbc]at h3
    have:=h.lt c pl h3
    simp only[]at h5;omega
   ·rw[if_neg hbc]at h1
    rw[if_neg hbc']at h2
    rw[bz.set_ne _ _ hbc]at h3
    rw[bz.set_ne _ _ hbc']at h4
    exact h.inj c c' y y' pl pl' h1 h2 h3 h4 h5
structure iH(w w':World)(c:Nat)(cs cs':Array Value)(e:TypeId):Prop where
 os:w'.os=w.os
 tape:w'.tape=w.tape
 output:w'.output=w.output
 size:w'.heap.size=w.heap.size
 old:w.heap[c]? =some (.cells cs e (0,0))
 new:w'.heap[c]? =some (.cells cs' e (0,0))
 len:cs'.size=cs.size
 rest:∀d,d≠c→w'.heap[d]? =w.heap[d]?
theorem iH.refl{w:World}{c:Nat}{cs:Array Value}{e:TypeId}(h:w.heap[c]? =some (.cells cs e (0,0))):iH w w c cs cs e:=
 ⟨rfl,rfl,rfl,rfl,h,h,rfl,fun _ _=>rfl⟩
theorem iH.ext{w w':World}{c:Nat}{cs cs':Array Value}{e:TypeId}(h:iH w w' c cs cs' e){σ σ':bz}{T T':Nat→Prop}(hc:T c)(hσ:∀b pl,σ b=some pl→σ' b=some pl)
  (hfr:σ'.fr=σ.fr) (hn:¬σ.fr c) (hT:∀d,T' d→T d):ew w σ T w' σ' T':=by
 refine⟨h.os,h.tape,h.output,by rw[h.size];exact Nat.le_refl _,fun d _ hd=>h.rest d (by rintro rfl;exact hd hc),fun d ds e' hd=>?_,hσ,hfr,fun d hd=>h.rest d (by rintro rfl;exact hn hd),fun d hd=>.inl (hT d hd)⟩
 by_cases hdc:d=c
 ·subst hdc
  rw[h.old]at hd
  cases hd
  exact⟨cs',h.new,h.len⟩
 ·exact⟨ds,by rw[h.rest d hdc];exact hd,rfl⟩
theorem bn.put{w w':World}{σ:bz}{H:ah}(h:bn w σ H){b:Nat}{x x':Blk}{pl:fo}{cs cs':Array Value}{e:TypeId}(hg:H.get b=some x)(hs:σ b=some pl)
  (hw:iH w w' pl.block cs cs' e) (hx:x'.size=pl.size)
  (even:∀(i:Nat) (r:List AV),x'.rows[i]? =some r→r.length=x'.size) (room:pl.base+x'.rows.length*x'.size≤cs.size)
  (rep:∀(i:Nat) (r:List AV) (j:Nat) (a:AV) (u:Value),x'.rows[i]? =some r→r[j]? =some a→cs'[pl.base+i*x'.size+j]? =some u→bq w σ (aS σ H) a u) :
  bn w' σ (H.put b (some x'))∧ew w σ (aS σ H) w' σ (aS σ (H.put b (some x'))):=by
 have htok:zl σ (H.put b (some x'))=zl σ H:=by
  funext c
  apply propext
  constructor
  ·rintro⟨b',y,q,h1,h2,h3⟩
   rw[ah.get_put]at h1
   by_cases hbb:b=b'
   ·subst hbb;exact⟨b,x,q,hg,h2,h3⟩
   ·rw[if_neg hbb]at h1;exact⟨b',y,q,h1,h2,h3⟩
  ·rintro⟨b',y,q,h1,h2,h3⟩
   by_cases hbb:b=b'
   ·subst hbb;exact⟨b,x',q,by rw[ah.get_put,if_pos rfl],h2,h3⟩
   ·exact⟨b',y,q,by rw[ah.get_put,if_neg hbb];exact h1,h2,h3⟩
 have hown:aS σ (H.put b (some x'))=aS σ H:=by funext c;simp[aS,htok]
 have ext:ew w σ (aS σ H) w' σ (aS σ (H.put b (some x'))):=by
  rw[hown]
  exact hw.ext (.inr ⟨b,x,pl,hg,hs,rfl⟩) (fun _ _ h=>h) rfl (fun hf=>(h.apart _ hf).2 ⟨b,x,pl,hg,hs,rfl⟩) (fun _ h=>h)
 refine⟨⟨h.named,fun c q hc=>by rw[hw.size];exact h.lt c q hc,?_,fun c hc=>by rw[hw.size,htok];exact h.apart c hc,?_⟩,ext⟩
 ·intro c y hy
  rw[ah.get_put]at hy
  by_cases hbc:b=c
  ·subst hbc
   rw[if_pos rfl]at hy
   cases hy
   exact⟨pl,cs',e,hs,⟨hx.symm,hw.new,even,by rw[hw.len];exact room,fun i r j a u h1 h2 h3=>(rep i r j a u h1 h2 h3).mono ext⟩⟩
  ·rw[if_neg hbc]at hy
   obtain⟨q,ds,e',h1,h2⟩:=h.live c y hy
   exact⟨q,ds,e',h1,h2.mono ext (hw.rest _ fun he=>hbc (h.inj b c x y pl q hg hy hs h1 he.symm))⟩
 ·intro c c' y y' q q' h1 h2
  have aux:∀c y,(H.put b (some x')).get c=some y→∃z,H.get c=some z:=fun c y hy=>by
   rw[ah.get_put]at hy
   by_cases hbc:b=c
   ·subst hbc;exact⟨x,hg⟩
   ·rw[if_neg hbc]at hy;exact⟨y,hy⟩
  obtain⟨z,hz⟩:=aux c y h1
  obtain⟨z',hz'⟩:=aux c' y' h2
  exact h.inj c c' z z' q q' hz hz'
theorem bn.over{w w':World}{σ:bz}{H:ah}(h:bn w σ H){b b':Nat}{x x':Blk}{pl:fo}{cs cs':Array Value}{e:TypeId}{k:Nat}(hg:H.get b=some x)(hs:σ b=some pl)
  (hb:σ b'=none) (hlt:b'<H.next) (hw:iH w w' pl.block cs cs' e) (hx:x'.size=pl.size)
  (even:∀(i:Nat) (r:List AV),x'.rows[i]? =some r→r.length=x'.size) (room:pl.base+k*pl.size+x'.rows.length*x'.size≤cs.size)
  (rep:∀(i:Nat) (r:List AV) (j:Nat) (a:AV) (u:Value),x'.rows[i]? =some r→r[j]? =some a→cs'[pl.base+k*pl.size+i*x'.size+j]? =some u→bq w σ (aS σ H) a u) :
  bn w' (σ.set b' ⟨pl.block,pl.base+k*pl.size,pl.size⟩) ((H.put b none).new b' x')∧
  ew w σ (aS σ H) w' (σ.set b' ⟨pl.block,pl.base+k*pl.size,pl.size⟩) (aS (σ.set b' ⟨pl.block,pl.base+k*pl.size,pl.size⟩) ((H.put b none).new b' x')):=by
 have hne:b'≠b:=by rintro rfl;rw[hb]at hs;cases hs
 have get':∀c y,((H.put b none).new b' x').get c=some y→(c=b'∧y=x')∨(c≠b'∧c≠b∧H.get c=some y):=fun c y hy=>by
  rw[ah.get_new]at hy
  by_cases h1:b'=c
  ·rw[if_pos h1]at hy;cases hy;exact .inl ⟨h1.symm,rfl⟩
  ·rw[if_neg h1,ah.get_put]at hy
   by_cases h2:b=c
   ·rw[if_pos h2]at hy;cases hy
   ·rw[if_neg h2]at hy;exact .inr ⟨fun e=>h1 e.symm,fun e=>h2 e.symm,hy⟩
 have htok:∀d,zl (σ.set b' ⟨pl.block,pl.base+k*pl.size,pl.size⟩) ((H.put b none).new b' x') d→zl σ H d:=by
  rintro d ⟨c,y,q,h1,h2,h3⟩
  rcases get' c y h1 with⟨rfl,rfl⟩ | ⟨h4,_,h5⟩
  ·rw[bz.set_eq]at h2;cases h2;exact⟨b,x,pl,hg,hs,h3⟩
  ·rw[bz.set_ne _ _ (fun e=>h4 e.symm)]at h2;exact⟨c,y,q,h5,h2,h3⟩
 have ext:ew w σ (aS σ H) w' (σ.set b' ⟨pl.block,pl.base+k*pl.size,pl.size⟩) (aS (σ.set b' ⟨pl.block,pl.base+k*pl.size,pl.size⟩) ((H.put b none).new b' x')):=by
  refine hw.ext (.inr ⟨b,x,pl,hg,hs,rfl⟩) (fun c q hq=>bz.set_old hb hq) rfl (fun hf=>(h.apart _ hf).2 ⟨b,x,pl,hg,hs,rfl⟩) ?_
  rintro d (hfr | hd)
  ·exact .inl hfr
  ·exact .inr (htok d hd)
 refine⟨⟨?_,?_,?_,fun c hc=>⟨by rw[hw.size];exact(h.apart c hc).1,fun ht=>(h.apart c hc).2 (htok c ht)⟩,?_⟩,ext⟩
 ·intro c q hc
  by_cases hbc:b'=c
  ·subst hbc;exact hlt
  ·rw[bz.set_ne _ _ hbc]at hc;exact h.named c q hc
 ·intro c q hc
  rw[hw.size]
  by_cases hbc:b'=c
  ·subst hbc;rw[bz.set_eq]at hc;cases hc;exact h.lt b pl hs
  ·rw[bz.set_ne _ _ hbc]at hc;exact h.lt c q hc
 ·intro c y hy
  rcases get' c y hy with⟨rfl,rfl⟩ | ⟨h4,h6,h5⟩
  ·exact⟨_,cs',e,bz.set_eq _ _ _,⟨hx.symm,hw.new,even,by rw[hw.len];exact room,fun i r j a u h1 h2 h3=>(rep i r j a u h1 h2 h3).mono ext⟩⟩
  ·obtain⟨q,ds,e',h1,h2⟩:=h.live c y h5
   exact⟨q,ds,e',by rw[bz.set_ne _ _ (fun e=>h4 e.symm)];exact h1,h2.mono ext (hw.rest _ fun he=>h6 (h.inj c b y x q pl h5 hg h1 hs he))⟩
 ·intro c c' y y' q q' h1 h2 h3 h4 h5
  rcases get' c y h1 with⟨rfl,rfl⟩ | ⟨a1,a2,a3⟩
  ·rcases get' c' y' h2 with⟨rfl,rfl⟩ | ⟨b1,b2,b3⟩
   ·rfl
   ·rw[bz.set_eq]at h3;cases h3
    rw[bz.set_ne _ _ (fun e=>b1 e.symm)]at h4
    exact absurd (h.inj b c' x y' pl q' hg b3 hs h4 h5) (fun e=>b2 e.symm)
  ·rcases get' c' y' h2 with⟨rfl,rfl⟩ | ⟨b1,b2,b3⟩
   ·rw[bz.set_eq]at h4;cases h4
    rw[bz.set_ne _ _ (fun e=>a1 e.symm)]at h3
    exact absurd (h.inj c b y x q pl a3 hg h3 hs h5) a2
   ·rw[bz.set_ne _ _ (fun e=>a1 e.symm)]at h3
    rw[bz.set_ne _ _ (fun e=>b1 e.symm)]at h4
    exact h.inj c c' y y' q q' a3 b3 h3 h4 h5
end Go.Proofs.YtljkdffikfkcgaaGreat.Am
end
section
namespace Go.Proofs.YtljkdffikfkcgaaGreat.Am
section
variable {P:Program} {w:World} {σ:bz} {T:Nat→Prop}
theorem qj{t:TypeId}{i:TypeInfo}(h:P.info? t=some i)(w:World):(typeInfo t).run P w=.ok i w:=by
 simp[typeInfo,h]
theorem cg{t:TypeId}{n:Nat}(h:aU P t=some n)(w:World):(sizeOf t).run P w=.ok n w:=by
 unfold aU at h
 cases hi:P.info? t with
 | none=>rw[hi]at h;cases h
 | some i=>rw[hi]at h;cases h;simp[sizeOf,qj hi]
theorem iI{t:TypeId}{r:Bool}(h:dN P t=some r)(w:World):(isAgg t).run P w=.ok r w:=by
 unfold dN at h
 cases hi:P.underlying t with
 | none=>rw[hi]at h;cases h
 | some d=>
  rw[hi]at h
  simp only[Option.map_some,Option.some.injEq]at h
  subst h
  simp only[isAgg,Sem.run_bind,run_underlying hi,Result.andThen_ok]
  cases d<;>rfl
theorem bq.cells{a:AV}{v:Value}{cs:List AV}(h:bq w σ T a v)(hc:a.cells? =some cs):du w σ T cs v.cells.toList:=by
 have one:∀{a v},bq w σ T a v→(v.cells=#[v])→du w σ T [a] v.cells.toList:=fun {a v} h e=>by
  rw[e]
  refine⟨rfl,fun i a' v' h1 h2=>?_⟩
  match i with
  | 0=>cases h1;cases h2;exact h
  | i+1=>simp at h1
 cases h<;>simp only[AV.cells?,Option.some.injEq,reduceCtorEq]at hc<;>subst hc
 case agg vs hl h=>exact⟨by simpa[Value.cells]using hl,by simpa[Value.cells]using h⟩
 all_goals exact one (by constructor<;>assumption) rfl
theorem bq.one{a:AV}{v:Value}(h:bq w σ T a v)(ho:a.one=true):v.oneCell'=true:=by
 cases h<;>first | rfl | (simp[AV.one]at ho)
theorem du.one{cs:List AV}{vs:List Value}(h:du w σ T cs vs)(ho:cs.all AV.one=true):∀v∈vs,v.oneCell'=true:=by
 intro v hv
 obtain⟨i,hi,rfl⟩:=List.getElem_of_mem hv
 have hi':i<cs.length:=by rw[h.1];exact hi
 exact(h.2 i cs[i] vs[i] (List.getElem?_eq_getElem hi') (List.getElem?_eq_getElem hi)).one (by rw[List.all_eq_true]at ho;exact ho _ (List.getElem_mem hi'))
def Ai(w:World)(σ:bz)(T:Nat→Prop)(row:List AV)(b start:Nat):Prop:=
 ∀(j:Nat) (a:AV),row[j]? =some a→∃u,w.cell? ⟨b,start+j,none⟩=some u∧bq w σ T a u
theorem dw(b o n:Nat):(⟨b,o,none⟩:Addr).add n=⟨b,o+n,none⟩:=by unfold Addr.add;split<;>simp_all
theorem DX{row:List AV}{b start:Nat}(h:Ai w σ T row b start)(n off:Nat)(hn:off+n≤row.length):
  ∃vs:List Value,vs.length=n∧(loadCells ⟨b,start+off,none⟩ n).run P w=.ok vs.toArray w∧du w σ T ((row.drop off).take n) vs:=by
 have key:∀j,∃u,j<n→∃a,row[off+j]? =some a∧w.cell? ⟨b,start+off+j,none⟩=some u∧bq w σ T a u:=fun j=>by
  by_cases hj:j<n
  ·obtain⟨u,h1,h2⟩:=h (off+j) row[off+j] (List.getElem?_eq_getElem (by omega))
   exact⟨u,fun _=>⟨_,List.getElem?_eq_getElem (by omega),by rw[Nat.add_assoc];exact h1,h2⟩⟩
  ·exact⟨undef,fun h=>absurd h hj⟩
 let f:=fun j=>Classical.choose (key j)
 have hf:∀j,j<n→∃a,row[off+j]? =some a∧w.cell? ⟨b,start+off+j,none⟩=some (f j)∧bq w σ T a (f j):=fun j=>Classical.choose_spec (key j)
 refine⟨(List.range n).map f,by simp,run_loadCells w _ n f (fun j hj=>by rw[dw];obtain⟨a,_,h2,_⟩:=hf j hj;exact h2),by simp;omega,?_⟩
 intro i a v h1 h2
 rw[List.getElem?_map]at h2
 have hi:i<n:=by
  rcases Nat.lt_or_ge i n with h3 | h3
  ·exact h3
  ·rw[List.getElem?_eq_none (by simpa using h3)]at h2;cases h2
 rw[List.getElem?_range hi]at h2
 cases h2
 obtain⟨a',h3,_,h5⟩:=hf i hi
 rw[List.getElem?_take_of_lt hi,List.getElem?_drop,h3]at h1
 cases h1
 exact h5
theorem mS{t:TypeId}{row:List AV}{b start off:Nat}{v:AV}(h:Ai w σ T row b start)(hl:fk P t row off=some v):
  ∃v',(loadVar t ⟨b,start+off,none⟩).run P w=.ok v' w∧bq w σ T v v':=by
 unfold fk at hl
 split at hl
 ·rename_i n h1 h2
  split at hl
  ·rename_i hn
   cases hl
   obtain⟨vs,_,h4,h5⟩:=DX (P:=P) h n off hn
   exact⟨.agg vs.toArray,by simp only[loadVar,Sem.run_bind,iI h1,Result.andThen_ok,Sem.run_ite,if_true,cg h2,h4,Sem.run_pure],.agg _ _ h5.1 h5.2⟩
  ·cases hl
 ·rename_i n h1 h2
  obtain⟨u,h3,h4⟩:=h off v hl
  exact⟨u,by simp[loadVar,iI h1,h3],h4⟩
 ·cases hl
theorem mT{t:TypeId}{row:List AV}{vs:List Value}{off:Nat}{v:AV}(h:du w σ T row vs)(hl:fk P t row off=some v):
  ∃v',(part t vs.toArray off).run P w=.ok v' w∧bq w σ T v v':=by
 unfold fk at hl
 split at hl
 ·rename_i n h1 h2
  split at hl
  ·rename_i hn
   cases hl
   refine⟨.agg (vs.toArray.extract off (off+n)),by simp only[part,Sem.run_bind,iI h1,Result.andThen_ok,Sem.run_ite,if_true,cg h2,Sem.run_pure],?_⟩
   have e:vs.toArray.extract off (off+n)=((vs.drop off).take n).toArray:=by simp
   rw[e]
   refine .agg _ _ (by simp[h.1]) fun i a v h3 h4=>?_
   have hi:i<n:=by
    rcases Nat.lt_or_ge i n with h5 | h5
    ·exact h5
    ·rw[List.getElem?_eq_none (by simp;omega)]at h3;cases h3
   rw[List.getElem?_take_of_lt hi,List.getElem?_drop]at h3 h4
   exact h.2 _ a v h3 h4
  ·cases hl
 ·rename_i n h1 h2
  have ho:off<row.length:=by
   rcases Nat.lt_or_ge off row.length with h5 | h5
   ·exact h5
   ·rw[List.getElem?_eq_none h5]at hl;cases hl
  have ho':off<vs.length:=by rw[←h.1];exact ho
  exact⟨vs[off],by simp[part,iI h1,ho'],h.2 off v _ hl (List.getElem?_eq_getElem ho')⟩
 ·cases hl
theorem qi.row{x:Blk}{pl:fo}{cs:Array Value}{e:TypeId}(h:qi w σ T x pl cs e){i:Nat}{r:List AV}(hr:x.rows[i]? =some r):
  Ai w σ T r pl.block (pl.base+i*pl.size):=by
 intro j a ha
 have hi:i<x.rows.length:=by
  rcases Nat.lt_or_ge i x.rows.length with h5 | h5
  ·exact h5
  ·rw[List.getElem?_eq_none h5]at hr;cases hr
 have hj:j<x.size:=by
  rw[←h.even i r hr]
  rcases Nat.lt_or_ge j r.length with h5 | h5
  ·exact h5
  ·rw[List.getElem?_eq_none h5]at ha;cases ha
 have hb:pl.base+i*x.size+j<cs.size:=by
  have:=h.room
  have:(i+1)*x.size≤x.rows.length*x.size:=Nat.mul_le_mul_right _ hi
  rw[Nat.add_mul]at this
  omega
 refine⟨cs[pl.base+i*x.size+j],?_,h.rep i r j a _ hr ha (Array.getElem?_eq_getElem hb)⟩
 rw[h.size]
 simp[World.cell?,h.block,hb]
theorem nA.row{rows:List (List AV)}{b o sz:Nat}(hl:nA w T rows b o sz)
  (h:∀(i:Nat) (r:List AV) (j:Nat) (a:AV) (u:Value),rows[i]? =some r→r[j]? =some a→w.cell? ⟨b,o+i*sz+j,none⟩=some u→bq w σ T a u)
  {i:Nat} {r:List AV} (hr:rows[i]? =some r):Ai w σ T r b (o+i*sz):=by
 intro j a ha
 have hi:i<rows.length:=by
  rcases Nat.lt_or_ge i rows.length with h5 | h5
  ·exact h5
  ·rw[List.getElem?_eq_none h5]at hr;cases hr
 have hj:j<sz:=by
  rw[←hl.even i r hr]
  rcases Nat.lt_or_ge j r.length with h5 | h5
  ·exact h5
  ·rw[List.getElem?_eq_none h5]at ha;cases ha
 obtain⟨u,hu⟩:=hl.cell i j hi hj
 exact⟨u,hu,h i r j a u hr ha hu⟩
theorem vC{H:ah}(hW:bn w σ H){t:TypeId}{a v:AV}{a':Value}(ha:bq w σ (aS σ H) a a')(hl:jH P H t a=some v):
  ∃v',(Instr.loadAt t a').run P w=.ok v' w∧bq w σ (aS σ H) v v':=by
 unfold jH at hl
 split at hl
 ·rename_i b i off
  cases ha
  rename_i pl hs
  cases hx:H.get b with
  | none=>rw[hx]at hl;cases hl
  | some x=>
   rw[hx]at hl
   simp only[Option.bind_some]at hl
   cases hr:x.rows[i]? with
   | none=>rw[hr]at hl;cases hl
   | some r=>
    rw[hr]at hl
    simp only[Option.bind_some]at hl
    obtain⟨pl',cs,e,h1,h2⟩:=hW.live b x hx
    rw[hs]at h1
    cases h1
    obtain⟨v',h3,h4⟩:=mS (P:=P) (h2.row hr) hl
    exact⟨v',by simpa[Instr.loadAt,Instr.sureAddr]using h3,h4⟩
 ·rename_i rows i off
  cases ha
  rename_i b o sz hl' h
  cases hr:rows[i]? with
  | none=>rw[hr]at hl;cases hl
  | some r=>
   rw[hr]at hl
   simp only[Option.bind_some]at hl
   obtain⟨v',h3,h4⟩:=mS (P:=P) (hl'.row h hr) hl
   exact⟨v',by simpa[Instr.loadAt,Instr.sureAddr]using h3,h4⟩
 ·cases hl
end
end Go.Proofs.YtljkdffikfkcgaaGreat.Am
end
section
namespace Go.Proofs.YtljkdffikfkcgaaGreat.Am
section
variable {P:Program} {w:World} {σ:bz} {T:Nat→Prop}
theorem Cx{v:Value}{a:AV}(h:Jx v=some a):bq w σ T a v:=by
 unfold Jx at h
 split at h<;>first | (cases h;constructor) | cases h
theorem qk{α:Type}:∀(l:List (Option α)) (m:List α),cI l=some m→l.length=m.length∧∀(i:Nat) (x:α),m[i]? =some x→l[i]? =some (some x)
 | [],m,h=>by cases h;exact⟨rfl,fun i x h=>by simp at h⟩
 | none::_,m,h=>by cases h
 | some x::l,m,h=>by
  unfold cI at h
  split at h
  ·rename_i l' hl
   cases h
   obtain⟨h1,h2⟩:=qk l l' hl
   refine⟨by simp[h1],fun i y hy=>?_⟩
   match i with
   | 0=>simpa using hy
   | i+1=>simp only[List.getElem?_cons_succ]at hy ⊢;exact h2 i y hy
  ·cases h
theorem Aj{v:Value}{a:AV}(h:DW v=some a):bq w σ T a v:=by
 unfold DW at h
 split at h
 ·rename_i cs
  cases hm:cI (cs.toList.map Jx)with
  | none=>rw[hm]at h;cases h
  | some l=>
   rw[hm]at h
   cases h
   obtain⟨h1,h2⟩:=qk _ _ hm
   have:bq w σ T (.agg l) (.agg cs.toList.toArray):=.agg l cs.toList (by simpa using h1.symm) fun i a v h3 h4=>by
    have:=h2 i a h3
    rw[List.getElem?_map,h4]at this
    simp only[Option.map_some,Option.some.injEq]at this
    exact Cx this
   simpa using this
 ·exact Cx h
theorem en{t:TypeId}{z:AV}(h:dY P t=some z):∃z',(zeroValue t).run P w=.ok z' w∧bq w σ T z z':=by
 unfold dY at h
 cases hi:P.info? t with
 | none=>rw[hi]at h;cases h
 | some i=>
  rw[hi]at h
  simp only[Option.bind_some]at h
  cases hz:i.zero with
  | none=>rw[hz]at h;cases h
  | some z'=>
   rw[hz]at h
   exact⟨z',by simp[zeroValue,qj hi,hz],Aj h⟩
theorem ue{s:TypeId}{x v:AV}{x':Value}{f:Nat}(hx:bq w σ T x x')(h:ge P s x f=some v):
  ∃v',(Instr.fieldAt s x' f).run P w=.ok v' w∧bq w σ T v v':=by
 unfold ge at h
 split at h
 ·rename_i fs hu
  cases hf:fs[f]? with
  | none=>rw[hf]at h;cases h
  | some fd=>
   rw[hf]at h
   simp only[Option.bind_some]at h
   cases hn:aU P fd.type with
   | none=>rw[hn]at h;cases h
   | some n=>
    rw[hn]at h
    simp only[Option.bind_some]at h
    by_cases h0:n=0
    ·rw[if_pos h0]at h;cases h
    ·rw[if_neg h0]at h
     cases hx<;>simp only[Option.some.injEq,reduceCtorEq]at h<;>subst h
     ·rename_i b i off pl hs
      refine⟨_,by simp only[Instr.fieldAt,Sem.run_bind,run_underlying hu,Result.andThen_ok,hf,Instr.sureAddr,Sem.run_pure,fieldPlace,cg hn,Sem.run_ite,if_neg h0,dw];rfl,?_⟩
      have:=bq.ptr (w:=w) (T:=T) b i (off+fd.offset) pl hs
      rwa [←Nat.add_assoc]at this
     ·rename_i rows i off b o sz hl h
      refine⟨_,by simp only[Instr.fieldAt,Sem.run_bind,run_underlying hu,Result.andThen_ok,hf,Instr.sureAddr,Sem.run_pure,fieldPlace,cg hn,Sem.run_ite,if_neg h0,dw];rfl,?_⟩
      have:=bq.pptr rows i (off+fd.offset) b o sz hl h
      rwa [←Nat.add_assoc]at this
 ·cases h
theorem Ak{s:TypeId}{x v:AV}{x':Value}{f:Nat}(hx:bq w σ T x x')(h:zk P s x f=some v):
  ∃v',(Instr.field s x' f).run P w=.ok v' w∧bq w σ T v v':=by
 unfold zk at h
 split at h
 ·rename_i fs cs hu
  cases hx
  rename_i vs hl hr
  cases hf:fs[f]? with
  | none=>rw[hf]at h;cases h
  | some fd=>
   rw[hf]at h
   simp only[Option.bind_some]at h
   obtain⟨v',h1,h2⟩:=mT (P:=P) (w:=w) (σ:=σ) (T:=T) ⟨hl,hr⟩ h
   exact⟨v',by simp[Instr.field,run_underlying hu,hf,asAgg,h1],h2⟩
 ·cases h
theorem bq.sl_inv{b i n:Nat}{v:Value}(h:bq w σ T (.sl b i n) v):∃pl a cap,v=.slice (some a) n cap∧σ b=some pl∧n≤cap∧cap≤maxLen∧
  (0<cap→a=⟨pl.block,pl.base+i*pl.size,none⟩∧∃cs e,w.heap[pl.block]? =some (.cells cs e (0,0))∧pl.base+(i+cap)*pl.size≤cs.size):=by
 cases h with
 | sl _ _ _ pl a cap h hn hm ha=>exact⟨pl,a,cap,rfl,h,hn,hm,ha⟩
theorem bq.lst_inv{rows:List (List AV)}{v:Value}(h:bq w σ T (.lst rows) v):∃A cap,v=.slice A rows.length cap∧rows.length≤cap∧cap≤maxLen∧
  (rows≠[]→∃b o sz,A=some ⟨b,o,none⟩∧nA w T rows b o sz∧
   ∀(i:Nat) (r:List AV) (j:Nat) (a:AV) (u:Value),rows[i]? =some r→r[j]? =some a→w.cell? ⟨b,o+i*sz+j,none⟩=some u→bq w σ T a u):=by
 cases h with
 | lst0 a cap hm=>exact⟨a,cap,rfl,Nat.zero_le _,hm,fun h=>absurd rfl h⟩
 | lst _ b o sz cap hl hn hm h=>exact⟨_,cap,rfl,hn,hm,fun _=>⟨b,o,sz,rfl,hl,h⟩⟩
theorem ax{α:Type}{l:List α}{i:Nat}{x:α}(h:l[i]? =some x):i<l.length:=by
 rcases Nat.lt_or_ge i l.length with h5 | h5
 ·exact h5
 ·rw[List.getElem?_eq_none h5]at h;cases h
theorem uf{H:ah}(hW:bn w σ H){t:TypeId}{x ix v:AV}{x' ix':Value}(hx:bq w σ (aS σ H) x x')(hi:bq w σ (aS σ H) ix ix')(h:c8 P (jl H x) t x ix=some v):
  ∃v',(Instr.indexAt t x' ix').run P w=.ok v' w∧bq w σ (aS σ H) v v':=by
 unfold c8 at h
 split at h
 ·rename_i k i
  cases hi
  by_cases h0:i<0
  ·rw[if_pos h0]at h;cases h
  ·rw[if_neg h0]at h
   split at h
   ·rename_i e b j n hu
    split at h
    ·rename_i hlt
     obtain⟨hlt,hso,hsz⟩:=hlt
     cases h
     cases hy:H.get b with
     | none=>simp[jl,hy]at hso
     | some y=>
     simp only[jl,hy,Option.map_some]at hsz
     obtain⟨pl,a,cap,rfl,hs,hn,hm,ha⟩:=hx.sl_inv
     obtain⟨rfl,cs,ty,hc,hr⟩:=ha (by omega)
     have hii:0≤i∧i<(n:Int):=by omega
     obtain⟨pl',cs',e',h1,h2⟩:=hW.live b y hy
     rw[hs]at h1
     cases h1
     refine⟨_,by simp only[Instr.indexAt,asIntOf,Sem.run_bind,Sem.run_pure,Result.andThen_ok,run_underlying hu,Sem.run_ite,if_pos hii,cg hsz,dw];rfl,?_⟩
     have:=bq.ptr (w:=w) (T:=aS σ H) b (j+i.toNat) 0 pl hs
     rw[←h2.size]
     simpa[Nat.add_mul,Nat.add_assoc]using this
    ·cases h
   ·rename_i e rows hu
    split at h
    ·rename_i r hr
     split at h
     ·rename_i hsz
      cases h
      have hlt:=ax hr
      have hii:0≤i∧i<(rows.length:Int):=by omega
      obtain⟨A,cap,rfl,hn,hm,ha⟩:=hx.lst_inv
      obtain⟨b,o,sz,rfl,hl,h⟩:=ha (by rintro rfl;simp at hr)
      have hrs:=hl.even _ _ hr
      subst hrs
      refine⟨_,by simp only[Instr.indexAt,asIntOf,Sem.run_bind,Sem.run_pure,Result.andThen_ok,run_underlying hu,Sem.run_ite,if_pos hii,cg hsz,dw];rfl,?_⟩
      exact bq.pptr rows i.toNat 0 b o _ hl h
     ·cases h
    ·cases h
   ·rename_i len e b j off hu
    split at h
    ·rename_i hlt
     cases hn:aU P e with
     | none=>rw[hn]at h;cases h
     | some n=>
      rw[hn]at h
      cases h
      cases hx
      rename_i pl hs
      have hii:0≤i∧i<(len:Int):=by omega
      refine⟨_,by simp only[Instr.indexAt,asIntOf,Sem.run_bind,Sem.run_pure,Result.andThen_ok,run_underlying hu,Instr.sureAddr,Sem.run_ite,if_pos hii,cg hn,dw];rfl,?_⟩
      have:=bq.ptr (w:=w) (T:=aS σ H) b j (off+i.toNat*n) pl hs
      rwa [←Nat.add_assoc]at this
    ·cases h
   ·rename_i len e rows j off hu
    split at h
    ·rename_i hlt
     cases hn:aU P e with
     | none=>rw[hn]at h;cases h
     | some n=>
      rw[hn]at h
      cases h
      cases hx
      rename_i b o sz hl h
      have hii:0≤i∧i<(len:Int):=by omega
      refine⟨_,by simp only[Instr.indexAt,asIntOf,Sem.run_bind,Sem.run_pure,Result.andThen_ok,run_underlying hu,Instr.sureAddr,Sem.run_ite,if_pos hii,cg hn,dw];rfl,?_⟩
      have:=bq.pptr rows j (off+i.toNat*n) b o sz hl h
      rwa [←Nat.add_assoc]at this
    ·cases h
   ·cases h
 ·cases h
theorem Al{t:TypeId}{x ix v:AV}{x' ix':Value}(hx:bq w σ T x x')(hi:bq w σ T ix ix')(h:vB P t x ix=some v):
  ∃v',(Instr.index t x' ix').run P w=.ok v' w∧bq w σ T v v':=by
 unfold vB at h
 split at h
 ·rename_i s k i hu
  cases hi
  by_cases h0:i<0
  ·rw[if_pos h0]at h;cases h
  ·rw[if_neg h0]at h
   cases hx
   rename_i ba
   cases hb:ba.data.toList[i.toNat]? with
   | none=>rw[hb]at h;cases h
   | some c=>
    rw[hb]at h
    cases h
    have hlt:=ax hb
    have h1:ba[i.toNat]? =some c:=by
     have hlt':i.toNat<ba.size:=by rw[Array.length_toList]at hlt;exact hlt
     rw[getElem?_pos ba i.toNat hlt']
     rw[List.getElem?_eq_getElem hlt]at hb
     rw[←hb]
     rfl
    have hii:0≤i:=by omega
    have e:(if 0≤i then ba[i.toNat]? else none)=some c:=by rw[if_pos hii];exact h1
    exact⟨.int .u8 c.toNat,by simp only[Instr.index,asIntOf,Sem.run_bind,Sem.run_pure,Result.andThen_ok,run_underlying hu,e],.int _ _⟩
 ·rename_i len e cs k i hu
  split at h
  ·rename_i hlt
   cases hn:aU P e with
   | none=>rw[hn]at h;cases h
   | some n=>
    rw[hn]at h
    simp only[Option.bind_some]at h
    cases hi
    cases hx
    rename_i vs hl hr
    obtain⟨v',h1,h2⟩:=mT (P:=P) (w:=w) (σ:=σ) (T:=T) ⟨hl,hr⟩ h
    have hii:0≤i∧i<(len:Int):=by omega
    refine⟨v',?_,h2⟩
    simp only[Instr.index,asIntOf,Sem.run_bind,Sem.run_pure,Result.andThen_ok,run_underlying hu]
    rw[if_pos hii]
    simp only[Sem.run_bind,cg hn,Result.andThen_ok,h1]
  ·cases h
 ·cases h
theorem kg{x:AV}{x':Value}{n:Nat}(hx:bq w σ T x x')(h:jI x=some n):∃k i,x'=.int k i∧0≤i∧i.toNat=n:=by
 unfold jI at h
 split at h
 ·rename_i k i
  split at h
  ·rename_i h0;cases h;cases hx;exact⟨k,i,rfl,h0,rfl⟩
  ·cases h
 ·cases h
end
end Go.Proofs.YtljkdffikfkcgaaGreat.Am
end
section
namespace Go.Proofs.YtljkdffikfkcgaaGreat.Am
structure DY(P:Program)(t:TypeId)(ts:List TypeId):Prop where
 under:P.underlying t=some (.struct (P.fieldsOf t))
 stood:P.stoodInHeld t=false
 guard:P.eqGuardType P.depth t=false
 types:(P.fieldsOf t).toList.map (·.type)=ts
 fields : ∀ (i : Nat) (f : Field), (P.fieldsOf t).toList[i]? = some f → f.name ≠ "_" ∧ f.offset = i ∧ dN P f.type = some false
section
variable {P:Program} {w:World} {σ:bz} {T:Nat→Prop}
theorem sy(a b:ByteArray):(a.toList==b.toList)=(a.data.toList==b.data.toList):=by rw[ByteArray.toList_eq,ByteArray.toList_eq]
theorem sB{t:TypeId}{x y:AV}{x' y':Value}{r:Bool}{d:Nat}(hx:bq w σ T x x')(hy:bq w σ T y y')(h:vi P t x y=some r):
  (Op.equalIn (d+1) t x' y').run P w=.ok r w:=by
 unfold vi at h
 split at h
 case h_1 hu=>
  split at h
  ·rename_i hk;subst hk;cases h;cases hx;cases hy;exact run_equalIn_int w d t _ _ _ _ hu
  ·cases h
 case h_2 hu=>cases h;cases hx;cases hy;exact run_equalIn_bool' w d t _ _ hu
 case h_3 hu=>cases h;cases hx;cases hy;rw[run_equalIn_string w d t _ _ hu,sy]
 case h_4 hu=>cases h;cases hx;cases hy;simp[Op.equalIn,run_underlying hu]
 case h_5 hu=>cases h;cases hx;cases hy;simp[Op.equalIn,run_underlying hu]
 case h_6 hu=>cases h;cases hx;cases hy;simp[Op.equalIn,run_underlying hu]
 case h_7 hu=>cases h;cases hx;cases hy;simp[Op.equalIn,run_underlying hu]
 case h_8 hu=>cases h;cases hx;cases hy;simp[Op.equalIn,run_underlying hu]
 case h_9 hu=>cases h;cases hx;cases hy;simp[Op.equalIn,run_underlying hu]
 case h_10 hu=>cases h;cases hx;cases hy;simp[Op.equalIn,run_underlying hu]
 case h_11 hu=>cases h;cases hx;cases hy;simp[Op.equalIn,run_underlying hu]
 case h_12=>cases h
theorem An{t:TypeId}{cs:List AV}{vs:List Value}{i:Nat}{a:AV}(ht:dN P t=some false)(h:du w σ T cs vs)(ha:cs[i]? =some a):
  ∃v,(part t vs.toArray i).run P w=.ok v w∧bq w σ T a v:=by
 have hi:=ax ha
 have hi':i<vs.length:=by rw[←h.1];exact hi
 exact⟨vs[i],by simp[part,iI ht,hi'],h.2 i a _ ha (List.getElem?_eq_getElem hi')⟩
theorem nB{d:Nat}{cs ds:List AV}{xs ys:List Value}(hc:du w σ T cs xs)(hd:du w σ T ds ys):∀(fs:List Field) (k:Nat) (r:Bool),
  (∀ (i : Nat) (f : Field), fs[i]? = some f → f.name ≠ "_" ∧ f.offset = k + i ∧ dN P f.type = some false) → Af P (fs.map (·.type)) (cs.drop k) (ds.drop k) = some r→
  (Op.eqFields (d+1) xs.toArray ys.toArray fs).run P w=.ok r w
 | [],k,r,_,h=>by
  unfold Af at h
  split at h
  ·cases h;rfl
  ·simp_all
  ·cases h
 | f::fs,k,r,hf,h=>by
  unfold Af at h
  split at h
  ·rename_i e _ _;cases e
  ·rename_i t ts a l b m e1 e2 e3
   cases e1
   obtain⟨h1,h2,h3⟩:=hf 0 f rfl
   have ha:cs[k]? =some a:=by have:=congrArg (·[0]?) e2;simpa[List.getElem?_drop]using this
   have hb:ds[k]? =some b:=by have:=congrArg (·[0]?) e3;simpa[List.getElem?_drop]using this
   have hl:l=cs.drop (k+1):=by have:=congrArg List.tail e2;simpa[List.tail_drop]using this.symm
   have hm:m=ds.drop (k+1):=by have:=congrArg List.tail e3;simpa[List.tail_drop]using this.symm
   simp only[Nat.add_zero]at h2
   obtain⟨u,hu1,hu2⟩:=An (P:=P) h3 hc ha
   obtain⟨v,hv1,hv2⟩:=An (P:=P) h3 hd hb
   rw[←h2]at hu1 hv1
   simp only[Op.eqFields,if_pos h1,Sem.run_bind,hu1,hv1,Result.andThen_ok]
   split at h
   ·rename_i he
    rw[sB hu2 hv2 he]
    simp only[Result.andThen_ok,Bool.not_true,Bool.false_eq_true,if_false]
    exact nB hc hd fs (k+1) r (fun i g hg=>by have:=hf (i+1) g (by simpa using hg);refine⟨this.1,by rw[this.2.1];omega,this.2.2⟩) (by rw[←hl,←hm];exact h)
   ·rename_i he
    rw[sB hu2 hv2 h]
    cases r with
    | true=>exact absurd h he
    | false=>rfl
  ·cases h
theorem xS{op:BinOp}{t:TypeId}{x y:Operand}{a b:Value}(h:∀xs,a≠.agg xs)(h':a≠.nilIface):(eqGuard op t x y a b).run P w=.ok () w:=by
 cases a<;>cases op<;>simp_all[eqGuard]
theorem tS:∀(a b:List UInt8),qh a b=Op.bytesLess a b
 | _,[]=>by cases ‹List UInt8›<;>rfl
 | [],_::_=>rfl
 | a::x,b::y=>by simp[qh,Op.bytesLess,tS x y]
theorem bq.ne_agg{a:AV}{v:Value}(h:bq w σ T a v)(hc:∀cs,a≠.agg cs)(hj:a≠.junk):(∀xs,v≠.agg xs)∧v≠.nilIface:=by
 cases h<;>first | (exact absurd rfl (hc _)) | (exact absurd rfl hj) | (constructor<;>simp)
theorem DZ{op:UnOp}{x v:AV}{x':Value}(hx:bq w σ T x x')(h:KP op x=some v):∃v',(Op.unary op x').run P w=.ok v' w∧bq w σ T v v':=by
 unfold KP at h
 split at h
 ·cases h;cases hx;exact⟨_,rfl,.int _ _⟩
 ·cases h;cases hx;exact⟨_,rfl,.bool _⟩
 ·cases h
theorem BN{s d:TypeId}{x v:AV}{x':Value}(hx:bq w σ T x x')(h:Ag P s d x=some v):∃v',(convert s d x').run P w=.ok v' w∧bq w σ T v v':=by
 unfold Ag at h
 split at h
 ·rename_i hu hv;cases h;cases hx;exact⟨_,by simp[convert,run_underlying hu,run_underlying hv,Conv.intToInt],.int _ _⟩
 ·rename_i hu hv;cases h;cases hx;exact⟨_,by simp[convert,run_underlying hu,run_underlying hv],.str _⟩
 ·cases h
end
end Go.Proofs.YtljkdffikfkcgaaGreat.Am
end
section
namespace Go.Proofs.YtljkdffikfkcgaaGreat.Am
section
variable {P:Program} {w:World} {σ:bz} {T:Nat→Prop}
theorem jo{op:BinOp}{t:TypeId}{k k':IntKind}{a b:Int}{v:AV}(F:TypeId→Option (List TypeId))(h:fV P F op t (.int k a) (.int k' b)=some v):
  ∃v',(binOp op t (.int k a) (.int k' b)).run P w=.ok v' w∧bq w σ T v v':=by
 by_cases hk:k=k'
 ·subst hk
  cases op<;>simp only[fV,ne_eq,not_true_eq_false,if_false,reduceCtorEq,Option.some.injEq]at h
  case shl=>
   split at h
   ·rename_i hb;cases h
    exact⟨_,by simp only[binOp,Op.shift];rw[if_neg (by omega)];rfl,.int _ _⟩
   ·cases h
  case shr=>
   split at h
   ·rename_i hb;cases h
    exact⟨_,by simp only[binOp,Op.shift];rw[if_neg (by omega)];rfl,.int _ _⟩
   ·cases h
  case quo=>
   split at h
   ·cases h
   ·rename_i hb;cases h
    exact⟨_,by simp only[binOp,Op.intDiv,ne_eq,not_true_eq_false,if_false];rw[if_neg hb];rfl,.int _ _⟩
  case rem=>
   split at h
   ·cases h
   ·rename_i hb;cases h
    exact⟨_,by simp only[binOp,Op.intDiv,ne_eq,not_true_eq_false,if_false];rw[if_neg hb];rfl,.int _ _⟩
  all_goals (subst h;refine⟨_,by simp only[binOp,ne_eq,not_true_eq_false,if_false];rfl,?_⟩;constructor)
 ·cases op<;>simp only[fV,ne_eq,hk,not_false_eq_true,if_true,reduceCtorEq]at h
  case shl=>
   split at h
   ·rename_i hb;cases h
    exact⟨_,by simp only[binOp,Op.shift];rw[if_neg (by omega)];rfl,.int _ _⟩
   ·cases h
  case shr=>
   split at h
   ·rename_i hb;cases h
    exact⟨_,by simp only[binOp,Op.shift];rw[if_neg (by omega)];rfl,.int _ _⟩
   ·cases h
theorem Cy{l:List UInt8}{s:ByteArray}(h:s.data.toList=l):bq w σ T (.str l) (.string s):=by subst h;exact .str s
theorem zm{op:BinOp}{t:TypeId}{a b:ByteArray}{v:AV}(F:TypeId→Option (List TypeId))(h:fV P F op t (.str a.data.toList) (.str b.data.toList)=some v):
  ∃v',(binOp op t (.string a) (.string b)).run P w=.ok v' w∧bq w σ T v v':=by
 cases op<;>simp only[fV,reduceCtorEq,Option.some.injEq]at h
 case add=>
  split at h
  ·rename_i hl
   cases h
   have hn:¬((a.size+b.size:Nat):Int) > IntKind.i64.max:=by
    have h1:a.data.toList.length=a.size:=Array.length_toList
    have h2:b.data.toList.length=b.size:=Array.length_toList
    rw[h1,h2]at hl
    have:(IntKind.i64.max:Int)=9223372036854775807:=by decide
    rw[this];omega
   exact⟨_,by simp only[binOp,Op.stringOp];rw[if_neg hn];rfl,Cy (by simp)⟩
  ·cases h
 case eql=>subst h;exact⟨_,rfl,by rw[sy];exact .bool _⟩
 case neq=>subst h;exact⟨_,rfl,by rw[sy];exact .bool _⟩
 case lss=>subst h;exact⟨_,rfl,by rw[tS,ByteArray.toList_eq,ByteArray.toList_eq];exact .bool _⟩
theorem F8{t:TypeId}{x' y':Value}{r:Bool}(h:(Op.equalIn 10000 t x' y').run P w=.ok r w)
  (hx:∀k n,x'≠.int k n) (hs:∀s,x'≠.string s) (hf:∀k n,x'≠.float k n) (hc:∀k a b,x'≠.complex k a b) :
  (binOp .eql t x' y').run P w=.ok (.bool r) w∧(binOp .neq t x' y').run P w=.ok (.bool !r) w:=by
 constructor
 ·cases x'<;>simp_all[binOp,Op.equal,Op.maxDepth]
 ·cases x'<;>simp_all[binOp,Op.equal,Op.maxDepth]
theorem sC{t:TypeId}{x y:AV}{x':Value}{r:Bool}(h:vi P t x y=some r)(hx:bq w σ T x x')(h1:∀k n,x≠.int k n)(h2:∀s,x≠.str s):
  (∀k n,x'≠.int k n)∧(∀s,x'≠.string s)∧(∀k n,x'≠.float k n)∧(∀k a b,x'≠.complex k a b)∧(∀cs,x≠.agg cs)∧x≠.junk:=by
 have hj:x≠.junk∧∀cs,x≠.agg cs:=by
  constructor
  ·rintro rfl;unfold vi at h;split at h<;>simp_all
  ·rintro cs rfl;unfold vi at h;split at h<;>simp_all
 cases hx<;>simp_all
theorem vj{t:TypeId}{x y:AV}{r:Bool}(h:vi P t x y=some r)(hy:y=.nilp∨y=.nils):(∀k n,x≠.int k n)∧(∀s,x≠.str s):=by
 rcases hy with rfl | rfl
 ·constructor
  ·rintro k n rfl;unfold vi at h;split at h<;>simp_all
  ·rintro s rfl;unfold vi at h;split at h<;>simp_all
 ·constructor
  ·rintro k n rfl;unfold vi at h;split at h<;>simp_all
  ·rintro s rfl;unfold vi at h;split at h<;>simp_all
theorem De{F:TypeId→Option (List TypeId)}(hF:∀t ts,F t=some ts→DY P t ts){op:BinOp}{t:TypeId}{ox oy:Operand}{x y v:AV}{x' y':Value}(hx:bq w σ T x x')(hy:bq w σ T y y')
  (h:fV P F op t x y=some v):∃v',(do eqGuard op t ox oy x' y';binOp op t x' y':Sem Value).run P w=.ok v' w∧bq w σ T v v':=by
 have other:(∀cs,x≠.agg cs)→x≠.junk→(∃v',(binOp op t x' y').run P w=.ok v' w∧bq w σ T v v')→∃v',(do eqGuard op t ox oy x' y';binOp op t x' y':Sem Value).run P w=.ok v' w∧bq w σ T v v':=by
  intro h1 h2 ⟨v',h3,h4⟩
  obtain⟨h5,h6⟩:=hx.ne_agg h1 h2
  exact⟨v',by simp only[Sem.run_bind,xS h5 h6,Result.andThen_ok,h3],h4⟩
 have eqs:∀r,vi P t x y=some r→(∀k n,x'≠.int k n)→(∀s,x'≠.string s)→(∀k n,x'≠.float k n)→(∀k a b,x'≠.complex k a b)→
   (binOp .eql t x' y').run P w=.ok (.bool r) w∧(binOp .neq t x' y').run P w=.ok (.bool !r) w:=fun r hr=>F8 (sB hx hy hr)
 have h0:=h
 unfold fV at h
 split at h
 case h_1=>cases hx;cases hy;exact other (by simp) (by simp) (jo F h0)
 case h_2=>cases hx;cases hy;exact other (by simp) (by simp) (jo F h0)
 case h_3=>cases hx;cases hy;exact other (by simp) (by simp) (jo F h0)
 case h_4=>cases hx;cases hy;exact other (by simp) (by simp) (zm F h0)
 case h_5 a b=>
  cases hf:F t with
  | none=>rw[hf]at h;cases h
  | some ts=>
   rw[hf]at h
   simp only[Option.bind_some]at h
   cases he:Af P ts a b with
   | none=>rw[he]at h;cases h
   | some r=>
    rw[he]at h
    cases h
    cases hx with
    | agg _ xs hl1 hr1=>
    cases hy with
    | agg _ ys hl2 hr2=>
    have fl:=hF t ts hf
    have:=nB (P:=P) (w:=w) (σ:=σ) (T:=T) (d:=9998) ⟨hl1,hr1⟩ ⟨hl2,hr2⟩ (P.fieldsOf t).toList 0 r (fun i f hi=>by have:=fl.fields i f hi;simpa using this) (by rw[fl.types];simpa using he)
    refine⟨.bool r,?_,.bool r⟩
    simp only[Sem.run_bind,run_eqGuard_agg w _ t ox oy _ _ fl.guard,Result.andThen_ok,run_eql_struct]
    rw[run_equalIn_agg w 9999 t _ _ fl.under fl.stood,this]
    rfl
 case h_6 a b=>
  cases hf:F t with
  | none=>rw[hf]at h;cases h
  | some ts=>
   rw[hf]at h
   simp only[Option.bind_some]at h
   cases he:Af P ts a b with
   | none=>rw[he]at h;cases h
   | some r=>
    rw[he]at h
    cases h
    cases hx with
    | agg _ xs hl1 hr1=>
    cases hy with
    | agg _ ys hl2 hr2=>
    have fl:=hF t ts hf
    have:=nB (P:=P) (w:=w) (σ:=σ) (T:=T) (d:=9998) ⟨hl1,hr1⟩ ⟨hl2,hr2⟩ (P.fieldsOf t).toList 0 r (fun i f hi=>by have:=fl.fields i f hi;simpa using this) (by rw[fl.types];simpa using he)
    refine⟨.bool !r,?_,.bool !r⟩
    simp only[Sem.run_bind,run_eqGuard_agg w _ t ox oy _ _ fl.guard,Result.andThen_ok,run_neq_struct]
    rw[run_equalIn_agg w 9999 t _ _ fl.under fl.stood,this]
    rfl
 case h_17=>cases h
 all_goals
  cases he:vi P t _ _ with
  | none=>rw[he]at h;cases h
  | some r=>
   rw[he]at h
   cases h
   first
    | (obtain⟨p1,p2,p3,p4,p5,p6⟩:=sC he hx (vj he (.inl rfl)).1 (vj he (.inl rfl)).2;obtain⟨e1,e2⟩:=eqs r he p1 p2 p3 p4;first | exact other p5 p6 ⟨_,e1,.bool _⟩ | exact other p5 p6 ⟨_,e2,.bool _⟩)
    | (obtain⟨p1,p2,p3,p4,p5,p6⟩:=sC he hx (vj he (.inr rfl)).1 (vj he (.inr rfl)).2;obtain⟨e1,e2⟩:=eqs r he p1 p2 p3 p4;first | exact other p5 p6 ⟨_,e1,.bool _⟩ | exact other p5 p6 ⟨_,e2,.bool _⟩)
    | (obtain⟨p1,p2,p3,p4,p5,p6⟩:=sC he hx (by simp) (by simp);obtain⟨e1,e2⟩:=eqs r he p1 p2 p3 p4;first | exact other p5 p6 ⟨_,e1,.bool _⟩ | exact other p5 p6 ⟨_,e2,.bool _⟩)
theorem iJ{a:AV}{v:Value}{n y:Nat}{code:BoundsCode}(hr:bq w σ T a v)(h:jI a=some n)(hn:n≤y):(Instr.sliceBound v y code).run P w=.ok n w:=by
 obtain⟨k,i,rfl,h0,rfl⟩:=kg hr h
 have:0≤i∧i≤(y:Int):=by omega
 simp only[Instr.sliceBound,asIntOf,Sem.run_bind,Sem.run_pure,Result.andThen_ok,Sem.run_ite]
 rw[if_pos this]
def BO(w:World)(σ:bz)(T:Nat→Prop)(x:Option AV)(x':Option Value):Prop:=
 match x,x' with
 | none,none=>True
 | some a,some v=>bq w σ T a v
 | _,_=>False
theorem fW{lo hi mx:Option AV}{lo' hi' mx':Option Value}{n c l h m:Nat}{isS:Bool}(hlo:BO w σ T lo lo')(hhi:BO w σ T hi hi')(hmx:BO w σ T mx mx')(hmh:hi=none→mx=none)
  (h1:cf lo 0=some l) (h2:cf hi n=some h) (h3:cf mx n=some m) (hc:n≤c) (b1:l≤h) (b2:h≤m) (b3:m≤n) :
  ∃m',(Instr.sliceBounds isS n c lo' hi' mx').run P w=.ok (l,h,m') w∧h≤m'∧m'≤c:=by
 match mx,mx',hmx with
 | none,none,_=>
  cases h3
  refine⟨c,?_,by omega,Nat.le_refl _⟩
  match hi,hi',hhi with
  | none,none,_=>
   cases h2
   match lo,lo',hlo with
   | none,none,_=>cases h1;simp[Instr.sliceBounds]
   | some a,some v,hr=>simp[Instr.sliceBounds,iJ (P:=P) hr h1 b1]
  | some a,some v,hr=>
   have e:=iJ (P:=P) (code:=if isS=true then .sliceAcap else .sliceAlen) hr h2 (show h≤c by omega)
   match lo,lo',hlo with
   | none,none,_=>cases h1;simp[Instr.sliceBounds,e]
   | some a,some v,hr=>simp[Instr.sliceBounds,e,iJ (P:=P) hr h1 b1]
 | some a,some v,hr=>
  have e0:=iJ (P:=P) (code:=if isS=true then .slice3Acap else .slice3Alen) hr h3 (show m≤c by omega)
  refine⟨m,?_,b2,by omega⟩
  match hi,hi',hhi with
  | none,none,_=>exact absurd (hmh rfl) (by simp)
  | some a,some v,hr=>
   have e:=iJ (P:=P) (code:=.slice3B) hr h2 b2
   match lo,lo',hlo with
   | none,none,_=>cases h1;simp[Instr.sliceBounds,e0,e]
   | some a,some v,hr=>simp[Instr.sliceBounds,e0,e,iJ (P:=P) hr h1 b1]
theorem ey{t e:TypeId}{A:Option Addr}{n cap l h m sz:Nat}{lo hi mx:Option Value}(hu:P.underlying t=some (.slice e))(hsz:aU P e=some sz)
  (h4:(Instr.sliceBounds true n cap lo hi mx).run P w=.ok (l,h,m) w) :
  (Instr.sliceAt t (.slice A n cap) lo hi mx).run P w=.ok (.slice (if m=l then A else A.map (·.add (l*sz))) (h-l) (m-l)) w:=by
 simp only[Instr.sliceAt,Instr.slice,Sem.run_bind,run_underlying hu,Result.andThen_ok,h4,cg hsz,Sem.run_pure]
theorem Ao{H:ah}(hW:bn w σ H){t:TypeId}{x v:AV}{lo hi mx:Option AV}{x':Value}{lo' hi' mx':Option Value}(hx:bq w σ (aS σ H) x x')
  (hlo:BO w σ (aS σ H) lo lo') (hhi:BO w σ (aS σ H) hi hi') (hmx:BO w σ (aS σ H) mx mx') (hmh:hi=none→mx=none)
  (h:iw P (jl H x) t x lo hi mx=some v):∃v',(Instr.sliceAt t x' lo' hi' mx').run P w=.ok v' w∧bq w σ (aS σ H) v v':=by
 unfold iw at h
 split at h
 ·rename_i e n hu hlen
  split at h
  ·rename_i l hh m h1 h2 h3
   split at h
   ·rename_i hb
    obtain⟨⟨b1,b2,b3⟩,hsome⟩:=hb
    have hes:∃sz,aU P e=some sz:=Option.isSome_iff_exists.1 hsome
    split at h
    ·cases h
     cases hx
     cases hlen
     obtain⟨m',h4,h5,h6⟩:=fW (P:=P) (isS:=true) hlo hhi hmx hmh h1 h2 h3 (Nat.le_refl 0) b1 b2 b3
     obtain rfl:m'=0:=by omega
     obtain rfl:hh=0:=by omega
     obtain rfl:l=0:=by omega
     obtain⟨sz,hsz⟩:∃sz,aU P e=some sz:=hes
     exact⟨_,ey hu hsz h4,by simpa using bq.nils⟩
    ·rename_i b i k
     cases hlen
     obtain⟨pl,a,cap,rfl,hs,hn,hm,ha⟩:=hx.sl_inv
     obtain⟨m',h4,h5,h6⟩:=fW (P:=P) (isS:=true) hlo hhi hmx hmh h1 h2 h3 hn b1 b2 b3
     cases hy:H.get b with
     | none=>simp[jl,hy]at h
     | some y=>
      simp only[jl,hy,Option.map_some,Option.isSome_some,true_and]at h
      split at h
      ·rename_i hsz
       cases h
       obtain⟨pl',cs',e',g1,g2⟩:=hW.live b y hy
       rw[hs]at g1
       cases g1
       by_cases hml:m'=l
       ·refine⟨.slice (some a) (hh-l) (m'-l),by rw[ey hu hsz h4,if_pos hml],?_⟩
        exact .sl b (i+l) (hh-l) pl a (m'-l) hs (by omega) (by omega) (by omega)
       ·obtain⟨rfl,cs,ty,hc,hr⟩:=ha (by omega)
        refine⟨.slice (some ⟨pl.block,pl.base+i*pl.size+l*y.size,none⟩) (hh-l) (m'-l),by rw[ey hu hsz h4,if_neg hml,Option.map_some,dw],?_⟩
        refine .sl b (i+l) (hh-l) pl _ (m'-l) hs (by omega) (by omega) fun _=>⟨?_,cs,ty,hc,?_⟩
        ·rw[←g2.size,Nat.add_mul,Nat.add_assoc]
        ·have:(i+l+(m'-l))*pl.size≤(i+cap)*pl.size:=Nat.mul_le_mul_right _ (by omega)
         omega
      ·cases h
    ·rename_i rows
     cases hlen
     obtain⟨A,cap,rfl,hn,hm,ha⟩:=hx.lst_inv
     obtain⟨m',h4,h5,h6⟩:=fW (P:=P) (isS:=true) hlo hhi hmx hmh h1 h2 h3 hn b1 b2 b3
     split at h
     ·cases h
      obtain⟨sz,hsz⟩:∃sz,aU P e=some sz:=hes
      obtain rfl:hh=0:=by simp at b3;omega
      obtain rfl:l=0:=by omega
      exact⟨_,ey hu hsz h4,.lst0 _ _ (by omega)⟩
     ·rename_i r rs
      split at h
      ·rename_i hsz
       cases h
       obtain⟨b,o,sz,rfl,hl,hrep⟩:=ha (by simp)
       obtain rfl:r.length=sz:=hl.even 0 r rfl
       by_cases hml:m'=l
       ·have:hh-l=0:=by omega
        rw[this,List.take_zero]
        exact⟨.slice (some ⟨b,o,none⟩) (hh-l) (m'-l),by rw[ey hu hsz h4,if_pos hml],by rw[this];exact .lst0 _ _ (by omega)⟩
       ·refine⟨.slice (some ⟨b,o+l*r.length,none⟩) (hh-l) (m'-l),by rw[ey hu hsz h4,if_neg hml,Option.map_some,dw],?_⟩
        by_cases hz:hh-l=0
        ·rw[hz,List.take_zero];exact .lst0 _ _ (by omega)
        ·have hlen:(((r::rs).drop l).take (hh-l)).length=hh-l:=by simp at b3 ⊢;omega
         have get:∀(i:Nat) (q:List AV),(((r::rs).drop l).take (hh-l))[i]? =some q→i<hh-l∧(r::rs)[l+i]? =some q:=fun i q hq=>by
          have hi:=ax hq
          rw[hlen]at hi
          rw[List.getElem?_take_of_lt hi,List.getElem?_drop]at hq
          exact⟨hi,hq⟩
         have:=bq.lst (w:=w) (σ:=σ) (T:=aS σ H) (((r::rs).drop l).take (hh-l)) b (o+l*r.length) r.length (m'-l)
          ⟨hl.out,fun i q hq=>hl.even _ q (get i q hq).2,fun i j hi hj=>by
           rw[hlen]at hi
           have:=hl.cell (l+i) j (by simp at b3 ⊢;omega) hj
           rwa [Nat.add_mul,←Nat.add_assoc]at this,hl.pos,by omega⟩ (by omega) (by omega)
          (fun i q j a u hq hj hu=>hrep (l+i) q j a u (get i q hq).2 hj (by rw[Nat.add_mul,←Nat.add_assoc];exact hu))
         rwa [hlen]at this
      ·cases h
    ·cases h
   ·cases h
  ·cases h
 ·rename_i hu
  split at h
  ·split at h
   ·rename_i l hh h1 h2
    split at h
    ·rename_i hb
     obtain⟨b1,b2⟩:=hb
     cases h
     cases hx with
     | str ba=>
     have hln:ba.data.toList.length=ba.size:=Array.length_toList
     have hmx2:mx'=none:=by
      match mx',hmx with
      | none,_=>rfl
     subst hmx2
     obtain⟨m',h4,h5,h6⟩:=fW (P:=P) (isS:=false) (n:=ba.size) (c:=ba.size) (m:=ba.size) (mx:=none) (mx':=none) hlo hhi trivial (fun _=>rfl) h1 (by rw[←hln];exact h2) rfl (Nat.le_refl _) b1 (by omega) (Nat.le_refl _)
     refine⟨.string (ba.extract l hh),by simp only[Instr.sliceAt,Instr.slice,Sem.run_bind,run_underlying hu,Result.andThen_ok,h4,Sem.run_pure,Option.isSome_none,Bool.false_eq_true,if_false],Cy ?_⟩
     rw[Lib.extract_data]
    ·cases h
   ·cases h
  ·cases h
 ·cases h
end
end Go.Proofs.YtljkdffikfkcgaaGreat.Am
end
section
namespace Go.Proofs.YtljkdffikfkcgaaGreat.Am
section
variable {P:Program} {w:World} {σ:bz} {T:Nat→Prop}
theorem sD:∀(vs:List Value) (k off:Nat) (cs:Array Value),off+k+vs.length≤cs.size→
  ((vs.zipIdx k).foldl (fun(cs:Array Value) (p:Value×Nat)=>cs.setIfInBounds (off+p.2) p.1) cs).toList=cs.toList.take (off+k)++vs++cs.toList.drop (off+k+vs.length)
 | [],k,off,cs,_=>by simp
 | v::vs,k,off,cs,h=>by
  simp only[List.length_cons]at h
  rw[List.zipIdx_cons,List.foldl_cons,sD vs (k+1) off _ (by simp;omega)]
  have e:=list_seg_step cs.toList (off+k) v vs (by simp;omega)
  simpa[Array.toList_setIfInBounds,Nat.add_assoc]using e
theorem du.splice{cells cs:List AV}{vs us:List Value}{off:Nat}(h:du w σ T cells vs)(k:du w σ T cs us)(hl:off+cs.length≤cells.length):
  du w σ T (bJ cells off cs) (vs.take off++us++vs.drop (off+us.length)):=by
 refine⟨by simp[bJ,h.1,k.1],fun i a v h1 h2=>?_⟩
 unfold bJ at h1
 have e1:=h.1
 have e2:=k.1
 rcases Nat.lt_or_ge i off with hi | hi
 ·rw[List.append_assoc,List.getElem?_append_left (by simp;omega),List.getElem?_take_of_lt hi]at h1 h2
  exact h.2 i a v h1 h2
 ·rcases Nat.lt_or_ge i (off+cs.length)with hj | hj
  ·rw[List.getElem?_append_left (by simp;omega),List.getElem?_append_right (by simp;omega)]at h1 h2
   simp only[List.length_take]at h1 h2
   rw[Nat.min_eq_left (by omega)]at h1 h2
   exact k.2 _ a v h1 h2
  ·rw[List.getElem?_append_right (by simp;omega)]at h1 h2
   simp only[List.length_append,List.length_take,List.getElem?_drop]at h1 h2
   rw[Nat.min_eq_left (by omega)]at h1 h2
   rw[←e2]at h2
   exact h.2 _ a v h1 h2
theorem nC{place:Nat→Option (Nat×Nat)}{ρ:Operand→AV}{ρ':Operand→Value}(hρ:∀x,bq w σ T (ρ x) (ρ' x)):∀(ps:List (Nat×Operand)) (cells r:List AV) (cells':Array Value),
  du w σ T cells cells'.toList→qg place cells (ps.map fun p=>(p.1,ρ p.2))=some r→∃r',Instr.fill place cells' (ps.map fun p=>(p.1,ρ' p.2))=some r'∧du w σ T r r'.toList
 | [],cells,r,cells',hc,h=>by cases h;exact⟨cells',rfl,hc⟩
 | (i,x)::ps,cells,r,cells',hc,h=>by
  simp only[List.map_cons,qg]at h
  split at h
  ·rename_i off size cs hp hcs
   split at h
   ·rename_i hl
    obtain⟨hl1,hl2,_⟩:=hl
    have hx:=(hρ x).cells hcs
    have e1:(ρ' x).cells.size=size:=by rw[←Array.length_toList,←hx.1,hl1]
    have e2:cells'.size=cells.length:=by rw[←Array.length_toList,←hc.1]
    have hfold:((ρ' x).cells.zipIdx.foldl (fun(cs:Array Value) (p:Value×Nat)=>cs.setIfInBounds (off+p.2) p.1) cells').toList=cells'.toList.take off++(ρ' x).cells.toList++cells'.toList.drop (off+(ρ' x).cells.toList.length):=by
     have:=sD (ρ' x).cells.toList 0 off cells' (by simp;omega)
     rw[←Array.foldl_toList,Array.toList_zipIdx]
     simpa using this
    obtain⟨r',h1,h2⟩:=nC hρ ps (bJ cells off cs) r _ (by rw[hfold];exact hc.splice hx (by omega)) h
    refine⟨r',?_,h2⟩
    have hcond:(decide ((ρ' x).cells.size≠size)||decide (off+(ρ' x).cells.size > cells'.size))=false:=by simp[e1,e2];omega
    simp only[List.map_cons,Instr.fill,hp,hcond,Bool.false_eq_true,if_false]
    exact h1
   ·cases h
  ·cases h
theorem ql{α β:Type}(f:α→Sem β)(g:α→β):∀(l:List α),(∀x∈l,(f x).run P w=.ok (g x) w)→(l.mapM f).run P w=.ok (l.map g) w
 | [],_=>by simp
 | x::l,h=>by
  rw[List.mapM_cons]
  simp only[Sem.run_bind,h x (by simp),Result.andThen_ok,ql f g l (fun y hy=>h y (by simp[hy])),Sem.run_pure,List.map_cons]
theorem xT{α β:Type}(f:α→Sem β)(g:α→β)(l:Array α)(h:∀x∈l.toList,(f x).run P w=.ok (g x) w):(l.mapM f).run P w=.ok (l.toList.map g).toArray w:=by
 rw[Array.mapM_eq_mapM_toList]
 simp only[Sem.run_map,ql f g l.toList h,Result.andThen_ok]
structure Fit(P:Program)(F:TypeId→Option (List TypeId)):Prop where
 flat:∀t ts,F t=some ts→DY P t ts
 names : ∀ (g : Nat) (fn : Func), P.funcs[g]? = some fn → fn.name ≠ "runtime.NumGoroutine"
 order:P.follows .mixedOrders=true
theorem Ap{t:TypeId}{ps:Array (Nat×Operand)}{v:AV}{ρ:Operand→AV}{ρ':Operand→Value}(hρ:∀x,bq w σ T (ρ x) (ρ' x))(h:vA P t (ps.toList.map fun p=>(p.1,ρ p.2))=some v):
  ∃v',(Instr.build t (ps.map fun(i,x)=>(i,ρ' x))).run P w=.ok v' w∧bq w σ T v v':=by
 have hps:(ps.map fun(i,x)=>(i,ρ' x)).toList=ps.toList.map fun p=>(p.1,ρ' p.2):=by simp
 unfold vA at h
 split at h
 ·rename_i fs z hu hz
  split at h
  ·rename_i hall
   have hf:∀f∈fs.toList,∃n,aU P f.type=some n:=fun f hfm=>by
    rw[List.all_eq_true]at hall
    exact Option.isSome_iff_exists.1 (hall f hfm)
   obtain⟨z',hz1,hz2⟩:=en (P:=P) (w:=w) (σ:=σ) (T:=T) hz
   cases hr:qg (jk P fs) z (ps.toList.map fun p=>(p.1,ρ p.2))with
   | none=>rw[hr]at h;cases h
   | some r=>
    rw[hr]at h
    cases h
    have hcells:=hz2.cells (cs:=z) rfl
    have hm:=xT (P:=P) (w:=w) (fun f:Field=>(do pure (f.offset,←sizeOf f.type):Sem (Nat×Nat))) (fun f=>(f.offset,(aU P f.type).getD 0)) fs (fun f hfm=>by
     obtain⟨n,hn⟩:=hf f hfm
     simp[cg hn,hn])
    have hpl:(fun i=>((fs.toList.map fun f:Field=>(f.offset,(aU P f.type).getD 0)).toArray)[i]?)=jk P fs:=by
     funext i
     unfold jk
     rw[List.getElem?_toArray,List.getElem?_map,Array.getElem?_toList]
     cases hfi:fs[i]? with
     | none=>rfl
     | some f=>
      obtain⟨n,hn⟩:=hf f (by rw[Array.mem_toList_iff];exact Array.mem_of_getElem? hfi)
      simp[hn]
    rw[←hpl]at hr
    obtain⟨r',h1,h2⟩:=nC hρ ps.toList z r z'.cells hcells hr
    refine⟨.agg r',?_,by have:=bq.agg (w:=w) (σ:=σ) (T:=T) r r'.toList h2.1 h2.2;simpa using this⟩
    simp only[Instr.build,Sem.run_bind,hz1,Result.andThen_ok,run_underlying hu,hm,hps,h1,Sem.run_pure]
  ·cases h
 ·rename_i n e z hu hz
  obtain⟨z',hz1,hz2⟩:=en (P:=P) (w:=w) (σ:=σ) (T:=T) hz
  cases hn:aU P e with
  | none=>rw[hn]at h;cases h
  | some sz=>
   rw[hn]at h
   simp only[Option.bind_some]at h
   cases hr:qg (fun i=>some (i*sz,sz)) z (ps.toList.map fun p=>(p.1,ρ p.2))with
   | none=>rw[hr]at h;cases h
   | some r=>
    rw[hr]at h
    cases h
    have hcells:=hz2.cells (cs:=z) rfl
    obtain⟨r',h1,h2⟩:=nC hρ ps.toList z r z'.cells hcells hr
    refine⟨.agg r',?_,by have:=bq.agg (w:=w) (σ:=σ) (T:=T) r r'.toList h2.1 h2.2;simpa using this⟩
    simp only[Instr.build,Sem.run_bind,hz1,Result.andThen_ok,run_underlying hu,cg hn,hps,h1,Sem.run_pure]
 ·cases h
end
end Go.Proofs.YtljkdffikfkcgaaGreat.Am
end
section
namespace Go.Proofs.YtljkdffikfkcgaaGreat.Am
def zn(P:Program)(s:Sem Value)(w:World)(σ:bz)(H:ah)(b:Nat)(v:AV)(H':ah):Prop:=
 ∃v' w' σ',s.run P w=.ok v' w'∧bq w' σ' (aS σ' H') v v'∧bn w' σ' H'∧ew w σ (aS σ H) w' σ' (aS σ' H')∧∀c pl,σ' c=some pl→σ c=some pl∨c=b
section
variable {P:Program} {w:World} {σ:bz} {T:Nat→Prop} {H:ah} {b:Nat}
structure Flat(w:World)(σ:bz)(T:Nat→Prop)(rows:List (List AV))(n:Nat)(l:List Value):Prop where
 len:l.length=rows.length*n
 even:∀(i:Nat) (r:List AV),rows[i]? =some r→r.length=n
 rep:∀(i:Nat) (r:List AV) (j:Nat) (a:AV) (u:Value),rows[i]? =some r→r[j]? =some a→l[i*n+j]? =some u→bq w σ T a u
theorem kh{i j m n:Nat}(hi:i<m)(hj:j<n):i*n+j<m*n:=by
 have:(i+1)*n≤m*n:=Nat.mul_le_mul_right _ hi
 rw[Nat.add_mul]at this
 omega
theorem Flat.nil(n:Nat):Flat w σ T [] n []:=⟨by simp,by simp,by simp⟩
theorem Flat.append{rows rows':List (List AV)}{n:Nat}{l l':List Value}(h:Flat w σ T rows n l)(k:Flat w σ T rows' n l'):Flat w σ T (rows++rows') n (l++l'):=by
 refine⟨by simp[h.len,k.len,Nat.add_mul],fun i r hr=>?_,fun i r j a u hr ha hu=>?_⟩
 ·rcases Nat.lt_or_ge i rows.length with hi | hi
  ·rw[List.getElem?_append_left hi]at hr;exact h.even i r hr
  ·rw[List.getElem?_append_right hi]at hr;exact k.even _ r hr
 ·rcases Nat.lt_or_ge i rows.length with hi | hi
  ·rw[List.getElem?_append_left hi]at hr
   have hj:j<n:=by rw[←h.even i r hr];exact ax ha
   rw[List.getElem?_append_left (by rw[h.len];exact kh hi hj)]at hu
   exact h.rep i r j a u hr ha hu
  ·rw[List.getElem?_append_right hi]at hr
   have hge:l.length≤i*n+j:=by rw[h.len];exact Nat.le_trans (Nat.mul_le_mul_right _ hi) (Nat.le_add_right _ _)
   rw[List.getElem?_append_right hge]at hu
   refine k.rep (i-rows.length) r j a u hr ha ?_
   rw[←hu,h.len]
   congr 1
   rw[Nat.sub_mul]
   have:rows.length*n≤i*n:=Nat.mul_le_mul_right _ hi
   omega
theorem Flat.set{rows:List (List AV)}{n:Nat}{l:List Value}(h:Flat w σ T rows n l){i:Nat}{cs:List AV}{us:List Value}(hi:i<rows.length)(hc:cs.length=n)(k:du w σ T cs us):
  Flat w σ T (rows.set i cs) n (l.take (i*n)++us++l.drop (i*n+us.length)):=by
 have hu:us.length=n:=by rw[←k.1,hc]
 have hin:i*n+n≤l.length:=by
  rw[h.len]
  have:(i+1)*n≤rows.length*n:=Nat.mul_le_mul_right _ hi
  rw[Nat.add_mul]at this
  omega
 refine⟨by simp only[List.length_append,List.length_take,List.length_drop,List.length_set];rw[Nat.min_eq_left (by omega),hu,h.len];rw[h.len]at hin;omega,fun q r hr=>?_,fun q r j a u hr ha hv=>?_⟩
 ·rw[List.getElem?_set]at hr
  split at hr
  ·cases hr;exact hc
  ·exact h.even q r hr
 ·have hj:j<r.length:=ax ha
  rw[List.getElem?_set]at hr
  split at hr
  ·rename_i e
   subst e
   cases hr
   rw[List.getElem?_append_left (by simp;omega),List.getElem?_append_right (by simp;omega)]at hv
   simp only[List.length_take]at hv
   rw[Nat.min_eq_left (by omega),Nat.add_sub_cancel_left]at hv
   exact k.2 j a u ha hv
  ·rename_i hne
   have hrn:=h.even q r hr
   have hq:q<rows.length:=ax hr
   refine h.rep q r j a u hr ha ?_
   rw[←hv]
   rcases Nat.lt_or_gt_of_ne hne with hlt | hlt
   ·have:(i+1)*n≤q*n:=Nat.mul_le_mul_right _ hlt
    rw[Nat.add_mul]at this
    rw[List.getElem?_append_right (by simp;omega)]
    simp only[List.length_append,List.length_take,List.getElem?_drop]
    rw[Nat.min_eq_left (by omega)]
    congr 1
    omega
   ·have:(q+1)*n≤i*n:=Nat.mul_le_mul_right _ hlt
    rw[Nat.add_mul]at this
    rw[List.append_assoc,List.getElem?_append_left (by simp;omega),List.getElem?_take_of_lt (by omega)]
theorem Flat.zeros{z:List AV}{zs:Array Value}{n:Nat}(hz:du w σ T z zs.toList)(hn:z.length=n)(h0:0<n)(len k:Nat)(hk:len≤k):
  ∃l:List Value,(Array.range (k*n)).map (zs[· % zs.size]!)=l.toArray∧l.length=k*n∧Flat w σ T (List.replicate len z) n (l.take (len*n))∧(∀u∈l,∃a,bq w σ T a u∧a∈z):=by
 have hzs:zs.size=n:=by rw[←Array.length_toList,←hz.1,hn]
 refine⟨(List.range (k*n)).map (zs[· % zs.size]!),?_,by simp,⟨?_,?_,?_⟩,?_⟩
 ·apply Array.ext'
  simp
 ·simp only[List.length_take,List.length_map,List.length_range,List.length_replicate]
  exact Nat.min_eq_left (Nat.mul_le_mul_right _ hk)
 ·intro i r hr
  rw[List.getElem?_replicate]at hr
  split at hr
  ·cases hr;exact hn
  ·cases hr
 ·intro i r j a u hr ha hu
  rw[List.getElem?_replicate]at hr
  split at hr
  ·rename_i hi
   cases hr
   have hj:j<n:=by rw[←hn];exact ax ha
   have hlt:=kh hi hj
   have hlt':i*n+j<k*n:=Nat.lt_of_lt_of_le hlt (Nat.mul_le_mul_right _ hk)
   rw[List.getElem?_take_of_lt hlt,List.getElem?_map,List.getElem?_range hlt']at hu
   simp only[Option.map_some,Option.some.injEq]at hu
   subst hu
   have e:(i*n+j) % zs.size=j:=by rw[hzs,Nat.mul_comm,Nat.mul_add_mod,Nat.mod_eq_of_lt hj]
   rw[e]
   refine hz.2 j a _ ha ?_
   rw[getElem!_pos zs j (by omega),Array.getElem?_toList,Array.getElem?_eq_getElem (by omega)]
  ·cases hr
 ·intro u hu
  rw[List.mem_map]at hu
  obtain⟨q,_,rfl⟩:=hu
  have hq:q % zs.size<zs.size:=Nat.mod_lt _ (by omega)
  rw[getElem!_pos zs _ hq]
  have hq':q % zs.size<z.length:=by omega
  exact⟨z[q % zs.size],hz.2 (q % zs.size) _ _ (List.getElem?_eq_getElem hq') (by rw[Array.getElem?_toList,Array.getElem?_eq_getElem hq]),List.getElem_mem hq'⟩
theorem vD(hW:bn w σ H)(hb:σ b=none)(hlt:b<H.next){x:Blk}{cs:Array Value}{e:TypeId}{s:Sem Value}{v:AV}{v':Value}{l:List Value}(hl:l=cs.toList.take (x.rows.length*x.size))
  (hf:Flat w σ (aS σ H) x.rows x.size l) (hs:s.run P w=.ok v' (World.push w (.cells cs e (0,0))))
  (hv:bq (World.push w (.cells cs e (0,0))) (σ.set b ⟨w.heap.size,0,x.size⟩) (aS (σ.set b ⟨w.heap.size,0,x.size⟩) (H.new b x)) v v'):zn P s w σ H b v (H.new b x):=by
 have hlen:=hf.len
 rw[hl]at hlen
 simp only[List.length_take,Array.length_toList]at hlen
 obtain⟨h1,h2⟩:=hW.new hb hlt (x:=x) (cs:=cs) (e:=e) hf.even (by omega) (fun i r j a u hr ha hu=>hf.rep i r j a u hr ha (by
  have hj:j<x.size:=by rw[←hf.even i r hr];exact ax ha
  rw[hl,List.getElem?_take_of_lt (kh (ax hr) hj),Array.getElem?_toList]
  exact hu))
 refine⟨v',_,_,hs,hv,h1,h2,fun c pl hc=>?_⟩
 by_cases hbc:b=c
 ·exact .inr hbc.symm
 ·rw[bz.set_ne _ _ hbc]at hc;exact .inl hc
theorem Flat.one{cs:List AV}{vs:List Value}(h:du w σ T cs vs):Flat w σ T [cs] cs.length vs:=by
 refine⟨by simp[h.1],fun i r hr=>?_,fun i r j a u hr ha hu=>?_⟩
 ·match i with
  | 0=>cases hr;rfl
  | i+1=>simp at hr
 ·match i with
  | 0=>cases hr;exact h.2 j a u ha (by simpa using hu)
  | i+1=>simp at hr
theorem Aq(hW:bn w σ H)(hb:σ b=none)(hlt:b<H.next){t:TypeId}{x:AV}{x':Value}{cs:List AV}(hx:bq w σ (aS σ H) x x')(hc:x.cells? =some cs):
  zn P (Instr.box t x') w σ H b (.ptr b 0 0) (H.new b ⟨cs.length,[cs]⟩):=by
 have hr:=hx.cells hc
 refine vD hW hb hlt (cs:=x'.cells) (e:=t) (v':=.pointer (some ⟨w.heap.size,0,none⟩)) (l:=x'.cells.toList) ?_ (Flat.one hr) rfl ?_
 ·have:=hr.1
  simp only[List.length_singleton,Nat.one_mul]
  rw[List.take_of_length_le (by omega)]
 ·have:=bq.ptr (w:=World.push w (.cells x'.cells t (0,0))) (T:=aS (σ.set b ⟨w.heap.size,0,cs.length⟩) (H.new b ⟨cs.length,[cs]⟩)) b 0 0 _ (bz.set_eq σ b ⟨w.heap.size,0,cs.length⟩)
  simpa using this
theorem BP(hW:bn w σ H)(hb:σ b=none)(hlt:b<H.next){t:TypeId}{cs:List AV}(hc:(dY P t).bind AV.cells? =some cs):
  zn P (Instr.alloc t true (.tuple #[])) w σ H b (.ptr b 0 0) (H.new b ⟨cs.length,[cs]⟩):=by
 cases hz:dY P t with
 | none=>rw[hz]at hc;cases hc
 | some z=>
  rw[hz]at hc
  obtain⟨z',h1,h2⟩:=en (P:=P) (w:=w) (σ:=σ) (T:=aS σ H) hz
  obtain⟨v',w',σ',h3,h4⟩:=Aq (P:=P) (t:=t) hW hb hlt h2 hc
  refine⟨v',w',σ',?_,h4⟩
  rw[←h3]
  simp only[Instr.alloc,Sem.run_bind,h1,Result.andThen_ok]
  rfl
theorem eZ{α:Type}(l us:List α)(K p:Nat)(h:K+us.length≤l.length):
  (l.take K++us++l.drop (K+us.length))[p]? =if p<K then l[p]? else if p<K+us.length then us[p-K]? else l[p]? :=by
 rcases Nat.lt_or_ge p K with h1 | h1
 ·rw[if_pos h1,List.append_assoc,List.getElem?_append_left (by simp;omega),List.getElem?_take_of_lt h1]
 ·rw[if_neg (by omega)]
  rcases Nat.lt_or_ge p (K+us.length)with h2 | h2
  ·rw[if_pos h2,List.getElem?_append_left (by simp;omega),List.getElem?_append_right (by simp;omega)]
   simp only[List.length_take]
   rw[Nat.min_eq_left (by omega)]
  ·rw[if_neg (by omega),List.getElem?_append_right (by simp;omega)]
   simp only[List.length_append,List.length_take,List.getElem?_drop]
   rw[Nat.min_eq_left (by omega)]
   congr 1
   omega
theorem BQ(hW:bn w σ H){t:TypeId}{a x:AV}{a' x':Value}{H':ah}(ha:bq w σ (aS σ H) a a')(hx:bq w σ (aS σ H) x x')(h:eH P H t a x=some H'):
  ∃w',(Instr.storeAt t a' x').run P w=.ok () w'∧bn w' σ H'∧ew w σ (aS σ H) w' σ (aS σ H'):=by
 unfold eH at h
 split at h
 ·rename_i c i off cs n hcs hn
  split at h
  ·rename_i y hy
   split at h
   ·rename_i r hr
    split at h
    ·rename_i hl
     obtain⟨hl1,hl2,hl3⟩:=hl
     cases h
     cases ha with
     | ptr _ _ _ pl hs=>
     obtain⟨pl',ds,e,g1,g2⟩:=hW.live c y hy
     rw[hs]at g1
     cases g1
     have hreps:=hx.cells hcs
     have hone:=hreps.one hl2
     have hi:=ax hr
     have hrl:=g2.even i r hr
     have hroom:=g2.room
     have hm:(i+1)*y.size≤y.rows.length*y.size:=Nat.mul_le_mul_right _ hi
     rw[Nat.add_mul]at hm
     have hst:=run_storeCells_at (P:=P) pl.block (pl.base+i*pl.size+off) e x'.cells.toList 0 ds w g2.block (by rw[←hreps.1,g2.size];omega) hone
     simp only[Nat.add_zero]at hst
     have hw:iH w (w.setRow pl.block (ds.toList.take (pl.base+i*pl.size+off)++x'.cells.toList++ds.toList.drop (pl.base+i*pl.size+off+x'.cells.toList.length)).toArray) pl.block ds _ e:=
      ⟨rfl,rfl,rfl,by simp,g2.block,setRow_heap w _ _ _ _ _ g2.block,by
       have:=hreps.1
       have hsz:=g2.size
       simp only[List.size_toArray,List.length_append,List.length_take,List.length_drop,Array.length_toList]
       rw[hsz,Nat.min_eq_left (by omega)]
       rw[←Array.length_toList (xs:=x'.cells)]
       omega,fun d hd=>setRow_other w _ d _ hd⟩
     have hput:=hW.put hy hs hw (x':={y with rows:=y.rows.set i (bJ r off cs)}) g2.size.symm ?_ ?_ ?_
     ·refine⟨_,?_,hput⟩
      have:x'.cells.size=n:=by rw[←Array.length_toList,←hreps.1,hl1]
      simp only[Instr.storeAt,Instr.sureAddr,storeVar,Sem.run_bind,Sem.run_pure,Result.andThen_ok,cg hn,Sem.run_ite,this,ne_eq,not_true_eq_false,if_false,hst]
     ·intro q s hq
      rw[List.getElem?_set]at hq
      split at hq
      ·cases hq;simp[bJ];omega
      ·exact g2.even q s hq
     ·simpa using hroom
     ·intro q s j a u hq hj hu
      have hsz:=g2.size
      have hul:x'.cells.toList.length=cs.length:=hreps.1.symm
      have hdl:ds.toList.length=ds.size:=Array.length_toList
      rw[List.getElem?_toArray,eZ ds.toList x'.cells.toList (pl.base+i*pl.size+off) _ (by rw[hul,hsz];omega),hul,hsz]at hu
      simp only[]at hu
      rw[List.getElem?_set]at hq
      split at hq
      ·rename_i hqi
       subst hqi
       cases hq
       have hjr:=ax hj
       have hjl:j<r.length:=by simp[bJ]at hjr;omega
       unfold bJ at hj
       rw[eZ _ _ _ _ (by omega)]at hj
       by_cases h1:j<off
       ·rw[if_pos h1]at hj
        rw[if_pos (by omega),Array.getElem?_toList]at hu
        exact g2.rep i r j a u hr hj hu
       ·rw[if_neg h1]at hj
        by_cases h2:j<off+cs.length
        ·rw[if_pos h2]at hj
         rw[if_neg (by omega),if_pos (by omega)]at hu
         refine hreps.2 (j-off) a u hj ?_
         rw[←hu]
         congr 1
         omega
        ·rw[if_neg h2]at hj
         rw[if_neg (by omega),if_neg (by omega),Array.getElem?_toList]at hu
         exact g2.rep i r j a u hr hj hu
      ·rename_i hqi
       have hjs:j<y.size:=by rw[←g2.even q s hq];exact ax hj
       refine g2.rep q s j a u hq hj ?_
       rcases Nat.lt_or_gt_of_ne hqi with hlt | hlt
       ·have:(i+1)*y.size≤q*y.size:=Nat.mul_le_mul_right _ hlt
        rw[Nat.add_mul]at this
        rw[if_neg (by omega),if_neg (by omega),Array.getElem?_toList]at hu
        exact hu
       ·have:(q+1)*y.size≤i*y.size:=Nat.mul_le_mul_right _ hlt
        rw[Nat.add_mul]at this
        rw[if_pos (by omega),Array.getElem?_toList]at hu
        exact hu
    ·cases h
   ·cases h
  ·cases h
 ·cases h
end
end Go.Proofs.YtljkdffikfkcgaaGreat.Am
end
section
namespace Go.Proofs.YtljkdffikfkcgaaGreat.Am
section
variable {P:Program} {w:World} {σ:bz} {T:Nat→Prop} {H:ah} {b:Nat}
theorem ki{n:Nat}{ρ:Operand→AV}{ρ':Operand→Value}(hρ:∀x,bq w σ T (ρ x) (ρ' x)):∀(ps:List (Nat×Operand)) (rows r:List (List AV)) (cells':Array Value),
  Flat w σ T rows n cells'.toList→db n rows (ps.map fun p=>(p.1,ρ p.2))=some r→
  ∃r':Array Value,Instr.fill (fun i=>some (i*n,n)) cells' (ps.map fun p=>(p.1,ρ' p.2))=some r'∧Flat w σ T r n r'.toList∧r.length=rows.length
 | [],rows,r,cells',hc,h=>by cases h;exact⟨cells',rfl,hc,rfl⟩
 | (i,x)::ps,rows,r,cells',hc,h=>by
  simp only[List.map_cons,db]at h
  split at h
  ·rename_i cs hcs
   split at h
   ·rename_i hl
    obtain⟨hl1,hl2,_⟩:=hl
    have hx:=(hρ x).cells hcs
    have e1:(ρ' x).cells.size=n:=by rw[←Array.length_toList,←hx.1,hl1]
    have e2:cells'.size=rows.length*n:=by rw[←Array.length_toList,hc.len]
    have hin:i*n+n≤rows.length*n:=by
     have:(i+1)*n≤rows.length*n:=Nat.mul_le_mul_right _ hl2
     rw[Nat.add_mul]at this
     omega
    have hfold:((ρ' x).cells.zipIdx.foldl (fun(cs:Array Value) (p:Value×Nat)=>cs.setIfInBounds (i*n+p.2) p.1) cells').toList=cells'.toList.take (i*n)++(ρ' x).cells.toList++cells'.toList.drop (i*n+(ρ' x).cells.toList.length):=by
     have:=sD (ρ' x).cells.toList 0 (i*n) cells' (by simp;omega)
     rw[←Array.foldl_toList,Array.toList_zipIdx]
     simpa using this
    obtain⟨r',h1,h2,h3⟩:=ki hρ ps (rows.set i cs) r _ (by rw[hfold];exact hc.set hl2 hl1 hx) h
    refine⟨r',?_,h2,by simpa using h3⟩
    have hcond:(decide ((ρ' x).cells.size≠n)||decide (i*n+(ρ' x).cells.size > cells'.size))=false:=by simp[e1,e2];omega
    simp only[List.map_cons,Instr.fill,hcond,Bool.false_eq_true,if_false]
    exact h1
   ·cases h
  ·cases h
theorem BR{x:Blk}{cs:Array Value}{e:TypeId}{k cap:Nat}(hk:k≤cap)(hcap:cap≤maxLen)(hs:cap*x.size≤cs.size):
  bq (World.push w (.cells cs e (0,0))) (σ.set b ⟨w.heap.size,0,x.size⟩) (aS (σ.set b ⟨w.heap.size,0,x.size⟩) (H.new b x)) (.sl b 0 k) (.slice (some ⟨w.heap.size,0,none⟩) k cap):=by
 refine bq.sl b 0 k ⟨w.heap.size,0,x.size⟩ _ cap (bz.set_eq _ _ _) hk hcap fun _=>⟨by simp,cs,e,?_,by simpa using hs⟩
 show(w.heap.push _)[w.heap.size]? =_
 simp
theorem ug(hW:bn w σ H)(hb:σ b=none)(hlt:b<H.next){t e:TypeId}{len n:Nat}{ps:Array (Nat×Operand)}{ρ:Operand→AV}{ρ':Operand→Value}(hρ:∀x,bq w σ (aS σ H) (ρ x) (ρ' x))
  {z:List AV} {rows:List (List AV)} (hu:P.underlying t=some (.slice e)) (hn:aU P e=some n) (hz:(dY P e).bind AV.cells? =some z) (hzn:z.length=n) (h0:0<n) (hl:len*n≤2^24)
  (h:db n (List.replicate len z) (ps.toList.map fun p=>(p.1,ρ p.2))=some rows) :
  zn P (Instr.buildSlice t len (ps.map fun(i,x)=>(i,ρ' x))) w σ H b (.sl b 0 len) (H.new b ⟨n,rows⟩):=by
 have hps:(ps.map fun(i,x)=>(i,ρ' x)).toList=ps.toList.map fun p=>(p.1,ρ' p.2):=by simp
 cases hza:dY P e with
 | none=>rw[hza]at hz;cases hz
 | some za=>
  rw[hza]at hz
  simp only[Option.bind_some]at hz
  obtain⟨z',hz1,hz2⟩:=en (P:=P) (w:=w) (σ:=σ) (T:=aS σ H) hza
  have hzr:=hz2.cells hz
  have hlen:len≤2^24:=Nat.le_trans (Nat.le_mul_of_pos_right len h0) hl
  obtain⟨l,e1,e2,e3,_⟩:=Flat.zeros hzr hzn h0 len len (Nat.le_refl _)
  have hfl:Flat w σ (aS σ H) (List.replicate len z) n (l.toArray).toList:=by
   rw[List.take_of_length_le (by omega)]at e3
   exact e3
  obtain⟨r',f1,f2,f3⟩:=ki hρ ps.toList _ rows l.toArray hfl h
  have hr':r'.size=len*n:=by rw[←Array.length_toList,f2.len,f3];simp
  have hrl:rows.length=len:=by simpa using f3
  refine vD hW hb hlt (cs:=r') (e:=e) (v':=.slice (some ⟨w.heap.size,0,none⟩) len len) (l:=r'.toList) ?_ f2 ?_ ?_
  ·simp only[]
   rw[List.take_of_length_le (by rw[Array.length_toList,hr',hrl];exact Nat.le_refl _)]
  ·have hgt:¬len*n > 2^24:=by omega
   simp only[Instr.buildSlice,Sem.run_bind,run_underlying hu,Result.andThen_ok,cg hn]
   rw[if_neg hgt]
   by_cases hz0:len*n=0
   ·have hl0:len=0:=by
     rcases Nat.mul_eq_zero.1 hz0 with h1 | h1
     ·exact h1
     ·omega
    subst hl0
    rw[if_pos hz0]
    have:l=[]:=by cases l with
     | nil=>rfl
     | cons a l=>simp at e2
    subst this
    simp only[Sem.run_bind,Sem.run_pure,Result.andThen_ok,hz0,hps]
    have he:(Array.range 0).map (fun x=>(#[]:Array Value)[x % (#[]:Array Value).size]!)=([]:List Value).toArray:=by simp
    rw[he,f1]
    rfl
   ·rw[if_neg hz0]
    simp only[Sem.run_bind,hz1,Sem.run_pure,Result.andThen_ok,hps]
    rw[e1,f1]
    rfl
  ·exact BR (x:=⟨n,rows⟩) (Nat.le_refl _) (by unfold maxLen;omega) (by rw[hr'];exact Nat.le_refl _)
theorem vE(hW:bn w σ H)(hb:σ b=none)(hlt:b<H.next){t e:TypeId}{n by_ l c:Nat}{x y:AV}{x' y':Value}(hx:bq w σ (aS σ H) x x')(hy:bq w σ (aS σ H) y y')
  {z:List AV} (hu:P.underlying t=some (.slice e)) (hn:aU P e=some n) (hby:gb P e=some by_) (hz:(dY P e).bind AV.cells? =some z) (hl:jI x=some l) (hc:jI y=some c)
  (hzn:z.length=n) (h0:0<n) (hlc:l≤c) (hcm:c≤2^62) (hcb:c*by_≤2^48) :
  zn P (Instr.makeSlice t x' y') w σ H b (.sl b 0 l) (H.new b ⟨n,List.replicate l z⟩):=by
 obtain⟨kl,li,rfl,hl0,rfl⟩:=kg hx hl
 obtain⟨kc,ci,rfl,hc0,rfl⟩:=kg hy hc
 cases hza:dY P e with
 | none=>rw[hza]at hz;cases hz
 | some za=>
  rw[hza]at hz
  simp only[Option.bind_some]at hz
  cases hi:P.info? e with
  | none=>simp[gb,hi]at hby
  | some i=>
  have hib:i.bytes=by_:=by simpa[gb,hi]using hby
  obtain⟨z',hz1,hz2⟩:=en (P:=P) (w:=w) (σ:=σ) (T:=aS σ H) hza
  have hzr:=hz2.cells hz
  obtain⟨l,e1,e2,e3,_⟩:=Flat.zeros hzr hzn h0 li.toNat ci.toNat hlc
  have wl:IntKind.i64.wrap li=li:=IntWalk.i64_in _ (by omega)
  have wc:IntKind.i64.wrap ci=ci:=IntWalk.i64_in _ (by omega)
  have hbig:((decide (ci<0)||decide ((i.bytes:Int)*ci > 2^48))||decide (li<0)||decide (li > ci))=false:=by
   rw[hib]
   have:((by_:Int)*ci)=((ci.toNat*by_:Nat):Int):=by rw[Int.natCast_mul,Int.toNat_of_nonneg hc0,Int.mul_comm]
   have h2:((ci.toNat*by_:Nat):Int)≤2^48:=by exact_mod_cast hcb
   simp only[Bool.or_eq_false_iff,decide_eq_false_iff_not]
   refine⟨⟨⟨by omega,by rw[this];omega⟩,by omega⟩,by omega⟩
  refine vD hW hb hlt (x:=⟨n,List.replicate li.toNat z⟩) (cs:=l.toArray) (e:=e) (v':=.slice (some ⟨w.heap.size,0,none⟩) li.toNat ci.toNat) (l:=l.take (li.toNat*n)) ?_ e3 ?_ ?_
  ·simp
  ·simp only[Instr.makeSlice,asInt,asIntOf,Sem.run_bind,run_underlying hu,Sem.run_pure,Result.andThen_ok,qj hi,wl,wc,hbig,Bool.false_eq_true,if_false,run_askRoom,cg hn]
   by_cases hz0:ci.toNat*n=0
   ·rw[if_pos hz0]
    have hnil:l=[]:=by cases l with
     | nil=>rfl
     | cons a l=>simp at e2;omega
    subst hnil
    simp only[Sem.run_bind,Sem.run_pure,Result.andThen_ok,hz0]
    have he:(Array.range 0).map (fun x=>(#[]:Array Value)[x % (#[]:Array Value).size]!)=([]:List Value).toArray:=by simp
    rw[he]
    rfl
   ·rw[if_neg hz0]
    simp only[Sem.run_bind,hz1,Sem.run_pure,Result.andThen_ok]
    rw[e1]
    rfl
  ·exact BR (x:=⟨n,List.replicate li.toNat z⟩) hlc (by unfold maxLen;omega) (by simp[e2])
theorem vF{m:List (List AV)}{n c o:Nat}(he:∀(i:Nat) (r:List AV),m[i]? =some r→r.length=n)(hc:∀(i:Nat) (r:List AV),m[i]? =some r→Ai w σ T r c (o+i*n)):
  ∃l:List Value,(∀w2:World,w2.heap=w.heap→(loadCells ⟨c,o,none⟩ (m.length*n)).run P w2=.ok l.toArray w2)∧Flat w σ T m n l:=by
 have key:∀p,∃u,p<m.length*n→w.cell? ⟨c,o+p,none⟩=some u:=fun p=>by
  by_cases hp:p<m.length*n
  ·have hn:0<n:=by
    rcases Nat.eq_zero_or_pos n with h0 | h0
    ·subst h0;simp at hp
    ·exact h0
   have hi:p / n<m.length:=by rw[Nat.div_lt_iff_lt_mul hn];exact hp
   have hr:m[p / n]? =some m[p / n]:=List.getElem?_eq_getElem hi
   have hj:p % n<m[p / n].length:=by rw[he _ _ hr];exact Nat.mod_lt _ hn
   obtain⟨u,h1,_⟩:=hc _ _ hr (p % n) _ (List.getElem?_eq_getElem hj)
   refine⟨u,fun _=>?_⟩
   rw[Nat.add_assoc,Nat.mul_comm,Nat.div_add_mod]at h1
   exact h1
  ·exact⟨undef,fun h=>absurd h hp⟩
 let f:=fun p=>Classical.choose (key p)
 have hf:∀p,p<m.length*n→w.cell? ⟨c,o+p,none⟩=some (f p):=fun p=>Classical.choose_spec (key p)
 refine⟨(List.range (m.length*n)).map f,fun w2 hw2=>run_loadCells w2 _ _ f (fun j hj=>by rw[dw];rw[←hf j hj];unfold World.cell?;rw[hw2]),⟨by simp,he,?_⟩⟩
 intro i r j a u hr ha hu
 have hj:j<n:=by rw[←he i r hr];exact ax ha
 have hp:=kh (ax hr) hj
 rw[List.getElem?_map,List.getElem?_range hp]at hu
 cases hu
 obtain⟨u,h1,h2⟩:=hc i r hr j a ha
 rw[Nat.add_assoc,hf _ hp]at h1
 cases h1
 exact h2
theorem yH(hW:bn w σ H){n:Nat}{x:AV}{x':Value}{m:List (List AV)}(hx:bq w σ (aS σ H) x x')(h:el H n x=some m):
  ∃(A:Option Addr) (cap:Nat) (l:List Value),x'=.slice A m.length cap∧(∀w2:World,w2.heap=w.heap→(Builtin.firstCells n m.length x').run P w2=.ok l.toArray w2)∧Flat w σ (aS σ H) m n l:=by
 unfold el at h
 split at h
 ·cases h;cases hx;exact⟨none,0,[],rfl,fun _ _=>rfl,Flat.nil n⟩
 ·cases h
  cases hx with
  | emp A=>exact⟨A,0,[],rfl,fun w2 _=>by cases A<;>simp[Builtin.firstCells,loadCells,loadCellsFrom],Flat.nil n⟩
 ·rename_i rows
  split at h
  ·cases h
   obtain⟨A,cap,rfl,_,_,_⟩:=hx.lst_inv
   refine⟨A,cap,[],rfl,?_,Flat.nil n⟩
   intro w2 _
   cases A<;>simp[Builtin.firstCells,loadCells,loadCellsFrom]
  ·rename_i r rs
   split at h
   ·rename_i hr
    cases h
    obtain⟨A,cap,rfl,hn,hm,ha⟩:=hx.lst_inv
    obtain⟨b,o,sz,rfl,hl,hrep⟩:=ha (by simp)
    obtain rfl:r.length=sz:=hl.even 0 r rfl
    subst hr
    obtain⟨l,h1,h2⟩:=vF (P:=P) (o:=o) (c:=b) hl.even (fun i q hq=>hl.row hrep hq)
    exact⟨_,cap,l,rfl,fun w2 hw2=>by simp only[Builtin.firstCells];exact h1 w2 hw2,h2⟩
   ·cases h
 ·rename_i b' i k
  split at h
  ·rename_i y hy
   split at h
   ·rename_i hcond
    obtain⟨hsz,hik⟩:=hcond
    cases h
    obtain⟨pl,a,cap,rfl,hs,hn,hm,ha⟩:=hx.sl_inv
    obtain⟨pl',cs',e',g1,g2⟩:=hW.live b' y hy
    rw[hs]at g1
    cases g1
    have hlen:((y.rows.drop i).take k).length=k:=by simp;omega
    rw[hlen]
    have get:∀(q:Nat) (r:List AV),((y.rows.drop i).take k)[q]? =some r→y.rows[i+q]? =some r:=fun q r hq=>by
     have hi:=ax hq
     rw[hlen]at hi
     rwa [List.getElem?_take_of_lt hi,List.getElem?_drop]at hq
    rcases Nat.eq_zero_or_pos k with hk | hk
    ·subst hk
     exact⟨_,cap,[],rfl,fun w2 _=>by simp[Builtin.firstCells,loadCells,loadCellsFrom],by simpa using Flat.nil n⟩
    ·obtain⟨rfl,cs,ty,hc,hr⟩:=ha (by omega)
     obtain⟨l,h1,h2⟩:=vF (P:=P) (w:=w) (σ:=σ) (T:=aS σ H) (m:=(y.rows.drop i).take k) (n:=n) (c:=pl.block) (o:=pl.base+i*pl.size) (fun q r hq=>by rw[←hsz];exact g2.even _ r (get q r hq)) (fun q r hq=>by
      have:=g2.row (get q r hq)
      rw[Nat.add_mul,←Nat.add_assoc]at this
      rwa [g2.size,hsz]at this ⊢)
     rw[hlen]at h1
     exact⟨_,cap,l,rfl,fun w2 hw2=>by simp only[Builtin.firstCells];exact h1 w2 hw2,h2⟩
   ·cases h
  ·cases h
 ·cases h
theorem Flat.ones{rows:List (List AV)}{n:Nat}{l:List Value}(h:Flat w σ T rows n l)(ho:(rows.all fun r=>r.all AV.one)=true):∀u∈l,u.oneCell'=true:=by
 intro u hu
 obtain⟨p,hp,rfl⟩:=List.getElem_of_mem hu
 have hlen:=h.len
 have hn:0<n:=by
  rcases Nat.eq_zero_or_pos n with h0 | h0
  ·subst h0;rw[Nat.mul_zero]at hlen;omega
  ·exact h0
 have hi:p / n<rows.length:=by rw[Nat.div_lt_iff_lt_mul hn];omega
 have hr:rows[p / n]? =some rows[p / n]:=List.getElem?_eq_getElem hi
 have hj:p % n<rows[p / n].length:=by rw[h.even _ _ hr];exact Nat.mod_lt _ hn
 have hrep:=h.rep (p / n) _ (p % n) _ l[p] hr (List.getElem?_eq_getElem hj) (by rw[Nat.mul_comm,Nat.div_add_mod];exact List.getElem?_eq_getElem hp)
 refine hrep.one ?_
 rw[List.all_eq_true]at ho
 have:=ho _ (List.getElem_mem hi)
 rw[List.all_eq_true]at this
 exact this _ (List.getElem_mem hj)
theorem eI{t tx ty e e':TypeId}{n sLen sCap k capx:Nat}{A B:Option Addr}{news:List Value}(ht:P.underlying t=some (.slice e))(htx:P.underlying tx=some (.slice e'))(hn:aU P e=some n)
  (hroom:sLen+k≤sCap) (hc:(Builtin.firstCells n k (.slice B k capx)).run P w=.ok news.toArray w) {w':World} (hst:(match A with | some a=>storeCells (a.add (sLen*n)) news | none=>Pure.pure ()).run P w=.ok () w') :
  (Builtin.append_ #[t,tx] ty #[.slice A sLen sCap,.slice B k capx]).run P w=.ok (.slice A (sLen+k) sCap) w':=by
 cases A with
 | none=>
  simp only[Sem.run_pure]at hst
  cases hst
  simp[Builtin.append_,run_underlying ht,run_underlying htx,cg hn,Builtin.lenOf,hroom,hc]
 | some a=>
  simp only[]at hst
  simp[Builtin.append_,run_underlying ht,run_underlying htx,cg hn,Builtin.lenOf,hroom,hc,hst]
theorem Ar(hW:bn w σ H)(hb:σ b=none)(hlt:b<H.next){t tx ty e':TypeId}{s x v:AV}{s' x':Value}{H':ah}(hx:bq w σ (aS σ H) x x')(hs:bq w σ (aS σ H) s s')
  (htx:P.underlying tx=some (.slice e')) (h:cu P H b t s x=some (v,H')):zn P (Builtin.append_ #[t,tx] ty #[s',x']) w σ H b v H':=by
 unfold cu at h
 split at h
 ·rename_i e hu
  split at h
  ·rename_i n by_ z hn hby hz
   split at h
   ·rename_i l m hl hm
    split at h
    ·rename_i hc
     obtain⟨c1,c2,h0,hzn,hone⟩:=hc
     cases hi:P.info? e with
     | none=>simp[gb,hi]at hby
     | some i=>
     have hib:i.bytes=by_:=by simpa[gb,hi]using hby
     have hin:i.size=n:=by simpa[aU,hi]using hn
     cases hza:dY P e with
     | none=>rw[hza]at hz;cases hz
     | some za=>
     rw[hza]at hz
     simp only[Option.bind_some]at hz
     obtain⟨z',hz1,hz2⟩:=en (P:=P) (w:=w) (σ:=σ) (T:=aS σ H) hza
     have hiz:i.zero=some z':=by
      simp only[zeroValue,Sem.run_bind,qj hi,Result.andThen_ok]at hz1
      split at hz1
      ·rename_i q hq;cases hz1;exact hq
      ·cases hz1
     have hzr:=hz2.cells hz
     obtain⟨A,cap,olds,rfl,ho1,ho2⟩:=yH (P:=P) hW hs hl
     obtain⟨B,capx,news,rfl,hn1,hn2⟩:=yH (P:=P) hW hx hm
     have grow:∀{K:ah},(hWK:bn w σ K)→(hext:ew w σ (aS σ H) w σ (aS σ K))→b<K.next→cap<l.length+m.length→
       zn P (Builtin.append_ #[t,tx] ty #[.slice A l.length cap,.slice B m.length capx]) w σ H b (.sl b 0 (l.length+m.length)) (K.new b ⟨n,l++m⟩):=by
      intro K hWK hext hltK hcap
      have hrun:=run_append_grow_src (P:=P) w t tx ty e i z' hu hi hiz A l.length cap olds (by rw[hin];exact ho1 _ rfl) (.slice B m.length capx) m.length news
       ⟨.inl ⟨e',htx⟩,fun _=>rfl,by rw[hin];exact hn1 w rfl,by rw[hin];exact hn1 _ rfl,by rw[hin];exact hn2.len,hn2.ones hone⟩ hcap (by omega)
       (by rw[hib];have:=Nat.mul_le_mul_right by_ (nextslicecap_le hcap);omega)
      generalize hgc:grownCap w (l.length+m.length) cap e=gc at hrun
      have hgc1:l.length+m.length≤gc∧gc≤maxLen:=by
       rw[←hgc]
       have hcut:grownCap w (l.length+m.length) cap e=(l.length+m.length)+w.tape w.drawn (.appendCap (l.length+m.length) cap e) % (2^63-(l.length+m.length)):=rfl
       rw[hcut]
       unfold maxLen
       have:w.tape w.drawn (.appendCap (l.length+m.length) cap e) % (2^63-(l.length+m.length))<2^63-(l.length+m.length):=Nat.mod_lt _ (by omega)
       omega
      have hE:ew w σ (aS σ H) w.drew σ (aS σ K):=hext.trans (ew.same σ _ rfl rfl rfl rfl)
      have hzs:z'.cells.size=n:=by rw[←Array.length_toList,←hzr.1,hzn]
      have hfl:Flat w σ (aS σ H) (l++m) n (olds++news):=ho2.append hn2
      generalize hcs:((olds++news).toArray++Builtin.zeroCells z'.cells (gc-(l.length+m.length)):Array Value)=cs at hrun
      have hcl:cs.size=gc*n:=by
       rw[←hcs]
       have h1:=hfl.len
       simp only[List.length_append]at h1
       simp only[Array.size_append,List.size_toArray,List.length_append,h1,Builtin.zeroCells,Array.size_map,Array.size_range,hzs]
       rw[←Nat.add_mul]
       congr 1
       omega
      have hcget:∀p u,p<(l++m).length*n→cs[p]? =some u→(olds++news)[p]? =some u:=fun p u hp hu=>by
       rw[←hcs,Array.getElem?_append_left (by simp only[List.size_toArray];rw[hfl.len];exact hp)]at hu
       simpa using hu
      obtain⟨g1,g2⟩:=(hWK.same (w':=w.drew) rfl rfl rfl rfl).new hb hltK (x:=⟨n,l++m⟩) (cs:=cs) (e:=e) hfl.even (by rw[hcl];simp only[List.length_append];exact Nat.mul_le_mul_right _ hgc1.1) (fun i r j a u hr ha hu=>by
       have hj:j<n:=by rw[←hfl.even i r hr];exact ax ha
       exact(hfl.rep i r j a u hr ha (hcget _ u (kh (ax hr) hj) hu)).mono hE)
      refine⟨_,_,_,hrun,?_,g1,hE.trans g2,fun c pl hc=>?_⟩
      ·exact BR (w:=w.drew) (x:=⟨n,l++m⟩) hgc1.1 hgc1.2 (by rw[hcl];exact Nat.le_refl _)
      ·by_cases hbc:b=c
       ·exact .inr hbc.symm
       ·rw[bz.set_ne _ _ hbc]at hc;exact .inl hc
     split at h
     ·
      cases hl
      simp only[List.length_nil]at hs
      cases hs
      split at h
      ·rename_i hm0
       cases h
       refine⟨.slice none 0 0,w,σ,?_,.nils,hW,ew.refl _ _ _,fun c pl hc=>.inl hc⟩
       have:=eI (P:=P) (ty:=ty) (A:=none) (sLen:=0) (sCap:=0) (k:=m.length) hu htx hn (by omega) (hn1 w rfl) (w':=w) rfl
       rw[hm0]at this
       simpa[hm0]using this
      ·rename_i hm0
       cases h
       have:=grow hW (ew.refl _ _ _) hlt (by simp;omega)
       simpa using this
     ·
      cases hl
      simp only[List.length_nil]at hs
      cases hs
      split at h
      ·rename_i hm0
       cases h
       refine⟨.slice A 0 0,w,σ,?_,.emp A,hW,ew.refl _ _ _,fun c pl hc=>.inl hc⟩
       have hm':m=[]:=by cases m with
        | nil=>rfl
        | cons x m=>simp at hm0
       have hnews:news=[]:=by have:=hn2.len;rw[hm']at this;simpa using this
       have:=eI (P:=P) (ty:=ty) (A:=A) (sLen:=0) (sCap:=0) (k:=m.length) hu htx hn (by omega) (hn1 w rfl) (w':=w) (by rw[hnews];cases A<;>rfl)
       rw[hm0]at this
       simpa[hm0]using this
      ·rename_i hm0
       cases h
       have:=grow hW (ew.refl _ _ _) hlt (by simp;omega)
       simpa using this
     ·rename_i b' i k
      cases h
      obtain⟨pl,a,cap',heq,hsig,hk,hcm,ha⟩:=hs.sl_inv
      simp only[Value.slice.injEq]at heq
      obtain⟨rfl,hkl,rfl⟩:=heq
      simp only[el]at hl
      split at hl
      ·rename_i y hy
       split at hl
       ·rename_i hcond
        obtain⟨hyn,hik⟩:=hcond
        cases hl
        have hlen:((y.rows.drop i).take k).length=k:=by simp;omega
        obtain⟨pl',ds,e0,q1,q2⟩:=hW.live b' y hy
        rw[hsig]at q1
        cases q1
        have hps:pl.size=n:=q2.size.trans hyn
        have hget:∀(q:Nat) (r:List AV),((y.rows.drop i).take k)[q]? =some r→q<k∧y.rows[i+q]? =some r:=fun q r hq=>by
         have hi:=ax hq
         rw[hlen]at hi
         rw[List.getElem?_take_of_lt hi,List.getElem?_drop]at hq
         exact⟨hi,hq⟩
        have hfl:Flat w σ (aS σ H) ((y.rows.drop i).take k++m) n (olds++news):=ho2.append hn2
        by_cases hroom:((y.rows.drop i).take k).length+m.length≤cap
        ·
         by_cases hc0:cap=0
         ·subst hc0
          have hm0:m.length=0:=by omega
          have hk0:k=0:=by omega
          have hlk:((y.rows.drop i).take k)=[]:=by rw[hk0];simp
          have hm':m=[]:=by cases m with
           | nil=>rfl
           | cons x m=>simp at hm0
          have hnews:news=[]:=by have:=hn2.len;rw[hm']at this;simpa using this
          have hrun:=eI (P:=P) (ty:=ty) (A:=some a) hu htx hn hroom (hn1 w rfl) (w':=w) (by rw[hnews];rfl)
          obtain⟨o1,o2⟩:=hW.over (k:=0) hy hsig hb hlt (iH.refl q2.block) (x':=⟨n,(y.rows.drop i).take k++m⟩) hps.symm hfl.even (by rw[hlk,hm'];have:=q2.room;simp;omega) (by rw[hlk,hm'];intro i r j a u hr;simp at hr)
          refine⟨_,_,_,hrun,?_,o1,o2,fun c pl hc=>?_⟩
          ·exact bq.sl b 0 _ _ a 0 (bz.set_eq _ _ _) hroom (by omega) (by omega)
          ·by_cases hbc:b=c
           ·exact .inr hbc.symm
           ·rw[bz.set_ne _ _ hbc]at hc;exact .inl hc
         ·obtain⟨rfl,cs,ty',hcb,hcr⟩:=ha (by omega)
          rw[q2.block]at hcb
          cases hcb
          have hnl:news.length=m.length*n:=hn2.len
          have hcap:(k+m.length)*n≤cap*n:=Nat.mul_le_mul_right _ (by omega)
          have hbound:pl.base+i*pl.size+k*n+news.length≤ds.size:=by
           rw[hnl,hps]
           rw[hps,Nat.add_mul]at hcr
           rw[Nat.add_mul]at hcap
           omega
          have hst:=run_storeCells_at (P:=P) pl.block (pl.base+i*pl.size+k*n) e0 news 0 ds w q2.block (by simpa using hbound) (hn2.ones hone)
          simp only[Nat.add_zero]at hst
          have hw:iH w (w.setRow pl.block (ds.toList.take (pl.base+i*pl.size+k*n)++news++ds.toList.drop (pl.base+i*pl.size+k*n+news.length)).toArray) pl.block ds _ e0:=
           ⟨rfl,rfl,rfl,by simp,q2.block,setRow_heap w _ _ _ _ _ q2.block,by
            simp only[List.size_toArray,List.length_append,List.length_take,List.length_drop,Array.length_toList]
            rw[Nat.min_eq_left (by omega)]
            omega,fun d hd=>setRow_other w _ d _ hd⟩
          have hrun:=eI (P:=P) (ty:=ty) (A:=some ⟨pl.block,pl.base+i*pl.size,none⟩) hu htx hn hroom (hn1 w rfl) (by simp only[dw];rw[hlen];exact hst)
          have hdl:ds.toList.length=ds.size:=Array.length_toList
          obtain⟨o1,o2⟩:=hW.over (k:=i) hy hsig hb hlt hw (x':=⟨n,(y.rows.drop i).take k++m⟩) hps.symm hfl.even (by
           simp only[List.length_append,hlen]
           rw[Nat.add_mul]
           omega) (fun q r j a u hr hj hu=>by
           simp only[]at hr hu
           have hjn:j<n:=by rw[←hfl.even q r hr];exact ax hj
           rw[List.getElem?_toArray,eZ ds.toList news _ _ (by omega)]at hu
           rcases Nat.lt_or_ge q k with hq | hq
           ·rw[List.getElem?_append_left (by omega)]at hr
            have:=kh hq hjn
            rw[if_pos (by omega),Array.getElem?_toList]at hu
            refine q2.rep (i+q) r j a u (hget q r hr).2 hj ?_
            rw[hyn,←hu,hps]
            congr 1
            rw[Nat.add_mul]
            omega
           ·rw[List.getElem?_append_right (by omega),hlen]at hr
            have hqm:q-k<m.length:=ax hr
            have h1:=kh hqm hjn
            have h2:(q-k)*n+k*n=q*n:=by rw[←Nat.add_mul,Nat.sub_add_cancel hq]
            rw[if_neg (by omega),if_pos (by omega)]at hu
            refine hn2.rep (q-k) r j a u hr hj ?_
            rw[←hu]
            congr 1
            omega)
          refine⟨_,_,_,hrun,?_,o1,o2,fun c pl hc=>?_⟩
          ·refine bq.sl b 0 _ _ _ cap (bz.set_eq _ _ _) hroom hcm fun _=>⟨by simp,_,e0,hw.new,?_⟩
           rw[hw.len]
           simp only[Nat.zero_add]
           rw[Nat.add_mul]at hcr
           omega
          ·by_cases hbc:b=c
           ·exact .inr hbc.symm
           ·rw[bz.set_ne _ _ hbc]at hc;exact .inl hc
        ·
         have hsub:∀c x,(H.put b' none).get c=some x→H.get c=some x:=fun c x hx=>by
          rw[ah.get_put]at hx
          split at hx
          ·cases hx
          ·exact hx
         exact grow (hW.sub hsub (Nat.le_refl _)) (ew.sub hsub) hlt (by omega)
       ·cases hl
      ·cases hl
     ·cases h
    ·cases h
   ·cases h
  ·cases h
 ·cases h
theorem Flat.sub{rows:List (List AV)}{n:Nat}{l:List Value}(h:Flat w σ T rows n l):∀(i:Nat) (r:List AV) (j:Nat) (a:AV) (u:Value),rows[i]? =some r→r[j]? =some a→l[i*n+j]? =some u→bq w σ T a u:=h.rep
theorem As(hW:bn w σ H){c:Nat}{y:Blk}{pl:fo}(hy:H.get c=some y)(hs:σ c=some pl){i:Nat}{rows:List (List AV)}{us:List Value}(hf:Flat w σ (aS σ H) rows y.size us)(hin:i+rows.length≤y.rows.length)(hone:∀u∈us,u.oneCell'=true):
  ∃w',(storeCells ⟨pl.block,pl.base+i*pl.size,none⟩ us).run P w=.ok () w'∧bn w' σ (H.put c (some {y with rows:=y.rows.take i++rows++y.rows.drop (i+rows.length)}))∧ew w σ (aS σ H) w' σ (aS σ (H.put c (some {y with rows:=y.rows.take i++rows++y.rows.drop (i+rows.length)}))):=by
 obtain⟨pl',ds,e,g1,g2⟩:=hW.live c y hy
 rw[hs]at g1
 cases g1
 have hsz:=g2.size
 have hroom:=g2.room
 have hm:(i+rows.length)*y.size≤y.rows.length*y.size:=Nat.mul_le_mul_right _ hin
 have hul:us.length=rows.length*y.size:=hf.len
 rw[Nat.add_mul]at hm
 have hdl:ds.toList.length=ds.size:=Array.length_toList
 have hst:=run_storeCells_at (P:=P) pl.block (pl.base+i*pl.size) e us 0 ds w g2.block (by rw[hul,hsz];omega) hone
 simp only[Nat.add_zero]at hst
 have hw:iH w (w.setRow pl.block (ds.toList.take (pl.base+i*pl.size)++us++ds.toList.drop (pl.base+i*pl.size+us.length)).toArray) pl.block ds _ e:=
  ⟨rfl,rfl,rfl,by simp,g2.block,setRow_heap w _ _ _ _ _ g2.block,by
   simp only[List.size_toArray,List.length_append,List.length_take,List.length_drop,Array.length_toList]
   rw[hsz,Nat.min_eq_left (by omega)]
   omega,fun d hd=>setRow_other w _ d _ hd⟩
 have hlen:(y.rows.take i++rows++y.rows.drop (i+rows.length)).length=y.rows.length:=by
  simp only[List.length_append,List.length_take,List.length_drop];omega
 refine⟨_,hst,hW.put hy hs hw (x':={y with rows:=y.rows.take i++rows++y.rows.drop (i+rows.length)}) hsz.symm ?_ ?_ ?_⟩
 ·intro q s hq
  simp only[]at hq
  rw[eZ _ _ _ _ hin]at hq
  split at hq
  ·exact g2.even q s hq
  ·split at hq
   ·exact hf.even _ s hq
   ·exact g2.even q s hq
 ·simp only[hlen];exact hroom
 ·intro q s j a u hq hj hu
  simp only[]at hq hu
  rw[eZ _ _ _ _ hin]at hq
  rw[List.getElem?_toArray,eZ ds.toList us (pl.base+i*pl.size) _ (by rw[hul,hsz];omega),hul,hsz]at hu
  by_cases h1:q<i
  ·rw[if_pos h1]at hq
   have hjs:j<y.size:=by rw[←g2.even q s hq];exact ax hj
   have:(q+1)*y.size≤i*y.size:=Nat.mul_le_mul_right _ h1
   rw[Nat.add_mul]at this
   rw[if_pos (by omega),Array.getElem?_toList]at hu
   exact g2.rep q s j a u hq hj hu
  ·rw[if_neg h1]at hq
   have h1':i*y.size≤q*y.size:=Nat.mul_le_mul_right _ (by omega)
   by_cases h2:q<i+rows.length
   ·rw[if_pos h2]at hq
    have hjs:j<y.size:=by rw[←hf.even _ s hq];exact ax hj
    have:(q+1)*y.size≤(i+rows.length)*y.size:=Nat.mul_le_mul_right _ h2
    rw[Nat.add_mul,Nat.add_mul]at this
    rw[if_neg (by omega),if_pos (by omega)]at hu
    refine hf.rep (q-i) s j a u hq hj ?_
    rw[←hu]
    congr 1
    rw[Nat.sub_mul]
    omega
   ·rw[if_neg h2]at hq
    have:(i+rows.length)*y.size≤q*y.size:=Nat.mul_le_mul_right _ (by omega)
    rw[Nat.add_mul]at this
    rw[if_neg (by omega),if_neg (by omega),Array.getElem?_toList]at hu
    exact g2.rep q s j a u hq hj hu
theorem BS{b:Nat}(hW:bn w σ H){t ty:TypeId}{x:AV}{x':Value}{H':ah}(hx:bq w σ (aS σ H) x x')(h:dO P H t x=some H'):
  zn P (Builtin.clear_ #[t] ty #[x']) w σ H b (.tup []) H':=by
 unfold dO at h
 split at h
 ·rename_i e hu
  split at h
  ·rename_i n z hn hz
   split at h
   ·cases h
    cases hx
    exact⟨.tuple #[],w,σ,by simp[Builtin.clear_,run_underlying hu],.tup [] [] rfl (by simp),hW,ew.refl _ _ _,fun c pl hc=>.inl hc⟩
   ·rename_i c i k
    split at h
    ·rename_i y hy
     split at h
     ·rename_i hcond
      obtain⟨⟨q1,q2⟩,⟨q3,q4⟩,q5⟩:=hcond
      cases h
      obtain⟨pl,ad,cap,rfl,hsg,hnc,hmx,ha⟩:=hx.sl_inv
      rcases Nat.eq_zero_or_pos k with rfl | hk
      ·have e0:y.rows.take i++List.replicate 0 z++y.rows.drop (i+0)=y.rows:=by simp
       obtain⟨pl',ds,e',g1,g2⟩:=hW.live c y hy
       rw[hsg]at g1
       cases g1
       have hput:=hW.put hy hsg (iH.refl g2.block) (x':={y with rows:=y.rows.take i++List.replicate 0 z++y.rows.drop (i+0)}) g2.size.symm (by simp only[e0];exact g2.even) (by simp only[e0];exact g2.room) (by simp only[e0];exact g2.rep)
       exact⟨.tuple #[],w,σ,by simp[Builtin.clear_,run_underlying hu],.tup [] [] rfl (by simp),hput.1,hput.2,fun c pl hc=>.inl hc⟩
      ·obtain⟨rfl,cs,te,hcs,hroom⟩:=ha (by omega)
       cases hz0:dY P e with
       | none=>rw[hz0]at hz;cases hz
       | some z0=>
        rw[hz0]at hz
        obtain⟨z',h1,h2⟩:=en (P:=P) (w:=w) (σ:=σ) (T:=aS σ H) hz0
        have hr:=h2.cells hz
        obtain⟨l,hl1,hl2,hl3,hl4⟩:=Flat.zeros (zs:=z'.cells) hr q2 q3 k k (Nat.le_refl _)
        rw[List.take_of_length_le (by omega)]at hl3
        have hlz:(Builtin.zeroCells z'.cells k).toList=l:=by
         have hzs:z'.cells.size=n:=by rw[←Array.length_toList,←hr.1,q2]
         have:Builtin.zeroCells z'.cells k=l.toArray:=by
          rw[←hl1,←hzs]
          rfl
         rw[this]
        subst q1
        have hfl:Flat w σ (aS σ H) (List.replicate k z) y.size l:=hl3
        have hones:∀u∈l,u.oneCell'=true:=fun u hu'=>by
         obtain⟨a,ha1,ha2⟩:=hl4 u hu'
         exact ha1.one (List.all_eq_true.1 q5 a ha2)
        obtain⟨w',g1,g2,g3⟩:=As (P:=P) hW hy hsg hfl (by simpa using q4) hones
        simp only[List.length_replicate]at g2 g3
        refine⟨.tuple #[],w',σ,?_,.tup [] [] rfl (by simp),g2,g3,fun c pl hc=>.inl hc⟩
        have hk0:k≠0:=by omega
        obtain⟨k',rfl⟩:∃k',k=k'+1:=⟨k-1,by omega⟩
        simp[Builtin.clear_,run_underlying hu,h1,hlz,g1]
     ·cases h
    ·cases h
   ·cases h
  ·cases h
 ·cases h
end
end Go.Proofs.YtljkdffikfkcgaaGreat.Am
end
section
namespace Go.Proofs.YtljkdffikfkcgaaGreat.Am
set_option linter.unusedVariables false
section
variable {P:Program} {F:TypeId→Option (List TypeId)} {w:World} {σ:bz} {H:ah} {b:Nat}
def bB(P:Program)(s:Sem Next)(w:World)(σ:bz)(H:ah)(b:Nat)(v:AV)(H':ah):Prop:=
 ∃v' w' σ',(s.run P w=.ok (.value v') w'∨(s.run P w=.ok .skip w'∧v'=undef))∧bq w' σ' (aS σ' H') v v'∧bn w' σ' H'∧ew w σ (aS σ H) w' σ' (aS σ' H')∧∀c pl,σ' c=some pl→σ c=some pl∨c=b
theorem bB.of_done{s:Sem Value}{v:AV}{H':ah}(h:zn P s w σ H b v H'):bB P (do pure (.value (←s))) w σ H b v H':=by
 obtain⟨v',w',σ',h1,h2⟩:=h
 exact⟨v',w',σ',.inl (by simp[h1]),h2⟩
theorem bB.of_val{s:Sem Value}{v:AV}(hW:bn w σ H)(h:∃v',s.run P w=.ok v' w∧bq w σ (aS σ H) v v'):bB P (do pure (.value (←s))) w σ H b v H:=by
 obtain⟨v',h1,h2⟩:=h
 exact⟨v',w,σ,.inl (by simp[h1]),h2,hW,ew.refl _ _ _,fun c pl hc=>.inl hc⟩
theorem bB.pure{s:Sem Next}{v:AV}{v':Value}(hW:bn w σ H)(h:s.run P w=.ok (.value v') w)(hr:bq w σ (aS σ H) v v'):bB P s w σ H b v H:=
 ⟨v',w,σ,.inl h,hr,hW,ew.refl _ _ _,fun c pl hc=>.inl hc⟩
theorem eJ{r:Option AV}{v:AV}{H H':ah}(h:(r.map fun x=>fJ.val x H)=some (.val v H')):r=some v∧H'=H:=by
 cases r with
 | none=>cases h
 | some x=>simp only[Option.map_some,Option.some.injEq,fJ.val.injEq]at h;exact⟨by rw[h.1],h.2.symm⟩
theorem HX{ρ:Operand→AV}{ρ':Operand→Value}(hρ:∀x,bq w σ (aS σ H) (ρ x) (ρ' x))(x:Option Operand):BO w σ (aS σ H) (x.map ρ) (x.map ρ'):=by
 cases x with
 | none=>trivial
 | some a=>exact hρ a
theorem lg{α β:Type}{f:α→β}{l:List α}{x:β}(h:l.map f=[x]):∃a,l=[a]∧f a=x:=by
 match l,h with
 | [a],h=>exact⟨a,rfl,by simpa using h⟩
 | [],h=>simp at h
 | _::_::_,h=>simp at h
theorem lh{α β:Type}{f:α→β}{l:List α}{x y:β}(h:l.map f=[x,y]):∃a b,l=[a,b]∧f a=x∧f b=y:=by
 match l,h with
 | [a,b],h=>exact⟨a,b,rfl,by simpa using h⟩
 | [],h=>simp at h
 | [_],h=>simp at h
 | _::_::_::_,h=>simp at h
theorem xU(hW:bn w σ H)(hb:σ b=none)(hlt:b<H.next){ρ:Operand→AV}{ρ':Operand→Value}(hρ:∀x,bq w σ (aS σ H) (ρ x) (ρ' x)){op:Builtin}{args:List Operand}{types:List TypeId}{ty:TypeId}{cn:Array Bool}{v:AV}{H':ah}
  (h:aV P H b op types.toArray (args.map ρ)=some (v,H')):bB P (builtin op types.toArray ty cn (args.toArray.map ρ')) w σ H b v H':=by
 unfold aV at h
 split at h
 ·rename_i s heq
  obtain⟨a0,rfl,h0⟩:=lg heq
  split at h
  ·rename_i hty
   cases h
   have hr:=hρ a0
   rw[h0]at hr
   generalize he:ρ' a0=x' at hr
   cases hr with
   | str ba=>
   have hlen:ba.data.toList.length=ba.size:=Array.length_toList
   cases htt:types[0]? with
   | none=>simp[htt]at hty
   | some t=>
   have hu:P.underlying t=some .string:=by simpa[htt]using hty
   refine bB.pure hW (v':=.int .i64 ba.size) ?_ (by rw[hlen];exact .int _ _)
   simp[builtin,Builtin.len_,htt,he,run_underlying hu,goInt]
  ·cases h
 ·rename_i x hne heq
  obtain⟨a0,rfl,h0⟩:=lg heq
  have hr:=hρ a0
  rw[h0]at hr
  cases htt:types[0]? with
  | none=>simp[htt]at h
  | some t=>
   simp only[List.getElem?_toArray,htt,Option.bind_some]at h
   split at h
   ·rename_i e hu
    cases hl:BM x with
    | none=>rw[hl]at h;cases h
    | some n=>
     rw[hl]at h
     cases h
     have hv:∃A c,ρ' a0=.slice A n c:=by
      unfold BM at hl
      split at hl
      ·cases hl;generalize ρ' a0=y at hr;cases hr;exact⟨_,_,rfl⟩
      ·cases hl;generalize ρ' a0=y at hr;cases hr;exact⟨_,_,rfl⟩
      ·cases hl;obtain⟨A,c,h1,_⟩:=hr.lst_inv;exact⟨A,c,h1⟩
      ·cases hl;obtain⟨_,a,c,h1,_⟩:=hr.sl_inv;exact⟨_,c,h1⟩
      ·cases hl
     obtain⟨A,c,hv⟩:=hv
     refine bB.pure hW (v':=.int .i64 n) ?_ (.int _ _)
     simp[builtin,Builtin.len_,htt,hv,run_underlying hu,goInt]
   ·rename_i n e hu
    cases h
    refine bB.pure hW (v':=.int .i64 n) ?_ (.int _ _)
    simp[builtin,Builtin.len_,htt,run_underlying hu,goInt]
   ·cases h
 ·rename_i s x heq
  obtain⟨a0,a1,rfl,h0,h1⟩:=lh heq
  split at h
  ·rename_i t tx htt
   split at h
   ·rename_i e' hu
    simp only[]at htt
    subst htt
    have hs:=hρ a0
    have hx:=hρ a1
    rw[h0]at hs
    rw[h1]at hx
    have:=bB.of_done (Ar (ty:=ty) hW hb hlt hx hs hu h)
    simpa[builtin]using this
   ·cases h
  ·cases h
 ·rename_i k a k' c heq
  obtain⟨a0,a1,rfl,h0,h1⟩:=lh heq
  split at h
  ·rename_i hk
   subst hk
   cases h
   have hs:=hρ a0
   have hx:=hρ a1
   rw[h0]at hs
   rw[h1]at hx
   generalize e0:ρ' a0=y0 at hs
   generalize e1:ρ' a1=y1 at hx
   cases hs
   cases hx
   exact bB.pure hW (v':=.int k (if c<a then c else a)) (by simp[builtin,Builtin.min_,Builtin.min2,e0,e1]) (.int _ _)
  ·cases h
 ·rename_i k a k' c heq
  obtain⟨a0,a1,rfl,h0,h1⟩:=lh heq
  split at h
  ·rename_i hk
   subst hk
   cases h
   have hs:=hρ a0
   have hx:=hρ a1
   rw[h0]at hs
   rw[h1]at hx
   generalize e0:ρ' a0=y0 at hs
   generalize e1:ρ' a1=y1 at hx
   cases hs
   cases hx
   exact bB.pure hW (v':=.int k (if c > a then c else a)) (by simp[builtin,Builtin.max_,Builtin.max2,e0,e1]) (.int _ _)
  ·cases h
 ·rename_i x heq
  obtain⟨a0,rfl,h0⟩:=lg heq
  split at h
  ·rename_i t htt
   simp only[]at htt
   subst htt
   cases hc:dO P H t x with
   | none=>rw[hc]at h;cases h
   | some K=>
    rw[hc]at h
    cases h
    have hx:=hρ a0
    rw[h0]at hx
    have:=bB.of_done (BS (ty:=ty) (b:=b) hW hx hc)
    simpa[builtin]using this
  ·cases h
 ·cases h
theorem yI(fit:Fit P F)(hW:bn w σ H)(hb:σ b=none)(hlt:b<H.next){o:Oper}{ρ:Operand→AV}{ρ':Operand→Value}(hρ:∀x,bq w σ (aS σ H) (ρ x) (ρ' x)){v:AV}{H':ah}
  (h:aX P F o.op ρ b H=some (.val v H')):bB P (execOp ρ' o) w σ H b v H':=by
 obtain⟨dst,op,ty,pos,after,guard⟩:=o
 simp only[]at h
 cases op with
 | move x=>simp only[aX,Option.some.injEq,fJ.val.injEq]at h;obtain⟨rfl,rfl⟩:=h;exact bB.pure hW rfl (hρ x)
 | assign x=>simp only[aX,Option.some.injEq,fJ.val.injEq]at h;obtain⟨rfl,rfl⟩:=h;exact bB.pure hW rfl (hρ x)
 | pick c x y=>
  simp only[aX]at h
  split at h
  ·rename_i t hc
   simp only[Option.some.injEq,fJ.val.injEq]at h
   obtain⟨rfl,rfl⟩:=h
   have:=hρ c
   rw[hc]at this
   generalize hc':ρ' c=c' at this
   cases this
   refine bB.pure hW (v':=if t then ρ' x else ρ' y) (by simp[execOp,hc',asBool]) ?_
   cases t
   ·exact hρ y
   ·exact hρ x
  ·cases h
 | alloc t=>
  simp only[aX]at h
  split at h
  ·rename_i cs hcs
   simp only[Option.some.injEq,fJ.val.injEq]at h
   obtain⟨rfl,rfl⟩:=h
   exact bB.of_done (BP hW hb hlt hcs)
  ·cases h
 | box t x=>
  simp only[aX]at h
  split at h
  ·rename_i cs hcs
   split at h
   ·simp only[Option.some.injEq,fJ.val.injEq]at h
    obtain⟨rfl,rfl⟩:=h
    exact bB.of_done (Aq hW hb hlt (hρ x) hcs)
   ·cases h
  ·cases h
 | build t parts=>simp only[aX]at h;obtain⟨h1,rfl⟩:=eJ h;exact bB.of_val hW (Ap hρ h1)
 | buildSlice t len parts=>
  simp only[aX]at h
  split at h
  ·rename_i e hu
   split at h
   ·rename_i n z hn hz
    split at h
    ·rename_i hc
     obtain⟨c1,c2,c3⟩:=hc
     cases hf:db n (List.replicate len z) (parts.toList.map fun p=>(p.1,ρ p.2))with
     | none=>rw[hf]at h;cases h
     | some rows=>
      rw[hf]at h
      simp only[Option.map_some,Option.some.injEq,fJ.val.injEq]at h
      obtain⟨rfl,rfl⟩:=h
      exact bB.of_done (ug hW hb hlt hρ hu hn hz c1 c2 c3 hf)
    ·cases h
   ·cases h
  ·cases h
 | load t a=>simp only[aX]at h;obtain⟨h1,rfl⟩:=eJ h;exact bB.of_val hW (vC hW (hρ a) h1)
 | store t a x=>
  simp only[aX]at h
  cases hs:eH P H t (ρ a) (ρ x)with
  | none=>rw[hs]at h;cases h
  | some K=>
   rw[hs]at h
   simp only[Option.map_some,Option.some.injEq,fJ.val.injEq]at h
   obtain⟨rfl,rfl⟩:=h
   obtain⟨w',h1,h2,h3⟩:=BQ hW (hρ a) (hρ x) hs
   exact⟨undef,w',σ,.inr ⟨by simp[execOp,h1],rfl⟩,.tup [] [] rfl (by simp),h2,h3,fun c pl hc=>.inl hc⟩
 | nilCheck x=>
  simp only[aX]at h
  have hx:=hρ x
  split at h<;>(try (cases h;done))<;>(rename_i heq;simp only[Option.some.injEq,fJ.val.injEq]at h;obtain⟨rfl,rfl⟩:=h;rw[heq]at hx;generalize he:ρ' x=x' at hx;have hx2:=hx;cases hx2;exact bB.pure hW (by simp only[execOp,he];rfl) hx)
 | binOp op t x y yt=>simp only[aX]at h;obtain⟨h1,rfl⟩:=eJ h;exact bB.of_val hW (De fit.flat (hρ x) (hρ y) h1)
 | unOp op t x=>simp only[aX]at h;obtain⟨h1,rfl⟩:=eJ h;exact bB.of_val hW (DZ (hρ x) h1)
 | convert s d x=>simp only[aX]at h;obtain⟨h1,rfl⟩:=eJ h;exact bB.of_val hW (BN (hρ x) h1)
 | makeFunc fn first cap=>
  cases fn with
  | func f=>
   simp only[aX]at h
   split at h
   ·rename_i hf
    simp only[Option.some.injEq,fJ.val.injEq]at h
    obtain⟨rfl,rfl⟩:=h
    have e:first=#[]:=Array.eq_empty_of_size_eq_zero hf
    subst e
    refine bB.pure hW (v':=.func (.func f) #[] (cap.toList.map ρ').toArray) (by simp[execOp,Instr.makeFunc];apply Array.ext';simp) (.fn f _ _ (by simp) fun i a v h1 h2=>?_)
    rw[List.getElem?_map]at h1 h2
    cases hc:cap.toList[i]? with
    | none=>rw[hc]at h1;cases h1
    | some q=>rw[hc]at h1 h2;cases h1;cases h2;exact hρ q
   ·cases h
  | _=>simp[aX]at h
 | makeSlice t l c=>
  simp only[aX]at h
  split at h
  ·rename_i e hu
   split at h
   ·rename_i n by_ z l' c' hn hby hz hl hc
    split at h
    ·rename_i hcond
     obtain⟨c1,c2,c3,c4,c5⟩:=hcond
     simp only[Option.some.injEq,fJ.val.injEq]at h
     obtain⟨rfl,rfl⟩:=h
     exact bB.of_done (vE hW hb hlt (hρ l) (hρ c) hu hn hby hz hl hc c1 c2 c3 c4 c5)
    ·cases h
   ·cases h
  ·cases h
 | slice t x lo hi mx=>
  simp only[aX]at h
  split at h
  ·cases h
  ·rename_i hcond
   obtain⟨h1,rfl⟩:=eJ h
   refine bB.of_val hW (Ao hW (hρ x) (HX hρ lo) (HX hρ hi) (HX hρ mx) (fun hh=>?_) h1)
   cases hi with
   | none=>cases mx with
    | none=>rfl
    | some m=>simp at hcond
   | some q=>simp at hh
 | fieldAddr s x f=>simp only[aX]at h;obtain⟨h1,rfl⟩:=eJ h;exact bB.of_val hW (ue (hρ x) h1)
 | field s x f=>simp only[aX]at h;obtain⟨h1,rfl⟩:=eJ h;exact bB.of_val hW (Ak (hρ x) h1)
 | indexAddr t x ix=>simp only[aX]at h;obtain⟨h1,rfl⟩:=eJ h;exact bB.of_val hW (uf hW (hρ x) (hρ ix) h1)
 | index t x ix=>simp only[aX]at h;obtain⟨h1,rfl⟩:=eJ h;exact bB.of_val hW (Al (hρ x) (hρ ix) h1)
 | extract x i=>
  simp only[aX]at h
  split at h
  ·rename_i vs hx
   obtain⟨h1,rfl⟩:=eJ h
   have:=hρ x
   rw[hx]at this
   generalize he:ρ' x=x' at this
   cases this with
   | tup _ us hl hr=>
   have hi:=ax h1
   have hi':i<us.length:=by omega
   exact bB.pure hW (v':=us[i]) (by simp[execOp,he,Instr.extract,hi']) (hr i v _ h1 (List.getElem?_eq_getElem hi'))
  ·cases h
 | call c=>
  simp only[aX]at h
  obtain⟨callee,args,types⟩:=c
  obtain⟨args⟩:=args
  obtain⟨types⟩:=types
  simp only[]at h
  split at h
  ·rename_i bi
   cases hbi:aV P H b bi types.toArray (args.map ρ)with
   | none=>rw[hbi]at h;cases h
   | some r=>
    obtain⟨v0,K⟩:=r
    rw[hbi]at h
    simp only[Option.map_some,Option.some.injEq,fJ.val.injEq]at h
    obtain⟨rfl,rfl⟩:=h
    have key:∀cn,bB P (builtin bi ⟨types⟩ ty cn ((⟨args⟩:Array Operand).map ρ')) w σ H b v0 K:=fun cn=>xU hW hb hlt hρ hbi
    exact key _
  ·rename_i f
   split at h<;>simp at h
  ·cases h
 | _=>simp[aX]at h
theorem At(fit:Fit P F){o:Oper}{ρ:Operand→AV}{ρ':Operand→Value}(hρ:∀x,bq w σ (aS σ H) (ρ x) (ρ' x)){g:FuncId}{args:List AV}{fn:Func}{c:Code}
  (h:aX P F o.op ρ b H=some (.call g args)) (hg:P.funcs[g]? =some fn) (hc:fn.body=some c) :
  ∃vs:List Value,(execOp ρ' o).run P w=.ok (.enter g vs.toArray) w∧du w σ (aS σ H) args vs:=by
 obtain⟨dst,op,ty,pos,after,guard⟩:=o
 simp only[]at h
 cases op with
 | call c=>
  simp only[aX]at h
  obtain⟨callee,qs,types⟩:=c
  obtain⟨qs⟩:=qs
  simp only[]at h
  split at h
  ·rename_i bi
   cases hbi:aV P H b bi types (qs.map ρ)with
   | none=>rw[hbi]at h;cases h
   | some r=>rw[hbi]at h;cases h
  ·rename_i f
   split at h
   ·rename_i g' cs hf
    simp only[Option.some.injEq,fJ.call.injEq]at h
    obtain⟨rfl,rfl⟩:=h
    have:=hρ f
    rw[hf]at this
    generalize he:ρ' f=f' at this
    cases this with
    | fn _ _ us hl hr=>
    have hnm : ¬ fn.name = "runtime.NumGoroutine" := fit.names _ _ hg
    refine⟨qs.map ρ'++us,?_,by simp[hl],fun i a v h1 h2=>?_⟩
    ·simp[execOp,resolve,he,Deferred.ofValue,invoke,callFunc,hg,hnm,hc]
    ·rcases Nat.lt_or_ge i qs.length with hi | hi
     ·rw[List.getElem?_append_left (by simpa using hi),List.getElem?_map]at h1 h2
      rw[List.getElem?_eq_getElem hi]at h1 h2
      cases h1
      cases h2
      exact hρ _
     ·rw[List.getElem?_append_right (by simpa using hi)]at h1 h2
      simp only[List.length_map]at h1 h2
      exact hr _ a v h1 h2
   ·cases h
  ·cases h
 | makeFunc fn first cap=>cases fn<;>simp only[aX]at h<;>(try split at h)<;>simp at h
 | _=>
  exfalso
  simp only[aX]at h
  repeat' (first | (cases h;done) | (simp at h;done) | split at h)
end
end Go.Proofs.YtljkdffikfkcgaaGreat.Am
end
