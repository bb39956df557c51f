/- A part of the proof; the statement is proved in the last part. -/
import Derived.Calls
import Derived.Orders
import Derived.Below
import Derived.Handy
import Derived.RowKit
import Derived.Laws.Cells
import Derived.Laws.CopyRow
import Derived.Laws.Entries
import Derived.Laws.StructEq
import Derived.Lib.Strings
set_option linter.unusedSimpArgs false
set_option linter.unusedVariables false
section
namespace Go.Proofs.YtelgfgfgghpjgaaGreatDoor.Am
inductive Tr (α:Type) where
 | leaf
 | node (v:Option α) (l r:Tr α)
namespace Tr
variable {α:Type}
def bitsF:Nat→Nat→List Bool
 | 0,_=>[]
 | _+1,0=>[]
 | f+1,n+1=>((n+1) % 2==1)::bitsF f ((n+1) / 2)
def bits(n:Nat):List Bool:=bitsF n n
def getP:Tr α→List Bool→Option α
 | leaf,_=>none
 | node v _ _,[]=>v
 | node _ l r,b::p=>if b then l.getP p else r.getP p
def setP:List Bool→Option α→Tr α→Tr α
 | [],x,leaf=>node x leaf leaf
 | [],x,node _ l r=>node x l r
 | b::p,x,leaf=>if b then node none (setP p x leaf) leaf else node none leaf (setP p x leaf)
 | b::p,x,node v l r=>if b then node v (setP p x l) r else node v l (setP p x r)
theorem getP_leaf(p:List Bool):(leaf:Tr α).getP p=none:=by cases p<;>rfl
theorem getP_setP(p q:List Bool)(x:Option α)(t:Tr α):(setP p x t).getP q=if p=q then x else t.getP q:=by
 induction p generalizing q t with
 | nil=>cases t<;>cases q<;>simp[setP,getP]
 | cons b p ih=>
  cases t<;>cases q<;>cases b<;>simp[setP,getP]
  all_goals (rename_i c q;cases c<;>simp[ih,getP_leaf])
def val:List Bool→Nat
 | []=>0
 | b::p=>(if b then 1 else 0)+2*val p
theorem val_bitsF(f n:Nat)(h:n≤f):val (bitsF f n)=n:=by
 induction f generalizing n with
 | zero=>simp[bitsF,val];omega
 | succ f ih=>
  cases n with
  | zero=>rfl
  | succ n=>
   simp only[bitsF,val]
   rw[ih ((n+1) / 2) (by omega)]
   by_cases h1:(n+1) % 2=1<;>simp[h1]<;>omega
theorem bits_inj{a b:Nat}(h:bits a=bits b):a=b:=by
 have:=congrArg val h
 rwa [bits,bits,val_bitsF _ _ (Nat.le_refl _),val_bitsF _ _ (Nat.le_refl _)]at this
def get(t:Tr α)(n:Nat):Option α:=t.getP (bits n)
def set(t:Tr α)(n:Nat)(x:Option α):Tr α:=setP (bits n) x t
theorem get_set(t:Tr α)(n m:Nat)(x:Option α):(t.set n x).get m=if n=m then x else t.get m:=by
 unfold get set
 rw[getP_setP]
 by_cases h:n=m
 ·subst h;simp
 ·rw[if_neg h,if_neg (fun e=>h (bits_inj e))]
theorem get_leaf(m:Nat):(leaf:Tr α).get m=none:=getP_leaf _
end Tr
end Go.Proofs.YtelgfgfgghpjgaaGreatDoor.Am
end
section
namespace Go.Proofs.YtelgfgfgghpjgaaGreatDoor.Am
inductive AV where
 | int (k:IntKind) (n:Int)
 | bool (b:Bool)
 | str (s:List UInt8)
 | nilp
 | ptr (b i off:Nat)
 | pptr (rows:List (List AV)) (i off:Nat)
 | nils
 | emp
 | sl (b i n:Nat)
 | lst (rows:List (List AV))
 | mp (b:Nat)
 | it (b:Nat)
 | agg (cells:List AV)
 | tup (vs:List AV)
 | fn (f:FuncId) (captured:List AV)
 | nilf
 | junk
 deriving Inhabited
def AV.cells? :AV→Option (List AV)
 | .agg cs=>some cs
 | .junk=>none
 | v=>some [v]
def AV.one:AV→Bool
 | .agg _ | .tup _ | .junk=>false
 | _=>true
def aL{α:Type}:List (Option α)→Option (List α)
 | []=>some []
 | none::_=>none
 | some x::l=>match aL l with
  | some l=>some (x::l)
  | none=>none
def vS:Value→Option AV
 | .int k n=>some (.int k n)
 | .bool b=>some (.bool b)
 | .string s=>some (.str s.data.toList)
 | .pointer none=>some .nilp
 | .slice none 0 0=>some .nils
 | .nilFunc=>some .nilf
 | _=>none
def r9:Value→Option AV
 | .agg cs=>(aL (cs.toList.map vS)).map .agg
 | v=>vS v
structure Blk where
 size:Nat
 rows:List (List AV)
 deriving Inhabited
structure aa where
 next:Nat
 tr:Tr Blk
 log:List Nat
def aa.get(H:aa)(b:Nat):Option Blk:=H.tr.get b
def aa.new(H:aa)(b:Nat)(x:Blk):aa:={H with tr:=H.tr.set b (some x)}
def aa.put(H:aa)(b:Nat)(x:Option Blk):aa:={H with tr:=H.tr.set b x,log:=b::H.log}
inductive ck where
 | val (v:AV) (H:aa)
 | call (f:FuncId) (args:List AV)
section
variable (P:Program)
def au(t:TypeId):Option Nat:=(P.info? t).map (·.size)
def dA(t:TypeId):Option Nat:=(P.info? t).map (·.bytes)
def bH(t:TypeId):Option AV:=(P.info? t).bind fun i=>i.zero.bind r9
def b0(t:TypeId):Option Bool:=(P.underlying t).map fun | .struct _ | .array _ _=>true | _=>false
def cU(t:TypeId)(row:List AV)(off:Nat):Option AV:=
 match b0 P t,au P t with
 | some true,some n=>if off+n≤row.length then some (.agg ((row.drop off).take n))else none
 | some false,some _=>row[off]?
 | _,_=>none
def aP(row:List AV)(off:Nat)(cs:List AV):List AV:=row.take off++cs++row.drop (off+cs.length)
def fN(H:aa)(t:TypeId):AV→Option AV
 | .ptr b i off=>(H.get b).bind fun x=>(x.rows[i]?).bind fun r=>cU P t r off
 | .pptr rows i off=>(rows[i]?).bind fun r=>cU P t r off
 | _=>none
def cq(H:aa)(t:TypeId)(a v:AV):Option aa:=
 match a,v.cells?,au P t with
 | .ptr b i off,some cs,some n=>
  match H.get b with
  | some x=>match x.rows[i]? with
   | some r=>if cs.length=n∧cs.all AV.one∧off+n≤r.length then some (H.put b (some {x with rows:=x.rows.set i (aP r off cs)}))else none
   | none=>none
  | none=>none
 | _,_,_=>none
def js(place:Nat→Option (Nat×Nat))(cells:List AV):List (Nat×AV)→Option (List AV)
 | []=>some cells
 | (i,v)::rest=>
  match place i,v.cells? with
  | some (off,size),some cs=>if cs.length=size∧off+size≤cells.length∧cs.all AV.one then js place (aP cells off cs) rest else none
  | _,_=>none
def bC(size:Nat)(rows:List (List AV)):List (Nat×AV)→Option (List (List AV))
 | []=>some rows
 | (i,v)::rest=>
  match v.cells? with
  | some cs=>if cs.length=size∧i<rows.length∧cs.all AV.one then bC size (rows.set i cs) rest else none
  | none=>none
def fe(fs:Array Field)(i:Nat):Option (Nat×Nat):=(fs[i]?).bind fun f=>(au P f.type).map fun n=>(f.offset,n)
def lK(t:TypeId)(parts:List (Nat×AV)):Option AV:=
 match P.underlying t,bH P t with
 | some (.struct fs),some (.agg z)=>if(fs.toList.all fun f=>(au P f.type).isSome)=true then(js (fe P fs) z parts).map .agg else none
 | some (.array _ e),some (.agg z)=>(au P e).bind fun n=>(js (fun i=>some (i*n,n)) z parts).map .agg
 | _,_=>none
def pX:AV→Option Nat
 | .nils=>some 0
 | .emp=>some 0
 | .lst rows=>some rows.length
 | .sl _ _ n=>some n
 | _=>none
def jt:List UInt8→List UInt8→Bool
 | _,[]=>false
 | [],_::_=>true
 | a::x,b::y=>a<b||(a==b&&jt x y)
def kR(t:TypeId)(x y:AV):Option Bool:=
 match P.underlying t,x,y with
 | some (.int _),.int k a,.int k' b=>if k=k' then some (a==b)else none
 | some .bool,.bool a,.bool b=>some (a==b)
 | some .string,.str a,.str b=>some (a==b)
 | some (.pointer _),.nilp,.nilp=>some true
 | some (.pointer _),.nilp,.ptr .. | some (.pointer _),.ptr ..,.nilp | some (.pointer _),.nilp,.pptr .. | some (.pointer _),.pptr ..,.nilp=>some false
 | some (.slice _),.nils,.nils=>some true
 | some (.slice _),.nils,.sl .. | some (.slice _),.sl ..,.nils | some (.slice _),.nils,.lst (_::_) | some (.slice _),.lst (_::_),.nils=>some false
 | _,_,_=>none
def nY:List TypeId→List AV→List AV→Option Bool
 | [],[],[]=>some true
 | t::ts,a::l,b::m=>match kR P t a b with
  | some true=>nY ts l m
  | r=>r
 | _,_,_=>none
def cX(F:TypeId→Option (List TypeId))(op:BinOp)(t:TypeId)(x y:AV):Option AV:=
 match op,x,y with
 | .shl,.int k a,.int _ b=>if 0≤b then some (.int k (k.wrap (a*2^min b.toNat k.bits)))else none
 | .shr,.int k a,.int _ b=>if 0≤b then some (.int k (a.fdiv (2^min b.toNat k.bits)))else none
 | op,.int k a,.int k' b=>
  if k≠k' then none else
  match op with
  | .add=>some (.int k (k.wrap (a+b)))
  | .sub=>some (.int k (k.wrap (a-b)))
  | .mul=>some (.int k (k.wrap (a*b)))
  | .quo=>if b=0 then none else some (.int k (k.wrap (a.tdiv b)))
  | .rem=>if b=0 then none else some (.int k (a.tmod b))
  | .and=>some (.int k (k.wrap (BitVec.ofInt k.bits a &&& BitVec.ofInt k.bits b).toNat))
  | .or=>some (.int k (k.wrap (BitVec.ofInt k.bits a ||| BitVec.ofInt k.bits b).toNat))
  | .xor=>some (.int k (k.wrap (BitVec.ofInt k.bits a ^^^ BitVec.ofInt k.bits b).toNat))
  | .eql=>some (.bool (a==b))
  | .neq=>some (.bool (a != b))
  | .lss=>some (.bool (decide (a<b)))
  | .leq=>some (.bool (decide (a≤b)))
  | .gtr=>some (.bool (decide (a > b)))
  | .geq=>some (.bool (decide (a≥b)))
  | _=>none
 | op,.str a,.str b=>
  match op with
  | .eql=>some (.bool (a==b))
  | .neq=>some (.bool !(a==b))
  | .lss=>some (.bool (jt a b))
  | .add=>if a.length+b.length≤2^62 then some (.str (a++b))else none
  | _=>none
 | .eql,.agg a,.agg b=>(F t).bind fun ts=>(nY P ts a b).map .bool
 | .neq,.agg a,.agg b=>(F t).bind fun ts=>(nY P ts a b).map fun r=>.bool !r
 | .eql,.bool a,.bool b=>(kR P t (.bool a) (.bool b)).map .bool
 | .neq,.bool a,.bool b=>(kR P t (.bool a) (.bool b)).map fun r=>.bool !r
 | .eql,.nilp,y=>(kR P t .nilp y).map .bool
 | .neq,.nilp,y=>(kR P t .nilp y).map fun r=>.bool !r
 | .eql,x,.nilp=>(kR P t x .nilp).map .bool
 | .neq,x,.nilp=>(kR P t x .nilp).map fun r=>.bool !r
 | .eql,.nils,y=>(kR P t .nils y).map .bool
 | .neq,.nils,y=>(kR P t .nils y).map fun r=>.bool !r
 | .eql,x,.nils=>(kR P t x .nils).map .bool
 | .neq,x,.nils=>(kR P t x .nils).map fun r=>.bool !r
 | _,_,_=>none
def xy(op:UnOp)(x:AV):Option AV:=
 match op,x with
 | .neg,.int k n=>some (.int k (k.wrap (0-n)))
 | .not,.bool b=>some (.bool !b)
 | _,_=>none
def oL(src dst:TypeId)(x:AV):Option AV:=
 match P.underlying src,P.underlying dst,x with
 | some (.int _),some (.int k),.int _ n=>some (.int k (k.wrap n))
 | some .string,some .string,.str s=>some (.str s)
 | _,_,_=>none
def ch(H:aa)(n:Nat):AV→Option (List (List AV))
 | .nils=>some []
 | .emp=>some []
 | .lst rows=>match rows with
  | []=>some []
  | r::l=>if r.length=n then some (r::l)else none
 | .sl b i k=>match H.get b with
  | some x=>if x.size=n∧i+k≤x.rows.length then some ((x.rows.drop i).take k)else none
  | none=>none
 | _=>none
def ff(H:aa):AV→Option Nat
 | .sl b _ _=>(H.get b).map (·.size)
 | _=>none
def bx(sz:Option Nat)(t:TypeId)(x ix:AV):Option AV:=
 match ix with
 | .int _ i=>
  if i<0 then none else
  match P.underlying t,x with
  | some (.slice e),.sl b j n=>if i.toNat<n∧sz.isSome∧au P e=sz then some (.ptr b (j+i.toNat) 0)else none
  | some (.slice e),.lst rows=>match rows[i.toNat]? with
   | some r=>if au P e=some r.length then some (.pptr rows i.toNat 0)else none
   | none=>none
  | some (.array len e),.ptr b j off=>if i.toNat<len then(au P e).map fun n=>.ptr b j (off+i.toNat*n)else none
  | some (.array len e),.pptr rows j off=>if i.toNat<len then(au P e).map fun n=>.pptr rows j (off+i.toNat*n)else none
  | _,_=>none
 | _=>none
def lL(t:TypeId)(x ix:AV):Option AV:=
 match P.underlying t,x,ix with
 | some .string,.str s,.int _ i=>if i<0 then none else(s[i.toNat]?).map fun b=>.int .u8 b.toNat
 | some (.array len e),.agg cs,.int _ i=>if 0≤i∧i.toNat<len then(au P e).bind fun n=>cU P e cs (i.toNat*n)else none
 | _,_,_=>none
def dB(s:TypeId)(x:AV)(f:Nat):Option AV:=
 match P.underlying s with
 | some (.struct fs)=>(fs[f]?).bind fun f=>(au P f.type).bind fun n=>if n=0 then none else
   match x with
   | .ptr b i off=>some (.ptr b i (off+f.offset))
   | .pptr rows i off=>some (.pptr rows i (off+f.offset))
   | _=>none
 | _=>none
def nZ(s:TypeId)(x:AV)(f:Nat):Option AV:=
 match P.underlying s,x with
 | some (.struct fs),.agg cs=>(fs[f]?).bind fun f=>cU P f.type cs f.offset
 | _,_=>none
def ju:AV→Option Nat
 | .int _ i=>if 0≤i then some i.toNat else none
 | _=>none
def bn(x:Option AV)(d:Nat):Option Nat:=
 match x with
 | none=>some d
 | some v=>ju v
def eh(sz:Option Nat)(t:TypeId)(x:AV)(lo hi mx:Option AV):Option AV:=
 match P.underlying t,pX x with
 | some (.slice e),some n=>
  match bn lo 0,bn hi n,bn mx n with
  | some l,some h,some m=>if(l≤h∧h≤m∧m≤n)∧(au P e).isSome=true then
    (match x with
     | .nils=>some .nils
     | .sl b i _=>if sz.isSome∧au P e=sz then some (.sl b (i+l) (h-l))else none
     | .lst rows=>if mx.isSome=true∧m=l then some .emp else match rows with
      | []=>some (.lst [])
      | r::rs=>if au P e=some r.length then some (.lst (((r::rs).drop l).take (h-l)))else none
     | _=>none)else none
  | _,_,_=>none
 | some .string,_=>
  match x,mx with
  | .str s,none=>match bn lo 0,bn hi s.length with
   | some l,some h=>if l≤h∧h≤s.length then some (.str ((s.drop l).take (h-l)))else none
   | _,_=>none
  | _,_=>none
 | _,_=>none
def aV(H:aa)(b:Nat)(t:TypeId)(s x:AV):Option (AV×aa):=
 match P.underlying t with
 | some (.slice e)=>
  match au P e,dA P e,(bH P e).bind AV.cells? with
  | some n,some by_,some z=>match ch H n s,ch H n x with
   | some l,some m=>if 2*(l.length+m.length)*by_≤2^48∧2*(l.length+m.length)≤2^62∧0<n∧z.length=n∧(m.all fun r=>r.all AV.one)=true then
    match s with
    | .nils=>if m.length=0 then some (.nils,H)else some (.sl b 0 m.length,H.new b ⟨n,m⟩)
    | .emp=>if m.length=0 then some (.emp,H)else some (.sl b 0 m.length,H.new b ⟨n,m⟩)
    | .sl b' _ _=>some (.sl b 0 (l.length+m.length),(H.put b' none).new b ⟨n,l++m⟩)
    | _=>none
    else none
   | _,_=>none
  | _,_,_=>none
 | _=>none
def b6(H:aa)(t:TypeId)(x:AV):Option aa:=
 match P.underlying t with
 | some (.slice e)=>
  match au P e,(bH P e).bind AV.cells? with
  | some n,some z=>match x with
   | .nils=>some H
   | .sl c i k=>match H.get c with
    | some y=>if(y.size=n∧z.length=n)∧(0<n∧i+k≤y.rows.length)∧z.all AV.one=true then some (H.put c (some {y with rows:=y.rows.take i++List.replicate k z++y.rows.drop (i+k)}))else none
    | none=>none
   | _=>none
  | _,_=>none
 | _=>none
def av(H:aa)(b:Nat)(op:Builtin)(types:Array TypeId)(args:List AV):Option (AV×aa):=
 match op,args with
 | .len,[.str s]=>match (types[0]?).bind P.underlying with
  | some .string=>some (.int .i64 s.length,H)
  | _=>none
 | .len,[x]=>match (types[0]?).bind P.underlying with
  | some (.slice _)=>(pX x).map fun(n:Nat)=>(.int .i64 (n:Int),H)
  | some (.array n _)=>some (.int .i64 n,H)
  | _=>none
 | .append,[s,x]=>match types.toList with
  | [t,tx]=>match P.underlying tx with
   | some (.slice _)=>aV P H b t s x
   | _=>none
  | _=>none
 | .min,[.int k a,.int k' c]=>if k=k' then some (.int k (if c<a then c else a),H)else none
 | .max,[.int k a,.int k' c]=>if k=k' then some (.int k (if c > a then c else a),H)else none
 | .clear,[x]=>match types.toList with
  | [t]=>(b6 P H t x).map fun H'=>(.tup [],H')
  | _=>none
 | _,_=>none
def jv:List AV→Bool
 | [.str _,_]=>true
 | _=>false
def cI(k:List UInt8):List (List AV)→Nat→Option (Nat×AV)
 | [],_=>none
 | r::l,i=>match r with
  | [.str k',v]=>if k==k' then some (i,v)else cI k l (i+1)
  | _=>cI k l (i+1)
def AV.konst:AV→Bool
 | .int .. | .bool _ | .str _=>true
 | _=>false
def d7(H:aa)(t:TypeId)(m k:AV)(ok:Bool):Option AV:=
 match P.underlying t,m,k with
 | some (.map kt et),.mp b,.str s=>match P.underlying kt,bH P et,H.get b with
  | some .string,some z,some x=>if x.rows.all jv=true then some (match cI s x.rows 0 with
   | some (_,v)=>if ok then .tup [v,.bool true]else v
   | none=>if ok then .tup [z,.bool false]else z)else none
  | _,_,_=>none
 | _,_,_=>none
def bW(H:aa)(t:TypeId)(m k v:AV):Option aa:=
 match P.underlying t,m,k with
 | some (.map kt _),.mp b,.str s=>match P.underlying kt,H.get b with
  | some .string,some x=>if x.rows.all jv=true∧v.konst=true then some (H.put b (some {x with rows:=match cI s x.rows 0 with
   | some (i,_)=>x.rows.set i [.str s,v]
   | none=>x.rows++[[.str s,v]]}))else none
  | _,_=>none
 | _,_,_=>none
def dg(H:aa)(it:AV):Option (AV×aa):=
 match it with
 | .it b=>match H.get b with
  | some x=>match x.rows with
   | [[.str s,.int _ pos]]=>if pos<s.length then
     some (.tup [.bool true,.int .i64 pos,.int .i32 (Utf8.decode ⟨s.toArray⟩ pos.toNat).1],H.put b (some {x with rows:=[[.str s,.int .i64 ((pos.toNat+(Utf8.decode ⟨s.toArray⟩ pos.toNat).2:Nat):Int)]]}))
    else some (.tup [.bool false],H)
   | _=>none
  | none=>none
 | _=>none
def ao(F:TypeId→Option (List TypeId))(o:Op)(ρ:Operand→AV)(b:Nat)(H:aa):Option ck:=
 let v (r:Option AV):Option ck:=r.map fun x=>.val x H
 match o with
 | .move x | .assign x=>some (.val (ρ x) H)
 | .pick c x y=>match ρ c with
  | .bool t=>some (.val (if t then ρ x else ρ y) H)
  | _=>none
 | .alloc t=>match (bH P t).bind AV.cells? with
  | some cs=>some (.val (.ptr b 0 0) (H.new b ⟨cs.length,[cs]⟩))
  | none=>none
 | .box _ x=>match (ρ x).cells? with
  | some cs=>if cs.all AV.one then some (.val (.ptr b 0 0) (H.new b ⟨cs.length,[cs]⟩))else none
  | none=>none
 | .build t parts=>v (lK P t (parts.toList.map fun p=>(p.1,ρ p.2)))
 | .buildSlice t len parts=>match P.underlying t with
  | some (.slice e)=>match au P e,(bH P e).bind AV.cells? with
   | some n,some z=>if z.length=n∧0<n∧len*n≤2^24 then
     (bC n (List.replicate len z) (parts.toList.map fun p=>(p.1,ρ p.2))).map fun rows=>.val (.sl b 0 len) (H.new b ⟨n,rows⟩)
    else none
   | _,_=>none
  | _=>none
 | .load t a=>v (fN P H t (ρ a))
 | .store t a x=>(cq P H t (ρ a) (ρ x)).map fun H=>.val (.tup []) H
 | .nilCheck x=>match ρ x with
  | .ptr b i off=>some (.val (.ptr b i off) H)
  | .pptr rows i off=>some (.val (.pptr rows i off) H)
  | .fn f cs=>some (.val (.fn f cs) H)
  | _=>none
 | .binOp op t x y _=>v (cX P F op t (ρ x) (ρ y))
 | .unOp op _ x=>v (xy op (ρ x))
 | .convert s d x=>v (oL P s d (ρ x))
 | .makeFunc (.func f) first cap=>if first.size=0 then some (.val (.fn f (cap.toList.map ρ)) H)else none
 | .makeSlice t l c=>match P.underlying t with
  | some (.slice e)=>match au P e,dA P e,(bH P e).bind AV.cells?,ju (ρ l),ju (ρ c)with
   | some n,some by_,some z,some l,some c=>if z.length=n∧0<n∧l≤c∧c≤2^62∧c*by_≤2^48 then
     some (.val (.sl b 0 l) (H.new b ⟨n,List.replicate l z⟩))else none
   | _,_,_,_,_=>none
  | _=>none
 | .slice t x lo hi mx=>if hi.isNone&&mx.isSome then none else v (eh P (ff H (ρ x)) t (ρ x) (lo.map ρ) (hi.map ρ) (mx.map ρ))
 | .fieldAddr s x f=>v (dB P s (ρ x) f)
 | .field s x f=>v (nZ P s (ρ x) f)
 | .indexAddr t x ix=>v (bx P (ff H (ρ x)) t (ρ x) (ρ ix))
 | .index t x ix=>v (lL P t (ρ x) (ρ ix))
 | .extract x i=>match ρ x with
  | .tup vs=>v (vs[i]?)
  | _=>none
 | .makeMap _ none=>some (.val (.mp b) (H.new b ⟨0,[]⟩))
 | .lookup t m k ok=>v (d7 P H t (ρ m) (ρ k) ok)
 | .mapUpdate t m k x=>(bW P H t (ρ m) (ρ k) (ρ x)).map fun H=>.val (.tup []) H
 | .range t x=>match P.underlying t,ρ x with
  | some .string,.str s=>some (.val (.it b) (H.new b ⟨0,[[.str s,.int .i64 0]]⟩))
  | _,_=>none
 | .next it true=>(dg H (ρ it)).map fun r=>.val r.1 r.2
 | .call c=>match c.callee with
  | .builtin bi=>(av P H b bi c.argTypes (c.args.toList.map ρ)).map fun r=>.val r.1 r.2
  | .value f=>match ρ f with
   | .fn g cs=>some (.call g (c.args.toList.map ρ++cs))
   | _=>none
  | _=>none
 | _=>none
end
end Go.Proofs.YtelgfgfgghpjgaaGreatDoor.Am
end
section
namespace Go.Proofs.YtelgfgfgghpjgaaGreatDoor.Am
def u5:List Int:=[0,0,0,0,0,0,3,3,4,4,5,6,7,8,9,10,11,12,13,14,15,16,18,19,20,21,22,23,2]
def u6:List (List UInt8):=[[118,97,114],[118,111,108,97,116,105,108,101],[109,117,116,101,120],[114,119,108,111,99,107],[99,111,110,100],[102,117,116,117,114,101],[116,104,114,101,97,100],[105,102],[101,108,115,101],[119,104,105,108,101],[108,111,99,107],[114,101,97,100],[119,114,105,116,101],[116,114,97,110,115,97,99,116,105,111,110],[97,116,111,109,105,99],[119,97,105,116],[110,111,116,105,102,121],[110,111,116,105,102,121,97,108,108],[115,112,97,119,110],[106,111,105,110],[115,101,116],[103,101,116]]
def xz(g:Nat):Option (List AV):=
 if g=0 then some (u5.map fun n=>.int .i64 n)else
 if g=1 then some (u6.map .str)else
 none
def vT(g:Nat):AV:=
 match xz g with
 | some r=>.pptr [r] 0 0
 | none=>.junk
end Go.Proofs.YtelgfgfgghpjgaaGreatDoor.Am
end
section
namespace Go.Proofs.YtelgfgfgghpjgaaGreatDoor.Am
inductive Ex where
 | normal
 | exit (id:Nat)
 | ret
def aA:AV:=.tup []
def dU(τ:List AV):Operand→AV
 | .tmp t=>τ.getD t aA
 | .const v=>(r9 v).getD .junk
 | .global g=>vT g
 | .func f=>.fn f []
def cp(τ:List AV)(dst:Option Tmp)(v:AV):List AV:=
 match dst with
 | some d=>τ.set d v
 | none=>τ
def bl(ops:Array Oper)(o:Oper)(τ:List AV):Option Bool:=
 match o.guard with
 | none=>some true
 | some (j,want)=>match (ops[j]?).bind (·.dst)with
  | some d=>match τ[d]? with
   | some (.bool b)=>some (b==want)
   | some (.tup [])=>some false
   | _=>none
  | none=>none
section
variable (P:Program) (F:TypeId→Option (List TypeId)) (call:FuncId→List AV→aa→Option (AV×aa))
def d8(ops:Array Oper)(base i:Nat)(τ:List AV)(H:aa):Option (List AV×aa):=
 match ops[i]? with
 | none=>none
 | some o=>match bl ops o τ with
  | some true=>match ao P F o.op (dU τ) (base+i) H with
   | some (.val v H')=>some (cp τ o.dst v,H')
   | some (.call f args)=>match call f args H with
    | some (v,H')=>some (cp τ o.dst v,H')
    | none=>none
   | none=>none
  | some false=>some (cp τ o.dst aA,H)
  | none=>none
def fW(ops:Array Oper)(base:Nat):List Nat→List AV→aa→Option (List AV×aa)
 | [],τ,H=>some (τ,H)
 | i::l,τ,H=>match d8 P F call ops base i τ H with
  | some (τ,H)=>fW ops base l τ H
  | none=>none
def ac:AV→List Nat
 | .ptr b _ _ | .sl b _ _ | .mp b | .it b=>[b]
 | _=>[]
def dV:AV→List Nat
 | .sl b _ _=>[b]
 | _=>[]
def ak(o:Op)(ρ:Operand→AV):List Nat:=
 match o with
 | .load _ a=>ac (ρ a)
 | .store _ a _=>ac (ρ a)
 | .indexAddr _ x _=>dV (ρ x)
 | .slice _ x _ _ _=>dV (ρ x)
 | .lookup _ m _ _=>ac (ρ m)
 | .mapUpdate _ m _ _=>ac (ρ m)
 | .next it _=>ac (ρ it)
 | .call c=>match c.callee with
  | .builtin .append=>c.args.toList.flatMap fun x=>ac (ρ x)
  | .builtin .clear=>c.args.toList.flatMap fun x=>ac (ρ x)
  | _=>[]
 | _=>[]
def ai(o:Op)(ρ:Operand→AV):List Nat:=
 match o with
 | .store _ a _=>ac (ρ a)
 | .mapUpdate _ m _ _=>ac (ρ m)
 | .next it _=>ac (ρ it)
 | .call c=>match c.callee with
  | .builtin .append=>(c.args.toList.take 1).flatMap fun x=>ac (ρ x)
  | .builtin .clear=>c.args.toList.flatMap fun x=>ac (ρ x)
  | _=>[]
 | _=>[]
structure iL where
 op:Nat
 reads:List Nat
 writes:List Nat
 made:List Nat
 isCall:Bool
 lo:Nat
 hi:Nat
def apart(l m:List Nat):Bool:=l.all fun x=>!m.contains x
def fO(x y:iL):Bool:=
 !(apart x.writes y.reads&&apart x.writes y.writes&&apart x.reads y.writes&&apart x.made y.reads&&apart x.made y.writes) ||
 (x.isCall&&(y.isCall||!y.writes.isEmpty||y.reads.any fun b=>decide (x.lo≤b)&&decide (b<x.hi)))||(y.isCall&&!x.writes.isEmpty)
def aH:List Oper→List Nat→List Nat
 | [],acc=>acc
 | o::l,acc=>aH l (acc++[o.after.toList.foldl (fun s e=>if Region.binds .any e then s ||| 2^e.on ||| acc.getD e.on 0 else s) 0])
def bj(base mask:Nat):Nat→aa→aa
 | 0,H=>H
 | j+1,H=>bj base mask j (if mask.testBit j then H else {H with tr:=H.tr.set (base+j) none})
def dh(base mask:Nat)(H:aa):Nat→aa→aa
 | 0,K=>K
 | j+1,K=>dh base mask H j (if mask.testBit j then K else {K with tr:=K.tr.set (base+j) (H.tr.get (base+j))})
def az(ops:Array Oper)(base i mask:Nat)(τ:List AV)(H:aa):Option (List AV×aa×Option iL):=
 match ops[i]? with
 | none=>none
 | some o=>match bl ops o τ with
  | some true=>match ao P F o.op (dU τ) (base+i) H with
   | some (.val v H')=>some (cp τ o.dst v,{H' with log:=H.log},some ⟨i,ak o.op (dU τ),ai o.op (dU τ),[base+i],false,0,0⟩)
   | some (.call f args)=>match call f args {bj base mask i H with log:=[]} with
    | some (v,H')=>some (cp τ o.dst v,{dh base mask H i H' with log:=H.log},some ⟨i,[],H'.log.filter (fun c=>((bj base mask i H).get c).isSome),[],true,H.next,H'.next⟩)
    | none=>none
   | none=>none
  | some false=>some (cp τ o.dst aA,H,none)
  | none=>none
def bI(ops:Array Oper)(base:Nat)(before:List Nat):List Nat→List AV→aa→List iL→Option (List AV×aa×List iL)
 | [],τ,H,rs=>some (τ,H,rs)
 | i::l,τ,H,rs=>match az P F call ops base i (before.getD i 0) τ H with
  | some (τ,H,none)=>bI ops base before l τ H rs
  | some (τ,H,some r)=>if rs.all fun x=>(before.getD i 0).testBit x.op||!fO x r then bI ops base before l τ H (r::rs)else none
  | none=>none
def cg(ops:Array Oper)(draw:Bool)(τ:List AV)(H:aa):Option (List AV×aa):=
 let H':={H with next:=H.next+ops.size}
 if draw then match bI P F call ops H.next (aH ops.toList []) (List.range ops.size) τ H' []with
  | some (τ,K,rs)=>some (τ,{K with log:=rs.flatMap (·.writes)++K.log})
  | none=>none
 else fW P F call ops H.next (List.range ops.size) τ H'
def d9(τ:List AV)(H:aa):ResultVar→Option AV
 | .tmp t=>some (τ.getD t aA)
 | .cell a t=>fN P H t (τ.getD a aA)
def eN(τ:List AV)(H:aa)(rs:List ResultVar):Option AV:=
 match aL (rs.map (d9 P τ H))with
 | some [v]=>some v
 | some vs=>some (.tup vs)
 | none=>none
def gu(ex:Code→List AV→aa→Option (Ex×List AV×aa))(g:FuncId)(args:List AV)(H:aa):Option (AV×aa):=
 match P.funcs[g]? with
 | some fn=>match fn.body with
  | some c=>match ex c (args++List.replicate (fn.ntmps-args.length) aA) {H with log:=[]} with
   | some (.exit _,_,_)=>none
   | some (_,τ,H')=>match eN P τ H' fn.results.toList with
    | some v=>some (v,{H' with log:=H'.log.filter (·<H.next)++H.log})
    | none=>none
   | none=>none
  | none=>none
 | none=>none
end
def aa.empty:aa:=⟨0,.leaf,[]⟩
end Go.Proofs.YtelgfgfgghpjgaaGreatDoor.Am
end
section
namespace Go.Proofs.YtelgfgfgghpjgaaGreatDoor.Am
structure aM where
 block:Nat
 base:Nat
 size:Nat
def aM.ok(pl:aM):Prop:=pl.base=0∨0<pl.size
structure aC where
 map:Nat→Option aM
 fr:Nat→Prop
instance:CoeFun aC (fun _=>Nat→Option aM):=⟨aC.map⟩
structure i1(w:World)(T:Nat→Prop)(rows:List (List AV))(b o sz:Nat):Prop where
 out:¬T b
 even:∀(i:Nat) (r:List AV),rows[i]? =some r→r.length=sz
 cell:∀i j,i<rows.length→j<sz→∃u,w.cell? ⟨b,o+i*sz+j,none⟩=some u
 pos:0<sz
 ne:0<rows.length
inductive aw (w:World) (σ:aC) (T:Nat→Prop):AV→Value→Prop where
 | int (k:IntKind) (n:Int):aw w σ T (.int k n) (.int k n)
 | bool (b:Bool):aw w σ T (.bool b) (.bool b)
 | str (s:ByteArray):aw w σ T (.str s.data.toList) (.string s)
 | nilp:aw w σ T .nilp (.pointer none)
 | ptr (b i off:Nat) (pl:aM) (h:σ b=some pl) (hp:pl.ok):aw w σ T (.ptr b i off) (.pointer (some ⟨pl.block,pl.base+i*pl.size+off,none⟩))
 | pptr (rows:List (List AV)) (i off b o sz:Nat) (hl:i1 w T rows b o sz)
   (h:∀(i:Nat) (r:List AV) (j:Nat) (a:AV) (u:Value),rows[i]? =some r→r[j]? =some a→w.cell? ⟨b,o+i*sz+j,none⟩=some u→aw w σ T a u) :
   aw w σ T (.pptr rows i off) (.pointer (some ⟨b,o+i*sz+off,none⟩))
 | nils:aw w σ T .nils (.slice none 0 0)
 | emp (a:Option Addr):aw w σ T .emp (.slice a 0 0)
 | sl (b i n:Nat) (pl:aM) (a:Addr) (cap:Nat) (h:σ b=some pl) (hp:pl.ok) (hn:n≤cap) (hm:cap≤maxLen)
   (ha:0<cap→a=⟨pl.block,pl.base+i*pl.size,none⟩∧∃cs e,w.heap[pl.block]? =some (.cells cs e (0,0))∧pl.base+(i+cap)*pl.size≤cs.size) :
   aw w σ T (.sl b i n) (.slice (some a) n cap)
 | lst0 (a:Option Addr) (cap:Nat) (hm:cap≤maxLen):aw w σ T (.lst []) (.slice a 0 cap)
 | lst (rows:List (List AV)) (b o sz cap:Nat) (hl:i1 w T rows b o sz) (hn:rows.length≤cap) (hm:cap≤maxLen)
   (h:∀(i:Nat) (r:List AV) (j:Nat) (a:AV) (u:Value),rows[i]? =some r→r[j]? =some a→w.cell? ⟨b,o+i*sz+j,none⟩=some u→aw w σ T a u) :
   aw w σ T (.lst rows) (.slice (some ⟨b,o,none⟩) rows.length cap)
 | mp (b:Nat) (pl:aM) (h:σ b=some pl) (hs:pl.size=0) (hb:pl.base=1):aw w σ T (.mp b) (.map (some pl.block))
 | it (b:Nat) (pl:aM) (h:σ b=some pl) (hs:pl.size=0) (hb:pl.base=2):aw w σ T (.it b) (.pointer (some ⟨pl.block,0,none⟩))
 | agg (cs:List AV) (vs:List Value) (hl:cs.length=vs.length) (h:∀(i:Nat) (a:AV) (v:Value),cs[i]? =some a→vs[i]? =some v→aw w σ T a v):aw w σ T (.agg cs) (.agg vs.toArray)
 | tup (cs:List AV) (vs:List Value) (hl:cs.length=vs.length) (h:∀(i:Nat) (a:AV) (v:Value),cs[i]? =some a→vs[i]? =some v→aw w σ T a v):aw w σ T (.tup cs) (.tuple vs.toArray)
 | fn (f:FuncId) (cs:List AV) (vs:List Value) (hl:cs.length=vs.length) (h:∀(i:Nat) (a:AV) (v:Value),cs[i]? =some a→vs[i]? =some v→aw w σ T a v):aw w σ T (.fn f cs) (.func (.func f) #[] vs.toArray)
 | nilf:aw w σ T .nilf .nilFunc
 | junk (v:Value):aw w σ T .junk v
def bk(w:World)(σ:aC)(T:Nat→Prop)(cs:List AV)(vs:List Value):Prop:=
 cs.length=vs.length∧∀(i:Nat) (a:AV) (v:Value),cs[i]? =some a→vs[i]? =some v→aw w σ T a v
def np(σ:aC)(H:aa)(c:Nat):Prop:=∃b x pl,H.get b=some x∧σ b=some pl∧pl.block=c
def aq(σ:aC)(H:aa)(c:Nat):Prop:=σ.fr c∨np σ H c
structure j3(w:World)(σ:aC)(T:Nat→Prop)(x:Blk)(pl:aM)(cs:Array Value)(e:TypeId):Prop where
 size:pl.size=x.size
 block:w.heap[pl.block]? =some (.cells cs e (0,0))
 even:∀(i:Nat) (r:List AV),x.rows[i]? =some r→r.length=x.size
 room:pl.base+x.rows.length*x.size≤cs.size
 rep:∀(i:Nat) (r:List AV) (j:Nat) (a:AV) (u:Value),x.rows[i]? =some r→r[j]? =some a→cs[pl.base+i*x.size+j]? =some u→aw w σ T a u
def oM:Value→Option AV
 | .int k n=>some (.int k n)
 | .bool b=>some (.bool b)
 | .string s=>some (.str s.data.toList)
 | _=>none
def oN(e:MapEntry):Option (List AV):=
 match oM e.key,oM e.val with
 | some k,some v=>some [k,v]
 | _,_=>none
structure jw(w:World)(x:Blk)(pl:aM):Prop where
 size:x.size=0
 psize:pl.size=0
 obj:(pl.base=1∧∃es clk,w.heap[pl.block]? =some (.map es clk)∧es.toList.map oN=x.rows.map some) ∨
  (pl.base=2∧∃(s:ByteArray) (pos:Nat),w.heap[pl.block]? =some (.stringIter s pos)∧x.rows=[[.str s.data.toList,.int .i64 pos]])
def ea(w:World)(σ:aC)(T:Nat→Prop)(x:Blk)(pl:aM)(cs:Array Value)(e:TypeId):Prop:=
 (pl.ok→j3 w σ T x pl cs e)∧(¬pl.ok→jw w x pl)
theorem ea.of{w:World}{σ:aC}{T:Nat→Prop}{x:Blk}{pl:aM}{cs:Array Value}{e:TypeId}(hp:pl.ok)(h:j3 w σ T x pl cs e):ea w σ T x pl cs e:=⟨fun _=>h,fun hn=>absurd hp hn⟩
def de(w:World)(T:Nat→Prop):Prop:=∀g r,xz g=some r→¬T g∧0<r.length∧∀(j:Nat) (a:AV),r[j]? =some a→∃u,w.cell? ⟨g,j,none⟩=some u∧oM u=some a
structure ay(w:World)(σ:aC)(H:aa):Prop where
 named:∀b pl,σ b=some pl→b<H.next
 lt:∀b pl,σ b=some pl→pl.block<w.heap.size
 live:∀b x,H.get b=some x→∃pl cs e,σ b=some pl∧ea w σ (aq σ H) x pl cs e
 apart:∀c,σ.fr c→c<w.heap.size∧¬np σ H c
 inj:∀b b' x x' pl pl',H.get b=some x→H.get b'=some x'→σ b=some pl→σ b'=some pl'→pl.block=pl'.block→b=b'
 glob:de w (aq σ H)
structure bV(w:World)(σ:aC)(T:Nat→Prop)(w':World)(σ':aC)(T':Nat→Prop):Prop where
 os:w'.os=w.os
 tape:w'.tape=w.tape
 output:w'.output=w.output
 size:w.heap.size≤w'.heap.size
 keep:∀c,c<w.heap.size→¬T c→w'.heap[c]? =w.heap[c]?
 shape:∀(c:Nat) (cs:Array Value) (e:TypeId),w.heap[c]? =some (.cells cs e (0,0))→∃cs':Array Value,w'.heap[c]? =some (.cells cs' e (0,0))∧cs'.size=cs.size
 sig:∀b pl,σ b=some pl→σ' b=some pl
 eqfr:σ'.fr=σ.fr
 frame:∀c,σ.fr c→w'.heap[c]? =w.heap[c]?
 own:∀c,T' c→T c∨w.heap.size≤c
theorem bV.refl(w:World)(σ:aC)(T:Nat→Prop):bV w σ T w σ T:=
 ⟨rfl,rfl,rfl,Nat.le_refl _,fun _ _ _=>rfl,fun _ cs _ h=>⟨cs,h,rfl⟩,fun _ _ h=>h,rfl,fun _ _=>rfl,fun _ h=>.inl h⟩
theorem bV.trans{w w' w'':World}{σ σ' σ'':aC}{T T' T'':Nat→Prop}(h:bV w σ T w' σ' T')(k:bV w' σ' T' w'' σ'' T''):bV w σ T w'' σ'' T'' where
 os:=k.os.trans h.os
 tape:=k.tape.trans h.tape
 output:=k.output.trans h.output
 size:=Nat.le_trans h.size k.size
 keep:=fun c hc hT=>by
  have hc':c<w'.heap.size:=Nat.lt_of_lt_of_le hc h.size
  have:¬T' c:=fun ht=>by
   rcases h.own c ht with h1 | h1
   ·exact hT h1
   ·omega
  exact(k.keep c hc' this).trans (h.keep c hc hT)
 shape:=fun c cs e hcs=>by
  obtain⟨cs',h1,h2⟩:=h.shape c cs e hcs
  obtain⟨cs'',h3,h4⟩:=k.shape c cs' e h1
  exact⟨cs'',h3,h4.trans h2⟩
 sig:=fun b pl hb=>k.sig b pl (h.sig b pl hb)
 eqfr:=k.eqfr.trans h.eqfr
 frame:=fun c hc=>(k.frame c (by rw[h.eqfr];exact hc)).trans (h.frame c hc)
 own:=fun c hc=>by
  rcases k.own c hc with h1 | h1
  ·exact h.own c h1
  ·exact .inr (Nat.le_trans h.size h1)
theorem kS{w:World}{b o:Nat}{u:Value}(h:w.cell? ⟨b,o,none⟩=some u):b<w.heap.size:=by
 rcases Nat.lt_or_ge b w.heap.size with hlt | hge
 ·exact hlt
 ·simp[World.cell?,Array.getElem?_eq_none hge]at h
theorem i1.lt{w:World}{T:Nat→Prop}{rows:List (List AV)}{b o sz:Nat}(h:i1 w T rows b o sz):b<w.heap.size:=by
 obtain⟨u,hu⟩:=h.cell 0 0 h.ne h.pos
 exact kS hu
theorem i1.cell_eq{w w':World}{σ σ':aC}{T T':Nat→Prop}{rows:List (List AV)}{b o sz:Nat}(h:i1 w T rows b o sz)(e:bV w σ T w' σ' T')(k:Nat):
  w'.cell? ⟨b,k,none⟩=w.cell? ⟨b,k,none⟩:=
 World.cell?_of_block (w:=w) (w':=w') (a:=⟨b,k,none⟩) (e.keep b h.lt h.out)
theorem i1.mono{w w':World}{σ σ':aC}{T T':Nat→Prop}{rows:List (List AV)}{b o sz:Nat}(h:i1 w T rows b o sz)(e:bV w σ T w' σ' T'):i1 w' T' rows b o sz where
 out:=fun ht=>by
  rcases e.own b ht with h1 | h1
  ·exact h.out h1
  ·have:=h.lt;omega
 even:=h.even
 cell:=fun i j hi hj=>by rw[h.cell_eq e];exact h.cell i j hi hj
 pos:=h.pos
 ne:=h.ne
theorem de.mono{w w':World}{σ σ':aC}{T T':Nat→Prop}(e:bV w σ T w' σ' T')(h:de w T):de w' T':=fun g r hg=>by
 obtain⟨h1,h2,h3⟩:=h g r hg
 obtain⟨u,hu,_⟩:=h3 0 r[0] (List.getElem?_eq_getElem h2)
 have hlt:=kS hu
 refine⟨fun ht=>?_,h2,fun j a hj=>?_⟩
 ·rcases e.own g ht with h4 | h4
  ·exact h1 h4
  ·omega
 ·obtain⟨u,hu,ha⟩:=h3 j a hj
  exact⟨u,by rw[World.cell?_of_block (w:=w) (w':=w') (a:=⟨g,j,none⟩) (e.keep g hlt h1)];exact hu,ha⟩
theorem de.less{w:World}{T T':Nat→Prop}(h:de w T)(hT:∀c,T' c→T c):de w T':=fun g r hg=>⟨fun ht=>(h g r hg).1 (hT g ht),(h g r hg).2⟩
theorem de.rep{w:World}{σ:aC}{T:Nat→Prop}(h:de w T)(g:Nat):aw w σ T (vT g) (.pointer (some ⟨g,0,none⟩)):=by
 unfold vT
 cases hg:xz g with
 | none=>exact .junk _
 | some r=>
  obtain⟨h1,h2,h3⟩:=h g r hg
  have:=aw.pptr (w:=w) (σ:=σ) (T:=T) [r] 0 0 g 0 r.length ⟨h1,fun i q hq=>?_,fun i j hi hj=>?_,h2,by simp⟩ fun i q j a u hq ha hu=>?_
  ·simpa using this
  ·match i with
   | 0=>cases hq;rfl
   | i+1=>simp at hq
  ·have h0:i=0:=by simpa using hi
   subst h0
   obtain⟨u,hu,_⟩:=h3 j _ (List.getElem?_eq_getElem hj)
   exact⟨u,by simpa using hu⟩
  ·match i with
   | 0=>
    cases hq
    obtain⟨u',hu',ha'⟩:=h3 j a ha
    simp only[Nat.zero_mul,Nat.add_zero,Nat.zero_add]at hu
    rw[hu]at hu'
    cases hu'
    cases u<;>simp only[oM,Option.some.injEq,reduceCtorEq]at ha'<;>subst ha'
    ·exact .bool _
    ·exact .int _ _
    ·exact .str _
   | i+1=>simp at hq
theorem aw.mono{w w':World}{σ σ':aC}{T T':Nat→Prop}(e:bV w σ T w' σ' T'){a:AV}{v:Value}(h:aw w σ T a v):aw w' σ' T' a v:=by
 induction h with
 | int k n=>exact .int k n
 | bool b=>exact .bool b
 | str s=>exact .str s
 | nilp=>exact .nilp
 | ptr b i off pl h hp=>exact .ptr b i off pl (e.sig b pl h) hp
 | mp b pl h h1 h2=>exact .mp b pl (e.sig b pl h) h1 h2
 | it b pl h h1 h2=>exact .it b pl (e.sig b pl h) h1 h2
 | pptr rows i off b o sz hl h ih=>exact .pptr rows i off b o sz (hl.mono e) fun i r j a u h1 h2 h3=>ih i r j a u h1 h2 (by rwa [hl.cell_eq e]at h3)
 | nils=>exact .nils
 | emp a=>exact .emp a
 | sl b i n pl a cap h hp hn hm ha=>
  refine .sl b i n pl a cap (e.sig b pl h) hp hn hm fun hc=>?_
  obtain⟨h1,cs,ty,h2,h3⟩:=ha hc
  obtain⟨cs',h4,h5⟩:=e.shape _ _ _ h2
  exact⟨h1,cs',ty,h4,by omega⟩
 | lst0 a cap hm=>exact .lst0 a cap hm
 | lst rows b o sz cap hl hn hm h ih=>exact .lst rows b o sz cap (hl.mono e) hn hm fun i r j a u h1 h2 h3=>ih i r j a u h1 h2 (by rwa [hl.cell_eq e]at h3)
 | agg cs vs hl h ih=>exact .agg cs vs hl ih
 | tup cs vs hl h ih=>exact .tup cs vs hl ih
 | fn f cs vs hl h ih=>exact .fn f cs vs hl ih
 | nilf=>exact .nilf
 | junk v=>exact .junk v
theorem bk.mono{w w':World}{σ σ':aC}{T T':Nat→Prop}(e:bV w σ T w' σ' T'){cs:List AV}{vs:List Value}(h:bk w σ T cs vs):bk w' σ' T' cs vs:=
 ⟨h.1,fun i a v h1 h2=>(h.2 i a v h1 h2).mono e⟩
end Go.Proofs.YtelgfgfgghpjgaaGreatDoor.Am
end
section
namespace Go.Proofs.YtelgfgfgghpjgaaGreatDoor.Am
theorem aa.get_new(H:aa)(b c:Nat)(x:Blk):(H.new b x).get c=if b=c then some x else H.get c:=Tr.get_set _ _ _ _
theorem aa.get_put(H:aa)(b c:Nat)(x:Option Blk):(H.put b x).get c=if b=c then x else H.get c:=Tr.get_set _ _ _ _
theorem j3.mono{w w':World}{σ σ':aC}{T T':Nat→Prop}{x:Blk}{pl:aM}{cs:Array Value}{e:TypeId}(h:j3 w σ T x pl cs e)(ex:bV w σ T w' σ' T')
  (hb:w'.heap[pl.block]? =w.heap[pl.block]?):j3 w' σ' T' x pl cs e:=
 ⟨h.size,hb.trans h.block,h.even,h.room,fun i r j a u h1 h2 h3=>(h.rep i r j a u h1 h2 h3).mono ex⟩
theorem jw.mono{w w':World}{x:Blk}{pl:aM}(h:jw w x pl)(hb:w'.heap[pl.block]? =w.heap[pl.block]?):jw w' x pl:=⟨h.size,h.psize,by rw[hb];exact h.obj⟩
theorem ea.mono{w w':World}{σ σ':aC}{T T':Nat→Prop}{x:Blk}{pl:aM}{cs:Array Value}{e:TypeId}(h:ea w σ T x pl cs e)(ex:bV w σ T w' σ' T')
  (hb:w'.heap[pl.block]? =w.heap[pl.block]?):ea w' σ' T' x pl cs e:=⟨fun hp=>(h.1 hp).mono ex hb,fun hn=>(h.2 hn).mono hb⟩
theorem ay.ok_of{w:World}{σ:aC}{H:aa}(hW:ay w σ H){b:Nat}{x:Blk}{pl:aM}(hg:H.get b=some x)(hs:σ b=some pl){cs:Array Value}{e:TypeId}(hc:w.heap[pl.block]? =some (.cells cs e (0,0))):pl.ok:=by
 obtain⟨pl',cs',e',h1,h2⟩:=hW.live b x hg
 rw[hs]at h1
 cases h1
 by_cases hp:pl.ok
 ·exact hp
 ·rcases(h2.2 hp).obj with⟨_,es,clk,h3,_⟩ | ⟨_,s,pos,h3,_⟩
  ·rw[hc]at h3;cases h3
  ·rw[hc]at h3;cases h3
theorem aM.ok_over{pl:aM}(h:pl.ok)(c k:Nat):aM.ok ⟨c,pl.base+k*pl.size,pl.size⟩:=by
 rcases h with h | h
 ·rcases Nat.eq_zero_or_pos pl.size with h0 | h0
  ·left;show pl.base+k*pl.size=0;rw[h,h0];simp
  ·exact .inr h0
 ·exact .inr h
theorem bV.same{w w':World}(σ:aC)(T:Nat→Prop)(hh:w'.heap=w.heap)(ho:w'.os=w.os)(ht:w'.tape=w.tape)(hp:w'.output=w.output):bV w σ T w' σ T:=
 ⟨ho,ht,hp,by rw[hh];exact Nat.le_refl _,fun _ _ _=>by rw[hh],fun _ cs _ h=>⟨cs,by rw[hh];exact h,rfl⟩,fun _ _ h=>h,rfl,fun _ _=>by rw[hh],fun _ h=>.inl h⟩
theorem ay.same{w w':World}{σ:aC}{H:aa}(h:ay w σ H)(hh:w'.heap=w.heap)(ho:w'.os=w.os)(ht:w'.tape=w.tape)(hp:w'.output=w.output):ay w' σ H:=
 ⟨h.named,fun b pl hb=>by rw[hh];exact h.lt b pl hb,fun b x hb=>by
  obtain⟨pl,cs,e,h1,h2⟩:=h.live b x hb
  exact⟨pl,cs,e,h1,h2.mono (bV.same σ _ hh ho ht hp) (by rw[hh])⟩,fun c hc=>by rw[hh];exact h.apart c hc,h.inj,h.glob.mono (bV.same σ _ hh ho ht hp)⟩
theorem ay.congr{w:World}{σ:aC}{H K:aa}(h:ay w σ H)(hg:∀b,K.get b=H.get b)(hn:H.next≤K.next):ay w σ K:=by
 have ht:np σ K=np σ H:=by funext c;simp[np,hg]
 have ho:aq σ K=aq σ H:=by funext c;simp[aq,ht]
 refine⟨fun b pl hb=>Nat.lt_of_lt_of_le (h.named b pl hb) hn,h.lt,fun b x hb=>?_,by rw[ht];exact h.apart,fun b b' x x' pl pl' h1 h2=>h.inj b b' x x' pl pl' (by rwa [hg]at h1) (by rwa [hg]at h2),by rw[ho];exact h.glob⟩
 rw[ho]
 exact h.live b x (by rwa [hg]at hb)
theorem aq.congr{σ:aC}{H K:aa}(hg:∀b,K.get b=H.get b):aq σ K=aq σ H:=by funext c;simp[aq,np,hg]
theorem aq.sub{σ:aC}{H K:aa}(hg:∀b x,K.get b=some x→H.get b=some x){c:Nat}(h:aq σ K c):aq σ H c:=by
 rcases h with h | ⟨b,x,pl,h1,h2,h3⟩
 ·exact .inl h
 ·exact .inr ⟨b,x,pl,hg b x h1,h2,h3⟩
theorem bV.sub{w:World}{σ:aC}{H K:aa}(hg:∀b x,K.get b=some x→H.get b=some x):bV w σ (aq σ H) w σ (aq σ K):=
 ⟨rfl,rfl,rfl,Nat.le_refl _,fun _ _ _=>rfl,fun _ cs _ h=>⟨cs,h,rfl⟩,fun _ _ h=>h,rfl,fun _ _=>rfl,fun _ h=>.inl (aq.sub hg h)⟩
theorem ay.sub{w:World}{σ:aC}{H K:aa}(h:ay w σ H)(hg:∀b x,K.get b=some x→H.get b=some x)(hn:H.next≤K.next):ay w σ K:=
 ⟨fun b pl hb=>Nat.lt_of_lt_of_le (h.named b pl hb) hn,h.lt,fun b x hb=>by
  obtain⟨pl,cs,e,h1,h2⟩:=h.live b x (hg b x hb)
  exact⟨pl,cs,e,h1,h2.mono (bV.sub hg) rfl⟩,fun c hc=>⟨(h.apart c hc).1,fun⟨b,x,pl,h1,h2,h3⟩=>(h.apart c hc).2 ⟨b,x,pl,hg b x h1,h2,h3⟩⟩,fun b b' x x' pl pl' h1 h2=>h.inj b b' x x' pl pl' (hg _ _ h1) (hg _ _ h2),h.glob.mono (bV.sub hg)⟩
def aC.set(σ:aC)(b:Nat)(pl:aM):aC:={σ with map:=fun c=>if b=c then some pl else σ c}
theorem aC.set_eq(σ:aC)(b:Nat)(pl:aM):σ.set b pl b=some pl:=by simp[aC.set]
theorem aC.set_ne(σ:aC){b c:Nat}(pl:aM)(h:b≠c):σ.set b pl c=σ c:=by simp[aC.set,h]
theorem aC.set_old{σ:aC}{b c:Nat}{pl q:aM}(hb:σ b=none)(h:σ c=some q):σ.set b pl c=some q:=by
 rw[aC.set_ne _ _ (by rintro rfl;rw[hb]at h;cases h)];exact h
def World.push(w:World)(o:Obj):World:={w with heap:=w.heap.push o}
theorem ay.new{w:World}{σ:aC}{H:aa}(h:ay w σ H){b:Nat}(hb:σ b=none)(hlt:b<H.next){x:Blk}{cs:Array Value}{e:TypeId}
  (even:∀(i:Nat) (r:List AV),x.rows[i]? =some r→r.length=x.size) (room:x.rows.length*x.size≤cs.size)
  (rep:∀(i:Nat) (r:List AV) (j:Nat) (a:AV) (u:Value),x.rows[i]? =some r→r[j]? =some a→cs[i*x.size+j]? =some u→aw w σ (aq σ H) a u) :
  ay (World.push w (.cells cs e (0,0))) (σ.set b ⟨w.heap.size,0,x.size⟩) (H.new b x)∧
  bV w σ (aq σ H) (World.push w (.cells cs e (0,0))) (σ.set b ⟨w.heap.size,0,x.size⟩) (aq (σ.set b ⟨w.heap.size,0,x.size⟩) (H.new b x)):=by
 have hnone:H.get b=none:=by
  cases hg:H.get b with
  | none=>rfl
  | some y=>obtain⟨pl,_,_,h1,_⟩:=h.live b y hg;rw[hb]at h1;cases h1
 have hold:∀c,c<w.heap.size→(World.push w (.cells cs e (0,0))).heap[c]? =w.heap[c]? :=fun c hc=>by
  show(w.heap.push _)[c]? =_
  rw[Array.getElem?_push,if_neg (Nat.ne_of_lt hc)]
 have ext:bV w σ (aq σ H) (World.push w (.cells cs e (0,0))) (σ.set b ⟨w.heap.size,0,x.size⟩) (aq (σ.set b ⟨w.heap.size,0,x.size⟩) (H.new b x)):=by
  refine⟨rfl,rfl,rfl,by simp[World.push],fun c hc _=>hold c hc,fun c cs' e' hc=>⟨cs',?_,rfl⟩,fun c q hq=>aC.set_old hb hq,rfl,fun c hc=>hold c (h.apart c hc).1,?_⟩
  ·rcases Nat.lt_or_ge c w.heap.size with hlt | hge
   ·rw[hold c hlt];exact hc
   ·rw[Array.getElem?_eq_none hge]at hc;cases hc
  ·rintro c (hfr | ⟨b',y,pl,h1,h2,h3⟩)
   ·exact .inl (.inl hfr)
   rw[aa.get_new]at h1
   by_cases hbb:b=b'
   ·subst hbb
    rw[aC.set_eq]at h2
    cases h2
    exact .inr (by simp only[]at h3;omega)
   ·rw[if_neg hbb]at h1
    rw[aC.set_ne _ _ hbb]at h2
    exact .inl (.inr ⟨b',y,pl,h1,h2,h3⟩)
 have hap:∀c,(σ.set b ⟨w.heap.size,0,x.size⟩).fr c→c<(World.push w (.cells cs e (0,0))).heap.size∧¬np (σ.set b ⟨w.heap.size,0,x.size⟩) (H.new b x) c:=fun c hc=>by
  have hlt':=(h.apart c hc).1
  refine⟨by simp[World.push];omega,?_⟩
  rintro⟨b',y,pl,h1,h2,h3⟩
  rw[aa.get_new]at h1
  by_cases hbb:b=b'
  ·subst hbb
   rw[aC.set_eq]at h2
   cases h2
   simp only[]at h3;omega
  ·rw[if_neg hbb]at h1
   rw[aC.set_ne _ _ hbb]at h2
   exact(h.apart c hc).2 ⟨b',y,pl,h1,h2,h3⟩
 refine⟨⟨?_,?_,?_,hap,?_,h.glob.mono ext⟩,ext⟩
 ·intro c pl hc
  by_cases hbc:b=c
  ·subst hbc;exact hlt
  ·rw[aC.set_ne _ _ hbc]at hc;exact h.named c pl hc
 ·intro c pl hc
  by_cases hbc:b=c
  ·subst hbc;rw[aC.set_eq]at hc;cases hc;simp[World.push]
  ·rw[aC.set_ne _ _ hbc]at hc;have:=h.lt c pl hc;simp[World.push];omega
 ·intro c y hy
  rw[aa.get_new]at hy
  by_cases hbc:b=c
  ·subst hbc
   rw[if_pos rfl]at hy
   cases hy
   refine⟨_,cs,e,aC.set_eq _ _ _,.of (.inl rfl) ⟨rfl,by show(w.heap.push _)[w.heap.size]? =_;simp,even,by simpa using room,fun i r j a u h1 h2 h3=>(rep i r j a u h1 h2 (by simpa using h3)).mono ext⟩⟩
  ·rw[if_neg hbc]at hy
   obtain⟨pl,cs',e',h1,h2⟩:=h.live c y hy
   exact⟨pl,cs',e',by rw[aC.set_ne _ _ hbc];exact h1,h2.mono ext (hold _ (h.lt c pl h1))⟩
 ·intro c c' y y' pl pl' h1 h2 h3 h4 h5
  rw[aa.get_new]at h1 h2
  by_cases hbc:b=c
  ·by_cases hbc':b=c'
   ·exact hbc.symm.trans hbc'
   ·subst hbc
    rw[aC.set_eq]at h3;cases h3
    rw[aC.set_ne _ _ hbc']at h4
    have:=h.lt c' pl' h4
    simp only[]at h5;omega
  ·by_cases hbc':b=c'
   ·subst hbc'
    rw[aC.set_eq]at h4;cases h4
    rw[aC.set_ne _ _ hbc]at h3
    have:=h.lt c pl h3
    simp only[]at h5;omega
   ·rw[if_neg hbc]at h1
    rw[if_neg hbc']at h2
    rw[aC.set_ne _ _ hbc]at h3
    rw[aC.set_ne _ _ hbc']at h4
    exact h.inj c c' y y' pl pl' h1 h2 h3 h4 h5
structure gv(w w':World)(c:Nat)(cs cs':Array Value)(e:TypeId):Prop where
 os:w'.os=w.os
 tape:w'.tape=w.tape
 output:w'.output=w.output
 size:w'.heap.size=w.heap.size
 old:w.heap[c]? =some (.cells cs e (0,0))
 new:w'.heap[c]? =some (.cells cs' e (0,0))
 len:cs'.size=cs.size
 rest:∀d,d≠c→w'.heap[d]? =w.heap[d]?
theorem gv.refl{w:World}{c:Nat}{cs:Array Value}{e:TypeId}(h:w.heap[c]? =some (.cells cs e (0,0))):gv w w c cs cs e:=
 ⟨rfl,rfl,rfl,rfl,h,h,rfl,fun _ _=>rfl⟩
theorem gv.ext{w w':World}{c:Nat}{cs cs':Array Value}{e:TypeId}(h:gv w w' c cs cs' e){σ σ':aC}{T T':Nat→Prop}(hc:T c)(hσ:∀b pl,σ b=some pl→σ' b=some pl)
  (hfr:σ'.fr=σ.fr) (hn:¬σ.fr c) (hT:∀d,T' d→T d):bV w σ T w' σ' T':=by
 refine⟨h.os,h.tape,h.output,by rw[h.size];exact Nat.le_refl _,fun d _ hd=>h.rest d (by rintro rfl;exact hd hc),fun d ds e' hd=>?_,hσ,hfr,fun d hd=>h.rest d (by rintro rfl;exact hn hd),fun d hd=>.inl (hT d hd)⟩
 by_cases hdc:d=c
 ·subst hdc
  rw[h.old]at hd
  cases hd
  exact⟨cs',h.new,h.len⟩
 ·exact⟨ds,by rw[h.rest d hdc];exact hd,rfl⟩
theorem ay.put{w w':World}{σ:aC}{H:aa}(h:ay w σ H){b:Nat}{x x':Blk}{pl:aM}{cs cs':Array Value}{e:TypeId}(hg:H.get b=some x)(hs:σ b=some pl)
  (hw:gv w w' pl.block cs cs' e) (hx:x'.size=pl.size)
  (even:∀(i:Nat) (r:List AV),x'.rows[i]? =some r→r.length=x'.size) (room:pl.base+x'.rows.length*x'.size≤cs.size)
  (rep:∀(i:Nat) (r:List AV) (j:Nat) (a:AV) (u:Value),x'.rows[i]? =some r→r[j]? =some a→cs'[pl.base+i*x'.size+j]? =some u→aw w σ (aq σ H) a u) :
  ay w' σ (H.put b (some x'))∧bV w σ (aq σ H) w' σ (aq σ (H.put b (some x'))):=by
 have htok:np σ (H.put b (some x'))=np σ H:=by
  funext c
  apply propext
  constructor
  ·rintro⟨b',y,q,h1,h2,h3⟩
   rw[aa.get_put]at h1
   by_cases hbb:b=b'
   ·subst hbb;exact⟨b,x,q,hg,h2,h3⟩
   ·rw[if_neg hbb]at h1;exact⟨b',y,q,h1,h2,h3⟩
  ·rintro⟨b',y,q,h1,h2,h3⟩
   by_cases hbb:b=b'
   ·subst hbb;exact⟨b,x',q,by rw[aa.get_put,if_pos rfl],h2,h3⟩
   ·exact⟨b',y,q,by rw[aa.get_put,if_neg hbb];exact h1,h2,h3⟩
 have hown:aq σ (H.put b (some x'))=aq σ H:=by funext c;simp[aq,htok]
 have ext:bV w σ (aq σ H) w' σ (aq σ (H.put b (some x'))):=by
  rw[hown]
  exact hw.ext (.inr ⟨b,x,pl,hg,hs,rfl⟩) (fun _ _ h=>h) rfl (fun hf=>(h.apart _ hf).2 ⟨b,x,pl,hg,hs,rfl⟩) (fun _ h=>h)
 refine⟨⟨h.named,fun c q hc=>by rw[hw.size];exact h.lt c q hc,?_,fun c hc=>by rw[hw.size,htok];exact h.apart c hc,?_,h.glob.mono ext⟩,ext⟩
 ·intro c y hy
  rw[aa.get_put]at hy
  by_cases hbc:b=c
  ·subst hbc
   rw[if_pos rfl]at hy
   cases hy
   exact⟨pl,cs',e,hs,.of (h.ok_of hg hs hw.old) ⟨hx.symm,hw.new,even,by rw[hw.len];exact room,fun i r j a u h1 h2 h3=>(rep i r j a u h1 h2 h3).mono ext⟩⟩
  ·rw[if_neg hbc]at hy
   obtain⟨q,ds,e',h1,h2⟩:=h.live c y hy
   exact⟨q,ds,e',h1,h2.mono ext (hw.rest _ fun he=>hbc (h.inj b c x y pl q hg hy hs h1 he.symm))⟩
 ·intro c c' y y' q q' h1 h2
  have aux:∀c y,(H.put b (some x')).get c=some y→∃z,H.get c=some z:=fun c y hy=>by
   rw[aa.get_put]at hy
   by_cases hbc:b=c
   ·subst hbc;exact⟨x,hg⟩
   ·rw[if_neg hbc]at hy;exact⟨y,hy⟩
  obtain⟨z,hz⟩:=aux c y h1
  obtain⟨z',hz'⟩:=aux c' y' h2
  exact h.inj c c' z z' q q' hz hz'
theorem ay.over{w w':World}{σ:aC}{H:aa}(h:ay w σ H){b b':Nat}{x x':Blk}{pl:aM}{cs cs':Array Value}{e:TypeId}{k:Nat}(hg:H.get b=some x)(hs:σ b=some pl)
  (hb:σ b'=none) (hlt:b'<H.next) (hw:gv w w' pl.block cs cs' e) (hx:x'.size=pl.size)
  (even:∀(i:Nat) (r:List AV),x'.rows[i]? =some r→r.length=x'.size) (room:pl.base+k*pl.size+x'.rows.length*x'.size≤cs.size)
  (rep:∀(i:Nat) (r:List AV) (j:Nat) (a:AV) (u:Value),x'.rows[i]? =some r→r[j]? =some a→cs'[pl.base+k*pl.size+i*x'.size+j]? =some u→aw w σ (aq σ H) a u) :
  ay w' (σ.set b' ⟨pl.block,pl.base+k*pl.size,pl.size⟩) ((H.put b none).new b' x')∧
  bV w σ (aq σ H) w' (σ.set b' ⟨pl.block,pl.base+k*pl.size,pl.size⟩) (aq (σ.set b' ⟨pl.block,pl.base+k*pl.size,pl.size⟩) ((H.put b none).new b' x')):=by
 have hne:b'≠b:=by rintro rfl;rw[hb]at hs;cases hs
 have get':∀c y,((H.put b none).new b' x').get c=some y→(c=b'∧y=x')∨(c≠b'∧c≠b∧H.get c=some y):=fun c y hy=>by
  rw[aa.get_new]at hy
  by_cases h1:b'=c
  ·rw[if_pos h1]at hy;cases hy;exact .inl ⟨h1.symm,rfl⟩
  ·rw[if_neg h1,aa.get_put]at hy
   by_cases h2:b=c
   ·rw[if_pos h2]at hy;cases hy
   ·rw[if_neg h2]at hy;exact .inr ⟨fun e=>h1 e.symm,fun e=>h2 e.symm,hy⟩
 have htok:∀d,np (σ.set b' ⟨pl.block,pl.base+k*pl.size,pl.size⟩) ((H.put b none).new b' x') d→np σ H d:=by
  rintro d ⟨c,y,q,h1,h2,h3⟩
  rcases get' c y h1 with⟨rfl,rfl⟩ | ⟨h4,_,h5⟩
  ·rw[aC.set_eq]at h2;cases h2;exact⟨b,x,pl,hg,hs,h3⟩
  ·rw[aC.set_ne _ _ (fun e=>h4 e.symm)]at h2;exact⟨c,y,q,h5,h2,h3⟩
 have ext:bV w σ (aq σ H) w' (σ.set b' ⟨pl.block,pl.base+k*pl.size,pl.size⟩) (aq (σ.set b' ⟨pl.block,pl.base+k*pl.size,pl.size⟩) ((H.put b none).new b' x')):=by
  refine hw.ext (.inr ⟨b,x,pl,hg,hs,rfl⟩) (fun c q hq=>aC.set_old hb hq) rfl (fun hf=>(h.apart _ hf).2 ⟨b,x,pl,hg,hs,rfl⟩) ?_
  rintro d (hfr | hd)
  ·exact .inl hfr
  ·exact .inr (htok d hd)
 refine⟨⟨?_,?_,?_,fun c hc=>⟨by rw[hw.size];exact(h.apart c hc).1,fun ht=>(h.apart c hc).2 (htok c ht)⟩,?_,h.glob.mono ext⟩,ext⟩
 ·intro c q hc
  by_cases hbc:b'=c
  ·subst hbc;exact hlt
  ·rw[aC.set_ne _ _ hbc]at hc;exact h.named c q hc
 ·intro c q hc
  rw[hw.size]
  by_cases hbc:b'=c
  ·subst hbc;rw[aC.set_eq]at hc;cases hc;exact h.lt b pl hs
  ·rw[aC.set_ne _ _ hbc]at hc;exact h.lt c q hc
 ·intro c y hy
  rcases get' c y hy with⟨rfl,rfl⟩ | ⟨h4,h6,h5⟩
  ·exact⟨_,cs',e,aC.set_eq _ _ _,.of (aM.ok_over (h.ok_of hg hs hw.old) _ _) ⟨hx.symm,hw.new,even,by rw[hw.len];exact room,fun i r j a u h1 h2 h3=>(rep i r j a u h1 h2 h3).mono ext⟩⟩
  ·obtain⟨q,ds,e',h1,h2⟩:=h.live c y h5
   exact⟨q,ds,e',by rw[aC.set_ne _ _ (fun e=>h4 e.symm)];exact h1,h2.mono ext (hw.rest _ fun he=>h6 (h.inj c b y x q pl h5 hg h1 hs he))⟩
 ·intro c c' y y' q q' h1 h2 h3 h4 h5
  rcases get' c y h1 with⟨rfl,rfl⟩ | ⟨a1,a2,a3⟩
  ·rcases get' c' y' h2 with⟨rfl,rfl⟩ | ⟨b1,b2,b3⟩
   ·rfl
   ·rw[aC.set_eq]at h3;cases h3
    rw[aC.set_ne _ _ (fun e=>b1 e.symm)]at h4
    exact absurd (h.inj b c' x y' pl q' hg b3 hs h4 h5) (fun e=>b2 e.symm)
  ·rcases get' c' y' h2 with⟨rfl,rfl⟩ | ⟨b1,b2,b3⟩
   ·rw[aC.set_eq]at h4;cases h4
    rw[aC.set_ne _ _ (fun e=>a1 e.symm)]at h3
    exact absurd (h.inj c b y x q pl a3 hg h3 hs h5) a2
   ·rw[aC.set_ne _ _ (fun e=>a1 e.symm)]at h3
    rw[aC.set_ne _ _ (fun e=>b1 e.symm)]at h4
    exact h.inj c c' y y' q q' a3 b3 h3 h4 h5
end Go.Proofs.YtelgfgfgghpjgaaGreatDoor.Am
end
section
namespace Go.Proofs.YtelgfgfgghpjgaaGreatDoor.Am
section
variable {P:Program} {w:World} {σ:aC} {T:Nat→Prop}
theorem jx{t:TypeId}{i:TypeInfo}(h:P.info? t=some i)(w:World):(typeInfo t).run P w=.ok i w:=by
 simp[typeInfo,h]
theorem aS{t:TypeId}{n:Nat}(h:au P t=some n)(w:World):(sizeOf t).run P w=.ok n w:=by
 unfold au at h
 cases hi:P.info? t with
 | none=>rw[hi]at h;cases h
 | some i=>rw[hi]at h;cases h;simp[sizeOf,jx hi]
theorem eO{t:TypeId}{r:Bool}(h:b0 P t=some r)(w:World):(isAgg t).run P w=.ok r w:=by
 unfold b0 at h
 cases hi:P.underlying t with
 | none=>rw[hi]at h;cases h
 | some d=>
  rw[hi]at h
  simp only[Option.map_some,Option.some.injEq]at h
  subst h
  simp only[isAgg,Sem.run_bind,run_underlying hi,Result.andThen_ok]
  cases d<;>rfl
theorem aw.cells{a:AV}{v:Value}{cs:List AV}(h:aw w σ T a v)(hc:a.cells? =some cs):bk w σ T cs v.cells.toList:=by
 have one:∀{a v},aw w σ T a v→(v.cells=#[v])→bk w σ T [a] v.cells.toList:=fun {a v} h e=>by
  rw[e]
  refine⟨rfl,fun i a' v' h1 h2=>?_⟩
  match i with
  | 0=>cases h1;cases h2;exact h
  | i+1=>simp at h1
 cases h<;>simp only[AV.cells?,Option.some.injEq,reduceCtorEq]at hc<;>subst hc
 case agg vs hl h=>exact⟨by simpa[Value.cells]using hl,by simpa[Value.cells]using h⟩
 all_goals exact one (by constructor<;>assumption) rfl
theorem aw.one{a:AV}{v:Value}(h:aw w σ T a v)(ho:a.one=true):v.oneCell'=true:=by
 cases h<;>first | rfl | (simp[AV.one]at ho)
theorem bk.one{cs:List AV}{vs:List Value}(h:bk w σ T cs vs)(ho:cs.all AV.one=true):∀v∈vs,v.oneCell'=true:=by
 intro v hv
 obtain⟨i,hi,rfl⟩:=List.getElem_of_mem hv
 have hi':i<cs.length:=by rw[h.1];exact hi
 exact(h.2 i cs[i] vs[i] (List.getElem?_eq_getElem hi') (List.getElem?_eq_getElem hi)).one (by rw[List.all_eq_true]at ho;exact ho _ (List.getElem_mem hi'))
def oO(w:World)(σ:aC)(T:Nat→Prop)(row:List AV)(b start:Nat):Prop:=
 ∀(j:Nat) (a:AV),row[j]? =some a→∃u,w.cell? ⟨b,start+j,none⟩=some u∧aw w σ T a u
theorem bO(b o n:Nat):(⟨b,o,none⟩:Addr).add n=⟨b,o+n,none⟩:=by unfold Addr.add;split<;>simp_all
theorem sa{row:List AV}{b start:Nat}(h:oO w σ T row b start)(n off:Nat)(hn:off+n≤row.length):
  ∃vs:List Value,vs.length=n∧(loadCells ⟨b,start+off,none⟩ n).run P w=.ok vs.toArray w∧bk w σ T ((row.drop off).take n) vs:=by
 have key:∀j,∃u,j<n→∃a,row[off+j]? =some a∧w.cell? ⟨b,start+off+j,none⟩=some u∧aw w σ T a u:=fun j=>by
  by_cases hj:j<n
  ·obtain⟨u,h1,h2⟩:=h (off+j) row[off+j] (List.getElem?_eq_getElem (by omega))
   exact⟨u,fun _=>⟨_,List.getElem?_eq_getElem (by omega),by rw[Nat.add_assoc];exact h1,h2⟩⟩
  ·exact⟨undef,fun h=>absurd h hj⟩
 let f:=fun j=>Classical.choose (key j)
 have hf:∀j,j<n→∃a,row[off+j]? =some a∧w.cell? ⟨b,start+off+j,none⟩=some (f j)∧aw w σ T a (f j):=fun j=>Classical.choose_spec (key j)
 refine⟨(List.range n).map f,by simp,run_loadCells w _ n f (fun j hj=>by rw[bO];obtain⟨a,_,h2,_⟩:=hf j hj;exact h2),by simp;omega,?_⟩
 intro i a v h1 h2
 rw[List.getElem?_map]at h2
 have hi:i<n:=by
  rcases Nat.lt_or_ge i n with h3 | h3
  ·exact h3
  ·rw[List.getElem?_eq_none (by simpa using h3)]at h2;cases h2
 rw[List.getElem?_range hi]at h2
 cases h2
 obtain⟨a',h3,_,h5⟩:=hf i hi
 rw[List.getElem?_take_of_lt hi,List.getElem?_drop,h3]at h1
 cases h1
 exact h5
theorem iM{t:TypeId}{row:List AV}{b start off:Nat}{v:AV}(h:oO w σ T row b start)(hl:cU P t row off=some v):
  ∃v',(loadVar t ⟨b,start+off,none⟩).run P w=.ok v' w∧aw w σ T v v':=by
 unfold cU at hl
 split at hl
 ·rename_i n h1 h2
  split at hl
  ·rename_i hn
   cases hl
   obtain⟨vs,_,h4,h5⟩:=sa (P:=P) h n off hn
   exact⟨.agg vs.toArray,by simp only[loadVar,Sem.run_bind,eO h1,Result.andThen_ok,Sem.run_ite,if_true,aS h2,h4,Sem.run_pure],.agg _ _ h5.1 h5.2⟩
  ·cases hl
 ·rename_i n h1 h2
  obtain⟨u,h3,h4⟩:=h off v hl
  exact⟨u,by simp[loadVar,eO h1,h3],h4⟩
 ·cases hl
theorem iN{t:TypeId}{row:List AV}{vs:List Value}{off:Nat}{v:AV}(h:bk w σ T row vs)(hl:cU P t row off=some v):
  ∃v',(part t vs.toArray off).run P w=.ok v' w∧aw w σ T v v':=by
 unfold cU at hl
 split at hl
 ·rename_i n h1 h2
  split at hl
  ·rename_i hn
   cases hl
   refine⟨.agg (vs.toArray.extract off (off+n)),by simp only[part,Sem.run_bind,eO h1,Result.andThen_ok,Sem.run_ite,if_true,aS h2,Sem.run_pure],?_⟩
   have e:vs.toArray.extract off (off+n)=((vs.drop off).take n).toArray:=by simp
   rw[e]
   refine .agg _ _ (by simp[h.1]) fun i a v h3 h4=>?_
   have hi:i<n:=by
    rcases Nat.lt_or_ge i n with h5 | h5
    ·exact h5
    ·rw[List.getElem?_eq_none (by simp;omega)]at h3;cases h3
   rw[List.getElem?_take_of_lt hi,List.getElem?_drop]at h3 h4
   exact h.2 _ a v h3 h4
  ·cases hl
 ·rename_i n h1 h2
  have ho:off<row.length:=by
   rcases Nat.lt_or_ge off row.length with h5 | h5
   ·exact h5
   ·rw[List.getElem?_eq_none h5]at hl;cases hl
  have ho':off<vs.length:=by rw[←h.1];exact ho
  exact⟨vs[off],by simp[part,eO h1,ho'],h.2 off v _ hl (List.getElem?_eq_getElem ho')⟩
 ·cases hl
theorem j3.row{x:Blk}{pl:aM}{cs:Array Value}{e:TypeId}(h:j3 w σ T x pl cs e){i:Nat}{r:List AV}(hr:x.rows[i]? =some r):
  oO w σ T r pl.block (pl.base+i*pl.size):=by
 intro j a ha
 have hi:i<x.rows.length:=by
  rcases Nat.lt_or_ge i x.rows.length with h5 | h5
  ·exact h5
  ·rw[List.getElem?_eq_none h5]at hr;cases hr
 have hj:j<x.size:=by
  rw[←h.even i r hr]
  rcases Nat.lt_or_ge j r.length with h5 | h5
  ·exact h5
  ·rw[List.getElem?_eq_none h5]at ha;cases ha
 have hb:pl.base+i*x.size+j<cs.size:=by
  have:=h.room
  have:(i+1)*x.size≤x.rows.length*x.size:=Nat.mul_le_mul_right _ hi
  rw[Nat.add_mul]at this
  omega
 refine⟨cs[pl.base+i*x.size+j],?_,h.rep i r j a _ hr ha (Array.getElem?_eq_getElem hb)⟩
 rw[h.size]
 simp[World.cell?,h.block,hb]
theorem i1.row{rows:List (List AV)}{b o sz:Nat}(hl:i1 w T rows b o sz)
  (h:∀(i:Nat) (r:List AV) (j:Nat) (a:AV) (u:Value),rows[i]? =some r→r[j]? =some a→w.cell? ⟨b,o+i*sz+j,none⟩=some u→aw w σ T a u)
  {i:Nat} {r:List AV} (hr:rows[i]? =some r):oO w σ T r b (o+i*sz):=by
 intro j a ha
 have hi:i<rows.length:=by
  rcases Nat.lt_or_ge i rows.length with h5 | h5
  ·exact h5
  ·rw[List.getElem?_eq_none h5]at hr;cases hr
 have hj:j<sz:=by
  rw[←hl.even i r hr]
  rcases Nat.lt_or_ge j r.length with h5 | h5
  ·exact h5
  ·rw[List.getElem?_eq_none h5]at ha;cases ha
 obtain⟨u,hu⟩:=hl.cell i j hi hj
 exact⟨u,hu,h i r j a u hr ha hu⟩
theorem lM{H:aa}(hW:ay w σ H){t:TypeId}{a v:AV}{a':Value}(ha:aw w σ (aq σ H) a a')(hl:fN P H t a=some v):
  ∃v',(Instr.loadAt t a').run P w=.ok v' w∧aw w σ (aq σ H) v v':=by
 unfold fN at hl
 split at hl
 ·rename_i b i off
  cases ha
  rename_i pl hp hs
  cases hx:H.get b with
  | none=>rw[hx]at hl;cases hl
  | some x=>
   rw[hx]at hl
   simp only[Option.bind_some]at hl
   cases hr:x.rows[i]? with
   | none=>rw[hr]at hl;cases hl
   | some r=>
    rw[hr]at hl
    simp only[Option.bind_some]at hl
    obtain⟨pl',cs,e,h1,h2⟩:=hW.live b x hx
    rw[hs]at h1
    cases h1
    replace h2:=h2.1 hp
    obtain⟨v',h3,h4⟩:=iM (P:=P) (h2.row hr) hl
    exact⟨v',by simpa[Instr.loadAt,Instr.sureAddr]using h3,h4⟩
 ·rename_i rows i off
  cases ha
  rename_i b o sz hl' h
  cases hr:rows[i]? with
  | none=>rw[hr]at hl;cases hl
  | some r=>
   rw[hr]at hl
   simp only[Option.bind_some]at hl
   obtain⟨v',h3,h4⟩:=iM (P:=P) (hl'.row h hr) hl
   exact⟨v',by simpa[Instr.loadAt,Instr.sureAddr]using h3,h4⟩
 ·cases hl
end
end Go.Proofs.YtelgfgfgghpjgaaGreatDoor.Am
end
section
namespace Go.Proofs.YtelgfgfgghpjgaaGreatDoor.Am
section
variable {P:Program} {w:World} {σ:aC} {T:Nat→Prop}
theorem qF{v:Value}{a:AV}(h:vS v=some a):aw w σ T a v:=by
 unfold vS at h
 split at h<;>first | (cases h;constructor) | cases h
theorem dv{α:Type}:∀(l:List (Option α)) (m:List α),aL l=some m→l.length=m.length∧∀(i:Nat) (x:α),m[i]? =some x→l[i]? =some (some x)
 | [],m,h=>by cases h;exact⟨rfl,fun i x h=>by simp at h⟩
 | none::_,m,h=>by cases h
 | some x::l,m,h=>by
  unfold aL at h
  split at h
  ·rename_i l' hl
   cases h
   obtain⟨h1,h2⟩:=dv l l' hl
   refine⟨by simp[h1],fun i y hy=>?_⟩
   match i with
   | 0=>simpa using hy
   | i+1=>simp only[List.getElem?_cons_succ]at hy ⊢;exact h2 i y hy
  ·cases h
theorem oP{v:Value}{a:AV}(h:r9 v=some a):aw w σ T a v:=by
 unfold r9 at h
 split at h
 ·rename_i cs
  cases hm:aL (cs.toList.map vS)with
  | none=>rw[hm]at h;cases h
  | some l=>
   rw[hm]at h
   cases h
   obtain⟨h1,h2⟩:=dv _ _ hm
   have:aw w σ T (.agg l) (.agg cs.toList.toArray):=.agg l cs.toList (by simpa using h1.symm) fun i a v h3 h4=>by
    have:=h2 i a h3
    rw[List.getElem?_map,h4]at this
    simp only[Option.map_some,Option.some.injEq]at this
    exact qF this
   simpa using this
 ·exact qF h
theorem bP{t:TypeId}{z:AV}(h:bH P t=some z):∃z',(zeroValue t).run P w=.ok z' w∧aw w σ T z z':=by
 unfold bH at h
 cases hi:P.info? t with
 | none=>rw[hi]at h;cases h
 | some i=>
  rw[hi]at h
  simp only[Option.bind_some]at h
  cases hz:i.zero with
  | none=>rw[hz]at h;cases h
  | some z'=>
   rw[hz]at h
   exact⟨z',by simp[zeroValue,jx hi,hz],oP h⟩
theorem lh{s:TypeId}{x v:AV}{x':Value}{f:Nat}(hx:aw w σ T x x')(h:dB P s x f=some v):
  ∃v',(Instr.fieldAt s x' f).run P w=.ok v' w∧aw w σ T v v':=by
 unfold dB at h
 split at h
 ·rename_i fs hu
  cases hf:fs[f]? with
  | none=>rw[hf]at h;cases h
  | some fd=>
   rw[hf]at h
   simp only[Option.bind_some]at h
   cases hn:au P fd.type with
   | none=>rw[hn]at h;cases h
   | some n=>
    rw[hn]at h
    simp only[Option.bind_some]at h
    by_cases h0:n=0
    ·rw[if_pos h0]at h;cases h
    ·rw[if_neg h0]at h
     cases hx<;>simp only[Option.some.injEq,reduceCtorEq]at h<;>subst h
     ·rename_i b i off pl hs hp
      refine⟨_,by simp only[Instr.fieldAt,Sem.run_bind,run_underlying hu,Result.andThen_ok,hf,Instr.sureAddr,Sem.run_pure,fieldPlace,aS hn,Sem.run_ite,if_neg h0,bO];rfl,?_⟩
      have:=aw.ptr (w:=w) (T:=T) b i (off+fd.offset) pl hs hp
      rwa [←Nat.add_assoc]at this
     ·rename_i rows i off b o sz hl h
      refine⟨_,by simp only[Instr.fieldAt,Sem.run_bind,run_underlying hu,Result.andThen_ok,hf,Instr.sureAddr,Sem.run_pure,fieldPlace,aS hn,Sem.run_ite,if_neg h0,bO];rfl,?_⟩
      have:=aw.pptr rows i (off+fd.offset) b o sz hl h
      rwa [←Nat.add_assoc]at this
 ·cases h
theorem oQ{s:TypeId}{x v:AV}{x':Value}{f:Nat}(hx:aw w σ T x x')(h:nZ P s x f=some v):
  ∃v',(Instr.field s x' f).run P w=.ok v' w∧aw w σ T v v':=by
 unfold nZ at h
 split at h
 ·rename_i fs cs hu
  cases hx
  rename_i vs hl hr
  cases hf:fs[f]? with
  | none=>rw[hf]at h;cases h
  | some fd=>
   rw[hf]at h
   simp only[Option.bind_some]at h
   obtain⟨v',h1,h2⟩:=iN (P:=P) (w:=w) (σ:=σ) (T:=T) ⟨hl,hr⟩ h
   exact⟨v',by simp[Instr.field,run_underlying hu,hf,asAgg,h1],h2⟩
 ·cases h
theorem aw.sl_inv{b i n:Nat}{v:Value}(h:aw w σ T (.sl b i n) v):∃pl a cap,v=.slice (some a) n cap∧σ b=some pl∧n≤cap∧cap≤maxLen∧
  (0<cap→a=⟨pl.block,pl.base+i*pl.size,none⟩∧∃cs e,w.heap[pl.block]? =some (.cells cs e (0,0))∧pl.base+(i+cap)*pl.size≤cs.size):=by
 cases h with
 | sl _ _ _ pl a cap h hp hn hm ha=>exact⟨pl,a,cap,rfl,h,hn,hm,ha⟩
theorem aw.sl_ok{b i n:Nat}{v:Value}(h:aw w σ T (.sl b i n) v){pl:aM}(hs:σ b=some pl):pl.ok:=by
 cases h with
 | sl _ _ _ pl' a cap h hp hn hm ha=>rw[hs]at h;cases h;exact hp
theorem aw.lst_inv{rows:List (List AV)}{v:Value}(h:aw w σ T (.lst rows) v):∃A cap,v=.slice A rows.length cap∧rows.length≤cap∧cap≤maxLen∧
  (rows≠[]→∃b o sz,A=some ⟨b,o,none⟩∧i1 w T rows b o sz∧
   ∀(i:Nat) (r:List AV) (j:Nat) (a:AV) (u:Value),rows[i]? =some r→r[j]? =some a→w.cell? ⟨b,o+i*sz+j,none⟩=some u→aw w σ T a u):=by
 cases h with
 | lst0 a cap hm=>exact⟨a,cap,rfl,Nat.zero_le _,hm,fun h=>absurd rfl h⟩
 | lst _ b o sz cap hl hn hm h=>exact⟨_,cap,rfl,hn,hm,fun _=>⟨b,o,sz,rfl,hl,h⟩⟩
theorem ah{α:Type}{l:List α}{i:Nat}{x:α}(h:l[i]? =some x):i<l.length:=by
 rcases Nat.lt_or_ge i l.length with h5 | h5
 ·exact h5
 ·rw[List.getElem?_eq_none h5]at h;cases h
theorem lj{H:aa}(hW:ay w σ H){t:TypeId}{x ix v:AV}{x' ix':Value}(hx:aw w σ (aq σ H) x x')(hi:aw w σ (aq σ H) ix ix')(h:bx P (ff H x) t x ix=some v):
  ∃v',(Instr.indexAt t x' ix').run P w=.ok v' w∧aw w σ (aq σ H) v v':=by
 unfold bx at h
 split at h
 ·rename_i k i
  cases hi
  by_cases h0:i<0
  ·rw[if_pos h0]at h;cases h
  ·rw[if_neg h0]at h
   split at h
   ·rename_i e b j n hu
    split at h
    ·rename_i hlt
     obtain⟨hlt,hso,hsz⟩:=hlt
     cases h
     cases hy:H.get b with
     | none=>simp[ff,hy]at hso
     | some y=>
     simp only[ff,hy,Option.map_some]at hsz
     obtain⟨pl,a,cap,rfl,hs,hn,hm,ha⟩:=hx.sl_inv
     obtain⟨rfl,cs,ty,hc,hr⟩:=ha (by omega)
     have hii:0≤i∧i<(n:Int):=by omega
     obtain⟨pl',cs',e',h1,h2⟩:=hW.live b y hy
     rw[hs]at h1
     cases h1
     have hp:=hx.sl_ok hs
     replace h2:=h2.1 hp
     refine⟨_,by simp only[Instr.indexAt,asIntOf,Sem.run_bind,Sem.run_pure,Result.andThen_ok,run_underlying hu,Sem.run_ite,if_pos hii,aS hsz,bO];rfl,?_⟩
     have:=aw.ptr (w:=w) (T:=aq σ H) b (j+i.toNat) 0 pl hs hp
     rw[←h2.size]
     simpa[Nat.add_mul,Nat.add_assoc]using this
    ·cases h
   ·rename_i e rows hu
    split at h
    ·rename_i r hr
     split at h
     ·rename_i hsz
      cases h
      have hlt:=ah hr
      have hii:0≤i∧i<(rows.length:Int):=by omega
      obtain⟨A,cap,rfl,hn,hm,ha⟩:=hx.lst_inv
      obtain⟨b,o,sz,rfl,hl,h⟩:=ha (by rintro rfl;simp at hr)
      have hrs:=hl.even _ _ hr
      subst hrs
      refine⟨_,by simp only[Instr.indexAt,asIntOf,Sem.run_bind,Sem.run_pure,Result.andThen_ok,run_underlying hu,Sem.run_ite,if_pos hii,aS hsz,bO];rfl,?_⟩
      exact aw.pptr rows i.toNat 0 b o _ hl h
     ·cases h
    ·cases h
   ·rename_i len e b j off hu
    split at h
    ·rename_i hlt
     cases hn:au P e with
     | none=>rw[hn]at h;cases h
     | some n=>
      rw[hn]at h
      cases h
      cases hx
      rename_i pl hp hs
      have hii:0≤i∧i<(len:Int):=by omega
      refine⟨_,by simp only[Instr.indexAt,asIntOf,Sem.run_bind,Sem.run_pure,Result.andThen_ok,run_underlying hu,Instr.sureAddr,Sem.run_ite,if_pos hii,aS hn,bO];rfl,?_⟩
      have:=aw.ptr (w:=w) (T:=aq σ H) b j (off+i.toNat*n) pl hs hp
      rwa [←Nat.add_assoc]at this
    ·cases h
   ·rename_i len e rows j off hu
    split at h
    ·rename_i hlt
     cases hn:au P e with
     | none=>rw[hn]at h;cases h
     | some n=>
      rw[hn]at h
      cases h
      cases hx
      rename_i b o sz hl h
      have hii:0≤i∧i<(len:Int):=by omega
      refine⟨_,by simp only[Instr.indexAt,asIntOf,Sem.run_bind,Sem.run_pure,Result.andThen_ok,run_underlying hu,Instr.sureAddr,Sem.run_ite,if_pos hii,aS hn,bO];rfl,?_⟩
      have:=aw.pptr rows j (off+i.toNat*n) b o sz hl h
      rwa [←Nat.add_assoc]at this
    ·cases h
   ·cases h
 ·cases h
theorem oR{t:TypeId}{x ix v:AV}{x' ix':Value}(hx:aw w σ T x x')(hi:aw w σ T ix ix')(h:lL P t x ix=some v):
  ∃v',(Instr.index t x' ix').run P w=.ok v' w∧aw w σ T v v':=by
 unfold lL at h
 split at h
 ·rename_i s k i hu
  cases hi
  by_cases h0:i<0
  ·rw[if_pos h0]at h;cases h
  ·rw[if_neg h0]at h
   cases hx
   rename_i ba
   cases hb:ba.data.toList[i.toNat]? with
   | none=>rw[hb]at h;cases h
   | some c=>
    rw[hb]at h
    cases h
    have hlt:=ah hb
    have h1:ba[i.toNat]? =some c:=by
     have hlt':i.toNat<ba.size:=by rw[Array.length_toList]at hlt;exact hlt
     rw[getElem?_pos ba i.toNat hlt']
     rw[List.getElem?_eq_getElem hlt]at hb
     rw[←hb]
     rfl
    have hii:0≤i:=by omega
    have e:(if 0≤i then ba[i.toNat]? else none)=some c:=by rw[if_pos hii];exact h1
    exact⟨.int .u8 c.toNat,by simp only[Instr.index,asIntOf,Sem.run_bind,Sem.run_pure,Result.andThen_ok,run_underlying hu,e],.int _ _⟩
 ·rename_i len e cs k i hu
  split at h
  ·rename_i hlt
   cases hn:au P e with
   | none=>rw[hn]at h;cases h
   | some n=>
    rw[hn]at h
    simp only[Option.bind_some]at h
    cases hi
    cases hx
    rename_i vs hl hr
    obtain⟨v',h1,h2⟩:=iN (P:=P) (w:=w) (σ:=σ) (T:=T) ⟨hl,hr⟩ h
    have hii:0≤i∧i<(len:Int):=by omega
    refine⟨v',?_,h2⟩
    simp only[Instr.index,asIntOf,Sem.run_bind,Sem.run_pure,Result.andThen_ok,run_underlying hu]
    rw[if_pos hii]
    simp only[Sem.run_bind,aS hn,Result.andThen_ok,h1]
  ·cases h
 ·cases h
theorem gw{x:AV}{x':Value}{n:Nat}(hx:aw w σ T x x')(h:ju x=some n):∃k i,x'=.int k i∧0≤i∧i.toNat=n:=by
 unfold ju at h
 split at h
 ·rename_i k i
  split at h
  ·rename_i h0;cases h;cases hx;exact⟨k,i,rfl,h0,rfl⟩
  ·cases h
 ·cases h
end
end Go.Proofs.YtelgfgfgghpjgaaGreatDoor.Am
end
section
namespace Go.Proofs.YtelgfgfgghpjgaaGreatDoor.Am
structure sc(P:Program)(t:TypeId)(ts:List TypeId):Prop where
 under:P.underlying t=some (.struct (P.fieldsOf t))
 stood:P.stoodInHeld t=false
 guard:P.eqGuardType P.depth t=false
 types:(P.fieldsOf t).toList.map (·.type)=ts
 fields : ∀ (i : Nat) (f : Field), (P.fieldsOf t).toList[i]? = some f → f.name ≠ "_" ∧ f.offset = i ∧ b0 P f.type = some false
section
variable {P:Program} {w:World} {σ:aC} {T:Nat→Prop}
theorem bytes_beq(a b:ByteArray):(a.toList==b.toList)=(a.data.toList==b.data.toList):=by rw[ByteArray.toList_eq,ByteArray.toList_eq]
theorem j4{t:TypeId}{x y:AV}{x' y':Value}{r:Bool}{d:Nat}(hx:aw w σ T x x')(hy:aw w σ T y y')(h:kR P t x y=some r):
  (Op.equalIn (d+1) t x' y').run P w=.ok r w:=by
 unfold kR at h
 split at h
 case h_1 hu=>
  split at h
  ·rename_i hk;subst hk;cases h;cases hx;cases hy;exact run_equalIn_int w d t _ _ _ _ hu
  ·cases h
 case h_2 hu=>cases h;cases hx;cases hy;exact run_equalIn_bool' w d t _ _ hu
 case h_3 hu=>cases h;cases hx;cases hy;rw[run_equalIn_string w d t _ _ hu,bytes_beq]
 case h_4 hu=>cases h;cases hx;cases hy;simp[Op.equalIn,run_underlying hu]
 case h_5 hu=>cases h;cases hx;cases hy;simp[Op.equalIn,run_underlying hu]
 case h_6 hu=>cases h;cases hx;cases hy;simp[Op.equalIn,run_underlying hu]
 case h_7 hu=>cases h;cases hx;cases hy;simp[Op.equalIn,run_underlying hu]
 case h_8 hu=>cases h;cases hx;cases hy;simp[Op.equalIn,run_underlying hu]
 case h_9 hu=>cases h;cases hx;cases hy;simp[Op.equalIn,run_underlying hu]
 case h_10 hu=>cases h;cases hx;cases hy;simp[Op.equalIn,run_underlying hu]
 case h_11 hu=>cases h;cases hx;cases hy;simp[Op.equalIn,run_underlying hu]
 case h_12 hu=>cases h;cases hx;cases hy;simp[Op.equalIn,run_underlying hu]
 case h_13 hu=>cases h;cases hx;cases hy;simp[Op.equalIn,run_underlying hu]
 case h_14=>cases h
theorem oS{t:TypeId}{cs:List AV}{vs:List Value}{i:Nat}{a:AV}(ht:b0 P t=some false)(h:bk w σ T cs vs)(ha:cs[i]? =some a):
  ∃v,(part t vs.toArray i).run P w=.ok v w∧aw w σ T a v:=by
 have hi:=ah ha
 have hi':i<vs.length:=by rw[←h.1];exact hi
 exact⟨vs[i],by simp[part,eO ht,hi'],h.2 i a _ ha (List.getElem?_eq_getElem hi')⟩
theorem i2{d:Nat}{cs ds:List AV}{xs ys:List Value}(hc:bk w σ T cs xs)(hd:bk w σ T ds ys):∀(fs:List Field) (k:Nat) (r:Bool),
  (∀ (i : Nat) (f : Field), fs[i]? = some f → f.name ≠ "_" ∧ f.offset = k + i ∧ b0 P f.type = some false) → nY P (fs.map (·.type)) (cs.drop k) (ds.drop k) = some r→
  (Op.eqFields (d+1) xs.toArray ys.toArray fs).run P w=.ok r w
 | [],k,r,_,h=>by
  unfold nY at h
  split at h
  ·cases h;rfl
  ·simp_all
  ·cases h
 | f::fs,k,r,hf,h=>by
  unfold nY at h
  split at h
  ·rename_i e _ _;cases e
  ·rename_i t ts a l b m e1 e2 e3
   cases e1
   obtain⟨h1,h2,h3⟩:=hf 0 f rfl
   have ha:cs[k]? =some a:=by have:=congrArg (·[0]?) e2;simpa[List.getElem?_drop]using this
   have hb:ds[k]? =some b:=by have:=congrArg (·[0]?) e3;simpa[List.getElem?_drop]using this
   have hl:l=cs.drop (k+1):=by have:=congrArg List.tail e2;simpa[List.tail_drop]using this.symm
   have hm:m=ds.drop (k+1):=by have:=congrArg List.tail e3;simpa[List.tail_drop]using this.symm
   simp only[Nat.add_zero]at h2
   obtain⟨u,hu1,hu2⟩:=oS (P:=P) h3 hc ha
   obtain⟨v,hv1,hv2⟩:=oS (P:=P) h3 hd hb
   rw[←h2]at hu1 hv1
   simp only[Op.eqFields,if_pos h1,Sem.run_bind,hu1,hv1,Result.andThen_ok]
   split at h
   ·rename_i he
    rw[j4 hu2 hv2 he]
    simp only[Result.andThen_ok,Bool.not_true,Bool.false_eq_true,if_false]
    exact i2 hc hd fs (k+1) r (fun i g hg=>by have:=hf (i+1) g (by simpa using hg);refine⟨this.1,by rw[this.2.1];omega,this.2.2⟩) (by rw[←hl,←hm];exact h)
   ·rename_i he
    rw[j4 hu2 hv2 h]
    cases r with
    | true=>exact absurd h he
    | false=>rfl
  ·cases h
theorem nq{op:BinOp}{t:TypeId}{x y:Operand}{a b:Value}(h:∀xs,a≠.agg xs)(h':a≠.nilIface):(eqGuard op t x y a b).run P w=.ok () w:=by
 cases a<;>cases op<;>simp_all[eqGuard]
theorem kT:∀(a b:List UInt8),jt a b=Op.bytesLess a b
 | _,[]=>by cases ‹List UInt8›<;>rfl
 | [],_::_=>rfl
 | a::x,b::y=>by simp[jt,Op.bytesLess,kT x y]
theorem aw.ne_agg{a:AV}{v:Value}(h:aw w σ T a v)(hc:∀cs,a≠.agg cs)(hj:a≠.junk):(∀xs,v≠.agg xs)∧v≠.nilIface:=by
 cases h<;>first | (exact absurd rfl (hc _)) | (exact absurd rfl hj) | (constructor<;>simp)
theorem sd{op:UnOp}{x v:AV}{x':Value}(hx:aw w σ T x x')(h:xy op x=some v):∃v',(Op.unary op x').run P w=.ok v' w∧aw w σ T v v':=by
 unfold xy at h
 split at h
 ·cases h;cases hx;exact⟨_,rfl,.int _ _⟩
 ·cases h;cases hx;exact⟨_,rfl,.bool _⟩
 ·cases h
theorem pY{s d:TypeId}{x v:AV}{x':Value}(hx:aw w σ T x x')(h:oL P s d x=some v):∃v',(convert s d x').run P w=.ok v' w∧aw w σ T v v':=by
 unfold oL at h
 split at h
 ·rename_i hu hv;cases h;cases hx;exact⟨_,by simp[convert,run_underlying hu,run_underlying hv,Conv.intToInt],.int _ _⟩
 ·rename_i hu hv;cases h;cases hx;exact⟨_,by simp[convert,run_underlying hu,run_underlying hv],.str _⟩
 ·cases h
end
end Go.Proofs.YtelgfgfgghpjgaaGreatDoor.Am
end
section
namespace Go.Proofs.YtelgfgfgghpjgaaGreatDoor.Am
section
variable {P:Program} {w:World} {σ:aC} {T:Nat→Prop}
theorem fg{op:BinOp}{t:TypeId}{k k':IntKind}{a b:Int}{v:AV}(F:TypeId→Option (List TypeId))(h:cX P F op t (.int k a) (.int k' b)=some v):
  ∃v',(binOp op t (.int k a) (.int k' b)).run P w=.ok v' w∧aw w σ T v v':=by
 by_cases hk:k=k'
 ·subst hk
  cases op<;>simp only[cX,ne_eq,not_true_eq_false,if_false,reduceCtorEq,Option.some.injEq]at h
  case shl=>
   split at h
   ·rename_i hb;cases h
    exact⟨_,by simp only[binOp,Op.shift];rw[if_neg (by omega)];rfl,.int _ _⟩
   ·cases h
  case shr=>
   split at h
   ·rename_i hb;cases h
    exact⟨_,by simp only[binOp,Op.shift];rw[if_neg (by omega)];rfl,.int _ _⟩
   ·cases h
  case quo=>
   split at h
   ·cases h
   ·rename_i hb;cases h
    exact⟨_,by simp only[binOp,Op.intDiv,ne_eq,not_true_eq_false,if_false];rw[if_neg hb];rfl,.int _ _⟩
  case rem=>
   split at h
   ·cases h
   ·rename_i hb;cases h
    exact⟨_,by simp only[binOp,Op.intDiv,ne_eq,not_true_eq_false,if_false];rw[if_neg hb];rfl,.int _ _⟩
  all_goals (subst h;refine⟨_,by simp only[binOp,ne_eq,not_true_eq_false,if_false];rfl,?_⟩;constructor)
 ·cases op<;>simp only[cX,ne_eq,hk,not_false_eq_true,if_true,reduceCtorEq]at h
  case shl=>
   split at h
   ·rename_i hb;cases h
    exact⟨_,by simp only[binOp,Op.shift];rw[if_neg (by omega)];rfl,.int _ _⟩
   ·cases h
  case shr=>
   split at h
   ·rename_i hb;cases h
    exact⟨_,by simp only[binOp,Op.shift];rw[if_neg (by omega)];rfl,.int _ _⟩
   ·cases h
theorem qG{l:List UInt8}{s:ByteArray}(h:s.data.toList=l):aw w σ T (.str l) (.string s):=by subst h;exact .str s
theorem n0{op:BinOp}{t:TypeId}{a b:ByteArray}{v:AV}(F:TypeId→Option (List TypeId))(h:cX P F op t (.str a.data.toList) (.str b.data.toList)=some v):
  ∃v',(binOp op t (.string a) (.string b)).run P w=.ok v' w∧aw w σ T v v':=by
 cases op<;>simp only[cX,reduceCtorEq,Option.some.injEq]at h
 case add=>
  split at h
  ·rename_i hl
   cases h
   have hn:¬((a.size+b.size:Nat):Int) > IntKind.i64.max:=by
    have h1:a.data.toList.length=a.size:=Array.length_toList
    have h2:b.data.toList.length=b.size:=Array.length_toList
    rw[h1,h2]at hl
    have:(IntKind.i64.max:Int)=9223372036854775807:=by decide
    rw[this];omega
   exact⟨_,by simp only[binOp,Op.stringOp];rw[if_neg hn];rfl,qG (by simp)⟩
  ·cases h
 case eql=>subst h;exact⟨_,rfl,by rw[bytes_beq];exact .bool _⟩
 case neq=>subst h;exact⟨_,rfl,by rw[bytes_beq];exact .bool _⟩
 case lss=>subst h;exact⟨_,rfl,by rw[kT,ByteArray.toList_eq,ByteArray.toList_eq];exact .bool _⟩
theorem tL{t:TypeId}{x' y':Value}{r:Bool}(h:(Op.equalIn 10000 t x' y').run P w=.ok r w)
  (hx:∀k n,x'≠.int k n) (hs:∀s,x'≠.string s) (hf:∀k n,x'≠.float k n) (hc:∀k a b,x'≠.complex k a b) :
  (binOp .eql t x' y').run P w=.ok (.bool r) w∧(binOp .neq t x' y').run P w=.ok (.bool !r) w:=by
 constructor
 ·cases x'<;>simp_all[binOp,Op.equal,Op.maxDepth]
 ·cases x'<;>simp_all[binOp,Op.equal,Op.maxDepth]
theorem j5{t:TypeId}{x y:AV}{x':Value}{r:Bool}(h:kR P t x y=some r)(hx:aw w σ T x x')(h1:∀k n,x≠.int k n)(h2:∀s,x≠.str s):
  (∀k n,x'≠.int k n)∧(∀s,x'≠.string s)∧(∀k n,x'≠.float k n)∧(∀k a b,x'≠.complex k a b)∧(∀cs,x≠.agg cs)∧x≠.junk:=by
 have hj:x≠.junk∧∀cs,x≠.agg cs:=by
  constructor
  ·rintro rfl;unfold kR at h;split at h<;>simp_all
  ·rintro cs rfl;unfold kR at h;split at h<;>simp_all
 cases hx<;>simp_all
theorem lH{t:TypeId}{x y:AV}{r:Bool}(h:kR P t x y=some r)(hy:y=.nilp∨y=.nils):(∀k n,x≠.int k n)∧(∀s,x≠.str s):=by
 rcases hy with rfl | rfl
 ·constructor
  ·rintro k n rfl;unfold kR at h;split at h<;>simp_all
  ·rintro s rfl;unfold kR at h;split at h<;>simp_all
 ·constructor
  ·rintro k n rfl;unfold kR at h;split at h<;>simp_all
  ·rintro s rfl;unfold kR at h;split at h<;>simp_all
theorem rq{F:TypeId→Option (List TypeId)}(hF:∀t ts,F t=some ts→sc P t ts){op:BinOp}{t:TypeId}{ox oy:Operand}{x y v:AV}{x' y':Value}(hx:aw w σ T x x')(hy:aw w σ T y y')
  (h:cX P F op t x y=some v):∃v',(do eqGuard op t ox oy x' y';binOp op t x' y':Sem Value).run P w=.ok v' w∧aw w σ T v v':=by
 have other:(∀cs,x≠.agg cs)→x≠.junk→(∃v',(binOp op t x' y').run P w=.ok v' w∧aw w σ T v v')→∃v',(do eqGuard op t ox oy x' y';binOp op t x' y':Sem Value).run P w=.ok v' w∧aw w σ T v v':=by
  intro h1 h2 ⟨v',h3,h4⟩
  obtain⟨h5,h6⟩:=hx.ne_agg h1 h2
  exact⟨v',by simp only[Sem.run_bind,nq h5 h6,Result.andThen_ok,h3],h4⟩
 have eqs:∀r,kR P t x y=some r→(∀k n,x'≠.int k n)→(∀s,x'≠.string s)→(∀k n,x'≠.float k n)→(∀k a b,x'≠.complex k a b)→
   (binOp .eql t x' y').run P w=.ok (.bool r) w∧(binOp .neq t x' y').run P w=.ok (.bool !r) w:=fun r hr=>tL (j4 hx hy hr)
 have h0:=h
 unfold cX at h
 split at h
 case h_1=>cases hx;cases hy;exact other (by simp) (by simp) (fg F h0)
 case h_2=>cases hx;cases hy;exact other (by simp) (by simp) (fg F h0)
 case h_3=>cases hx;cases hy;exact other (by simp) (by simp) (fg F h0)
 case h_4=>cases hx;cases hy;exact other (by simp) (by simp) (n0 F h0)
 case h_5 a b=>
  cases hf:F t with
  | none=>rw[hf]at h;cases h
  | some ts=>
   rw[hf]at h
   simp only[Option.bind_some]at h
   cases he:nY P ts a b with
   | none=>rw[he]at h;cases h
   | some r=>
    rw[he]at h
    cases h
    cases hx with
    | agg _ xs hl1 hr1=>
    cases hy with
    | agg _ ys hl2 hr2=>
    have fl:=hF t ts hf
    have:=i2 (P:=P) (w:=w) (σ:=σ) (T:=T) (d:=9998) ⟨hl1,hr1⟩ ⟨hl2,hr2⟩ (P.fieldsOf t).toList 0 r (fun i f hi=>by have:=fl.fields i f hi;simpa using this) (by rw[fl.types];simpa using he)
    refine⟨.bool r,?_,.bool r⟩
    simp only[Sem.run_bind,run_eqGuard_agg w _ t ox oy _ _ fl.guard,Result.andThen_ok,run_eql_struct]
    rw[run_equalIn_agg w 9999 t _ _ fl.under fl.stood,this]
    rfl
 case h_6 a b=>
  cases hf:F t with
  | none=>rw[hf]at h;cases h
  | some ts=>
   rw[hf]at h
   simp only[Option.bind_some]at h
   cases he:nY P ts a b with
   | none=>rw[he]at h;cases h
   | some r=>
    rw[he]at h
    cases h
    cases hx with
    | agg _ xs hl1 hr1=>
    cases hy with
    | agg _ ys hl2 hr2=>
    have fl:=hF t ts hf
    have:=i2 (P:=P) (w:=w) (σ:=σ) (T:=T) (d:=9998) ⟨hl1,hr1⟩ ⟨hl2,hr2⟩ (P.fieldsOf t).toList 0 r (fun i f hi=>by have:=fl.fields i f hi;simpa using this) (by rw[fl.types];simpa using he)
    refine⟨.bool !r,?_,.bool !r⟩
    simp only[Sem.run_bind,run_eqGuard_agg w _ t ox oy _ _ fl.guard,Result.andThen_ok,run_neq_struct]
    rw[run_equalIn_agg w 9999 t _ _ fl.under fl.stood,this]
    rfl
 case h_17=>cases h
 all_goals
  cases he:kR P t _ _ with
  | none=>rw[he]at h;cases h
  | some r=>
   rw[he]at h
   cases h
   first
    | (obtain⟨p1,p2,p3,p4,p5,p6⟩:=j5 he hx (lH he (.inl rfl)).1 (lH he (.inl rfl)).2;obtain⟨e1,e2⟩:=eqs r he p1 p2 p3 p4;first | exact other p5 p6 ⟨_,e1,.bool _⟩ | exact other p5 p6 ⟨_,e2,.bool _⟩)
    | (obtain⟨p1,p2,p3,p4,p5,p6⟩:=j5 he hx (lH he (.inr rfl)).1 (lH he (.inr rfl)).2;obtain⟨e1,e2⟩:=eqs r he p1 p2 p3 p4;first | exact other p5 p6 ⟨_,e1,.bool _⟩ | exact other p5 p6 ⟨_,e2,.bool _⟩)
    | (obtain⟨p1,p2,p3,p4,p5,p6⟩:=j5 he hx (by simp) (by simp);obtain⟨e1,e2⟩:=eqs r he p1 p2 p3 p4;first | exact other p5 p6 ⟨_,e1,.bool _⟩ | exact other p5 p6 ⟨_,e2,.bool _⟩)
theorem eP{a:AV}{v:Value}{n y:Nat}{code:BoundsCode}(hr:aw w σ T a v)(h:ju a=some n)(hn:n≤y):(Instr.sliceBound v y code).run P w=.ok n w:=by
 obtain⟨k,i,rfl,h0,rfl⟩:=gw hr h
 have:0≤i∧i≤(y:Int):=by omega
 simp only[Instr.sliceBound,asIntOf,Sem.run_bind,Sem.run_pure,Result.andThen_ok,Sem.run_ite]
 rw[if_pos this]
def pZ(w:World)(σ:aC)(T:Nat→Prop)(x:Option AV)(x':Option Value):Prop:=
 match x,x' with
 | none,none=>True
 | some a,some v=>aw w σ T a v
 | _,_=>False
theorem dw{lo hi mx:Option AV}{lo' hi' mx':Option Value}{n c l h m:Nat}{isS:Bool}(hlo:pZ w σ T lo lo')(hhi:pZ w σ T hi hi')(hmx:pZ w σ T mx mx')(hmh:hi=none→mx=none)
  (h1:bn lo 0=some l) (h2:bn hi n=some h) (h3:bn mx n=some m) (hc:n≤c) (b1:l≤h) (b2:h≤m) (b3:m≤n) :
  ∃m',(Instr.sliceBounds isS n c lo' hi' mx').run P w=.ok (l,h,m') w∧h≤m'∧m'≤c∧(mx.isSome=true→m'=m):=by
 match mx,mx',hmx with
 | none,none,_=>
  cases h3
  refine⟨c,?_,by omega,Nat.le_refl _,by simp⟩
  match hi,hi',hhi with
  | none,none,_=>
   cases h2
   match lo,lo',hlo with
   | none,none,_=>cases h1;simp[Instr.sliceBounds]
   | some a,some v,hr=>simp[Instr.sliceBounds,eP (P:=P) hr h1 b1]
  | some a,some v,hr=>
   have e:=eP (P:=P) (code:=if isS=true then .sliceAcap else .sliceAlen) hr h2 (show h≤c by omega)
   match lo,lo',hlo with
   | none,none,_=>cases h1;simp[Instr.sliceBounds,e]
   | some a,some v,hr=>simp[Instr.sliceBounds,e,eP (P:=P) hr h1 b1]
 | some a,some v,hr=>
  have e0:=eP (P:=P) (code:=if isS=true then .slice3Acap else .slice3Alen) hr h3 (show m≤c by omega)
  refine⟨m,?_,b2,by omega,fun _=>rfl⟩
  match hi,hi',hhi with
  | none,none,_=>exact absurd (hmh rfl) (by simp)
  | some a,some v,hr=>
   have e:=eP (P:=P) (code:=.slice3B) hr h2 b2
   match lo,lo',hlo with
   | none,none,_=>cases h1;simp[Instr.sliceBounds,e0,e]
   | some a,some v,hr=>simp[Instr.sliceBounds,e0,e,eP (P:=P) hr h1 b1]
theorem bQ{t e:TypeId}{A:Option Addr}{n cap l h m sz:Nat}{lo hi mx:Option Value}(hu:P.underlying t=some (.slice e))(hsz:au P e=some sz)
  (h4:(Instr.sliceBounds true n cap lo hi mx).run P w=.ok (l,h,m) w) :
  (Instr.sliceAt t (.slice A n cap) lo hi mx).run P w=.ok (.slice (if m=l then A else A.map (·.add (l*sz))) (h-l) (m-l)) w:=by
 simp only[Instr.sliceAt,Instr.slice,Sem.run_bind,run_underlying hu,Result.andThen_ok,h4,aS hsz,Sem.run_pure]
theorem oT{H:aa}(hW:ay w σ H){t:TypeId}{x v:AV}{lo hi mx:Option AV}{x':Value}{lo' hi' mx':Option Value}(hx:aw w σ (aq σ H) x x')
  (hlo:pZ w σ (aq σ H) lo lo') (hhi:pZ w σ (aq σ H) hi hi') (hmx:pZ w σ (aq σ H) mx mx') (hmh:hi=none→mx=none)
  (h:eh P (ff H x) t x lo hi mx=some v):∃v',(Instr.sliceAt t x' lo' hi' mx').run P w=.ok v' w∧aw w σ (aq σ H) v v':=by
 unfold eh at h
 split at h
 ·rename_i e n hu hlen
  split at h
  ·rename_i l hh m h1 h2 h3
   split at h
   ·rename_i hb
    obtain⟨⟨b1,b2,b3⟩,hsome⟩:=hb
    have hes:∃sz,au P e=some sz:=Option.isSome_iff_exists.1 hsome
    split at h
    ·cases h
     cases hx
     cases hlen
     obtain⟨m',h4,h5,h6,h7⟩:=dw (P:=P) (isS:=true) hlo hhi hmx hmh h1 h2 h3 (Nat.le_refl 0) b1 b2 b3
     obtain rfl:m'=0:=by omega
     obtain rfl:hh=0:=by omega
     obtain rfl:l=0:=by omega
     obtain⟨sz,hsz⟩:∃sz,au P e=some sz:=hes
     exact⟨_,bQ hu hsz h4,by simpa using aw.nils⟩
    ·rename_i b i k
     cases hlen
     obtain⟨pl,a,cap,rfl,hs,hn,hm,ha⟩:=hx.sl_inv
     obtain⟨m',h4,h5,h6,h7⟩:=dw (P:=P) (isS:=true) hlo hhi hmx hmh h1 h2 h3 hn b1 b2 b3
     cases hy:H.get b with
     | none=>simp[ff,hy]at h
     | some y=>
      simp only[ff,hy,Option.map_some,Option.isSome_some,true_and]at h
      split at h
      ·rename_i hsz
       cases h
       obtain⟨pl',cs',e',g1,g2⟩:=hW.live b y hy
       rw[hs]at g1
       cases g1
       have hp:=hx.sl_ok hs
       replace g2:=g2.1 hp
       by_cases hml:m'=l
       ·refine⟨.slice (some a) (hh-l) (m'-l),by rw[bQ hu hsz h4,if_pos hml],?_⟩
        exact .sl b (i+l) (hh-l) pl a (m'-l) hs hp (by omega) (by omega) (by omega)
       ·obtain⟨rfl,cs,ty,hc,hr⟩:=ha (by omega)
        refine⟨.slice (some ⟨pl.block,pl.base+i*pl.size+l*y.size,none⟩) (hh-l) (m'-l),by rw[bQ hu hsz h4,if_neg hml,Option.map_some,bO],?_⟩
        refine .sl b (i+l) (hh-l) pl _ (m'-l) hs hp (by omega) (by omega) fun _=>⟨?_,cs,ty,hc,?_⟩
        ·rw[←g2.size,Nat.add_mul,Nat.add_assoc]
        ·have:(i+l+(m'-l))*pl.size≤(i+cap)*pl.size:=Nat.mul_le_mul_right _ (by omega)
         omega
      ·cases h
    ·rename_i rows
     cases hlen
     obtain⟨A,cap,rfl,hn,hm,ha⟩:=hx.lst_inv
     obtain⟨m',h4,h5,h6,h7⟩:=dw (P:=P) (isS:=true) hlo hhi hmx hmh h1 h2 h3 hn b1 b2 b3
     split at h
     ·rename_i hml
      cases h
      obtain⟨sz,hsz⟩:∃sz,au P e=some sz:=hes
      have e1:=h7 hml.1
      refine⟨.slice A (hh-l) (m'-l),by rw[bQ hu hsz h4,if_pos (by omega)],?_⟩
      rw[show hh-l=0 by omega,show m'-l=0 by omega]
      exact .emp _
     split at h
     ·cases h
      obtain⟨sz,hsz⟩:∃sz,au P e=some sz:=hes
      obtain rfl:hh=0:=by simp at b3;omega
      obtain rfl:l=0:=by omega
      exact⟨_,bQ hu hsz h4,.lst0 _ _ (by omega)⟩
     ·rename_i r rs
      split at h
      ·rename_i hsz
       cases h
       obtain⟨b,o,sz,rfl,hl,hrep⟩:=ha (by simp)
       obtain rfl:r.length=sz:=hl.even 0 r rfl
       by_cases hml:m'=l
       ·have:hh-l=0:=by omega
        rw[this,List.take_zero]
        exact⟨.slice (some ⟨b,o,none⟩) (hh-l) (m'-l),by rw[bQ hu hsz h4,if_pos hml],by rw[this];exact .lst0 _ _ (by omega)⟩
       ·refine⟨.slice (some ⟨b,o+l*r.length,none⟩) (hh-l) (m'-l),by rw[bQ hu hsz h4,if_neg hml,Option.map_some,bO],?_⟩
        by_cases hz:hh-l=0
        ·rw[hz,List.take_zero];exact .lst0 _ _ (by omega)
        ·have hlen:(((r::rs).drop l).take (hh-l)).length=hh-l:=by simp at b3 ⊢;omega
         have get:∀(i:Nat) (q:List AV),(((r::rs).drop l).take (hh-l))[i]? =some q→i<hh-l∧(r::rs)[l+i]? =some q:=fun i q hq=>by
          have hi:=ah hq
          rw[hlen]at hi
          rw[List.getElem?_take_of_lt hi,List.getElem?_drop]at hq
          exact⟨hi,hq⟩
         have:=aw.lst (w:=w) (σ:=σ) (T:=aq σ H) (((r::rs).drop l).take (hh-l)) b (o+l*r.length) r.length (m'-l)
          ⟨hl.out,fun i q hq=>hl.even _ q (get i q hq).2,fun i j hi hj=>by
           rw[hlen]at hi
           have:=hl.cell (l+i) j (by simp at b3 ⊢;omega) hj
           rwa [Nat.add_mul,←Nat.add_assoc]at this,hl.pos,by omega⟩ (by omega) (by omega)
          (fun i q j a u hq hj hu=>hrep (l+i) q j a u (get i q hq).2 hj (by rw[Nat.add_mul,←Nat.add_assoc];exact hu))
         rwa [hlen]at this
      ·cases h
    ·cases h
   ·cases h
  ·cases h
 ·rename_i hu
  split at h
  ·split at h
   ·rename_i l hh h1 h2
    split at h
    ·rename_i hb
     obtain⟨b1,b2⟩:=hb
     cases h
     cases hx with
     | str ba=>
     have hln:ba.data.toList.length=ba.size:=Array.length_toList
     have hmx2:mx'=none:=by
      match mx',hmx with
      | none,_=>rfl
     subst hmx2
     obtain⟨m',h4,h5,h6,h7⟩:=dw (P:=P) (isS:=false) (n:=ba.size) (c:=ba.size) (m:=ba.size) (mx:=none) (mx':=none) hlo hhi trivial (fun _=>rfl) h1 (by rw[←hln];exact h2) rfl (Nat.le_refl _) b1 (by omega) (Nat.le_refl _)
     refine⟨.string (ba.extract l hh),by simp only[Instr.sliceAt,Instr.slice,Sem.run_bind,run_underlying hu,Result.andThen_ok,h4,Sem.run_pure,Option.isSome_none,Bool.false_eq_true,if_false],qG ?_⟩
     rw[Lib.extract_data]
    ·cases h
   ·cases h
  ·cases h
 ·cases h
end
end Go.Proofs.YtelgfgfgghpjgaaGreatDoor.Am
end
section
namespace Go.Proofs.YtelgfgfgghpjgaaGreatDoor.Am
section
variable {P:Program} {w:World} {σ:aC} {T:Nat→Prop}
theorem j6:∀(vs:List Value) (k off:Nat) (cs:Array Value),off+k+vs.length≤cs.size→
  ((vs.zipIdx k).foldl (fun(cs:Array Value) (p:Value×Nat)=>cs.setIfInBounds (off+p.2) p.1) cs).toList=cs.toList.take (off+k)++vs++cs.toList.drop (off+k+vs.length)
 | [],k,off,cs,_=>by simp
 | v::vs,k,off,cs,h=>by
  simp only[List.length_cons]at h
  rw[List.zipIdx_cons,List.foldl_cons,j6 vs (k+1) off _ (by simp;omega)]
  have e:=list_seg_step cs.toList (off+k) v vs (by simp;omega)
  simpa[Array.toList_setIfInBounds,Nat.add_assoc]using e
theorem bk.splice{cells cs:List AV}{vs us:List Value}{off:Nat}(h:bk w σ T cells vs)(k:bk w σ T cs us)(hl:off+cs.length≤cells.length):
  bk w σ T (aP cells off cs) (vs.take off++us++vs.drop (off+us.length)):=by
 refine⟨by simp[aP,h.1,k.1],fun i a v h1 h2=>?_⟩
 unfold aP at h1
 have e1:=h.1
 have e2:=k.1
 rcases Nat.lt_or_ge i off with hi | hi
 ·rw[List.append_assoc,List.getElem?_append_left (by simp;omega),List.getElem?_take_of_lt hi]at h1 h2
  exact h.2 i a v h1 h2
 ·rcases Nat.lt_or_ge i (off+cs.length)with hj | hj
  ·rw[List.getElem?_append_left (by simp;omega),List.getElem?_append_right (by simp;omega)]at h1 h2
   simp only[List.length_take]at h1 h2
   rw[Nat.min_eq_left (by omega)]at h1 h2
   exact k.2 _ a v h1 h2
  ·rw[List.getElem?_append_right (by simp;omega)]at h1 h2
   simp only[List.length_append,List.length_take,List.getElem?_drop]at h1 h2
   rw[Nat.min_eq_left (by omega)]at h1 h2
   rw[←e2]at h2
   exact h.2 _ a v h1 h2
theorem i3{place:Nat→Option (Nat×Nat)}{ρ:Operand→AV}{ρ':Operand→Value}(hρ:∀x,aw w σ T (ρ x) (ρ' x)):∀(ps:List (Nat×Operand)) (cells r:List AV) (cells':Array Value),
  bk w σ T cells cells'.toList→js place cells (ps.map fun p=>(p.1,ρ p.2))=some r→∃r',Instr.fill place cells' (ps.map fun p=>(p.1,ρ' p.2))=some r'∧bk w σ T r r'.toList
 | [],cells,r,cells',hc,h=>by cases h;exact⟨cells',rfl,hc⟩
 | (i,x)::ps,cells,r,cells',hc,h=>by
  simp only[List.map_cons,js]at h
  split at h
  ·rename_i off size cs hp hcs
   split at h
   ·rename_i hl
    obtain⟨hl1,hl2,_⟩:=hl
    have hx:=(hρ x).cells hcs
    have e1:(ρ' x).cells.size=size:=by rw[←Array.length_toList,←hx.1,hl1]
    have e2:cells'.size=cells.length:=by rw[←Array.length_toList,←hc.1]
    have hfold:((ρ' x).cells.zipIdx.foldl (fun(cs:Array Value) (p:Value×Nat)=>cs.setIfInBounds (off+p.2) p.1) cells').toList=cells'.toList.take off++(ρ' x).cells.toList++cells'.toList.drop (off+(ρ' x).cells.toList.length):=by
     have:=j6 (ρ' x).cells.toList 0 off cells' (by simp;omega)
     rw[←Array.foldl_toList,Array.toList_zipIdx]
     simpa using this
    obtain⟨r',h1,h2⟩:=i3 hρ ps (aP cells off cs) r _ (by rw[hfold];exact hc.splice hx (by omega)) h
    refine⟨r',?_,h2⟩
    have hcond:(decide ((ρ' x).cells.size≠size)||decide (off+(ρ' x).cells.size > cells'.size))=false:=by simp[e1,e2];omega
    simp only[List.map_cons,Instr.fill,hp,hcond,Bool.false_eq_true,if_false]
    exact h1
   ·cases h
  ·cases h
theorem jy{α β:Type}(f:α→Sem β)(g:α→β):∀(l:List α),(∀x∈l,(f x).run P w=.ok (g x) w)→(l.mapM f).run P w=.ok (l.map g) w
 | [],_=>by simp
 | x::l,h=>by
  rw[List.mapM_cons]
  simp only[Sem.run_bind,h x (by simp),Result.andThen_ok,jy f g l (fun y hy=>h y (by simp[hy])),Sem.run_pure,List.map_cons]
theorem nr{α β:Type}(f:α→Sem β)(g:α→β)(l:Array α)(h:∀x∈l.toList,(f x).run P w=.ok (g x) w):(l.mapM f).run P w=.ok (l.toList.map g).toArray w:=by
 rw[Array.mapM_eq_mapM_toList]
 simp only[Sem.run_map,jy f g l.toList h,Result.andThen_ok]
structure p7(P:Program)(F:TypeId→Option (List TypeId)):Prop where
 flat:∀t ts,F t=some ts→sc P t ts
 names : ∀ (g : Nat) (fn : Func), P.funcs[g]? = some fn → fn.name ≠ "runtime.NumGoroutine"
 order:P.follows .mixedOrders=true
theorem oU{t:TypeId}{ps:Array (Nat×Operand)}{v:AV}{ρ:Operand→AV}{ρ':Operand→Value}(hρ:∀x,aw w σ T (ρ x) (ρ' x))(h:lK P t (ps.toList.map fun p=>(p.1,ρ p.2))=some v):
  ∃v',(Instr.build t (ps.map fun(i,x)=>(i,ρ' x))).run P w=.ok v' w∧aw w σ T v v':=by
 have hps:(ps.map fun(i,x)=>(i,ρ' x)).toList=ps.toList.map fun p=>(p.1,ρ' p.2):=by simp
 unfold lK at h
 split at h
 ·rename_i fs z hu hz
  split at h
  ·rename_i hall
   have hf:∀f∈fs.toList,∃n,au P f.type=some n:=fun f hfm=>by
    rw[List.all_eq_true]at hall
    exact Option.isSome_iff_exists.1 (hall f hfm)
   obtain⟨z',hz1,hz2⟩:=bP (P:=P) (w:=w) (σ:=σ) (T:=T) hz
   cases hr:js (fe P fs) z (ps.toList.map fun p=>(p.1,ρ p.2))with
   | none=>rw[hr]at h;cases h
   | some r=>
    rw[hr]at h
    cases h
    have hcells:=hz2.cells (cs:=z) rfl
    have hm:=nr (P:=P) (w:=w) (fun f:Field=>(do pure (f.offset,←sizeOf f.type):Sem (Nat×Nat))) (fun f=>(f.offset,(au P f.type).getD 0)) fs (fun f hfm=>by
     obtain⟨n,hn⟩:=hf f hfm
     simp[aS hn,hn])
    have hpl:(fun i=>((fs.toList.map fun f:Field=>(f.offset,(au P f.type).getD 0)).toArray)[i]?)=fe P fs:=by
     funext i
     unfold fe
     rw[List.getElem?_toArray,List.getElem?_map,Array.getElem?_toList]
     cases hfi:fs[i]? with
     | none=>rfl
     | some f=>
      obtain⟨n,hn⟩:=hf f (by rw[Array.mem_toList_iff];exact Array.mem_of_getElem? hfi)
      simp[hn]
    rw[←hpl]at hr
    obtain⟨r',h1,h2⟩:=i3 hρ ps.toList z r z'.cells hcells hr
    refine⟨.agg r',?_,by have:=aw.agg (w:=w) (σ:=σ) (T:=T) r r'.toList h2.1 h2.2;simpa using this⟩
    simp only[Instr.build,Sem.run_bind,hz1,Result.andThen_ok,run_underlying hu,hm,hps,h1,Sem.run_pure]
  ·cases h
 ·rename_i n e z hu hz
  obtain⟨z',hz1,hz2⟩:=bP (P:=P) (w:=w) (σ:=σ) (T:=T) hz
  cases hn:au P e with
  | none=>rw[hn]at h;cases h
  | some sz=>
   rw[hn]at h
   simp only[Option.bind_some]at h
   cases hr:js (fun i=>some (i*sz,sz)) z (ps.toList.map fun p=>(p.1,ρ p.2))with
   | none=>rw[hr]at h;cases h
   | some r=>
    rw[hr]at h
    cases h
    have hcells:=hz2.cells (cs:=z) rfl
    obtain⟨r',h1,h2⟩:=i3 hρ ps.toList z r z'.cells hcells hr
    refine⟨.agg r',?_,by have:=aw.agg (w:=w) (σ:=σ) (T:=T) r r'.toList h2.1 h2.2;simpa using this⟩
    simp only[Instr.build,Sem.run_bind,hz1,Result.andThen_ok,run_underlying hu,aS hn,hps,h1,Sem.run_pure]
 ·cases h
end
end Go.Proofs.YtelgfgfgghpjgaaGreatDoor.Am
end
