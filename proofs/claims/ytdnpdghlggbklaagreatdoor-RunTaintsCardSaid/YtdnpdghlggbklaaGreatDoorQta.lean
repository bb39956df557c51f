/- A part of the proof; the statement is proved in the last part. -/
import Derived.Calls
import Derived.Orders
import Derived.Below
import Derived.Handy
import Derived.RowKit
import Derived.Laws.Cells
import Derived.Laws.CopyRow
import Derived.Laws.Entries
import Derived.Laws.StructEq
import Derived.Lib.Strings
set_option linter.unusedSimpArgs false
set_option linter.unusedVariables false
namespace Go.Proofs.YtdnpdghlggbklaaGreatDoor
open Go Go.RowKit
abbrev X6:=@List.getElem?_eq_getElem
abbrev X7:=@Nat.le_refl
abbrev X8:=@List.getElem?_eq_none
abbrev X9:=@Nat.lt_or_ge
abbrev Ya:=@List.mem_cons
abbrev Yb:=@List.map_cons
abbrev Yc:=@List.map_append
abbrev Yd:=@List.take_succ_eq_append_getElem
abbrev Ye:=@List.mem_singleton
abbrev Yf:=@List.length_append
abbrev Yg:=@List.mem_append
abbrev Yh:=@List.getElem?_append_right
abbrev Yi:=@Option.some.injEq
abbrev Yj:=@List.nodup_cons
abbrev Yk:=@Result.andThen_ok
abbrev Yl:=@Bool.and_eq_true
abbrev Ym:=@List.getElem?_map
abbrev Yn:=@Nat.le_trans
abbrev Yo:=@List.all_eq_true
abbrev Yp:=@List.getElem?_append_left
abbrev Yq:=@List.mem_append_right
abbrev Yr:=@List.getElem_mem
abbrev Ys:=@List.length_cons
abbrev Yt:=@Nat.mul_le_mul_right
abbrev Yu:=@List.getElem?_set
abbrev Yv:=@Array.length_toList
abbrev Yw:=@Nat.lt_of_lt_of_le
abbrev Yx:=@List.length_take
abbrev Yy:=@Array.getElem?_toList
abbrev Yz:=@Option.map_some
abbrev YA:=@Array.getElem?_eq_getElem
abbrev YB:=@Bool.false_eq_true
abbrev YC:=@List.length_nil
abbrev YD:=@List.perm_append_comm
abbrev YE:=@Sem.run_bind
abbrev YF:=@List.not_mem_nil
abbrev YG:=@List.getElem?_take_of_lt
abbrev YH:=@List.mem_map
abbrev YI:=@Nat.le_add_right
abbrev YJ:=@List.mem_map_of_mem
abbrev YK:=@Nat.zero_le
abbrev YL:=@List.take_of_length_le
abbrev YM:=@List.append_nil
abbrev YN:=@List.mem_of_getElem?
abbrev YO:=@List.forall_mem_cons
abbrev YP:=@List.append_assoc
abbrev YQ:=@Nat.add_mul
abbrev YR:=@List.getElem?_eq_some_iff
abbrev YS:=@Sem.run_pure
abbrev YT:=@List.map_nil
abbrev YU:=@IntWalk.i64_in
abbrev YV:=@List.eq_nil_of_length_eq_zero
abbrev YW:=@Option.bind_some
abbrev YX:=@Nat.min_eq_left
abbrev YY:=@List.getElem?_drop
abbrev YZ:=@Nat.add_assoc
abbrev Y0:=@Nat.eq_zero_or_pos
abbrev Y1:=@List.mem_append_left
abbrev Y2:=@Nat.zero_add
abbrev Y3:=@List.mem_range
abbrev Y4:=@List.mem_cons_of_mem
abbrev Y5:=@List.length_eq_zero_iff
abbrev Y6:=@List.map_set
abbrev Y7:=@Int.toNat_natCast
abbrev Y8:=@List.sum_cons
abbrev Y9:=@List.length_map
abbrev Za:=@List.nil_append
abbrev Zb:=@List.length_filter_le
abbrev Zc:=@List.getElem_of_mem
abbrev Zd:=@List.nodup_nil
abbrev Ze:=@List.getD_eq_getElem?_getD
abbrev Zf:=@List.mem_or_eq_of_mem_set
abbrev Zg:=@List.drop_eq_getElem_cons
abbrev Zh:=@List.ext_getElem?
abbrev Zi:=@Nat.le_succ_of_le
abbrev Zj:=@List.mem_filter
abbrev Zk:=@Nat.eq_or_lt_of_le
abbrev Zl:=@World.ownsRow_made
abbrev Zm:=@List.getElem?_replicate
abbrev Zn:=@List.cons_append
abbrev Zo:=@Array.getElem?_eq_some_iff
abbrev Zp:=@World.ownsRow_nil
abbrev Zq:=@List.foldl_cons
abbrev Zr:=@Option.getD_some
abbrev Zs:=@List.perm_middle
abbrev Zt:=@List.sum_nil
abbrev Zu:=@Nat.le_succ
abbrev Zv:=@List.getElem?_cons_succ
abbrev Zw:=@Int.eq_ofNat_of_zero_le
abbrev Zx:=@Nat.not_lt_zero
abbrev Zy:=@Nat.add_zero
abbrev Zz:=@Option.map_eq_some_iff
abbrev ZA:=@List.length_drop
abbrev ZB:=@List.mem_cons_self
abbrev ZC:=@List.length_set
abbrev ZD:=@Bool.or_eq_true
abbrev ZE:=@Option.some.inj
abbrev ZF:=@List.nodup_append
abbrev ZG:=@List.getElem?_range
abbrev ZH:=@List.forall_mem_nil
abbrev ZI:=@List.any_eq_true
theorem ZJ{P:Prop}(h:P:=by omega):P:=h
theorem ZK{P:Prop}(h:P:=by assumption):P:=h
theorem ZL{P:Prop}(h:P:=by rfl):P:=h
theorem ZM{P:Prop}(h:P:=by simp):P:=h
theorem ZN{P:Prop}(h:P:=by decide):P:=h
end Go.Proofs.YtdnpdghlggbklaaGreatDoor
namespace Go.Proofs.YtdnpdghlggbklaaGreatDoor.Am
section
inductive Tr (α:Type) where
 |leaf
 |node (v:Option α) (l r:Tr α)
namespace Tr
variable {α:Type}
def bitsF:Nat→Nat→List Bool
 |0,_=>[]
 |_+1,0=>[]
 |f+1,n+1=>((n+1) % 2==1)::bitsF f ((n+1) / 2)
def bits(n:Nat):List Bool:=bitsF n n
def getP:Tr α→List Bool→Option α
 |leaf,_=>none
 |node v _ _,[]=>v
 |node _ l r,b::p=>if b then l.getP p else r.getP p
def setP:List Bool→Option α→Tr α→Tr α
 |[],x,leaf=>node x leaf leaf
 |[],x,node _ l r=>node x l r
 |b::p,x,leaf=>if b then node none (setP p x leaf) leaf else node none leaf (setP p x leaf)
 |b::p,x,node v l r=>if b then node v (setP p x l) r else node v l (setP p x r)
theorem getP_leaf(p:List Bool):(leaf:Tr α).getP p=none:=by cases p<;>rfl
theorem getP_setP(p q:List Bool)(x:Option α)(t:Tr α):(setP p x t).getP q=if p=q then x else t.getP q:=by
 induction p generalizing q t with
 |nil=>cases t<;>cases q<;>simp[setP,getP]
 |cons b p ih=>
  cases t<;>cases q<;>cases b<;>simp[setP,getP]
  all_goals (rename_i c q;cases c<;>simp[ih,getP_leaf])
def val:List Bool→Nat
 |[]=>0
 |b::p=>(if b then 1 else 0)+2*val p
theorem val_bitsF(f n:Nat)(h:n≤f):val (bitsF f n)=n:=by
 induction f generalizing n with
 |zero=>simp[bitsF,val];omega
 |succ f ih=>
  cases n with
  |zero=>rfl
  |succ n=>simp only[bitsF,val];rw[ih ((n+1) / 2) ZJ];by_cases h1:(n+1) % 2=1<;>simp[h1]<;>omega
theorem bits_inj{a b:Nat}(h:bits a=bits b):a=b:=by
 have:=congrArg val h
 rwa [bits,bits,val_bitsF _ _ (X7 _),val_bitsF _ _ (X7 _)]at this
def get(t:Tr α)(n:Nat):Option α:=t.getP (bits n)
def set(t:Tr α)(n:Nat)(x:Option α):Tr α:=setP (bits n) x t
theorem get_set(t:Tr α)(n m:Nat)(x:Option α):(t.set n x).get m=if n=m then x else t.get m:=by
 unfold get set;rw[getP_setP];by_cases h:n=m
 ·subst h;simp
 ·rw[if_neg h,if_neg (λe=>h (bits_inj e))]
theorem get_leaf(m:Nat):(leaf:Tr α).get m=none:=getP_leaf _
end Tr
end
section
inductive AV where
 |int (k:IntKind) (n:Int)
 |bool (b:Bool)
 |str (s:List UInt8)
 |nilp
 |ptr (b i off:Nat)
 |pptr (rows:List (List AV)) (i off:Nat)
 |nils
 |emp
 |sl (b i n:Nat)
 |lst (rows:List (List AV))
 |mp (b:Nat)
 |it (b:Nat)
 |agg (cells:List AV)
 |tup (vs:List AV)
 |fn (f:FuncId) (captured:List AV)
 |nilf
 |junk
 deriving Inhabited
def AV.cells? :AV→Option (List AV)
 |.agg cs=>some cs
 |.junk=>none
 |v=>some [v]
def AV.one:AV→Bool
 |.agg _|.tup _|.junk=>false
 |_=>true
def cu{α:Type}:List (Option α)→Option (List α)
 |[]=>some []
 |none::_=>none
 | some x::l=>match cu l with
  |some l=>some (x::l)
  |none=>none
def VB:Value→Option AV
 |.int k n=>some (.int k n)
 |.bool b=>some (.bool b)
 |.string s=>some (.str s.data.toList)
 |.pointer none=>some .nilp
 |.slice none 0 0=>some .nils
 |.nilFunc=>some .nilf
 |_=>none
def OK:Value→Option AV
 |.agg cs=>(cu (cs.toList.map VB)).map .agg
 |v=>VB v
structure Blk where
 size:Nat
 rows:List (List AV)
 deriving Inhabited
structure ac where
 next:Nat
 tr:Tr Blk
 log:List Nat
def ac.get(H:ac)(b:Nat):Option Blk:=H.tr.get b
def ac.new(H:ac)(b:Nat)(x:Blk):ac:={H with tr:=H.tr.set b (some x)}
def ac.put(H:ac)(b:Nat)(x:Option Blk):ac:={H with tr:=H.tr.set b x,log:=b::H.log}
inductive fX where
 |val (v:AV) (H:ac)
 |call (f:FuncId) (args:List AV)
section
variable (P:Program)
def aV(t:TypeId):Option Nat:=(P.info? t).map (·.size)
def jw(t:TypeId):Option Nat:=(P.info? t).map (·.bytes)
def ez(t:TypeId):Option AV:=(P.info? t).bind λi=>i.zero.bind OK
def fm(t:TypeId):Option Bool:=(P.underlying t).map fun|.struct _|.array _ _=>true|_=>false
def iq(t:TypeId)(row:List AV)(off:Nat):Option AV:=
 match fm P t,aV P t with
 |some true,some n=>if off+n≤row.length then some (.agg ((row.drop off).take n))else none
 |some false,some _=>row[off]?
 |_,_=>none
def bK(row:List AV)(off:Nat)(cs:List AV):List AV:=row.take off++cs++row.drop (off+cs.length)
def oA(H:ac)(t:TypeId):AV→Option AV
 |.ptr b i off=>(H.get b).bind λx=>(x.rows[i]?).bind λr=>iq P t r off
 |.pptr rows i off=>(rows[i]?).bind λr=>iq P t r off
 |_=>none
def gl(H:ac)(t:TypeId)(a v:AV):Option ac:=
 match a,v.cells?,aV P t with
 |.ptr b i off,some cs,some n=>
  match H.get b with
  | some x=>match x.rows[i]? with
   |some r=>if cs.length=n∧cs.all AV.one∧off+n≤r.length then some (H.put b (some {x with rows:=x.rows.set i (bK r off cs)}))else none
   |none=>none
  |none=>none
 |_,_,_=>none
def xx(place:Nat→Option (Nat×Nat))(cells:List AV):List (Nat×AV)→Option (List AV)
 |[]=>some cells
 |(i,v)::rest=>
  match place i,v.cells? with
  |some (off,size),some cs=>if cs.length=size∧off+size≤cells.length∧cs.all AV.one then xx place (bK cells off cs) rest else none
  |_,_=>none
def eb(size:Nat)(rows:List (List AV)):List (Nat×AV)→Option (List (List AV))
 |[]=>some rows
 |(i,v)::rest=>
  match v.cells? with
  |some cs=>if cs.length=size∧i<rows.length∧cs.all AV.one then eb size (rows.set i cs) rest else none
  |none=>none
def nv(fs:Array Field)(i:Nat):Option (Nat×Nat):=(fs[i]?).bind λf=>(aV P f.type).map λn=>(f.offset,n)
def D2(t:TypeId)(parts:List (Nat×AV)):Option AV:=
 match P.underlying t,ez P t with
 |some (.struct fs),some (.agg z)=>if(fs.toList.all λf=>(aV P f.type).isSome)=true then(xx (nv P fs) z parts).map .agg else none
 |some (.array _ e),some (.agg z)=>(aV P e).bind λn=>(xx (λi=>some (i*n,n)) z parts).map .agg
 |_,_=>none
def Lg:AV→Option Nat
 |.nils=>some 0
 |.emp=>some 0
 |.lst rows=>some rows.length
 |.sl _ _ n=>some n
 |_=>none
def xy:List UInt8→List UInt8→Bool
 |_,[]=>false
 |[],_::_=>true
 |a::x,b::y=>a<b||(a==b&&xy x y)
def Cc(t:TypeId)(x y:AV):Option Bool:=
 match P.underlying t,x,y with
 |some (.int _),.int k a,.int k' b=>if k=k' then some (a==b)else none
 |some .bool,.bool a,.bool b=>some (a==b)
 |some .string,.str a,.str b=>some (a==b)
 |some (.pointer _),.nilp,.nilp=>some true
 |some (.pointer _),.nilp,.ptr ..|some (.pointer _),.ptr ..,.nilp|some (.pointer _),.nilp,.pptr ..|some (.pointer _),.pptr ..,.nilp=>some false
 |some (.slice _),.nils,.nils=>some true
 |some (.slice _),.nils,.sl ..|some (.slice _),.sl ..,.nils|some (.slice _),.nils,.lst (_::_)|some (.slice _),.lst (_::_),.nils=>some false
 |_,_,_=>none
def HP:List TypeId→List AV→List AV→Option Bool
 |[],[],[]=>some true
 | t::ts,a::l,b::m=>match Cc P t a b with
  |some true=>HP ts l m
  |r=>r
 |_,_,_=>none
def iu(F:TypeId→Option (List TypeId))(op:BinOp)(t:TypeId)(x y:AV):Option AV:=
 match op,x,y with
 |.shl,.int k a,.int _ b=>if 0≤b then some (.int k (k.wrap (a*2^min b.toNat k.bits)))else none
 |.shr,.int k a,.int _ b=>if 0≤b then some (.int k (a.fdiv (2^min b.toNat k.bits)))else none
 |op,.int k a,.int k' b=>
  if k≠k' then none else
  match op with
  |.add=>some (.int k (k.wrap (a+b)))
  |.sub=>some (.int k (k.wrap (a-b)))
  |.mul=>some (.int k (k.wrap (a*b)))
  |.quo=>if b=0 then none else some (.int k (k.wrap (a.tdiv b)))
  |.rem=>if b=0 then none else some (.int k (a.tmod b))
  |.and=>some (.int k (k.wrap (BitVec.ofInt k.bits a &&& BitVec.ofInt k.bits b).toNat))
  |.or=>some (.int k (k.wrap (BitVec.ofInt k.bits a ||| BitVec.ofInt k.bits b).toNat))
  |.xor=>some (.int k (k.wrap (BitVec.ofInt k.bits a ^^^ BitVec.ofInt k.bits b).toNat))
  |.eql=>some (.bool (a==b))
  |.neq=>some (.bool (a != b))
  |.lss=>some (.bool (decide (a<b)))
  |.leq=>some (.bool (decide (a≤b)))
  |.gtr=>some (.bool (decide (a > b)))
  |.geq=>some (.bool (decide (a≥b)))
  |_=>none
 |op,.str a,.str b=>
  match op with
  |.eql=>some (.bool (a==b))
  |.neq=>some (.bool !(a==b))
  |.lss=>some (.bool (xy a b))
  |.add=>if a.length+b.length≤2^62 then some (.str (a++b))else none
  |_=>none
 |.eql,.agg a,.agg b=>(F t).bind λts=>(HP P ts a b).map .bool
 |.neq,.agg a,.agg b=>(F t).bind λts=>(HP P ts a b).map λr=>.bool !r
 |.eql,.bool a,.bool b=>(Cc P t (.bool a) (.bool b)).map .bool
 |.neq,.bool a,.bool b=>(Cc P t (.bool a) (.bool b)).map λr=>.bool !r
 |.eql,.nilp,y=>(Cc P t .nilp y).map .bool
 |.neq,.nilp,y=>(Cc P t .nilp y).map λr=>.bool !r
 |.eql,x,.nilp=>(Cc P t x .nilp).map .bool
 |.neq,x,.nilp=>(Cc P t x .nilp).map λr=>.bool !r
 |.eql,.nils,y=>(Cc P t .nils y).map .bool
 |.neq,.nils,y=>(Cc P t .nils y).map λr=>.bool !r
 |.eql,x,.nils=>(Cc P t x .nils).map .bool
 |.neq,x,.nils=>(Cc P t x .nils).map λr=>.bool !r
 |_,_,_=>none
def Xv(op:UnOp)(x:AV):Option AV:=
 match op,x with
 |.neg,.int k n=>some (.int k (k.wrap (0-n)))
 |.not,.bool b=>some (.bool !b)
 |_,_=>none
def Jg(src dst:TypeId)(x:AV):Option AV:=
 match P.underlying src,P.underlying dst,x with
 |some (.int _),some (.int k),.int _ n=>some (.int k (k.wrap n))
 |some .string,some .string,.str s=>some (.str s)
 |_,_,_=>none
def fM(H:ac)(n:Nat):AV→Option (List (List AV))
 |.nils=>some []
 |.emp=>some []
 | .lst rows=>match rows with
  |[]=>some []
  |r::l=>if r.length=n then some (r::l)else none
 | .sl b i k=>match H.get b with
  |some x=>if x.size=n∧i+k≤x.rows.length then some ((x.rows.drop i).take k)else none
  |none=>none
 |_=>none
def nw(H:ac):AV→Option Nat
 |.sl b _ _=>(H.get b).map (·.size)
 |_=>none
def dS(sz:Option Nat)(t:TypeId)(x ix:AV):Option AV:=
 match ix with
 |.int _ i=>
  if i<0 then none else
  match P.underlying t,x with
  |some (.slice e),.sl b j n=>if i.toNat<n∧sz.isSome∧aV P e=sz then some (.ptr b (j+i.toNat) 0)else none
  | some (.slice e),.lst rows=>match rows[i.toNat]? with
   |some r=>if aV P e=some r.length then some (.pptr rows i.toNat 0)else none
   |none=>none
  |some (.array len e),.ptr b j off=>if i.toNat<len then(aV P e).map λn=>.ptr b j (off+i.toNat*n)else none
  |some (.array len e),.pptr rows j off=>if i.toNat<len then(aV P e).map λn=>.pptr rows j (off+i.toNat*n)else none
  |_,_=>none
 |_=>none
def D3(t:TypeId)(x ix:AV):Option AV:=
 match P.underlying t,x,ix with
 |some .string,.str s,.int _ i=>if i<0 then none else(s[i.toNat]?).map λb=>.int .u8 b.toNat
 |some (.array len e),.agg cs,.int _ i=>if 0≤i∧i.toNat<len then(aV P e).bind λn=>iq P e cs (i.toNat*n)else none
 |_,_,_=>none
def jx(s:TypeId)(x:AV)(f:Nat):Option AV:=
 match P.underlying s with
 | some (.struct fs)=>(fs[f]?).bind λf=>(aV P f.type).bind λn=>if n=0 then none else
   match x with
   |.ptr b i off=>some (.ptr b i (off+f.offset))
   |.pptr rows i off=>some (.pptr rows i (off+f.offset))
   |_=>none
 |_=>none
def HQ(s:TypeId)(x:AV)(f:Nat):Option AV:=
 match P.underlying s,x with
 |some (.struct fs),.agg cs=>(fs[f]?).bind λf=>iq P f.type cs f.offset
 |_,_=>none
def oC:AV→Option Nat
 |.int _ i=>if 0≤i then some i.toNat else none
 |_=>none
def cI(x:Option AV)(d:Nat):Option Nat:=
 match x with
 |none=>some d
 |some v=>oC v
def lz(sz:Option Nat)(t:TypeId)(x:AV)(lo hi mx:Option AV):Option AV:=
 match P.underlying t,Lg x with
 |some (.slice e),some n=>
  match cI lo 0,cI hi n,cI mx n with
  | some l,some h,some m=>if(l≤h∧h≤m∧m≤n)∧(aV P e).isSome=true then
    (match x with
     |.nils=>some .nils
     |.sl b i _=>if sz.isSome∧aV P e=sz then some (.sl b (i+l) (h-l))else none
     | .lst rows=>if mx.isSome=true∧m=l then some .emp else match rows with
      |[]=>some (.lst [])
      |r::rs=>if aV P e=some r.length then some (.lst (((r::rs).drop l).take (h-l)))else none
     |_=>none)else none
  |_,_,_=>none
 |some .string,_=>
  match x,mx with
  | .str s,none=>match cI lo 0,cI hi s.length with
   |some l,some h=>if l≤h∧h≤s.length then some (.str ((s.drop l).take (h-l)))else none
   |_,_=>none
  |_,_=>none
 |_,_=>none
def cS(H:ac)(b:Nat)(t:TypeId)(s x:AV):Option (AV×ac):=
 match P.underlying t with
 |some (.slice e)=>
  match aV P e,jw P e,(ez P e).bind AV.cells? with
  | some n,some by_,some z=>match fM H n s,fM H n x with
   | some l,some m=>if 2*(l.length+m.length)*by_≤2^48∧2*(l.length+m.length)≤2^62∧0<n∧z.length=n∧(m.all λr=>r.all AV.one)=true then
    match s with
    |.nils=>if m.length=0 then some (.nils,H)else some (.sl b 0 m.length,H.new b ⟨n,m⟩)
    |.emp=>if m.length=0 then some (.emp,H)else some (.sl b 0 m.length,H.new b ⟨n,m⟩)
    |.sl b' _ _=>some (.sl b 0 (l.length+m.length),(H.put b' none).new b ⟨n,l++m⟩)
    |_=>none
    else none
   |_,_=>none
  |_,_,_=>none
 |_=>none
def fo(H:ac)(t:TypeId)(x:AV):Option ac:=
 match P.underlying t with
 |some (.slice e)=>
  match aV P e,(ez P e).bind AV.cells? with
  | some n,some z=>match x with
   |.nils=>some H
   | .sl c i k=>match H.get c with
    |some y=>if(y.size=n∧z.length=n)∧(0<n∧i+k≤y.rows.length)∧z.all AV.one=true then some (H.put c (some {y with rows:=y.rows.take i++List.replicate k z++y.rows.drop (i+k)}))else none
    |none=>none
   |_=>none
  |_,_=>none
 |_=>none
def aX(H:ac)(b:Nat)(op:Builtin)(types:Array TypeId)(args:List AV):Option (AV×ac):=
 match op,args with
 | .len,[.str s]=>match (types[0]?).bind P.underlying with
  |some .string=>some (.int .i64 s.length,H)
  |_=>none
 | .len,[x]=>match (types[0]?).bind P.underlying with
  |some (.slice _)=>(Lg x).map λ(n:Nat)=>(.int .i64 (n:Int),H)
  |some (.array n _)=>some (.int .i64 n,H)
  |_=>none
 | .append,[s,x]=>match types.toList with
  | [t,tx]=>match P.underlying tx with
   |some (.slice _)=>cS P H b t s x
   |_=>none
  |_=>none
 |.min,[.int k a,.int k' c]=>if k=k' then some (.int k (if c<a then c else a),H)else none
 |.max,[.int k a,.int k' c]=>if k=k' then some (.int k (if c > a then c else a),H)else none
 | .clear,[x]=>match types.toList with
  |[t]=>(fo P H t x).map λH'=>(.tup [],H')
  |_=>none
 |_,_=>none
def xz:List AV→Bool
 |[.str _,_]=>true
 |_=>false
def gN(k:List UInt8):List (List AV)→Nat→Option (Nat×AV)
 |[],_=>none
 | r::l,i=>match r with
  |[.str k',v]=>if k==k' then some (i,v)else gN k l (i+1)
  |_=>gN k l (i+1)
def AV.konst:AV→Bool
 |.int ..|.bool _|.str _=>true
 |_=>false
def kJ(H:ac)(t:TypeId)(m k:AV)(ok:Bool):Option AV:=
 match P.underlying t,m,k with
 | some (.map kt et),.mp b,.str s=>match P.underlying kt,ez P et,H.get b with
  | some .string,some z,some x=>if x.rows.all xz=true then some (match gN s x.rows 0 with
   |some (_,v)=>if ok then .tup [v,.bool true]else v
   |none=>if ok then .tup [z,.bool false]else z)else none
  |_,_,_=>none
 |_,_,_=>none
def fa(H:ac)(t:TypeId)(m k v:AV):Option ac:=
 match P.underlying t,m,k with
 | some (.map kt _),.mp b,.str s=>match P.underlying kt,H.get b with
  | some .string,some x=>if x.rows.all xz=true∧v.konst=true then some (H.put b (some {x with rows:=match gN s x.rows 0 with
   |some (i,_)=>x.rows.set i [.str s,v]
   |none=>x.rows++[[.str s,v]]}))else none
  |_,_=>none
 |_,_,_=>none
def iT(H:ac)(it:AV):Option (AV×ac):=
 match it with
 | .it b=>match H.get b with
  | some x=>match x.rows with
   | [[.str s,.int _ pos]]=>if pos<s.length then
     some (.tup [.bool true,.int .i64 pos,.int .i32 (Utf8.decode ⟨s.toArray⟩ pos.toNat).1],H.put b (some {x with rows:=[[.str s,.int .i64 ((pos.toNat+(Utf8.decode ⟨s.toArray⟩ pos.toNat).2:Nat):Int)]]}))
    else some (.tup [.bool false],H)
   |_=>none
  |none=>none
 |_=>none
def aM(F:TypeId→Option (List TypeId))(o:Op)(ρ:Operand→AV)(b:Nat)(H:ac):Option fX:=
 let v (r:Option AV):Option fX:=r.map λx=>.val x H
 match o with
 |.move x|.assign x=>some (.val (ρ x) H)
 | .pick c x y=>match ρ c with
  |.bool t=>some (.val (if t then ρ x else ρ y) H)
  |_=>none
 | .alloc t=>match (ez P t).bind AV.cells? with
  |some cs=>some (.val (.ptr b 0 0) (H.new b ⟨cs.length,[cs]⟩))
  |none=>none
 | .box _ x=>match (ρ x).cells? with
  |some cs=>if cs.all AV.one then some (.val (.ptr b 0 0) (H.new b ⟨cs.length,[cs]⟩))else none
  |none=>none
 |.build t parts=>v (D2 P t (parts.toList.map λp=>(p.1,ρ p.2)))
 | .buildSlice t len parts=>match P.underlying t with
  | some (.slice e)=>match aV P e,(ez P e).bind AV.cells? with
   | some n,some z=>if z.length=n∧0<n∧len*n≤2^24 then
     (eb n (List.replicate len z) (parts.toList.map λp=>(p.1,ρ p.2))).map λrows=>.val (.sl b 0 len) (H.new b ⟨n,rows⟩)
    else none
   |_,_=>none
  |_=>none
 |.load t a=>v (oA P H t (ρ a))
 |.store t a x=>(gl P H t (ρ a) (ρ x)).map λH=>.val (.tup []) H
 | .nilCheck x=>match ρ x with
  |.ptr b i off=>some (.val (.ptr b i off) H)
  |.pptr rows i off=>some (.val (.pptr rows i off) H)
  |.fn f cs=>some (.val (.fn f cs) H)
  |_=>none
 |.binOp op t x y _=>v (iu P F op t (ρ x) (ρ y))
 |.unOp op _ x=>v (Xv op (ρ x))
 |.convert s d x=>v (Jg P s d (ρ x))
 |.makeFunc (.func f) first cap=>if first.size=0 then some (.val (.fn f (cap.toList.map ρ)) H)else none
 | .makeSlice t l c=>match P.underlying t with
  | some (.slice e)=>match aV P e,jw P e,(ez P e).bind AV.cells?,oC (ρ l),oC (ρ c)with
   | some n,some by_,some z,some l,some c=>if z.length=n∧0<n∧l≤c∧c≤2^62∧c*by_≤2^48 then
     some (.val (.sl b 0 l) (H.new b ⟨n,List.replicate l z⟩))else none
   |_,_,_,_,_=>none
  |_=>none
 |.slice t x lo hi mx=>if hi.isNone&&mx.isSome then none else v (lz P (nw H (ρ x)) t (ρ x) (lo.map ρ) (hi.map ρ) (mx.map ρ))
 |.fieldAddr s x f=>v (jx P s (ρ x) f)
 |.field s x f=>v (HQ P s (ρ x) f)
 |.indexAddr t x ix=>v (dS P (nw H (ρ x)) t (ρ x) (ρ ix))
 |.index t x ix=>v (D3 P t (ρ x) (ρ ix))
 | .extract x i=>match ρ x with
  |.tup vs=>v (vs[i]?)
  |_=>none
 |.makeMap _ none=>some (.val (.mp b) (H.new b ⟨0,[]⟩))
 |.lookup t m k ok=>v (kJ P H t (ρ m) (ρ k) ok)
 |.mapUpdate t m k x=>(fa P H t (ρ m) (ρ k) (ρ x)).map λH=>.val (.tup []) H
 | .range t x=>match P.underlying t,ρ x with
  |some .string,.str s=>some (.val (.it b) (H.new b ⟨0,[[.str s,.int .i64 0]]⟩))
  |_,_=>none
 |.next it true=>(iT H (ρ it)).map λr=>.val r.1 r.2
 | .call c=>match c.callee with
  |.builtin bi=>(aX P H b bi c.argTypes (c.args.toList.map ρ)).map λr=>.val r.1 r.2
  | .value f=>match ρ f with
   |.fn g cs=>some (.call g (c.args.toList.map ρ++cs))
   |_=>none
  |_=>none
 |_=>none
end
end
def dI:List Int:=[0,0,0,0,0,0,3,3,4,4,5,6,7,8,9,10,11,12,13,14,15,16,18,19,20,21,22,23,2]
def Ty:List (List UInt8):=[[118,97,114],[118,111,108,97,116,105,108,101],[109,117,116,101,120],[114,119,108,111,99,107],[99,111,110,100],[102,117,116,117,114,101],[116,104,114,101,97,100],[105,102],[101,108,115,101],[119,104,105,108,101],[108,111,99,107],[114,101,97,100],[119,114,105,116,101],[116,114,97,110,115,97,99,116,105,111,110],[97,116,111,109,105,99],[119,97,105,116],[110,111,116,105,102,121],[110,111,116,105,102,121,97,108,108],[115,112,97,119,110],[106,111,105,110],[115,101,116],[103,101,116]]
def Xw(g:Nat):Option (List AV):=
 if g=0 then some (dI.map λn=>.int .i64 n)else
 if g=1 then some (Ty.map .str)else
 none
def Rq(g:Nat):AV:=
 match Xw g with
 |some r=>.pptr [r] 0 0
 |none=>.junk
section
inductive Ex where
 |normal
 |exit (id:Nat)
 |ret
def bL:AV:=.tup []
def kC(τ:List AV):Operand→AV
 |.tmp t=>τ.getD t bL
 |.const v=>(OK v).getD .junk
 |.global g=>Rq g
 |.func f=>.fn f []
def gj(τ:List AV)(dst:Option Tmp)(v:AV):List AV:=
 match dst with
 |some d=>τ.set d v
 |none=>τ
def dF(ops:Array Oper)(o:Oper)(τ:List AV):Option Bool:=
 match o.guard with
 |none=>some true
 | some (j,want)=>match (ops[j]?).bind (·.dst)with
  | some d=>match τ[d]? with
   |some (.bool b)=>some (b==want)
   |some (.tup [])=>some false
   |_=>none
  |none=>none
section
variable (P:Program) (F:TypeId→Option (List TypeId)) (call:FuncId→List AV→ac→Option (AV×ac))
def kK(ops:Array Oper)(base i:Nat)(τ:List AV)(H:ac):Option (List AV×ac):=
 match ops[i]? with
 |none=>none
 | some o=>match dF ops o τ with
  | some true=>match aM P F o.op (kC τ) (base+i) H with
   |some (.val v H')=>some (gj τ o.dst v,H')
   | some (.call f args)=>match call f args H with
    |some (v,H')=>some (gj τ o.dst v,H')
    |none=>none
   |none=>none
  |some false=>some (gj τ o.dst bL,H)
  |none=>none
def nz(ops:Array Oper)(base:Nat):List Nat→List AV→ac→Option (List AV×ac)
 |[],τ,H=>some (τ,H)
 | i::l,τ,H=>match kK P F call ops base i τ H with
  |some (τ,H)=>nz ops base l τ H
  |none=>none
def aa:AV→List Nat
 |.ptr b _ _|.sl b _ _|.mp b|.it b=>[b]
 |_=>[]
def ed:AV→List Nat
 |.sl b _ _=>[b]
 |_=>[]
def aF(o:Op)(ρ:Operand→AV):List Nat:=
 match o with
 |.load _ a=>aa (ρ a)
 |.store _ a _=>aa (ρ a)
 |.indexAddr _ x _=>ed (ρ x)
 |.slice _ x _ _ _=>ed (ρ x)
 |.lookup _ m _ _=>aa (ρ m)
 |.mapUpdate _ m _ _=>aa (ρ m)
 |.next it _=>aa (ρ it)
 | .call c=>match c.callee with
  |.builtin .append=>c.args.toList.flatMap λx=>aa (ρ x)
  |.builtin .clear=>c.args.toList.flatMap λx=>aa (ρ x)
  |_=>[]
 |_=>[]
def aD(o:Op)(ρ:Operand→AV):List Nat:=
 match o with
 |.store _ a _=>aa (ρ a)
 |.mapUpdate _ m _ _=>aa (ρ m)
 |.next it _=>aa (ρ it)
 | .call c=>match c.callee with
  |.builtin .append=>(c.args.toList.take 1).flatMap λx=>aa (ρ x)
  |.builtin .clear=>c.args.toList.flatMap λx=>aa (ρ x)
  |_=>[]
 |_=>[]
structure tB where
 op:Nat
 reads:List Nat
 writes:List Nat
 made:List Nat
 isCall:Bool
 lo:Nat
 hi:Nat
def apart(l m:List Nat):Bool:=l.all λx=>!m.contains x
def mb(x y:tB):Bool:=
 !(apart x.writes y.reads&&apart x.writes y.writes&&apart x.reads y.writes&&apart x.made y.reads&&apart x.made y.writes) ||
 (x.isCall&&(y.isCall||!y.writes.isEmpty||y.reads.any λb=>decide (x.lo≤b)&&decide (b<x.hi)))||(y.isCall&&!x.writes.isEmpty)
def ca:List Oper→List Nat→List Nat
 |[],acc=>acc
 |o::l,acc=>ca l (acc++[o.after.toList.foldl (λs e=>if Region.binds .any e then s ||| 2^e.on ||| acc.getD e.on 0 else s) 0])
def dB(base mask:Nat):Nat→ac→ac
 |0,H=>H
 |j+1,H=>dB base mask j (if mask.testBit j then H else {H with tr:=H.tr.set (base+j) none})
def iU(base mask:Nat)(H:ac):Nat→ac→ac
 |0,K=>K
 |j+1,K=>iU base mask H j (if mask.testBit j then K else {K with tr:=K.tr.set (base+j) (H.tr.get (base+j))})
def bH(ops:Array Oper)(base i mask:Nat)(τ:List AV)(H:ac):Option (List AV×ac×Option tB):=
 match ops[i]? with
 |none=>none
 | some o=>match dF ops o τ with
  | some true=>match aM P F o.op (kC τ) (base+i) H with
   |some (.val v H')=>some (gj τ o.dst v,{H' with log:=H.log},some ⟨i,aF o.op (kC τ),aD o.op (kC τ),[base+i],false,0,0⟩)
   | some (.call f args)=>match call f args {dB base mask i H with log:=[]} with
    |some (v,H')=>some (gj τ o.dst v,{iU base mask H i H' with log:=H.log},some ⟨i,[],H'.log.filter (λc=>((dB base mask i H).get c).isSome),[],true,H.next,H'.next⟩)
    |none=>none
   |none=>none
  |some false=>some (gj τ o.dst bL,H,none)
  |none=>none
def eB(ops:Array Oper)(base:Nat)(before:List Nat):List Nat→List AV→ac→List tB→Option (List AV×ac×List tB)
 |[],τ,H,rs=>some (τ,H,rs)
 | i::l,τ,H,rs=>match bH P F call ops base i (before.getD i 0) τ H with
  |some (τ,H,none)=>eB ops base before l τ H rs
  |some (τ,H,some r)=>if rs.all λx=>(before.getD i 0).testBit x.op||!mb x r then eB ops base before l τ H (r::rs)else none
  |none=>none
def dG(ops:Array Oper)(draw:Bool)(τ:List AV)(H:ac):Option (List AV×ac):=
 let H':={H with next:=H.next+ops.size}
 if draw then match eB P F call ops H.next (ca ops.toList []) (List.range ops.size) τ H' []with
  |some (τ,K,rs)=>some (τ,{K with log:=rs.flatMap (·.writes)++K.log})
  |none=>none
 else nz P F call ops H.next (List.range ops.size) τ H'
def kL(τ:List AV)(H:ac):ResultVar→Option AV
 |.tmp t=>some (τ.getD t bL)
 |.cell a t=>oA P H t (τ.getD a bL)
def mc(τ:List AV)(H:ac)(rs:List ResultVar):Option AV:=
 match cu (rs.map (kL P τ H))with
 |some [v]=>some v
 |some vs=>some (.tup vs)
 |none=>none
def pW(ex:Code→List AV→ac→Option (Ex×List AV×ac))(g:FuncId)(args:List AV)(H:ac):Option (AV×ac):=
 match P.funcs[g]? with
 | some fn=>match fn.body with
  | some c=>match ex c (args++List.replicate (fn.ntmps-args.length) bL) {H with log:=[]} with
   |some (.exit _,_,_)=>none
   | some (_,τ,H')=>match mc P τ H' fn.results.toList with
    |some v=>some (v,{H' with log:=H'.log.filter (·<H.next)++H.log})
    |none=>none
   |none=>none
  |none=>none
 |none=>none
end
def ac.empty:ac:=⟨0,.leaf,[]⟩
end
structure cv where
 block:Nat
 base:Nat
 size:Nat
def cv.ok(pl:cv):Prop:=pl.base=0∨0<pl.size
structure bD where
 map:Nat→Option cv
 fr:Nat→Prop
instance:CoeFun bD (λ_=>Nat→Option cv):=⟨bD.map⟩
structure t6(w:World)(T:Nat→Prop)(rows:List (List AV))(b o sz:Nat):Prop where
 out:¬T b
 even:∀(i:Nat) (r:List AV),rows[i]? =some r→r.length=sz
 cell:∀i j,i<rows.length→j<sz→∃u,w.cell? ⟨b,o+i*sz+j,none⟩=some u
 pos:0<sz
 ne:0<rows.length
inductive bb (w:World) (σ:bD) (T:Nat→Prop):AV→Value→Prop where
 |int (k:IntKind) (n:Int):bb w σ T (.int k n) (.int k n)
 |bool (b:Bool):bb w σ T (.bool b) (.bool b)
 |str (s:ByteArray):bb w σ T (.str s.data.toList) (.string s)
 |nilp:bb w σ T .nilp (.pointer none)
 |ptr (b i off:Nat) (pl:cv) (h:σ b=some pl) (hp:pl.ok):bb w σ T (.ptr b i off) (.pointer (some ⟨pl.block,pl.base+i*pl.size+off,none⟩))
 | pptr (rows:List (List AV)) (i off b o sz:Nat) (hl:t6 w T rows b o sz)
   (h:∀(i:Nat) (r:List AV) (j:Nat) (a:AV) (u:Value),rows[i]? =some r→r[j]? =some a→w.cell? ⟨b,o+i*sz+j,none⟩=some u→bb w σ T a u) :
   bb w σ T (.pptr rows i off) (.pointer (some ⟨b,o+i*sz+off,none⟩))
 |nils:bb w σ T .nils (.slice none 0 0)
 |emp (a:Option Addr):bb w σ T .emp (.slice a 0 0)
 | sl (b i n:Nat) (pl:cv) (a:Addr) (cap:Nat) (h:σ b=some pl) (hp:pl.ok) (hn:n≤cap) (hm:cap≤maxLen)
   (ha:0<cap→a=⟨pl.block,pl.base+i*pl.size,none⟩∧∃cs e,w.heap[pl.block]? =some (.cells cs e (0,0))∧pl.base+(i+cap)*pl.size≤cs.size) :
   bb w σ T (.sl b i n) (.slice (some a) n cap)
 |lst0 (a:Option Addr) (cap:Nat) (hm:cap≤maxLen):bb w σ T (.lst []) (.slice a 0 cap)
 | lst (rows:List (List AV)) (b o sz cap:Nat) (hl:t6 w T rows b o sz) (hn:rows.length≤cap) (hm:cap≤maxLen)
   (h:∀(i:Nat) (r:List AV) (j:Nat) (a:AV) (u:Value),rows[i]? =some r→r[j]? =some a→w.cell? ⟨b,o+i*sz+j,none⟩=some u→bb w σ T a u) :
   bb w σ T (.lst rows) (.slice (some ⟨b,o,none⟩) rows.length cap)
 |mp (b:Nat) (pl:cv) (h:σ b=some pl) (hs:pl.size=0) (hb:pl.base=1):bb w σ T (.mp b) (.map (some pl.block))
 |it (b:Nat) (pl:cv) (h:σ b=some pl) (hs:pl.size=0) (hb:pl.base=2):bb w σ T (.it b) (.pointer (some ⟨pl.block,0,none⟩))
 |agg (cs:List AV) (vs:List Value) (hl:cs.length=vs.length) (h:∀(i:Nat) (a:AV) (v:Value),cs[i]? =some a→vs[i]? =some v→bb w σ T a v):bb w σ T (.agg cs) (.agg vs.toArray)
 |tup (cs:List AV) (vs:List Value) (hl:cs.length=vs.length) (h:∀(i:Nat) (a:AV) (v:Value),cs[i]? =some a→vs[i]? =some v→bb w σ T a v):bb w σ T (.tup cs) (.tuple vs.toArray)
 |fn (f:FuncId) (cs:List AV) (vs:List Value) (hl:cs.length=vs.length) (h:∀(i:Nat) (a:AV) (v:Value),cs[i]? =some a→vs[i]? =some v→bb w σ T a v):bb w σ T (.fn f cs) (.func (.func f) #[] vs.toArray)
 |nilf:bb w σ T .nilf .nilFunc
 |junk (v:Value):bb w σ T .junk v
def eH(w:World)(σ:bD)(T:Nat→Prop)(cs:List AV)(vs:List Value):Prop:=
 cs.length=vs.length∧∀(i:Nat) (a:AV) (v:Value),cs[i]? =some a→vs[i]? =some v→bb w σ T a v
def Gx(σ:bD)(H:ac)(c:Nat):Prop:=∃b x pl,H.get b=some x∧σ b=some pl∧pl.block=c
def aK(σ:bD)(H:ac)(c:Nat):Prop:=σ.fr c∨Gx σ H c
structure Av(w:World)(σ:bD)(T:Nat→Prop)(x:Blk)(pl:cv)(cs:Array Value)(e:TypeId):Prop where
 size:pl.size=x.size
 block:w.heap[pl.block]? =some (.cells cs e (0,0))
 even:∀(i:Nat) (r:List AV),x.rows[i]? =some r→r.length=x.size
 room:pl.base+x.rows.length*x.size≤cs.size
 rep:∀(i:Nat) (r:List AV) (j:Nat) (a:AV) (u:Value),x.rows[i]? =some r→r[j]? =some a→cs[pl.base+i*x.size+j]? =some u→bb w σ T a u
def Jh:Value→Option AV
 |.int k n=>some (.int k n)
 |.bool b=>some (.bool b)
 |.string s=>some (.str s.data.toList)
 |_=>none
def Ji(e:MapEntry):Option (List AV):=
 match Jh e.key,Jh e.val with
 |some k,some v=>some [k,v]
 |_,_=>none
structure xA(w:World)(x:Blk)(pl:cv):Prop where
 size:x.size=0
 psize:pl.size=0
 obj:(pl.base=1∧∃es clk,w.heap[pl.block]? =some (.map es clk)∧es.toList.map Ji=x.rows.map some) ∨
  (pl.base=2∧∃(s:ByteArray) (pos:Nat),w.heap[pl.block]? =some (.stringIter s pos)∧x.rows=[[.str s.data.toList,.int .i64 pos]])
def kM(w:World)(σ:bD)(T:Nat→Prop)(x:Blk)(pl:cv)(cs:Array Value)(e:TypeId):Prop:=
 (pl.ok→Av w σ T x pl cs e)∧(¬pl.ok→xA w x pl)
theorem kM.of{w:World}{σ:bD}{T:Nat→Prop}{x:Blk}{pl:cv}{cs:Array Value}{e:TypeId}(hp:pl.ok)(h:Av w σ T x pl cs e):kM w σ T x pl cs e:=⟨λ_=>h,λhn=>absurd hp hn⟩
def iG(w:World)(T:Nat→Prop):Prop:=∀g r,Xw g=some r→¬T g∧0<r.length∧∀(j:Nat) (a:AV),r[j]? =some a→∃u,w.cell? ⟨g,j,none⟩=some u∧Jh u=some a
structure bu(w:World)(σ:bD)(H:ac):Prop where
 named:∀b pl,σ b=some pl→b<H.next
 lt:∀b pl,σ b=some pl→pl.block<w.heap.size
 live:∀b x,H.get b=some x→∃pl cs e,σ b=some pl∧kM w σ (aK σ H) x pl cs e
 apart:∀c,σ.fr c→c<w.heap.size∧¬Gx σ H c
 inj:∀b b' x x' pl pl',H.get b=some x→H.get b'=some x'→σ b=some pl→σ b'=some pl'→pl.block=pl'.block→b=b'
 glob:iG w (aK σ H)
structure eI(w:World)(σ:bD)(T:Nat→Prop)(w':World)(σ':bD)(T':Nat→Prop):Prop where
 os:w'.os=w.os
 tape:w'.tape=w.tape
 output:w'.output=w.output
 size:w.heap.size≤w'.heap.size
 keep:∀c,c<w.heap.size→¬T c→w'.heap[c]? =w.heap[c]?
 shape:∀(c:Nat) (cs:Array Value) (e:TypeId),w.heap[c]? =some (.cells cs e (0,0))→∃cs':Array Value,w'.heap[c]? =some (.cells cs' e (0,0))∧cs'.size=cs.size
 sig:∀b pl,σ b=some pl→σ' b=some pl
 eqfr:σ'.fr=σ.fr
 frame:∀c,σ.fr c→w'.heap[c]? =w.heap[c]?
 own:∀c,T' c→T c∨w.heap.size≤c
theorem eI.refl(w:World)(σ:bD)(T:Nat→Prop):eI w σ T w σ T:=
 ⟨rfl,rfl,rfl,X7 _,λ_ _ _=>rfl,λ_ cs _ h=>⟨cs,h,rfl⟩,λ_ _ h=>h,rfl,λ_ _=>rfl,λ_ h=>.inl h⟩
theorem eI.trans{w w' w'':World}{σ σ' σ'':bD}{T T' T'':Nat→Prop}(h:eI w σ T w' σ' T')(k:eI w' σ' T' w'' σ'' T''):eI w σ T w'' σ'' T'' where
 os:=k.os.trans h.os
 tape:=k.tape.trans h.tape
 output:=k.output.trans h.output
 size:=Yn h.size k.size
 keep:=λc hc hT=>by
  have hc':c<w'.heap.size:=Yw hc h.size;have:¬T' c:=λht=>by
   rcases h.own c ht with h1|h1
   ·exact hT h1
   ·omega
  exact(k.keep c hc' this).trans (h.keep c hc hT)
 shape:=λc cs e hcs=>by obtain⟨cs',h1,h2⟩:=h.shape c cs e hcs;obtain⟨cs'',h3,h4⟩:=k.shape c cs' e h1;exact⟨cs'',h3,h4.trans h2⟩
 sig:=λb pl hb=>k.sig b pl (h.sig b pl hb)
 eqfr:=k.eqfr.trans h.eqfr
 frame:=λc hc=>(k.frame c (by rw[h.eqfr];exact hc)).trans (h.frame c hc)
 own:=λc hc=>by
  rcases k.own c hc with h1|h1
  ·exact h.own c h1
  ·exact .inr (Yn h.size h1)
theorem Cd{w:World}{b o:Nat}{u:Value}(h:w.cell? ⟨b,o,none⟩=some u):b<w.heap.size:=by
 rcases X9 b w.heap.size with hlt|hge
 ·exact hlt
 ·simp[World.cell?,Array.getElem?_eq_none hge]at h
theorem t6.lt{w:World}{T:Nat→Prop}{rows:List (List AV)}{b o sz:Nat}(h:t6 w T rows b o sz):b<w.heap.size:=by obtain⟨u,hu⟩:=h.cell 0 0 h.ne h.pos;exact Cd hu
theorem t6.cell_eq{w w':World}{σ σ':bD}{T T':Nat→Prop}{rows:List (List AV)}{b o sz:Nat}(h:t6 w T rows b o sz)(e:eI w σ T w' σ' T')(k:Nat):
  w'.cell? ⟨b,k,none⟩=w.cell? ⟨b,k,none⟩:=
 World.cell?_of_block (w:=w) (w':=w') (a:=⟨b,k,none⟩) (e.keep b h.lt h.out)
theorem t6.mono{w w':World}{σ σ':bD}{T T':Nat→Prop}{rows:List (List AV)}{b o sz:Nat}(h:t6 w T rows b o sz)(e:eI w σ T w' σ' T'):t6 w' T' rows b o sz where
 out:=λht=>by
  rcases e.own b ht with h1|h1
  ·exact h.out h1
  ·have:=h.lt;omega
 even:=h.even
 cell:=λi j hi hj=>by rw[h.cell_eq e];exact h.cell i j hi hj
 pos:=h.pos
 ne:=h.ne
theorem iG.mono{w w':World}{σ σ':bD}{T T':Nat→Prop}(e:eI w σ T w' σ' T')(h:iG w T):iG w' T':=λg r hg=>by
 obtain⟨h1,h2,h3⟩:=h g r hg;obtain⟨u,hu,_⟩:=h3 0 r[0] (X6 h2);have hlt:=Cd hu;refine⟨λht=>?_,h2,λj a hj=>?_⟩
 ·rcases e.own g ht with h4|h4
  ·exact h1 h4
  ·omega
 ·obtain⟨u,hu,ha⟩:=h3 j a hj;exact⟨u,by rw[World.cell?_of_block (w:=w) (w':=w') (a:=⟨g,j,none⟩) (e.keep g hlt h1)];exact hu,ha⟩
theorem iG.less{w:World}{T T':Nat→Prop}(h:iG w T)(hT:∀c,T' c→T c):iG w T':=λg r hg=>⟨λht=>(h g r hg).1 (hT g ht),(h g r hg).2⟩
theorem iG.rep{w:World}{σ:bD}{T:Nat→Prop}(h:iG w T)(g:Nat):bb w σ T (Rq g) (.pointer (some ⟨g,0,none⟩)):=by
 unfold Rq;cases hg:Xw g with
 |none=>exact .junk _
 |some r=>
  obtain⟨h1,h2,h3⟩:=h g r hg;have:=bb.pptr (w:=w) (σ:=σ) (T:=T) [r] 0 0 g 0 r.length ⟨h1,λi q hq=>?_,λi j hi hj=>?_,h2,ZM⟩ λi q j a u hq ha hu=>?_
  ·simpa using this
  ·match i with
   |0=>cases hq;rfl
   |i+1=>simp at hq
  ·have h0:i=0:=by simpa using hi
   subst h0;obtain⟨u,hu,_⟩:=h3 j _ (X6 hj);exact⟨u,by simpa using hu⟩
  ·match i with
   |0=>
    cases hq;obtain⟨u',hu',ha'⟩:=h3 j a ha;simp only[Nat.zero_mul,Zy,Y2]at hu;rw[hu]at hu';cases hu';cases u<;>simp only[Jh,Yi,reduceCtorEq]at ha'<;>subst ha'
    ·exact .bool _
    ·exact .int _ _
    ·exact .str _
   |i+1=>simp at hq
theorem bb.mono{w w':World}{σ σ':bD}{T T':Nat→Prop}(e:eI w σ T w' σ' T'){a:AV}{v:Value}(h:bb w σ T a v):bb w' σ' T' a v:=by
 induction h with
 |int k n=>exact .int k n
 |bool b=>exact .bool b
 |str s=>exact .str s
 |nilp=>exact .nilp
 |ptr b i off pl h hp=>exact .ptr b i off pl (e.sig b pl h) hp
 |mp b pl h h1 h2=>exact .mp b pl (e.sig b pl h) h1 h2
 |it b pl h h1 h2=>exact .it b pl (e.sig b pl h) h1 h2
 |pptr rows i off b o sz hl h ih=>exact .pptr rows i off b o sz (hl.mono e) λi r j a u h1 h2 h3=>ih i r j a u h1 h2 (by rwa [hl.cell_eq e]at h3)
 |nils=>exact .nils
 |emp a=>exact .emp a
 |sl b i n pl a cap h hp hn hm ha=>
  refine .sl b i n pl a cap (e.sig b pl h) hp hn hm λhc=>?_
  obtain⟨h1,cs,ty,h2,h3⟩:=ha hc;obtain⟨cs',h4,h5⟩:=e.shape _ _ _ h2;exact⟨h1,cs',ty,h4,ZJ⟩
 |lst0 a cap hm=>exact .lst0 a cap hm
 |lst rows b o sz cap hl hn hm h ih=>exact .lst rows b o sz cap (hl.mono e) hn hm λi r j a u h1 h2 h3=>ih i r j a u h1 h2 (by rwa [hl.cell_eq e]at h3)
 |agg cs vs hl h ih=>exact .agg cs vs hl ih
 |tup cs vs hl h ih=>exact .tup cs vs hl ih
 |fn f cs vs hl h ih=>exact .fn f cs vs hl ih
 |nilf=>exact .nilf
 |junk v=>exact .junk v
theorem eH.mono{w w':World}{σ σ':bD}{T T':Nat→Prop}(e:eI w σ T w' σ' T'){cs:List AV}{vs:List Value}(h:eH w σ T cs vs):eH w' σ' T' cs vs:=
 ⟨h.1,λi a v h1 h2=>(h.2 i a v h1 h2).mono e⟩
theorem ac.get_new(H:ac)(b c:Nat)(x:Blk):(H.new b x).get c=if b=c then some x else H.get c:=Tr.get_set _ _ _ _
theorem ac.get_put(H:ac)(b c:Nat)(x:Option Blk):(H.put b x).get c=if b=c then x else H.get c:=Tr.get_set _ _ _ _
theorem Av.mono{w w':World}{σ σ':bD}{T T':Nat→Prop}{x:Blk}{pl:cv}{cs:Array Value}{e:TypeId}(h:Av w σ T x pl cs e)(ex:eI w σ T w' σ' T')
  (hb:w'.heap[pl.block]? =w.heap[pl.block]?):Av w' σ' T' x pl cs e:=
 ⟨h.size,hb.trans h.block,h.even,h.room,λi r j a u h1 h2 h3=>(h.rep i r j a u h1 h2 h3).mono ex⟩
theorem xA.mono{w w':World}{x:Blk}{pl:cv}(h:xA w x pl)(hb:w'.heap[pl.block]? =w.heap[pl.block]?):xA w' x pl:=⟨h.size,h.psize,by rw[hb];exact h.obj⟩
theorem kM.mono{w w':World}{σ σ':bD}{T T':Nat→Prop}{x:Blk}{pl:cv}{cs:Array Value}{e:TypeId}(h:kM w σ T x pl cs e)(ex:eI w σ T w' σ' T')
  (hb:w'.heap[pl.block]? =w.heap[pl.block]?):kM w' σ' T' x pl cs e:=⟨λhp=>(h.1 hp).mono ex hb,λhn=>(h.2 hn).mono hb⟩
theorem bu.ok_of{w:World}{σ:bD}{H:ac}(hW:bu w σ H){b:Nat}{x:Blk}{pl:cv}(hg:H.get b=some x)(hs:σ b=some pl){cs:Array Value}{e:TypeId}(hc:w.heap[pl.block]? =some (.cells cs e (0,0))):pl.ok:=by
 obtain⟨pl',cs',e',h1,h2⟩:=hW.live b x hg;rw[hs]at h1;cases h1;by_cases hp:pl.ok
 ·exact hp
 ·rcases(h2.2 hp).obj with⟨_,es,clk,h3,_⟩|⟨_,s,pos,h3,_⟩
  ·rw[hc]at h3;cases h3
  ·rw[hc]at h3;cases h3
theorem cv.ok_over{pl:cv}(h:pl.ok)(c k:Nat):cv.ok ⟨c,pl.base+k*pl.size,pl.size⟩:=by
 rcases h with h|h
 ·rcases Y0 pl.size with h0|h0
  ·left;show pl.base+k*pl.size=0;rw[h,h0];simp
  ·exact .inr h0
 ·exact .inr h
theorem eI.same{w w':World}(σ:bD)(T:Nat→Prop)(hh:w'.heap=w.heap)(ho:w'.os=w.os)(ht:w'.tape=w.tape)(hp:w'.output=w.output):eI w σ T w' σ T:=
 ⟨ho,ht,hp,by rw[hh];exact X7 _,λ_ _ _=>by rw[hh],λ_ cs _ h=>⟨cs,by rw[hh];exact h,rfl⟩,λ_ _ h=>h,rfl,λ_ _=>by rw[hh],λ_ h=>.inl h⟩
theorem bu.same{w w':World}{σ:bD}{H:ac}(h:bu w σ H)(hh:w'.heap=w.heap)(ho:w'.os=w.os)(ht:w'.tape=w.tape)(hp:w'.output=w.output):bu w' σ H:=
 ⟨h.named,λb pl hb=>by rw[hh];exact h.lt b pl hb,λb x hb=>by
  obtain⟨pl,cs,e,h1,h2⟩:=h.live b x hb;exact⟨pl,cs,e,h1,h2.mono (eI.same σ _ hh ho ht hp) (by rw[hh])⟩,λc hc=>by rw[hh];exact h.apart c hc,h.inj,h.glob.mono (eI.same σ _ hh ho ht hp)⟩
theorem bu.congr{w:World}{σ:bD}{H K:ac}(h:bu w σ H)(hg:∀b,K.get b=H.get b)(hn:H.next≤K.next):bu w σ K:=by
 have ht:Gx σ K=Gx σ H:=by funext c;simp[Gx,hg]
 have ho:aK σ K=aK σ H:=by funext c;simp[aK,ht]
 refine⟨λb pl hb=>Yw (h.named b pl hb) hn,h.lt,λb x hb=>?_,by rw[ht];exact h.apart,λb b' x x' pl pl' h1 h2=>h.inj b b' x x' pl pl' (by rwa [hg]at h1) (by rwa [hg]at h2),by rw[ho];exact h.glob⟩;rw[ho];exact h.live b x (by rwa [hg]at hb)
theorem aK.congr{σ:bD}{H K:ac}(hg:∀b,K.get b=H.get b):aK σ K=aK σ H:=by funext c;simp[aK,Gx,hg]
theorem aK.sub{σ:bD}{H K:ac}(hg:∀b x,K.get b=some x→H.get b=some x){c:Nat}(h:aK σ K c):aK σ H c:=by
 rcases h with h|⟨b,x,pl,h1,h2,h3⟩
 ·exact .inl h
 ·exact .inr ⟨b,x,pl,hg b x h1,h2,h3⟩
theorem eI.sub{w:World}{σ:bD}{H K:ac}(hg:∀b x,K.get b=some x→H.get b=some x):eI w σ (aK σ H) w σ (aK σ K):=
 ⟨rfl,rfl,rfl,X7 _,λ_ _ _=>rfl,λ_ cs _ h=>⟨cs,h,rfl⟩,λ_ _ h=>h,rfl,λ_ _=>rfl,λ_ h=>.inl (aK.sub hg h)⟩
theorem bu.sub{w:World}{σ:bD}{H K:ac}(h:bu w σ H)(hg:∀b x,K.get b=some x→H.get b=some x)(hn:H.next≤K.next):bu w σ K:=
 ⟨λb pl hb=>Yw (h.named b pl hb) hn,h.lt,λb x hb=>by
  obtain⟨pl,cs,e,h1,h2⟩:=h.live b x (hg b x hb);exact⟨pl,cs,e,h1,h2.mono (eI.sub hg) rfl⟩,λc hc=>⟨(h.apart c hc).1,λ⟨b,x,pl,h1,h2,h3⟩=>(h.apart c hc).2 ⟨b,x,pl,hg b x h1,h2,h3⟩⟩,λb b' x x' pl pl' h1 h2=>h.inj b b' x x' pl pl' (hg _ _ h1) (hg _ _ h2),h.glob.mono (eI.sub hg)⟩
def bD.set(σ:bD)(b:Nat)(pl:cv):bD:={σ with map:=λc=>if b=c then some pl else σ c}
theorem bD.set_eq(σ:bD)(b:Nat)(pl:cv):σ.set b pl b=some pl:=by simp[bD.set]
theorem bD.set_ne(σ:bD){b c:Nat}(pl:cv)(h:b≠c):σ.set b pl c=σ c:=by simp[bD.set,h]
theorem bD.set_old{σ:bD}{b c:Nat}{pl q:cv}(hb:σ b=none)(h:σ c=some q):σ.set b pl c=some q:=by rw[bD.set_ne _ _ (by rintro rfl;rw[hb]at h;cases h)];exact h
def World.push(w:World)(o:Obj):World:={w with heap:=w.heap.push o}
theorem bu.new{w:World}{σ:bD}{H:ac}(h:bu w σ H){b:Nat}(hb:σ b=none)(hlt:b<H.next){x:Blk}{cs:Array Value}{e:TypeId}
  (even:∀(i:Nat) (r:List AV),x.rows[i]? =some r→r.length=x.size) (room:x.rows.length*x.size≤cs.size)
  (rep:∀(i:Nat) (r:List AV) (j:Nat) (a:AV) (u:Value),x.rows[i]? =some r→r[j]? =some a→cs[i*x.size+j]? =some u→bb w σ (aK σ H) a u) :
  bu (World.push w (.cells cs e (0,0))) (σ.set b ⟨w.heap.size,0,x.size⟩) (H.new b x)∧
  eI w σ (aK σ H) (World.push w (.cells cs e (0,0))) (σ.set b ⟨w.heap.size,0,x.size⟩) (aK (σ.set b ⟨w.heap.size,0,x.size⟩) (H.new b x)):=by
 have hnone:H.get b=none:=by
  cases hg:H.get b with
  |none=>rfl
  |some y=>obtain⟨pl,_,_,h1,_⟩:=h.live b y hg;rw[hb]at h1;cases h1
 have hold:∀c,c<w.heap.size→(World.push w (.cells cs e (0,0))).heap[c]? =w.heap[c]? :=λc hc=>by show(w.heap.push _)[c]? =_;rw[Array.getElem?_push,if_neg (Nat.ne_of_lt hc)]
 have ext:eI w σ (aK σ H) (World.push w (.cells cs e (0,0))) (σ.set b ⟨w.heap.size,0,x.size⟩) (aK (σ.set b ⟨w.heap.size,0,x.size⟩) (H.new b x)):=by
  refine⟨rfl,rfl,rfl,by simp[World.push],λc hc _=>hold c hc,λc cs' e' hc=>⟨cs',?_,rfl⟩,λc q hq=>bD.set_old hb hq,rfl,λc hc=>hold c (h.apart c hc).1,?_⟩
  ·rcases X9 c w.heap.size with hlt|hge
   ·rw[hold c hlt];exact hc
   ·rw[Array.getElem?_eq_none hge]at hc;cases hc
  ·rintro c (hfr|⟨b',y,pl,h1,h2,h3⟩)
   ·exact .inl (.inl hfr)
   rw[ac.get_new]at h1;by_cases hbb:b=b'
   ·subst hbb;rw[bD.set_eq]at h2;cases h2;exact .inr (by simp only[]at h3;omega)
   ·rw[if_neg hbb]at h1;rw[bD.set_ne _ _ hbb]at h2;exact .inl (.inr ⟨b',y,pl,h1,h2,h3⟩)
 have hap:∀c,(σ.set b ⟨w.heap.size,0,x.size⟩).fr c→c<(World.push w (.cells cs e (0,0))).heap.size∧¬Gx (σ.set b ⟨w.heap.size,0,x.size⟩) (H.new b x) c:=λc hc=>by
  have hlt':=(h.apart c hc).1;refine⟨by simp[World.push];omega,?_⟩;rintro⟨b',y,pl,h1,h2,h3⟩;rw[ac.get_new]at h1;by_cases hbb:b=b'
  ·subst hbb;rw[bD.set_eq]at h2;cases h2;simp only[]at h3;omega
  ·rw[if_neg hbb]at h1;rw[bD.set_ne _ _ hbb]at h2;exact(h.apart c hc).2 ⟨b',y,pl,h1,h2,h3⟩
 refine⟨⟨?_,?_,?_,hap,?_,h.glob.mono ext⟩,ext⟩
 ·intro c pl hc;by_cases hbc:b=c
  ·subst hbc;exact hlt
  ·rw[bD.set_ne _ _ hbc]at hc;exact h.named c pl hc
 ·intro c pl hc;by_cases hbc:b=c
  ·subst hbc;rw[bD.set_eq]at hc;cases hc;simp[World.push]
  ·rw[bD.set_ne _ _ hbc]at hc;have:=h.lt c pl hc;simp[World.push];omega
 ·intro c y hy;rw[ac.get_new]at hy;by_cases hbc:b=c
  ·subst hbc;rw[if_pos rfl]at hy;cases hy;refine⟨_,cs,e,bD.set_eq _ _ _,.of (.inl rfl) ⟨rfl,by show(w.heap.push _)[w.heap.size]? =_;simp,even,by simpa using room,λi r j a u h1 h2 h3=>(rep i r j a u h1 h2 (by simpa using h3)).mono ext⟩⟩
  ·rw[if_neg hbc]at hy;obtain⟨pl,cs',e',h1,h2⟩:=h.live c y hy;exact⟨pl,cs',e',by rw[bD.set_ne _ _ hbc];exact h1,h2.mono ext (hold _ (h.lt c pl h1))⟩
 ·intro c c' y y' pl pl' h1 h2 h3 h4 h5;rw[ac.get_new]at h1 h2;by_cases hbc:b=c
  ·by_cases hbc':b=c'
   ·exact hbc.symm.trans hbc'
   ·subst hbc;rw[bD.set_eq]at h3;cases h3;rw[bD.set_ne _ _ hbc']at h4;have:=h.lt c' pl' h4;simp only[]at h5;omega
  ·by_cases hbc':b=c'
   ·subst hbc';rw[bD.set_eq]at h4;cases h4;rw[bD.set_ne _ _ hbc]at h3;have:=h.lt c pl h3;simp only[]at h5;omega
   ·rw[if_neg hbc]at h1;rw[if_neg hbc']at h2;rw[bD.set_ne _ _ hbc]at h3;rw[bD.set_ne _ _ hbc']at h4;exact h.inj c c' y y' pl pl' h1 h2 h3 h4 h5
structure md(w w':World)(c:Nat)(cs cs':Array Value)(e:TypeId):Prop where
 os:w'.os=w.os
 tape:w'.tape=w.tape
 output:w'.output=w.output
 size:w'.heap.size=w.heap.size
 old:w.heap[c]? =some (.cells cs e (0,0))
 new:w'.heap[c]? =some (.cells cs' e (0,0))
 len:cs'.size=cs.size
 rest:∀d,d≠c→w'.heap[d]? =w.heap[d]?
theorem md.refl{w:World}{c:Nat}{cs:Array Value}{e:TypeId}(h:w.heap[c]? =some (.cells cs e (0,0))):md w w c cs cs e:=
 ⟨rfl,rfl,rfl,rfl,h,h,rfl,λ_ _=>rfl⟩
theorem md.ext{w w':World}{c:Nat}{cs cs':Array Value}{e:TypeId}(h:md w w' c cs cs' e){σ σ':bD}{T T':Nat→Prop}(hc:T c)(hσ:∀b pl,σ b=some pl→σ' b=some pl)
  (hfr:σ'.fr=σ.fr) (hn:¬σ.fr c) (hT:∀d,T' d→T d):eI w σ T w' σ' T':=by
 refine⟨h.os,h.tape,h.output,by rw[h.size];exact X7 _,λd _ hd=>h.rest d (by rintro rfl;exact hd hc),λd ds e' hd=>?_,hσ,hfr,λd hd=>h.rest d (by rintro rfl;exact hn hd),λd hd=>.inl (hT d hd)⟩;by_cases hdc:d=c
 ·subst hdc;rw[h.old]at hd;cases hd;exact⟨cs',h.new,h.len⟩
 ·exact⟨ds,by rw[h.rest d hdc];exact hd,rfl⟩
theorem bu.put{w w':World}{σ:bD}{H:ac}(h:bu w σ H){b:Nat}{x x':Blk}{pl:cv}{cs cs':Array Value}{e:TypeId}(hg:H.get b=some x)(hs:σ b=some pl)
  (hw:md w w' pl.block cs cs' e) (hx:x'.size=pl.size)
  (even:∀(i:Nat) (r:List AV),x'.rows[i]? =some r→r.length=x'.size) (room:pl.base+x'.rows.length*x'.size≤cs.size)
  (rep:∀(i:Nat) (r:List AV) (j:Nat) (a:AV) (u:Value),x'.rows[i]? =some r→r[j]? =some a→cs'[pl.base+i*x'.size+j]? =some u→bb w σ (aK σ H) a u) :
  bu w' σ (H.put b (some x'))∧eI w σ (aK σ H) w' σ (aK σ (H.put b (some x'))):=by
 have htok:Gx σ (H.put b (some x'))=Gx σ H:=by
  funext c;apply propext;constructor
  ·rintro⟨b',y,q,h1,h2,h3⟩;rw[ac.get_put]at h1;by_cases hbb:b=b'
   ·subst hbb;exact⟨b,x,q,hg,h2,h3⟩
   ·rw[if_neg hbb]at h1;exact⟨b',y,q,h1,h2,h3⟩
  ·rintro⟨b',y,q,h1,h2,h3⟩;by_cases hbb:b=b'
   ·subst hbb;exact⟨b,x',q,by rw[ac.get_put,if_pos rfl],h2,h3⟩
   ·exact⟨b',y,q,by rw[ac.get_put,if_neg hbb];exact h1,h2,h3⟩
 have hown:aK σ (H.put b (some x'))=aK σ H:=by funext c;simp[aK,htok]
 have ext:eI w σ (aK σ H) w' σ (aK σ (H.put b (some x'))):=by rw[hown];exact hw.ext (.inr ⟨b,x,pl,hg,hs,rfl⟩) (λ_ _ h=>h) rfl (λhf=>(h.apart _ hf).2 ⟨b,x,pl,hg,hs,rfl⟩) (λ_ h=>h)
 refine⟨⟨h.named,λc q hc=>by rw[hw.size];exact h.lt c q hc,?_,λc hc=>by rw[hw.size,htok];exact h.apart c hc,?_,h.glob.mono ext⟩,ext⟩
 ·intro c y hy;rw[ac.get_put]at hy;by_cases hbc:b=c
  ·subst hbc;rw[if_pos rfl]at hy;cases hy;exact⟨pl,cs',e,hs,.of (h.ok_of hg hs hw.old) ⟨hx.symm,hw.new,even,by rw[hw.len];exact room,λi r j a u h1 h2 h3=>(rep i r j a u h1 h2 h3).mono ext⟩⟩
  ·rw[if_neg hbc]at hy;obtain⟨q,ds,e',h1,h2⟩:=h.live c y hy;exact⟨q,ds,e',h1,h2.mono ext (hw.rest _ λhe=>hbc (h.inj b c x y pl q hg hy hs h1 he.symm))⟩
 ·intro c c' y y' q q' h1 h2;have aux:∀c y,(H.put b (some x')).get c=some y→∃z,H.get c=some z:=λc y hy=>by
   rw[ac.get_put]at hy;by_cases hbc:b=c
   ·subst hbc;exact⟨x,hg⟩
   ·rw[if_neg hbc]at hy;exact⟨y,hy⟩
  obtain⟨z,hz⟩:=aux c y h1;obtain⟨z',hz'⟩:=aux c' y' h2;exact h.inj c c' z z' q q' hz hz'
theorem bu.over{w w':World}{σ:bD}{H:ac}(h:bu w σ H){b b':Nat}{x x':Blk}{pl:cv}{cs cs':Array Value}{e:TypeId}{k:Nat}(hg:H.get b=some x)(hs:σ b=some pl)
  (hb:σ b'=none) (hlt:b'<H.next) (hw:md w w' pl.block cs cs' e) (hx:x'.size=pl.size)
  (even:∀(i:Nat) (r:List AV),x'.rows[i]? =some r→r.length=x'.size) (room:pl.base+k*pl.size+x'.rows.length*x'.size≤cs.size)
  (rep:∀(i:Nat) (r:List AV) (j:Nat) (a:AV) (u:Value),x'.rows[i]? =some r→r[j]? =some a→cs'[pl.base+k*pl.size+i*x'.size+j]? =some u→bb w σ (aK σ H) a u) :
  bu w' (σ.set b' ⟨pl.block,pl.base+k*pl.size,pl.size⟩) ((H.put b none).new b' x')∧
  eI w σ (aK σ H) w' (σ.set b' ⟨pl.block,pl.base+k*pl.size,pl.size⟩) (aK (σ.set b' ⟨pl.block,pl.base+k*pl.size,pl.size⟩) ((H.put b none).new b' x')):=by
 have hne:b'≠b:=by rintro rfl;rw[hb]at hs;cases hs
 have get':∀c y,((H.put b none).new b' x').get c=some y→(c=b'∧y=x')∨(c≠b'∧c≠b∧H.get c=some y):=λc y hy=>by
  rw[ac.get_new]at hy;by_cases h1:b'=c
  ·rw[if_pos h1]at hy;cases hy;exact .inl ⟨h1.symm,rfl⟩
  ·rw[if_neg h1,ac.get_put]at hy;by_cases h2:b=c
   ·rw[if_pos h2]at hy;cases hy
   ·rw[if_neg h2]at hy;exact .inr ⟨λe=>h1 e.symm,λe=>h2 e.symm,hy⟩
 have htok:∀d,Gx (σ.set b' ⟨pl.block,pl.base+k*pl.size,pl.size⟩) ((H.put b none).new b' x') d→Gx σ H d:=by
  rintro d ⟨c,y,q,h1,h2,h3⟩;rcases get' c y h1 with⟨rfl,rfl⟩|⟨h4,_,h5⟩
  ·rw[bD.set_eq]at h2;cases h2;exact⟨b,x,pl,hg,hs,h3⟩
  ·rw[bD.set_ne _ _ (λe=>h4 e.symm)]at h2;exact⟨c,y,q,h5,h2,h3⟩
 have ext:eI w σ (aK σ H) w' (σ.set b' ⟨pl.block,pl.base+k*pl.size,pl.size⟩) (aK (σ.set b' ⟨pl.block,pl.base+k*pl.size,pl.size⟩) ((H.put b none).new b' x')):=by
  refine hw.ext (.inr ⟨b,x,pl,hg,hs,rfl⟩) (λc q hq=>bD.set_old hb hq) rfl (λhf=>(h.apart _ hf).2 ⟨b,x,pl,hg,hs,rfl⟩) ?_;rintro d (hfr|hd)
  ·exact .inl hfr
  ·exact .inr (htok d hd)
 refine⟨⟨?_,?_,?_,λc hc=>⟨by rw[hw.size];exact(h.apart c hc).1,λht=>(h.apart c hc).2 (htok c ht)⟩,?_,h.glob.mono ext⟩,ext⟩
 ·intro c q hc;by_cases hbc:b'=c
  ·subst hbc;exact hlt
  ·rw[bD.set_ne _ _ hbc]at hc;exact h.named c q hc
 ·intro c q hc;rw[hw.size];by_cases hbc:b'=c
  ·subst hbc;rw[bD.set_eq]at hc;cases hc;exact h.lt b pl hs
  ·rw[bD.set_ne _ _ hbc]at hc;exact h.lt c q hc
 ·intro c y hy;rcases get' c y hy with⟨rfl,rfl⟩|⟨h4,h6,h5⟩
  ·exact⟨_,cs',e,bD.set_eq _ _ _,.of (cv.ok_over (h.ok_of hg hs hw.old) _ _) ⟨hx.symm,hw.new,even,by rw[hw.len];exact room,λi r j a u h1 h2 h3=>(rep i r j a u h1 h2 h3).mono ext⟩⟩
  ·obtain⟨q,ds,e',h1,h2⟩:=h.live c y h5;exact⟨q,ds,e',by rw[bD.set_ne _ _ (λe=>h4 e.symm)];exact h1,h2.mono ext (hw.rest _ λhe=>h6 (h.inj c b y x q pl h5 hg h1 hs he))⟩
 ·intro c c' y y' q q' h1 h2 h3 h4 h5;rcases get' c y h1 with⟨rfl,rfl⟩|⟨a1,a2,a3⟩
  ·rcases get' c' y' h2 with⟨rfl,rfl⟩|⟨b1,b2,b3⟩
   ·rfl
   ·rw[bD.set_eq]at h3;cases h3;rw[bD.set_ne _ _ (λe=>b1 e.symm)]at h4;exact absurd (h.inj b c' x y' pl q' hg b3 hs h4 h5) (λe=>b2 e.symm)
  ·rcases get' c' y' h2 with⟨rfl,rfl⟩|⟨b1,b2,b3⟩
   ·rw[bD.set_eq]at h4;cases h4;rw[bD.set_ne _ _ (λe=>a1 e.symm)]at h3;exact absurd (h.inj c b y x q pl a3 hg h3 hs h5) a2
   ·rw[bD.set_ne _ _ (λe=>a1 e.symm)]at h3;rw[bD.set_ne _ _ (λe=>b1 e.symm)]at h4;exact h.inj c c' y y' q q' a3 b3 h3 h4 h5
section
section
variable {P:Program} {w:World} {σ:bD} {T:Nat→Prop}
theorem xB{t:TypeId}{i:TypeInfo}(h:P.info? t=some i)(w:World):(typeInfo t).run P w=.ok i w:=by simp[typeInfo,h]
theorem cJ{t:TypeId}{n:Nat}(h:aV P t=some n)(w:World):(sizeOf t).run P w=.ok n w:=by
 unfold aV at h;cases hi:P.info? t with
 |none=>rw[hi]at h;cases h
 |some i=>rw[hi]at h;cases h;simp[sizeOf,xB hi]
theorem me{t:TypeId}{r:Bool}(h:fm P t=some r)(w:World):(isAgg t).run P w=.ok r w:=by
 unfold fm at h;cases hi:P.underlying t with
 |none=>rw[hi]at h;cases h
 |some d=>rw[hi]at h;simp only[Yz,Yi]at h;subst h;simp only[isAgg,YE,run_underlying hi,Yk];cases d<;>rfl
theorem bb.cells{a:AV}{v:Value}{cs:List AV}(h:bb w σ T a v)(hc:a.cells? =some cs):eH w σ T cs v.cells.toList:=by
 have one:∀{a v},bb w σ T a v→(v.cells=#[v])→eH w σ T [a] v.cells.toList:=λ{a v} h e=>by
  rw[e];refine⟨rfl,λi a' v' h1 h2=>?_⟩
  match i with
  |0=>cases h1;cases h2;exact h
  |i+1=>simp at h1
 cases h<;>simp only[AV.cells?,Yi,reduceCtorEq]at hc<;>subst hc
 case agg vs hl h=>exact⟨by simpa[Value.cells]using hl,by simpa[Value.cells]using h⟩
 all_goals exact one (by constructor<;>assumption) rfl
theorem bb.one{a:AV}{v:Value}(h:bb w σ T a v)(ho:a.one=true):v.oneCell'=true:=by cases h<;>first|rfl|(simp[AV.one]at ho)
theorem eH.one{cs:List AV}{vs:List Value}(h:eH w σ T cs vs)(ho:cs.all AV.one=true):∀v∈vs,v.oneCell'=true:=by
 intro v hv;obtain⟨i,hi,rfl⟩:=Zc hv;have hi':i<cs.length:=by rw[h.1];exact hi
 exact(h.2 i cs[i] vs[i] (X6 hi') (X6 hi)).one (by rw[Yo]at ho;exact ho _ (Yr hi'))
def Jj(w:World)(σ:bD)(T:Nat→Prop)(row:List AV)(b start:Nat):Prop:=
 ∀(j:Nat) (a:AV),row[j]? =some a→∃u,w.cell? ⟨b,start+j,none⟩=some u∧bb w σ T a u
theorem eK(b o n:Nat):(⟨b,o,none⟩:Addr).add n=⟨b,o+n,none⟩:=by unfold Addr.add;split<;>simp_all
theorem OL{row:List AV}{b start:Nat}(h:Jj w σ T row b start)(n off:Nat)(hn:off+n≤row.length):
  ∃vs:List Value,vs.length=n∧(loadCells ⟨b,start+off,none⟩ n).run P w=.ok vs.toArray w∧eH w σ T ((row.drop off).take n) vs:=by
 have key:∀j,∃u,j<n→∃a,row[off+j]? =some a∧w.cell? ⟨b,start+off+j,none⟩=some u∧bb w σ T a u:=λj=>by
  by_cases hj:j<n
  ·obtain⟨u,h1,h2⟩:=h (off+j) row[off+j] (X6 ZJ);exact⟨u,λ_=>⟨_,X6 ZJ,by rw[YZ];exact h1,h2⟩⟩
  ·exact⟨undef,λh=>absurd h hj⟩
 let f:=λj=>Classical.choose (key j)
 have hf:∀j,j<n→∃a,row[off+j]? =some a∧w.cell? ⟨b,start+off+j,none⟩=some (f j)∧bb w σ T a (f j):=λj=>Classical.choose_spec (key j)
 refine⟨(List.range n).map f,ZM,run_loadCells w _ n f (λj hj=>by rw[eK];obtain⟨a,_,h2,_⟩:=hf j hj;exact h2),by simp;omega,?_⟩;intro i a v h1 h2;rw[Ym]at h2;have hi:i<n:=by
  rcases X9 i n with h3|h3
  ·exact h3
  ·rw[X8 (by simpa using h3)]at h2;cases h2
 rw[ZG hi]at h2;cases h2;obtain⟨a',h3,_,h5⟩:=hf i hi;rw[YG hi,YY,h3]at h1;cases h1;exact h5
theorem tC{t:TypeId}{row:List AV}{b start off:Nat}{v:AV}(h:Jj w σ T row b start)(hl:iq P t row off=some v):
  ∃v',(loadVar t ⟨b,start+off,none⟩).run P w=.ok v' w∧bb w σ T v v':=by
 unfold iq at hl;split at hl
 ·rename_i n h1 h2;split at hl
  ·rename_i hn;cases hl;obtain⟨vs,_,h4,h5⟩:=OL (P:=P) h n off hn;exact⟨.agg vs.toArray,by simp only[loadVar,YE,me h1,Yk,Sem.run_ite,if_true,cJ h2,h4,YS],.agg _ _ h5.1 h5.2⟩
  ·cases hl
 ·rename_i n h1 h2;obtain⟨u,h3,h4⟩:=h off v hl;exact⟨u,by simp[loadVar,me h1,h3],h4⟩
 ·cases hl
theorem tD{t:TypeId}{row:List AV}{vs:List Value}{off:Nat}{v:AV}(h:eH w σ T row vs)(hl:iq P t row off=some v):
  ∃v',(part t vs.toArray off).run P w=.ok v' w∧bb w σ T v v':=by
 unfold iq at hl;split at hl
 ·rename_i n h1 h2;split at hl
  ·rename_i hn;cases hl;refine⟨.agg (vs.toArray.extract off (off+n)),by simp only[part,YE,me h1,Yk,Sem.run_ite,if_true,cJ h2,YS],?_⟩;have e:vs.toArray.extract off (off+n)=((vs.drop off).take n).toArray:=by simp
   rw[e];refine .agg _ _ (by simp[h.1]) λi a v h3 h4=>?_
   have hi:i<n:=by
    rcases X9 i n with h5|h5
    ·exact h5
    ·rw[X8 (by simp;omega)]at h3;cases h3
   rw[YG hi,YY]at h3 h4;exact h.2 _ a v h3 h4
  ·cases hl
 ·rename_i n h1 h2;have ho:off<row.length:=by
   rcases X9 off row.length with h5|h5
   ·exact h5
   ·rw[X8 h5]at hl;cases hl
  have ho':off<vs.length:=by rw[←h.1];exact ho
  exact⟨vs[off],by simp[part,me h1,ho'],h.2 off v _ hl (X6 ho')⟩
 ·cases hl
theorem Av.row{x:Blk}{pl:cv}{cs:Array Value}{e:TypeId}(h:Av w σ T x pl cs e){i:Nat}{r:List AV}(hr:x.rows[i]? =some r):
  Jj w σ T r pl.block (pl.base+i*pl.size):=by
 intro j a ha;have hi:i<x.rows.length:=by
  rcases X9 i x.rows.length with h5|h5
  ·exact h5
  ·rw[X8 h5]at hr;cases hr
 have hj:j<x.size:=by
  rw[←h.even i r hr];rcases X9 j r.length with h5|h5
  ·exact h5
  ·rw[X8 h5]at ha;cases ha
 have hb:pl.base+i*x.size+j<cs.size:=by have:=h.room;have:(i+1)*x.size≤x.rows.length*x.size:=Yt _ hi;rw[YQ]at this;omega
 refine⟨cs[pl.base+i*x.size+j],?_,h.rep i r j a _ hr ha (YA hb)⟩;rw[h.size];simp[World.cell?,h.block,hb]
theorem t6.row{rows:List (List AV)}{b o sz:Nat}(hl:t6 w T rows b o sz)
  (h:∀(i:Nat) (r:List AV) (j:Nat) (a:AV) (u:Value),rows[i]? =some r→r[j]? =some a→w.cell? ⟨b,o+i*sz+j,none⟩=some u→bb w σ T a u)
  {i:Nat} {r:List AV} (hr:rows[i]? =some r):Jj w σ T r b (o+i*sz):=by
 intro j a ha;have hi:i<rows.length:=by
  rcases X9 i rows.length with h5|h5
  ·exact h5
  ·rw[X8 h5]at hr;cases hr
 have hj:j<sz:=by
  rw[←hl.even i r hr];rcases X9 j r.length with h5|h5
  ·exact h5
  ·rw[X8 h5]at ha;cases ha
 obtain⟨u,hu⟩:=hl.cell i j hi hj;exact⟨u,hu,h i r j a u hr ha hu⟩
theorem D4{H:ac}(hW:bu w σ H){t:TypeId}{a v:AV}{a':Value}(ha:bb w σ (aK σ H) a a')(hl:oA P H t a=some v):
  ∃v',(Instr.loadAt t a').run P w=.ok v' w∧bb w σ (aK σ H) v v':=by
 unfold oA at hl;split at hl
 ·rename_i b i off;cases ha;rename_i pl hp hs;cases hx:H.get b with
  |none=>rw[hx]at hl;cases hl
  |some x=>
   rw[hx]at hl;simp only[YW]at hl;cases hr:x.rows[i]? with
   |none=>rw[hr]at hl;cases hl
   |some r=>rw[hr]at hl;simp only[YW]at hl;obtain⟨pl',cs,e,h1,h2⟩:=hW.live b x hx;rw[hs]at h1;cases h1;replace h2:=h2.1 hp;obtain⟨v',h3,h4⟩:=tC (P:=P) (h2.row hr) hl;exact⟨v',by simpa[Instr.loadAt,Instr.sureAddr]using h3,h4⟩
 ·rename_i rows i off;cases ha;rename_i b o sz hl' h;cases hr:rows[i]? with
  |none=>rw[hr]at hl;cases hl
  |some r=>rw[hr]at hl;simp only[YW]at hl;obtain⟨v',h3,h4⟩:=tC (P:=P) (hl'.row h hr) hl;exact⟨v',by simpa[Instr.loadAt,Instr.sureAddr]using h3,h4⟩
 ·cases hl
end
end
section
section
variable {P:Program} {w:World} {σ:bD} {T:Nat→Prop}
theorem Mv{v:Value}{a:AV}(h:VB v=some a):bb w σ T a v:=by unfold VB at h;split at h<;>first|(cases h;constructor)|cases h
theorem jh{α:Type}:∀(l:List (Option α)) (m:List α),cu l=some m→l.length=m.length∧∀(i:Nat) (x:α),m[i]? =some x→l[i]? =some (some x)
 |[],m,h=>by cases h;exact⟨rfl,λi x h=>by simp at h⟩
 |none::_,m,h=>by cases h
 | some x::l,m,h=>by
  unfold cu at h;split at h
  ·rename_i l' hl;cases h;obtain⟨h1,h2⟩:=jh l l' hl;refine⟨by simp[h1],λi y hy=>?_⟩
   match i with
   |0=>simpa using hy
   |i+1=>simp only[Zv]at hy ⊢;exact h2 i y hy
  ·cases h
theorem Jk{v:Value}{a:AV}(h:OK v=some a):bb w σ T a v:=by
 unfold OK at h;split at h
 ·rename_i cs;cases hm:cu (cs.toList.map VB)with
  |none=>rw[hm]at h;cases h
  |some l=>
   rw[hm]at h;cases h;obtain⟨h1,h2⟩:=jh _ _ hm;have:bb w σ T (.agg l) (.agg cs.toList.toArray):=.agg l cs.toList (by simpa using h1.symm) λi a v h3 h4=>by have:=h2 i a h3;rw[Ym,h4]at this;simp only[Yz,Yi]at this;exact Mv this
   simpa using this
 ·exact Mv h
theorem eM{t:TypeId}{z:AV}(h:ez P t=some z):∃z',(zeroValue t).run P w=.ok z' w∧bb w σ T z z':=by
 unfold ez at h;cases hi:P.info? t with
 |none=>rw[hi]at h;cases h
 |some i=>
  rw[hi]at h;simp only[YW]at h;cases hz:i.zero with
  |none=>rw[hz]at h;cases h
  |some z'=>rw[hz]at h;exact⟨z',by simp[zeroValue,xB hi,hz],Jk h⟩
theorem CA{s:TypeId}{x v:AV}{x':Value}{f:Nat}(hx:bb w σ T x x')(h:jx P s x f=some v):
  ∃v',(Instr.fieldAt s x' f).run P w=.ok v' w∧bb w σ T v v':=by
 unfold jx at h;split at h
 ·rename_i fs hu;cases hf:fs[f]? with
  |none=>rw[hf]at h;cases h
  |some fd=>
   rw[hf]at h;simp only[YW]at h;cases hn:aV P fd.type with
   |none=>rw[hn]at h;cases h
   |some n=>
    rw[hn]at h;simp only[YW]at h;by_cases h0:n=0
    ·rw[if_pos h0]at h;cases h
    ·rw[if_neg h0]at h;cases hx<;>simp only[Yi,reduceCtorEq]at h<;>subst h
     ·rename_i b i off pl hs hp;refine⟨_,by simp only[Instr.fieldAt,YE,run_underlying hu,Yk,hf,Instr.sureAddr,YS,fieldPlace,cJ hn,Sem.run_ite,if_neg h0,eK];rfl,?_⟩;have:=bb.ptr (w:=w) (T:=T) b i (off+fd.offset) pl hs hp
      rwa [←YZ]at this
     ·rename_i rows i off b o sz hl h;refine⟨_,by simp only[Instr.fieldAt,YE,run_underlying hu,Yk,hf,Instr.sureAddr,YS,fieldPlace,cJ hn,Sem.run_ite,if_neg h0,eK];rfl,?_⟩;have:=bb.pptr rows i (off+fd.offset) b o sz hl h
      rwa [←YZ]at this
 ·cases h
theorem Jl{s:TypeId}{x v:AV}{x':Value}{f:Nat}(hx:bb w σ T x x')(h:HQ P s x f=some v):
  ∃v',(Instr.field s x' f).run P w=.ok v' w∧bb w σ T v v':=by
 unfold HQ at h;split at h
 ·rename_i fs cs hu;cases hx;rename_i vs hl hr;cases hf:fs[f]? with
  |none=>rw[hf]at h;cases h
  |some fd=>rw[hf]at h;simp only[YW]at h;obtain⟨v',h1,h2⟩:=tD (P:=P) (w:=w) (σ:=σ) (T:=T) ⟨hl,hr⟩ h;exact⟨v',by simp[Instr.field,run_underlying hu,hf,asAgg,h1],h2⟩
 ·cases h
theorem bb.sl_inv{b i n:Nat}{v:Value}(h:bb w σ T (.sl b i n) v):∃pl a cap,v=.slice (some a) n cap∧σ b=some pl∧n≤cap∧cap≤maxLen∧
  (0<cap→a=⟨pl.block,pl.base+i*pl.size,none⟩∧∃cs e,w.heap[pl.block]? =some (.cells cs e (0,0))∧pl.base+(i+cap)*pl.size≤cs.size):=by
 cases h with
 |sl _ _ _ pl a cap h hp hn hm ha=>exact⟨pl,a,cap,rfl,h,hn,hm,ha⟩
theorem bb.sl_ok{b i n:Nat}{v:Value}(h:bb w σ T (.sl b i n) v){pl:cv}(hs:σ b=some pl):pl.ok:=by
 cases h with
 |sl _ _ _ pl' a cap h hp hn hm ha=>rw[hs]at h;cases h;exact hp
theorem bb.lst_inv{rows:List (List AV)}{v:Value}(h:bb w σ T (.lst rows) v):∃A cap,v=.slice A rows.length cap∧rows.length≤cap∧cap≤maxLen∧
  (rows≠[]→∃b o sz,A=some ⟨b,o,none⟩∧t6 w T rows b o sz∧
   ∀(i:Nat) (r:List AV) (j:Nat) (a:AV) (u:Value),rows[i]? =some r→r[j]? =some a→w.cell? ⟨b,o+i*sz+j,none⟩=some u→bb w σ T a u):=by
 cases h with
 |lst0 a cap hm=>exact⟨a,cap,rfl,YK _,hm,λh=>absurd rfl h⟩
 |lst _ b o sz cap hl hn hm h=>exact⟨_,cap,rfl,hn,hm,λ_=>⟨b,o,sz,rfl,hl,h⟩⟩
theorem aB{α:Type}{l:List α}{i:Nat}{x:α}(h:l[i]? =some x):i<l.length:=by
 rcases X9 i l.length with h5|h5
 ·exact h5
 ·rw[X8 h5]at h;cases h
theorem CB{H:ac}(hW:bu w σ H){t:TypeId}{x ix v:AV}{x' ix':Value}(hx:bb w σ (aK σ H) x x')(hi:bb w σ (aK σ H) ix ix')(h:dS P (nw H x) t x ix=some v):
  ∃v',(Instr.indexAt t x' ix').run P w=.ok v' w∧bb w σ (aK σ H) v v':=by
 unfold dS at h;split at h
 ·rename_i k i;cases hi;by_cases h0:i<0
  ·rw[if_pos h0]at h;cases h
  ·rw[if_neg h0]at h;split at h
   ·rename_i e b j n hu;split at h
    ·rename_i hlt;obtain⟨hlt,hso,hsz⟩:=hlt;cases h;cases hy:H.get b with
     |none=>simp[nw,hy]at hso
     |some y=>
     simp only[nw,hy,Yz]at hsz;obtain⟨pl,a,cap,rfl,hs,hn,hm,ha⟩:=hx.sl_inv;obtain⟨rfl,cs,ty,hc,hr⟩:=ha ZJ;have hii:0≤i∧i<(n:Int):=by omega
     obtain⟨pl',cs',e',h1,h2⟩:=hW.live b y hy;rw[hs]at h1;cases h1;have hp:=hx.sl_ok hs;replace h2:=h2.1 hp;refine⟨_,by simp only[Instr.indexAt,asIntOf,YE,YS,Yk,run_underlying hu,Sem.run_ite,if_pos hii,cJ hsz,eK];rfl,?_⟩;have:=bb.ptr (w:=w) (T:=aK σ H) b (j+i.toNat) 0 pl hs hp;rw[←h2.size];simpa[YQ,YZ]using this
    ·cases h
   ·rename_i e rows hu;split at h
    ·rename_i r hr;split at h
     ·rename_i hsz;cases h;have hlt:=aB hr;have hii:0≤i∧i<(rows.length:Int):=by omega
      obtain⟨A,cap,rfl,hn,hm,ha⟩:=hx.lst_inv;obtain⟨b,o,sz,rfl,hl,h⟩:=ha (by rintro rfl;simp at hr);have hrs:=hl.even _ _ hr;subst hrs;refine⟨_,by simp only[Instr.indexAt,asIntOf,YE,YS,Yk,run_underlying hu,Sem.run_ite,if_pos hii,cJ hsz,eK];rfl,?_⟩;exact bb.pptr rows i.toNat 0 b o _ hl h
     ·cases h
    ·cases h
   ·rename_i len e b j off hu;split at h
    ·rename_i hlt;cases hn:aV P e with
     |none=>rw[hn]at h;cases h
     |some n=>
      rw[hn]at h;cases h;cases hx;rename_i pl hp hs;have hii:0≤i∧i<(len:Int):=by omega
      refine⟨_,by simp only[Instr.indexAt,asIntOf,YE,YS,Yk,run_underlying hu,Instr.sureAddr,Sem.run_ite,if_pos hii,cJ hn,eK];rfl,?_⟩;have:=bb.ptr (w:=w) (T:=aK σ H) b j (off+i.toNat*n) pl hs hp
      rwa [←YZ]at this
    ·cases h
   ·rename_i len e rows j off hu;split at h
    ·rename_i hlt;cases hn:aV P e with
     |none=>rw[hn]at h;cases h
     |some n=>
      rw[hn]at h;cases h;cases hx;rename_i b o sz hl h;have hii:0≤i∧i<(len:Int):=by omega
      refine⟨_,by simp only[Instr.indexAt,asIntOf,YE,YS,Yk,run_underlying hu,Instr.sureAddr,Sem.run_ite,if_pos hii,cJ hn,eK];rfl,?_⟩;have:=bb.pptr rows j (off+i.toNat*n) b o sz hl h
      rwa [←YZ]at this
    ·cases h
   ·cases h
 ·cases h
theorem Jm{t:TypeId}{x ix v:AV}{x' ix':Value}(hx:bb w σ T x x')(hi:bb w σ T ix ix')(h:D3 P t x ix=some v):
  ∃v',(Instr.index t x' ix').run P w=.ok v' w∧bb w σ T v v':=by
 unfold D3 at h;split at h
 ·rename_i s k i hu;cases hi;by_cases h0:i<0
  ·rw[if_pos h0]at h;cases h
  ·rw[if_neg h0]at h;cases hx;rename_i ba;cases hb:ba.data.toList[i.toNat]? with
   |none=>rw[hb]at h;cases h
   |some c=>
    rw[hb]at h;cases h;have hlt:=aB hb;have h1:ba[i.toNat]? =some c:=by
     have hlt':i.toNat<ba.size:=by rw[Yv]at hlt;exact hlt
     rw[getElem?_pos ba i.toNat hlt'];rw[X6 hlt]at hb;rw[←hb];rfl
    have hii:0≤i:=by omega
    have e:(if 0≤i then ba[i.toNat]? else none)=some c:=by rw[if_pos hii];exact h1
    exact⟨.int .u8 c.toNat,by simp only[Instr.index,asIntOf,YE,YS,Yk,run_underlying hu,e],.int _ _⟩
 ·rename_i len e cs k i hu;split at h
  ·rename_i hlt;cases hn:aV P e with
   |none=>rw[hn]at h;cases h
   |some n=>
    rw[hn]at h;simp only[YW]at h;cases hi;cases hx;rename_i vs hl hr;obtain⟨v',h1,h2⟩:=tD (P:=P) (w:=w) (σ:=σ) (T:=T) ⟨hl,hr⟩ h;have hii:0≤i∧i<(len:Int):=by omega
    refine⟨v',?_,h2⟩;simp only[Instr.index,asIntOf,YE,YS,Yk,run_underlying hu];rw[if_pos hii];simp only[YE,cJ hn,Yk,h1]
  ·cases h
 ·cases h
theorem pX{x:AV}{x':Value}{n:Nat}(hx:bb w σ T x x')(h:oC x=some n):∃k i,x'=.int k i∧0≤i∧i.toNat=n:=by
 unfold oC at h;split at h
 ·rename_i k i;split at h
  ·rename_i h0;cases h;cases hx;exact⟨k,i,rfl,h0,rfl⟩
  ·cases h
 ·cases h
end
end
section
structure OM(P:Program)(t:TypeId)(ts:List TypeId):Prop where
 under:P.underlying t=some (.struct (P.fieldsOf t))
 stood:P.stoodInHeld t=false
 guard:P.eqGuardType P.depth t=false
 types:(P.fieldsOf t).toList.map (·.type)=ts
 fields : ∀ (i : Nat) (f : Field), (P.fieldsOf t).toList[i]? = some f → f.name ≠ "_" ∧ f.offset = i ∧ fm P f.type = some false
section
variable {P:Program} {w:World} {σ:bD} {T:Nat→Prop}
theorem bytes_beq(a b:ByteArray):(a.toList==b.toList)=(a.data.toList==b.data.toList):=by rw[ByteArray.toList_eq,ByteArray.toList_eq]
theorem Aw{t:TypeId}{x y:AV}{x' y':Value}{r:Bool}{d:Nat}(hx:bb w σ T x x')(hy:bb w σ T y y')(h:Cc P t x y=some r):
  (Op.equalIn (d+1) t x' y').run P w=.ok r w:=by
 unfold Cc at h;split at h
 case h_1 hu=>
  split at h
  ·rename_i hk;subst hk;cases h;cases hx;cases hy;exact run_equalIn_int w d t _ _ _ _ hu
  ·cases h
 case h_2 hu=>cases h;cases hx;cases hy;exact run_equalIn_bool' w d t _ _ hu
 case h_3 hu=>cases h;cases hx;cases hy;rw[run_equalIn_string w d t _ _ hu,bytes_beq]
 case h_4 hu=>cases h;cases hx;cases hy;simp[Op.equalIn,run_underlying hu]
 case h_5 hu=>cases h;cases hx;cases hy;simp[Op.equalIn,run_underlying hu]
 case h_6 hu=>cases h;cases hx;cases hy;simp[Op.equalIn,run_underlying hu]
 case h_7 hu=>cases h;cases hx;cases hy;simp[Op.equalIn,run_underlying hu]
 case h_8 hu=>cases h;cases hx;cases hy;simp[Op.equalIn,run_underlying hu]
 case h_9 hu=>cases h;cases hx;cases hy;simp[Op.equalIn,run_underlying hu]
 case h_10 hu=>cases h;cases hx;cases hy;simp[Op.equalIn,run_underlying hu]
 case h_11 hu=>cases h;cases hx;cases hy;simp[Op.equalIn,run_underlying hu]
 case h_12 hu=>cases h;cases hx;cases hy;simp[Op.equalIn,run_underlying hu]
 case h_13 hu=>cases h;cases hx;cases hy;simp[Op.equalIn,run_underlying hu]
 case h_14=>cases h
theorem Jn{t:TypeId}{cs:List AV}{vs:List Value}{i:Nat}{a:AV}(ht:fm P t=some false)(h:eH w σ T cs vs)(ha:cs[i]? =some a):
  ∃v,(part t vs.toArray i).run P w=.ok v w∧bb w σ T a v:=by
 have hi:=aB ha;have hi':i<vs.length:=by rw[←h.1];exact hi
 exact⟨vs[i],by simp[part,me ht,hi'],h.2 i a _ ha (X6 hi')⟩
theorem t7{d:Nat}{cs ds:List AV}{xs ys:List Value}(hc:eH w σ T cs xs)(hd:eH w σ T ds ys):∀(fs:List Field) (k:Nat) (r:Bool),
  (∀ (i : Nat) (f : Field), fs[i]? = some f → f.name ≠ "_" ∧ f.offset = k + i ∧ fm P f.type = some false) → HP P (fs.map (·.type)) (cs.drop k) (ds.drop k) = some r→
  (Op.eqFields (d+1) xs.toArray ys.toArray fs).run P w=.ok r w
 | [],k,r,_,h=>by
  unfold HP at h;split at h
  ·cases h;rfl
  ·simp_all
  ·cases h
 | f::fs,k,r,hf,h=>by
  unfold HP at h;split at h
  ·rename_i e _ _;cases e
  ·rename_i t ts a l b m e1 e2 e3;cases e1;obtain⟨h1,h2,h3⟩:=hf 0 f rfl;have ha:cs[k]? =some a:=by have:=congrArg (·[0]?) e2;simpa[YY]using this
   have hb:ds[k]? =some b:=by have:=congrArg (·[0]?) e3;simpa[YY]using this
   have hl:l=cs.drop (k+1):=by have:=congrArg List.tail e2;simpa[List.tail_drop]using this.symm
   have hm:m=ds.drop (k+1):=by have:=congrArg List.tail e3;simpa[List.tail_drop]using this.symm
   simp only[Zy]at h2;obtain⟨u,hu1,hu2⟩:=Jn (P:=P) h3 hc ha;obtain⟨v,hv1,hv2⟩:=Jn (P:=P) h3 hd hb;rw[←h2]at hu1 hv1;simp only[Op.eqFields,if_pos h1,YE,hu1,hv1,Yk];split at h
   ·rename_i he;rw[Aw hu2 hv2 he];simp only[Yk,Bool.not_true,YB,if_false];exact t7 hc hd fs (k+1) r (λi g hg=>by have:=hf (i+1) g (by simpa using hg);refine⟨this.1,by rw[this.2.1];omega,this.2.2⟩) (by rw[←hl,←hm];exact h)
   ·rename_i he;rw[Aw hu2 hv2 h];cases r with
    |true=>exact absurd h he
    |false=>rfl
  ·cases h
theorem Gz{op:BinOp}{t:TypeId}{x y:Operand}{a b:Value}(h:∀xs,a≠.agg xs)(h':a≠.nilIface):(eqGuard op t x y a b).run P w=.ok () w:=by cases a<;>cases op<;>simp_all[eqGuard]
theorem Ce:∀(a b:List UInt8),xy a b=Op.bytesLess a b
 |_,[]=>by cases ‹List UInt8›<;>rfl
 |[],_::_=>rfl
 |a::x,b::y=>by simp[xy,Op.bytesLess,Ce x y]
theorem bb.ne_agg{a:AV}{v:Value}(h:bb w σ T a v)(hc:∀cs,a≠.agg cs)(hj:a≠.junk):(∀xs,v≠.agg xs)∧v≠.nilIface:=by cases h<;>first|(exact absurd rfl (hc _))|(exact absurd rfl hj)|(constructor<;>simp)
theorem ON{op:UnOp}{x v:AV}{x':Value}(hx:bb w σ T x x')(h:Xv op x=some v):∃v',(Op.unary op x').run P w=.ok v' w∧bb w σ T v v':=by
 unfold Xv at h;split at h
 ·cases h;cases hx;exact⟨_,rfl,.int _ _⟩
 ·cases h;cases hx;exact⟨_,rfl,.bool _⟩
 ·cases h
theorem Lh{s d:TypeId}{x v:AV}{x':Value}(hx:bb w σ T x x')(h:Jg P s d x=some v):∃v',(convert s d x').run P w=.ok v' w∧bb w σ T v v':=by
 unfold Jg at h;split at h
 ·rename_i hu hv;cases h;cases hx;exact⟨_,by simp[convert,run_underlying hu,run_underlying hv,Conv.intToInt],.int _ _⟩
 ·rename_i hu hv;cases h;cases hx;exact⟨_,by simp[convert,run_underlying hu,run_underlying hv],.str _⟩
 ·cases h
end
end
section
section
variable {P:Program} {w:World} {σ:bD} {T:Nat→Prop}
theorem nA{op:BinOp}{t:TypeId}{k k':IntKind}{a b:Int}{v:AV}(F:TypeId→Option (List TypeId))(h:iu P F op t (.int k a) (.int k' b)=some v):
  ∃v',(binOp op t (.int k a) (.int k' b)).run P w=.ok v' w∧bb w σ T v v':=by
 by_cases hk:k=k'
 ·subst hk;cases op<;>simp only[iu,ne_eq,not_true_eq_false,if_false,reduceCtorEq,Yi]at h
  case shl=>
   split at h
   ·rename_i hb;cases h;exact⟨_,by simp only[binOp,Op.shift];rw[if_neg ZJ];rfl,.int _ _⟩
   ·cases h
  case shr=>
   split at h
   ·rename_i hb;cases h;exact⟨_,by simp only[binOp,Op.shift];rw[if_neg ZJ];rfl,.int _ _⟩
   ·cases h
  case quo=>
   split at h
   ·cases h
   ·rename_i hb;cases h;exact⟨_,by simp only[binOp,Op.intDiv,ne_eq,not_true_eq_false,if_false];rw[if_neg hb];rfl,.int _ _⟩
  case rem=>
   split at h
   ·cases h
   ·rename_i hb;cases h;exact⟨_,by simp only[binOp,Op.intDiv,ne_eq,not_true_eq_false,if_false];rw[if_neg hb];rfl,.int _ _⟩
  all_goals (subst h;refine⟨_,by simp only[binOp,ne_eq,not_true_eq_false,if_false];rfl,?_⟩;constructor)
 ·cases op<;>simp only[iu,ne_eq,hk,not_false_eq_true,if_true,reduceCtorEq]at h
  case shl=>
   split at h
   ·rename_i hb;cases h;exact⟨_,by simp only[binOp,Op.shift];rw[if_neg ZJ];rfl,.int _ _⟩
   ·cases h
  case shr=>
   split at h
   ·rename_i hb;cases h;exact⟨_,by simp only[binOp,Op.shift];rw[if_neg ZJ];rfl,.int _ _⟩
   ·cases h
theorem Mw{l:List UInt8}{s:ByteArray}(h:s.data.toList=l):bb w σ T (.str l) (.string s):=by subst h;exact .str s
theorem HR{op:BinOp}{t:TypeId}{a b:ByteArray}{v:AV}(F:TypeId→Option (List TypeId))(h:iu P F op t (.str a.data.toList) (.str b.data.toList)=some v):
  ∃v',(binOp op t (.string a) (.string b)).run P w=.ok v' w∧bb w σ T v v':=by
 cases op<;>simp only[iu,reduceCtorEq,Yi]at h
 case add=>
  split at h
  ·rename_i hl;cases h;have hn:¬((a.size+b.size:Nat):Int) > IntKind.i64.max:=by
    have h1:a.data.toList.length=a.size:=Yv;have h2:b.data.toList.length=b.size:=Yv;rw[h1,h2]at hl;have:(IntKind.i64.max:Int)=9223372036854775807:=by decide
    rw[this];omega
   exact⟨_,by simp only[binOp,Op.stringOp];rw[if_neg hn];rfl,Mw ZM⟩
  ·cases h
 case eql=>subst h;exact⟨_,rfl,by rw[bytes_beq];exact .bool _⟩
 case neq=>subst h;exact⟨_,rfl,by rw[bytes_beq];exact .bool _⟩
 case lss=>subst h;exact⟨_,rfl,by rw[Ce,ByteArray.toList_eq,ByteArray.toList_eq];exact .bool _⟩
theorem Rr{t:TypeId}{x' y':Value}{r:Bool}(h:(Op.equalIn 10000 t x' y').run P w=.ok r w)
  (hx:∀k n,x'≠.int k n) (hs:∀s,x'≠.string s) (hf:∀k n,x'≠.float k n) (hc:∀k a b,x'≠.complex k a b) :
  (binOp .eql t x' y').run P w=.ok (.bool r) w∧(binOp .neq t x' y').run P w=.ok (.bool !r) w:=by
 constructor
 ·cases x'<;>simp_all[binOp,Op.equal,Op.maxDepth]
 ·cases x'<;>simp_all[binOp,Op.equal,Op.maxDepth]
theorem Ax{t:TypeId}{x y:AV}{x':Value}{r:Bool}(h:Cc P t x y=some r)(hx:bb w σ T x x')(h1:∀k n,x≠.int k n)(h2:∀s,x≠.str s):
  (∀k n,x'≠.int k n)∧(∀s,x'≠.string s)∧(∀k n,x'≠.float k n)∧(∀k a b,x'≠.complex k a b)∧(∀cs,x≠.agg cs)∧x≠.junk:=by
 have hj:x≠.junk∧∀cs,x≠.agg cs:=by
  constructor
  ·rintro rfl;unfold Cc at h;split at h<;>simp_all
  ·rintro cs rfl;unfold Cc at h;split at h<;>simp_all
 cases hx<;>simp_all
theorem DP{t:TypeId}{x y:AV}{r:Bool}(h:Cc P t x y=some r)(hy:y=.nilp∨y=.nils):(∀k n,x≠.int k n)∧(∀s,x≠.str s):=by
 rcases hy with rfl|rfl
 ·constructor
  ·rintro k n rfl;unfold Cc at h;split at h<;>simp_all
  ·rintro s rfl;unfold Cc at h;split at h<;>simp_all
 ·constructor
  ·rintro k n rfl;unfold Cc at h;split at h<;>simp_all
  ·rintro s rfl;unfold Cc at h;split at h<;>simp_all
theorem Nw{F:TypeId→Option (List TypeId)}(hF:∀t ts,F t=some ts→OM P t ts){op:BinOp}{t:TypeId}{ox oy:Operand}{x y v:AV}{x' y':Value}(hx:bb w σ T x x')(hy:bb w σ T y y')
  (h:iu P F op t x y=some v):∃v',(do eqGuard op t ox oy x' y';binOp op t x' y':Sem Value).run P w=.ok v' w∧bb w σ T v v':=by
 have other:(∀cs,x≠.agg cs)→x≠.junk→(∃v',(binOp op t x' y').run P w=.ok v' w∧bb w σ T v v')→∃v',(do eqGuard op t ox oy x' y';binOp op t x' y':Sem Value).run P w=.ok v' w∧bb w σ T v v':=by intro h1 h2 ⟨v',h3,h4⟩;obtain⟨h5,h6⟩:=hx.ne_agg h1 h2;exact⟨v',by simp only[YE,Gz h5 h6,Yk,h3],h4⟩
 have eqs:∀r,Cc P t x y=some r→(∀k n,x'≠.int k n)→(∀s,x'≠.string s)→(∀k n,x'≠.float k n)→(∀k a b,x'≠.complex k a b)→
   (binOp .eql t x' y').run P w=.ok (.bool r) w∧(binOp .neq t x' y').run P w=.ok (.bool !r) w:=λr hr=>Rr (Aw hx hy hr)
 have h0:=h;unfold iu at h;split at h
 case h_1=>cases hx;cases hy;exact other ZM ZM (nA F h0)
 case h_2=>cases hx;cases hy;exact other ZM ZM (nA F h0)
 case h_3=>cases hx;cases hy;exact other ZM ZM (nA F h0)
 case h_4=>cases hx;cases hy;exact other ZM ZM (HR F h0)
 case h_5 a b=>
  cases hf:F t with
  |none=>rw[hf]at h;cases h
  |some ts=>
   rw[hf]at h;simp only[YW]at h;cases he:HP P ts a b with
   |none=>rw[he]at h;cases h
   |some r=>
    rw[he]at h;cases h;cases hx with
    |agg _ xs hl1 hr1=>
    cases hy with
    |agg _ ys hl2 hr2=>
    have fl:=hF t ts hf;have:=t7 (P:=P) (w:=w) (σ:=σ) (T:=T) (d:=9998) ⟨hl1,hr1⟩ ⟨hl2,hr2⟩ (P.fieldsOf t).toList 0 r (λi f hi=>by have:=fl.fields i f hi;simpa using this) (by rw[fl.types];simpa using he);refine⟨.bool r,?_,.bool r⟩;simp only[YE,run_eqGuard_agg w _ t ox oy _ _ fl.guard,Yk,run_eql_struct];rw[run_equalIn_agg w 9999 t _ _ fl.under fl.stood,this];rfl
 case h_6 a b=>
  cases hf:F t with
  |none=>rw[hf]at h;cases h
  |some ts=>
   rw[hf]at h;simp only[YW]at h;cases he:HP P ts a b with
   |none=>rw[he]at h;cases h
   |some r=>
    rw[he]at h;cases h;cases hx with
    |agg _ xs hl1 hr1=>
    cases hy with
    |agg _ ys hl2 hr2=>
    have fl:=hF t ts hf;have:=t7 (P:=P) (w:=w) (σ:=σ) (T:=T) (d:=9998) ⟨hl1,hr1⟩ ⟨hl2,hr2⟩ (P.fieldsOf t).toList 0 r (λi f hi=>by have:=fl.fields i f hi;simpa using this) (by rw[fl.types];simpa using he);refine⟨.bool !r,?_,.bool !r⟩;simp only[YE,run_eqGuard_agg w _ t ox oy _ _ fl.guard,Yk,run_neq_struct];rw[run_equalIn_agg w 9999 t _ _ fl.under fl.stood,this];rfl
 case h_17=>cases h
 all_goals
  cases he:Cc P t _ _ with
  |none=>rw[he]at h;cases h
  |some r=>
   rw[he]at h;cases h
   first
    |(obtain⟨p1,p2,p3,p4,p5,p6⟩:=Ax he hx (DP he (.inl rfl)).1 (DP he (.inl rfl)).2;obtain⟨e1,e2⟩:=eqs r he p1 p2 p3 p4;first|exact other p5 p6 ⟨_,e1,.bool _⟩|exact other p5 p6 ⟨_,e2,.bool _⟩)
    |(obtain⟨p1,p2,p3,p4,p5,p6⟩:=Ax he hx (DP he (.inr rfl)).1 (DP he (.inr rfl)).2;obtain⟨e1,e2⟩:=eqs r he p1 p2 p3 p4;first|exact other p5 p6 ⟨_,e1,.bool _⟩|exact other p5 p6 ⟨_,e2,.bool _⟩)
    |(obtain⟨p1,p2,p3,p4,p5,p6⟩:=Ax he hx ZM ZM;obtain⟨e1,e2⟩:=eqs r he p1 p2 p3 p4;first|exact other p5 p6 ⟨_,e1,.bool _⟩|exact other p5 p6 ⟨_,e2,.bool _⟩)
theorem mf{a:AV}{v:Value}{n y:Nat}{code:BoundsCode}(hr:bb w σ T a v)(h:oC a=some n)(hn:n≤y):(Instr.sliceBound v y code).run P w=.ok n w:=by
 obtain⟨k,i,rfl,h0,rfl⟩:=pX hr h;have:0≤i∧i≤(y:Int):=by omega
 simp only[Instr.sliceBound,asIntOf,YE,YS,Yk,Sem.run_ite];rw[if_pos this]
def Li(w:World)(σ:bD)(T:Nat→Prop)(x:Option AV)(x':Option Value):Prop:=
 match x,x' with
 |none,none=>True
 |some a,some v=>bb w σ T a v
 |_,_=>False
theorem ji{lo hi mx:Option AV}{lo' hi' mx':Option Value}{n c l h m:Nat}{isS:Bool}(hlo:Li w σ T lo lo')(hhi:Li w σ T hi hi')(hmx:Li w σ T mx mx')(hmh:hi=none→mx=none)
  (h1:cI lo 0=some l) (h2:cI hi n=some h) (h3:cI mx n=some m) (hc:n≤c) (b1:l≤h) (b2:h≤m) (b3:m≤n) :
  ∃m',(Instr.sliceBounds isS n c lo' hi' mx').run P w=.ok (l,h,m') w∧h≤m'∧m'≤c∧(mx.isSome=true→m'=m):=by
 match mx,mx',hmx with
 |none,none,_=>
  cases h3;refine⟨c,?_,ZJ,X7 _,ZM⟩
  match hi,hi',hhi with
  |none,none,_=>
   cases h2
   match lo,lo',hlo with
   |none,none,_=>cases h1;simp[Instr.sliceBounds]
   |some a,some v,hr=>simp[Instr.sliceBounds,mf (P:=P) hr h1 b1]
  |some a,some v,hr=>
   have e:=mf (P:=P) (code:=if isS=true then .sliceAcap else .sliceAlen) hr h2 (show h≤c by omega)
   match lo,lo',hlo with
   |none,none,_=>cases h1;simp[Instr.sliceBounds,e]
   |some a,some v,hr=>simp[Instr.sliceBounds,e,mf (P:=P) hr h1 b1]
 |some a,some v,hr=>
  have e0:=mf (P:=P) (code:=if isS=true then .slice3Acap else .slice3Alen) hr h3 (show m≤c by omega);refine⟨m,?_,b2,ZJ,λ_=>rfl⟩
  match hi,hi',hhi with
  |none,none,_=>exact absurd (hmh rfl) ZM
  |some a,some v,hr=>
   have e:=mf (P:=P) (code:=.slice3B) hr h2 b2
   match lo,lo',hlo with
   |none,none,_=>cases h1;simp[Instr.sliceBounds,e0,e]
   |some a,some v,hr=>simp[Instr.sliceBounds,e0,e,mf (P:=P) hr h1 b1]
theorem eN{t e:TypeId}{A:Option Addr}{n cap l h m sz:Nat}{lo hi mx:Option Value}(hu:P.underlying t=some (.slice e))(hsz:aV P e=some sz)
  (h4:(Instr.sliceBounds true n cap lo hi mx).run P w=.ok (l,h,m) w) :
  (Instr.sliceAt t (.slice A n cap) lo hi mx).run P w=.ok (.slice (if m=l then A else A.map (·.add (l*sz))) (h-l) (m-l)) w:=by
 simp only[Instr.sliceAt,Instr.slice,YE,run_underlying hu,Yk,h4,cJ hsz,YS]
theorem Jo{H:ac}(hW:bu w σ H){t:TypeId}{x v:AV}{lo hi mx:Option AV}{x':Value}{lo' hi' mx':Option Value}(hx:bb w σ (aK σ H) x x')
  (hlo:Li w σ (aK σ H) lo lo') (hhi:Li w σ (aK σ H) hi hi') (hmx:Li w σ (aK σ H) mx mx') (hmh:hi=none→mx=none)
  (h:lz P (nw H x) t x lo hi mx=some v):∃v',(Instr.sliceAt t x' lo' hi' mx').run P w=.ok v' w∧bb w σ (aK σ H) v v':=by
 unfold lz at h;split at h
 ·rename_i e n hu hlen;split at h
  ·rename_i l hh m h1 h2 h3;split at h
   ·rename_i hb;obtain⟨⟨b1,b2,b3⟩,hsome⟩:=hb;have hes:∃sz,aV P e=some sz:=Option.isSome_iff_exists.1 hsome;split at h
    ·cases h;cases hx;cases hlen;obtain⟨m',h4,h5,h6,h7⟩:=ji (P:=P) (isS:=true) hlo hhi hmx hmh h1 h2 h3 (X7 0) b1 b2 b3;obtain rfl:m'=0:=by omega
     obtain rfl:hh=0:=by omega
     obtain rfl:l=0:=by omega
     obtain⟨sz,hsz⟩:∃sz,aV P e=some sz:=hes;exact⟨_,eN hu hsz h4,by simpa using bb.nils⟩
    ·rename_i b i k;cases hlen;obtain⟨pl,a,cap,rfl,hs,hn,hm,ha⟩:=hx.sl_inv;obtain⟨m',h4,h5,h6,h7⟩:=ji (P:=P) (isS:=true) hlo hhi hmx hmh h1 h2 h3 hn b1 b2 b3;cases hy:H.get b with
     |none=>simp[nw,hy]at h
     |some y=>
      simp only[nw,hy,Yz,Option.isSome_some,true_and]at h;split at h
      ·rename_i hsz;cases h;obtain⟨pl',cs',e',g1,g2⟩:=hW.live b y hy;rw[hs]at g1;cases g1;have hp:=hx.sl_ok hs;replace g2:=g2.1 hp;by_cases hml:m'=l
       ·refine⟨.slice (some a) (hh-l) (m'-l),by rw[eN hu hsz h4,if_pos hml],?_⟩;exact .sl b (i+l) (hh-l) pl a (m'-l) hs hp ZJ ZJ ZJ
       ·obtain⟨rfl,cs,ty,hc,hr⟩:=ha ZJ;refine⟨.slice (some ⟨pl.block,pl.base+i*pl.size+l*y.size,none⟩) (hh-l) (m'-l),by rw[eN hu hsz h4,if_neg hml,Yz,eK],?_⟩;refine .sl b (i+l) (hh-l) pl _ (m'-l) hs hp ZJ ZJ λ_=>⟨?_,cs,ty,hc,?_⟩
        ·rw[←g2.size,YQ,YZ]
        ·have:(i+l+(m'-l))*pl.size≤(i+cap)*pl.size:=Yt _ ZJ;omega
      ·cases h
    ·rename_i rows;cases hlen;obtain⟨A,cap,rfl,hn,hm,ha⟩:=hx.lst_inv;obtain⟨m',h4,h5,h6,h7⟩:=ji (P:=P) (isS:=true) hlo hhi hmx hmh h1 h2 h3 hn b1 b2 b3;split at h
     ·rename_i hml;cases h;obtain⟨sz,hsz⟩:∃sz,aV P e=some sz:=hes;have e1:=h7 hml.1;refine⟨.slice A (hh-l) (m'-l),by rw[eN hu hsz h4,if_pos ZJ],?_⟩;rw[show hh-l=0 by omega,show m'-l=0 by omega];exact .emp _
     split at h
     ·cases h;obtain⟨sz,hsz⟩:∃sz,aV P e=some sz:=hes;obtain rfl:hh=0:=by simp at b3;omega
      obtain rfl:l=0:=by omega
      exact⟨_,eN hu hsz h4,.lst0 _ _ ZJ⟩
     ·rename_i r rs;split at h
      ·rename_i hsz;cases h;obtain⟨b,o,sz,rfl,hl,hrep⟩:=ha ZM;obtain rfl:r.length=sz:=hl.even 0 r rfl;by_cases hml:m'=l
       ·have:hh-l=0:=by omega
        rw[this,List.take_zero];exact⟨.slice (some ⟨b,o,none⟩) (hh-l) (m'-l),by rw[eN hu hsz h4,if_pos hml],by rw[this];exact .lst0 _ _ ZJ⟩
       ·refine⟨.slice (some ⟨b,o+l*r.length,none⟩) (hh-l) (m'-l),by rw[eN hu hsz h4,if_neg hml,Yz,eK],?_⟩;by_cases hz:hh-l=0
        ·rw[hz,List.take_zero];exact .lst0 _ _ ZJ
        ·have hlen:(((r::rs).drop l).take (hh-l)).length=hh-l:=by simp at b3 ⊢;omega
         have get:∀(i:Nat) (q:List AV),(((r::rs).drop l).take (hh-l))[i]? =some q→i<hh-l∧(r::rs)[l+i]? =some q:=λi q hq=>by have hi:=aB hq;rw[hlen]at hi;rw[YG hi,YY]at hq;exact⟨hi,hq⟩
         have:=bb.lst (w:=w) (σ:=σ) (T:=aK σ H) (((r::rs).drop l).take (hh-l)) b (o+l*r.length) r.length (m'-l)
          ⟨hl.out,λi q hq=>hl.even _ q (get i q hq).2,λi j hi hj=>by
           rw[hlen]at hi;have:=hl.cell (l+i) j (by simp at b3 ⊢;omega) hj
           rwa [YQ,←YZ]at this,hl.pos,ZJ⟩ ZJ ZJ
          (λi q j a u hq hj hu=>hrep (l+i) q j a u (get i q hq).2 hj (by rw[YQ,←YZ];exact hu))
         rwa [hlen]at this
      ·cases h
    ·cases h
   ·cases h
  ·cases h
 ·rename_i hu;split at h
  ·split at h
   ·rename_i l hh h1 h2;split at h
    ·rename_i hb;obtain⟨b1,b2⟩:=hb;cases h;cases hx with
     |str ba=>
     have hln:ba.data.toList.length=ba.size:=Yv;have hmx2:mx'=none:=by
      match mx',hmx with
      |none,_=>rfl
     subst hmx2;obtain⟨m',h4,h5,h6,h7⟩:=ji (P:=P) (isS:=false) (n:=ba.size) (c:=ba.size) (m:=ba.size) (mx:=none) (mx':=none) hlo hhi trivial (λ_=>rfl) h1 (by rw[←hln];exact h2) rfl (X7 _) b1 ZJ (X7 _);refine⟨.string (ba.extract l hh),by simp only[Instr.sliceAt,Instr.slice,YE,run_underlying hu,Yk,h4,YS,Option.isSome_none,YB,if_false],Mw ?_⟩;rw[Lib.extract_data]
    ·cases h
   ·cases h
  ·cases h
 ·cases h
end
end
section
section
variable {P:Program} {w:World} {σ:bD} {T:Nat→Prop}
theorem Ay:∀(vs:List Value) (k off:Nat) (cs:Array Value),off+k+vs.length≤cs.size→
  ((vs.zipIdx k).foldl (λ(cs:Array Value) (p:Value×Nat)=>cs.setIfInBounds (off+p.2) p.1) cs).toList=cs.toList.take (off+k)++vs++cs.toList.drop (off+k+vs.length)
 |[],k,off,cs,_=>by simp
 | v::vs,k,off,cs,h=>by simp only[Ys]at h;rw[List.zipIdx_cons,Zq,Ay vs (k+1) off _ (by simp;omega)];have e:=list_seg_step cs.toList (off+k) v vs (by simp;omega);simpa[Array.toList_setIfInBounds,YZ]using e
theorem eH.splice{cells cs:List AV}{vs us:List Value}{off:Nat}(h:eH w σ T cells vs)(k:eH w σ T cs us)(hl:off+cs.length≤cells.length):
  eH w σ T (bK cells off cs) (vs.take off++us++vs.drop (off+us.length)):=by
 refine⟨by simp[bK,h.1,k.1],λi a v h1 h2=>?_⟩;unfold bK at h1;have e1:=h.1;have e2:=k.1;rcases X9 i off with hi|hi
 ·rw[YP,Yp (by simp;omega),YG hi]at h1 h2;exact h.2 i a v h1 h2
 ·rcases X9 i (off+cs.length)with hj|hj
  ·rw[Yp (by simp;omega),Yh (by simp;omega)]at h1 h2;simp only[Yx]at h1 h2;rw[YX ZJ]at h1 h2;exact k.2 _ a v h1 h2
  ·rw[Yh (by simp;omega)]at h1 h2;simp only[Yf,Yx,YY]at h1 h2;rw[YX ZJ]at h1 h2;rw[←e2]at h2;exact h.2 _ a v h1 h2
theorem t8{place:Nat→Option (Nat×Nat)}{ρ:Operand→AV}{ρ':Operand→Value}(hρ:∀x,bb w σ T (ρ x) (ρ' x)):∀(ps:List (Nat×Operand)) (cells r:List AV) (cells':Array Value),
  eH w σ T cells cells'.toList→xx place cells (ps.map λp=>(p.1,ρ p.2))=some r→∃r',Instr.fill place cells' (ps.map λp=>(p.1,ρ' p.2))=some r'∧eH w σ T r r'.toList
 |[],cells,r,cells',hc,h=>by cases h;exact⟨cells',rfl,hc⟩
 | (i,x)::ps,cells,r,cells',hc,h=>by
  simp only[Yb,xx]at h;split at h
  ·rename_i off size cs hp hcs;split at h
   ·rename_i hl;obtain⟨hl1,hl2,_⟩:=hl;have hx:=(hρ x).cells hcs;have e1:(ρ' x).cells.size=size:=by rw[←Yv,←hx.1,hl1]
    have e2:cells'.size=cells.length:=by rw[←Yv,←hc.1]
    have hfold:((ρ' x).cells.zipIdx.foldl (λ(cs:Array Value) (p:Value×Nat)=>cs.setIfInBounds (off+p.2) p.1) cells').toList=cells'.toList.take off++(ρ' x).cells.toList++cells'.toList.drop (off+(ρ' x).cells.toList.length):=by have:=Ay (ρ' x).cells.toList 0 off cells' (by simp;omega);rw[←Array.foldl_toList,Array.toList_zipIdx];simpa using this
    obtain⟨r',h1,h2⟩:=t8 hρ ps (bK cells off cs) r _ (by rw[hfold];exact hc.splice hx ZJ) h;refine⟨r',?_,h2⟩;have hcond:(decide ((ρ' x).cells.size≠size)||decide (off+(ρ' x).cells.size > cells'.size))=false:=by simp[e1,e2];omega
    simp only[Yb,Instr.fill,hp,hcond,YB,if_false];exact h1
   ·cases h
  ·cases h
theorem xC{α β:Type}(f:α→Sem β)(g:α→β):∀(l:List α),(∀x∈l,(f x).run P w=.ok (g x) w)→(l.mapM f).run P w=.ok (l.map g) w
 |[],_=>by simp
 | x::l,h=>by rw[List.mapM_cons];simp only[YE,h x ZM,Yk,xC f g l (λy hy=>h y (by simp[hy])),YS,Yb]
theorem GA{α β:Type}(f:α→Sem β)(g:α→β)(l:Array α)(h:∀x∈l.toList,(f x).run P w=.ok (g x) w):(l.mapM f).run P w=.ok (l.toList.map g).toArray w:=by rw[Array.mapM_eq_mapM_toList];simp only[Sem.run_map,xC f g l.toList h,Yk]
structure Fit(P:Program)(F:TypeId→Option (List TypeId)):Prop where
 flat:∀t ts,F t=some ts→OM P t ts
 names : ∀ (g : Nat) (fn : Func), P.funcs[g]? = some fn → fn.name ≠ "runtime.NumGoroutine"
 order:P.follows .mixedOrders=true
theorem Jp{t:TypeId}{ps:Array (Nat×Operand)}{v:AV}{ρ:Operand→AV}{ρ':Operand→Value}(hρ:∀x,bb w σ T (ρ x) (ρ' x))(h:D2 P t (ps.toList.map λp=>(p.1,ρ p.2))=some v):
  ∃v',(Instr.build t (ps.map λ(i,x)=>(i,ρ' x))).run P w=.ok v' w∧bb w σ T v v':=by
 have hps:(ps.map λ(i,x)=>(i,ρ' x)).toList=ps.toList.map λp=>(p.1,ρ' p.2):=by simp
 unfold D2 at h;split at h
 ·rename_i fs z hu hz;split at h
  ·rename_i hall;have hf:∀f∈fs.toList,∃n,aV P f.type=some n:=λf hfm=>by rw[Yo]at hall;exact Option.isSome_iff_exists.1 (hall f hfm)
   obtain⟨z',hz1,hz2⟩:=eM (P:=P) (w:=w) (σ:=σ) (T:=T) hz;cases hr:xx (nv P fs) z (ps.toList.map λp=>(p.1,ρ p.2))with
   |none=>rw[hr]at h;cases h
   |some r=>
    rw[hr]at h;cases h;have hcells:=hz2.cells (cs:=z) rfl;have hm:=GA (P:=P) (w:=w) (λf:Field=>(do pure (f.offset,←sizeOf f.type):Sem (Nat×Nat))) (λf=>(f.offset,(aV P f.type).getD 0)) fs (λf hfm=>by
     obtain⟨n,hn⟩:=hf f hfm;simp[cJ hn,hn])
    have hpl:(λi=>((fs.toList.map λf:Field=>(f.offset,(aV P f.type).getD 0)).toArray)[i]?)=nv P fs:=by
     funext i;unfold nv;rw[List.getElem?_toArray,Ym,Yy];cases hfi:fs[i]? with
     |none=>rfl
     |some f=>obtain⟨n,hn⟩:=hf f (by rw[Array.mem_toList_iff];exact Array.mem_of_getElem? hfi);simp[hn]
    rw[←hpl]at hr;obtain⟨r',h1,h2⟩:=t8 hρ ps.toList z r z'.cells hcells hr;refine⟨.agg r',?_,by have:=bb.agg (w:=w) (σ:=σ) (T:=T) r r'.toList h2.1 h2.2;simpa using this⟩;simp only[Instr.build,YE,hz1,Yk,run_underlying hu,hm,hps,h1,YS]
  ·cases h
 ·rename_i n e z hu hz;obtain⟨z',hz1,hz2⟩:=eM (P:=P) (w:=w) (σ:=σ) (T:=T) hz;cases hn:aV P e with
  |none=>rw[hn]at h;cases h
  |some sz=>
   rw[hn]at h;simp only[YW]at h;cases hr:xx (λi=>some (i*sz,sz)) z (ps.toList.map λp=>(p.1,ρ p.2))with
   |none=>rw[hr]at h;cases h
   |some r=>rw[hr]at h;cases h;have hcells:=hz2.cells (cs:=z) rfl;obtain⟨r',h1,h2⟩:=t8 hρ ps.toList z r z'.cells hcells hr;refine⟨.agg r',?_,by have:=bb.agg (w:=w) (σ:=σ) (T:=T) r r'.toList h2.1 h2.2;simpa using this⟩;simp only[Instr.build,YE,hz1,Yk,run_underlying hu,cJ hn,hps,h1,YS]
 ·cases h
end
end
section
def GB(P:Program)(s:Sem Value)(w:World)(σ:bD)(H:ac)(b:Nat)(v:AV)(H':ac):Prop:=
 ∃v' w' σ',s.run P w=.ok v' w'∧bb w' σ' (aK σ' H') v v'∧bu w' σ' H'∧eI w σ (aK σ H) w' σ' (aK σ' H')∧∀c pl,σ' c=some pl→σ c=some pl∨c=b
section
variable {P:Program} {w:World} {σ:bD} {T:Nat→Prop} {H:ac} {b:Nat}
structure Flat(w:World)(σ:bD)(T:Nat→Prop)(rows:List (List AV))(n:Nat)(l:List Value):Prop where
 len:l.length=rows.length*n
 even:∀(i:Nat) (r:List AV),rows[i]? =some r→r.length=n
 rep:∀(i:Nat) (r:List AV) (j:Nat) (a:AV) (u:Value),rows[i]? =some r→r[j]? =some a→l[i*n+j]? =some u→bb w σ T a u
theorem pY{i j m n:Nat}(hi:i<m)(hj:j<n):i*n+j<m*n:=by have:(i+1)*n≤m*n:=Yt _ hi;rw[YQ]at this;omega
theorem Flat.nil(n:Nat):Flat w σ T [] n []:=⟨ZM,ZM,ZM⟩
theorem Flat.append{rows rows':List (List AV)}{n:Nat}{l l':List Value}(h:Flat w σ T rows n l)(k:Flat w σ T rows' n l'):Flat w σ T (rows++rows') n (l++l'):=by
 refine⟨by simp[h.len,k.len,YQ],λi r hr=>?_,λi r j a u hr ha hu=>?_⟩
 ·rcases X9 i rows.length with hi|hi
  ·rw[Yp hi]at hr;exact h.even i r hr
  ·rw[Yh hi]at hr;exact k.even _ r hr
 ·rcases X9 i rows.length with hi|hi
  ·rw[Yp hi]at hr;have hj:j<n:=by rw[←h.even i r hr];exact aB ha
   rw[Yp (by rw[h.len];exact pY hi hj)]at hu;exact h.rep i r j a u hr ha hu
  ·rw[Yh hi]at hr;have hge:l.length≤i*n+j:=by rw[h.len];exact Yn (Yt _ hi) (YI _ _)
   rw[Yh hge]at hu;refine k.rep (i-rows.length) r j a u hr ha ?_;rw[←hu,h.len];congr 1;rw[Nat.sub_mul];have:rows.length*n≤i*n:=Yt _ hi;omega
theorem Flat.set{rows:List (List AV)}{n:Nat}{l:List Value}(h:Flat w σ T rows n l){i:Nat}{cs:List AV}{us:List Value}(hi:i<rows.length)(hc:cs.length=n)(k:eH w σ T cs us):
  Flat w σ T (rows.set i cs) n (l.take (i*n)++us++l.drop (i*n+us.length)):=by
 have hu:us.length=n:=by rw[←k.1,hc]
 have hin:i*n+n≤l.length:=by rw[h.len];have:(i+1)*n≤rows.length*n:=Yt _ hi;rw[YQ]at this;omega
 refine⟨by simp only[Yf,Yx,ZA,ZC];rw[YX ZJ,hu,h.len];rw[h.len]at hin;omega,λq r hr=>?_,λq r j a u hr ha hv=>?_⟩
 ·rw[Yu]at hr;split at hr
  ·cases hr;exact hc
  ·exact h.even q r hr
 ·have hj:j<r.length:=aB ha;rw[Yu]at hr;split at hr
  ·rename_i e;subst e;cases hr;rw[Yp (by simp;omega),Yh (by simp;omega)]at hv;simp only[Yx]at hv;rw[YX ZJ,Nat.add_sub_cancel_left]at hv;exact k.2 j a u ha hv
  ·rename_i hne;have hrn:=h.even q r hr;have hq:q<rows.length:=aB hr;refine h.rep q r j a u hr ha ?_;rw[←hv];rcases Nat.lt_or_gt_of_ne hne with hlt|hlt
   ·have:(i+1)*n≤q*n:=Yt _ hlt;rw[YQ]at this;rw[Yh (by simp;omega)];simp only[Yf,Yx,YY];rw[YX ZJ];congr 1;omega
   ·have:(q+1)*n≤i*n:=Yt _ hlt;rw[YQ]at this;rw[YP,Yp (by simp;omega),YG ZJ]
theorem Flat.zeros{z:List AV}{zs:Array Value}{n:Nat}(hz:eH w σ T z zs.toList)(hn:z.length=n)(h0:0<n)(len k:Nat)(hk:len≤k):
  ∃l:List Value,(Array.range (k*n)).map (zs[· % zs.size]!)=l.toArray∧l.length=k*n∧Flat w σ T (List.replicate len z) n (l.take (len*n))∧(∀u∈l,∃a,bb w σ T a u∧a∈z):=by
 have hzs:zs.size=n:=by rw[←Yv,←hz.1,hn]
 refine⟨(List.range (k*n)).map (zs[· % zs.size]!),?_,ZM,⟨?_,?_,?_⟩,?_⟩
 ·apply Array.ext';simp
 ·simp only[Yx,Y9,List.length_range,List.length_replicate];exact YX (Yt _ hk)
 ·intro i r hr;rw[Zm]at hr;split at hr
  ·cases hr;exact hn
  ·cases hr
 ·intro i r j a u hr ha hu;rw[Zm]at hr;split at hr
  ·rename_i hi;cases hr;have hj:j<n:=by rw[←hn];exact aB ha
   have hlt:=pY hi hj;have hlt':i*n+j<k*n:=Yw hlt (Yt _ hk);rw[YG hlt,Ym,ZG hlt']at hu;simp only[Yz,Yi]at hu;subst hu;have e:(i*n+j) % zs.size=j:=by rw[hzs,Nat.mul_comm,Nat.mul_add_mod,Nat.mod_eq_of_lt hj]
   rw[e];refine hz.2 j a _ ha ?_;rw[getElem!_pos zs j ZJ,Yy,YA ZJ]
  ·cases hr
 ·intro u hu;rw[YH]at hu;obtain⟨q,_,rfl⟩:=hu;have hq:q % zs.size<zs.size:=Nat.mod_lt _ ZJ;rw[getElem!_pos zs _ hq];have hq':q % zs.size<z.length:=by omega
  exact⟨z[q % zs.size],hz.2 (q % zs.size) _ _ (X6 hq') (by rw[Yy,YA hq]),Yr hq'⟩
theorem D5(hW:bu w σ H)(hb:σ b=none)(hlt:b<H.next){x:Blk}{cs:Array Value}{e:TypeId}{s:Sem Value}{v:AV}{v':Value}{l:List Value}(hl:l=cs.toList.take (x.rows.length*x.size))
  (hf:Flat w σ (aK σ H) x.rows x.size l) (hs:s.run P w=.ok v' (World.push w (.cells cs e (0,0))))
  (hv:bb (World.push w (.cells cs e (0,0))) (σ.set b ⟨w.heap.size,0,x.size⟩) (aK (σ.set b ⟨w.heap.size,0,x.size⟩) (H.new b x)) v v'):GB P s w σ H b v (H.new b x):=by
 have hlen:=hf.len;rw[hl]at hlen;simp only[Yx,Yv]at hlen;obtain⟨h1,h2⟩:=hW.new hb hlt (x:=x) (cs:=cs) (e:=e) hf.even ZJ (λi r j a u hr ha hu=>hf.rep i r j a u hr ha (by
  have hj:j<x.size:=by rw[←hf.even i r hr];exact aB ha
  rw[hl,YG (pY (aB hr) hj),Yy];exact hu))
 refine⟨v',_,_,hs,hv,h1,h2,λc pl hc=>?_⟩;by_cases hbc:b=c
 ·exact .inr hbc.symm
 ·rw[bD.set_ne _ _ hbc]at hc;exact .inl hc
theorem Flat.one{cs:List AV}{vs:List Value}(h:eH w σ T cs vs):Flat w σ T [cs] cs.length vs:=by
 refine⟨by simp[h.1],λi r hr=>?_,λi r j a u hr ha hu=>?_⟩
 ·match i with
  |0=>cases hr;rfl
  |i+1=>simp at hr
 ·match i with
  |0=>cases hr;exact h.2 j a u ha (by simpa using hu)
  |i+1=>simp at hr
theorem Jq(hW:bu w σ H)(hb:σ b=none)(hlt:b<H.next){t:TypeId}{x:AV}{x':Value}{cs:List AV}(hx:bb w σ (aK σ H) x x')(hc:x.cells? =some cs):
  GB P (Instr.box t x') w σ H b (.ptr b 0 0) (H.new b ⟨cs.length,[cs]⟩):=by
 have hr:=hx.cells hc;refine D5 hW hb hlt (cs:=x'.cells) (e:=t) (v':=.pointer (some ⟨w.heap.size,0,none⟩)) (l:=x'.cells.toList) ?_ (Flat.one hr) rfl ?_
 ·have:=hr.1;simp only[List.length_singleton,Nat.one_mul];rw[YL ZJ]
 ·have:=bb.ptr (w:=World.push w (.cells x'.cells t (0,0))) (T:=aK (σ.set b ⟨w.heap.size,0,cs.length⟩) (H.new b ⟨cs.length,[cs]⟩)) b 0 0 _ (bD.set_eq σ b ⟨w.heap.size,0,cs.length⟩) (.inl rfl);simpa using this
theorem Lj(hW:bu w σ H)(hb:σ b=none)(hlt:b<H.next){t:TypeId}{cs:List AV}(hc:(ez P t).bind AV.cells? =some cs):
  GB P (Instr.alloc t true (.tuple #[])) w σ H b (.ptr b 0 0) (H.new b ⟨cs.length,[cs]⟩):=by
 cases hz:ez P t with
 |none=>rw[hz]at hc;cases hc
 |some z=>rw[hz]at hc;obtain⟨z',h1,h2⟩:=eM (P:=P) (w:=w) (σ:=σ) (T:=aK σ H) hz;obtain⟨v',w',σ',h3,h4⟩:=Jq (P:=P) (t:=t) hW hb hlt h2 hc;refine⟨v',w',σ',?_,h4⟩;rw[←h3];simp only[Instr.alloc,YE,h1,Yk];rfl
theorem gW{α:Type}(l us:List α)(K p:Nat)(h:K+us.length≤l.length):
  (l.take K++us++l.drop (K+us.length))[p]? =if p<K then l[p]? else if p<K+us.length then us[p-K]? else l[p]? :=by
 rcases X9 p K with h1|h1
 ·rw[if_pos h1,YP,Yp (by simp;omega),YG h1]
 ·rw[if_neg ZJ];rcases X9 p (K+us.length)with h2|h2
  ·rw[if_pos h2,Yp (by simp;omega),Yh (by simp;omega)];simp only[Yx];rw[YX ZJ]
  ·rw[if_neg ZJ,Yh (by simp;omega)];simp only[Yf,Yx,YY];rw[YX ZJ];congr 1;omega
theorem Lk(hW:bu w σ H){t:TypeId}{a x:AV}{a' x':Value}{H':ac}(ha:bb w σ (aK σ H) a a')(hx:bb w σ (aK σ H) x x')(h:gl P H t a x=some H'):
  ∃w',(Instr.storeAt t a' x').run P w=.ok () w'∧bu w' σ H'∧eI w σ (aK σ H) w' σ (aK σ H'):=by
 unfold gl at h;split at h
 ·rename_i c i off cs n hcs hn;split at h
  ·rename_i y hy;split at h
   ·rename_i r hr;split at h
    ·rename_i hl;obtain⟨hl1,hl2,hl3⟩:=hl;cases h;cases ha with
     |ptr _ _ _ pl hs hp=>
     obtain⟨pl',ds,e,g1,g2⟩:=hW.live c y hy;rw[hs]at g1;cases g1;replace g2:=g2.1 hp;have hreps:=hx.cells hcs;have hone:=hreps.one hl2;have hi:=aB hr;have hrl:=g2.even i r hr;have hroom:=g2.room;have hm:(i+1)*y.size≤y.rows.length*y.size:=Yt _ hi;rw[YQ]at hm;have hst:=run_storeCells_at (P:=P) pl.block (pl.base+i*pl.size+off) e x'.cells.toList 0 ds w g2.block (by rw[←hreps.1,g2.size];omega) hone;simp only[Zy]at hst;have hw:md w (w.setRow pl.block (ds.toList.take (pl.base+i*pl.size+off)++x'.cells.toList++ds.toList.drop (pl.base+i*pl.size+off+x'.cells.toList.length)).toArray) pl.block ds _ e:=
      ⟨rfl,rfl,rfl,ZM,g2.block,setRow_heap w _ _ _ _ _ g2.block,by
       have:=hreps.1;have hsz:=g2.size;simp only[List.size_toArray,Yf,Yx,ZA,Yv];rw[hsz,YX ZJ];rw[←Yv (xs:=x'.cells)];omega,λd hd=>setRow_other w _ d _ hd⟩
     have hput:=hW.put hy hs hw (x':={y with rows:=y.rows.set i (bK r off cs)}) g2.size.symm ?_ ?_ ?_
     ·refine⟨_,?_,hput⟩;have:x'.cells.size=n:=by rw[←Yv,←hreps.1,hl1]
      simp only[Instr.storeAt,Instr.sureAddr,storeVar,YE,YS,Yk,cJ hn,Sem.run_ite,this,ne_eq,not_true_eq_false,if_false,hst]
     ·intro q s hq;rw[Yu]at hq;split at hq
      ·cases hq;simp[bK];omega
      ·exact g2.even q s hq
     ·simpa using hroom
     ·intro q s j a u hq hj hu;have hsz:=g2.size;have hul:x'.cells.toList.length=cs.length:=hreps.1.symm;have hdl:ds.toList.length=ds.size:=Yv;rw[List.getElem?_toArray,gW ds.toList x'.cells.toList (pl.base+i*pl.size+off) _ (by rw[hul,hsz];omega),hul,hsz]at hu;simp only[]at hu;rw[Yu]at hq;split at hq
      ·rename_i hqi;subst hqi;cases hq;have hjr:=aB hj;have hjl:j<r.length:=by simp[bK]at hjr;omega
       unfold bK at hj;rw[gW _ _ _ _ ZJ]at hj;by_cases h1:j<off
       ·rw[if_pos h1]at hj;rw[if_pos ZJ,Yy]at hu;exact g2.rep i r j a u hr hj hu
       ·rw[if_neg h1]at hj;by_cases h2:j<off+cs.length
        ·rw[if_pos h2]at hj;rw[if_neg ZJ,if_pos ZJ]at hu;refine hreps.2 (j-off) a u hj ?_;rw[←hu];congr 1;omega
        ·rw[if_neg h2]at hj;rw[if_neg ZJ,if_neg ZJ,Yy]at hu;exact g2.rep i r j a u hr hj hu
      ·rename_i hqi;have hjs:j<y.size:=by rw[←g2.even q s hq];exact aB hj
       refine g2.rep q s j a u hq hj ?_;rcases Nat.lt_or_gt_of_ne hqi with hlt|hlt
       ·have:(i+1)*y.size≤q*y.size:=Yt _ hlt;rw[YQ]at this;rw[if_neg ZJ,if_neg ZJ,Yy]at hu;exact hu
       ·have:(q+1)*y.size≤i*y.size:=Yt _ hlt;rw[YQ]at this;rw[if_pos ZJ,Yy]at hu;exact hu
    ·cases h
   ·cases h
  ·cases h
 ·cases h
end
end
end Go.Proofs.YtdnpdghlggbklaaGreatDoor.Am
