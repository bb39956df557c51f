/- part -/
import Derived.Calls
import Derived.Orders
import Derived.Below
import Derived.Handy
import Derived.RowKit
import Derived.Laws.Cells
import Derived.Laws.CopyRow
import Derived.Laws.Entries
import Derived.Laws.StructEq
import Derived.Lib.Strings
import Derived.Shelf.Small.Wraps
import Derived.Shelf.Sort.Plain
import Derived.Shelf.Slices.Turned
import Derived.Ground.Names2Prog
import Derived.Shelf.Slices.Clone
import Derived.Shelf.Slices.CompactI
import Derived.Shelf.Slices.In.SortNone
import Derived.Ground.SlgnProg
import Derived.Shelf.SlicesE.Clone
import Derived.Test.YtfcfhjadaknphaaGreatDoorProg
set_option linter.all false
set_option maxRecDepth 100000
set_option maxHeartbeats 0
namespace Go.Proofs.YtfcfhjadaknphaaGreatDoor
open Go Go.RowKit
abbrev mt:=@List.getElem?_eq_getElem
abbrev Fd:=@Nat.le_refl
abbrev Fn:=@Nat.lt_or_ge
abbrev LE:=@List.take_succ_eq_append_getElem
abbrev LT:=@List.length_append
abbrev ST:=@List.getElem?_eq_none
abbrev WL:=@List.map_append
abbrev WM:=@List.mem_append
abbrev WN:=@List.getElem_mem
abbrev WO:=@List.length_cons
abbrev WP:=@List.mem_singleton
abbrev WQ:=@List.getElem?_append_right
abbrev WS:=@List.map_cons
abbrev WT:=@List.length_nil
abbrev WU:=@List.append_assoc
abbrev WW:=@List.getElem?_append_left
abbrev WX:=@List.mem_cons
abbrev WY:=@IntWalk.i64_in
abbrev WZ:=@Bool.and_eq_true
abbrev W1:=@List.perm_append_comm
abbrev W2:=@List.all_eq_true
abbrev W3:=@Option.some.injEq
abbrev W4:=@Result.andThen_ok
abbrev W5:=@Nat.le_trans
abbrev W6:=@List.getElem?_map
abbrev W7:=@Bool.false_eq_true
abbrev W8:=@List.mem_append_right
abbrev W9:=@List.take_of_length_le
abbrev Xa:=@Nat.mul_le_mul_right
abbrev Xb:=@List.length_take
abbrev Xc:=@List.getElem?_set
abbrev Xd:=@List.length_map
abbrev Xe:=@Array.length_toList
abbrev Xf:=@Nat.lt_of_lt_of_le
abbrev Xg:=@Int.eq_ofNat_of_zero_le
abbrev Xh:=@Array.getElem?_toList
abbrev Xi:=@List.mem_map
abbrev Xj:=@Array.getElem?_eq_getElem
abbrev Xk:=@List.forall_mem_cons
abbrev Xl:=@Option.map_some
abbrev Xm:=@List.getElem?_eq_some_iff
abbrev Xn:=@Nat.zero_add
abbrev Xo:=@Sem.run_bind
abbrev Xp:=@List.map_nil
abbrev Xq:=@Nat.zero_le
abbrev Xr:=@List.append_nil
abbrev Xs:=@List.mem_map_of_mem
abbrev Xt:=@List.getElem?_take_of_lt
abbrev Xu:=@Nat.le_add_right
abbrev Xv:=@List.not_mem_nil
abbrev Xw:=@List.nodup_cons
abbrev Xx:=@Int.toNat_natCast
abbrev Xy:=@List.eq_nil_of_length_eq_zero
abbrev Xz:=@Sem.run_pure
abbrev XA:=@List.length_eq_zero_iff
abbrev XB:=@Option.bind_some
abbrev XC:=@List.mem_of_getElem?
abbrev XD:=@Nat.add_mul
abbrev XE:=@List.getElem?_drop
abbrev XF:=@Nat.min_eq_left
abbrev XG:=@Nat.add_assoc
abbrev XH:=@Nat.eq_zero_or_pos
abbrev XI:=@List.map_set
abbrev XJ:=@List.getElem_of_mem
abbrev XK:=@List.mem_append_left
abbrev XL:=@List.foldl_cons
abbrev XM:=@List.nil_append
abbrev XN:=@List.mem_cons_of_mem
abbrev XO:=@List.sum_cons
abbrev XP:=@List.getD_eq_getElem?_getD
abbrev XQ:=@Nat.add_zero
abbrev XR:=@List.mem_range
abbrev XS:=@List.cons_append
abbrev XT:=@List.take_length
abbrev XU:=@Option.getD_some
abbrev XV:=@List.perm_middle
abbrev XW:=@List.ext_getElem?
abbrev XX:=@Nat.not_lt_zero
abbrev XY:=@List.getElem_cons_succ
abbrev XZ:=@List.any_eq_true
abbrev X0:=@List.drop_eq_getElem_cons
abbrev X1:=@List.nodup_append
abbrev X2:=@List.length_filter_le
abbrev X3:=@Nat.eq_or_lt_of_le
abbrev X4:=@World.ownsRow_made
abbrev X5:=@List.getElem?_cons_succ
abbrev X6:=@List.getElem?_replicate
abbrev X7:=@Array.getElem?_eq_some_iff
abbrev X8:=@Bool.true_and
abbrev X9:=@Nat.sub_self
abbrev Ya:=@List.sum_nil
abbrev Yb:=@Bool.false_and
abbrev Yc:=@World.ownsRow_nil
abbrev Yd:=@List.length_set
abbrev Ye:=@List.mem_filter
abbrev Yf:=@Option.some.inj
abbrev Yg:=@List.mem_or_eq_of_mem_set
abbrev Yh:=@List.length_drop
abbrev Yi:=@Nat.le_succ
abbrev Yj:=@Bool.not_eq_true'
abbrev Yk:=@Nat.le_succ_of_le
abbrev Yl:=@List.forall_mem_nil
abbrev Ym:=@Option.map_eq_some_iff
abbrev Yn:=@List.drop_of_length_le
abbrev Yo:=@Array.all_eq_true_iff_forall_mem
abbrev Yp:=@List.length_singleton
abbrev Yq:=@Int.natCast_nonneg
abbrev Yr:=@List.mem_cons_self
abbrev Ys:=@List.set_append_right
abbrev Yt:=@Bool.and_false
abbrev Yu:=@Bool.or_eq_false_iff
abbrev Yv:=@Nat.succ_pos
abbrev Yw:=@List.foldl_append
abbrev Yx:=@Bool.not_true
abbrev Yy:=@Bool.and_true
abbrev Yz:=@List.getElem?_range
abbrev YA:=@List.take_succ_cons
abbrev YB:=@Bool.not_eq_true
theorem YC{P:Prop}(h:P:=by omega):P:=h
theorem YD{P:Prop}(h:P:=by assumption):P:=h
theorem YE{P:Prop}(h:P:=by rfl):P:=h
theorem YF{P:Prop}(h:P:=by simp):P:=h
theorem YG{P:Prop}(h:P:=by decide):P:=h
theorem YH{P:Prop}(h:P:=by simp;omega):P:=h
theorem YI{P:Prop}(h:P:=by repeat' constructor):P:=h
end Go.Proofs.YtfcfhjadaknphaaGreatDoor
namespace Go.Proofs.YtfcfhjadaknphaaGreatDoor.Am
section
inductive Tr (α:Type) where
 |leaf
 |node (v:Option α) (l r:Tr α)
namespace Tr
variable {α:Type}
def bitsF:Nat->Nat->List Bool
 |0,_=>[]
 |_+1,0=>[]
 |f+1,n+1=>((n+1) % 2==1)::bitsF f ((n+1) / 2)
def bits(n:Nat):List Bool:=bitsF n n
def getP:Tr α->List Bool->Option α
 |leaf,_=>none
 |node v _ _,[]=>v
 |node _ l r,b::p=>if b then l.getP p else r.getP p
def setP:List Bool->Option α->Tr α->Tr α
 |[],x,leaf=>node x leaf leaf
 |[],x,node _ l r=>node x l r
 |b::p,x,leaf=>if b then node none (setP p x leaf) leaf else node none leaf (setP p x leaf)
 |b::p,x,node v l r=>if b then node v (setP p x l) r else node v l (setP p x r)
theorem getP_leaf(p:List Bool):(leaf:Tr α).getP p=none:=by cases p<;>rfl
theorem getP_setP(p q:List Bool)(x:Option α)(t:Tr α):(setP p x t).getP q=if p=q then x else t.getP q:=by
 induction p generalizing q t with
 |nil=>cases t<;>cases q<;>simp[setP,getP]
 |cons b p j=>
  cases t<;>cases q<;>cases b<;>simp[setP,getP]
  all_goals (rename_i c q;cases c<;>simp[j,getP_leaf])
def val:List Bool->Nat
 |[]=>0
 |b::p=>(if b then 1 else 0)+2*val p
theorem val_bitsF(f n:Nat)(h:n<=f):val (bitsF f n)=n:=by
 induction f generalizing n with
 |zero=>simp[bitsF,val];omega
 |succ f j=>
  cases n with
  |zero=>rfl
  |succ n=>simp only[bitsF,val];rw[j ((n+1) / 2) YC];by_cases u:(n+1) % 2=1<;>simp[u]<;>omega
theorem bits_inj{a b:Nat}(h:bits a=bits b):a=b:=by
 have:=congrArg val h
 rwa [bits,bits,val_bitsF _ _ (Fd _),val_bitsF _ _ (Fd _)]at this
def get(t:Tr α)(n:Nat):Option α:=t.getP (bits n)
def set(t:Tr α)(n:Nat)(x:Option α):Tr α:=setP (bits n) x t
theorem get_set(t:Tr α)(n m:Nat)(x:Option α):(t.set n x).get m=if n=m then x else t.get m:=by
 unfold get set;rw[getP_setP];by_cases h:n=m
 .subst h;simp
 .rw[if_neg h,if_neg (λe=>h (bits_inj e))]
theorem get_leaf(m:Nat):(leaf:Tr α).get m=none:=getP_leaf _
end Tr
end
section
inductive AV where
 |int (k:IntKind) (n:Int)
 |bool (b:Bool)
 |str (s:List UInt8)
 |nilp
 |ptr (b i off:Nat)
 |pptr (rows:List (List AV)) (i off:Nat)
 |nils
 |emp
 |sl (b i n:Nat)
 |lst (rows:List (List AV))
 |mp (b:Nat)
 |it (b:Nat)
 |agg (cells:List AV)
 |tup (vs:List AV)
 |fn (f:FuncId) (captured:List AV)
 |nilf
 |junk
 deriving Inhabited
def AV.cells? :AV->Option (List AV)
 |.agg cs=>some cs
 |.junk=>none
 |v=>some [v]
def AV.one:AV->Bool
 |.agg _|.tup _|.junk=>false
 |_=>true
def ee{α:Type}:List (Option α)->Option (List α)
 |[]=>some []
 |none::_=>none
 | some x::l=>match ee l with
  |some l=>some (x::l)
  |none=>none
def T8:Value->Option AV
 |.int k n=>some (.int k n)
 |.bool b=>some (.bool b)
 |.string s=>some (.str s.data.toList)
 |.pointer none=>some .nilp
 |.slice none 0 0=>some .nils
 |.nilFunc=>some .nilf
 |_=>none
def KP:Value->Option AV
 |.agg cs=>(ee (cs.toList.map T8)).map .agg
 |v=>T8 v
structure Blk where
 size:Nat
 rows:List (List AV)
 deriving Inhabited
structure af where
 next:Nat
 tr:Tr Blk
 log:List Nat
def af.get(H:af)(b:Nat):Option Blk:=H.tr.get b
def af.new(H:af)(b:Nat)(x:Blk):af:={H with tr:=H.tr.set b (some x)}
def af.put(H:af)(b:Nat)(x:Option Blk):af:={H with tr:=H.tr.set b x,log:=b::H.log}
inductive hO where
 |val (v:AV) (H:af)
 |call (f:FuncId) (args:List AV)
section
variable (P:Program)
def bj(t:TypeId):Option Nat:=(P.info? t).map (·.size)
def iN(t:TypeId):Option Nat:=(P.info? t).map (·.bytes)
def fa(t:TypeId):Option AV:=(P.info? t).bind λi=>i.zero.bind KP
def ff(t:TypeId):Option Bool:=(P.underlying t).map fun|.struct _|.array _ _=>true|_=>false
def i6(t:TypeId)(row:List AV)(off:Nat):Option AV:=
 match ff P t,bj P t with
 |some true,some n=>if off+n<=row.length then some (.agg ((row.drop off).take n))else none
 |some false,some _=>row[off]?
 |_,_=>none
def bL(row:List AV)(off:Nat)(cs:List AV):List AV:=row.take off++cs++row.drop (off+cs.length)
def oz(H:af)(t:TypeId):AV->Option AV
 |.ptr b i off=>(H.get b).bind λx=>(x.rows[i]?).bind λr=>i6 P t r off
 |.pptr rows i off=>(rows[i]?).bind λr=>i6 P t r off
 |_=>none
def io(H:af)(t:TypeId)(a v:AV):Option af:=
 match a,v.cells?,bj P t with
 |.ptr b i off,some cs,some n=>
  match H.get b with
  | some x=>match x.rows[i]? with
   |some r=>if cs.length=n/\cs.all AV.one/\off+n<=r.length then some (H.put b (some {x with rows:=x.rows.set i (bL r off cs)}))else none
   |none=>none
  |none=>none
 |_,_,_=>none
def t8(place:Nat->Option (Nat×Nat))(cells:List AV):List (Nat×AV)->Option (List AV)
 |[]=>some cells
 |(i,v)::rest=>
  match place i,v.cells? with
  |some (off,size),some cs=>if cs.length=size/\off+size<=cells.length/\cs.all AV.one then t8 place (bL cells off cs) rest else none
  |_,_=>none
def fw(size:Nat)(rows:List (List AV)):List (Nat×AV)->Option (List (List AV))
 |[]=>some rows
 |(i,v)::rest=>
  match v.cells? with
  |some cs=>if cs.length=size/\i<rows.length/\cs.all AV.one then fw size (rows.set i cs) rest else none
  |none=>none
def kX(fs:Array Field)(i:Nat):Option (Nat×Nat):=(fs[i]?).bind λf=>(bj P f.type).map λn=>(f.offset,n)
def zM(t:TypeId)(parts:List (Nat×AV)):Option AV:=
 match P.underlying t,fa P t with
 |some (.struct fs),some (.agg z)=>if(fs.toList.all λf=>(bj P f.type).isSome)=true then(t8 (kX P fs) z parts).map .agg else none
 |some (.array _ e),some (.agg z)=>(bj P e).bind λn=>(t8 (λi=>some (i*n,n)) z parts).map .agg
 |_,_=>none
def Ip:AV->Option Nat
 |.nils=>some 0
 |.emp=>some 0
 |.lst rows=>some rows.length
 |.sl _ _ n=>some n
 |_=>none
def ud:List UInt8->List UInt8->Bool
 |_,[]=>false
 |[],_::_=>true
 |a::x,b::y=>a<b||(a==b&&ud x y)
def sZ(t:TypeId)(x y:AV):Option Bool:=
 match P.underlying t,x,y with
 |some (.int _),.int k a,.int k' b=>if k=k' then some (a==b)else none
 |some .bool,.bool a,.bool b=>some (a==b)
 |some .string,.str a,.str b=>some (a==b)
 |some (.pointer _),.nilp,.nilp=>some true
 |some (.pointer _),.nilp,.ptr ..|some (.pointer _),.ptr ..,.nilp|some (.pointer _),.nilp,.pptr ..|some (.pointer _),.pptr ..,.nilp=>some false
 |some (.slice _),.nils,.nils=>some true
 |some (.slice _),.nils,.sl ..|some (.slice _),.sl ..,.nils|some (.slice _),.nils,.lst (_::_)|some (.slice _),.lst (_::_),.nils=>some false
 |_,_,_=>none
def s5:List TypeId->List AV->List AV->Option Bool
 |[],[],[]=>some true
 | t::ts,a::l,b::m=>match sZ P t a b with
  |some true=>s5 ts l m
  |r=>r
 |_,_,_=>none
def iO(F:TypeId->Option (List TypeId))(op:BinOp)(t:TypeId)(x y:AV):Option AV:=
 match op,x,y with
 |.shl,.int k a,.int _ b=>if 0<=b then some (.int k (k.wrap (a*2^min b.toNat k.bits)))else none
 |.shr,.int k a,.int _ b=>if 0<=b then some (.int k (a.fdiv (2^min b.toNat k.bits)))else none
 |op,.int k a,.int k' b=>
  if k≠k' then none else
  match op with
  |.add=>some (.int k (k.wrap (a+b)))
  |.sub=>some (.int k (k.wrap (a-b)))
  |.mul=>some (.int k (k.wrap (a*b)))
  |.quo=>if b=0 then none else some (.int k (k.wrap (a.tdiv b)))
  |.rem=>if b=0 then none else some (.int k (a.tmod b))
  |.and=>some (.int k (k.wrap (BitVec.ofInt k.bits a &&& BitVec.ofInt k.bits b).toNat))
  |.or=>some (.int k (k.wrap (BitVec.ofInt k.bits a ||| BitVec.ofInt k.bits b).toNat))
  |.xor=>some (.int k (k.wrap (BitVec.ofInt k.bits a ^^^ BitVec.ofInt k.bits b).toNat))
  |.eql=>some (.bool (a==b))
  |.neq=>some (.bool (a != b))
  |.lss=>some (.bool (decide (a<b)))
  |.leq=>some (.bool (decide (a<=b)))
  |.gtr=>some (.bool (decide (a > b)))
  |.geq=>some (.bool (decide (a>=b)))
  |_=>none
 |op,.str a,.str b=>
  match op with
  |.eql=>some (.bool (a==b))
  |.neq=>some (.bool !(a==b))
  |.lss=>some (.bool (ud a b))
  |.add=>if a.length+b.length<=2^62 then some (.str (a++b))else none
  |_=>none
 |.eql,.agg a,.agg b=>(F t).bind λts=>(s5 P ts a b).map .bool
 |.neq,.agg a,.agg b=>(F t).bind λts=>(s5 P ts a b).map λr=>.bool !r
 |.eql,.bool a,.bool b=>(sZ P t (.bool a) (.bool b)).map .bool
 |.neq,.bool a,.bool b=>(sZ P t (.bool a) (.bool b)).map λr=>.bool !r
 |.eql,.nilp,y=>(sZ P t .nilp y).map .bool
 |.neq,.nilp,y=>(sZ P t .nilp y).map λr=>.bool !r
 |.eql,x,.nilp=>(sZ P t x .nilp).map .bool
 |.neq,x,.nilp=>(sZ P t x .nilp).map λr=>.bool !r
 |.eql,.nils,y=>(sZ P t .nils y).map .bool
 |.neq,.nils,y=>(sZ P t .nils y).map λr=>.bool !r
 |.eql,x,.nils=>(sZ P t x .nils).map .bool
 |.neq,x,.nils=>(sZ P t x .nils).map λr=>.bool !r
 |_,_,_=>none
def VV(op:UnOp)(x:AV):Option AV:=
 match op,x with
 |.neg,.int k n=>some (.int k (k.wrap (0-n)))
 |.not,.bool b=>some (.bool !b)
 |_,_=>none
def FU(src dst:TypeId)(x:AV):Option AV:=
 match P.underlying src,P.underlying dst,x with
 |some (.int _),some (.int k),.int _ n=>some (.int k (k.wrap n))
 |some .string,some .string,.str s=>some (.str s)
 |_,_,_=>none
def gV(H:af)(n:Nat):AV->Option (List (List AV))
 |.nils=>some []
 |.emp=>some []
 | .lst rows=>match rows with
  |[]=>some []
  |r::l=>if r.length=n then some (r::l)else none
 | .sl b i k=>match H.get b with
  |some x=>if x.size=n/\i+k<=x.rows.length then some ((x.rows.drop i).take k)else none
  |none=>none
 |_=>none
def nB(H:af):AV->Option Nat
 |.sl b _ _=>(H.get b).map (·.size)
 |_=>none
def fg(sz:Option Nat)(t:TypeId)(x ix:AV):Option AV:=
 match ix with
 |.int _ i=>
  if i<0 then none else
  match P.underlying t,x with
  |some (.slice e),.sl b j n=>if i.toNat<n/\sz.isSome/\bj P e=sz then some (.ptr b (j+i.toNat) 0)else none
  | some (.slice e),.lst rows=>match rows[i.toNat]? with
   |some r=>if bj P e=some r.length then some (.pptr rows i.toNat 0)else none
   |none=>none
  |some (.array len e),.ptr b j off=>if i.toNat<len then(bj P e).map λn=>.ptr b j (off+i.toNat*n)else none
  |some (.array len e),.pptr rows j off=>if i.toNat<len then(bj P e).map λn=>.pptr rows j (off+i.toNat*n)else none
  |_,_=>none
 |_=>none
def zN(t:TypeId)(x ix:AV):Option AV:=
 match P.underlying t,x,ix with
 |some .string,.str s,.int _ i=>if i<0 then none else(s[i.toNat]?).map λb=>.int .u8 b.toNat
 |some (.array len e),.agg cs,.int _ i=>if 0<=i/\i.toNat<len then(bj P e).bind λn=>i6 P e cs (i.toNat*n)else none
 |_,_,_=>none
def j6(s:TypeId)(x:AV)(f:Nat):Option AV:=
 match P.underlying s with
 | some (.struct fs)=>(fs[f]?).bind λf=>(bj P f.type).bind λn=>if n=0 then none else
   match x with
   |.ptr b i off=>some (.ptr b i (off+f.offset))
   |.pptr rows i off=>some (.pptr rows i (off+f.offset))
   |_=>none
 |_=>none
def Ef(s:TypeId)(x:AV)(f:Nat):Option AV:=
 match P.underlying s,x with
 |some (.struct fs),.agg cs=>(fs[f]?).bind λf=>i6 P f.type cs f.offset
 |_,_=>none
def mf:AV->Option Nat
 |.int _ i=>if 0<=i then some i.toNat else none
 |_=>none
def cZ(x:Option AV)(d:Nat):Option Nat:=
 match x with
 |none=>some d
 |some v=>mf v
def lT(sz:Option Nat)(t:TypeId)(x:AV)(lo hi mx:Option AV):Option AV:=
 match P.underlying t,Ip x with
 |some (.slice e),some n=>
  match cZ lo 0,cZ hi n,cZ mx n with
  | some l,some h,some m=>if(l<=h/\h<=m/\m<=n)/\(bj P e).isSome=true then
    (match x with
     |.nils=>some .nils
     |.sl b i _=>if sz.isSome/\bj P e=sz then some (.sl b (i+l) (h-l))else none
     | .lst rows=>if mx.isSome=true/\m=l then some .emp else match rows with
      |[]=>some (.lst [])
      |r::rs=>if bj P e=some r.length then some (.lst (((r::rs).drop l).take (h-l)))else none
     |_=>none)else none
  |_,_,_=>none
 |some .string,_=>
  match x,mx with
  | .str s,none=>match cZ lo 0,cZ hi s.length with
   |some l,some h=>if l<=h/\h<=s.length then some (.str ((s.drop l).take (h-l)))else none
   |_,_=>none
  |_,_=>none
 |_,_=>none
def dO(H:af)(b:Nat)(t:TypeId)(s x:AV):Option (AV×af):=
 match P.underlying t with
 |some (.slice e)=>
  match bj P e,iN P e,(fa P e).bind AV.cells? with
  | some n,some by_,some z=>match gV H n s,gV H n x with
   | some l,some m=>if 2*(l.length+m.length)*by_<=2^48/\2*(l.length+m.length)<=2^62/\0<n/\z.length=n/\(m.all λr=>r.all AV.one)=true then
    match s with
    |.nils=>if m.length=0 then some (.nils,H)else some (.sl b 0 m.length,H.new b ⟨n,m⟩)
    |.emp=>if m.length=0 then some (.emp,H)else some (.sl b 0 m.length,H.new b ⟨n,m⟩)
    |.sl b' _ _=>some (.sl b 0 (l.length+m.length),(H.put b' none).new b ⟨n,l++m⟩)
    |_=>none
    else none
   |_,_=>none
  |_,_,_=>none
 |_=>none
def gD(H:af)(t:TypeId)(x:AV):Option af:=
 match P.underlying t with
 |some (.slice e)=>
  match bj P e,(fa P e).bind AV.cells? with
  | some n,some z=>match x with
   |.nils=>some H
   | .sl c i k=>match H.get c with
    |some y=>if(y.size=n/\z.length=n)/\(0<n/\i+k<=y.rows.length)/\z.all AV.one=true then some (H.put c (some {y with rows:=y.rows.take i++List.replicate k z++y.rows.drop (i+k)}))else none
    |none=>none
   |_=>none
  |_,_=>none
 |_=>none
def bJ(H:af)(b:Nat)(op:Builtin)(types:Array TypeId)(args:List AV):Option (AV×af):=
 match op,args with
 | .len,[.str s]=>match (types[0]?).bind P.underlying with
  |some .string=>some (.int .i64 s.length,H)
  |_=>none
 | .len,[x]=>match (types[0]?).bind P.underlying with
  |some (.slice _)=>(Ip x).map λ(n:Nat)=>(.int .i64 (n:Int),H)
  |some (.array n _)=>some (.int .i64 n,H)
  |_=>none
 | .append,[s,x]=>match types.toList with
  | [t,tx]=>match P.underlying tx with
   |some (.slice _)=>dO P H b t s x
   |_=>none
  |_=>none
 |.min,[.int k a,.int k' c]=>if k=k' then some (.int k (if c<a then c else a),H)else none
 |.max,[.int k a,.int k' c]=>if k=k' then some (.int k (if c > a then c else a),H)else none
 | .clear,[x]=>match types.toList with
  |[t]=>(gD P H t x).map λH'=>(.tup [],H')
  |_=>none
 |_,_=>none
def ue:List AV->Bool
 |[.str _,_]=>true
 |_=>false
def iK(k:List UInt8):List (List AV)->Nat->Option (Nat×AV)
 |[],_=>none
 | r::l,i=>match r with
  |[.str k',v]=>if k==k' then some (i,v)else iK k l (i+1)
  |_=>iK k l (i+1)
def AV.konst:AV->Bool
 |.int ..|.bool _|.str _=>true
 |_=>false
def kY(H:af)(t:TypeId)(m k:AV)(ok:Bool):Option AV:=
 match P.underlying t,m,k with
 | some (.map kt et),.mp b,.str s=>match P.underlying kt,fa P et,H.get b with
  | some .string,some z,some x=>if x.rows.all ue=true then some (match iK s x.rows 0 with
   |some (_,v)=>if ok then .tup [v,.bool true]else v
   |none=>if ok then .tup [z,.bool false]else z)else none
  |_,_,_=>none
 |_,_,_=>none
def gk(H:af)(t:TypeId)(m k v:AV):Option af:=
 match P.underlying t,m,k with
 | some (.map kt _),.mp b,.str s=>match P.underlying kt,H.get b with
  | some .string,some x=>if x.rows.all ue=true/\v.konst=true then some (H.put b (some {x with rows:=match iK s x.rows 0 with
   |some (i,_)=>x.rows.set i [.str s,v]
   |none=>x.rows++[[.str s,v]]}))else none
  |_,_=>none
 |_,_,_=>none
def jI(H:af)(it:AV):Option (AV×af):=
 match it with
 | .it b=>match H.get b with
  | some x=>match x.rows with
   | [[.str s,.int _ pos]]=>if pos<s.length then
     some (.tup [.bool true,.int .i64 pos,.int .i32 (Utf8.decode ⟨s.toArray⟩ pos.toNat).1],H.put b (some {x with rows:=[[.str s,.int .i64 ((pos.toNat+(Utf8.decode ⟨s.toArray⟩ pos.toNat).2:Nat):Int)]]}))
    else some (.tup [.bool false],H)
   |_=>none
  |none=>none
 |_=>none
def bA(F:TypeId->Option (List TypeId))(o:Op)(ρ:Operand->AV)(b:Nat)(H:af):Option hO:=
 let v (r:Option AV):Option hO:=r.map λx=>.val x H
 match o with
 |.move x|.assign x=>some (.val (ρ x) H)
 | .pick c x y=>match ρ c with
  |.bool t=>some (.val (if t then ρ x else ρ y) H)
  |_=>none
 | .alloc t=>match (fa P t).bind AV.cells? with
  |some cs=>some (.val (.ptr b 0 0) (H.new b ⟨cs.length,[cs]⟩))
  |none=>none
 | .box _ x=>match (ρ x).cells? with
  |some cs=>if cs.all AV.one then some (.val (.ptr b 0 0) (H.new b ⟨cs.length,[cs]⟩))else none
  |none=>none
 |.build t parts=>v (zM P t (parts.toList.map λp=>(p.1,ρ p.2)))
 | .buildSlice t len parts=>match P.underlying t with
  | some (.slice e)=>match bj P e,(fa P e).bind AV.cells? with
   | some n,some z=>if z.length=n/\0<n/\len*n<=2^24 then
     (fw n (List.replicate len z) (parts.toList.map λp=>(p.1,ρ p.2))).map λrows=>.val (.sl b 0 len) (H.new b ⟨n,rows⟩)
    else none
   |_,_=>none
  |_=>none
 |.load t a=>v (oz P H t (ρ a))
 |.store t a x=>(io P H t (ρ a) (ρ x)).map λH=>.val (.tup []) H
 | .nilCheck x=>match ρ x with
  |.ptr b i off=>some (.val (.ptr b i off) H)
  |.pptr rows i off=>some (.val (.pptr rows i off) H)
  |.fn f cs=>some (.val (.fn f cs) H)
  |_=>none
 |.binOp op t x y _=>v (iO P F op t (ρ x) (ρ y))
 |.unOp op _ x=>v (VV op (ρ x))
 |.convert s d x=>v (FU P s d (ρ x))
 |.makeFunc (.func f) first cap=>if first.size=0 then some (.val (.fn f (cap.toList.map ρ)) H)else none
 | .makeSlice t l c=>match P.underlying t with
  | some (.slice e)=>match bj P e,iN P e,(fa P e).bind AV.cells?,mf (ρ l),mf (ρ c)with
   | some n,some by_,some z,some l,some c=>if z.length=n/\0<n/\l<=c/\c<=2^62/\c*by_<=2^48 then
     some (.val (.sl b 0 l) (H.new b ⟨n,List.replicate l z⟩))else none
   |_,_,_,_,_=>none
  |_=>none
 |.slice t x lo hi mx=>if hi.isNone&&mx.isSome then none else v (lT P (nB H (ρ x)) t (ρ x) (lo.map ρ) (hi.map ρ) (mx.map ρ))
 |.fieldAddr s x f=>v (j6 P s (ρ x) f)
 |.field s x f=>v (Ef P s (ρ x) f)
 |.indexAddr t x ix=>v (fg P (nB H (ρ x)) t (ρ x) (ρ ix))
 |.index t x ix=>v (zN P t (ρ x) (ρ ix))
 | .extract x i=>match ρ x with
  |.tup vs=>v (vs[i]?)
  |_=>none
 |.makeMap _ none=>some (.val (.mp b) (H.new b ⟨0,[]⟩))
 |.lookup t m k ok=>v (kY P H t (ρ m) (ρ k) ok)
 |.mapUpdate t m k x=>(gk P H t (ρ m) (ρ k) (ρ x)).map λH=>.val (.tup []) H
 | .range t x=>match P.underlying t,ρ x with
  |some .string,.str s=>some (.val (.it b) (H.new b ⟨0,[[.str s,.int .i64 0]]⟩))
  |_,_=>none
 |.next it true=>(jI H (ρ it)).map λr=>.val r.1 r.2
 | .call c=>match c.callee with
  |.builtin bi=>(bJ P H b bi c.argTypes (c.args.toList.map ρ)).map λr=>.val r.1 r.2
  | .value f=>match ρ f with
   |.fn g cs=>some (.call g (c.args.toList.map ρ++cs))
   |_=>none
  |_=>none
 |_=>none
end
end
def iP:List Int:=[0,0,0,0,0,0,3,3,4,4,5,6,7,8,9,10,11,12,13,14,15,16,18,19,20,21,22,23,2]
def RJ:List (List UInt8):=[[118,97,114],[118,111,108,97,116,105,108,101],[109,117,116,101,120],[114,119,108,111,99,107],[99,111,110,100],[102,117,116,117,114,101],[116,104,114,101,97,100],[105,102],[101,108,115,101],[119,104,105,108,101],[108,111,99,107],[114,101,97,100],[119,114,105,116,101],[116,114,97,110,115,97,99,116,105,111,110],[97,116,111,109,105,99],[119,97,105,116],[110,111,116,105,102,121],[110,111,116,105,102,121,97,108,108],[115,112,97,119,110],[106,111,105,110],[115,101,116],[103,101,116]]
def VW(g:Nat):Option (List AV):=
 if g=0 then some (iP.map λn=>.int .i64 n)else
 if g=1 then some (RJ.map .str)else
 none
def TZ(g:Nat):AV:=
 match VW g with
 |some r=>.pptr [r] 0 0
 |none=>.junk
section
inductive Ex where
 |normal
 |exit (id:Nat)
 |ret
def ca:AV:=.tup []
def kV(τ:List AV):Operand->AV
 |.tmp t=>τ.getD t ca
 |.const v=>(KP v).getD .junk
 |.global g=>TZ g
 |.func f=>.fn f []
def ik(τ:List AV)(dst:Option Tmp)(v:AV):List AV:=
 match dst with
 |some d=>τ.set d v
 |none=>τ
def eK(ops:Array Oper)(o:Oper)(τ:List AV):Option Bool:=
 match o.guard with
 |none=>some true
 | some (j,want)=>match (ops[j]?).bind (·.dst)with
  | some d=>match τ[d]? with
   |some (.bool b)=>some (b==want)
   |some (.tup [])=>some false
   |_=>none
  |none=>none
section
variable (P:Program) (F:TypeId->Option (List TypeId)) (call:FuncId->List AV->af->Option (AV×af))
def kZ(ops:Array Oper)(base i:Nat)(τ:List AV)(H:af):Option (List AV×af):=
 match ops[i]? with
 |none=>none
 | some o=>match eK ops o τ with
  | some true=>match bA P F o.op (kV τ) (base+i) H with
   |some (.val v H')=>some (ik τ o.dst v,H')
   | some (.call f args)=>match call f args H with
    |some (v,H')=>some (ik τ o.dst v,H')
    |none=>none
   |none=>none
  |some false=>some (ik τ o.dst ca,H)
  |none=>none
def nC(ops:Array Oper)(base:Nat):List Nat->List AV->af->Option (List AV×af)
 |[],τ,H=>some (τ,H)
 | i::l,τ,H=>match kZ P F call ops base i τ H with
  |some (τ,H)=>nC ops base l τ H
  |none=>none
def am:AV->List Nat
 |.ptr b _ _|.sl b _ _|.mp b|.it b=>[b]
 |_=>[]
def gE:AV->List Nat
 |.sl b _ _=>[b]
 |_=>[]
def aT(o:Op)(ρ:Operand->AV):List Nat:=
 match o with
 |.load _ a=>am (ρ a)
 |.store _ a _=>am (ρ a)
 |.indexAddr _ x _=>gE (ρ x)
 |.slice _ x _ _ _=>gE (ρ x)
 |.lookup _ m _ _=>am (ρ m)
 |.mapUpdate _ m _ _=>am (ρ m)
 |.next it _=>am (ρ it)
 | .call c=>match c.callee with
  |.builtin .append=>c.args.toList.flatMap λx=>am (ρ x)
  |.builtin .clear=>c.args.toList.flatMap λx=>am (ρ x)
  |_=>[]
 |_=>[]
def aJ(o:Op)(ρ:Operand->AV):List Nat:=
 match o with
 |.store _ a _=>am (ρ a)
 |.mapUpdate _ m _ _=>am (ρ m)
 |.next it _=>am (ρ it)
 | .call c=>match c.callee with
  |.builtin .append=>(c.args.toList.take 1).flatMap λx=>am (ρ x)
  |.builtin .clear=>c.args.toList.flatMap λx=>am (ρ x)
  |_=>[]
 |_=>[]
structure rX where
 op:Nat
 reads:List Nat
 writes:List Nat
 made:List Nat
 isCall:Bool
 lo:Nat
 hi:Nat
def apart(l m:List Nat):Bool:=l.all λx=>!m.contains x
def mg(x y:rX):Bool:=
 !(apart x.writes y.reads&&apart x.writes y.writes&&apart x.reads y.writes&&apart x.made y.reads&&apart x.made y.writes) ||
 (x.isCall&&(y.isCall||!y.writes.isEmpty||y.reads.any λb=>decide (x.lo<=b)&&decide (b<x.hi)))||(y.isCall&&!x.writes.isEmpty)
def cz:List Oper->List Nat->List Nat
 |[],acc=>acc
 |o::l,acc=>cz l (acc++[o.after.toList.foldl (λs e=>if Region.binds .any e then s ||| 2^e.on ||| acc.getD e.on 0 else s) 0])
def eI(base mask:Nat):Nat->af->af
 |0,H=>H
 |j+1,H=>eI base mask j (if mask.testBit j then H else {H with tr:=H.tr.set (base+j) none})
def jJ(base mask:Nat)(H:af):Nat->af->af
 |0,K=>K
 |j+1,K=>jJ base mask H j (if mask.testBit j then K else {K with tr:=K.tr.set (base+j) (H.tr.get (base+j))})
def bZ(ops:Array Oper)(base i mask:Nat)(τ:List AV)(H:af):Option (List AV×af×Option rX):=
 match ops[i]? with
 |none=>none
 | some o=>match eK ops o τ with
  | some true=>match bA P F o.op (kV τ) (base+i) H with
   |some (.val v H')=>some (ik τ o.dst v,{H' with log:=H.log},some ⟨i,aT o.op (kV τ),aJ o.op (kV τ),[base+i],false,0,0⟩)
   | some (.call f args)=>match call f args {eI base mask i H with log:=[]} with
    |some (v,H')=>some (ik τ o.dst v,{jJ base mask H i H' with log:=H.log},some ⟨i,[],H'.log.filter (λc=>((eI base mask i H).get c).isSome),[],true,H.next,H'.next⟩)
    |none=>none
   |none=>none
  |some false=>some (ik τ o.dst ca,H,none)
  |none=>none
def fK(ops:Array Oper)(base:Nat)(before:List Nat):List Nat->List AV->af->List rX->Option (List AV×af×List rX)
 |[],τ,H,rs=>some (τ,H,rs)
 | i::l,τ,H,rs=>match bZ P F call ops base i (before.getD i 0) τ H with
  |some (τ,H,none)=>fK ops base before l τ H rs
  |some (τ,H,some r)=>if rs.all λx=>(before.getD i 0).testBit x.op||!mg x r then fK ops base before l τ H (r::rs)else none
  |none=>none
def eM(ops:Array Oper)(draw:Bool)(τ:List AV)(H:af):Option (List AV×af):=
 let H':={H with next:=H.next+ops.size}
 if draw then match fK P F call ops H.next (cz ops.toList []) (List.range ops.size) τ H' []with
  |some (τ,K,rs)=>some (τ,{K with log:=rs.flatMap (·.writes)++K.log})
  |none=>none
 else nC P F call ops H.next (List.range ops.size) τ H'
def k9(τ:List AV)(H:af):ResultVar->Option AV
 |.tmp t=>some (τ.getD t ca)
 |.cell a t=>oz P H t (τ.getD a ca)
def mh(τ:List AV)(H:af)(rs:List ResultVar):Option AV:=
 match ee (rs.map (k9 P τ H))with
 |some [v]=>some v
 |some vs=>some (.tup vs)
 |none=>none
def nD(ex:Code->List AV->af->Option (Ex×List AV×af))(g:FuncId)(args:List AV)(H:af):Option (AV×af):=
 match P.funcs[g]? with
 | some fn=>match fn.body with
  | some c=>match ex c (args++List.replicate (fn.ntmps-args.length) ca) {H with log:=[]} with
   |some (.exit _,_,_)=>none
   | some (_,τ,H')=>match mh P τ H' fn.results.toList with
    |some v=>some (v,{H' with log:=H'.log.filter (·<H.next)++H.log})
    |none=>none
   |none=>none
  |none=>none
 |none=>none
end
def iI(P:Program)(F:TypeId->Option (List TypeId)):Nat->Code->List AV->af->Option (Ex×List AV×af)
 |0,_,_,_=>none
 |f+1,c,τ,H=>
  match c with
  |.skip|.label _=>some (.normal,τ,H)
  | .region _ ops draw=>match eM P F (nD P (iI P F f)) ops draw τ H with
   |some (τ,H)=>some (.normal,τ,H)
   |none=>none
  | .seq a b=>match iI P F f a τ H with
   |some (.normal,τ,H)=>iI P F f b τ H
   |r=>r
  | .cond c a b=>match kV τ c with
   |.bool true=>iI P F f a τ H
   |.bool false=>iI P F f b τ H
   |_=>none
  | .block id b=>match iI P F f b τ H with
   |some (.exit id',τ,H)=>if id'=id then some (.normal,τ,H)else some (.exit id',τ,H)
   |r=>r
  | .loop b=>match iI P F f b τ H with
   |some (.normal,τ,H)=>iI P F f (.loop b) τ H
   |r=>r
  |.exit id=>some (.exit id,τ,H)
  |.ret=>some (.ret,τ,H)
  |_=>none
def af.empty:af:=⟨0,.leaf,[]⟩
end
structure cR where
 block:Nat
 base:Nat
 size:Nat
def cR.ok(pl:cR):Prop:=pl.base=0\/0<pl.size
structure bR where
 map:Nat->Option cR
 fr:Nat->Prop
instance:CoeFun bR (λ_=>Nat->Option cR):=⟨bR.map⟩
structure s6(w:World)(T:Nat->Prop)(rows:List (List AV))(b o sz:Nat):Prop where
 out:¬T b
 even:∀(i:Nat) (r:List AV),rows[i]? =some r->r.length=sz
 cell:∀i j,i<rows.length->j<sz->∃u,w.cell? ⟨b,o+i*sz+j,none⟩=some u
 pos:0<sz
 ne:0<rows.length
inductive bN (w:World) (σ:bR) (T:Nat->Prop):AV->Value->Prop where
 |int (k:IntKind) (n:Int):bN w σ T (.int k n) (.int k n)
 |bool (b:Bool):bN w σ T (.bool b) (.bool b)
 |str (s:ByteArray):bN w σ T (.str s.data.toList) (.string s)
 |nilp:bN w σ T .nilp (.pointer none)
 |ptr (b i off:Nat) (pl:cR) (h:σ b=some pl) (hp:pl.ok):bN w σ T (.ptr b i off) (.pointer (some ⟨pl.block,pl.base+i*pl.size+off,none⟩))
 | pptr (rows:List (List AV)) (i off b o sz:Nat) (hl:s6 w T rows b o sz)
   (h:∀(i:Nat) (r:List AV) (j:Nat) (a:AV) (u:Value),rows[i]? =some r->r[j]? =some a->w.cell? ⟨b,o+i*sz+j,none⟩=some u->bN w σ T a u) :
   bN w σ T (.pptr rows i off) (.pointer (some ⟨b,o+i*sz+off,none⟩))
 |nils:bN w σ T .nils (.slice none 0 0)
 |emp (a:Option Addr):bN w σ T .emp (.slice a 0 0)
 | sl (b i n:Nat) (pl:cR) (a:Addr) (cap:Nat) (h:σ b=some pl) (hp:pl.ok) (hn:n<=cap) (hm:cap<=maxLen)
   (ha:0<cap->a=⟨pl.block,pl.base+i*pl.size,none⟩/\∃cs e,w.heap[pl.block]? =some (.cells cs e (0,0))/\pl.base+(i+cap)*pl.size<=cs.size) :
   bN w σ T (.sl b i n) (.slice (some a) n cap)
 |lst0 (a:Option Addr) (cap:Nat) (hm:cap<=maxLen):bN w σ T (.lst []) (.slice a 0 cap)
 | lst (rows:List (List AV)) (b o sz cap:Nat) (hl:s6 w T rows b o sz) (hn:rows.length<=cap) (hm:cap<=maxLen)
   (h:∀(i:Nat) (r:List AV) (j:Nat) (a:AV) (u:Value),rows[i]? =some r->r[j]? =some a->w.cell? ⟨b,o+i*sz+j,none⟩=some u->bN w σ T a u) :
   bN w σ T (.lst rows) (.slice (some ⟨b,o,none⟩) rows.length cap)
 |mp (b:Nat) (pl:cR) (h:σ b=some pl) (hs:pl.size=0) (hb:pl.base=1):bN w σ T (.mp b) (.map (some pl.block))
 |it (b:Nat) (pl:cR) (h:σ b=some pl) (hs:pl.size=0) (hb:pl.base=2):bN w σ T (.it b) (.pointer (some ⟨pl.block,0,none⟩))
 |agg (cs:List AV) (vs:List Value) (hl:cs.length=vs.length) (h:∀(i:Nat) (a:AV) (v:Value),cs[i]? =some a->vs[i]? =some v->bN w σ T a v):bN w σ T (.agg cs) (.agg vs.toArray)
 |tup (cs:List AV) (vs:List Value) (hl:cs.length=vs.length) (h:∀(i:Nat) (a:AV) (v:Value),cs[i]? =some a->vs[i]? =some v->bN w σ T a v):bN w σ T (.tup cs) (.tuple vs.toArray)
 |fn (f:FuncId) (cs:List AV) (vs:List Value) (hl:cs.length=vs.length) (h:∀(i:Nat) (a:AV) (v:Value),cs[i]? =some a->vs[i]? =some v->bN w σ T a v):bN w σ T (.fn f cs) (.func (.func f) #[] vs.toArray)
 |nilf:bN w σ T .nilf .nilFunc
 |junk (v:Value):bN w σ T .junk v
def fP(w:World)(σ:bR)(T:Nat->Prop)(cs:List AV)(vs:List Value):Prop:=
 cs.length=vs.length/\∀(i:Nat) (a:AV) (v:Value),cs[i]? =some a->vs[i]? =some v->bN w σ T a v
def Ci(σ:bR)(H:af)(c:Nat):Prop:=∃b x pl,H.get b=some x/\σ b=some pl/\pl.block=c
def bB(σ:bR)(H:af)(c:Nat):Prop:=σ.fr c\/Ci σ H c
structure vU(w:World)(σ:bR)(T:Nat->Prop)(x:Blk)(pl:cR)(cs:Array Value)(e:TypeId):Prop where
 size:pl.size=x.size
 block:w.heap[pl.block]? =some (.cells cs e (0,0))
 even:∀(i:Nat) (r:List AV),x.rows[i]? =some r->r.length=x.size
 room:pl.base+x.rows.length*x.size<=cs.size
 rep:∀(i:Nat) (r:List AV) (j:Nat) (a:AV) (u:Value),x.rows[i]? =some r->r[j]? =some a->cs[pl.base+i*x.size+j]? =some u->bN w σ T a u
def FV:Value->Option AV
 |.int k n=>some (.int k n)
 |.bool b=>some (.bool b)
 |.string s=>some (.str s.data.toList)
 |_=>none
def FW(e:MapEntry):Option (List AV):=
 match FV e.key,FV e.val with
 |some k,some v=>some [k,v]
 |_,_=>none
structure uf(w:World)(x:Blk)(pl:cR):Prop where
 size:x.size=0
 psize:pl.size=0
 obj:(pl.base=1/\∃es clk,w.heap[pl.block]? =some (.map es clk)/\es.toList.map FW=x.rows.map some) \/
  (pl.base=2/\∃(s:ByteArray) (pos:Nat),w.heap[pl.block]? =some (.stringIter s pos)/\x.rows=[[.str s.data.toList,.int .i64 pos]])
def ld(w:World)(σ:bR)(T:Nat->Prop)(x:Blk)(pl:cR)(cs:Array Value)(e:TypeId):Prop:=
 (pl.ok->vU w σ T x pl cs e)/\(¬pl.ok->uf w x pl)
def ld.of{w:World}{σ:bR}{T:Nat->Prop}{x:Blk}{j:cR}{cs:Array Value}{e:TypeId}(hp:j.ok)(h:vU w σ T x j cs e):ld w σ T x j cs e:=⟨λ_=>h,λu=>absurd hp u⟩
def jy(w:World)(T:Nat->Prop):Prop:=∀g r,VW g=some r->¬T g/\0<r.length/\∀(j:Nat) (a:AV),r[j]? =some a->∃u,w.cell? ⟨g,j,none⟩=some u/\FV u=some a
structure bQ(w:World)(σ:bR)(H:af):Prop where
 named:∀b pl,σ b=some pl->b<H.next
 lt:∀b pl,σ b=some pl->pl.block<w.heap.size
 live:∀b x,H.get b=some x->∃pl cs e,σ b=some pl/\ld w σ (bB σ H) x pl cs e
 apart:∀c,σ.fr c->c<w.heap.size/\¬Ci σ H c
 inj:∀b b' x x' pl pl',H.get b=some x->H.get b'=some x'->σ b=some pl->σ b'=some pl'->pl.block=pl'.block->b=b'
 glob:jy w (bB σ H)
structure fR(w:World)(σ:bR)(T:Nat->Prop)(w':World)(σ':bR)(T':Nat->Prop):Prop where
 os:w'.os=w.os
 tape:w'.tape=w.tape
 output:w'.output=w.output
 size:w.heap.size<=w'.heap.size
 keep:∀c,c<w.heap.size->¬T c->w'.heap[c]? =w.heap[c]?
 shape:∀(c:Nat) (cs:Array Value) (e:TypeId),w.heap[c]? =some (.cells cs e (0,0))->∃cs':Array Value,w'.heap[c]? =some (.cells cs' e (0,0))/\cs'.size=cs.size
 sig:∀b pl,σ b=some pl->σ' b=some pl
 eqfr:σ'.fr=σ.fr
 frame:∀c,σ.fr c->w'.heap[c]? =w.heap[c]?
 own:∀c,T' c->T c\/w.heap.size<=c
def fR.refl(w:World)(σ:bR)(T:Nat->Prop):fR w σ T w σ T:=
 ⟨rfl,rfl,rfl,Fd _,λ_ _ _=>rfl,λ_ j _ h=>⟨j,h,rfl⟩,λ_ _ h=>h,rfl,λ_ _=>rfl,λ_ h=>.inl h⟩
def fR.trans{w w' D:World}{σ σ' j:bR}{T T' T'':Nat->Prop}(h:fR w σ T w' σ' T')(k:fR w' σ' T' D j T''):fR w σ T D j T'' where
 os:=k.os.trans h.os
 tape:=k.tape.trans h.tape
 output:=k.output.trans h.output
 size:=W5 h.size k.size
 keep:=λc B Y=>by
  have M:c<w'.heap.size:=Xf B h.size;have:¬T' c:=λZ=>by
   rcases h.own c Z with u|u
   .exact Y u
   .omega
  exact(k.keep c M this).trans (h.keep c B Y)
 shape:=λc cs e G=>by obtain⟨O,u,h2⟩:=h.shape c cs e G;obtain⟨E,h3,h4⟩:=k.shape c O e u;exact⟨E,h3,h4.trans h2⟩
 sig:=λb S hb=>k.sig b S (h.sig b S hb)
 eqfr:=k.eqfr.trans h.eqfr
 frame:=λc B=>(k.frame c (by rw[h.eqfr];exact B)).trans (h.frame c B)
 own:=λc B=>by
  rcases k.own c B with u|u
  .exact h.own c u
  .exact .inr (W5 h.size u)
def xM{w:World}{b o:Nat}{u:Value}(h:w.cell? ⟨b,o,none⟩=some u):b<w.heap.size:=by
 rcases Fn b w.heap.size with j|B
 .exact j
 .simp[World.cell?,Array.getElem?_eq_none B]at h
def s6.lt{w:World}{T:Nat->Prop}{rows:List (List AV)}{b o sz:Nat}(h:s6 w T rows b o sz):b<w.heap.size:=by obtain⟨u,j⟩:=h.cell 0 0 h.ne h.pos;exact xM j
def s6.cell_eq{w w':World}{σ σ':bR}{T T':Nat->Prop}{rows:List (List AV)}{b o sz:Nat}(h:s6 w T rows b o sz)(e:fR w σ T w' σ' T')(k:Nat):
  w'.cell? ⟨b,k,none⟩=w.cell? ⟨b,k,none⟩:=
 World.cell?_of_block (w:=w) (w':=w') (a:=⟨b,k,none⟩) (e.keep b h.lt h.out)
def s6.mono{w w':World}{σ σ':bR}{T T':Nat->Prop}{rows:List (List AV)}{b o sz:Nat}(h:s6 w T rows b o sz)(e:fR w σ T w' σ' T'):s6 w' T' rows b o sz where
 out:=λB=>by
  rcases e.own b B with u|u
  .exact h.out u
  .have:=h.lt;omega
 even:=h.even
 cell:=λi j E D=>by rw[h.cell_eq e];exact h.cell i j E D
 pos:=h.pos
 ne:=h.ne
def jy.mono{w w':World}{σ σ':bR}{T T':Nat->Prop}(e:fR w σ T w' σ' T')(h:jy w T):jy w' T':=λg r Z=>by
 obtain⟨O,M,G⟩:=h g r Z;obtain⟨u,B,_⟩:=G 0 r[0] (mt M);have D:=xM B;refine⟨λS=>?_,M,λj a Y=>?_⟩
 .rcases e.own g S with E|E
  .exact O E
  .omega
 .obtain⟨u,B,ha⟩:=G j a Y;exact⟨u,by rw[World.cell?_of_block (w:=w) (w':=w') (a:=⟨g,j,none⟩) (e.keep g D O)];exact B,ha⟩
def jy.less{w:World}{T T':Nat->Prop}(h:jy w T)(B:∀c,T' c->T c):jy w T':=λg r j=>⟨λu=>(h g r j).1 (B g u),(h g r j).2⟩
def jy.rep{w:World}{σ:bR}{T:Nat->Prop}(h:jy w T)(g:Nat):bN w σ T (TZ g) (.pointer (some ⟨g,0,none⟩)):=by
 unfold TZ;cases Y:VW g with
 |none=>exact .junk _
 |some r=>
  obtain⟨h1,h2,M⟩:=h g r Y;have:=bN.pptr (w:=w) (σ:=σ) (T:=T) [r] 0 0 g 0 r.length ⟨h1,λi q D=>?_,λi j S O=>?_,h2,YF⟩ λi q j a u D Z G=>?_
  .simpa using this
  .match i with
   |0=>cases D;rfl
   |i+1=>simp at D
  .have h0:i=0:=by simpa using S
   subst h0;obtain⟨u,G,_⟩:=M j _ (mt O);exact⟨u,by simpa using G⟩
  .match i with
   |0=>
    cases D;obtain⟨u',B,E⟩:=M j a Z;simp only[Nat.zero_mul,XQ,Xn]at G;rw[G]at B;cases B;cases u<;>simp only[FV,W3,reduceCtorEq]at E<;>subst E
    .exact .bool _
    .exact .int _ _
    .exact .str _
   |i+1=>simp at D
def bN.mono{w w':World}{σ σ':bR}{T T':Nat->Prop}(e:fR w σ T w' σ' T'){a:AV}{v:Value}(h:bN w σ T a v):bN w' σ' T' a v:=by
 induction h with
 |int k n=>exact .int k n
 |bool b=>exact .bool b
 |str s=>exact .str s
 |nilp=>exact .nilp
 |ptr b i Y D h hp=>exact .ptr b i Y D (e.sig b D h) hp
 |mp b D h S O=>exact .mp b D (e.sig b D h) S O
 |it b D h S O=>exact .it b D (e.sig b D h) S O
 |pptr B i Y b o sz E h M=>exact .pptr B i Y b o sz (E.mono e) λi r j a u S O h3=>M i r j a u S O (by rwa [E.cell_eq e]at h3)
 |nils=>exact .nils
 |emp a=>exact .emp a
 |sl b i n D a G h hp hn hm ha=>
  refine .sl b i n D a G (e.sig b D h) hp hn hm λhc=>?_
  obtain⟨S,Z,ty,O,h3⟩:=ha hc;obtain⟨cs',h4,h5⟩:=e.shape _ _ _ O;exact⟨S,cs',ty,h4,YC⟩
 |lst0 a G hm=>exact .lst0 a G hm
 |lst B b o sz G E hn hm h M=>exact .lst B b o sz G (E.mono e) hn hm λi r j a u S O h3=>M i r j a u S O (by rwa [E.cell_eq e]at h3)
 |agg Z vs E h M=>exact .agg Z vs E M
 |tup Z vs E h M=>exact .tup Z vs E M
 |fn f Z vs E h M=>exact .fn f Z vs E M
 |nilf=>exact .nilf
 |junk v=>exact .junk v
def fP.mono{w w':World}{σ σ':bR}{T T':Nat->Prop}(e:fR w σ T w' σ' T'){cs:List AV}{vs:List Value}(h:fP w σ T cs vs):fP w' σ' T' cs vs:=
 ⟨h.1,λi a v u j=>(h.2 i a v u j).mono e⟩
def af.get_new(H:af)(b c:Nat)(x:Blk):(H.new b x).get c=if b=c then some x else H.get c:=Tr.get_set _ _ _ _
def af.get_put(H:af)(b c:Nat)(x:Option Blk):(H.put b x).get c=if b=c then x else H.get c:=Tr.get_set _ _ _ _
def vU.mono{w w':World}{σ σ':bR}{T T':Nat->Prop}{x:Blk}{B:cR}{cs:Array Value}{e:TypeId}(h:vU w σ T x B cs e)(O:fR w σ T w' σ' T')
  (D:w'.heap[B.block]? =w.heap[B.block]?):vU w' σ' T' x B cs e:=
 ⟨h.size,D.trans h.block,h.even,h.room,λi r j a u M G E=>(h.rep i r j a u M G E).mono O⟩
def uf.mono{w w':World}{x:Blk}{j:cR}(h:uf w x j)(u:w'.heap[j.block]? =w.heap[j.block]?):uf w' x j:=⟨h.size,h.psize,by rw[u];exact h.obj⟩
def ld.mono{w w':World}{σ σ':bR}{T T':Nat->Prop}{x:Blk}{j:cR}{cs:Array Value}{e:TypeId}(h:ld w σ T x j cs e)(D:fR w σ T w' σ' T')
  (u:w'.heap[j.block]? =w.heap[j.block]?):ld w' σ' T' x j cs e:=⟨λhp=>(h.1 hp).mono D u,λB=>(h.2 B).mono u⟩
def bQ.ok_of{w:World}{σ:bR}{H:af}(S:bQ w σ H){b:Nat}{x:Blk}{u:cR}(O:H.get b=some x)(M:σ b=some u){cs:Array Value}{e:TypeId}(B:w.heap[u.block]? =some (.cells cs e (0,0))):u.ok:=by
 obtain⟨G,Z,e',D,Y⟩:=S.live b x O;rw[M]at D;cases D;by_cases hp:u.ok
 .exact hp
 .rcases(Y.2 hp).obj with⟨_,es,clk,j,_⟩|⟨_,s,E,j,_⟩
  .rw[B]at j;cases j
  .rw[B]at j;cases j
def cR.ok_over{j:cR}(h:j.ok)(c k:Nat):cR.ok ⟨c,j.base+k*j.size,j.size⟩:=by
 rcases h with h|h
 .rcases XH j.size with u|u
  .left;show j.base+k*j.size=0;rw[h,u];simp
  .exact .inr u
 .exact .inr h
def fR.same{w w':World}(σ:bR)(T:Nat->Prop)(j:w'.heap=w.heap)(u:w'.os=w.os)(ht:w'.tape=w.tape)(hp:w'.output=w.output):fR w σ T w' σ T:=
 ⟨u,ht,hp,by rw[j];exact Fd _,λ_ _ _=>by rw[j],λ_ B _ h=>⟨B,by rw[j];exact h,rfl⟩,λ_ _ h=>h,rfl,λ_ _=>by rw[j],λ_ h=>.inl h⟩
def bQ.same{w w':World}{σ:bR}{H:af}(h:bQ w σ H)(j:w'.heap=w.heap)(D:w'.os=w.os)(ht:w'.tape=w.tape)(hp:w'.output=w.output):bQ w' σ H:=
 ⟨h.named,λb u B=>by rw[j];exact h.lt b u B,λb x B=>by
  obtain⟨u,O,e,M,G⟩:=h.live b x B;exact⟨u,O,e,M,G.mono (fR.same σ _ j D ht hp) (by rw[j])⟩,λc E=>by rw[j];exact h.apart c E,h.inj,h.glob.mono (fR.same σ _ j D ht hp)⟩
def bQ.congr{w:World}{σ:bR}{H K:af}(h:bQ w σ H)(j:∀b,K.get b=H.get b)(O:H.next<=K.next):bQ w σ K:=by
 have E:Ci σ K=Ci σ H:=by funext c;simp[Ci,j]
 have G:bB σ K=bB σ H:=by funext c;simp[bB,E]
 refine⟨λb B D=>Xf (h.named b B D) O,h.lt,λb x D=>?_,by rw[E];exact h.apart,λb Z x M B u Y S=>h.inj b Z x M B u (by rwa [j]at Y) (by rwa [j]at S),by rw[G];exact h.glob⟩;rw[G];exact h.live b x (by rwa [j]at D)
def bB.congr{σ:bR}{H K:af}(j:∀b,K.get b=H.get b):bB σ K=bB σ H:=by funext c;simp[bB,Ci,j]
def bB.sub{σ:bR}{H K:af}(u:∀b x,K.get b=some x->H.get b=some x){c:Nat}(h:bB σ K c):bB σ H c:=by
 rcases h with h|⟨b,x,j,E,D,B⟩
 .exact .inl h
 .exact .inr ⟨b,x,j,u b x E,D,B⟩
def fR.sub{w:World}{σ:bR}{H K:af}(j:∀b x,K.get b=some x->H.get b=some x):fR w σ (bB σ H) w σ (bB σ K):=
 ⟨rfl,rfl,rfl,Fd _,λ_ _ _=>rfl,λ_ u _ h=>⟨u,h,rfl⟩,λ_ _ h=>h,rfl,λ_ _=>rfl,λ_ h=>.inl (bB.sub j h)⟩
def bQ.sub{w:World}{σ:bR}{H K:af}(h:bQ w σ H)(u:∀b x,K.get b=some x->H.get b=some x)(S:H.next<=K.next):bQ w σ K:=
 ⟨λb j G=>Xf (h.named b j G) S,h.lt,λb x G=>by
  obtain⟨j,Z,e,D,B⟩:=h.live b x (u b x G);exact⟨j,Z,e,D,B.mono (fR.sub u) rfl⟩,λc M=>⟨(h.apart c M).1,λ⟨b,x,j,D,B,Y⟩=>(h.apart c M).2 ⟨b,x,j,u b x D,B,Y⟩⟩,λb b' x O j E D B=>h.inj b b' x O j E (u _ _ D) (u _ _ B),h.glob.mono (fR.sub u)⟩
def bR.set(σ:bR)(b:Nat)(pl:cR):bR:={σ with map:=λc=>if b=c then some pl else σ c}
def bR.set_eq(σ:bR)(b:Nat)(j:cR):σ.set b j b=some j:=by simp[bR.set]
def bR.set_ne(σ:bR){b c:Nat}(j:cR)(h:b≠c):σ.set b j c=σ c:=by simp[bR.set,h]
def bR.set_old{σ:bR}{b c:Nat}{j q:cR}(u:σ b=none)(h:σ c=some q):σ.set b j c=some q:=by rw[bR.set_ne _ _ (by rintro rfl;rw[u]at h;cases h)];exact h
def World.push(w:World)(o:Obj):World:={w with heap:=w.heap.push o}
def bQ.new{w:World}{σ:bR}{H:af}(h:bQ w σ H){b:Nat}(hb:σ b=none)(hlt:b<H.next){x:Blk}{cs:Array Value}{e:TypeId}
  (even:∀(i:Nat) (r:List AV),x.rows[i]? =some r->r.length=x.size) (room:x.rows.length*x.size<=cs.size)
  (rep:∀(i:Nat) (r:List AV) (j:Nat) (a:AV) (u:Value),x.rows[i]? =some r->r[j]? =some a->cs[i*x.size+j]? =some u->bN w σ (bB σ H) a u) :
  bQ (World.push w (.cells cs e (0,0))) (σ.set b ⟨w.heap.size,0,x.size⟩) (H.new b x)/\
  fR w σ (bB σ H) (World.push w (.cells cs e (0,0))) (σ.set b ⟨w.heap.size,0,x.size⟩) (bB (σ.set b ⟨w.heap.size,0,x.size⟩) (H.new b x)):=by
 have hnone:H.get b=none:=by
  cases hg:H.get b with
  |none=>rfl
  |some y=>obtain⟨S,_,_,G,_⟩:=h.live b y hg;rw[hb]at G;cases G
 have Y:∀c,c<w.heap.size->(World.push w (.cells cs e (0,0))).heap[c]? =w.heap[c]? :=λc D=>by show(w.heap.push _)[c]? =_;rw[Array.getElem?_push,if_neg (Nat.ne_of_lt D)]
 have ext:fR w σ (bB σ H) (World.push w (.cells cs e (0,0))) (σ.set b ⟨w.heap.size,0,x.size⟩) (bB (σ.set b ⟨w.heap.size,0,x.size⟩) (H.new b x)):=by
  refine⟨rfl,rfl,rfl,by simp[World.push],λc D _=>Y c D,λc cs' e' D=>⟨cs',?_,rfl⟩,λc q hq=>bR.set_old hb hq,rfl,λc D=>Y c (h.apart c D).1,?_⟩
  .rcases Fn c w.heap.size with hlt|hge
   .rw[Y c hlt];exact D
   .rw[Array.getElem?_eq_none hge]at D;cases D
  .rintro c (hfr|⟨b',y,S,G,M,Z⟩)
   .exact .inl (.inl hfr)
   rw[af.get_new]at G;by_cases O:b=b'
   .subst O;rw[bR.set_eq]at M;cases M;exact .inr (by simp only[]at Z;omega)
   .rw[if_neg O]at G;rw[bR.set_ne _ _ O]at M;exact .inl (.inr ⟨b',y,S,G,M,Z⟩)
 have hap:∀c,(σ.set b ⟨w.heap.size,0,x.size⟩).fr c->c<(World.push w (.cells cs e (0,0))).heap.size/\¬Ci (σ.set b ⟨w.heap.size,0,x.size⟩) (H.new b x) c:=λc D=>by
  have hlt':=(h.apart c D).1;refine⟨by simp[World.push];omega,?_⟩;rintro⟨b',y,S,G,M,Z⟩;rw[af.get_new]at G;by_cases O:b=b'
  .subst O;rw[bR.set_eq]at M;cases M;simp only[]at Z;omega
  .rw[if_neg O]at G;rw[bR.set_ne _ _ O]at M;exact(h.apart c D).2 ⟨b',y,S,G,M,Z⟩
 refine⟨⟨?_,?_,?_,hap,?_,h.glob.mono ext⟩,ext⟩
 .intro c S D;by_cases B:b=c
  .subst B;exact hlt
  .rw[bR.set_ne _ _ B]at D;exact h.named c S D
 .intro c S D;by_cases B:b=c
  .subst B;rw[bR.set_eq]at D;cases D;simp[World.push]
  .rw[bR.set_ne _ _ B]at D;have:=h.lt c S D;simp[World.push];omega
 .intro c y hy;rw[af.get_new]at hy;by_cases B:b=c
  .subst B;rw[if_pos rfl]at hy;cases hy;refine⟨_,cs,e,bR.set_eq _ _ _,.of (.inl rfl) ⟨rfl,by show(w.heap.push _)[w.heap.size]? =_;simp,even,by simpa using room,λi r j a u G M Z=>(rep i r j a u G M (by simpa using Z)).mono ext⟩⟩
  .rw[if_neg B]at hy;obtain⟨S,cs',e',G,M⟩:=h.live c y hy;exact⟨S,cs',e',by rw[bR.set_ne _ _ B];exact G,M.mono ext (Y _ (h.lt c S G))⟩
 .intro c c' y y' S pl' G M Z h4 h5;rw[af.get_new]at G M;by_cases B:b=c
  .by_cases E:b=c'
   .exact B.symm.trans E
   .subst B;rw[bR.set_eq]at Z;cases Z;rw[bR.set_ne _ _ E]at h4;have:=h.lt c' pl' h4;simp only[]at h5;omega
  .by_cases E:b=c'
   .subst E;rw[bR.set_eq]at h4;cases h4;rw[bR.set_ne _ _ B]at Z;have:=h.lt c S Z;simp only[]at h5;omega
   .rw[if_neg B]at G;rw[if_neg E]at M;rw[bR.set_ne _ _ B]at Z;rw[bR.set_ne _ _ E]at h4;exact h.inj c c' y y' S pl' G M Z h4 h5
structure mi(w w':World)(c:Nat)(cs cs':Array Value)(e:TypeId):Prop where
 os:w'.os=w.os
 tape:w'.tape=w.tape
 output:w'.output=w.output
 size:w'.heap.size=w.heap.size
 old:w.heap[c]? =some (.cells cs e (0,0))
 new:w'.heap[c]? =some (.cells cs' e (0,0))
 len:cs'.size=cs.size
 rest:∀d,d≠c->w'.heap[d]? =w.heap[d]?
def mi.refl{w:World}{c:Nat}{cs:Array Value}{e:TypeId}(h:w.heap[c]? =some (.cells cs e (0,0))):mi w w c cs cs e:=
 ⟨rfl,rfl,rfl,rfl,h,h,rfl,λ_ _=>rfl⟩
def mi.ext{w w':World}{c:Nat}{cs B:Array Value}{e:TypeId}(h:mi w w' c cs B e){σ σ':bR}{T T':Nat->Prop}(O:T c)(D:∀b G,σ b=some G->σ' b=some G)
  (E:σ'.fr=σ.fr) (M:¬σ.fr c) (S:∀d,T' d->T d):fR w σ T w' σ' T':=by
 refine⟨h.os,h.tape,h.output,by rw[h.size];exact Fd _,λd _ j=>h.rest d (by rintro rfl;exact j O),λd ds Y j=>?_,D,E,λd j=>h.rest d (by rintro rfl;exact M j),λd j=>.inl (S d j)⟩;by_cases u:d=c
 .subst u;rw[h.old]at j;cases j;exact⟨B,h.new,h.len⟩
 .exact⟨ds,by rw[h.rest d u];exact j,rfl⟩
def bQ.put{w w':World}{σ:bR}{H:af}(h:bQ w σ H){b:Nat}{x x':Blk}{O:cR}{cs cs':Array Value}{e:TypeId}(hg:H.get b=some x)(hs:σ b=some O)
  (Y:mi w w' O.block cs cs' e) (hx:x'.size=O.size)
  (even:∀(i:Nat) (r:List AV),x'.rows[i]? =some r->r.length=x'.size) (room:O.base+x'.rows.length*x'.size<=cs.size)
  (rep:∀(i:Nat) (r:List AV) (j:Nat) (a:AV) (u:Value),x'.rows[i]? =some r->r[j]? =some a->cs'[O.base+i*x'.size+j]? =some u->bN w σ (bB σ H) a u) :
  bQ w' σ (H.put b (some x'))/\fR w σ (bB σ H) w' σ (bB σ (H.put b (some x'))):=by
 have S:Ci σ (H.put b (some x'))=Ci σ H:=by
  funext c;apply propext;constructor
  .rintro⟨b',y,q,D,G,Z⟩;rw[af.get_put]at D;by_cases E:b=b'
   .subst E;exact⟨b,x,q,hg,G,Z⟩
   .rw[if_neg E]at D;exact⟨b',y,q,D,G,Z⟩
  .rintro⟨b',y,q,D,G,Z⟩;by_cases E:b=b'
   .subst E;exact⟨b,x',q,by rw[af.get_put,if_pos rfl],G,Z⟩
   .exact⟨b',y,q,by rw[af.get_put,if_neg E];exact D,G,Z⟩
 have hown:bB σ (H.put b (some x'))=bB σ H:=by funext c;simp[bB,S]
 have ext:fR w σ (bB σ H) w' σ (bB σ (H.put b (some x'))):=by rw[hown];exact Y.ext (.inr ⟨b,x,O,hg,hs,rfl⟩) (λ_ _ h=>h) rfl (λhf=>(h.apart _ hf).2 ⟨b,x,O,hg,hs,rfl⟩) (λ_ h=>h)
 refine⟨⟨h.named,λc q hc=>by rw[Y.size];exact h.lt c q hc,?_,λc hc=>by rw[Y.size,S];exact h.apart c hc,?_,h.glob.mono ext⟩,ext⟩
 .intro c y M;rw[af.get_put]at M;by_cases B:b=c
  .subst B;rw[if_pos rfl]at M;cases M;exact⟨O,cs',e,hs,.of (h.ok_of hg hs Y.old) ⟨hx.symm,Y.new,even,by rw[Y.len];exact room,λi r j a u D G Z=>(rep i r j a u D G Z).mono ext⟩⟩
  .rw[if_neg B]at M;obtain⟨q,ds,e',D,G⟩:=h.live c y M;exact⟨q,ds,e',D,G.mono ext (Y.rest _ λhe=>B (h.inj b c x y O q hg M hs D he.symm))⟩
 .intro c c' y y' q q' D G;have aux:∀c y,(H.put b (some x')).get c=some y->∃z,H.get c=some z:=λc y M=>by
   rw[af.get_put]at M;by_cases B:b=c
   .subst B;exact⟨x,hg⟩
   .rw[if_neg B]at M;exact⟨y,M⟩
  obtain⟨z,hz⟩:=aux c y D;obtain⟨z',hz'⟩:=aux c' y' G;exact h.inj c c' z z' q q' hz hz'
def bQ.over{w w':World}{σ:bR}{H:af}(h:bQ w σ H){b D:Nat}{x x':Blk}{B:cR}{cs cs':Array Value}{e:TypeId}{k:Nat}(hg:H.get b=some x)(Z:σ b=some B)
  (hb:σ D=none) (hlt:D<H.next) (hw:mi w w' B.block cs cs' e) (hx:x'.size=B.size)
  (even:∀(i:Nat) (r:List AV),x'.rows[i]? =some r->r.length=x'.size) (room:B.base+k*B.size+x'.rows.length*x'.size<=cs.size)
  (rep:∀(i:Nat) (r:List AV) (j:Nat) (a:AV) (u:Value),x'.rows[i]? =some r->r[j]? =some a->cs'[B.base+k*B.size+i*x'.size+j]? =some u->bN w σ (bB σ H) a u) :
  bQ w' (σ.set D ⟨B.block,B.base+k*B.size,B.size⟩) ((H.put b none).new D x')/\
  fR w σ (bB σ H) w' (σ.set D ⟨B.block,B.base+k*B.size,B.size⟩) (bB (σ.set D ⟨B.block,B.base+k*B.size,B.size⟩) ((H.put b none).new D x')):=by
 have hne:D≠b:=by rintro rfl;rw[hb]at Z;cases Z
 have E:∀c y,((H.put b none).new D x').get c=some y->(c=D/\y=x')\/(c≠D/\c≠b/\H.get c=some y):=λc y Y=>by
  rw[af.get_new]at Y;by_cases M:D=c
  .rw[if_pos M]at Y;cases Y;exact .inl ⟨M.symm,rfl⟩
  .rw[if_neg M,af.get_put]at Y;by_cases G:b=c
   .rw[if_pos G]at Y;cases Y
   .rw[if_neg G]at Y;exact .inr ⟨λe=>M e.symm,λe=>G e.symm,Y⟩
 have htok:∀d,Ci (σ.set D ⟨B.block,B.base+k*B.size,B.size⟩) ((H.put b none).new D x') d->Ci σ H d:=by
  rintro d ⟨c,y,q,M,G,S⟩;rcases E c y M with⟨rfl,rfl⟩|⟨h4,_,h5⟩
  .rw[bR.set_eq]at G;cases G;exact⟨b,x,B,hg,Z,S⟩
  .rw[bR.set_ne _ _ (λe=>h4 e.symm)]at G;exact⟨c,y,q,h5,G,S⟩
 have ext:fR w σ (bB σ H) w' (σ.set D ⟨B.block,B.base+k*B.size,B.size⟩) (bB (σ.set D ⟨B.block,B.base+k*B.size,B.size⟩) ((H.put b none).new D x')):=by
  refine hw.ext (.inr ⟨b,x,B,hg,Z,rfl⟩) (λc q hq=>bR.set_old hb hq) rfl (λhf=>(h.apart _ hf).2 ⟨b,x,B,hg,Z,rfl⟩) ?_;rintro d (hfr|hd)
  .exact .inl hfr
  .exact .inr (htok d hd)
 refine⟨⟨?_,?_,?_,λc hc=>⟨by rw[hw.size];exact(h.apart c hc).1,λht=>(h.apart c hc).2 (htok c ht)⟩,?_,h.glob.mono ext⟩,ext⟩
 .intro c q hc;by_cases O:D=c
  .subst O;exact hlt
  .rw[bR.set_ne _ _ O]at hc;exact h.named c q hc
 .intro c q hc;rw[hw.size];by_cases O:D=c
  .subst O;rw[bR.set_eq]at hc;cases hc;exact h.lt b B Z
  .rw[bR.set_ne _ _ O]at hc;exact h.lt c q hc
 .intro c y Y;rcases E c y Y with⟨rfl,rfl⟩|⟨h4,h6,h5⟩
  .exact⟨_,cs',e,bR.set_eq _ _ _,.of (cR.ok_over (h.ok_of hg Z hw.old) _ _) ⟨hx.symm,hw.new,even,by rw[hw.len];exact room,λi r j a u M G S=>(rep i r j a u M G S).mono ext⟩⟩
  .obtain⟨q,ds,e',M,G⟩:=h.live c y h5;exact⟨q,ds,e',by rw[bR.set_ne _ _ (λe=>h4 e.symm)];exact M,G.mono ext (hw.rest _ λhe=>h6 (h.inj c b y x q B h5 hg M Z he))⟩
 .intro c c' y y' q q' M G S h4 h5;rcases E c y M with⟨rfl,rfl⟩|⟨a1,a2,a3⟩
  .rcases E c' y' G with⟨rfl,rfl⟩|⟨b1,b2,b3⟩
   .rfl
   .rw[bR.set_eq]at S;cases S;rw[bR.set_ne _ _ (λe=>b1 e.symm)]at h4;exact absurd (h.inj b c' x y' B q' hg b3 Z h4 h5) (λe=>b2 e.symm)
  .rcases E c' y' G with⟨rfl,rfl⟩|⟨b1,b2,b3⟩
   .rw[bR.set_eq]at h4;cases h4;rw[bR.set_ne _ _ (λe=>a1 e.symm)]at S;exact absurd (h.inj c b y x q B a3 hg S Z h5) a2
   .rw[bR.set_ne _ _ (λe=>a1 e.symm)]at S;rw[bR.set_ne _ _ (λe=>b1 e.symm)]at h4;exact h.inj c c' y y' q q' a3 b3 S h4 h5
section
section
variable {P:Program} {w:World} {σ:bR} {T:Nat->Prop}
theorem ug{t:TypeId}{i:TypeInfo}(h:P.info? t=some i)(w:World):(typeInfo t).run P w=.ok i w:=by simp[typeInfo,h]
theorem dt{t:TypeId}{n:Nat}(h:bj P t=some n)(w:World):(sizeOf t).run P w=.ok n w:=by
 unfold bj at h;cases j:P.info? t with
 |none=>rw[j]at h;cases h
 |some i=>rw[j]at h;cases h;simp[sizeOf,ug j]
theorem mj{t:TypeId}{r:Bool}(h:ff P t=some r)(w:World):(isAgg t).run P w=.ok r w:=by
 unfold ff at h;cases j:P.underlying t with
 |none=>rw[j]at h;cases h
 |some d=>rw[j]at h;simp only[Xl,W3]at h;subst h;simp only[isAgg,Xo,run_underlying j,W4];cases d<;>rfl
theorem bN.cells{a:AV}{v:Value}{cs:List AV}(h:bN w σ T a v)(j:a.cells? =some cs):fP w σ T cs v.cells.toList:=by
 have one:∀{a v},bN w σ T a v->(v.cells=#[v])->fP w σ T [a] v.cells.toList:=λ{a v} h e=>by
  rw[e];refine⟨rfl,λi E D u B=>?_⟩
  match i with
  |0=>cases u;cases B;exact h
  |i+1=>simp at u
 cases h<;>simp only[AV.cells?,W3,reduceCtorEq]at j<;>subst j
 case agg vs hl h=>exact⟨by simpa[Value.cells]using hl,by simpa[Value.cells]using h⟩
 all_goals exact one (by constructor<;>assumption) rfl
theorem bN.one{a:AV}{v:Value}(h:bN w σ T a v)(j:a.one=true):v.oneCell'=true:=by cases h<;>first|rfl|(simp[AV.one]at j)
theorem fP.one{cs:List AV}{vs:List Value}(h:fP w σ T cs vs)(u:cs.all AV.one=true):∀v∈vs,v.oneCell'=true:=by
 intro v D;obtain⟨i,B,rfl⟩:=XJ D;have j:i<cs.length:=by rw[h.1];exact B
 exact(h.2 i cs[i] vs[i] (mt j) (mt B)).one (by rw[W2]at u;exact u _ (WN j))
def FX(w:World)(σ:bR)(T:Nat->Prop)(row:List AV)(b start:Nat):Prop:=
 ∀(j:Nat) (a:AV),row[j]? =some a->∃u,w.cell? ⟨b,start+j,none⟩=some u/\bN w σ T a u
theorem fT(b o n:Nat):(⟨b,o,none⟩:Addr).add n=⟨b,o+n,none⟩:=by unfold Addr.add;split<;>simp_all
theorem Mo{row:List AV}{b B:Nat}(h:FX w σ T row b B)(n D:Nat)(hn:D+n<=row.length):
  ∃vs:List Value,vs.length=n/\(loadCells ⟨b,B+D,none⟩ n).run P w=.ok vs.toArray w/\fP w σ T ((row.drop D).take n) vs:=by
 have G:∀j,∃u,j<n->∃a,row[D+j]? =some a/\w.cell? ⟨b,B+D+j,none⟩=some u/\bN w σ T a u:=λj=>by
  by_cases S:j<n
  .obtain⟨u,O,E⟩:=h (D+j) row[D+j] (mt YC);exact⟨u,λ_=>⟨_,mt YC,by rw[XG];exact O,E⟩⟩
  .exact⟨undef,λh=>absurd h S⟩
 let f:=λj=>Classical.choose (G j)
 have Z:∀j,j<n->∃a,row[D+j]? =some a/\w.cell? ⟨b,B+D+j,none⟩=some (f j)/\bN w σ T a (f j):=λj=>Classical.choose_spec (G j)
 refine⟨(List.range n).map f,YF,run_loadCells w _ n f (λj S=>by rw[fT];obtain⟨a,_,E,_⟩:=Z j S;exact E),YH,?_⟩;intro i a v O E;rw[W6]at E;have Y:i<n:=by
  rcases Fn i n with M|M
  .exact M
  .rw[ST (by simpa using M)]at E;cases E
 rw[Yz Y]at E;cases E;obtain⟨a',M,_,h5⟩:=Z i Y;rw[Xt Y,XE,M]at O;cases O;exact h5
theorem rY{t:TypeId}{row:List AV}{b j B:Nat}{v:AV}(h:FX w σ T row b j)(D:i6 P t row B=some v):
  ∃v',(loadVar t ⟨b,j+B,none⟩).run P w=.ok v' w/\bN w σ T v v':=by
 unfold i6 at D;split at D
 .rename_i n G O;split at D
  .rename_i Y;cases D;obtain⟨S,_,E,M⟩:=Mo (P:=P) h n B Y;exact⟨.agg S.toArray,by simp only[loadVar,Xo,mj G,W4,Sem.run_ite,if_true,dt O,E,Xz],.agg _ _ M.1 M.2⟩
  .cases D
 .rename_i n G O;obtain⟨u,Z,E⟩:=h B v D;exact⟨u,by simp[loadVar,mj G,Z],E⟩
 .cases D
theorem rZ{t:TypeId}{row:List AV}{vs:List Value}{j:Nat}{v:AV}(h:fP w σ T row vs)(u:i6 P t row j=some v):
  ∃v',(part t vs.toArray j).run P w=.ok v' w/\bN w σ T v v':=by
 unfold i6 at u;split at u
 .rename_i n G O;split at u
  .rename_i Z;cases u;refine⟨.agg (vs.toArray.extract j (j+n)),by simp only[part,Xo,mj G,W4,Sem.run_ite,if_true,dt O,Xz],?_⟩;have e:vs.toArray.extract j (j+n)=((vs.drop j).take n).toArray:=by simp
   rw[e];refine .agg _ _ (by simp[h.1]) λi a v E M=>?_
   have Y:i<n:=by
    rcases Fn i n with B|B
    .exact B
    .rw[ST YH]at E;cases E
   rw[Xt Y,XE]at E M;exact h.2 _ a v E M
  .cases u
 .rename_i n G O;have S:j<row.length:=by
   rcases Fn j row.length with B|B
   .exact B
   .rw[ST B]at u;cases u
  have D:j<vs.length:=by rw[<-h.1];exact S
  exact⟨vs[j],by simp[part,mj G,D],h.2 j v _ u (mt D)⟩
 .cases u
theorem vU.row{x:Blk}{B:cR}{cs:Array Value}{e:TypeId}(h:vU w σ T x B cs e){i:Nat}{r:List AV}(D:x.rows[i]? =some r):
  FX w σ T r B.block (B.base+i*B.size):=by
 intro j a E;have M:i<x.rows.length:=by
  rcases Fn i x.rows.length with u|u
  .exact u
  .rw[ST u]at D;cases D
 have O:j<x.size:=by
  rw[<-h.even i r D];rcases Fn j r.length with u|u
  .exact u
  .rw[ST u]at E;cases E
 have G:B.base+i*x.size+j<cs.size:=by have:=h.room;have:(i+1)*x.size<=x.rows.length*x.size:=Xa _ M;rw[XD]at this;omega
 refine⟨cs[B.base+i*x.size+j],?_,h.rep i r j a _ D E (Xj G)⟩;rw[h.size];simp[World.cell?,h.block,G]
theorem s6.row{rows:List (List AV)}{b o sz:Nat}(M:s6 w T rows b o sz)
  (h:∀(i:Nat) (r:List AV) (j:Nat) (a:AV) (u:Value),rows[i]? =some r->r[j]? =some a->w.cell? ⟨b,o+i*sz+j,none⟩=some u->bN w σ T a u)
  {i:Nat} {r:List AV} (D:rows[i]? =some r):FX w σ T r b (o+i*sz):=by
 intro j a E;have S:i<rows.length:=by
  rcases Fn i rows.length with B|B
  .exact B
  .rw[ST B]at D;cases D
 have O:j<sz:=by
  rw[<-M.even i r D];rcases Fn j r.length with B|B
  .exact B
  .rw[ST B]at E;cases E
 obtain⟨u,G⟩:=M.cell i j S O;exact⟨u,G,h i r j a u D E G⟩
theorem zO{H:af}(hW:bQ w σ H){t:TypeId}{a v:AV}{a':Value}(Y:bN w σ (bB σ H) a a')(j:oz P H t a=some v):
  ∃v',(Instr.loadAt t a').run P w=.ok v' w/\bN w σ (bB σ H) v v':=by
 unfold oz at j;split at j
 .rename_i b i D;cases Y;rename_i pl hp hs;cases E:H.get b with
  |none=>rw[E]at j;cases j
  |some x=>
   rw[E]at j;simp only[XB]at j;cases u:x.rows[i]? with
   |none=>rw[u]at j;cases j
   |some r=>rw[u]at j;simp only[XB]at j;obtain⟨pl',cs,e,Z,S⟩:=hW.live b x E;rw[hs]at Z;cases Z;replace S:=S.1 hp;obtain⟨v',O,M⟩:=rY (P:=P) (S.row u) j;exact⟨v',by simpa[Instr.loadAt,Instr.sureAddr]using O,M⟩
 .rename_i B i D;cases Y;rename_i b o sz G h;cases u:B[i]? with
  |none=>rw[u]at j;cases j
  |some r=>rw[u]at j;simp only[XB]at j;obtain⟨v',O,M⟩:=rY (P:=P) (G.row h u) j;exact⟨v',by simpa[Instr.loadAt,Instr.sureAddr]using O,M⟩
 .cases j
end
end
section
section
variable {P:Program} {w:World} {σ:bR} {T:Nat->Prop}
theorem JO{v:Value}{a:AV}(h:T8 v=some a):bN w σ T a v:=by unfold T8 at h;split at h<;>first|(cases h;constructor)|cases h
theorem uh{α:Type}:∀(l:List (Option α)) (m:List α),ee l=some m->l.length=m.length/\∀(i:Nat) (x:α),m[i]? =some x->l[i]? =some (some x)
 |[],m,h=>by cases h;exact⟨rfl,λi x h=>by simp at h⟩
 |none::_,m,h=>by cases h
 | some x::l,m,h=>by
  unfold ee at h;split at h
  .rename_i u B;cases h;obtain⟨D,h2⟩:=uh l u B;refine⟨by simp[D],λi y j=>?_⟩
   match i with
   |0=>simpa using j
   |i+1=>simp only[X5]at j ⊢;exact h2 i y j
  .cases h
theorem FY{v:Value}{a:AV}(h:KP v=some a):bN w σ T a v:=by
 unfold KP at h;split at h
 .rename_i u;cases j:ee (u.toList.map T8)with
  |none=>rw[j]at h;cases h
  |some l=>
   rw[j]at h;cases h;obtain⟨G,E⟩:=uh _ _ j;have:bN w σ T (.agg l) (.agg u.toList.toArray):=.agg l u.toList (by simpa using G.symm) λi a v D B=>by have:=E i a D;rw[W6,B]at this;simp only[Xl,W3]at this;exact JO this
   simpa using this
 .exact JO h
theorem fU{t:TypeId}{z:AV}(h:fa P t=some z):∃j,(zeroValue t).run P w=.ok j w/\bN w σ T z j:=by
 unfold fa at h;cases B:P.info? t with
 |none=>rw[B]at h;cases h
 |some i=>
  rw[B]at h;simp only[XB]at h;cases u:i.zero with
  |none=>rw[u]at h;cases h
  |some j=>rw[u]at h;exact⟨j,by simp[zeroValue,ug B,u],FY h⟩
theorem yp{s:TypeId}{x v:AV}{x':Value}{f:Nat}(S:bN w σ T x x')(h:j6 P s x f=some v):
  ∃v',(Instr.fieldAt s x' f).run P w=.ok v' w/\bN w σ T v v':=by
 unfold j6 at h;split at h
 .rename_i fs M;cases D:fs[f]? with
  |none=>rw[D]at h;cases h
  |some G=>
   rw[D]at h;simp only[XB]at h;cases B:bj P G.type with
   |none=>rw[B]at h;cases h
   |some n=>
    rw[B]at h;simp only[XB]at h;by_cases E:n=0
    .rw[if_pos E]at h;cases h
    .rw[if_neg E]at h;cases S<;>simp only[W3,reduceCtorEq]at h<;>subst h
     .rename_i b i j O Y hp;refine⟨_,by simp only[Instr.fieldAt,Xo,run_underlying M,W4,D,Instr.sureAddr,Xz,fieldPlace,dt B,Sem.run_ite,if_neg E,fT];rfl,?_⟩;have:=bN.ptr (w:=w) (T:=T) b i (j+G.offset) O Y hp
      rwa [<-Nat.add_assoc]at this
     .rename_i u i j b o sz Z h;refine⟨_,by simp only[Instr.fieldAt,Xo,run_underlying M,W4,D,Instr.sureAddr,Xz,fieldPlace,dt B,Sem.run_ite,if_neg E,fT];rfl,?_⟩;have:=bN.pptr u i (j+G.offset) b o sz Z h
      rwa [<-Nat.add_assoc]at this
 .cases h
theorem FZ{s:TypeId}{x v:AV}{x':Value}{f:Nat}(u:bN w σ T x x')(h:Ef P s x f=some v):
  ∃v',(Instr.field s x' f).run P w=.ok v' w/\bN w σ T v v':=by
 unfold Ef at h;split at h
 .rename_i O Z B;cases u;rename_i S E D;cases j:O[f]? with
  |none=>rw[j]at h;cases h
  |some Y=>rw[j]at h;simp only[XB]at h;obtain⟨v',M,G⟩:=rZ (P:=P) (w:=w) (σ:=σ) (T:=T) ⟨E,D⟩ h;exact⟨v',by simp[Instr.field,run_underlying B,j,asAgg,M],G⟩
 .cases h
theorem bN.sl_inv{b i n:Nat}{v:Value}(h:bN w σ T (.sl b i n) v):∃u a j,v=.slice (some a) n j/\σ b=some u/\n<=j/\j<=maxLen/\
  (0<j->a=⟨u.block,u.base+i*u.size,none⟩/\∃cs e,w.heap[u.block]? =some (.cells cs e (0,0))/\u.base+(i+j)*u.size<=cs.size):=by
 cases h with
 |sl _ _ _ u a j h hp B D E=>exact⟨u,a,j,rfl,h,B,D,E⟩
theorem bN.sl_ok{b i n:Nat}{v:Value}(h:bN w σ T (.sl b i n) v){j:cR}(B:σ b=some j):j.ok:=by
 cases h with
 |sl _ _ _ u a D h hp E G M=>rw[B]at h;cases h;exact hp
theorem bN.lst_inv{rows:List (List AV)}{v:Value}(h:bN w σ T (.lst rows) v):∃A B,v=.slice A rows.length B/\rows.length<=B/\B<=maxLen/\
  (rows≠[]->∃b o sz,A=some ⟨b,o,none⟩/\s6 w T rows b o sz/\
   ∀(i:Nat) (r:List AV) (j:Nat) (a:AV) (u:Value),rows[i]? =some r->r[j]? =some a->w.cell? ⟨b,o+i*sz+j,none⟩=some u->bN w σ T a u):=by
 cases h with
 |lst0 a B D=>exact⟨a,B,rfl,Xq _,D,λh=>absurd rfl h⟩
 |lst _ b o sz B G E D h=>exact⟨_,B,rfl,E,D,λ_=>⟨b,o,sz,rfl,G,h⟩⟩
theorem aF{α:Type}{l:List α}{i:Nat}{x:α}(h:l[i]? =some x):i<l.length:=by
 rcases Fn i l.length with j|j
 .exact j
 .rw[ST j]at h;cases h
theorem yq{H:af}(hW:bQ w σ H){t:TypeId}{x ix v:AV}{x' S:Value}(Y:bN w σ (bB σ H) x x')(hi:bN w σ (bB σ H) ix S)(h:fg P (nB H x) t x ix=some v):
  ∃v',(Instr.indexAt t x' S).run P w=.ok v' w/\bN w σ (bB σ H) v v':=by
 unfold fg at h;split at h
 .rename_i k i;cases hi;by_cases h0:i<0
  .rw[if_pos h0]at h;cases h
  .rw[if_neg h0]at h;split at h
   .rename_i e b j n O;split at h
    .rename_i D;obtain⟨D,hso,E⟩:=D;cases h;cases hy:H.get b with
     |none=>simp[nB,hy]at hso
     |some y=>
     simp only[nB,hy,Xl]at E;obtain⟨pl,a,cap,rfl,Z,G,hm,ha⟩:=Y.sl_inv;obtain⟨rfl,cs,ty,hc,hr⟩:=ha YC;have u:0<=i/\i<(n:Int):=by omega
     obtain⟨pl',cs',e',h1,h2⟩:=hW.live b y hy;rw[Z]at h1;cases h1;have hp:=Y.sl_ok Z;replace h2:=h2.1 hp;refine⟨_,by simp only[Instr.indexAt,asIntOf,Xo,Xz,W4,run_underlying O,Sem.run_ite,if_pos u,dt E,fT];rfl,?_⟩;have:=bN.ptr (w:=w) (T:=bB σ H) b (j+i.toNat) 0 pl Z hp;rw[<-h2.size];simpa[XD,XG]using this
    .cases h
   .rename_i e B O;split at h
    .rename_i r hr;split at h
     .rename_i E;cases h;have D:=aF hr;have u:0<=i/\i<(B.length:Int):=by omega
      obtain⟨A,cap,rfl,G,hm,ha⟩:=Y.lst_inv;obtain⟨b,o,sz,rfl,hl,h⟩:=ha (by rintro rfl;simp at hr);have hrs:=hl.even _ _ hr;subst hrs;refine⟨_,by simp only[Instr.indexAt,asIntOf,Xo,Xz,W4,run_underlying O,Sem.run_ite,if_pos u,dt E,fT];rfl,?_⟩;exact bN.pptr B i.toNat 0 b o _ hl h
     .cases h
    .cases h
   .rename_i len e b j M O;split at h
    .rename_i D;cases G:bj P e with
     |none=>rw[G]at h;cases h
     |some n=>
      rw[G]at h;cases h;cases Y;rename_i pl hp Z;have u:0<=i/\i<(len:Int):=by omega
      refine⟨_,by simp only[Instr.indexAt,asIntOf,Xo,Xz,W4,run_underlying O,Instr.sureAddr,Sem.run_ite,if_pos u,dt G,fT];rfl,?_⟩;have:=bN.ptr (w:=w) (T:=bB σ H) b j (M+i.toNat*n) pl Z hp
      rwa [<-Nat.add_assoc]at this
    .cases h
   .rename_i len e B j M O;split at h
    .rename_i D;cases G:bj P e with
     |none=>rw[G]at h;cases h
     |some n=>
      rw[G]at h;cases h;cases Y;rename_i b o sz hl h;have u:0<=i/\i<(len:Int):=by omega
      refine⟨_,by simp only[Instr.indexAt,asIntOf,Xo,Xz,W4,run_underlying O,Instr.sureAddr,Sem.run_ite,if_pos u,dt G,fT];rfl,?_⟩;have:=bN.pptr B j (M+i.toNat*n) b o sz hl h
      rwa [<-Nat.add_assoc]at this
    .cases h
   .cases h
 .cases h
theorem F0{t:TypeId}{x Y v:AV}{x' B:Value}(Z:bN w σ T x x')(hi:bN w σ T Y B)(h:zN P t x Y=some v):
  ∃v',(Instr.index t x' B).run P w=.ok v' w/\bN w σ T v v':=by
 unfold zN at h;split at h
 .rename_i s k i M;cases hi;by_cases h0:i<0
  .rw[if_pos h0]at h;cases h
  .rw[if_neg h0]at h;cases Z;rename_i G;cases E:G.data.toList[i.toNat]? with
   |none=>rw[E]at h;cases h
   |some c=>
    rw[E]at h;cases h;have j:=aF E;have S:G[i.toNat]? =some c:=by
     have D:i.toNat<G.size:=by rw[Xe]at j;exact j
     rw[getElem?_pos G i.toNat D];rw[mt j]at E;rw[<-E];rfl
    have u:0<=i:=by omega
    have e:(if 0<=i then G[i.toNat]? else none)=some c:=by rw[if_pos u];exact S
    exact⟨.int .u8 c.toNat,by simp only[Instr.index,asIntOf,Xo,Xz,W4,run_underlying M,e],.int _ _⟩
 .rename_i len e cs k i M;split at h
  .rename_i j;cases O:bj P e with
   |none=>rw[O]at h;cases h
   |some n=>
    rw[O]at h;simp only[XB]at h;cases hi;cases Z;rename_i vs hl hr;obtain⟨v',S,h2⟩:=rZ (P:=P) (w:=w) (σ:=σ) (T:=T) ⟨hl,hr⟩ h;have u:0<=i/\i<(len:Int):=by omega
    refine⟨v',?_,h2⟩;simp only[Instr.index,asIntOf,Xo,Xz,W4,run_underlying M];rw[if_pos u];simp only[Xo,dt O,W4,S]
  .cases h
 .cases h
theorem pr{x:AV}{x':Value}{n:Nat}(j:bN w σ T x x')(h:mf x=some n):∃k i,x'=.int k i/\0<=i/\i.toNat=n:=by
 unfold mf at h;split at h
 .rename_i k i;split at h
  .rename_i u;cases h;cases j;exact⟨k,i,rfl,u,rfl⟩
  .cases h
 .cases h
end
end
section
structure Mp(P:Program)(t:TypeId)(ts:List TypeId):Prop where
 under:P.underlying t=some (.struct (P.fieldsOf t))
 stood:P.stoodInHeld t=false
 guard:P.eqGuardType P.depth t=false
 types:(P.fieldsOf t).toList.map (·.type)=ts
 fields : ∀ (i : Nat) (f : Field), (P.fieldsOf t).toList[i]? = some f → f.name ≠ "_" ∧ f.offset = i ∧ ff P f.type = some false
section
variable {P:Program} {w:World} {σ:bR} {T:Nat->Prop}
theorem bytes_beq(a b:ByteArray):(a.toList==b.toList)=(a.data.toList==b.data.toList):=by rw[ByteArray.toList_eq,ByteArray.toList_eq]
theorem vV{t:TypeId}{x y:AV}{x' B:Value}{r:Bool}{d:Nat}(u:bN w σ T x x')(j:bN w σ T y B)(h:sZ P t x y=some r):
  (Op.equalIn (d+1) t x' B).run P w=.ok r w:=by
 unfold sZ at h;split at h
 case h_1 hu=>
  split at h
  .rename_i D;subst D;cases h;cases u;cases j;exact run_equalIn_int w d t _ _ _ _ hu
  .cases h
 case h_2 hu=>cases h;cases u;cases j;exact run_equalIn_bool' w d t _ _ hu
 case h_3 hu=>cases h;cases u;cases j;rw[run_equalIn_string w d t _ _ hu,bytes_beq]
 case h_4 hu=>cases h;cases u;cases j;simp[Op.equalIn,run_underlying hu]
 case h_5 hu=>cases h;cases u;cases j;simp[Op.equalIn,run_underlying hu]
 case h_6 hu=>cases h;cases u;cases j;simp[Op.equalIn,run_underlying hu]
 case h_7 hu=>cases h;cases u;cases j;simp[Op.equalIn,run_underlying hu]
 case h_8 hu=>cases h;cases u;cases j;simp[Op.equalIn,run_underlying hu]
 case h_9 hu=>cases h;cases u;cases j;simp[Op.equalIn,run_underlying hu]
 case h_10 hu=>cases h;cases u;cases j;simp[Op.equalIn,run_underlying hu]
 case h_11 hu=>cases h;cases u;cases j;simp[Op.equalIn,run_underlying hu]
 case h_12 hu=>cases h;cases u;cases j;simp[Op.equalIn,run_underlying hu]
 case h_13 hu=>cases h;cases u;cases j;simp[Op.equalIn,run_underlying hu]
 case h_14=>cases h
theorem F1{t:TypeId}{cs:List AV}{vs:List Value}{i:Nat}{a:AV}(ht:ff P t=some false)(h:fP w σ T cs vs)(u:cs[i]? =some a):
  ∃v,(part t vs.toArray i).run P w=.ok v w/\bN w σ T a v:=by
 have B:=aF u;have j:i<vs.length:=by rw[<-h.1];exact B
 exact⟨vs[i],by simp[part,mj ht,j],h.2 i a _ u (mt j)⟩
theorem s7{d:Nat}{cs ds:List AV}{xs ys:List Value}(hc:fP w σ T cs xs)(hd:fP w σ T ds ys):∀(fs:List Field) (k:Nat) (r:Bool),
  (∀ (i : Nat) (f : Field), fs[i]? = some f → f.name ≠ "_" ∧ f.offset = k + i ∧ ff P f.type = some false) → s5 P (fs.map (·.type)) (cs.drop k) (ds.drop k) = some r→
  (Op.eqFields (d+1) xs.toArray ys.toArray fs).run P w=.ok r w
 | [],k,r,_,h=>by
  unfold s5 at h;split at h
  .cases h;rfl
  .simp_all
  .cases h
 | f::fs,k,r,hf,h=>by
  unfold s5 at h;split at h
  .rename_i e _ _;cases e
  .rename_i t ts a l b m e1 e2 e3;cases e1;obtain⟨h1,h2,h3⟩:=hf 0 f rfl;have ha:cs[k]? =some a:=by have:=congrArg (·[0]?) e2;simpa[XE]using this
   have hb:ds[k]? =some b:=by have:=congrArg (·[0]?) e3;simpa[XE]using this
   have hl:l=cs.drop (k+1):=by have:=congrArg List.tail e2;simpa[List.tail_drop]using this.symm
   have hm:m=ds.drop (k+1):=by have:=congrArg List.tail e3;simpa[List.tail_drop]using this.symm
   simp only[XQ]at h2;obtain⟨u,hu1,hu2⟩:=F1 (P:=P) h3 hc ha;obtain⟨v,hv1,hv2⟩:=F1 (P:=P) h3 hd hb;rw[<-h2]at hu1 hv1;simp only[Op.eqFields,if_pos h1,Xo,hu1,hv1,W4];split at h
   .rename_i he;rw[vV hu2 hv2 he];simp only[W4,Yx,W7,if_false];exact s7 hc hd fs (k+1) r (λi g hg=>by have:=hf (i+1) g (by simpa using hg);refine⟨this.1,by rw[this.2.1];omega,this.2.2⟩) (by rw[<-hl,<-hm];exact h)
   .rename_i he;rw[vV hu2 hv2 h];cases r with
    |true=>exact absurd h he
    |false=>rfl
  .cases h
theorem Cn{op:BinOp}{t:TypeId}{x y:Operand}{a b:Value}(h:∀xs,a≠.agg xs)(j:a≠.nilIface):(eqGuard op t x y a b).run P w=.ok () w:=by cases a<;>cases op<;>simp_all[eqGuard]
theorem xN:∀(a b:List UInt8),ud a b=Op.bytesLess a b
 |_,[]=>by cases ‹List UInt8›<;>rfl
 |[],_::_=>rfl
 |a::x,b::y=>by simp[ud,Op.bytesLess,xN x y]
theorem bN.ne_agg{a:AV}{v:Value}(h:bN w σ T a v)(u:∀cs,a≠.agg cs)(j:a≠.junk):(∀xs,v≠.agg xs)/\v≠.nilIface:=by cases h<;>first|(exact absurd rfl (u _))|(exact absurd rfl j)|(constructor<;>simp)
theorem Mq{op:UnOp}{x v:AV}{x':Value}(j:bN w σ T x x')(h:VV op x=some v):∃v',(Op.unary op x').run P w=.ok v' w/\bN w σ T v v':=by
 unfold VV at h;split at h
 .cases h;cases j;exact⟨_,rfl,.int _ _⟩
 .cases h;cases j;exact⟨_,rfl,.bool _⟩
 .cases h
theorem Iq{s d:TypeId}{x v:AV}{x':Value}(B:bN w σ T x x')(h:FU P s d x=some v):∃v',(convert s d x').run P w=.ok v' w/\bN w σ T v v':=by
 unfold FU at h;split at h
 .rename_i u j;cases h;cases B;exact⟨_,by simp[convert,run_underlying u,run_underlying j,Conv.intToInt],.int _ _⟩
 .rename_i u j;cases h;cases B;exact⟨_,by simp[convert,run_underlying u,run_underlying j],.str _⟩
 .cases h
end
end
section
section
variable {P:Program} {w:World} {σ:bR} {T:Nat->Prop}
theorem nE{op:BinOp}{t:TypeId}{k u:IntKind}{a b:Int}{v:AV}(F:TypeId->Option (List TypeId))(h:iO P F op t (.int k a) (.int u b)=some v):
  ∃v',(binOp op t (.int k a) (.int u b)).run P w=.ok v' w/\bN w σ T v v':=by
 by_cases B:k=u
 .subst B;cases op<;>simp only[iO,ne_eq,not_true_eq_false,if_false,reduceCtorEq,W3]at h
  case shl=>
   split at h
   .rename_i j;cases h;exact⟨_,by simp only[binOp,Op.shift];rw[if_neg YC];rfl,.int _ _⟩
   .cases h
  case shr=>
   split at h
   .rename_i j;cases h;exact⟨_,by simp only[binOp,Op.shift];rw[if_neg YC];rfl,.int _ _⟩
   .cases h
  case quo=>
   split at h
   .cases h
   .rename_i j;cases h;exact⟨_,by simp only[binOp,Op.intDiv,ne_eq,not_true_eq_false,if_false];rw[if_neg j];rfl,.int _ _⟩
  case rem=>
   split at h
   .cases h
   .rename_i j;cases h;exact⟨_,by simp only[binOp,Op.intDiv,ne_eq,not_true_eq_false,if_false];rw[if_neg j];rfl,.int _ _⟩
  all_goals (subst h;refine⟨_,by simp only[binOp,ne_eq,not_true_eq_false,if_false];rfl,?_⟩;constructor)
 .cases op<;>simp only[iO,ne_eq,B,not_false_eq_true,if_true,reduceCtorEq]at h
  case shl=>
   split at h
   .rename_i j;cases h;exact⟨_,by simp only[binOp,Op.shift];rw[if_neg YC];rfl,.int _ _⟩
   .cases h
  case shr=>
   split at h
   .rename_i j;cases h;exact⟨_,by simp only[binOp,Op.shift];rw[if_neg YC];rfl,.int _ _⟩
   .cases h
theorem JP{l:List UInt8}{s:ByteArray}(h:s.data.toList=l):bN w σ T (.str l) (.string s):=by subst h;exact .str s
theorem Eg{op:BinOp}{t:TypeId}{a b:ByteArray}{v:AV}(F:TypeId->Option (List TypeId))(h:iO P F op t (.str a.data.toList) (.str b.data.toList)=some v):
  ∃v',(binOp op t (.string a) (.string b)).run P w=.ok v' w/\bN w σ T v v':=by
 cases op<;>simp only[iO,reduceCtorEq,W3]at h
 case add=>
  split at h
  .rename_i u;cases h;have j:¬((a.size+b.size:Nat):Int) > IntKind.i64.max:=by
    have D:a.data.toList.length=a.size:=Xe;have B:b.data.toList.length=b.size:=Xe;rw[D,B]at u;have:(IntKind.i64.max:Int)=9223372036854775807:=by decide
    rw[this];omega
   exact⟨_,by simp only[binOp,Op.stringOp];rw[if_neg j];rfl,JP YF⟩
  .cases h
 case eql=>subst h;exact⟨_,rfl,by rw[bytes_beq];exact .bool _⟩
 case neq=>subst h;exact⟨_,rfl,by rw[bytes_beq];exact .bool _⟩
 case lss=>subst h;exact⟨_,rfl,by rw[xN,ByteArray.toList_eq,ByteArray.toList_eq];exact .bool _⟩
theorem Pk{t:TypeId}{x' j:Value}{r:Bool}(h:(Op.equalIn 10000 t x' j).run P w=.ok r w)
  (u:∀k n,x'≠.int k n) (B:∀s,x'≠.string s) (D:∀k n,x'≠.float k n) (E:∀k a b,x'≠.complex k a b) :
  (binOp .eql t x' j).run P w=.ok (.bool r) w/\(binOp .neq t x' j).run P w=.ok (.bool !r) w:=by
 constructor
 .cases x'<;>simp_all[binOp,Op.equal,Op.maxDepth]
 .cases x'<;>simp_all[binOp,Op.equal,Op.maxDepth]
theorem vW{t:TypeId}{x y:AV}{x':Value}{r:Bool}(h:sZ P t x y=some r)(j:bN w σ T x x')(B:∀k n,x≠.int k n)(h2:∀s,x≠.str s):
  (∀k n,x'≠.int k n)/\(∀s,x'≠.string s)/\(∀k n,x'≠.float k n)/\(∀k a b,x'≠.complex k a b)/\(∀cs,x≠.agg cs)/\x≠.junk:=by
 have u:x≠.junk/\∀cs,x≠.agg cs:=by
  constructor
  .rintro rfl;unfold sZ at h;split at h<;>simp_all
  .rintro cs rfl;unfold sZ at h;split at h<;>simp_all
 cases j<;>simp_all
theorem zq{t:TypeId}{x y:AV}{r:Bool}(h:sZ P t x y=some r)(j:y=.nilp\/y=.nils):(∀k n,x≠.int k n)/\(∀s,x≠.str s):=by
 rcases j with rfl|rfl
 .constructor
  .rintro k n rfl;unfold sZ at h;split at h<;>simp_all
  .rintro s rfl;unfold sZ at h;split at h<;>simp_all
 .constructor
  .rintro k n rfl;unfold sZ at h;split at h<;>simp_all
  .rintro s rfl;unfold sZ at h;split at h<;>simp_all
theorem KQ{F:TypeId->Option (List TypeId)}(hF:∀t ts,F t=some ts->Mp P t ts){op:BinOp}{t:TypeId}{ox oy:Operand}{x y v:AV}{x' D:Value}(B:bN w σ T x x')(M:bN w σ T y D)
  (h:iO P F op t x y=some v):∃v',(do eqGuard op t ox oy x' D;binOp op t x' D:Sem Value).run P w=.ok v' w/\bN w σ T v v':=by
 have j:(∀cs,x≠.agg cs)->x≠.junk->(∃v',(binOp op t x' D).run P w=.ok v' w/\bN w σ T v v')->∃v',(do eqGuard op t ox oy x' D;binOp op t x' D:Sem Value).run P w=.ok v' w/\bN w σ T v v':=by intro h1 h2 ⟨v',h3,h4⟩;obtain⟨h5,h6⟩:=B.ne_agg h1 h2;exact⟨v',by simp only[Xo,Cn h5 h6,W4,h3],h4⟩
 have eqs:∀r,sZ P t x y=some r->(∀k n,x'≠.int k n)->(∀s,x'≠.string s)->(∀k n,x'≠.float k n)->(∀k a b,x'≠.complex k a b)->
   (binOp .eql t x' D).run P w=.ok (.bool r) w/\(binOp .neq t x' D).run P w=.ok (.bool !r) w:=λr hr=>Pk (vV B M hr)
 have h0:=h;unfold iO at h;split at h
 case h_1=>cases B;cases M;exact j YF YF (nE F h0)
 case h_2=>cases B;cases M;exact j YF YF (nE F h0)
 case h_3=>cases B;cases M;exact j YF YF (nE F h0)
 case h_4=>cases B;cases M;exact j YF YF (Eg F h0)
 case h_5 a b=>
  cases hf:F t with
  |none=>rw[hf]at h;cases h
  |some ts=>
   rw[hf]at h;simp only[XB]at h;cases u:s5 P ts a b with
   |none=>rw[u]at h;cases h
   |some r=>
    rw[u]at h;cases h;cases B with
    |agg _ xs Z S=>
    cases M with
    |agg _ ys Y O=>
    have fl:=hF t ts hf;have:=s7 (P:=P) (w:=w) (σ:=σ) (T:=T) (d:=9998) ⟨Z,S⟩ ⟨Y,O⟩ (P.fieldsOf t).toList 0 r (λi f hi=>by have:=fl.fields i f hi;simpa using this) (by rw[fl.types];simpa using u);refine⟨.bool r,?_,.bool r⟩;simp only[Xo,run_eqGuard_agg w _ t ox oy _ _ fl.guard,W4,run_eql_struct];rw[run_equalIn_agg w 9999 t _ _ fl.under fl.stood,this];rfl
 case h_6 a b=>
  cases hf:F t with
  |none=>rw[hf]at h;cases h
  |some ts=>
   rw[hf]at h;simp only[XB]at h;cases u:s5 P ts a b with
   |none=>rw[u]at h;cases h
   |some r=>
    rw[u]at h;cases h;cases B with
    |agg _ xs Z S=>
    cases M with
    |agg _ ys Y O=>
    have fl:=hF t ts hf;have:=s7 (P:=P) (w:=w) (σ:=σ) (T:=T) (d:=9998) ⟨Z,S⟩ ⟨Y,O⟩ (P.fieldsOf t).toList 0 r (λi f hi=>by have:=fl.fields i f hi;simpa using this) (by rw[fl.types];simpa using u);refine⟨.bool !r,?_,.bool !r⟩;simp only[Xo,run_eqGuard_agg w _ t ox oy _ _ fl.guard,W4,run_neq_struct];rw[run_equalIn_agg w 9999 t _ _ fl.under fl.stood,this];rfl
 case h_17=>cases h
 all_goals
  cases u:sZ P t _ _ with
  |none=>rw[u]at h;cases h
  |some r=>
   rw[u]at h;cases h
   first
    |(obtain⟨p1,p2,p3,p4,G,E⟩:=vW u B (zq u (.inl rfl)).1 (zq u (.inl rfl)).2;obtain⟨e1,e2⟩:=eqs r u p1 p2 p3 p4;first|exact j G E ⟨_,e1,.bool _⟩|exact j G E ⟨_,e2,.bool _⟩)
    |(obtain⟨p1,p2,p3,p4,G,E⟩:=vW u B (zq u (.inr rfl)).1 (zq u (.inr rfl)).2;obtain⟨e1,e2⟩:=eqs r u p1 p2 p3 p4;first|exact j G E ⟨_,e1,.bool _⟩|exact j G E ⟨_,e2,.bool _⟩)
    |(obtain⟨p1,p2,p3,p4,G,E⟩:=vW u B YF YF;obtain⟨e1,e2⟩:=eqs r u p1 p2 p3 p4;first|exact j G E ⟨_,e1,.bool _⟩|exact j G E ⟨_,e2,.bool _⟩)
theorem ml{a:AV}{v:Value}{n y:Nat}{code:BoundsCode}(j:bN w σ T a v)(h:mf a=some n)(u:n<=y):(Instr.sliceBound v y code).run P w=.ok n w:=by
 obtain⟨k,i,rfl,B,rfl⟩:=pr j h;have:0<=i/\i<=(y:Int):=by omega
 simp only[Instr.sliceBound,asIntOf,Xo,Xz,W4,Sem.run_ite];rw[if_pos this]
def Ir(w:World)(σ:bR)(T:Nat->Prop)(x:Option AV)(x':Option Value):Prop:=
 match x,x' with
 |none,none=>True
 |some a,some v=>bN w σ T a v
 |_,_=>False
theorem jR{E G mx:Option AV}{j u mx':Option Value}{n c l h m:Nat}{isS:Bool}(B:Ir w σ T E j)(M:Ir w σ T G u)(S:Ir w σ T mx mx')(Y:G=none->mx=none)
  (D:cZ E 0=some l) (h2:cZ G n=some h) (h3:cZ mx n=some m) (hc:n<=c) (Z:l<=h) (b2:h<=m) (b3:m<=n) :
  ∃O,(Instr.sliceBounds isS n c j u mx').run P w=.ok (l,h,O) w/\h<=O/\O<=c/\(mx.isSome=true->O=m):=by
 match mx,mx',S with
 |none,none,_=>
  cases h3;refine⟨c,?_,YC,Fd _,YF⟩
  match G,u,M with
  |none,none,_=>
   cases h2
   match E,j,B with
   |none,none,_=>cases D;simp[Instr.sliceBounds]
   |some a,some v,hr=>simp[Instr.sliceBounds,ml (P:=P) hr D Z]
  |some a,some v,hr=>
   have e:=ml (P:=P) (code:=if isS=true then .sliceAcap else .sliceAlen) hr h2 (show h<=c by omega)
   match E,j,B with
   |none,none,_=>cases D;simp[Instr.sliceBounds,e]
   |some a,some v,hr=>simp[Instr.sliceBounds,e,ml (P:=P) hr D Z]
 |some a,some v,hr=>
  have e0:=ml (P:=P) (code:=if isS=true then .slice3Acap else .slice3Alen) hr h3 (show m<=c by omega);refine⟨m,?_,b2,YC,λ_=>rfl⟩
  match G,u,M with
  |none,none,_=>exact absurd (Y rfl) YF
  |some a,some v,hr=>
   have e:=ml (P:=P) (code:=.slice3B) hr h2 b2
   match E,j,B with
   |none,none,_=>cases D;simp[Instr.sliceBounds,e0,e]
   |some a,some v,hr=>simp[Instr.sliceBounds,e0,e,ml (P:=P) hr D Z]
theorem fV{t e:TypeId}{A:Option Addr}{n j l h m sz:Nat}{B D mx:Option Value}(E:P.underlying t=some (.slice e))(u:bj P e=some sz)
  (h4:(Instr.sliceBounds true n j B D mx).run P w=.ok (l,h,m) w) :
  (Instr.sliceAt t (.slice A n j) B D mx).run P w=.ok (.slice (if m=l then A else A.map (·.add (l*sz))) (h-l) (m-l)) w:=by
 simp only[Instr.sliceAt,Instr.slice,Xo,run_underlying E,W4,h4,dt u,Xz]
theorem F2{H:af}(hW:bQ w σ H){t:TypeId}{x v:AV}{lo hi mx:Option AV}{x':Value}{lo' hi' mx':Option Value}(hx:bN w σ (bB σ H) x x')
  (Z:Ir w σ (bB σ H) lo lo') (hhi:Ir w σ (bB σ H) hi hi') (Y:Ir w σ (bB σ H) mx mx') (hmh:hi=none->mx=none)
  (h:lT P (nB H x) t x lo hi mx=some v):∃v',(Instr.sliceAt t x' lo' hi' mx').run P w=.ok v' w/\bN w σ (bB σ H) v v':=by
 unfold lT at h;split at h
 .rename_i e n O D;split at h
  .rename_i l E m h1 h2 h3;split at h
   .rename_i hb;obtain⟨⟨b1,b2,b3⟩,hsome⟩:=hb;have hes:∃sz,bj P e=some sz:=Option.isSome_iff_exists.1 hsome;split at h
    .cases h;cases hx;cases D;obtain⟨G,S,h5,h6,h7⟩:=jR (P:=P) (isS:=true) Z hhi Y hmh h1 h2 h3 (Fd 0) b1 b2 b3;obtain rfl:G=0:=by omega
     obtain rfl:E=0:=by omega
     obtain rfl:l=0:=by omega
     obtain⟨sz,B⟩:∃sz,bj P e=some sz:=hes;exact⟨_,fV O B S,by simpa using bN.nils⟩
    .rename_i b i k;cases D;obtain⟨pl,a,cap,rfl,hs,hn,hm,ha⟩:=hx.sl_inv;obtain⟨G,S,h5,h6,h7⟩:=jR (P:=P) (isS:=true) Z hhi Y hmh h1 h2 h3 hn b1 b2 b3;cases hy:H.get b with
     |none=>simp[nB,hy]at h
     |some y=>
      simp only[nB,hy,Xl,Option.isSome_some,true_and]at h;split at h
      .rename_i B;cases h;obtain⟨pl',cs',e',g1,g2⟩:=hW.live b y hy;rw[hs]at g1;cases g1;have hp:=hx.sl_ok hs;replace g2:=g2.1 hp;by_cases M:G=l
       .refine⟨.slice (some a) (E-l) (G-l),by rw[fV O B S,if_pos M],?_⟩;exact .sl b (i+l) (E-l) pl a (G-l) hs hp YC YC YC
       .obtain⟨rfl,cs,ty,hc,hr⟩:=ha YC;refine⟨.slice (some ⟨pl.block,pl.base+i*pl.size+l*y.size,none⟩) (E-l) (G-l),by rw[fV O B S,if_neg M,Xl,fT],?_⟩;refine .sl b (i+l) (E-l) pl _ (G-l) hs hp YC YC λ_=>⟨?_,cs,ty,hc,?_⟩
        .rw[<-g2.size,XD,XG]
        .have:(i+l+(G-l))*pl.size<=(i+cap)*pl.size:=Xa _ YC;omega
      .cases h
    .rename_i rows;cases D;obtain⟨A,cap,rfl,hn,hm,ha⟩:=hx.lst_inv;obtain⟨G,S,h5,h6,h7⟩:=jR (P:=P) (isS:=true) Z hhi Y hmh h1 h2 h3 hn b1 b2 b3;split at h
     .rename_i M;cases h;obtain⟨sz,B⟩:∃sz,bj P e=some sz:=hes;have e1:=h7 M.1;refine⟨.slice A (E-l) (G-l),by rw[fV O B S,if_pos YC],?_⟩;rw[show E-l=0 by omega,show G-l=0 by omega];exact .emp _
     split at h
     .cases h;obtain⟨sz,B⟩:∃sz,bj P e=some sz:=hes;obtain rfl:E=0:=by simp at b3;omega
      obtain rfl:l=0:=by omega
      exact⟨_,fV O B S,.lst0 _ _ YC⟩
     .rename_i r rs;split at h
      .rename_i B;cases h;obtain⟨b,o,sz,rfl,hl,hrep⟩:=ha YF;obtain rfl:r.length=sz:=hl.even 0 r rfl;by_cases M:G=l
       .have:E-l=0:=by omega
        rw[this,List.take_zero];exact⟨.slice (some ⟨b,o,none⟩) (E-l) (G-l),by rw[fV O B S,if_pos M],by rw[this];exact .lst0 _ _ YC⟩
       .refine⟨.slice (some ⟨b,o+l*r.length,none⟩) (E-l) (G-l),by rw[fV O B S,if_neg M,Xl,fT],?_⟩;by_cases hz:E-l=0
        .rw[hz,List.take_zero];exact .lst0 _ _ YC
        .have D:(((r::rs).drop l).take (E-l)).length=E-l:=by simp at b3 ⊢;omega
         have get:∀(i:Nat) (q:List AV),(((r::rs).drop l).take (E-l))[i]? =some q->i<E-l/\(r::rs)[l+i]? =some q:=λi q hq=>by have hi:=aF hq;rw[D]at hi;rw[Xt hi,XE]at hq;exact⟨hi,hq⟩
         have:=bN.lst (w:=w) (σ:=σ) (T:=bB σ H) (((r::rs).drop l).take (E-l)) b (o+l*r.length) r.length (G-l)
          ⟨hl.out,λi q hq=>hl.even _ q (get i q hq).2,λi j hi hj=>by
           rw[D]at hi;have:=hl.cell (l+i) j (by simp at b3 ⊢;omega) hj
           rwa [XD,<-Nat.add_assoc]at this,hl.pos,YC⟩ YC YC
          (λi q j a u hq hj O=>hrep (l+i) q j a u (get i q hq).2 hj (by rw[XD,<-Nat.add_assoc];exact O))
         rwa [D]at this
      .cases h
    .cases h
   .cases h
  .cases h
 .rename_i O;split at h
  .split at h
   .rename_i l E h1 h2;split at h
    .rename_i hb;obtain⟨b1,b2⟩:=hb;cases h;cases hx with
     |str ba=>
     have hln:ba.data.toList.length=ba.size:=Xe;have hmx2:mx'=none:=by
      match mx',Y with
      |none,_=>rfl
     subst hmx2;obtain⟨G,S,h5,h6,h7⟩:=jR (P:=P) (isS:=false) (n:=ba.size) (c:=ba.size) (m:=ba.size) (mx:=none) (mx':=none) Z hhi trivial (λ_=>rfl) h1 (by rw[<-hln];exact h2) rfl (Fd _) b1 YC (Fd _);refine⟨.string (ba.extract l E),by simp only[Instr.sliceAt,Instr.slice,Xo,run_underlying O,W4,S,Xz,Option.isSome_none,W7,if_false],JP ?_⟩;rw[Lib.extract_data]
    .cases h
   .cases h
  .cases h
 .cases h
end
end
section
section
variable {P:Program} {w:World} {σ:bR} {T:Nat->Prop}
theorem vX:∀(vs:List Value) (k j:Nat) (cs:Array Value),j+k+vs.length<=cs.size->
  ((vs.zipIdx k).foldl (λ(cs:Array Value) (p:Value×Nat)=>cs.setIfInBounds (j+p.2) p.1) cs).toList=cs.toList.take (j+k)++vs++cs.toList.drop (j+k+vs.length)
 |[],k,j,cs,_=>by simp
 | v::vs,k,j,cs,h=>by simp only[WO]at h;rw[List.zipIdx_cons,XL,vX vs (k+1) j _ YH];have e:=list_seg_step cs.toList (j+k) v vs YH;simpa[Array.toList_setIfInBounds,XG]using e
theorem fP.splice{cells cs:List AV}{vs us:List Value}{j:Nat}(h:fP w σ T cells vs)(k:fP w σ T cs us)(M:j+cs.length<=cells.length):
  fP w σ T (bL cells j cs) (vs.take j++us++vs.drop (j+us.length)):=by
 refine⟨by simp[bL,h.1,k.1],λi a v B u=>?_⟩;unfold bL at B;have O:=h.1;have G:=k.1;rcases Fn i j with D|D
 .rw[WU,WW YH,Xt D]at B u;exact h.2 i a v B u
 .rcases Fn i (j+cs.length)with E|E
  .rw[WW YH,WQ YH]at B u;simp only[Xb]at B u;rw[XF YC]at B u;exact k.2 _ a v B u
  .rw[WQ YH]at B u;simp only[LT,Xb,XE]at B u;rw[XF YC]at B u;rw[<-G]at u;exact h.2 _ a v B u
theorem s8{place:Nat->Option (Nat×Nat)}{ρ:Operand->AV}{u:Operand->Value}(G:∀x,bN w σ T (ρ x) (u x)):∀(ps:List (Nat×Operand)) (cells r:List AV) (j:Array Value),
  fP w σ T cells j.toList->t8 place cells (ps.map λp=>(p.1,ρ p.2))=some r->∃M,Instr.fill place j (ps.map λp=>(p.1,u p.2))=some M/\fP w σ T r M.toList
 |[],cells,r,j,hc,h=>by cases h;exact⟨j,rfl,hc⟩
 | (i,x)::ps,cells,r,j,hc,h=>by
  simp only[WS,t8]at h;split at h
  .rename_i B size cs hp S;split at h
   .rename_i hl;obtain⟨O,Z,_⟩:=hl;have Y:=(G x).cells S;have e1:(u x).cells.size=size:=by rw[<-Array.length_toList,<-Y.1,O]
    have e2:j.size=cells.length:=by rw[<-Array.length_toList,<-hc.1]
    have D:((u x).cells.zipIdx.foldl (λ(cs:Array Value) (p:Value×Nat)=>cs.setIfInBounds (B+p.2) p.1) j).toList=j.toList.take B++(u x).cells.toList++j.toList.drop (B+(u x).cells.toList.length):=by have:=vX (u x).cells.toList 0 B j YH;rw[<-Array.foldl_toList,Array.toList_zipIdx];simpa using this
    obtain⟨M,h1,h2⟩:=s8 G ps (bL cells B cs) r _ (by rw[D];exact hc.splice Y YC) h;refine⟨M,?_,h2⟩;have E:(decide ((u x).cells.size≠size)||decide (B+(u x).cells.size > j.size))=false:=by simp[e1,e2];omega
    simp only[WS,Instr.fill,hp,E,W7,if_false];exact h1
   .cases h
  .cases h
theorem uj{α β:Type}(f:α->Sem β)(g:α->β):∀(l:List α),(∀x∈l,(f x).run P w=.ok (g x) w)->(l.mapM f).run P w=.ok (l.map g) w
 |[],_=>by simp
 | x::l,h=>by rw[List.mapM_cons];simp only[Xo,h x YF,W4,uj f g l (λy j=>h y (by simp[j])),Xz,WS]
theorem Co{α β:Type}(f:α->Sem β)(g:α->β)(l:Array α)(h:∀x∈l.toList,(f x).run P w=.ok (g x) w):(l.mapM f).run P w=.ok (l.toList.map g).toArray w:=by rw[Array.mapM_eq_mapM_toList];simp only[Sem.run_map,uj f g l.toList h,W4]
structure Fit(P:Program)(F:TypeId->Option (List TypeId)):Prop where
 flat:∀t ts,F t=some ts->Mp P t ts
 names : ∀ (g : Nat) (fn : Func), P.funcs[g]? = some fn → fn.name ≠ "runtime.NumGoroutine"
 order:P.follows .mixedOrders=true
theorem F3{t:TypeId}{ps:Array (Nat×Operand)}{v:AV}{ρ:Operand->AV}{u:Operand->Value}(Z:∀x,bN w σ T (ρ x) (u x))(h:zM P t (ps.toList.map λp=>(p.1,ρ p.2))=some v):
  ∃v',(Instr.build t (ps.map λ(i,x)=>(i,u x))).run P w=.ok v' w/\bN w σ T v v':=by
 have hps:(ps.map λ(i,x)=>(i,u x)).toList=ps.toList.map λp=>(p.1,u p.2):=by simp
 unfold zM at h;split at h
 .rename_i S z hu hz;split at h
  .rename_i E;have hf:∀f∈S.toList,∃n,bj P f.type=some n:=λf O=>by rw[W2]at E;exact Option.isSome_iff_exists.1 (E f O)
   obtain⟨z',M,G⟩:=fU (P:=P) (w:=w) (σ:=σ) (T:=T) hz;cases B:t8 (kX P S) z (ps.toList.map λp=>(p.1,ρ p.2))with
   |none=>rw[B]at h;cases h
   |some r=>
    rw[B]at h;cases h;have j:=G.cells (cs:=z) rfl;have hm:=Co (P:=P) (w:=w) (λf:Field=>(do pure (f.offset,<-sizeOf f.type):Sem (Nat×Nat))) (λf=>(f.offset,(bj P f.type).getD 0)) S (λf O=>by
     obtain⟨n,D⟩:=hf f O;simp[dt D,D])
    have hpl:(λi=>((S.toList.map λf:Field=>(f.offset,(bj P f.type).getD 0)).toArray)[i]?)=kX P S:=by
     funext i;unfold kX;rw[List.getElem?_toArray,W6,Xh];cases hfi:S[i]? with
     |none=>rfl
     |some f=>obtain⟨n,D⟩:=hf f (by rw[Array.mem_toList_iff];exact Array.mem_of_getElem? hfi);simp[D]
    rw[<-hpl]at B;obtain⟨Y,h1,h2⟩:=s8 Z ps.toList z r z'.cells j B;refine⟨.agg Y,?_,by have:=bN.agg (w:=w) (σ:=σ) (T:=T) r Y.toList h2.1 h2.2;simpa using this⟩;simp only[Instr.build,Xo,M,W4,run_underlying hu,hm,hps,h1,Xz]
  .cases h
 .rename_i n e z hu hz;obtain⟨z',M,G⟩:=fU (P:=P) (w:=w) (σ:=σ) (T:=T) hz;cases D:bj P e with
  |none=>rw[D]at h;cases h
  |some sz=>
   rw[D]at h;simp only[XB]at h;cases B:t8 (λi=>some (i*sz,sz)) z (ps.toList.map λp=>(p.1,ρ p.2))with
   |none=>rw[B]at h;cases h
   |some r=>rw[B]at h;cases h;have j:=G.cells (cs:=z) rfl;obtain⟨Y,h1,h2⟩:=s8 Z ps.toList z r z'.cells j B;refine⟨.agg Y,?_,by have:=bN.agg (w:=w) (σ:=σ) (T:=T) r Y.toList h2.1 h2.2;simpa using this⟩;simp only[Instr.build,Xo,M,W4,run_underlying hu,dt D,hps,h1,Xz]
 .cases h
end
end
section
def Cp(P:Program)(s:Sem Value)(w:World)(σ:bR)(H:af)(b:Nat)(v:AV)(H':af):Prop:=
 ∃v' w' σ',s.run P w=.ok v' w'/\bN w' σ' (bB σ' H') v v'/\bQ w' σ' H'/\fR w σ (bB σ H) w' σ' (bB σ' H')/\∀c pl,σ' c=some pl->σ c=some pl\/c=b
section
variable {P:Program} {w:World} {σ:bR} {T:Nat->Prop} {H:af} {b:Nat}
structure Flat(w:World)(σ:bR)(T:Nat->Prop)(rows:List (List AV))(n:Nat)(l:List Value):Prop where
 len:l.length=rows.length*n
 even:∀(i:Nat) (r:List AV),rows[i]? =some r->r.length=n
 rep:∀(i:Nat) (r:List AV) (j:Nat) (a:AV) (u:Value),rows[i]? =some r->r[j]? =some a->l[i*n+j]? =some u->bN w σ T a u
theorem pt{i j m n:Nat}(u:i<m)(B:j<n):i*n+j<m*n:=by have:(i+1)*n<=m*n:=Xa _ u;rw[XD]at this;omega
theorem Flat.nil(n:Nat):Flat w σ T [] n []:=⟨YF,YF,YF⟩
theorem Flat.append{rows rows':List (List AV)}{n:Nat}{l O:List Value}(h:Flat w σ T rows n l)(k:Flat w σ T rows' n O):Flat w σ T (rows++rows') n (l++O):=by
 refine⟨by simp[h.len,k.len,XD],λi r B=>?_,λi r j a u B M E=>?_⟩
 .rcases Fn i rows.length with D|D
  .rw[WW D]at B;exact h.even i r B
  .rw[WQ D]at B;exact k.even _ r B
 .rcases Fn i rows.length with D|D
  .rw[WW D]at B;have S:j<n:=by rw[<-h.even i r B];exact aF M
   rw[WW (by rw[h.len];exact pt D S)]at E;exact h.rep i r j a u B M E
  .rw[WQ D]at B;have G:l.length<=i*n+j:=by rw[h.len];exact W5 (Xa _ D) (Xu _ _)
   rw[WQ G]at E;refine k.rep (i-rows.length) r j a u B M ?_;rw[<-E,h.len];congr 1;rw[Nat.sub_mul];have:rows.length*n<=i*n:=Xa _ D;omega
theorem Flat.set{rows:List (List AV)}{n:Nat}{l:List Value}(h:Flat w σ T rows n l){i:Nat}{cs:List AV}{us:List Value}(hi:i<rows.length)(S:cs.length=n)(k:fP w σ T cs us):
  Flat w σ T (rows.set i cs) n (l.take (i*n)++us++l.drop (i*n+us.length)):=by
 have Y:us.length=n:=by rw[<-k.1,S]
 have M:i*n+n<=l.length:=by rw[h.len];have:(i+1)*n<=rows.length*n:=Xa _ hi;rw[XD]at this;omega
 refine⟨by simp only[LT,Xb,Yh,Yd];rw[XF YC,Y,h.len];rw[h.len]at M;omega,λq r B=>?_,λq r j a u B O E=>?_⟩
 .rw[Xc]at B;split at B
  .cases B;exact S
  .exact h.even q r B
 .have hj:j<r.length:=aF O;rw[Xc]at B;split at B
  .rename_i e;subst e;cases B;rw[WW YH,WQ YH]at E;simp only[Xb]at E;rw[XF YC,Nat.add_sub_cancel_left]at E;exact k.2 j a u O E
  .rename_i G;have Z:=h.even q r B;have hq:q<rows.length:=aF B;refine h.rep q r j a u B O ?_;rw[<-E];rcases Nat.lt_or_gt_of_ne G with D|D
   .have:(i+1)*n<=q*n:=Xa _ D;rw[XD]at this;rw[WQ YH];simp only[LT,Xb,XE];rw[XF YC];congr 1;omega
   .have:(q+1)*n<=i*n:=Xa _ D;rw[XD]at this;rw[WU,WW YH,Xt YC]
theorem Flat.zeros{z:List AV}{zs:Array Value}{n:Nat}(S:fP w σ T z zs.toList)(Y:z.length=n)(h0:0<n)(len k:Nat)(hk:len<=k):
  ∃l:List Value,(Array.range (k*n)).map (zs[· % zs.size]!)=l.toArray/\l.length=k*n/\Flat w σ T (List.replicate len z) n (l.take (len*n))/\(∀u∈l,∃a,bN w σ T a u/\a∈z):=by
 have O:zs.size=n:=by rw[<-Array.length_toList,<-S.1,Y]
 refine⟨(List.range (k*n)).map (zs[· % zs.size]!),?_,YF,⟨?_,?_,?_⟩,?_⟩
 .apply Array.ext';simp
 .simp only[Xb,Xd,List.length_range,List.length_replicate];exact XF (Xa _ hk)
 .intro i r B;rw[X6]at B;split at B
  .cases B;exact Y
  .cases B
 .intro i r j a u B ha D;rw[X6]at B;split at B
  .rename_i hi;cases B;have hj:j<n:=by rw[<-Y];exact aF ha
   have M:=pt hi hj;have G:i*n+j<k*n:=Xf M (Xa _ hk);rw[Xt M,W6,Yz G]at D;simp only[Xl,W3]at D;subst D;have e:(i*n+j) % zs.size=j:=by rw[O,Nat.mul_comm,Nat.mul_add_mod,Nat.mod_eq_of_lt hj]
   rw[e];refine S.2 j a _ ha ?_;rw[getElem!_pos zs j YC,Xh,Xj YC]
  .cases B
 .intro u D;rw[Xi]at D;obtain⟨q,_,rfl⟩:=D;have Z:q % zs.size<zs.size:=Nat.mod_lt _ YC;rw[getElem!_pos zs _ Z];have E:q % zs.size<z.length:=by omega
  exact⟨z[q % zs.size],S.2 (q % zs.size) _ _ (mt E) (by rw[Xh,Xj Z]),WN E⟩
theorem zP(hW:bQ w σ H)(hb:σ b=none)(M:b<H.next){x:Blk}{cs:Array Value}{e:TypeId}{s:Sem Value}{v:AV}{v':Value}{l:List Value}(O:l=cs.toList.take (x.rows.length*x.size))
  (E:Flat w σ (bB σ H) x.rows x.size l) (hs:s.run P w=.ok v' (World.push w (.cells cs e (0,0))))
  (Z:bN (World.push w (.cells cs e (0,0))) (σ.set b ⟨w.heap.size,0,x.size⟩) (bB (σ.set b ⟨w.heap.size,0,x.size⟩) (H.new b x)) v v'):Cp P s w σ H b v (H.new b x):=by
 have B:=E.len;rw[O]at B;simp only[Xb,Xe]at B;obtain⟨h1,h2⟩:=hW.new hb M (x:=x) (cs:=cs) (e:=e) E.even YC (λi r j a u G Y hu=>E.rep i r j a u G Y (by
  have hj:j<x.size:=by rw[<-E.even i r G];exact aF Y
  rw[O,Xt (pt (aF G) hj),Xh];exact hu))
 refine⟨v',_,_,hs,Z,h1,h2,λc pl S=>?_⟩;by_cases D:b=c
 .exact .inr D.symm
 .rw[bR.set_ne _ _ D]at S;exact .inl S
theorem Flat.one{cs:List AV}{vs:List Value}(h:fP w σ T cs vs):Flat w σ T [cs] cs.length vs:=by
 refine⟨by simp[h.1],λi r B=>?_,λi r j a u B E D=>?_⟩
 .match i with
  |0=>cases B;rfl
  |i+1=>simp at B
 .match i with
  |0=>cases B;exact h.2 j a u E (by simpa using D)
  |i+1=>simp at B
theorem F4(G:bQ w σ H)(E:σ b=none)(j:b<H.next){t:TypeId}{x:AV}{x':Value}{cs:List AV}(B:bN w σ (bB σ H) x x')(D:x.cells? =some cs):
  Cp P (Instr.box t x') w σ H b (.ptr b 0 0) (H.new b ⟨cs.length,[cs]⟩):=by
 have u:=B.cells D;refine zP G E j (cs:=x'.cells) (e:=t) (v':=.pointer (some ⟨w.heap.size,0,none⟩)) (l:=x'.cells.toList) ?_ (Flat.one u) rfl ?_
 .have:=u.1;simp only[Yp,Nat.one_mul];rw[W9 YC]
 .have:=bN.ptr (w:=World.push w (.cells x'.cells t (0,0))) (T:=bB (σ.set b ⟨w.heap.size,0,cs.length⟩) (H.new b ⟨cs.length,[cs]⟩)) b 0 0 _ (bR.set_eq σ b ⟨w.heap.size,0,cs.length⟩) (.inl rfl);simpa using this
theorem Is(O:bQ w σ H)(M:σ b=none)(D:b<H.next){t:TypeId}{cs:List AV}(j:(fa P t).bind AV.cells? =some cs):
  Cp P (Instr.alloc t true (.tuple #[])) w σ H b (.ptr b 0 0) (H.new b ⟨cs.length,[cs]⟩):=by
 cases B:fa P t with
 |none=>rw[B]at j;cases j
 |some z=>rw[B]at j;obtain⟨z',h1,Z⟩:=fU (P:=P) (w:=w) (σ:=σ) (T:=bB σ H) B;obtain⟨G,E,u,Y,S⟩:=F4 (P:=P) (t:=t) O M D Z j;refine⟨G,E,u,?_,S⟩;rw[<-Y];simp only[Instr.alloc,Xo,h1,W4];rfl
theorem iQ{α:Type}(l us:List α)(K p:Nat)(h:K+us.length<=l.length):
  (l.take K++us++l.drop (K+us.length))[p]? =if p<K then l[p]? else if p<K+us.length then us[p-K]? else l[p]? :=by
 rcases Fn p K with j|j
 .rw[if_pos j,WU,WW YH,Xt j]
 .rw[if_neg YC];rcases Fn p (K+us.length)with u|u
  .rw[if_pos u,WW YH,WQ YH];simp only[Xb];rw[XF YC]
  .rw[if_neg YC,WQ YH];simp only[LT,Xb,XE];rw[XF YC];congr 1;omega
theorem It(hW:bQ w σ H){t:TypeId}{a x:AV}{a' x':Value}{H':af}(ha:bN w σ (bB σ H) a a')(hx:bN w σ (bB σ H) x x')(h:io P H t a x=some H'):
  ∃w',(Instr.storeAt t a' x').run P w=.ok () w'/\bQ w' σ H'/\fR w σ (bB σ H) w' σ (bB σ H'):=by
 unfold io at h;split at h
 .rename_i c i D cs n hcs hn;split at h
  .rename_i y hy;split at h
   .rename_i r hr;split at h
    .rename_i hl;obtain⟨hl1,hl2,hl3⟩:=hl;cases h;cases ha with
     |ptr _ _ _ O hs hp=>
     obtain⟨pl',ds,e,g1,E⟩:=hW.live c y hy;rw[hs]at g1;cases g1;replace E:=E.1 hp;have B:=hx.cells hcs;have hone:=B.one hl2;have hi:=aF hr;have hrl:=E.even i r hr;have Z:=E.room;have hm:(i+1)*y.size<=y.rows.length*y.size:=Xa _ hi;rw[XD]at hm;have hst:=run_storeCells_at (P:=P) O.block (O.base+i*O.size+D) e x'.cells.toList 0 ds w E.block (by rw[<-B.1,E.size];omega) hone;simp only[XQ]at hst;have hw:mi w (w.setRow O.block (ds.toList.take (O.base+i*O.size+D)++x'.cells.toList++ds.toList.drop (O.base+i*O.size+D+x'.cells.toList.length)).toArray) O.block ds _ e:=
      ⟨rfl,rfl,rfl,YF,E.block,setRow_heap w _ _ _ _ _ E.block,by
       have:=B.1;have Y:=E.size;simp only[List.size_toArray,LT,Xb,Yh,Xe];rw[Y,XF YC];rw[<-Array.length_toList (xs:=x'.cells)];omega,λd hd=>setRow_other w _ d _ hd⟩
     have hput:=hW.put hy hs hw (x':={y with rows:=y.rows.set i (bL r D cs)}) E.size.symm ?_ ?_ ?_
     .refine⟨_,?_,hput⟩;have:x'.cells.size=n:=by rw[<-Array.length_toList,<-B.1,hl1]
      simp only[Instr.storeAt,Instr.sureAddr,storeVar,Xo,Xz,W4,dt hn,Sem.run_ite,this,ne_eq,not_true_eq_false,if_false,hst]
     .intro q s S;rw[Xc]at S;split at S
      .cases S;simp[bL];omega
      .exact E.even q s S
     .simpa using Z
     .intro q s j a u S M G;have Y:=E.size;have hul:x'.cells.toList.length=cs.length:=B.1.symm;have hdl:ds.toList.length=ds.size:=Xe;rw[List.getElem?_toArray,iQ ds.toList x'.cells.toList (O.base+i*O.size+D) _ (by rw[hul,Y];omega),hul,Y]at G;simp only[]at G;rw[Xc]at S;split at S
      .rename_i hqi;subst hqi;cases S;have hjr:=aF M;have hjl:j<r.length:=by simp[bL]at hjr;omega
       unfold bL at M;rw[iQ _ _ _ _ YC]at M;by_cases h1:j<D
       .rw[if_pos h1]at M;rw[if_pos YC,Xh]at G;exact E.rep i r j a u hr M G
       .rw[if_neg h1]at M;by_cases h2:j<D+cs.length
        .rw[if_pos h2]at M;rw[if_neg YC,if_pos YC]at G;refine B.2 (j-D) a u M ?_;rw[<-G];congr 1;omega
        .rw[if_neg h2]at M;rw[if_neg YC,if_neg YC,Xh]at G;exact E.rep i r j a u hr M G
      .rename_i hqi;have hjs:j<y.size:=by rw[<-E.even q s S];exact aF M
       refine E.rep q s j a u S M ?_;rcases Nat.lt_or_gt_of_ne hqi with hlt|hlt
       .have:(i+1)*y.size<=q*y.size:=Xa _ hlt;rw[XD]at this;rw[if_neg YC,if_neg YC,Xh]at G;exact G
       .have:(q+1)*y.size<=i*y.size:=Xa _ hlt;rw[XD]at this;rw[if_pos YC,Xh]at G;exact G
    .cases h
   .cases h
  .cases h
 .cases h
end
end
end Go.Proofs.YtfcfhjadaknphaaGreatDoor.Am
section
namespace Go.Proofs
open Go.Shelf
def Tryz.lays189_ren:Go.Shelf.Ren:=⟨fun|189=>155|125=>188|257=>187|128=>205|129=>206|294=>196|295=>197|296=>198|297=>199|298=>200|299=>201|216=>202|300=>203|301=>204|328=>207|329=>208|330=>209|331=>210|332=>211|215=>212|343=>213|n=>n,fun|28=>59|3=>3|46=>251|0=>0|51=>265|53=>267|4=>4|183=>258|182=>257|131=>262|5=>5|9=>9|218=>268|222=>272|228=>274|229=>245|n=>n,fun|n=>n⟩
def Tryz.lays189:Go.Proofs.Lays.n189 Tryz.prog Tryz.lays189_ren:={
 mixed:=by kernel_rfl
 f125:=Tryz.func188.trans (congrArg some (by kernel_rfl))
 f128:=Tryz.func205.trans (congrArg some (by kernel_rfl))
 f129:=Tryz.func206.trans (congrArg some (by kernel_rfl))
 f189:=Tryz.func155.trans (congrArg some (by kernel_rfl))
 f215:=Tryz.func212.trans (congrArg some (by kernel_rfl))
 f216:=Tryz.func202.trans (congrArg some (by kernel_rfl))
 f257:=Tryz.func187.trans (congrArg some (by kernel_rfl))
 f294:=Tryz.func196.trans (congrArg some (by kernel_rfl))
 f295:=Tryz.func197.trans (congrArg some (by kernel_rfl))
 f296:=Tryz.func198.trans (congrArg some (by kernel_rfl))
 f297:=Tryz.func199.trans (congrArg some (by kernel_rfl))
 f298:=Tryz.func200.trans (congrArg some (by kernel_rfl))
 f299:=Tryz.func201.trans (congrArg some (by kernel_rfl))
 f300:=Tryz.func203.trans (congrArg some (by kernel_rfl))
 f301:=Tryz.func204.trans (congrArg some (by kernel_rfl))
 f328:=Tryz.func207.trans (congrArg some (by kernel_rfl))
 f329:=Tryz.func208.trans (congrArg some (by kernel_rfl))
 f330:=Tryz.func209.trans (congrArg some (by kernel_rfl))
 f331:=Tryz.func210.trans (congrArg some (by kernel_rfl))
 f332:=Tryz.func211.trans (congrArg some (by kernel_rfl))
 f343:=Tryz.func213.trans (congrArg some (by kernel_rfl))
 t0:=Tryz.underlying0
 a0:=Tryz.isAgg0
 z0:=Tryz.sizeOf0
 v0:=Tryz.zeroValue0
 t3:=Tryz.underlying3
 a3:=Tryz.isAgg3
 z3:=Tryz.sizeOf3
 v3:=Tryz.zeroValue3
 t4:=Tryz.underlying4
 a4:=Tryz.isAgg4
 z4:=Tryz.sizeOf4
 v4:=Tryz.zeroValue4
 t5:=Tryz.underlying5
 a5:=Tryz.isAgg5
 z5:=Tryz.sizeOf5
 v5:=Tryz.zeroValue5
 t9:=Tryz.underlying9
 a9:=Tryz.isAgg9
 z9:=Tryz.sizeOf9
 v9:=Tryz.zeroValue9
 t28:=Tryz.underlying59
 a28:=Tryz.isAgg59
 z28:=Tryz.sizeOf59
 v28:=Tryz.zeroValue59
 t46:=Tryz.underlying251
 a46:=Tryz.isAgg251
 z46:=Tryz.sizeOf251
 v46:=Tryz.zeroValue251
 t51:=Tryz.underlying265
 a51:=Tryz.isAgg265
 z51:=Tryz.sizeOf265
 v51:=Tryz.zeroValue265
 t53:=Tryz.underlying267
 a53:=Tryz.isAgg267
 z53:=Tryz.sizeOf267
 v53:=Tryz.zeroValue267
 t131:=Tryz.underlying262
 a131:=Tryz.isAgg262
 z131:=Tryz.sizeOf262
 v131:=Tryz.zeroValue262
 t182:=Tryz.underlying257
 a182:=Tryz.isAgg257
 z182:=Tryz.sizeOf257
 v182:=Tryz.zeroValue257
 t183:=Tryz.underlying258
 a183:=Tryz.isAgg258
 z183:=Tryz.sizeOf258
 v183:=Tryz.zeroValue258
 t218:=Tryz.underlying268
 a218:=Tryz.isAgg268
 z218:=Tryz.sizeOf268
 v218:=Tryz.zeroValue268
 t222:=Tryz.underlying272
 a222:=Tryz.isAgg272
 z222:=Tryz.sizeOf272
 v222:=Tryz.zeroValue272
 t228:=Tryz.underlying274
 a228:=Tryz.isAgg274
 z228:=Tryz.sizeOf274
 v228:=Tryz.zeroValue274
 t229:=Tryz.underlying245
 a229:=Tryz.isAgg245
 z229:=Tryz.sizeOf245
 v229:=Tryz.zeroValue245}
open Go.Sort Go.RowKit in
def Tryz.slices_Sort_int(j u D:Nat)(zs:List Int)(w:World)(G:Holds (Value.int .i64) w j u zs.toArray)(B:j<w.heap.size)(E:zs.length<4611686018427387904):
  Calls Tryz.prog 155 #[.slice (some ⟨j,u,none⟩) zs.length D] w λe w'=>
   e=.returned (.tuple #[])/\∃n os,w'=grow (putRow (Value.int .i64) (Sort.ahead w n) j u (zs.mergeSort λx y=>decide (x<=y)).toArray) os:=Any.slices_Sort_int Tryz.lays189 j u D zs w G B E
def Tryz.laysNm220_ren:Go.Shelf.Ren:=⟨fun|20=>156|n=>n,fun|22=>59|3=>3|4=>4|0=>0|n=>n,fun|n=>n⟩
def Tryz.laysNm220:Go.Proofs.Lays2.n20 Tryz.prog Tryz.laysNm220_ren:={
 mixed:=by kernel_rfl
 f20:=Tryz.func156.trans (congrArg some (by kernel_rfl))
 t0:=Tryz.underlying0
 a0:=Tryz.isAgg0
 z0:=Tryz.sizeOf0
 v0:=Tryz.zeroValue0
 t3:=Tryz.underlying3
 a3:=Tryz.isAgg3
 z3:=Tryz.sizeOf3
 v3:=Tryz.zeroValue3
 t4:=Tryz.underlying4
 a4:=Tryz.isAgg4
 z4:=Tryz.sizeOf4
 v4:=Tryz.zeroValue4
 t22:=Tryz.underlying59
 a22:=Tryz.isAgg59
 z22:=Tryz.sizeOf59
 v22:=Tryz.zeroValue59
 i3:=by kernel_rfl}
open Go.RowKit Go.Lib Go.Sort in
def Tryz.slices_Compact_int(u j B:Nat)(zs:List Int)(w:World)(G:Holds (Value.int .i64) w u j zs.toArray)(E:zs.length<=9223372036854775807)(D:zs.length<=B):
  Calls Tryz.prog 156 #[.slice (some ⟨u,j,none⟩) zs.length B] w λe w'=>e=.returned (.slice (some ⟨u,j,none⟩) (Lib.compact zs).length B)/\∃q,w'=putRow (Value.int .i64) (Sort.ahead w q) u j (Lib.compact zs++List.replicate (zs.length-(Lib.compact zs).length) 0).toArray:=Any.slices_Compact_int Tryz.laysNm220 u j B zs w G E D
open Go.RowKit Go.Lib Go.Sort in
def Tryz.slices_Compact_int_empty(a:Option Addr)(j:Nat)(w:World):
  Calls Tryz.prog 156 #[.slice a 0 j] w λe w'=>e=.returned (.slice a 0 j)/\w'=w:=Any.slices_Compact_int_empty Tryz.laysNm220 a j w
open Go.RowKit Go.Sort in
def Tryz.slices_Sort_int_none(p:Option Addr)(j:Nat)(w:World):
  Calls Tryz.prog 155 #[.slice p 0 j] w λe w'=>e=.returned (.tuple #[])/\w'=w:=Any.slices_Sort_int_none Tryz.lays189 p j w
end Go.Proofs
end
