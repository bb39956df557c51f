/- A part of the proof; the statement is proved in the last part. -/
import Derived.Calls
import Derived.Orders
import Derived.Below
import Derived.Handy
import Derived.RowKit
import Derived.Laws.Cells
import Derived.Laws.CopyRow
import Derived.Laws.Entries
import Derived.Laws.StructEq
import Derived.Lib.Strings
set_option linter.all false
set_option maxRecDepth 100000
set_option maxHeartbeats 20000000
namespace Go.Proofs.YtbofdbhnbodbiaaGreatDoor
open Go Go.RowKit
abbrev mt:=@List.getElem?_eq_getElem
abbrev Fd:=@Nat.le_refl
abbrev Fn:=@Nat.lt_or_ge
abbrev LE:=@List.getElem?_eq_none
abbrev LT:=@List.map_append
abbrev Sw:=@List.take_succ_eq_append_getElem
abbrev Sx:=@List.map_cons
abbrev Sy:=@List.getElem_mem
abbrev Sz:=@List.mem_singleton
abbrev SA:=@List.getElem?_append_right
abbrev SB:=@List.mem_cons
abbrev SC:=@List.mem_append
abbrev SD:=@List.length_append
abbrev SE:=@List.getElem?_append_left
abbrev SF:=@Option.some.injEq
abbrev SG:=@List.perm_append_comm
abbrev SI:=@Result.andThen_ok
abbrev SJ:=@List.getElem?_map
abbrev SK:=@Nat.le_trans
abbrev SL:=@Nat.zero_le
abbrev SM:=@List.all_eq_true
abbrev SN:=@Bool.and_eq_true
abbrev SO:=@Bool.false_eq_true
abbrev SP:=@List.mem_append_right
abbrev SQ:=@List.length_cons
abbrev SR:=@Nat.mul_le_mul_right
abbrev SS:=@List.getElem?_set
abbrev ST:=@List.length_take
abbrev SU:=@Array.length_toList
abbrev SW:=@Nat.lt_of_lt_of_le
abbrev SX:=@List.take_of_length_le
abbrev SY:=@Array.getElem?_toList
abbrev SZ:=@Int.eq_ofNat_of_zero_le
abbrev S0:=@Option.map_some
abbrev S1:=@Array.getElem?_eq_getElem
abbrev S2:=@List.length_nil
abbrev S3:=@List.append_assoc
abbrev S4:=@Sem.run_bind
abbrev S5:=@List.getElem?_take_of_lt
abbrev S6:=@List.map_nil
abbrev S7:=@Nat.le_add_right
abbrev S8:=@List.mem_of_getElem?
abbrev S9:=@List.mem_map_of_mem
abbrev Ta:=@List.append_nil
abbrev Tb:=@List.forall_mem_cons
abbrev Tc:=@List.nodup_cons
abbrev Td:=@Int.toNat_natCast
abbrev Te:=@IntWalk.i64_in
abbrev Tf:=@List.getElem?_eq_some_iff
abbrev Tg:=@Nat.add_mul
abbrev Th:=@List.not_mem_nil
abbrev Ti:=@List.getElem?_drop
abbrev Tj:=@Sem.run_pure
abbrev Tk:=@Option.bind_some
abbrev Tl:=@List.mem_map
abbrev Tm:=@Nat.zero_add
abbrev Tn:=@Nat.min_eq_left
abbrev To:=@List.map_set
abbrev Tp:=@List.length_eq_zero_iff
abbrev Tq:=@Nat.add_assoc
abbrev Ts:=@Nat.eq_zero_or_pos
abbrev Tt:=@List.mem_append_left
abbrev Tu:=@List.nil_append
abbrev Tv:=@List.mem_cons_of_mem
abbrev Tw:=@List.mem_range
abbrev Tx:=@List.sum_cons
abbrev Ty:=@List.length_map
abbrev Tz:=@List.getD_eq_getElem?_getD
abbrev TA:=@List.drop_eq_getElem_cons
abbrev TC:=@Option.getD_some
abbrev TD:=@List.perm_middle
abbrev TF:=@List.cons_append
abbrev TG:=@List.getElem_of_mem
abbrev TH:=@List.ext_getElem?
abbrev TJ:=@List.getElem?_cons_succ
abbrev TK:=@Array.getElem?_eq_some_iff
abbrev TL:=@List.foldl_cons
abbrev TM:=@List.eq_nil_of_length_eq_zero
abbrev TN:=@List.nodup_append
abbrev TO:=@Nat.le_succ_of_le
abbrev TP:=@List.length_filter_le
abbrev TQ:=@Nat.eq_or_lt_of_le
abbrev TR:=@List.getElem?_replicate
abbrev TS:=@List.length_set
abbrev TT:=@List.mem_filter
abbrev TU:=@List.mem_or_eq_of_mem_set
abbrev TV:=@List.length_drop
abbrev TW:=@List.any_eq_true
abbrev TX:=@List.sum_nil
abbrev TY:=@Nat.le_succ
abbrev TZ:=@Option.some.inj
abbrev T0:=@Nat.not_lt_zero
abbrev T1:=@List.forall_mem_nil
abbrev T2:=@Nat.add_zero
abbrev T3:=@Option.map_eq_some_iff
abbrev T4:=@List.take_length
abbrev T5:=@List.mem_cons_self
abbrev T6:=@Bool.or_eq_true
abbrev T7:=@Nat.sub_self
abbrev T8:=@Nat.succ_pos
abbrev T9:=@List.getElem?_range
theorem Ua{P:Prop}(h:P:=by omega):P:=h
theorem Ub{P:Prop}(h:P:=by assumption):P:=h
theorem Uc{P:Prop}(h:P:=by rfl):P:=h
theorem Ud{P:Prop}(h:P:=by simp):P:=h
theorem Ue{P:Prop}(h:P:=by decide):P:=h
end Go.Proofs.YtbofdbhnbodbiaaGreatDoor
namespace Go.Proofs.YtbofdbhnbodbiaaGreatDoor.Am
section
inductive Tr (α:Type) where
 |leaf
 |node (v:Option α) (l r:Tr α)
namespace Tr
variable {α:Type}
def bitsF:Nat->Nat->List Bool
 |0,_=>[]
 |_+1,0=>[]
 |f+1,n+1=>((n+1) % 2==1)::bitsF f ((n+1) / 2)
def bits(n:Nat):List Bool:=bitsF n n
def getP:Tr α->List Bool->Option α
 |leaf,_=>none
 |node v _ _,[]=>v
 |node _ l r,b::p=>if b then l.getP p else r.getP p
def setP:List Bool->Option α->Tr α->Tr α
 |[],x,leaf=>node x leaf leaf
 |[],x,node _ l r=>node x l r
 |b::p,x,leaf=>if b then node none (setP p x leaf) leaf else node none leaf (setP p x leaf)
 |b::p,x,node v l r=>if b then node v (setP p x l) r else node v l (setP p x r)
theorem getP_leaf(p:List Bool):(leaf:Tr α).getP p=none:=by cases p<;>rfl
theorem getP_setP(p q:List Bool)(x:Option α)(t:Tr α):(setP p x t).getP q=if p=q then x else t.getP q:=by
 induction p generalizing q t with
 |nil=>cases t<;>cases q<;>simp[setP,getP]
 |cons b p j=>
  cases t<;>cases q<;>cases b<;>simp[setP,getP]
  all_goals (rename_i c q;cases c<;>simp[j,getP_leaf])
def val:List Bool->Nat
 |[]=>0
 |b::p=>(if b then 1 else 0)+2*val p
theorem val_bitsF(f n:Nat)(h:n<=f):val (bitsF f n)=n:=by
 induction f generalizing n with
 |zero=>simp[bitsF,val];omega
 |succ f j=>
  cases n with
  |zero=>rfl
  |succ n=>simp only[bitsF,val];rw[j ((n+1) / 2) Ua];by_cases u:(n+1) % 2=1<;>simp[u]<;>omega
theorem bits_inj{a b:Nat}(h:bits a=bits b):a=b:=by
 have:=congrArg val h
 rwa [bits,bits,val_bitsF _ _ (Fd _),val_bitsF _ _ (Fd _)]at this
def get(t:Tr α)(n:Nat):Option α:=t.getP (bits n)
def set(t:Tr α)(n:Nat)(x:Option α):Tr α:=setP (bits n) x t
theorem get_set(t:Tr α)(n m:Nat)(x:Option α):(t.set n x).get m=if n=m then x else t.get m:=by
 unfold get set;rw[getP_setP];by_cases h:n=m
 .subst h;simp
 .rw[if_neg h,if_neg (λe=>h (bits_inj e))]
theorem get_leaf(m:Nat):(leaf:Tr α).get m=none:=getP_leaf _
end Tr
end
section
inductive AV where
 |int (k:IntKind) (n:Int)
 |bool (b:Bool)
 |str (s:List UInt8)
 |nilp
 |ptr (b i off:Nat)
 |pptr (rows:List (List AV)) (i off:Nat)
 |nils
 |emp
 |sl (b i n:Nat)
 |lst (rows:List (List AV))
 |mp (b:Nat)
 |it (b:Nat)
 |agg (cells:List AV)
 |tup (vs:List AV)
 |fn (f:FuncId) (captured:List AV)
 |nilf
 |junk
 deriving Inhabited
def AV.cells? :AV->Option (List AV)
 |.agg cs=>some cs
 |.junk=>none
 |v=>some [v]
def AV.one:AV->Bool
 |.agg _|.tup _|.junk=>false
 |_=>true
def cf{α:Type}:List (Option α)->Option (List α)
 |[]=>some []
 |none::_=>none
 | some x::l=>match cf l with
  |some l=>some (x::l)
  |none=>none
def PC:Value->Option AV
 |.int k n=>some (.int k n)
 |.bool b=>some (.bool b)
 |.string s=>some (.str s.data.toList)
 |.pointer none=>some .nilp
 |.slice none 0 0=>some .nils
 |.nilFunc=>some .nilf
 |_=>none
def Hv:Value->Option AV
 |.agg cs=>(cf (cs.toList.map PC)).map .agg
 |v=>PC v
structure Blk where
 size:Nat
 rows:List (List AV)
 deriving Inhabited
structure ae where
 next:Nat
 tr:Tr Blk
 log:List Nat
def ae.get(H:ae)(b:Nat):Option Blk:=H.tr.get b
def ae.new(H:ae)(b:Nat)(x:Blk):ae:={H with tr:=H.tr.set b (some x)}
def ae.put(H:ae)(b:Nat)(x:Option Blk):ae:={H with tr:=H.tr.set b x,log:=b::H.log}
inductive fM where
 |val (v:AV) (H:ae)
 |call (f:FuncId) (args:List AV)
section
variable (P:Program)
def aP(t:TypeId):Option Nat:=(P.info? t).map (·.size)
def gB(t:TypeId):Option Nat:=(P.info? t).map (·.bytes)
def dU(t:TypeId):Option AV:=(P.info? t).bind λi=>i.zero.bind Hv
def dY(t:TypeId):Option Bool:=(P.underlying t).map fun|.struct _|.array _ _=>true|_=>false
def gQ(t:TypeId)(row:List AV)(off:Nat):Option AV:=
 match dY P t,aP P t with
 |some true,some n=>if off+n<=row.length then some (.agg ((row.drop off).take n))else none
 |some false,some _=>row[off]?
 |_,_=>none
def bq(row:List AV)(off:Nat)(cs:List AV):List AV:=row.take off++cs++row.drop (off+cs.length)
def mg(H:ae)(t:TypeId):AV->Option AV
 |.ptr b i off=>(H.get b).bind λx=>(x.rows[i]?).bind λr=>gQ P t r off
 |.pptr rows i off=>(rows[i]?).bind λr=>gQ P t r off
 |_=>none
def fW(H:ae)(t:TypeId)(a v:AV):Option ae:=
 match a,v.cells?,aP P t with
 |.ptr b i off,some cs,some n=>
  match H.get b with
  | some x=>match x.rows[i]? with
   |some r=>if cs.length=n/\cs.all AV.one/\off+n<=r.length then some (H.put b (some {x with rows:=x.rows.set i (bq r off cs)}))else none
   |none=>none
  |none=>none
 |_,_,_=>none
def rJ(place:Nat->Option (Nat×Nat))(cells:List AV):List (Nat×AV)->Option (List AV)
 |[]=>some cells
 |(i,v)::rest=>
  match place i,v.cells? with
  |some (off,size),some cs=>if cs.length=size/\off+size<=cells.length/\cs.all AV.one then rJ place (bq cells off cs) rest else none
  |_,_=>none
def eg(size:Nat)(rows:List (List AV)):List (Nat×AV)->Option (List (List AV))
 |[]=>some rows
 |(i,v)::rest=>
  match v.cells? with
  |some cs=>if cs.length=size/\i<rows.length/\cs.all AV.one then eg size (rows.set i cs) rest else none
  |none=>none
def jx(fs:Array Field)(i:Nat):Option (Nat×Nat):=(fs[i]?).bind λf=>(aP P f.type).map λn=>(f.offset,n)
def xm(t:TypeId)(parts:List (Nat×AV)):Option AV:=
 match P.underlying t,dU P t with
 |some (.struct fs),some (.agg z)=>if(fs.toList.all λf=>(aP P f.type).isSome)=true then(rJ (jx P fs) z parts).map .agg else none
 |some (.array _ e),some (.agg z)=>(aP P e).bind λn=>(rJ (λi=>some (i*n,n)) z parts).map .agg
 |_,_=>none
def Fi:AV->Option Nat
 |.nils=>some 0
 |.emp=>some 0
 |.lst rows=>some rows.length
 |.sl _ _ n=>some n
 |_=>none
def rK:List UInt8->List UInt8->Bool
 |_,[]=>false
 |[],_::_=>true
 |a::x,b::y=>a<b||(a==b&&rK x y)
def tH(t:TypeId)(x y:AV):Option Bool:=
 match P.underlying t,x,y with
 |some (.int _),.int k a,.int k' b=>if k=k' then some (a==b)else none
 |some .bool,.bool a,.bool b=>some (a==b)
 |some .string,.str a,.str b=>some (a==b)
 |some (.pointer _),.nilp,.nilp=>some true
 |some (.pointer _),.nilp,.ptr ..|some (.pointer _),.ptr ..,.nilp|some (.pointer _),.nilp,.pptr ..|some (.pointer _),.pptr ..,.nilp=>some false
 |some (.slice _),.nils,.nils=>some true
 |some (.slice _),.nils,.sl ..|some (.slice _),.sl ..,.nils|some (.slice _),.nils,.lst (_::_)|some (.slice _),.lst (_::_),.nils=>some false
 |_,_,_=>none
def xn:List TypeId->List AV->List AV->Option Bool
 |[],[],[]=>some true
 | t::ts,a::l,b::m=>match tH P t a b with
  |some true=>xn ts l m
  |r=>r
 |_,_,_=>none
def gC(F:TypeId->Option (List TypeId))(op:BinOp)(t:TypeId)(x y:AV):Option AV:=
 match op,x,y with
 |.shl,.int k a,.int _ b=>if 0<=b then some (.int k (k.wrap (a*2^min b.toNat k.bits)))else none
 |.shr,.int k a,.int _ b=>if 0<=b then some (.int k (a.fdiv (2^min b.toNat k.bits)))else none
 |op,.int k a,.int k' b=>
  if k≠k' then none else
  match op with
  |.add=>some (.int k (k.wrap (a+b)))
  |.sub=>some (.int k (k.wrap (a-b)))
  |.mul=>some (.int k (k.wrap (a*b)))
  |.quo=>if b=0 then none else some (.int k (k.wrap (a.tdiv b)))
  |.rem=>if b=0 then none else some (.int k (a.tmod b))
  |.and=>some (.int k (k.wrap (BitVec.ofInt k.bits a &&& BitVec.ofInt k.bits b).toNat))
  |.or=>some (.int k (k.wrap (BitVec.ofInt k.bits a ||| BitVec.ofInt k.bits b).toNat))
  |.xor=>some (.int k (k.wrap (BitVec.ofInt k.bits a ^^^ BitVec.ofInt k.bits b).toNat))
  |.eql=>some (.bool (a==b))
  |.neq=>some (.bool (a != b))
  |.lss=>some (.bool (decide (a<b)))
  |.leq=>some (.bool (decide (a<=b)))
  |.gtr=>some (.bool (decide (a > b)))
  |.geq=>some (.bool (decide (a>=b)))
  |_=>none
 |op,.str a,.str b=>
  match op with
  |.eql=>some (.bool (a==b))
  |.neq=>some (.bool !(a==b))
  |.lss=>some (.bool (rK a b))
  |.add=>if a.length+b.length<=2^62 then some (.str (a++b))else none
  |_=>none
 |.eql,.agg a,.agg b=>(F t).bind λts=>(xn P ts a b).map .bool
 |.neq,.agg a,.agg b=>(F t).bind λts=>(xn P ts a b).map λr=>.bool !r
 |.eql,.bool a,.bool b=>(tH P t (.bool a) (.bool b)).map .bool
 |.neq,.bool a,.bool b=>(tH P t (.bool a) (.bool b)).map λr=>.bool !r
 |.eql,.nilp,y=>(tH P t .nilp y).map .bool
 |.neq,.nilp,y=>(tH P t .nilp y).map λr=>.bool !r
 |.eql,x,.nilp=>(tH P t x .nilp).map .bool
 |.neq,x,.nilp=>(tH P t x .nilp).map λr=>.bool !r
 |.eql,.nils,y=>(tH P t .nils y).map .bool
 |.neq,.nils,y=>(tH P t .nils y).map λr=>.bool !r
 |.eql,x,.nils=>(tH P t x .nils).map .bool
 |.neq,x,.nils=>(tH P t x .nils).map λr=>.bool !r
 |_,_,_=>none
def RE(op:UnOp)(x:AV):Option AV:=
 match op,x with
 |.neg,.int k n=>some (.int k (k.wrap (0-n)))
 |.not,.bool b=>some (.bool !b)
 |_,_=>none
def C7(src dst:TypeId)(x:AV):Option AV:=
 match P.underlying src,P.underlying dst,x with
 |some (.int _),some (.int k),.int _ n=>some (.int k (k.wrap n))
 |some .string,some .string,.str s=>some (.str s)
 |_,_,_=>none
def fI(H:ae)(n:Nat):AV->Option (List (List AV))
 |.nils=>some []
 |.emp=>some []
 | .lst rows=>match rows with
  |[]=>some []
  |r::l=>if r.length=n then some (r::l)else none
 | .sl b i k=>match H.get b with
  |some x=>if x.size=n/\i+k<=x.rows.length then some ((x.rows.drop i).take k)else none
  |none=>none
 |_=>none
def lG(H:ae):AV->Option Nat
 |.sl b _ _=>(H.get b).map (·.size)
 |_=>none
def dZ(sz:Option Nat)(t:TypeId)(x ix:AV):Option AV:=
 match ix with
 |.int _ i=>
  if i<0 then none else
  match P.underlying t,x with
  |some (.slice e),.sl b j n=>if i.toNat<n/\sz.isSome/\aP P e=sz then some (.ptr b (j+i.toNat) 0)else none
  | some (.slice e),.lst rows=>match rows[i.toNat]? with
   |some r=>if aP P e=some r.length then some (.pptr rows i.toNat 0)else none
   |none=>none
  |some (.array len e),.ptr b j off=>if i.toNat<len then(aP P e).map λn=>.ptr b j (off+i.toNat*n)else none
  |some (.array len e),.pptr rows j off=>if i.toNat<len then(aP P e).map λn=>.pptr rows j (off+i.toNat*n)else none
  |_,_=>none
 |_=>none
def xo(t:TypeId)(x ix:AV):Option AV:=
 match P.underlying t,x,ix with
 |some .string,.str s,.int _ i=>if i<0 then none else(s[i.toNat]?).map λb=>.int .u8 b.toNat
 |some (.array len e),.agg cs,.int _ i=>if 0<=i/\i.toNat<len then(aP P e).bind λn=>gQ P e cs (i.toNat*n)else none
 |_,_,_=>none
def iP(s:TypeId)(x:AV)(f:Nat):Option AV:=
 match P.underlying s with
 | some (.struct fs)=>(fs[f]?).bind λf=>(aP P f.type).bind λn=>if n=0 then none else
   match x with
   |.ptr b i off=>some (.ptr b i (off+f.offset))
   |.pptr rows i off=>some (.pptr rows i (off+f.offset))
   |_=>none
 |_=>none
def BO(s:TypeId)(x:AV)(f:Nat):Option AV:=
 match P.underlying s,x with
 |some (.struct fs),.agg cs=>(fs[f]?).bind λf=>gQ P f.type cs f.offset
 |_,_=>none
def ky:AV->Option Nat
 |.int _ i=>if 0<=i then some i.toNat else none
 |_=>none
def cC(x:Option AV)(d:Nat):Option Nat:=
 match x with
 |none=>some d
 |some v=>ky v
def j6(sz:Option Nat)(t:TypeId)(x:AV)(lo hi mx:Option AV):Option AV:=
 match P.underlying t,Fi x with
 |some (.slice e),some n=>
  match cC lo 0,cC hi n,cC mx n with
  | some l,some h,some m=>if(l<=h/\h<=m/\m<=n)/\(aP P e).isSome=true then
    (match x with
     |.nils=>some .nils
     |.sl b i _=>if sz.isSome/\aP P e=sz then some (.sl b (i+l) (h-l))else none
     | .lst rows=>if mx.isSome=true/\m=l then some .emp else match rows with
      |[]=>some (.lst [])
      |r::rs=>if aP P e=some r.length then some (.lst (((r::rs).drop l).take (h-l)))else none
     |_=>none)else none
  |_,_,_=>none
 |some .string,_=>
  match x,mx with
  | .str s,none=>match cC lo 0,cC hi s.length with
   |some l,some h=>if l<=h/\h<=s.length then some (.str ((s.drop l).take (h-l)))else none
   |_,_=>none
  |_,_=>none
 |_,_=>none
def cX(H:ae)(b:Nat)(t:TypeId)(s x:AV):Option (AV×ae):=
 match P.underlying t with
 |some (.slice e)=>
  match aP P e,gB P e,(dU P e).bind AV.cells? with
  | some n,some by_,some z=>match fI H n s,fI H n x with
   | some l,some m=>if 2*(l.length+m.length)*by_<=2^48/\2*(l.length+m.length)<=2^62/\0<n/\z.length=n/\(m.all λr=>r.all AV.one)=true then
    match s with
    |.nils=>if m.length=0 then some (.nils,H)else some (.sl b 0 m.length,H.new b ⟨n,m⟩)
    |.emp=>if m.length=0 then some (.emp,H)else some (.sl b 0 m.length,H.new b ⟨n,m⟩)
    |.sl b' _ _=>some (.sl b 0 (l.length+m.length),(H.put b' none).new b ⟨n,l++m⟩)
    |_=>none
    else none
   |_,_=>none
  |_,_,_=>none
 |_=>none
def fj(H:ae)(t:TypeId)(x:AV):Option ae:=
 match P.underlying t with
 |some (.slice e)=>
  match aP P e,(dU P e).bind AV.cells? with
  | some n,some z=>match x with
   |.nils=>some H
   | .sl c i k=>match H.get c with
    |some y=>if(y.size=n/\z.length=n)/\(0<n/\i+k<=y.rows.length)/\z.all AV.one=true then some (H.put c (some {y with rows:=y.rows.take i++List.replicate k z++y.rows.drop (i+k)}))else none
    |none=>none
   |_=>none
  |_,_=>none
 |_=>none
def bj(H:ae)(b:Nat)(op:Builtin)(types:Array TypeId)(args:List AV):Option (AV×ae):=
 match op,args with
 | .len,[.str s]=>match (types[0]?).bind P.underlying with
  |some .string=>some (.int .i64 s.length,H)
  |_=>none
 | .len,[x]=>match (types[0]?).bind P.underlying with
  |some (.slice _)=>(Fi x).map λ(n:Nat)=>(.int .i64 (n:Int),H)
  |some (.array n _)=>some (.int .i64 n,H)
  |_=>none
 | .append,[s,x]=>match types.toList with
  | [t,tx]=>match P.underlying tx with
   |some (.slice _)=>cX P H b t s x
   |_=>none
  |_=>none
 |.min,[.int k a,.int k' c]=>if k=k' then some (.int k (if c<a then c else a),H)else none
 |.max,[.int k a,.int k' c]=>if k=k' then some (.int k (if c > a then c else a),H)else none
 | .clear,[x]=>match types.toList with
  |[t]=>(fj P H t x).map λH'=>(.tup [],H')
  |_=>none
 |_,_=>none
def rL:List AV->Bool
 |[.str _,_]=>true
 |_=>false
def gv(k:List UInt8):List (List AV)->Nat->Option (Nat×AV)
 |[],_=>none
 | r::l,i=>match r with
  |[.str k',v]=>if k==k' then some (i,v)else gv k l (i+1)
  |_=>gv k l (i+1)
def AV.konst:AV->Bool
 |.int ..|.bool _|.str _=>true
 |_=>false
def jy(H:ae)(t:TypeId)(m k:AV)(ok:Bool):Option AV:=
 match P.underlying t,m,k with
 | some (.map kt et),.mp b,.str s=>match P.underlying kt,dU P et,H.get b with
  | some .string,some z,some x=>if x.rows.all rL=true then some (match gv s x.rows 0 with
   |some (_,v)=>if ok then .tup [v,.bool true]else v
   |none=>if ok then .tup [z,.bool false]else z)else none
  |_,_,_=>none
 |_,_,_=>none
def eX(H:ae)(t:TypeId)(m k v:AV):Option ae:=
 match P.underlying t,m,k with
 | some (.map kt _),.mp b,.str s=>match P.underlying kt,H.get b with
  | some .string,some x=>if x.rows.all rL=true/\v.konst=true then some (H.put b (some {x with rows:=match gv s x.rows 0 with
   |some (i,_)=>x.rows.set i [.str s,v]
   |none=>x.rows++[[.str s,v]]}))else none
  |_,_=>none
 |_,_,_=>none
def iq(H:ae)(it:AV):Option (AV×ae):=
 match it with
 | .it b=>match H.get b with
  | some x=>match x.rows with
   | [[.str s,.int _ pos]]=>if pos<s.length then
     some (.tup [.bool true,.int .i64 pos,.int .i32 (Utf8.decode ⟨s.toArray⟩ pos.toNat).1],H.put b (some {x with rows:=[[.str s,.int .i64 ((pos.toNat+(Utf8.decode ⟨s.toArray⟩ pos.toNat).2:Nat):Int)]]}))
    else some (.tup [.bool false],H)
   |_=>none
  |none=>none
 |_=>none
def aV(F:TypeId->Option (List TypeId))(o:Op)(ρ:Operand->AV)(b:Nat)(H:ae):Option fM:=
 let v (r:Option AV):Option fM:=r.map λx=>.val x H
 match o with
 |.move x|.assign x=>some (.val (ρ x) H)
 | .pick c x y=>match ρ c with
  |.bool t=>some (.val (if t then ρ x else ρ y) H)
  |_=>none
 | .alloc t=>match (dU P t).bind AV.cells? with
  |some cs=>some (.val (.ptr b 0 0) (H.new b ⟨cs.length,[cs]⟩))
  |none=>none
 | .box _ x=>match (ρ x).cells? with
  |some cs=>if cs.all AV.one then some (.val (.ptr b 0 0) (H.new b ⟨cs.length,[cs]⟩))else none
  |none=>none
 |.build t parts=>v (xm P t (parts.toList.map λp=>(p.1,ρ p.2)))
 | .buildSlice t len parts=>match P.underlying t with
  | some (.slice e)=>match aP P e,(dU P e).bind AV.cells? with
   | some n,some z=>if z.length=n/\0<n/\len*n<=2^24 then
     (eg n (List.replicate len z) (parts.toList.map λp=>(p.1,ρ p.2))).map λrows=>.val (.sl b 0 len) (H.new b ⟨n,rows⟩)
    else none
   |_,_=>none
  |_=>none
 |.load t a=>v (mg P H t (ρ a))
 |.store t a x=>(fW P H t (ρ a) (ρ x)).map λH=>.val (.tup []) H
 | .nilCheck x=>match ρ x with
  |.ptr b i off=>some (.val (.ptr b i off) H)
  |.pptr rows i off=>some (.val (.pptr rows i off) H)
  |.fn f cs=>some (.val (.fn f cs) H)
  |_=>none
 |.binOp op t x y _=>v (gC P F op t (ρ x) (ρ y))
 |.unOp op _ x=>v (RE op (ρ x))
 |.convert s d x=>v (C7 P s d (ρ x))
 |.makeFunc (.func f) first cap=>if first.size=0 then some (.val (.fn f (cap.toList.map ρ)) H)else none
 | .makeSlice t l c=>match P.underlying t with
  | some (.slice e)=>match aP P e,gB P e,(dU P e).bind AV.cells?,ky (ρ l),ky (ρ c)with
   | some n,some by_,some z,some l,some c=>if z.length=n/\0<n/\l<=c/\c<=2^62/\c*by_<=2^48 then
     some (.val (.sl b 0 l) (H.new b ⟨n,List.replicate l z⟩))else none
   |_,_,_,_,_=>none
  |_=>none
 |.slice t x lo hi mx=>if hi.isNone&&mx.isSome then none else v (j6 P (lG H (ρ x)) t (ρ x) (lo.map ρ) (hi.map ρ) (mx.map ρ))
 |.fieldAddr s x f=>v (iP P s (ρ x) f)
 |.field s x f=>v (BO P s (ρ x) f)
 |.indexAddr t x ix=>v (dZ P (lG H (ρ x)) t (ρ x) (ρ ix))
 |.index t x ix=>v (xo P t (ρ x) (ρ ix))
 | .extract x i=>match ρ x with
  |.tup vs=>v (vs[i]?)
  |_=>none
 |.makeMap _ none=>some (.val (.mp b) (H.new b ⟨0,[]⟩))
 |.lookup t m k ok=>v (jy P H t (ρ m) (ρ k) ok)
 |.mapUpdate t m k x=>(eX P H t (ρ m) (ρ k) (ρ x)).map λH=>.val (.tup []) H
 | .range t x=>match P.underlying t,ρ x with
  |some .string,.str s=>some (.val (.it b) (H.new b ⟨0,[[.str s,.int .i64 0]]⟩))
  |_,_=>none
 |.next it true=>(iq H (ρ it)).map λr=>.val r.1 r.2
 | .call c=>match c.callee with
  |.builtin bi=>(bj P H b bi c.argTypes (c.args.toList.map ρ)).map λr=>.val r.1 r.2
  | .value f=>match ρ f with
   |.fn g cs=>some (.call g (c.args.toList.map ρ++cs))
   |_=>none
  |_=>none
 |_=>none
end
end
def gD:List Int:=[0,0,0,0,0,0,3,3,4,4,5,6,7,8,9,10,11,12,13,14,15,16,18,19,20,21,22,23,2]
def NA:List (List UInt8):=[[118,97,114],[118,111,108,97,116,105,108,101],[109,117,116,101,120],[114,119,108,111,99,107],[99,111,110,100],[102,117,116,117,114,101],[116,104,114,101,97,100],[105,102],[101,108,115,101],[119,104,105,108,101],[108,111,99,107],[114,101,97,100],[119,114,105,116,101],[116,114,97,110,115,97,99,116,105,111,110],[97,116,111,109,105,99],[119,97,105,116],[110,111,116,105,102,121],[110,111,116,105,102,121,97,108,108],[115,112,97,119,110],[106,111,105,110],[115,101,116],[103,101,116]]
def RG(g:Nat):Option (List AV):=
 if g=0 then some (gD.map λn=>.int .i64 n)else
 if g=1 then some (NA.map .str)else
 none
def Pu(g:Nat):AV:=
 match RG g with
 |some r=>.pptr [r] 0 0
 |none=>.junk
section
inductive Ex where
 |normal
 |exit (id:Nat)
 |ret
def bK:AV:=.tup []
def jr(τ:List AV):Operand->AV
 |.tmp t=>τ.getD t bK
 |.const v=>(Hv v).getD .junk
 |.global g=>Pu g
 |.func f=>.fn f []
def fT(τ:List AV)(dst:Option Tmp)(v:AV):List AV:=
 match dst with
 |some d=>τ.set d v
 |none=>τ
def dI(ops:Array Oper)(o:Oper)(τ:List AV):Option Bool:=
 match o.guard with
 |none=>some true
 | some (j,want)=>match (ops[j]?).bind (·.dst)with
  | some d=>match τ[d]? with
   |some (.bool b)=>some (b==want)
   |some (.tup [])=>some false
   |_=>none
  |none=>none
section
variable (P:Program) (F:TypeId->Option (List TypeId)) (call:FuncId->List AV->ae->Option (AV×ae))
def jz(ops:Array Oper)(base i:Nat)(τ:List AV)(H:ae):Option (List AV×ae):=
 match ops[i]? with
 |none=>none
 | some o=>match dI ops o τ with
  | some true=>match aV P F o.op (jr τ) (base+i) H with
   |some (.val v H')=>some (fT τ o.dst v,H')
   | some (.call f args)=>match call f args H with
    |some (v,H')=>some (fT τ o.dst v,H')
    |none=>none
   |none=>none
  |some false=>some (fT τ o.dst bK,H)
  |none=>none
def lH(ops:Array Oper)(base:Nat):List Nat->List AV->ae->Option (List AV×ae)
 |[],τ,H=>some (τ,H)
 | i::l,τ,H=>match jz P F call ops base i τ H with
  |some (τ,H)=>lH ops base l τ H
  |none=>none
def af:AV->List Nat
 |.ptr b _ _|.sl b _ _|.mp b|.it b=>[b]
 |_=>[]
def fk:AV->List Nat
 |.sl b _ _=>[b]
 |_=>[]
def aK(o:Op)(ρ:Operand->AV):List Nat:=
 match o with
 |.load _ a=>af (ρ a)
 |.store _ a _=>af (ρ a)
 |.indexAddr _ x _=>fk (ρ x)
 |.slice _ x _ _ _=>fk (ρ x)
 |.lookup _ m _ _=>af (ρ m)
 |.mapUpdate _ m _ _=>af (ρ m)
 |.next it _=>af (ρ it)
 | .call c=>match c.callee with
  |.builtin .append=>c.args.toList.flatMap λx=>af (ρ x)
  |.builtin .clear=>c.args.toList.flatMap λx=>af (ρ x)
  |_=>[]
 |_=>[]
def aD(o:Op)(ρ:Operand->AV):List Nat:=
 match o with
 |.store _ a _=>af (ρ a)
 |.mapUpdate _ m _ _=>af (ρ m)
 |.next it _=>af (ρ it)
 | .call c=>match c.callee with
  |.builtin .append=>(c.args.toList.take 1).flatMap λx=>af (ρ x)
  |.builtin .clear=>c.args.toList.flatMap λx=>af (ρ x)
  |_=>[]
 |_=>[]
structure pR where
 op:Nat
 reads:List Nat
 writes:List Nat
 made:List Nat
 isCall:Bool
 lo:Nat
 hi:Nat
def apart(l m:List Nat):Bool:=l.all λx=>!m.contains x
def kz(x y:pR):Bool:=
 !(apart x.writes y.reads&&apart x.writes y.writes&&apart x.reads y.writes&&apart x.made y.reads&&apart x.made y.writes) ||
 (x.isCall&&(y.isCall||!y.writes.isEmpty||y.reads.any λb=>decide (x.lo<=b)&&decide (b<x.hi)))||(y.isCall&&!x.writes.isEmpty)
def bS:List Oper->List Nat->List Nat
 |[],acc=>acc
 |o::l,acc=>bS l (acc++[o.after.toList.foldl (λs e=>if Region.binds .any e then s ||| 2^e.on ||| acc.getD e.on 0 else s) 0])
def dG(base mask:Nat):Nat->ae->ae
 |0,H=>H
 |j+1,H=>dG base mask j (if mask.testBit j then H else {H with tr:=H.tr.set (base+j) none})
def iu(base mask:Nat)(H:ae):Nat->ae->ae
 |0,K=>K
 |j+1,K=>iu base mask H j (if mask.testBit j then K else {K with tr:=K.tr.set (base+j) (H.tr.get (base+j))})
def bJ(ops:Array Oper)(base i mask:Nat)(τ:List AV)(H:ae):Option (List AV×ae×Option pR):=
 match ops[i]? with
 |none=>none
 | some o=>match dI ops o τ with
  | some true=>match aV P F o.op (jr τ) (base+i) H with
   |some (.val v H')=>some (fT τ o.dst v,{H' with log:=H.log},some ⟨i,aK o.op (jr τ),aD o.op (jr τ),[base+i],false,0,0⟩)
   | some (.call f args)=>match call f args {dG base mask i H with log:=[]} with
    |some (v,H')=>some (fT τ o.dst v,{iu base mask H i H' with log:=H.log},some ⟨i,[],H'.log.filter (λc=>((dG base mask i H).get c).isSome),[],true,H.next,H'.next⟩)
    |none=>none
   |none=>none
  |some false=>some (fT τ o.dst bK,H,none)
  |none=>none
def ey(ops:Array Oper)(base:Nat)(before:List Nat):List Nat->List AV->ae->List pR->Option (List AV×ae×List pR)
 |[],τ,H,rs=>some (τ,H,rs)
 | i::l,τ,H,rs=>match bJ P F call ops base i (before.getD i 0) τ H with
  |some (τ,H,none)=>ey ops base before l τ H rs
  |some (τ,H,some r)=>if rs.all λx=>(before.getD i 0).testBit x.op||!kz x r then ey ops base before l τ H (r::rs)else none
  |none=>none
def dJ(ops:Array Oper)(draw:Bool)(τ:List AV)(H:ae):Option (List AV×ae):=
 let H':={H with next:=H.next+ops.size}
 if draw then match ey P F call ops H.next (bS ops.toList []) (List.range ops.size) τ H' []with
  |some (τ,K,rs)=>some (τ,{K with log:=rs.flatMap (·.writes)++K.log})
  |none=>none
 else lH P F call ops H.next (List.range ops.size) τ H'
def jA(τ:List AV)(H:ae):ResultVar->Option AV
 |.tmp t=>some (τ.getD t bK)
 |.cell a t=>mg P H t (τ.getD a bK)
def kB(τ:List AV)(H:ae)(rs:List ResultVar):Option AV:=
 match cf (rs.map (jA P τ H))with
 |some [v]=>some v
 |some vs=>some (.tup vs)
 |none=>none
def mV(ex:Code->List AV->ae->Option (Ex×List AV×ae))(g:FuncId)(args:List AV)(H:ae):Option (AV×ae):=
 match P.funcs[g]? with
 | some fn=>match fn.body with
  | some c=>match ex c (args++List.replicate (fn.ntmps-args.length) bK) {H with log:=[]} with
   |some (.exit _,_,_)=>none
   | some (_,τ,H')=>match kB P τ H' fn.results.toList with
    |some v=>some (v,{H' with log:=H'.log.filter (·<H.next)++H.log})
    |none=>none
   |none=>none
  |none=>none
 |none=>none
end
def ae.empty:ae:=⟨0,.leaf,[]⟩
end
structure cq where
 block:Nat
 base:Nat
 size:Nat
def cq.ok(pl:cq):Prop:=pl.base=0\/0<pl.size
structure bE where
 map:Nat->Option cq
 fr:Nat->Prop
instance:CoeFun bE (λ_=>Nat->Option cq):=⟨bE.map⟩
structure qF(w:World)(T:Nat->Prop)(rows:List (List AV))(b o sz:Nat):Prop where
 out:¬T b
 even:∀(i:Nat) (r:List AV),rows[i]? =some r->r.length=sz
 cell:∀i j,i<rows.length->j<sz->∃u,w.cell? ⟨b,o+i*sz+j,none⟩=some u
 pos:0<sz
 ne:0<rows.length
inductive bn (w:World) (σ:bE) (T:Nat->Prop):AV->Value->Prop where
 |int (k:IntKind) (n:Int):bn w σ T (.int k n) (.int k n)
 |bool (b:Bool):bn w σ T (.bool b) (.bool b)
 |str (s:ByteArray):bn w σ T (.str s.data.toList) (.string s)
 |nilp:bn w σ T .nilp (.pointer none)
 |ptr (b i off:Nat) (pl:cq) (h:σ b=some pl) (hp:pl.ok):bn w σ T (.ptr b i off) (.pointer (some ⟨pl.block,pl.base+i*pl.size+off,none⟩))
 | pptr (rows:List (List AV)) (i off b o sz:Nat) (hl:qF w T rows b o sz)
   (h:∀(i:Nat) (r:List AV) (j:Nat) (a:AV) (u:Value),rows[i]? =some r->r[j]? =some a->w.cell? ⟨b,o+i*sz+j,none⟩=some u->bn w σ T a u) :
   bn w σ T (.pptr rows i off) (.pointer (some ⟨b,o+i*sz+off,none⟩))
 |nils:bn w σ T .nils (.slice none 0 0)
 |emp (a:Option Addr):bn w σ T .emp (.slice a 0 0)
 | sl (b i n:Nat) (pl:cq) (a:Addr) (cap:Nat) (h:σ b=some pl) (hp:pl.ok) (hn:n<=cap) (hm:cap<=maxLen)
   (ha:0<cap->a=⟨pl.block,pl.base+i*pl.size,none⟩/\∃cs e,w.heap[pl.block]? =some (.cells cs e (0,0))/\pl.base+(i+cap)*pl.size<=cs.size) :
   bn w σ T (.sl b i n) (.slice (some a) n cap)
 |lst0 (a:Option Addr) (cap:Nat) (hm:cap<=maxLen):bn w σ T (.lst []) (.slice a 0 cap)
 | lst (rows:List (List AV)) (b o sz cap:Nat) (hl:qF w T rows b o sz) (hn:rows.length<=cap) (hm:cap<=maxLen)
   (h:∀(i:Nat) (r:List AV) (j:Nat) (a:AV) (u:Value),rows[i]? =some r->r[j]? =some a->w.cell? ⟨b,o+i*sz+j,none⟩=some u->bn w σ T a u) :
   bn w σ T (.lst rows) (.slice (some ⟨b,o,none⟩) rows.length cap)
 |mp (b:Nat) (pl:cq) (h:σ b=some pl) (hs:pl.size=0) (hb:pl.base=1):bn w σ T (.mp b) (.map (some pl.block))
 |it (b:Nat) (pl:cq) (h:σ b=some pl) (hs:pl.size=0) (hb:pl.base=2):bn w σ T (.it b) (.pointer (some ⟨pl.block,0,none⟩))
 |agg (cs:List AV) (vs:List Value) (hl:cs.length=vs.length) (h:∀(i:Nat) (a:AV) (v:Value),cs[i]? =some a->vs[i]? =some v->bn w σ T a v):bn w σ T (.agg cs) (.agg vs.toArray)
 |tup (cs:List AV) (vs:List Value) (hl:cs.length=vs.length) (h:∀(i:Nat) (a:AV) (v:Value),cs[i]? =some a->vs[i]? =some v->bn w σ T a v):bn w σ T (.tup cs) (.tuple vs.toArray)
 |fn (f:FuncId) (cs:List AV) (vs:List Value) (hl:cs.length=vs.length) (h:∀(i:Nat) (a:AV) (v:Value),cs[i]? =some a->vs[i]? =some v->bn w σ T a v):bn w σ T (.fn f cs) (.func (.func f) #[] vs.toArray)
 |nilf:bn w σ T .nilf .nilFunc
 |junk (v:Value):bn w σ T .junk v
def eG(w:World)(σ:bE)(T:Nat->Prop)(cs:List AV)(vs:List Value):Prop:=
 cs.length=vs.length/\∀(i:Nat) (a:AV) (v:Value),cs[i]? =some a->vs[i]? =some v->bn w σ T a v
def zR(σ:bE)(H:ae)(c:Nat):Prop:=∃b x pl,H.get b=some x/\σ b=some pl/\pl.block=c
def aQ(σ:bE)(H:ae)(c:Nat):Prop:=σ.fr c\/zR σ H c
structure tI(w:World)(σ:bE)(T:Nat->Prop)(x:Blk)(pl:cq)(cs:Array Value)(e:TypeId):Prop where
 size:pl.size=x.size
 block:w.heap[pl.block]? =some (.cells cs e (0,0))
 even:∀(i:Nat) (r:List AV),x.rows[i]? =some r->r.length=x.size
 room:pl.base+x.rows.length*x.size<=cs.size
 rep:∀(i:Nat) (r:List AV) (j:Nat) (a:AV) (u:Value),x.rows[i]? =some r->r[j]? =some a->cs[pl.base+i*x.size+j]? =some u->bn w σ T a u
def C8:Value->Option AV
 |.int k n=>some (.int k n)
 |.bool b=>some (.bool b)
 |.string s=>some (.str s.data.toList)
 |_=>none
def C9(e:MapEntry):Option (List AV):=
 match C8 e.key,C8 e.val with
 |some k,some v=>some [k,v]
 |_,_=>none
structure rM(w:World)(x:Blk)(pl:cq):Prop where
 size:x.size=0
 psize:pl.size=0
 obj:(pl.base=1/\∃es clk,w.heap[pl.block]? =some (.map es clk)/\es.toList.map C9=x.rows.map some) \/
  (pl.base=2/\∃(s:ByteArray) (pos:Nat),w.heap[pl.block]? =some (.stringIter s pos)/\x.rows=[[.str s.data.toList,.int .i64 pos]])
def jB(w:World)(σ:bE)(T:Nat->Prop)(x:Blk)(pl:cq)(cs:Array Value)(e:TypeId):Prop:=
 (pl.ok->tI w σ T x pl cs e)/\(¬pl.ok->rM w x pl)
def jB.of{w:World}{σ:bE}{T:Nat->Prop}{x:Blk}{j:cq}{cs:Array Value}{e:TypeId}(hp:j.ok)(h:tI w σ T x j cs e):jB w σ T x j cs e:=⟨λ_=>h,λu=>absurd hp u⟩
def hY(w:World)(T:Nat->Prop):Prop:=∀g r,RG g=some r->¬T g/\0<r.length/\∀(j:Nat) (a:AV),r[j]? =some a->∃u,w.cell? ⟨g,j,none⟩=some u/\C8 u=some a
structure bv(w:World)(σ:bE)(H:ae):Prop where
 named:∀b pl,σ b=some pl->b<H.next
 lt:∀b pl,σ b=some pl->pl.block<w.heap.size
 live:∀b x,H.get b=some x->∃pl cs e,σ b=some pl/\jB w σ (aQ σ H) x pl cs e
 apart:∀c,σ.fr c->c<w.heap.size/\¬zR σ H c
 inj:∀b b' x x' pl pl',H.get b=some x->H.get b'=some x'->σ b=some pl->σ b'=some pl'->pl.block=pl'.block->b=b'
 glob:hY w (aQ σ H)
structure eH(w:World)(σ:bE)(T:Nat->Prop)(w':World)(σ':bE)(T':Nat->Prop):Prop where
 os:w'.os=w.os
 tape:w'.tape=w.tape
 output:w'.output=w.output
 size:w.heap.size<=w'.heap.size
 keep:∀c,c<w.heap.size->¬T c->w'.heap[c]? =w.heap[c]?
 shape:∀(c:Nat) (cs:Array Value) (e:TypeId),w.heap[c]? =some (.cells cs e (0,0))->∃cs':Array Value,w'.heap[c]? =some (.cells cs' e (0,0))/\cs'.size=cs.size
 sig:∀b pl,σ b=some pl->σ' b=some pl
 eqfr:σ'.fr=σ.fr
 frame:∀c,σ.fr c->w'.heap[c]? =w.heap[c]?
 own:∀c,T' c->T c\/w.heap.size<=c
def eH.refl(w:World)(σ:bE)(T:Nat->Prop):eH w σ T w σ T:=
 ⟨rfl,rfl,rfl,Fd _,λ_ _ _=>rfl,λ_ j _ h=>⟨j,h,rfl⟩,λ_ _ h=>h,rfl,λ_ _=>rfl,λ_ h=>.inl h⟩
def eH.trans{w w' D:World}{σ σ' j:bE}{T T' T'':Nat->Prop}(h:eH w σ T w' σ' T')(k:eH w' σ' T' D j T''):eH w σ T D j T'' where
 os:=k.os.trans h.os
 tape:=k.tape.trans h.tape
 output:=k.output.trans h.output
 size:=SK h.size k.size
 keep:=λc B S=>by
  have M:c<w'.heap.size:=SW B h.size;have:¬T' c:=λY=>by
   rcases h.own c Y with u|u
   .exact S u
   .omega
  exact(k.keep c M this).trans (h.keep c B S)
 shape:=λc cs e G=>by obtain⟨N,u,h2⟩:=h.shape c cs e G;obtain⟨E,h3,h4⟩:=k.shape c N e u;exact⟨E,h3,h4.trans h2⟩
 sig:=λb O Z=>k.sig b O (h.sig b O Z)
 eqfr:=k.eqfr.trans h.eqfr
 frame:=λc B=>(k.frame c (by rw[h.eqfr];exact B)).trans (h.frame c B)
 own:=λc B=>by
  rcases k.own c B with u|u
  .exact h.own c u
  .exact .inr (SK h.size u)
def u7{w:World}{b o:Nat}{u:Value}(h:w.cell? ⟨b,o,none⟩=some u):b<w.heap.size:=by
 rcases Fn b w.heap.size with j|B
 .exact j
 .simp[World.cell?,Array.getElem?_eq_none B]at h
def qF.lt{w:World}{T:Nat->Prop}{rows:List (List AV)}{b o sz:Nat}(h:qF w T rows b o sz):b<w.heap.size:=by obtain⟨u,j⟩:=h.cell 0 0 h.ne h.pos;exact u7 j
def qF.cell_eq{w w':World}{σ σ':bE}{T T':Nat->Prop}{rows:List (List AV)}{b o sz:Nat}(h:qF w T rows b o sz)(e:eH w σ T w' σ' T')(k:Nat):
  w'.cell? ⟨b,k,none⟩=w.cell? ⟨b,k,none⟩:=
 World.cell?_of_block (w:=w) (w':=w') (a:=⟨b,k,none⟩) (e.keep b h.lt h.out)
def qF.mono{w w':World}{σ σ':bE}{T T':Nat->Prop}{rows:List (List AV)}{b o sz:Nat}(h:qF w T rows b o sz)(e:eH w σ T w' σ' T'):qF w' T' rows b o sz where
 out:=λB=>by
  rcases e.own b B with u|u
  .exact h.out u
  .have:=h.lt;omega
 even:=h.even
 cell:=λi j E D=>by rw[h.cell_eq e];exact h.cell i j E D
 pos:=h.pos
 ne:=h.ne
def hY.mono{w w':World}{σ σ':bE}{T T':Nat->Prop}(e:eH w σ T w' σ' T')(h:hY w T):hY w' T':=λg r Y=>by
 obtain⟨N,M,G⟩:=h g r Y;obtain⟨u,B,_⟩:=G 0 r[0] (mt M);have D:=u7 B;refine⟨λO=>?_,M,λj a S=>?_⟩
 .rcases e.own g O with E|E
  .exact N E
  .omega
 .obtain⟨u,B,Z⟩:=G j a S;exact⟨u,by rw[World.cell?_of_block (w:=w) (w':=w') (a:=⟨g,j,none⟩) (e.keep g D N)];exact B,Z⟩
def hY.less{w:World}{T T':Nat->Prop}(h:hY w T)(B:∀c,T' c->T c):hY w T':=λg r j=>⟨λu=>(h g r j).1 (B g u),(h g r j).2⟩
def hY.rep{w:World}{σ:bE}{T:Nat->Prop}(h:hY w T)(g:Nat):bn w σ T (Pu g) (.pointer (some ⟨g,0,none⟩)):=by
 unfold Pu;cases S:RG g with
 |none=>exact .junk _
 |some r=>
  obtain⟨h1,Z,M⟩:=h g r S;have:=bn.pptr (w:=w) (σ:=σ) (T:=T) [r] 0 0 g 0 r.length ⟨h1,λi q D=>?_,λi j O N=>?_,Z,Ud⟩ λi q j a u D Y G=>?_
  .simpa using this
  .match i with
   |0=>cases D;rfl
   |i+1=>simp at D
  .have h0:i=0:=by simpa using O
   subst h0;obtain⟨u,G,_⟩:=M j _ (mt N);exact⟨u,by simpa using G⟩
  .match i with
   |0=>
    cases D;obtain⟨u',B,E⟩:=M j a Y;simp only[Nat.zero_mul,T2,Tm]at G;rw[G]at B;cases B;cases u<;>simp only[C8,SF,reduceCtorEq]at E<;>subst E
    .exact .bool _
    .exact .int _ _
    .exact .str _
   |i+1=>simp at D
def bn.mono{w w':World}{σ σ':bE}{T T':Nat->Prop}(e:eH w σ T w' σ' T'){a:AV}{v:Value}(h:bn w σ T a v):bn w' σ' T' a v:=by
 induction h with
 |int k n=>exact .int k n
 |bool b=>exact .bool b
 |str s=>exact .str s
 |nilp=>exact .nilp
 |ptr b i S D h hp=>exact .ptr b i S D (e.sig b D h) hp
 |mp b D h O N=>exact .mp b D (e.sig b D h) O N
 |it b D h O N=>exact .it b D (e.sig b D h) O N
 |pptr B i S b o sz E h M=>exact .pptr B i S b o sz (E.mono e) λi r j a u O N h3=>M i r j a u O N (by rwa [E.cell_eq e]at h3)
 |nils=>exact .nils
 |emp a=>exact .emp a
 |sl b i n D a G h hp hn hm ha=>
  refine .sl b i n D a G (e.sig b D h) hp hn hm λhc=>?_
  obtain⟨O,Y,ty,N,h3⟩:=ha hc;obtain⟨cs',h4,h5⟩:=e.shape _ _ _ N;exact⟨O,cs',ty,h4,Ua⟩
 |lst0 a G hm=>exact .lst0 a G hm
 |lst B b o sz G E hn hm h M=>exact .lst B b o sz G (E.mono e) hn hm λi r j a u O N h3=>M i r j a u O N (by rwa [E.cell_eq e]at h3)
 |agg Y Z E h M=>exact .agg Y Z E M
 |tup Y Z E h M=>exact .tup Y Z E M
 |fn f Y Z E h M=>exact .fn f Y Z E M
 |nilf=>exact .nilf
 |junk v=>exact .junk v
def eG.mono{w w':World}{σ σ':bE}{T T':Nat->Prop}(e:eH w σ T w' σ' T'){cs:List AV}{vs:List Value}(h:eG w σ T cs vs):eG w' σ' T' cs vs:=
 ⟨h.1,λi a v u j=>(h.2 i a v u j).mono e⟩
def ae.get_new(H:ae)(b c:Nat)(x:Blk):(H.new b x).get c=if b=c then some x else H.get c:=Tr.get_set _ _ _ _
def ae.get_put(H:ae)(b c:Nat)(x:Option Blk):(H.put b x).get c=if b=c then x else H.get c:=Tr.get_set _ _ _ _
def tI.mono{w w':World}{σ σ':bE}{T T':Nat->Prop}{x:Blk}{B:cq}{cs:Array Value}{e:TypeId}(h:tI w σ T x B cs e)(N:eH w σ T w' σ' T')
  (D:w'.heap[B.block]? =w.heap[B.block]?):tI w' σ' T' x B cs e:=
 ⟨h.size,D.trans h.block,h.even,h.room,λi r j a u M G E=>(h.rep i r j a u M G E).mono N⟩
def rM.mono{w w':World}{x:Blk}{j:cq}(h:rM w x j)(u:w'.heap[j.block]? =w.heap[j.block]?):rM w' x j:=⟨h.size,h.psize,by rw[u];exact h.obj⟩
def jB.mono{w w':World}{σ σ':bE}{T T':Nat->Prop}{x:Blk}{j:cq}{cs:Array Value}{e:TypeId}(h:jB w σ T x j cs e)(D:eH w σ T w' σ' T')
  (u:w'.heap[j.block]? =w.heap[j.block]?):jB w' σ' T' x j cs e:=⟨λhp=>(h.1 hp).mono D u,λB=>(h.2 B).mono u⟩
def bv.ok_of{w:World}{σ:bE}{H:ae}(O:bv w σ H){b:Nat}{x:Blk}{u:cq}(N:H.get b=some x)(M:σ b=some u){cs:Array Value}{e:TypeId}(B:w.heap[u.block]? =some (.cells cs e (0,0))):u.ok:=by
 obtain⟨G,Y,e',D,S⟩:=O.live b x N;rw[M]at D;cases D;by_cases hp:u.ok
 .exact hp
 .rcases(S.2 hp).obj with⟨_,es,Z,j,_⟩|⟨_,s,E,j,_⟩
  .rw[B]at j;cases j
  .rw[B]at j;cases j
def cq.ok_over{j:cq}(h:j.ok)(c k:Nat):cq.ok ⟨c,j.base+k*j.size,j.size⟩:=by
 rcases h with h|h
 .rcases Ts j.size with u|u
  .left;show j.base+k*j.size=0;rw[h,u];simp
  .exact .inr u
 .exact .inr h
def eH.same{w w':World}(σ:bE)(T:Nat->Prop)(j:w'.heap=w.heap)(u:w'.os=w.os)(ht:w'.tape=w.tape)(hp:w'.output=w.output):eH w σ T w' σ T:=
 ⟨u,ht,hp,by rw[j];exact Fd _,λ_ _ _=>by rw[j],λ_ B _ h=>⟨B,by rw[j];exact h,rfl⟩,λ_ _ h=>h,rfl,λ_ _=>by rw[j],λ_ h=>.inl h⟩
def bv.same{w w':World}{σ:bE}{H:ae}(h:bv w σ H)(j:w'.heap=w.heap)(D:w'.os=w.os)(ht:w'.tape=w.tape)(hp:w'.output=w.output):bv w' σ H:=
 ⟨h.named,λb u B=>by rw[j];exact h.lt b u B,λb x B=>by
  obtain⟨u,N,e,M,G⟩:=h.live b x B;exact⟨u,N,e,M,G.mono (eH.same σ _ j D ht hp) (by rw[j])⟩,λc E=>by rw[j];exact h.apart c E,h.inj,h.glob.mono (eH.same σ _ j D ht hp)⟩
def bv.congr{w:World}{σ:bE}{H K:ae}(h:bv w σ H)(j:∀b,K.get b=H.get b)(N:H.next<=K.next):bv w σ K:=by
 have E:zR σ K=zR σ H:=by funext c;simp[zR,j]
 have G:aQ σ K=aQ σ H:=by funext c;simp[aQ,E]
 refine⟨λb B D=>SW (h.named b B D) N,h.lt,λb x D=>?_,by rw[E];exact h.apart,λb Y x M B u S O=>h.inj b Y x M B u (by rwa [j]at S) (by rwa [j]at O),by rw[G];exact h.glob⟩;rw[G];exact h.live b x (by rwa [j]at D)
def aQ.congr{σ:bE}{H K:ae}(j:∀b,K.get b=H.get b):aQ σ K=aQ σ H:=by funext c;simp[aQ,zR,j]
def aQ.sub{σ:bE}{H K:ae}(u:∀b x,K.get b=some x->H.get b=some x){c:Nat}(h:aQ σ K c):aQ σ H c:=by
 rcases h with h|⟨b,x,j,E,D,B⟩
 .exact .inl h
 .exact .inr ⟨b,x,j,u b x E,D,B⟩
def eH.sub{w:World}{σ:bE}{H K:ae}(j:∀b x,K.get b=some x->H.get b=some x):eH w σ (aQ σ H) w σ (aQ σ K):=
 ⟨rfl,rfl,rfl,Fd _,λ_ _ _=>rfl,λ_ u _ h=>⟨u,h,rfl⟩,λ_ _ h=>h,rfl,λ_ _=>rfl,λ_ h=>.inl (aQ.sub j h)⟩
def bv.sub{w:World}{σ:bE}{H K:ae}(h:bv w σ H)(u:∀b x,K.get b=some x->H.get b=some x)(O:H.next<=K.next):bv w σ K:=
 ⟨λb j G=>SW (h.named b j G) O,h.lt,λb x G=>by
  obtain⟨j,Y,e,D,B⟩:=h.live b x (u b x G);exact⟨j,Y,e,D,B.mono (eH.sub u) rfl⟩,λc M=>⟨(h.apart c M).1,λ⟨b,x,j,D,B,S⟩=>(h.apart c M).2 ⟨b,x,j,u b x D,B,S⟩⟩,λb Z x N j E D B=>h.inj b Z x N j E (u _ _ D) (u _ _ B),h.glob.mono (eH.sub u)⟩
def bE.set(σ:bE)(b:Nat)(pl:cq):bE:={σ with map:=λc=>if b=c then some pl else σ c}
def bE.set_eq(σ:bE)(b:Nat)(j:cq):σ.set b j b=some j:=by simp[bE.set]
def bE.set_ne(σ:bE){b c:Nat}(j:cq)(h:b≠c):σ.set b j c=σ c:=by simp[bE.set,h]
def bE.set_old{σ:bE}{b c:Nat}{j q:cq}(u:σ b=none)(h:σ c=some q):σ.set b j c=some q:=by rw[bE.set_ne _ _ (by rintro rfl;rw[u]at h;cases h)];exact h
def World.push(w:World)(o:Obj):World:={w with heap:=w.heap.push o}
def bv.new{w:World}{σ:bE}{H:ae}(h:bv w σ H){b:Nat}(hb:σ b=none)(Z:b<H.next){x:Blk}{cs:Array Value}{e:TypeId}
  (even:∀(i:Nat) (r:List AV),x.rows[i]? =some r->r.length=x.size) (room:x.rows.length*x.size<=cs.size)
  (rep:∀(i:Nat) (r:List AV) (j:Nat) (a:AV) (u:Value),x.rows[i]? =some r->r[j]? =some a->cs[i*x.size+j]? =some u->bn w σ (aQ σ H) a u) :
  bv (World.push w (.cells cs e (0,0))) (σ.set b ⟨w.heap.size,0,x.size⟩) (H.new b x)/\
  eH w σ (aQ σ H) (World.push w (.cells cs e (0,0))) (σ.set b ⟨w.heap.size,0,x.size⟩) (aQ (σ.set b ⟨w.heap.size,0,x.size⟩) (H.new b x)):=by
 have hnone:H.get b=none:=by
  cases hg:H.get b with
  |none=>rfl
  |some y=>obtain⟨O,_,_,G,_⟩:=h.live b y hg;rw[hb]at G;cases G
 have S:∀c,c<w.heap.size->(World.push w (.cells cs e (0,0))).heap[c]? =w.heap[c]? :=λc D=>by show(w.heap.push _)[c]? =_;rw[Array.getElem?_push,if_neg (Nat.ne_of_lt D)]
 have ext:eH w σ (aQ σ H) (World.push w (.cells cs e (0,0))) (σ.set b ⟨w.heap.size,0,x.size⟩) (aQ (σ.set b ⟨w.heap.size,0,x.size⟩) (H.new b x)):=by
  refine⟨rfl,rfl,rfl,by simp[World.push],λc D _=>S c D,λc cs' e' D=>⟨cs',?_,rfl⟩,λc q hq=>bE.set_old hb hq,rfl,λc D=>S c (h.apart c D).1,?_⟩
  .rcases Fn c w.heap.size with Z|hge
   .rw[S c Z];exact D
   .rw[Array.getElem?_eq_none hge]at D;cases D
  .rintro c (hfr|⟨b',y,O,G,M,Y⟩)
   .exact .inl (.inl hfr)
   rw[ae.get_new]at G;by_cases N:b=b'
   .subst N;rw[bE.set_eq]at M;cases M;exact .inr (by simp only[]at Y;omega)
   .rw[if_neg N]at G;rw[bE.set_ne _ _ N]at M;exact .inl (.inr ⟨b',y,O,G,M,Y⟩)
 have hap:∀c,(σ.set b ⟨w.heap.size,0,x.size⟩).fr c->c<(World.push w (.cells cs e (0,0))).heap.size/\¬zR (σ.set b ⟨w.heap.size,0,x.size⟩) (H.new b x) c:=λc D=>by
  have hlt':=(h.apart c D).1;refine⟨by simp[World.push];omega,?_⟩;rintro⟨b',y,O,G,M,Y⟩;rw[ae.get_new]at G;by_cases N:b=b'
  .subst N;rw[bE.set_eq]at M;cases M;simp only[]at Y;omega
  .rw[if_neg N]at G;rw[bE.set_ne _ _ N]at M;exact(h.apart c D).2 ⟨b',y,O,G,M,Y⟩
 refine⟨⟨?_,?_,?_,hap,?_,h.glob.mono ext⟩,ext⟩
 .intro c O D;by_cases B:b=c
  .subst B;exact Z
  .rw[bE.set_ne _ _ B]at D;exact h.named c O D
 .intro c O D;by_cases B:b=c
  .subst B;rw[bE.set_eq]at D;cases D;simp[World.push]
  .rw[bE.set_ne _ _ B]at D;have:=h.lt c O D;simp[World.push];omega
 .intro c y hy;rw[ae.get_new]at hy;by_cases B:b=c
  .subst B;rw[if_pos rfl]at hy;cases hy;refine⟨_,cs,e,bE.set_eq _ _ _,.of (.inl rfl) ⟨rfl,by show(w.heap.push _)[w.heap.size]? =_;simp,even,by simpa using room,λi r j a u G M Y=>(rep i r j a u G M (by simpa using Y)).mono ext⟩⟩
  .rw[if_neg B]at hy;obtain⟨O,cs',e',G,M⟩:=h.live c y hy;exact⟨O,cs',e',by rw[bE.set_ne _ _ B];exact G,M.mono ext (S _ (h.lt c O G))⟩
 .intro c c' y y' O pl' G M Y h4 h5;rw[ae.get_new]at G M;by_cases B:b=c
  .by_cases E:b=c'
   .exact B.symm.trans E
   .subst B;rw[bE.set_eq]at Y;cases Y;rw[bE.set_ne _ _ E]at h4;have:=h.lt c' pl' h4;simp only[]at h5;omega
  .by_cases E:b=c'
   .subst E;rw[bE.set_eq]at h4;cases h4;rw[bE.set_ne _ _ B]at Y;have:=h.lt c O Y;simp only[]at h5;omega
   .rw[if_neg B]at G;rw[if_neg E]at M;rw[bE.set_ne _ _ B]at Y;rw[bE.set_ne _ _ E]at h4;exact h.inj c c' y y' O pl' G M Y h4 h5
structure kC(w w':World)(c:Nat)(cs cs':Array Value)(e:TypeId):Prop where
 os:w'.os=w.os
 tape:w'.tape=w.tape
 output:w'.output=w.output
 size:w'.heap.size=w.heap.size
 old:w.heap[c]? =some (.cells cs e (0,0))
 new:w'.heap[c]? =some (.cells cs' e (0,0))
 len:cs'.size=cs.size
 rest:∀d,d≠c->w'.heap[d]? =w.heap[d]?
def kC.refl{w:World}{c:Nat}{cs:Array Value}{e:TypeId}(h:w.heap[c]? =some (.cells cs e (0,0))):kC w w c cs cs e:=
 ⟨rfl,rfl,rfl,rfl,h,h,rfl,λ_ _=>rfl⟩
def kC.ext{w w':World}{c:Nat}{cs B:Array Value}{e:TypeId}(h:kC w w' c cs B e){σ σ':bE}{T T':Nat->Prop}(N:T c)(D:∀b G,σ b=some G->σ' b=some G)
  (E:σ'.fr=σ.fr) (M:¬σ.fr c) (O:∀d,T' d->T d):eH w σ T w' σ' T':=by
 refine⟨h.os,h.tape,h.output,by rw[h.size];exact Fd _,λd _ j=>h.rest d (by rintro rfl;exact j N),λd ds S j=>?_,D,E,λd j=>h.rest d (by rintro rfl;exact M j),λd j=>.inl (O d j)⟩;by_cases u:d=c
 .subst u;rw[h.old]at j;cases j;exact⟨B,h.new,h.len⟩
 .exact⟨ds,by rw[h.rest d u];exact j,rfl⟩
def bv.put{w w':World}{σ:bE}{H:ae}(h:bv w σ H){b:Nat}{x x':Blk}{N:cq}{cs Z:Array Value}{e:TypeId}(hg:H.get b=some x)(hs:σ b=some N)
  (S:kC w w' N.block cs Z e) (hx:x'.size=N.size)
  (even:∀(i:Nat) (r:List AV),x'.rows[i]? =some r->r.length=x'.size) (room:N.base+x'.rows.length*x'.size<=cs.size)
  (rep:∀(i:Nat) (r:List AV) (j:Nat) (a:AV) (u:Value),x'.rows[i]? =some r->r[j]? =some a->Z[N.base+i*x'.size+j]? =some u->bn w σ (aQ σ H) a u) :
  bv w' σ (H.put b (some x'))/\eH w σ (aQ σ H) w' σ (aQ σ (H.put b (some x'))):=by
 have O:zR σ (H.put b (some x'))=zR σ H:=by
  funext c;apply propext;constructor
  .rintro⟨b',y,q,D,G,Y⟩;rw[ae.get_put]at D;by_cases E:b=b'
   .subst E;exact⟨b,x,q,hg,G,Y⟩
   .rw[if_neg E]at D;exact⟨b',y,q,D,G,Y⟩
  .rintro⟨b',y,q,D,G,Y⟩;by_cases E:b=b'
   .subst E;exact⟨b,x',q,by rw[ae.get_put,if_pos rfl],G,Y⟩
   .exact⟨b',y,q,by rw[ae.get_put,if_neg E];exact D,G,Y⟩
 have hown:aQ σ (H.put b (some x'))=aQ σ H:=by funext c;simp[aQ,O]
 have ext:eH w σ (aQ σ H) w' σ (aQ σ (H.put b (some x'))):=by rw[hown];exact S.ext (.inr ⟨b,x,N,hg,hs,rfl⟩) (λ_ _ h=>h) rfl (λhf=>(h.apart _ hf).2 ⟨b,x,N,hg,hs,rfl⟩) (λ_ h=>h)
 refine⟨⟨h.named,λc q hc=>by rw[S.size];exact h.lt c q hc,?_,λc hc=>by rw[S.size,O];exact h.apart c hc,?_,h.glob.mono ext⟩,ext⟩
 .intro c y M;rw[ae.get_put]at M;by_cases B:b=c
  .subst B;rw[if_pos rfl]at M;cases M;exact⟨N,Z,e,hs,.of (h.ok_of hg hs S.old) ⟨hx.symm,S.new,even,by rw[S.len];exact room,λi r j a u D G Y=>(rep i r j a u D G Y).mono ext⟩⟩
  .rw[if_neg B]at M;obtain⟨q,ds,e',D,G⟩:=h.live c y M;exact⟨q,ds,e',D,G.mono ext (S.rest _ λhe=>B (h.inj b c x y N q hg M hs D he.symm))⟩
 .intro c c' y y' q q' D G;have aux:∀c y,(H.put b (some x')).get c=some y->∃z,H.get c=some z:=λc y M=>by
   rw[ae.get_put]at M;by_cases B:b=c
   .subst B;exact⟨x,hg⟩
   .rw[if_neg B]at M;exact⟨y,M⟩
  obtain⟨z,hz⟩:=aux c y D;obtain⟨z',hz'⟩:=aux c' y' G;exact h.inj c c' z z' q q' hz hz'
def bv.over{w w':World}{σ:bE}{H:ae}(h:bv w σ H){b D:Nat}{x x':Blk}{B:cq}{cs cs':Array Value}{e:TypeId}{k:Nat}(hg:H.get b=some x)(Y:σ b=some B)
  (hb:σ D=none) (hlt:D<H.next) (hw:kC w w' B.block cs cs' e) (hx:x'.size=B.size)
  (even:∀(i:Nat) (r:List AV),x'.rows[i]? =some r->r.length=x'.size) (room:B.base+k*B.size+x'.rows.length*x'.size<=cs.size)
  (rep:∀(i:Nat) (r:List AV) (j:Nat) (a:AV) (u:Value),x'.rows[i]? =some r->r[j]? =some a->cs'[B.base+k*B.size+i*x'.size+j]? =some u->bn w σ (aQ σ H) a u) :
  bv w' (σ.set D ⟨B.block,B.base+k*B.size,B.size⟩) ((H.put b none).new D x')/\
  eH w σ (aQ σ H) w' (σ.set D ⟨B.block,B.base+k*B.size,B.size⟩) (aQ (σ.set D ⟨B.block,B.base+k*B.size,B.size⟩) ((H.put b none).new D x')):=by
 have hne:D≠b:=by rintro rfl;rw[hb]at Y;cases Y
 have E:∀c y,((H.put b none).new D x').get c=some y->(c=D/\y=x')\/(c≠D/\c≠b/\H.get c=some y):=λc y S=>by
  rw[ae.get_new]at S;by_cases M:D=c
  .rw[if_pos M]at S;cases S;exact .inl ⟨M.symm,rfl⟩
  .rw[if_neg M,ae.get_put]at S;by_cases G:b=c
   .rw[if_pos G]at S;cases S
   .rw[if_neg G]at S;exact .inr ⟨λe=>M e.symm,λe=>G e.symm,S⟩
 have htok:∀d,zR (σ.set D ⟨B.block,B.base+k*B.size,B.size⟩) ((H.put b none).new D x') d->zR σ H d:=by
  rintro d ⟨c,y,q,M,G,O⟩;rcases E c y M with⟨rfl,rfl⟩|⟨h4,_,h5⟩
  .rw[bE.set_eq]at G;cases G;exact⟨b,x,B,hg,Y,O⟩
  .rw[bE.set_ne _ _ (λe=>h4 e.symm)]at G;exact⟨c,y,q,h5,G,O⟩
 have ext:eH w σ (aQ σ H) w' (σ.set D ⟨B.block,B.base+k*B.size,B.size⟩) (aQ (σ.set D ⟨B.block,B.base+k*B.size,B.size⟩) ((H.put b none).new D x')):=by
  refine hw.ext (.inr ⟨b,x,B,hg,Y,rfl⟩) (λc q hq=>bE.set_old hb hq) rfl (λhf=>(h.apart _ hf).2 ⟨b,x,B,hg,Y,rfl⟩) ?_;rintro d (hfr|hd)
  .exact .inl hfr
  .exact .inr (htok d hd)
 refine⟨⟨?_,?_,?_,λc Z=>⟨by rw[hw.size];exact(h.apart c Z).1,λht=>(h.apart c Z).2 (htok c ht)⟩,?_,h.glob.mono ext⟩,ext⟩
 .intro c q Z;by_cases N:D=c
  .subst N;exact hlt
  .rw[bE.set_ne _ _ N]at Z;exact h.named c q Z
 .intro c q Z;rw[hw.size];by_cases N:D=c
  .subst N;rw[bE.set_eq]at Z;cases Z;exact h.lt b B Y
  .rw[bE.set_ne _ _ N]at Z;exact h.lt c q Z
 .intro c y S;rcases E c y S with⟨rfl,rfl⟩|⟨h4,h6,h5⟩
  .exact⟨_,cs',e,bE.set_eq _ _ _,.of (cq.ok_over (h.ok_of hg Y hw.old) _ _) ⟨hx.symm,hw.new,even,by rw[hw.len];exact room,λi r j a u M G O=>(rep i r j a u M G O).mono ext⟩⟩
  .obtain⟨q,ds,e',M,G⟩:=h.live c y h5;exact⟨q,ds,e',by rw[bE.set_ne _ _ (λe=>h4 e.symm)];exact M,G.mono ext (hw.rest _ λhe=>h6 (h.inj c b y x q B h5 hg M Y he))⟩
 .intro c c' y y' q q' M G O h4 h5;rcases E c y M with⟨rfl,rfl⟩|⟨a1,a2,a3⟩
  .rcases E c' y' G with⟨rfl,rfl⟩|⟨b1,b2,b3⟩
   .rfl
   .rw[bE.set_eq]at O;cases O;rw[bE.set_ne _ _ (λe=>b1 e.symm)]at h4;exact absurd (h.inj b c' x y' B q' hg b3 Y h4 h5) (λe=>b2 e.symm)
  .rcases E c' y' G with⟨rfl,rfl⟩|⟨b1,b2,b3⟩
   .rw[bE.set_eq]at h4;cases h4;rw[bE.set_ne _ _ (λe=>a1 e.symm)]at O;exact absurd (h.inj c b y x q B a3 hg O Y h5) a2
   .rw[bE.set_ne _ _ (λe=>a1 e.symm)]at O;rw[bE.set_ne _ _ (λe=>b1 e.symm)]at h4;exact h.inj c c' y y' q q' a3 b3 O h4 h5
section
section
variable {P:Program} {w:World} {σ:bE} {T:Nat->Prop}
theorem rN{t:TypeId}{i:TypeInfo}(h:P.info? t=some i)(w:World):(typeInfo t).run P w=.ok i w:=by simp[typeInfo,h]
theorem cN{t:TypeId}{n:Nat}(h:aP P t=some n)(w:World):(sizeOf t).run P w=.ok n w:=by
 unfold aP at h;cases j:P.info? t with
 |none=>rw[j]at h;cases h
 |some i=>rw[j]at h;cases h;simp[sizeOf,rN j]
theorem kD{t:TypeId}{r:Bool}(h:dY P t=some r)(w:World):(isAgg t).run P w=.ok r w:=by
 unfold dY at h;cases j:P.underlying t with
 |none=>rw[j]at h;cases h
 |some d=>rw[j]at h;simp only[S0,SF]at h;subst h;simp only[isAgg,S4,run_underlying j,SI];cases d<;>rfl
theorem bn.cells{a:AV}{v:Value}{cs:List AV}(h:bn w σ T a v)(j:a.cells? =some cs):eG w σ T cs v.cells.toList:=by
 have one:∀{a v},bn w σ T a v->(v.cells=#[v])->eG w σ T [a] v.cells.toList:=λ{a v} h e=>by
  rw[e];refine⟨rfl,λi E D u B=>?_⟩
  match i with
  |0=>cases u;cases B;exact h
  |i+1=>simp at u
 cases h<;>simp only[AV.cells?,SF,reduceCtorEq]at j<;>subst j
 case agg vs hl h=>exact⟨by simpa[Value.cells]using hl,by simpa[Value.cells]using h⟩
 all_goals exact one (by constructor<;>assumption) rfl
theorem bn.one{a:AV}{v:Value}(h:bn w σ T a v)(j:a.one=true):v.oneCell'=true:=by cases h<;>first|rfl|(simp[AV.one]at j)
theorem eG.one{cs:List AV}{vs:List Value}(h:eG w σ T cs vs)(u:cs.all AV.one=true):∀v∈vs,v.oneCell'=true:=by
 intro v D;obtain⟨i,B,rfl⟩:=TG D;have j:i<cs.length:=by rw[h.1];exact B
 exact(h.2 i cs[i] vs[i] (mt j) (mt B)).one (by rw[SM]at u;exact u _ (Sy j))
def Da(w:World)(σ:bE)(T:Nat->Prop)(row:List AV)(b start:Nat):Prop:=
 ∀(j:Nat) (a:AV),row[j]? =some a->∃u,w.cell? ⟨b,start+j,none⟩=some u/\bn w σ T a u
theorem eK(b o n:Nat):(⟨b,o,none⟩:Addr).add n=⟨b,o+n,none⟩:=by unfold Addr.add;split<;>simp_all
theorem IT{row:List AV}{b B:Nat}(h:Da w σ T row b B)(n D:Nat)(hn:D+n<=row.length):
  ∃vs:List Value,vs.length=n/\(loadCells ⟨b,B+D,none⟩ n).run P w=.ok vs.toArray w/\eG w σ T ((row.drop D).take n) vs:=by
 have G:∀j,∃u,j<n->∃a,row[D+j]? =some a/\w.cell? ⟨b,B+D+j,none⟩=some u/\bn w σ T a u:=λj=>by
  by_cases O:j<n
  .obtain⟨u,N,E⟩:=h (D+j) row[D+j] (mt Ua);exact⟨u,λ_=>⟨_,mt Ua,by rw[Tq];exact N,E⟩⟩
  .exact⟨undef,λh=>absurd h O⟩
 let f:=λj=>Classical.choose (G j)
 have Y:∀j,j<n->∃a,row[D+j]? =some a/\w.cell? ⟨b,B+D+j,none⟩=some (f j)/\bn w σ T a (f j):=λj=>Classical.choose_spec (G j)
 refine⟨(List.range n).map f,Ud,run_loadCells w _ n f (λj O=>by rw[eK];obtain⟨a,_,E,_⟩:=Y j O;exact E),by simp;omega,?_⟩;intro i a v N E;rw[SJ]at E;have S:i<n:=by
  rcases Fn i n with M|M
  .exact M
  .rw[LE (by simpa using M)]at E;cases E
 rw[T9 S]at E;cases E;obtain⟨a',M,_,Z⟩:=Y i S;rw[S5 S,Ti,M]at N;cases N;exact Z
theorem pS{t:TypeId}{row:List AV}{b j B:Nat}{v:AV}(h:Da w σ T row b j)(D:gQ P t row B=some v):
  ∃v',(loadVar t ⟨b,j+B,none⟩).run P w=.ok v' w/\bn w σ T v v':=by
 unfold gQ at D;split at D
 .rename_i n G N;split at D
  .rename_i S;cases D;obtain⟨O,_,E,M⟩:=IT (P:=P) h n B S;exact⟨.agg O.toArray,by simp only[loadVar,S4,kD G,SI,Sem.run_ite,if_true,cN N,E,Tj],.agg _ _ M.1 M.2⟩
  .cases D
 .rename_i n G N;obtain⟨u,Y,E⟩:=h B v D;exact⟨u,by simp[loadVar,kD G,Y],E⟩
 .cases D
theorem pT{t:TypeId}{row:List AV}{vs:List Value}{j:Nat}{v:AV}(h:eG w σ T row vs)(u:gQ P t row j=some v):
  ∃v',(part t vs.toArray j).run P w=.ok v' w/\bn w σ T v v':=by
 unfold gQ at u;split at u
 .rename_i n G N;split at u
  .rename_i Y;cases u;refine⟨.agg (vs.toArray.extract j (j+n)),by simp only[part,S4,kD G,SI,Sem.run_ite,if_true,cN N,Tj],?_⟩;have e:vs.toArray.extract j (j+n)=((vs.drop j).take n).toArray:=by simp
   rw[e];refine .agg _ _ (by simp[h.1]) λi a v E M=>?_
   have S:i<n:=by
    rcases Fn i n with B|B
    .exact B
    .rw[LE (by simp;omega)]at E;cases E
   rw[S5 S,Ti]at E M;exact h.2 _ a v E M
  .cases u
 .rename_i n G N;have O:j<row.length:=by
   rcases Fn j row.length with B|B
   .exact B
   .rw[LE B]at u;cases u
  have D:j<vs.length:=by rw[<-h.1];exact O
  exact⟨vs[j],by simp[part,kD G,D],h.2 j v _ u (mt D)⟩
 .cases u
theorem tI.row{x:Blk}{B:cq}{cs:Array Value}{e:TypeId}(h:tI w σ T x B cs e){i:Nat}{r:List AV}(D:x.rows[i]? =some r):
  Da w σ T r B.block (B.base+i*B.size):=by
 intro j a E;have M:i<x.rows.length:=by
  rcases Fn i x.rows.length with u|u
  .exact u
  .rw[LE u]at D;cases D
 have N:j<x.size:=by
  rw[<-h.even i r D];rcases Fn j r.length with u|u
  .exact u
  .rw[LE u]at E;cases E
 have G:B.base+i*x.size+j<cs.size:=by have:=h.room;have:(i+1)*x.size<=x.rows.length*x.size:=SR _ M;rw[Tg]at this;omega
 refine⟨cs[B.base+i*x.size+j],?_,h.rep i r j a _ D E (S1 G)⟩;rw[h.size];simp[World.cell?,h.block,G]
theorem qF.row{rows:List (List AV)}{b o sz:Nat}(M:qF w T rows b o sz)
  (h:∀(i:Nat) (r:List AV) (j:Nat) (a:AV) (u:Value),rows[i]? =some r->r[j]? =some a->w.cell? ⟨b,o+i*sz+j,none⟩=some u->bn w σ T a u)
  {i:Nat} {r:List AV} (D:rows[i]? =some r):Da w σ T r b (o+i*sz):=by
 intro j a E;have O:i<rows.length:=by
  rcases Fn i rows.length with B|B
  .exact B
  .rw[LE B]at D;cases D
 have N:j<sz:=by
  rw[<-M.even i r D];rcases Fn j r.length with B|B
  .exact B
  .rw[LE B]at E;cases E
 obtain⟨u,G⟩:=M.cell i j O N;exact⟨u,G,h i r j a u D E G⟩
theorem xp{H:ae}(hW:bv w σ H){t:TypeId}{a v:AV}{Z:Value}(S:bn w σ (aQ σ H) a Z)(j:mg P H t a=some v):
  ∃v',(Instr.loadAt t Z).run P w=.ok v' w/\bn w σ (aQ σ H) v v':=by
 unfold mg at j;split at j
 .rename_i b i D;cases S;rename_i pl hp hs;cases E:H.get b with
  |none=>rw[E]at j;cases j
  |some x=>
   rw[E]at j;simp only[Tk]at j;cases u:x.rows[i]? with
   |none=>rw[u]at j;cases j
   |some r=>rw[u]at j;simp only[Tk]at j;obtain⟨pl',cs,e,Y,O⟩:=hW.live b x E;rw[hs]at Y;cases Y;replace O:=O.1 hp;obtain⟨v',N,M⟩:=pS (P:=P) (O.row u) j;exact⟨v',by simpa[Instr.loadAt,Instr.sureAddr]using N,M⟩
 .rename_i B i D;cases S;rename_i b o sz G h;cases u:B[i]? with
  |none=>rw[u]at j;cases j
  |some r=>rw[u]at j;simp only[Tk]at j;obtain⟨v',N,M⟩:=pS (P:=P) (G.row h u) j;exact⟨v',by simpa[Instr.loadAt,Instr.sureAddr]using N,M⟩
 .cases j
end
end
section
section
variable {P:Program} {w:World} {σ:bE} {T:Nat->Prop}
theorem Gu{v:Value}{a:AV}(h:PC v=some a):bn w σ T a v:=by unfold PC at h;split at h<;>first|(cases h;constructor)|cases h
theorem iD{α:Type}:∀(l:List (Option α)) (m:List α),cf l=some m->l.length=m.length/\∀(i:Nat) (x:α),m[i]? =some x->l[i]? =some (some x)
 |[],m,h=>by cases h;exact⟨rfl,λi x h=>by simp at h⟩
 |none::_,m,h=>by cases h
 | some x::l,m,h=>by
  unfold cf at h;split at h
  .rename_i u B;cases h;obtain⟨D,h2⟩:=iD l u B;refine⟨by simp[D],λi y j=>?_⟩
   match i with
   |0=>simpa using j
   |i+1=>simp only[TJ]at j ⊢;exact h2 i y j
  .cases h
theorem Db{v:Value}{a:AV}(h:Hv v=some a):bn w σ T a v:=by
 unfold Hv at h;split at h
 .rename_i u;cases j:cf (u.toList.map PC)with
  |none=>rw[j]at h;cases h
  |some l=>
   rw[j]at h;cases h;obtain⟨G,E⟩:=iD _ _ j;have:bn w σ T (.agg l) (.agg u.toList.toArray):=.agg l u.toList (by simpa using G.symm) λi a v D B=>by have:=E i a D;rw[SJ,B]at this;simp only[S0,SF]at this;exact Gu this
   simpa using this
 .exact Gu h
theorem eM{t:TypeId}{z:AV}(h:dU P t=some z):∃j,(zeroValue t).run P w=.ok j w/\bn w σ T z j:=by
 unfold dU at h;cases B:P.info? t with
 |none=>rw[B]at h;cases h
 |some i=>
  rw[B]at h;simp only[Tk]at h;cases u:i.zero with
  |none=>rw[u]at h;cases h
  |some j=>rw[u]at h;exact⟨j,by simp[zeroValue,rN B,u],Db h⟩
theorem vP{s:TypeId}{x v:AV}{x':Value}{f:Nat}(O:bn w σ T x x')(h:iP P s x f=some v):
  ∃v',(Instr.fieldAt s x' f).run P w=.ok v' w/\bn w σ T v v':=by
 unfold iP at h;split at h
 .rename_i Z M;cases D:Z[f]? with
  |none=>rw[D]at h;cases h
  |some G=>
   rw[D]at h;simp only[Tk]at h;cases B:aP P G.type with
   |none=>rw[B]at h;cases h
   |some n=>
    rw[B]at h;simp only[Tk]at h;by_cases E:n=0
    .rw[if_pos E]at h;cases h
    .rw[if_neg E]at h;cases O<;>simp only[SF,reduceCtorEq]at h<;>subst h
     .rename_i b i j N S hp;refine⟨_,by simp only[Instr.fieldAt,S4,run_underlying M,SI,D,Instr.sureAddr,Tj,fieldPlace,cN B,Sem.run_ite,if_neg E,eK];rfl,?_⟩;have:=bn.ptr (w:=w) (T:=T) b i (j+G.offset) N S hp
      rwa [<-Tq]at this
     .rename_i u i j b o sz Y h;refine⟨_,by simp only[Instr.fieldAt,S4,run_underlying M,SI,D,Instr.sureAddr,Tj,fieldPlace,cN B,Sem.run_ite,if_neg E,eK];rfl,?_⟩;have:=bn.pptr u i (j+G.offset) b o sz Y h
      rwa [<-Tq]at this
 .cases h
theorem Dc{s:TypeId}{x v:AV}{x':Value}{f:Nat}(u:bn w σ T x x')(h:BO P s x f=some v):
  ∃v',(Instr.field s x' f).run P w=.ok v' w/\bn w σ T v v':=by
 unfold BO at h;split at h
 .rename_i N Y B;cases u;rename_i O E D;cases j:N[f]? with
  |none=>rw[j]at h;cases h
  |some S=>rw[j]at h;simp only[Tk]at h;obtain⟨v',M,G⟩:=pT (P:=P) (w:=w) (σ:=σ) (T:=T) ⟨E,D⟩ h;exact⟨v',by simp[Instr.field,run_underlying B,j,asAgg,M],G⟩
 .cases h
theorem bn.sl_inv{b i n:Nat}{v:Value}(h:bn w σ T (.sl b i n) v):∃u a j,v=.slice (some a) n j/\σ b=some u/\n<=j/\j<=maxLen/\
  (0<j->a=⟨u.block,u.base+i*u.size,none⟩/\∃cs e,w.heap[u.block]? =some (.cells cs e (0,0))/\u.base+(i+j)*u.size<=cs.size):=by
 cases h with
 |sl _ _ _ u a j h hp B D E=>exact⟨u,a,j,rfl,h,B,D,E⟩
theorem bn.sl_ok{b i n:Nat}{v:Value}(h:bn w σ T (.sl b i n) v){j:cq}(B:σ b=some j):j.ok:=by
 cases h with
 |sl _ _ _ u a D h hp E G M=>rw[B]at h;cases h;exact hp
theorem bn.lst_inv{rows:List (List AV)}{v:Value}(h:bn w σ T (.lst rows) v):∃A B,v=.slice A rows.length B/\rows.length<=B/\B<=maxLen/\
  (rows≠[]->∃b o sz,A=some ⟨b,o,none⟩/\qF w T rows b o sz/\
   ∀(i:Nat) (r:List AV) (j:Nat) (a:AV) (u:Value),rows[i]? =some r->r[j]? =some a->w.cell? ⟨b,o+i*sz+j,none⟩=some u->bn w σ T a u):=by
 cases h with
 |lst0 a B D=>exact⟨a,B,rfl,SL _,D,λh=>absurd rfl h⟩
 |lst _ b o sz B G E D h=>exact⟨_,B,rfl,E,D,λ_=>⟨b,o,sz,rfl,G,h⟩⟩
theorem aA{α:Type}{l:List α}{i:Nat}{x:α}(h:l[i]? =some x):i<l.length:=by
 rcases Fn i l.length with j|j
 .exact j
 .rw[LE j]at h;cases h
theorem vQ{H:ae}(hW:bv w σ H){t:TypeId}{x ix v:AV}{x' O:Value}(S:bn w σ (aQ σ H) x x')(hi:bn w σ (aQ σ H) ix O)(h:dZ P (lG H x) t x ix=some v):
  ∃v',(Instr.indexAt t x' O).run P w=.ok v' w/\bn w σ (aQ σ H) v v':=by
 unfold dZ at h;split at h
 .rename_i k i;cases hi;by_cases h0:i<0
  .rw[if_pos h0]at h;cases h
  .rw[if_neg h0]at h;split at h
   .rename_i e b j n N;split at h
    .rename_i D;obtain⟨D,hso,E⟩:=D;cases h;cases hy:H.get b with
     |none=>simp[lG,hy]at hso
     |some y=>
     simp only[lG,hy,S0]at E;obtain⟨pl,a,cap,rfl,Y,G,hm,ha⟩:=S.sl_inv;obtain⟨rfl,cs,ty,hc,Z⟩:=ha Ua;have u:0<=i/\i<(n:Int):=by omega
     obtain⟨pl',cs',e',h1,h2⟩:=hW.live b y hy;rw[Y]at h1;cases h1;have hp:=S.sl_ok Y;replace h2:=h2.1 hp;refine⟨_,by simp only[Instr.indexAt,asIntOf,S4,Tj,SI,run_underlying N,Sem.run_ite,if_pos u,cN E,eK];rfl,?_⟩;have:=bn.ptr (w:=w) (T:=aQ σ H) b (j+i.toNat) 0 pl Y hp;rw[<-h2.size];simpa[Tg,Tq]using this
    .cases h
   .rename_i e B N;split at h
    .rename_i r Z;split at h
     .rename_i E;cases h;have D:=aA Z;have u:0<=i/\i<(B.length:Int):=by omega
      obtain⟨A,cap,rfl,G,hm,ha⟩:=S.lst_inv;obtain⟨b,o,sz,rfl,hl,h⟩:=ha (by rintro rfl;simp at Z);have hrs:=hl.even _ _ Z;subst hrs;refine⟨_,by simp only[Instr.indexAt,asIntOf,S4,Tj,SI,run_underlying N,Sem.run_ite,if_pos u,cN E,eK];rfl,?_⟩;exact bn.pptr B i.toNat 0 b o _ hl h
     .cases h
    .cases h
   .rename_i len e b j M N;split at h
    .rename_i D;cases G:aP P e with
     |none=>rw[G]at h;cases h
     |some n=>
      rw[G]at h;cases h;cases S;rename_i pl hp Y;have u:0<=i/\i<(len:Int):=by omega
      refine⟨_,by simp only[Instr.indexAt,asIntOf,S4,Tj,SI,run_underlying N,Instr.sureAddr,Sem.run_ite,if_pos u,cN G,eK];rfl,?_⟩;have:=bn.ptr (w:=w) (T:=aQ σ H) b j (M+i.toNat*n) pl Y hp
      rwa [<-Tq]at this
    .cases h
   .rename_i len e B j M N;split at h
    .rename_i D;cases G:aP P e with
     |none=>rw[G]at h;cases h
     |some n=>
      rw[G]at h;cases h;cases S;rename_i b o sz hl h;have u:0<=i/\i<(len:Int):=by omega
      refine⟨_,by simp only[Instr.indexAt,asIntOf,S4,Tj,SI,run_underlying N,Instr.sureAddr,Sem.run_ite,if_pos u,cN G,eK];rfl,?_⟩;have:=bn.pptr B j (M+i.toNat*n) b o sz hl h
      rwa [<-Tq]at this
    .cases h
   .cases h
 .cases h
theorem Dd{t:TypeId}{x S v:AV}{x' B:Value}(Y:bn w σ T x x')(Z:bn w σ T S B)(h:xo P t x S=some v):
  ∃v',(Instr.index t x' B).run P w=.ok v' w/\bn w σ T v v':=by
 unfold xo at h;split at h
 .rename_i s k i M;cases Z;by_cases h0:i<0
  .rw[if_pos h0]at h;cases h
  .rw[if_neg h0]at h;cases Y;rename_i G;cases E:G.data.toList[i.toNat]? with
   |none=>rw[E]at h;cases h
   |some c=>
    rw[E]at h;cases h;have j:=aA E;have O:G[i.toNat]? =some c:=by
     have D:i.toNat<G.size:=by rw[SU]at j;exact j
     rw[getElem?_pos G i.toNat D];rw[mt j]at E;rw[<-E];rfl
    have u:0<=i:=by omega
    have e:(if 0<=i then G[i.toNat]? else none)=some c:=by rw[if_pos u];exact O
    exact⟨.int .u8 c.toNat,by simp only[Instr.index,asIntOf,S4,Tj,SI,run_underlying M,e],.int _ _⟩
 .rename_i len e cs k i M;split at h
  .rename_i j;cases N:aP P e with
   |none=>rw[N]at h;cases h
   |some n=>
    rw[N]at h;simp only[Tk]at h;cases Z;cases Y;rename_i vs hl hr;obtain⟨v',O,h2⟩:=pT (P:=P) (w:=w) (σ:=σ) (T:=T) ⟨hl,hr⟩ h;have u:0<=i/\i<(len:Int):=by omega
    refine⟨v',?_,h2⟩;simp only[Instr.index,asIntOf,S4,Tj,SI,run_underlying M];rw[if_pos u];simp only[S4,cN N,SI,O]
  .cases h
 .cases h
theorem mW{x:AV}{x':Value}{n:Nat}(j:bn w σ T x x')(h:ky x=some n):∃k i,x'=.int k i/\0<=i/\i.toNat=n:=by
 unfold ky at h;split at h
 .rename_i k i;split at h
  .rename_i u;cases h;cases j;exact⟨k,i,rfl,u,rfl⟩
  .cases h
 .cases h
end
end
section
structure IU(P:Program)(t:TypeId)(ts:List TypeId):Prop where
 under:P.underlying t=some (.struct (P.fieldsOf t))
 stood:P.stoodInHeld t=false
 guard:P.eqGuardType P.depth t=false
 types:(P.fieldsOf t).toList.map (·.type)=ts
 fields : ∀ (i : Nat) (f : Field), (P.fieldsOf t).toList[i]? = some f → f.name ≠ "_" ∧ f.offset = i ∧ dY P f.type = some false
section
variable {P:Program} {w:World} {σ:bE} {T:Nat->Prop}
theorem bytes_beq(a b:ByteArray):(a.toList==b.toList)=(a.data.toList==b.data.toList):=by rw[ByteArray.toList_eq,ByteArray.toList_eq]
theorem tJ{t:TypeId}{x y:AV}{x' B:Value}{r:Bool}{d:Nat}(u:bn w σ T x x')(j:bn w σ T y B)(h:tH P t x y=some r):
  (Op.equalIn (d+1) t x' B).run P w=.ok r w:=by
 unfold tH at h;split at h
 case h_1 hu=>
  split at h
  .rename_i D;subst D;cases h;cases u;cases j;exact run_equalIn_int w d t _ _ _ _ hu
  .cases h
 case h_2 hu=>cases h;cases u;cases j;exact run_equalIn_bool' w d t _ _ hu
 case h_3 hu=>cases h;cases u;cases j;rw[run_equalIn_string w d t _ _ hu,bytes_beq]
 case h_4 hu=>cases h;cases u;cases j;simp[Op.equalIn,run_underlying hu]
 case h_5 hu=>cases h;cases u;cases j;simp[Op.equalIn,run_underlying hu]
 case h_6 hu=>cases h;cases u;cases j;simp[Op.equalIn,run_underlying hu]
 case h_7 hu=>cases h;cases u;cases j;simp[Op.equalIn,run_underlying hu]
 case h_8 hu=>cases h;cases u;cases j;simp[Op.equalIn,run_underlying hu]
 case h_9 hu=>cases h;cases u;cases j;simp[Op.equalIn,run_underlying hu]
 case h_10 hu=>cases h;cases u;cases j;simp[Op.equalIn,run_underlying hu]
 case h_11 hu=>cases h;cases u;cases j;simp[Op.equalIn,run_underlying hu]
 case h_12 hu=>cases h;cases u;cases j;simp[Op.equalIn,run_underlying hu]
 case h_13 hu=>cases h;cases u;cases j;simp[Op.equalIn,run_underlying hu]
 case h_14=>cases h
theorem De{t:TypeId}{cs:List AV}{vs:List Value}{i:Nat}{a:AV}(ht:dY P t=some false)(h:eG w σ T cs vs)(u:cs[i]? =some a):
  ∃v,(part t vs.toArray i).run P w=.ok v w/\bn w σ T a v:=by
 have B:=aA u;have j:i<vs.length:=by rw[<-h.1];exact B
 exact⟨vs[i],by simp[part,kD ht,j],h.2 i a _ u (mt j)⟩
theorem qG{d:Nat}{cs ds:List AV}{xs ys:List Value}(hc:eG w σ T cs xs)(hd:eG w σ T ds ys):∀(fs:List Field) (k:Nat) (r:Bool),
  (∀ (i : Nat) (f : Field), fs[i]? = some f → f.name ≠ "_" ∧ f.offset = k + i ∧ dY P f.type = some false) → xn P (fs.map (·.type)) (cs.drop k) (ds.drop k) = some r→
  (Op.eqFields (d+1) xs.toArray ys.toArray fs).run P w=.ok r w
 | [],k,r,_,h=>by
  unfold xn at h;split at h
  .cases h;rfl
  .simp_all
  .cases h
 | f::fs,k,r,hf,h=>by
  unfold xn at h;split at h
  .rename_i e _ _;cases e
  .rename_i t ts a l b m e1 e2 e3;cases e1;obtain⟨h1,h2,h3⟩:=hf 0 f rfl;have ha:cs[k]? =some a:=by have:=congrArg (·[0]?) e2;simpa[Ti]using this
   have hb:ds[k]? =some b:=by have:=congrArg (·[0]?) e3;simpa[Ti]using this
   have hl:l=cs.drop (k+1):=by have:=congrArg List.tail e2;simpa[List.tail_drop]using this.symm
   have hm:m=ds.drop (k+1):=by have:=congrArg List.tail e3;simpa[List.tail_drop]using this.symm
   simp only[T2]at h2;obtain⟨u,hu1,hu2⟩:=De (P:=P) h3 hc ha;obtain⟨v,hv1,hv2⟩:=De (P:=P) h3 hd hb;rw[<-h2]at hu1 hv1;simp only[Op.eqFields,if_pos h1,S4,hu1,hv1,SI];split at h
   .rename_i he;rw[tJ hu2 hv2 he];simp only[SI,Bool.not_true,SO,if_false];exact qG hc hd fs (k+1) r (λi g hg=>by have:=hf (i+1) g (by simpa using hg);refine⟨this.1,by rw[this.2.1];omega,this.2.2⟩) (by rw[<-hl,<-hm];exact h)
   .rename_i he;rw[tJ hu2 hv2 h];cases r with
    |true=>exact absurd h he
    |false=>rfl
  .cases h
theorem zT{op:BinOp}{t:TypeId}{x y:Operand}{a b:Value}(h:∀xs,a≠.agg xs)(j:a≠.nilIface):(eqGuard op t x y a b).run P w=.ok () w:=by cases a<;>cases op<;>simp_all[eqGuard]
theorem u9:∀(a b:List UInt8),rK a b=Op.bytesLess a b
 |_,[]=>by cases ‹List UInt8›<;>rfl
 |[],_::_=>rfl
 |a::x,b::y=>by simp[rK,Op.bytesLess,u9 x y]
theorem bn.ne_agg{a:AV}{v:Value}(h:bn w σ T a v)(u:∀cs,a≠.agg cs)(j:a≠.junk):(∀xs,v≠.agg xs)/\v≠.nilIface:=by cases h<;>first|(exact absurd rfl (u _))|(exact absurd rfl j)|(constructor<;>simp)
theorem IV{op:UnOp}{x v:AV}{x':Value}(j:bn w σ T x x')(h:RE op x=some v):∃v',(Op.unary op x').run P w=.ok v' w/\bn w σ T v v':=by
 unfold RE at h;split at h
 .cases h;cases j;exact⟨_,rfl,.int _ _⟩
 .cases h;cases j;exact⟨_,rfl,.bool _⟩
 .cases h
theorem Fj{s d:TypeId}{x v:AV}{x':Value}(B:bn w σ T x x')(h:C7 P s d x=some v):∃v',(convert s d x').run P w=.ok v' w/\bn w σ T v v':=by
 unfold C7 at h;split at h
 .rename_i u j;cases h;cases B;exact⟨_,by simp[convert,run_underlying u,run_underlying j,Conv.intToInt],.int _ _⟩
 .rename_i u j;cases h;cases B;exact⟨_,by simp[convert,run_underlying u,run_underlying j],.str _⟩
 .cases h
end
end
section
section
variable {P:Program} {w:World} {σ:bE} {T:Nat->Prop}
theorem lI{op:BinOp}{t:TypeId}{k u:IntKind}{a b:Int}{v:AV}(F:TypeId->Option (List TypeId))(h:gC P F op t (.int k a) (.int u b)=some v):
  ∃v',(binOp op t (.int k a) (.int u b)).run P w=.ok v' w/\bn w σ T v v':=by
 by_cases B:k=u
 .subst B;cases op<;>simp only[gC,ne_eq,not_true_eq_false,if_false,reduceCtorEq,SF]at h
  case shl=>
   split at h
   .rename_i j;cases h;exact⟨_,by simp only[binOp,Op.shift];rw[if_neg Ua];rfl,.int _ _⟩
   .cases h
  case shr=>
   split at h
   .rename_i j;cases h;exact⟨_,by simp only[binOp,Op.shift];rw[if_neg Ua];rfl,.int _ _⟩
   .cases h
  case quo=>
   split at h
   .cases h
   .rename_i j;cases h;exact⟨_,by simp only[binOp,Op.intDiv,ne_eq,not_true_eq_false,if_false];rw[if_neg j];rfl,.int _ _⟩
  case rem=>
   split at h
   .cases h
   .rename_i j;cases h;exact⟨_,by simp only[binOp,Op.intDiv,ne_eq,not_true_eq_false,if_false];rw[if_neg j];rfl,.int _ _⟩
  all_goals (subst h;refine⟨_,by simp only[binOp,ne_eq,not_true_eq_false,if_false];rfl,?_⟩;constructor)
 .cases op<;>simp only[gC,ne_eq,B,not_false_eq_true,if_true,reduceCtorEq]at h
  case shl=>
   split at h
   .rename_i j;cases h;exact⟨_,by simp only[binOp,Op.shift];rw[if_neg Ua];rfl,.int _ _⟩
   .cases h
  case shr=>
   split at h
   .rename_i j;cases h;exact⟨_,by simp only[binOp,Op.shift];rw[if_neg Ua];rfl,.int _ _⟩
   .cases h
theorem Gv{l:List UInt8}{s:ByteArray}(h:s.data.toList=l):bn w σ T (.str l) (.string s):=by subst h;exact .str s
theorem BP{op:BinOp}{t:TypeId}{a b:ByteArray}{v:AV}(F:TypeId->Option (List TypeId))(h:gC P F op t (.str a.data.toList) (.str b.data.toList)=some v):
  ∃v',(binOp op t (.string a) (.string b)).run P w=.ok v' w/\bn w σ T v v':=by
 cases op<;>simp only[gC,reduceCtorEq,SF]at h
 case add=>
  split at h
  .rename_i u;cases h;have j:¬((a.size+b.size:Nat):Int) > IntKind.i64.max:=by
    have D:a.data.toList.length=a.size:=SU;have B:b.data.toList.length=b.size:=SU;rw[D,B]at u;have:(IntKind.i64.max:Int)=9223372036854775807:=by decide
    rw[this];omega
   exact⟨_,by simp only[binOp,Op.stringOp];rw[if_neg j];rfl,Gv Ud⟩
  .cases h
 case eql=>subst h;exact⟨_,rfl,by rw[bytes_beq];exact .bool _⟩
 case neq=>subst h;exact⟨_,rfl,by rw[bytes_beq];exact .bool _⟩
 case lss=>subst h;exact⟨_,rfl,by rw[u9,ByteArray.toList_eq,ByteArray.toList_eq];exact .bool _⟩
theorem Ln{t:TypeId}{x' j:Value}{r:Bool}(h:(Op.equalIn 10000 t x' j).run P w=.ok r w)
  (u:∀k n,x'≠.int k n) (B:∀s,x'≠.string s) (D:∀k n,x'≠.float k n) (E:∀k a b,x'≠.complex k a b) :
  (binOp .eql t x' j).run P w=.ok (.bool r) w/\(binOp .neq t x' j).run P w=.ok (.bool !r) w:=by
 constructor
 .cases x'<;>simp_all[binOp,Op.equal,Op.maxDepth]
 .cases x'<;>simp_all[binOp,Op.equal,Op.maxDepth]
theorem tK{t:TypeId}{x y:AV}{x':Value}{r:Bool}(h:tH P t x y=some r)(j:bn w σ T x x')(B:∀k n,x≠.int k n)(h2:∀s,x≠.str s):
  (∀k n,x'≠.int k n)/\(∀s,x'≠.string s)/\(∀k n,x'≠.float k n)/\(∀k a b,x'≠.complex k a b)/\(∀cs,x≠.agg cs)/\x≠.junk:=by
 have u:x≠.junk/\∀cs,x≠.agg cs:=by
  constructor
  .rintro rfl;unfold tH at h;split at h<;>simp_all
  .rintro cs rfl;unfold tH at h;split at h<;>simp_all
 cases j<;>simp_all
theorem wY{t:TypeId}{x y:AV}{r:Bool}(h:tH P t x y=some r)(j:y=.nilp\/y=.nils):(∀k n,x≠.int k n)/\(∀s,x≠.str s):=by
 rcases j with rfl|rfl
 .constructor
  .rintro k n rfl;unfold tH at h;split at h<;>simp_all
  .rintro s rfl;unfold tH at h;split at h<;>simp_all
 .constructor
  .rintro k n rfl;unfold tH at h;split at h<;>simp_all
  .rintro s rfl;unfold tH at h;split at h<;>simp_all
theorem Hw{F:TypeId->Option (List TypeId)}(hF:∀t ts,F t=some ts->IU P t ts){op:BinOp}{t:TypeId}{ox oy:Operand}{x y v:AV}{x' D:Value}(B:bn w σ T x x')(M:bn w σ T y D)
  (h:gC P F op t x y=some v):∃v',(do eqGuard op t ox oy x' D;binOp op t x' D:Sem Value).run P w=.ok v' w/\bn w σ T v v':=by
 have j:(∀cs,x≠.agg cs)->x≠.junk->(∃v',(binOp op t x' D).run P w=.ok v' w/\bn w σ T v v')->∃v',(do eqGuard op t ox oy x' D;binOp op t x' D:Sem Value).run P w=.ok v' w/\bn w σ T v v':=by intro h1 h2 ⟨v',h3,h4⟩;obtain⟨h5,h6⟩:=B.ne_agg h1 h2;exact⟨v',by simp only[S4,zT h5 h6,SI,h3],h4⟩
 have eqs:∀r,tH P t x y=some r->(∀k n,x'≠.int k n)->(∀s,x'≠.string s)->(∀k n,x'≠.float k n)->(∀k a b,x'≠.complex k a b)->
   (binOp .eql t x' D).run P w=.ok (.bool r) w/\(binOp .neq t x' D).run P w=.ok (.bool !r) w:=λr hr=>Ln (tJ B M hr)
 have h0:=h;unfold gC at h;split at h
 case h_1=>cases B;cases M;exact j Ud Ud (lI F h0)
 case h_2=>cases B;cases M;exact j Ud Ud (lI F h0)
 case h_3=>cases B;cases M;exact j Ud Ud (lI F h0)
 case h_4=>cases B;cases M;exact j Ud Ud (BP F h0)
 case h_5 a b=>
  cases Z:F t with
  |none=>rw[Z]at h;cases h
  |some ts=>
   rw[Z]at h;simp only[Tk]at h;cases u:xn P ts a b with
   |none=>rw[u]at h;cases h
   |some r=>
    rw[u]at h;cases h;cases B with
    |agg _ xs Y O=>
    cases M with
    |agg _ ys S N=>
    have fl:=hF t ts Z;have:=qG (P:=P) (w:=w) (σ:=σ) (T:=T) (d:=9998) ⟨Y,O⟩ ⟨S,N⟩ (P.fieldsOf t).toList 0 r (λi f hi=>by have:=fl.fields i f hi;simpa using this) (by rw[fl.types];simpa using u);refine⟨.bool r,?_,.bool r⟩;simp only[S4,run_eqGuard_agg w _ t ox oy _ _ fl.guard,SI,run_eql_struct];rw[run_equalIn_agg w 9999 t _ _ fl.under fl.stood,this];rfl
 case h_6 a b=>
  cases Z:F t with
  |none=>rw[Z]at h;cases h
  |some ts=>
   rw[Z]at h;simp only[Tk]at h;cases u:xn P ts a b with
   |none=>rw[u]at h;cases h
   |some r=>
    rw[u]at h;cases h;cases B with
    |agg _ xs Y O=>
    cases M with
    |agg _ ys S N=>
    have fl:=hF t ts Z;have:=qG (P:=P) (w:=w) (σ:=σ) (T:=T) (d:=9998) ⟨Y,O⟩ ⟨S,N⟩ (P.fieldsOf t).toList 0 r (λi f hi=>by have:=fl.fields i f hi;simpa using this) (by rw[fl.types];simpa using u);refine⟨.bool !r,?_,.bool !r⟩;simp only[S4,run_eqGuard_agg w _ t ox oy _ _ fl.guard,SI,run_neq_struct];rw[run_equalIn_agg w 9999 t _ _ fl.under fl.stood,this];rfl
 case h_17=>cases h
 all_goals
  cases u:tH P t _ _ with
  |none=>rw[u]at h;cases h
  |some r=>
   rw[u]at h;cases h
   first
    |(obtain⟨p1,p2,p3,p4,G,E⟩:=tK u B (wY u (.inl rfl)).1 (wY u (.inl rfl)).2;obtain⟨e1,e2⟩:=eqs r u p1 p2 p3 p4;first|exact j G E ⟨_,e1,.bool _⟩|exact j G E ⟨_,e2,.bool _⟩)
    |(obtain⟨p1,p2,p3,p4,G,E⟩:=tK u B (wY u (.inr rfl)).1 (wY u (.inr rfl)).2;obtain⟨e1,e2⟩:=eqs r u p1 p2 p3 p4;first|exact j G E ⟨_,e1,.bool _⟩|exact j G E ⟨_,e2,.bool _⟩)
    |(obtain⟨p1,p2,p3,p4,G,E⟩:=tK u B Ud Ud;obtain⟨e1,e2⟩:=eqs r u p1 p2 p3 p4;first|exact j G E ⟨_,e1,.bool _⟩|exact j G E ⟨_,e2,.bool _⟩)
theorem kE{a:AV}{v:Value}{n y:Nat}{code:BoundsCode}(j:bn w σ T a v)(h:ky a=some n)(u:n<=y):(Instr.sliceBound v y code).run P w=.ok n w:=by
 obtain⟨k,i,rfl,B,rfl⟩:=mW j h;have:0<=i/\i<=(y:Int):=by omega
 simp only[Instr.sliceBound,asIntOf,S4,Tj,SI,Sem.run_ite];rw[if_pos this]
def Fk(w:World)(σ:bE)(T:Nat->Prop)(x:Option AV)(x':Option Value):Prop:=
 match x,x' with
 |none,none=>True
 |some a,some v=>bn w σ T a v
 |_,_=>False
theorem iE{E G mx:Option AV}{j u mx':Option Value}{n c l h m:Nat}{isS:Bool}(B:Fk w σ T E j)(M:Fk w σ T G u)(O:Fk w σ T mx mx')(S:G=none->mx=none)
  (D:cC E 0=some l) (h2:cC G n=some h) (Z:cC mx n=some m) (hc:n<=c) (Y:l<=h) (b2:h<=m) (b3:m<=n) :
  ∃N,(Instr.sliceBounds isS n c j u mx').run P w=.ok (l,h,N) w/\h<=N/\N<=c/\(mx.isSome=true->N=m):=by
 match mx,mx',O with
 |none,none,_=>
  cases Z;refine⟨c,?_,Ua,Fd _,Ud⟩
  match G,u,M with
  |none,none,_=>
   cases h2
   match E,j,B with
   |none,none,_=>cases D;simp[Instr.sliceBounds]
   |some a,some v,hr=>simp[Instr.sliceBounds,kE (P:=P) hr D Y]
  |some a,some v,hr=>
   have e:=kE (P:=P) (code:=if isS=true then .sliceAcap else .sliceAlen) hr h2 (show h<=c by omega)
   match E,j,B with
   |none,none,_=>cases D;simp[Instr.sliceBounds,e]
   |some a,some v,hr=>simp[Instr.sliceBounds,e,kE (P:=P) hr D Y]
 |some a,some v,hr=>
  have e0:=kE (P:=P) (code:=if isS=true then .slice3Acap else .slice3Alen) hr Z (show m<=c by omega);refine⟨m,?_,b2,Ua,λ_=>rfl⟩
  match G,u,M with
  |none,none,_=>exact absurd (S rfl) Ud
  |some a,some v,hr=>
   have e:=kE (P:=P) (code:=.slice3B) hr h2 b2
   match E,j,B with
   |none,none,_=>cases D;simp[Instr.sliceBounds,e0,e]
   |some a,some v,hr=>simp[Instr.sliceBounds,e0,e,kE (P:=P) hr D Y]
theorem eN{t e:TypeId}{A:Option Addr}{n j l h m sz:Nat}{B D mx:Option Value}(E:P.underlying t=some (.slice e))(u:aP P e=some sz)
  (h4:(Instr.sliceBounds true n j B D mx).run P w=.ok (l,h,m) w) :
  (Instr.sliceAt t (.slice A n j) B D mx).run P w=.ok (.slice (if m=l then A else A.map (·.add (l*sz))) (h-l) (m-l)) w:=by
 simp only[Instr.sliceAt,Instr.slice,S4,run_underlying E,SI,h4,cN u,Tj]
theorem Df{H:ae}(hW:bv w σ H){t:TypeId}{x v:AV}{lo Z mx:Option AV}{x':Value}{lo' hi' mx':Option Value}(hx:bn w σ (aQ σ H) x x')
  (Y:Fk w σ (aQ σ H) lo lo') (hhi:Fk w σ (aQ σ H) Z hi') (S:Fk w σ (aQ σ H) mx mx') (hmh:Z=none->mx=none)
  (h:j6 P (lG H x) t x lo Z mx=some v):∃v',(Instr.sliceAt t x' lo' hi' mx').run P w=.ok v' w/\bn w σ (aQ σ H) v v':=by
 unfold j6 at h;split at h
 .rename_i e n N D;split at h
  .rename_i l E m h1 h2 h3;split at h
   .rename_i hb;obtain⟨⟨b1,b2,b3⟩,hsome⟩:=hb;have hes:∃sz,aP P e=some sz:=Option.isSome_iff_exists.1 hsome;split at h
    .cases h;cases hx;cases D;obtain⟨G,O,h5,h6,h7⟩:=iE (P:=P) (isS:=true) Y hhi S hmh h1 h2 h3 (Fd 0) b1 b2 b3;obtain rfl:G=0:=by omega
     obtain rfl:E=0:=by omega
     obtain rfl:l=0:=by omega
     obtain⟨sz,B⟩:∃sz,aP P e=some sz:=hes;exact⟨_,eN N B O,by simpa using bn.nils⟩
    .rename_i b i k;cases D;obtain⟨pl,a,cap,rfl,hs,hn,hm,ha⟩:=hx.sl_inv;obtain⟨G,O,h5,h6,h7⟩:=iE (P:=P) (isS:=true) Y hhi S hmh h1 h2 h3 hn b1 b2 b3;cases hy:H.get b with
     |none=>simp[lG,hy]at h
     |some y=>
      simp only[lG,hy,S0,Option.isSome_some,true_and]at h;split at h
      .rename_i B;cases h;obtain⟨pl',cs',e',g1,g2⟩:=hW.live b y hy;rw[hs]at g1;cases g1;have hp:=hx.sl_ok hs;replace g2:=g2.1 hp;by_cases M:G=l
       .refine⟨.slice (some a) (E-l) (G-l),by rw[eN N B O,if_pos M],?_⟩;exact .sl b (i+l) (E-l) pl a (G-l) hs hp Ua Ua Ua
       .obtain⟨rfl,cs,ty,hc,hr⟩:=ha Ua;refine⟨.slice (some ⟨pl.block,pl.base+i*pl.size+l*y.size,none⟩) (E-l) (G-l),by rw[eN N B O,if_neg M,S0,eK],?_⟩;refine .sl b (i+l) (E-l) pl _ (G-l) hs hp Ua Ua λ_=>⟨?_,cs,ty,hc,?_⟩
        .rw[<-g2.size,Tg,Tq]
        .have:(i+l+(G-l))*pl.size<=(i+cap)*pl.size:=SR _ Ua;omega
      .cases h
    .rename_i rows;cases D;obtain⟨A,cap,rfl,hn,hm,ha⟩:=hx.lst_inv;obtain⟨G,O,h5,h6,h7⟩:=iE (P:=P) (isS:=true) Y hhi S hmh h1 h2 h3 hn b1 b2 b3;split at h
     .rename_i M;cases h;obtain⟨sz,B⟩:∃sz,aP P e=some sz:=hes;have e1:=h7 M.1;refine⟨.slice A (E-l) (G-l),by rw[eN N B O,if_pos Ua],?_⟩;rw[show E-l=0 by omega,show G-l=0 by omega];exact .emp _
     split at h
     .cases h;obtain⟨sz,B⟩:∃sz,aP P e=some sz:=hes;obtain rfl:E=0:=by simp at b3;omega
      obtain rfl:l=0:=by omega
      exact⟨_,eN N B O,.lst0 _ _ Ua⟩
     .rename_i r rs;split at h
      .rename_i B;cases h;obtain⟨b,o,sz,rfl,hl,hrep⟩:=ha Ud;obtain rfl:r.length=sz:=hl.even 0 r rfl;by_cases M:G=l
       .have:E-l=0:=by omega
        rw[this,List.take_zero];exact⟨.slice (some ⟨b,o,none⟩) (E-l) (G-l),by rw[eN N B O,if_pos M],by rw[this];exact .lst0 _ _ Ua⟩
       .refine⟨.slice (some ⟨b,o+l*r.length,none⟩) (E-l) (G-l),by rw[eN N B O,if_neg M,S0,eK],?_⟩;by_cases hz:E-l=0
        .rw[hz,List.take_zero];exact .lst0 _ _ Ua
        .have D:(((r::rs).drop l).take (E-l)).length=E-l:=by simp at b3 ⊢;omega
         have get:∀(i:Nat) (q:List AV),(((r::rs).drop l).take (E-l))[i]? =some q->i<E-l/\(r::rs)[l+i]? =some q:=λi q hq=>by have Z:=aA hq;rw[D]at Z;rw[S5 Z,Ti]at hq;exact⟨Z,hq⟩
         have:=bn.lst (w:=w) (σ:=σ) (T:=aQ σ H) (((r::rs).drop l).take (E-l)) b (o+l*r.length) r.length (G-l)
          ⟨hl.out,λi q hq=>hl.even _ q (get i q hq).2,λi j Z hj=>by
           rw[D]at Z;have:=hl.cell (l+i) j (by simp at b3 ⊢;omega) hj
           rwa [Tg,<-Tq]at this,hl.pos,Ua⟩ Ua Ua
          (λi q j a u hq hj N=>hrep (l+i) q j a u (get i q hq).2 hj (by rw[Tg,<-Tq];exact N))
         rwa [D]at this
      .cases h
    .cases h
   .cases h
  .cases h
 .rename_i N;split at h
  .split at h
   .rename_i l E h1 h2;split at h
    .rename_i hb;obtain⟨b1,b2⟩:=hb;cases h;cases hx with
     |str ba=>
     have hln:ba.data.toList.length=ba.size:=SU;have hmx2:mx'=none:=by
      match mx',S with
      |none,_=>rfl
     subst hmx2;obtain⟨G,O,h5,h6,h7⟩:=iE (P:=P) (isS:=false) (n:=ba.size) (c:=ba.size) (m:=ba.size) (mx:=none) (mx':=none) Y hhi trivial (λ_=>rfl) h1 (by rw[<-hln];exact h2) rfl (Fd _) b1 Ua (Fd _);refine⟨.string (ba.extract l E),by simp only[Instr.sliceAt,Instr.slice,S4,run_underlying N,SI,O,Tj,Option.isSome_none,SO,if_false],Gv ?_⟩;rw[Lib.extract_data]
    .cases h
   .cases h
  .cases h
 .cases h
end
end
section
section
variable {P:Program} {w:World} {σ:bE} {T:Nat->Prop}
theorem tL:∀(vs:List Value) (k j:Nat) (cs:Array Value),j+k+vs.length<=cs.size->
  ((vs.zipIdx k).foldl (λ(cs:Array Value) (p:Value×Nat)=>cs.setIfInBounds (j+p.2) p.1) cs).toList=cs.toList.take (j+k)++vs++cs.toList.drop (j+k+vs.length)
 |[],k,j,cs,_=>by simp
 | v::vs,k,j,cs,h=>by simp only[SQ]at h;rw[List.zipIdx_cons,TL,tL vs (k+1) j _ (by simp;omega)];have e:=list_seg_step cs.toList (j+k) v vs (by simp;omega);simpa[Array.toList_setIfInBounds,Tq]using e
theorem eG.splice{cells cs:List AV}{vs us:List Value}{j:Nat}(h:eG w σ T cells vs)(k:eG w σ T cs us)(G:j+cs.length<=cells.length):
  eG w σ T (bq cells j cs) (vs.take j++us++vs.drop (j+us.length)):=by
 refine⟨by simp[bq,h.1,k.1],λi a v B u=>?_⟩;unfold bq at B;have e1:=h.1;have e2:=k.1;rcases Fn i j with D|D
 .rw[S3,SE (by simp;omega),S5 D]at B u;exact h.2 i a v B u
 .rcases Fn i (j+cs.length)with E|E
  .rw[SE (by simp;omega),SA (by simp;omega)]at B u;simp only[ST]at B u;rw[Tn Ua]at B u;exact k.2 _ a v B u
  .rw[SA (by simp;omega)]at B u;simp only[SD,ST,Ti]at B u;rw[Tn Ua]at B u;rw[<-e2]at u;exact h.2 _ a v B u
theorem qH{place:Nat->Option (Nat×Nat)}{ρ:Operand->AV}{u:Operand->Value}(G:∀x,bn w σ T (ρ x) (u x)):∀(ps:List (Nat×Operand)) (cells r:List AV) (j:Array Value),
  eG w σ T cells j.toList->rJ place cells (ps.map λp=>(p.1,ρ p.2))=some r->∃M,Instr.fill place j (ps.map λp=>(p.1,u p.2))=some M/\eG w σ T r M.toList
 |[],cells,r,j,hc,h=>by cases h;exact⟨j,rfl,hc⟩
 | (i,x)::ps,cells,r,j,hc,h=>by
  simp only[Sx,rJ]at h;split at h
  .rename_i B size cs hp O;split at h
   .rename_i Z;obtain⟨N,Y,_⟩:=Z;have S:=(G x).cells O;have e1:(u x).cells.size=size:=by rw[<-SU,<-S.1,N]
    have e2:j.size=cells.length:=by rw[<-SU,<-hc.1]
    have D:((u x).cells.zipIdx.foldl (λ(cs:Array Value) (p:Value×Nat)=>cs.setIfInBounds (B+p.2) p.1) j).toList=j.toList.take B++(u x).cells.toList++j.toList.drop (B+(u x).cells.toList.length):=by have:=tL (u x).cells.toList 0 B j (by simp;omega);rw[<-Array.foldl_toList,Array.toList_zipIdx];simpa using this
    obtain⟨M,h1,h2⟩:=qH G ps (bq cells B cs) r _ (by rw[D];exact hc.splice S Ua) h;refine⟨M,?_,h2⟩;have E:(decide ((u x).cells.size≠size)||decide (B+(u x).cells.size > j.size))=false:=by simp[e1,e2];omega
    simp only[Sx,Instr.fill,hp,E,SO,if_false];exact h1
   .cases h
  .cases h
theorem rO{α β:Type}(f:α->Sem β)(g:α->β):∀(l:List α),(∀x∈l,(f x).run P w=.ok (g x) w)->(l.mapM f).run P w=.ok (l.map g) w
 |[],_=>by simp
 | x::l,h=>by rw[List.mapM_cons];simp only[S4,h x Ud,SI,rO f g l (λy j=>h y (by simp[j])),Tj,Sx]
theorem zU{α β:Type}(f:α->Sem β)(g:α->β)(l:Array α)(h:∀x∈l.toList,(f x).run P w=.ok (g x) w):(l.mapM f).run P w=.ok (l.toList.map g).toArray w:=by rw[Array.mapM_eq_mapM_toList];simp only[Sem.run_map,rO f g l.toList h,SI]
structure Fit(P:Program)(F:TypeId->Option (List TypeId)):Prop where
 flat:∀t ts,F t=some ts->IU P t ts
 names : ∀ (g : Nat) (fn : Func), P.funcs[g]? = some fn → fn.name ≠ "runtime.NumGoroutine"
 order:P.follows .mixedOrders=true
theorem Dg{t:TypeId}{ps:Array (Nat×Operand)}{v:AV}{ρ:Operand->AV}{u:Operand->Value}(Y:∀x,bn w σ T (ρ x) (u x))(h:xm P t (ps.toList.map λp=>(p.1,ρ p.2))=some v):
  ∃v',(Instr.build t (ps.map λ(i,x)=>(i,u x))).run P w=.ok v' w/\bn w σ T v v':=by
 have Z:(ps.map λ(i,x)=>(i,u x)).toList=ps.toList.map λp=>(p.1,u p.2):=by simp
 unfold xm at h;split at h
 .rename_i O z hu hz;split at h
  .rename_i E;have hf:∀f∈O.toList,∃n,aP P f.type=some n:=λf N=>by rw[SM]at E;exact Option.isSome_iff_exists.1 (E f N)
   obtain⟨z',M,G⟩:=eM (P:=P) (w:=w) (σ:=σ) (T:=T) hz;cases B:rJ (jx P O) z (ps.toList.map λp=>(p.1,ρ p.2))with
   |none=>rw[B]at h;cases h
   |some r=>
    rw[B]at h;cases h;have j:=G.cells (cs:=z) rfl;have hm:=zU (P:=P) (w:=w) (λf:Field=>(do pure (f.offset,<-sizeOf f.type):Sem (Nat×Nat))) (λf=>(f.offset,(aP P f.type).getD 0)) O (λf N=>by
     obtain⟨n,D⟩:=hf f N;simp[cN D,D])
    have hpl:(λi=>((O.toList.map λf:Field=>(f.offset,(aP P f.type).getD 0)).toArray)[i]?)=jx P O:=by
     funext i;unfold jx;rw[List.getElem?_toArray,SJ,SY];cases hfi:O[i]? with
     |none=>rfl
     |some f=>obtain⟨n,D⟩:=hf f (by rw[Array.mem_toList_iff];exact Array.mem_of_getElem? hfi);simp[D]
    rw[<-hpl]at B;obtain⟨S,h1,h2⟩:=qH Y ps.toList z r z'.cells j B;refine⟨.agg S,?_,by have:=bn.agg (w:=w) (σ:=σ) (T:=T) r S.toList h2.1 h2.2;simpa using this⟩;simp only[Instr.build,S4,M,SI,run_underlying hu,hm,Z,h1,Tj]
  .cases h
 .rename_i n e z hu hz;obtain⟨z',M,G⟩:=eM (P:=P) (w:=w) (σ:=σ) (T:=T) hz;cases D:aP P e with
  |none=>rw[D]at h;cases h
  |some sz=>
   rw[D]at h;simp only[Tk]at h;cases B:rJ (λi=>some (i*sz,sz)) z (ps.toList.map λp=>(p.1,ρ p.2))with
   |none=>rw[B]at h;cases h
   |some r=>rw[B]at h;cases h;have j:=G.cells (cs:=z) rfl;obtain⟨S,h1,h2⟩:=qH Y ps.toList z r z'.cells j B;refine⟨.agg S,?_,by have:=bn.agg (w:=w) (σ:=σ) (T:=T) r S.toList h2.1 h2.2;simpa using this⟩;simp only[Instr.build,S4,M,SI,run_underlying hu,cN D,Z,h1,Tj]
 .cases h
end
end
section
def zV(P:Program)(s:Sem Value)(w:World)(σ:bE)(H:ae)(b:Nat)(v:AV)(H':ae):Prop:=
 ∃v' w' σ',s.run P w=.ok v' w'/\bn w' σ' (aQ σ' H') v v'/\bv w' σ' H'/\eH w σ (aQ σ H) w' σ' (aQ σ' H')/\∀c pl,σ' c=some pl->σ c=some pl\/c=b
section
variable {P:Program} {w:World} {σ:bE} {T:Nat->Prop} {H:ae} {b:Nat}
structure Flat(w:World)(σ:bE)(T:Nat->Prop)(rows:List (List AV))(n:Nat)(l:List Value):Prop where
 len:l.length=rows.length*n
 even:∀(i:Nat) (r:List AV),rows[i]? =some r->r.length=n
 rep:∀(i:Nat) (r:List AV) (j:Nat) (a:AV) (u:Value),rows[i]? =some r->r[j]? =some a->l[i*n+j]? =some u->bn w σ T a u
theorem mX{i j m n:Nat}(u:i<m)(B:j<n):i*n+j<m*n:=by have:(i+1)*n<=m*n:=SR _ u;rw[Tg]at this;omega
theorem Flat.nil(n:Nat):Flat w σ T [] n []:=⟨Ud,Ud,Ud⟩
theorem Flat.append{rows rows':List (List AV)}{n:Nat}{l N:List Value}(h:Flat w σ T rows n l)(k:Flat w σ T rows' n N):Flat w σ T (rows++rows') n (l++N):=by
 refine⟨by simp[h.len,k.len,Tg],λi r B=>?_,λi r j a u B M E=>?_⟩
 .rcases Fn i rows.length with D|D
  .rw[SE D]at B;exact h.even i r B
  .rw[SA D]at B;exact k.even _ r B
 .rcases Fn i rows.length with D|D
  .rw[SE D]at B;have O:j<n:=by rw[<-h.even i r B];exact aA M
   rw[SE (by rw[h.len];exact mX D O)]at E;exact h.rep i r j a u B M E
  .rw[SA D]at B;have G:l.length<=i*n+j:=by rw[h.len];exact SK (SR _ D) (S7 _ _)
   rw[SA G]at E;refine k.rep (i-rows.length) r j a u B M ?_;rw[<-E,h.len];congr 1;rw[Nat.sub_mul];have:rows.length*n<=i*n:=SR _ D;omega
theorem Flat.set{rows:List (List AV)}{n:Nat}{l:List Value}(h:Flat w σ T rows n l){i:Nat}{cs:List AV}{us:List Value}(Z:i<rows.length)(O:cs.length=n)(k:eG w σ T cs us):
  Flat w σ T (rows.set i cs) n (l.take (i*n)++us++l.drop (i*n+us.length)):=by
 have S:us.length=n:=by rw[<-k.1,O]
 have M:i*n+n<=l.length:=by rw[h.len];have:(i+1)*n<=rows.length*n:=SR _ Z;rw[Tg]at this;omega
 refine⟨by simp only[SD,ST,TV,TS];rw[Tn Ua,S,h.len];rw[h.len]at M;omega,λq r B=>?_,λq r j a u B N E=>?_⟩
 .rw[SS]at B;split at B
  .cases B;exact O
  .exact h.even q r B
 .have hj:j<r.length:=aA N;rw[SS]at B;split at B
  .rename_i e;subst e;cases B;rw[SE (by simp;omega),SA (by simp;omega)]at E;simp only[ST]at E;rw[Tn Ua,Nat.add_sub_cancel_left]at E;exact k.2 j a u N E
  .rename_i G;have Y:=h.even q r B;have hq:q<rows.length:=aA B;refine h.rep q r j a u B N ?_;rw[<-E];rcases Nat.lt_or_gt_of_ne G with D|D
   .have:(i+1)*n<=q*n:=SR _ D;rw[Tg]at this;rw[SA (by simp;omega)];simp only[SD,ST,Ti];rw[Tn Ua];congr 1;omega
   .have:(q+1)*n<=i*n:=SR _ D;rw[Tg]at this;rw[S3,SE (by simp;omega),S5 Ua]
theorem Flat.zeros{z:List AV}{zs:Array Value}{n:Nat}(O:eG w σ T z zs.toList)(S:z.length=n)(h0:0<n)(len k:Nat)(Z:len<=k):
  ∃l:List Value,(Array.range (k*n)).map (zs[· % zs.size]!)=l.toArray/\l.length=k*n/\Flat w σ T (List.replicate len z) n (l.take (len*n))/\(∀u∈l,∃a,bn w σ T a u/\a∈z):=by
 have N:zs.size=n:=by rw[<-SU,<-O.1,S]
 refine⟨(List.range (k*n)).map (zs[· % zs.size]!),?_,Ud,⟨?_,?_,?_⟩,?_⟩
 .apply Array.ext';simp
 .simp only[ST,Ty,List.length_range,List.length_replicate];exact Tn (SR _ Z)
 .intro i r B;rw[TR]at B;split at B
  .cases B;exact S
  .cases B
 .intro i r j a u B ha D;rw[TR]at B;split at B
  .rename_i hi;cases B;have hj:j<n:=by rw[<-S];exact aA ha
   have M:=mX hi hj;have G:i*n+j<k*n:=SW M (SR _ Z);rw[S5 M,SJ,T9 G]at D;simp only[S0,SF]at D;subst D;have e:(i*n+j) % zs.size=j:=by rw[N,Nat.mul_comm,Nat.mul_add_mod,Nat.mod_eq_of_lt hj]
   rw[e];refine O.2 j a _ ha ?_;rw[getElem!_pos zs j Ua,SY,S1 Ua]
  .cases B
 .intro u D;rw[Tl]at D;obtain⟨q,_,rfl⟩:=D;have Y:q % zs.size<zs.size:=Nat.mod_lt _ Ua;rw[getElem!_pos zs _ Y];have E:q % zs.size<z.length:=by omega
  exact⟨z[q % zs.size],O.2 (q % zs.size) _ _ (mt E) (by rw[SY,S1 Y]),Sy E⟩
theorem xq(hW:bv w σ H)(hb:σ b=none)(M:b<H.next){x:Blk}{cs:Array Value}{e:TypeId}{s:Sem Value}{v:AV}{v':Value}{l:List Value}(N:l=cs.toList.take (x.rows.length*x.size))
  (E:Flat w σ (aQ σ H) x.rows x.size l) (hs:s.run P w=.ok v' (World.push w (.cells cs e (0,0))))
  (Y:bn (World.push w (.cells cs e (0,0))) (σ.set b ⟨w.heap.size,0,x.size⟩) (aQ (σ.set b ⟨w.heap.size,0,x.size⟩) (H.new b x)) v v'):zV P s w σ H b v (H.new b x):=by
 have B:=E.len;rw[N]at B;simp only[ST,SU]at B;obtain⟨h1,h2⟩:=hW.new hb M (x:=x) (cs:=cs) (e:=e) E.even Ua (λi r j a u G S Z=>E.rep i r j a u G S (by
  have hj:j<x.size:=by rw[<-E.even i r G];exact aA S
  rw[N,S5 (mX (aA G) hj),SY];exact Z))
 refine⟨v',_,_,hs,Y,h1,h2,λc pl O=>?_⟩;by_cases D:b=c
 .exact .inr D.symm
 .rw[bE.set_ne _ _ D]at O;exact .inl O
theorem Flat.one{cs:List AV}{vs:List Value}(h:eG w σ T cs vs):Flat w σ T [cs] cs.length vs:=by
 refine⟨by simp[h.1],λi r B=>?_,λi r j a u B E D=>?_⟩
 .match i with
  |0=>cases B;rfl
  |i+1=>simp at B
 .match i with
  |0=>cases B;exact h.2 j a u E (by simpa using D)
  |i+1=>simp at B
theorem Dh(G:bv w σ H)(E:σ b=none)(j:b<H.next){t:TypeId}{x:AV}{x':Value}{cs:List AV}(B:bn w σ (aQ σ H) x x')(D:x.cells? =some cs):
  zV P (Instr.box t x') w σ H b (.ptr b 0 0) (H.new b ⟨cs.length,[cs]⟩):=by
 have u:=B.cells D;refine xq G E j (cs:=x'.cells) (e:=t) (v':=.pointer (some ⟨w.heap.size,0,none⟩)) (l:=x'.cells.toList) ?_ (Flat.one u) rfl ?_
 .have:=u.1;simp only[List.length_singleton,Nat.one_mul];rw[SX Ua]
 .have:=bn.ptr (w:=World.push w (.cells x'.cells t (0,0))) (T:=aQ (σ.set b ⟨w.heap.size,0,cs.length⟩) (H.new b ⟨cs.length,[cs]⟩)) b 0 0 _ (bE.set_eq σ b ⟨w.heap.size,0,cs.length⟩) (.inl rfl);simpa using this
theorem Fm(N:bv w σ H)(M:σ b=none)(D:b<H.next){t:TypeId}{cs:List AV}(j:(dU P t).bind AV.cells? =some cs):
  zV P (Instr.alloc t true (.tuple #[])) w σ H b (.ptr b 0 0) (H.new b ⟨cs.length,[cs]⟩):=by
 cases B:dU P t with
 |none=>rw[B]at j;cases j
 |some z=>rw[B]at j;obtain⟨z',Z,Y⟩:=eM (P:=P) (w:=w) (σ:=σ) (T:=aQ σ H) B;obtain⟨G,E,u,S,O⟩:=Dh (P:=P) (t:=t) N M D Y j;refine⟨G,E,u,?_,O⟩;rw[<-S];simp only[Instr.alloc,S4,Z,SI];rfl
theorem gE{α:Type}(l us:List α)(K p:Nat)(h:K+us.length<=l.length):
  (l.take K++us++l.drop (K+us.length))[p]? =if p<K then l[p]? else if p<K+us.length then us[p-K]? else l[p]? :=by
 rcases Fn p K with j|j
 .rw[if_pos j,S3,SE (by simp;omega),S5 j]
 .rw[if_neg Ua];rcases Fn p (K+us.length)with u|u
  .rw[if_pos u,SE (by simp;omega),SA (by simp;omega)];simp only[ST];rw[Tn Ua]
  .rw[if_neg Ua,SA (by simp;omega)];simp only[SD,ST,Ti];rw[Tn Ua];congr 1;omega
theorem Fo(hW:bv w σ H){t:TypeId}{a x:AV}{a' x':Value}{H':ae}(ha:bn w σ (aQ σ H) a a')(hx:bn w σ (aQ σ H) x x')(h:fW P H t a x=some H'):
  ∃w',(Instr.storeAt t a' x').run P w=.ok () w'/\bv w' σ H'/\eH w σ (aQ σ H) w' σ (aQ σ H'):=by
 unfold fW at h;split at h
 .rename_i c i D cs n hcs hn;split at h
  .rename_i y hy;split at h
   .rename_i r hr;split at h
    .rename_i hl;obtain⟨hl1,hl2,hl3⟩:=hl;cases h;cases ha with
     |ptr _ _ _ N hs hp=>
     obtain⟨pl',ds,e,g1,E⟩:=hW.live c y hy;rw[hs]at g1;cases g1;replace E:=E.1 hp;have B:=hx.cells hcs;have hone:=B.one hl2;have hi:=aA hr;have hrl:=E.even i r hr;have Y:=E.room;have hm:(i+1)*y.size<=y.rows.length*y.size:=SR _ hi;rw[Tg]at hm;have hst:=run_storeCells_at (P:=P) N.block (N.base+i*N.size+D) e x'.cells.toList 0 ds w E.block (by rw[<-B.1,E.size];omega) hone;simp only[T2]at hst;have hw:kC w (w.setRow N.block (ds.toList.take (N.base+i*N.size+D)++x'.cells.toList++ds.toList.drop (N.base+i*N.size+D+x'.cells.toList.length)).toArray) N.block ds _ e:=
      ⟨rfl,rfl,rfl,Ud,E.block,setRow_heap w _ _ _ _ _ E.block,by
       have:=B.1;have S:=E.size;simp only[List.size_toArray,SD,ST,TV,SU];rw[S,Tn Ua];rw[<-SU (xs:=x'.cells)];omega,λd hd=>setRow_other w _ d _ hd⟩
     have hput:=hW.put hy hs hw (x':={y with rows:=y.rows.set i (bq r D cs)}) E.size.symm ?_ ?_ ?_
     .refine⟨_,?_,hput⟩;have:x'.cells.size=n:=by rw[<-SU,<-B.1,hl1]
      simp only[Instr.storeAt,Instr.sureAddr,storeVar,S4,Tj,SI,cN hn,Sem.run_ite,this,ne_eq,not_true_eq_false,if_false,hst]
     .intro q s O;rw[SS]at O;split at O
      .cases O;simp[bq];omega
      .exact E.even q s O
     .simpa using Y
     .intro q s j a u O M G;have S:=E.size;have hul:x'.cells.toList.length=cs.length:=B.1.symm;have hdl:ds.toList.length=ds.size:=SU;rw[List.getElem?_toArray,gE ds.toList x'.cells.toList (N.base+i*N.size+D) _ (by rw[hul,S];omega),hul,S]at G;simp only[]at G;rw[SS]at O;split at O
      .rename_i Z;subst Z;cases O;have hjr:=aA M;have hjl:j<r.length:=by simp[bq]at hjr;omega
       unfold bq at M;rw[gE _ _ _ _ Ua]at M;by_cases h1:j<D
       .rw[if_pos h1]at M;rw[if_pos Ua,SY]at G;exact E.rep i r j a u hr M G
       .rw[if_neg h1]at M;by_cases h2:j<D+cs.length
        .rw[if_pos h2]at M;rw[if_neg Ua,if_pos Ua]at G;refine B.2 (j-D) a u M ?_;rw[<-G];congr 1;omega
        .rw[if_neg h2]at M;rw[if_neg Ua,if_neg Ua,SY]at G;exact E.rep i r j a u hr M G
      .rename_i Z;have hjs:j<y.size:=by rw[<-E.even q s O];exact aA M
       refine E.rep q s j a u O M ?_;rcases Nat.lt_or_gt_of_ne Z with hlt|hlt
       .have:(i+1)*y.size<=q*y.size:=SR _ hlt;rw[Tg]at this;rw[if_neg Ua,if_neg Ua,SY]at G;exact G
       .have:(q+1)*y.size<=i*y.size:=SR _ hlt;rw[Tg]at this;rw[if_pos Ua,SY]at G;exact G
    .cases h
   .cases h
  .cases h
 .cases h
end
end
end Go.Proofs.YtbofdbhnbodbiaaGreatDoor.Am
