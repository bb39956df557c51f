/- part -/
import Derived.Calls
import Derived.Orders
import Derived.Below
import Derived.Handy
import Derived.RowKit
import Derived.Laws.Cells
import Derived.Laws.CopyRow
import Derived.Laws.Entries
import Derived.Laws.StructEq
import Derived.Lib.Strings
import Derived.Shelf.Small.Wraps
import Derived.Shelf.Sort.Plain
import Derived.Shelf.Slices.Turned
import Derived.Ground.Names2Prog
import Derived.Shelf.Slices.Clone
import Derived.Shelf.Slices.CompactI
import Derived.Shelf.Slices.In.SortNone
import Derived.Ground.SlgnProg
import Derived.Shelf.SlicesE.Clone
import Derived.Test.YtfckbjehkbhkgaaGreatProg
set_option linter.all false
set_option maxRecDepth 100000
set_option maxHeartbeats 0
namespace Go.Proofs.YtfckbjehkbhkgaaGreat
open Go Go.RowKit
abbrev mt:=@List.getElem?_eq_getElem
abbrev Fd:=@Nat.le_refl
abbrev Fn:=@List.take_succ_eq_append_getElem
abbrev LE:=@Nat.lt_or_ge
abbrev LT:=@List.getElem_mem
abbrev ST:=@List.map_append
abbrev aag:=@List.mem_singleton
abbrev aah:=@List.getElem?_eq_none
abbrev aai:=@List.map_cons
abbrev aaj:=@List.mem_cons
abbrev aak:=@List.mem_append
abbrev aal:=@List.length_append
abbrev aaq:=@Nat.succ_pos
abbrev aar:=@List.perm_append_comm
abbrev aas:=@Bool.and_eq_true
abbrev aaL:=@List.getElem?_append_right
abbrev aaS:=@Option.some.injEq
abbrev aaT:=@List.take_of_length_le
abbrev aaW:=@List.getElem?_append_left
abbrev aaY:=@List.mem_append_right
abbrev abd:=@Result.andThen_ok
abbrev abe:=@Nat.le_trans
abbrev abg:=@IntWalk.i64_in
abbrev abh:=@List.all_eq_true
abbrev abi:=@List.length_cons
abbrev abj:=@Bool.false_eq_true
abbrev abk:=@Nat.lt_of_lt_of_le
abbrev abl:=@Nat.mul_le_mul_right
abbrev abm:=@List.length_take
abbrev abn:=@List.getElem?_map
abbrev abo:=@Array.length_toList
abbrev abp:=@Option.map_some
abbrev abq:=@List.length_nil
abbrev abr:=@List.append_assoc
abbrev abs:=@List.getElem?_set
abbrev abt:=@Nat.zero_le
abbrev abu:=@Array.getElem?_eq_getElem
abbrev abv:=@Array.getElem?_toList
abbrev abw:=@Int.toNat_natCast
abbrev abx:=@Sem.run_bind
abbrev aby:=@List.append_nil
abbrev abz:=@List.forall_mem_cons
abbrev abA:=@List.not_mem_nil
abbrev abB:=@Nat.le_add_right
abbrev abC:=@List.getElem_of_mem
abbrev abD:=@Int.toNat_of_nonneg
abbrev abE:=@List.mem_map_of_mem
abbrev abF:=@List.map_nil
abbrev abG:=@List.nodup_cons
abbrev abH:=@Int.eq_ofNat_of_zero_le
abbrev abI:=@Nat.zero_add
abbrev abJ:=@List.getElem?_take_of_lt
abbrev abK:=@List.nil_append
abbrev abL:=@List.getElem?_eq_some_iff
abbrev abM:=@Nat.add_mul
abbrev abN:=@List.mem_of_getElem?
abbrev abO:=@Sem.run_pure
abbrev abP:=@List.mem_map
abbrev abQ:=@Option.bind_some
abbrev abR:=@List.mem_append_left
abbrev abS:=@Option.getD_some
abbrev abT:=@List.map_set
abbrev abU:=@List.length_eq_zero_iff
abbrev abV:=@Nat.min_eq_left
abbrev abW:=@Nat.add_assoc
abbrev abX:=@List.cons_append
abbrev abY:=@List.getElem?_drop
abbrev abZ:=@Nat.eq_zero_or_pos
abbrev aca:=@List.mem_or_eq_of_mem_set
abbrev acb:=@List.mem_cons_of_mem
abbrev acd:=@List.mem_range
abbrev ace:=@List.eq_nil_of_length_eq_zero
abbrev acf:=@List.sum_cons
abbrev acg:=@List.foldl_cons
abbrev ach:=@List.length_singleton
abbrev aci:=@List.length_filter_le
abbrev acj:=@List.getElem?_cons_succ
abbrev ack:=@List.drop_eq_getElem_cons
abbrev acl:=@List.length_map
abbrev acm:=@Array.getElem?_eq_some_iff
abbrev acn:=@List.mem_filter
abbrev aco:=@List.forall_mem_nil
abbrev acp:=@List.ext_getElem?
abbrev acq:=@Nat.le_succ_of_le
abbrev acr:=@List.take_append_drop
abbrev acs:=@Nat.eq_or_lt_of_le
abbrev act:=@List.perm_append_comm_assoc
abbrev acu:=@List.getElem?_replicate
abbrev acv:=@List.mem_of_mem_take
abbrev acw:=@List.any_eq_true
abbrev acx:=@List.take_length
abbrev acy:=@List.nodup_append
abbrev acz:=@Nat.add_zero
abbrev acA:=@List.sum_nil
abbrev acB:=@Bool.true_and
abbrev acC:=@Nat.le_succ
abbrev acD:=@List.map_take
abbrev acE:=@List.length_pos_iff
abbrev acF:=@Option.map_eq_some_iff
abbrev acG:=@List.getD_eq_getElem?_getD
abbrev acH:=@List.length_drop
abbrev acI:=@Bool.not_eq_true
abbrev acJ:=@List.mem_cons_self
abbrev acK:=@List.filter_append
abbrev acL:=@List.foldl_append
abbrev acM:=@List.getElem?_range
theorem acN{P:Prop}(h:P:=by omega):P:=h
theorem acO{P:Prop}(h:P:=by assumption):P:=h
theorem acP{P:Prop}(h:P:=by rfl):P:=h
theorem acQ{P:Prop}(h:P:=by simp):P:=h
theorem acR{P:Prop}(h:P:=by decide):P:=h
theorem acS{P:Prop}(h:P:=by simp;omega):P:=h
theorem acT{P:Prop}(h:P:=by repeat' constructor):P:=h
end Go.Proofs.YtfckbjehkbhkgaaGreat
namespace Go.Proofs.YtfckbjehkbhkgaaGreat.Am
section
inductive Tr (α:Type) where
 |leaf
 |node (v:Option α) (l r:Tr α)
namespace Tr
variable {α:Type}
def bitsF:Nat->Nat->List Bool
 |0,_=>[]
 |_+1,0=>[]
 |f+1,n+1=>((n+1) % 2==1)::bitsF f ((n+1) / 2)
def bits(n:Nat):List Bool:=bitsF n n
def getP:Tr α->List Bool->Option α
 |leaf,_=>none
 |node v _ _,[]=>v
 |node _ l r,b::p=>if b then l.getP p else r.getP p
def setP:List Bool->Option α->Tr α->Tr α
 |[],x,leaf=>node x leaf leaf
 |[],x,node _ l r=>node x l r
 |b::p,x,leaf=>if b then node none (setP p x leaf) leaf else node none leaf (setP p x leaf)
 |b::p,x,node v l r=>if b then node v (setP p x l) r else node v l (setP p x r)
theorem getP_leaf(p:List Bool):(leaf:Tr α).getP p=none:=by cases p<;>rfl
theorem getP_setP(p q:List Bool)(x:Option α)(t:Tr α):(setP p x t).getP q=if p=q then x else t.getP q:=by
 induction p generalizing q t with
 |nil=>cases t<;>cases q<;>simp[setP,getP]
 |cons b p j=>
  cases t<;>cases q<;>cases b<;>simp[setP,getP]
  all_goals (rename_i c q;cases c<;>simp[j,getP_leaf])
def val:List Bool->Nat
 |[]=>0
 |b::p=>(if b then 1 else 0)+2*val p
theorem val_bitsF(f n:Nat)(h:n<=f):val (bitsF f n)=n:=by
 induction f generalizing n with
 |zero=>simp[bitsF,val];omega
 |succ f j=>
  cases n with
  |zero=>rfl
  |succ n=>simp only[bitsF,val];rw[j ((n+1) / 2) acN];by_cases u:(n+1) % 2=1<;>simp[u]<;>omega
theorem bits_inj{a b:Nat}(h:bits a=bits b):a=b:=by
 have:=congrArg val h
 rwa [bits,bits,val_bitsF _ _ (Fd _),val_bitsF _ _ (Fd _)]at this
def get(t:Tr α)(n:Nat):Option α:=t.getP (bits n)
def set(t:Tr α)(n:Nat)(x:Option α):Tr α:=setP (bits n) x t
theorem get_set(t:Tr α)(n m:Nat)(x:Option α):(t.set n x).get m=if n=m then x else t.get m:=by
 unfold get set;rw[getP_setP];by_cases h:n=m
 .subst h;simp
 .rw[if_neg h,if_neg (λe=>h (bits_inj e))]
theorem get_leaf(m:Nat):(leaf:Tr α).get m=none:=getP_leaf _
end Tr
end
section
inductive AV where
 |int (k:IntKind) (n:Int)
 |bool (b:Bool)
 |str (s:List UInt8)
 |nilp
 |ptr (b i off:Nat)
 |pptr (rows:List (List AV)) (i off:Nat)
 |nils
 |emp
 |sl (b i n:Nat)
 |lst (rows:List (List AV))
 |mp (b:Nat)
 |it (b:Nat)
 |agg (cells:List AV)
 |tup (vs:List AV)
 |fn (f:FuncId) (captured:List AV)
 |nilf
 |junk
 deriving Inhabited
def AV.cells? :AV->Option (List AV)
 |.agg cs=>some cs
 |.junk=>none
 |v=>some [v]
def AV.one:AV->Bool
 |.agg _|.tup _|.junk=>false
 |_=>true
def cX{α:Type}:List (Option α)->Option (List α)
 |[]=>some []
 |none::_=>none
 | some x::l=>match cX l with
  |some l=>some (x::l)
  |none=>none
def Yv:Value->Option AV
 |.int k n=>some (.int k n)
 |.bool b=>some (.bool b)
 |.string s=>some (.str s.data.toList)
 |.pointer none=>some .nilp
 |.slice none 0 0=>some .nils
 |.nilFunc=>some .nilf
 |_=>none
def OF:Value->Option AV
 |.agg cs=>(cX (cs.toList.map Yv)).map .agg
 |v=>Yv v
structure Blk where
 size:Nat
 rows:List (List AV)
 deriving Inhabited
structure ah where
 next:Nat
 tr:Tr Blk
 log:List Nat
def ah.get(H:ah)(b:Nat):Option Blk:=H.tr.get b
def ah.new(H:ah)(b:Nat)(x:Blk):ah:={H with tr:=H.tr.set b (some x)}
def ah.put(H:ah)(b:Nat)(x:Option Blk):ah:={H with tr:=H.tr.set b x,log:=b::H.log}
inductive ik where
 |val (v:AV) (H:ah)
 |call (f:FuncId) (args:List AV)
section
variable (P:Program)
def bk(t:TypeId):Option Nat:=(P.info? t).map (·.size)
def iR(t:TypeId):Option Nat:=(P.info? t).map (·.bytes)
def fB(t:TypeId):Option AV:=(P.info? t).bind λi=>i.zero.bind OF
def fE(t:TypeId):Option Bool:=(P.underlying t).map fun|.struct _|.array _ _=>true|_=>false
def jg(t:TypeId)(row:List AV)(off:Nat):Option AV:=
 match fE P t,bk P t with
 |some true,some n=>if off+n<=row.length then some (.agg ((row.drop off).take n))else none
 |some false,some _=>row[off]?
 |_,_=>none
def aR(row:List AV)(off:Nat)(cs:List AV):List AV:=row.take off++cs++row.drop (off+cs.length)
def ph(H:ah)(t:TypeId):AV->Option AV
 |.ptr b i off=>(H.get b).bind λx=>(x.rows[i]?).bind λr=>jg P t r off
 |.pptr rows i off=>(rows[i]?).bind λr=>jg P t r off
 |_=>none
def iy(H:ah)(t:TypeId)(a v:AV):Option ah:=
 match a,v.cells?,bk P t with
 |.ptr b i off,some cs,some n=>
  match H.get b with
  | some x=>match x.rows[i]? with
   |some r=>if cs.length=n/\cs.all AV.one/\off+n<=r.length then some (H.put b (some {x with rows:=x.rows.set i (aR r off cs)}))else none
   |none=>none
  |none=>none
 |_,_,_=>none
def vc(place:Nat->Option (Nat×Nat))(cells:List AV):List (Nat×AV)->Option (List AV)
 |[]=>some cells
 |(i,v)::rest=>
  match place i,v.cells? with
  |some (off,size),some cs=>if cs.length=size/\off+size<=cells.length/\cs.all AV.one then vc place (aR cells off cs) rest else none
  |_,_=>none
def fK(size:Nat)(rows:List (List AV)):List (Nat×AV)->Option (List (List AV))
 |[]=>some rows
 |(i,v)::rest=>
  match v.cells? with
  |some cs=>if cs.length=size/\i<rows.length/\cs.all AV.one then fK size (rows.set i cs) rest else none
  |none=>none
def lz(fs:Array Field)(i:Nat):Option (Nat×Nat):=(fs[i]?).bind λf=>(bk P f.type).map λn=>(f.offset,n)
def Bg(t:TypeId)(parts:List (Nat×AV)):Option AV:=
 match P.underlying t,fB P t with
 |some (.struct fs),some (.agg z)=>if(fs.toList.all λf=>(bk P f.type).isSome)=true then(vc (lz P fs) z parts).map .agg else none
 |some (.array _ e),some (.agg z)=>(bk P e).bind λn=>(vc (λi=>some (i*n,n)) z parts).map .agg
 |_,_=>none
def LC:AV->Option Nat
 |.nils=>some 0
 |.emp=>some 0
 |.lst rows=>some rows.length
 |.sl _ _ n=>some n
 |_=>none
def vf:List UInt8->List UInt8->Bool
 |_,[]=>false
 |[],_::_=>true
 |a::x,b::y=>a<b||(a==b&&vf x y)
def vg(t:TypeId)(x y:AV):Option Bool:=
 match P.underlying t,x,y with
 |some (.int _),.int k a,.int k' b=>if k=k' then some (a==b)else none
 |some .bool,.bool a,.bool b=>some (a==b)
 |some .string,.str a,.str b=>some (a==b)
 |some (.pointer _),.nilp,.nilp=>some true
 |some (.pointer _),.nilp,.ptr ..|some (.pointer _),.ptr ..,.nilp|some (.pointer _),.nilp,.pptr ..|some (.pointer _),.pptr ..,.nilp=>some false
 |some (.slice _),.nils,.nils=>some true
 |some (.slice _),.nils,.sl ..|some (.slice _),.sl ..,.nils|some (.slice _),.nils,.lst (_::_)|some (.slice _),.lst (_::_),.nils=>some false
 |_,_,_=>none
def xB:List TypeId->List AV->List AV->Option Bool
 |[],[],[]=>some true
 | t::ts,a::l,b::m=>match vg P t a b with
  |some true=>xB ts l m
  |r=>r
 |_,_,_=>none
def iS(F:TypeId->Option (List TypeId))(op:BinOp)(t:TypeId)(x y:AV):Option AV:=
 match op,x,y with
 |.shl,.int k a,.int _ b=>if 0<=b then some (.int k (k.wrap (a*2^min b.toNat k.bits)))else none
 |.shr,.int k a,.int _ b=>if 0<=b then some (.int k (a.fdiv (2^min b.toNat k.bits)))else none
 |op,.int k a,.int k' b=>
  if k≠k' then none else
  match op with
  |.add=>some (.int k (k.wrap (a+b)))
  |.sub=>some (.int k (k.wrap (a-b)))
  |.mul=>some (.int k (k.wrap (a*b)))
  |.quo=>if b=0 then none else some (.int k (k.wrap (a.tdiv b)))
  |.rem=>if b=0 then none else some (.int k (a.tmod b))
  |.and=>some (.int k (k.wrap (BitVec.ofInt k.bits a &&& BitVec.ofInt k.bits b).toNat))
  |.or=>some (.int k (k.wrap (BitVec.ofInt k.bits a ||| BitVec.ofInt k.bits b).toNat))
  |.xor=>some (.int k (k.wrap (BitVec.ofInt k.bits a ^^^ BitVec.ofInt k.bits b).toNat))
  |.eql=>some (.bool (a==b))
  |.neq=>some (.bool (a != b))
  |.lss=>some (.bool (decide (a<b)))
  |.leq=>some (.bool (decide (a<=b)))
  |.gtr=>some (.bool (decide (a > b)))
  |.geq=>some (.bool (decide (a>=b)))
  |_=>none
 |op,.str a,.str b=>
  match op with
  |.eql=>some (.bool (a==b))
  |.neq=>some (.bool !(a==b))
  |.lss=>some (.bool (vf a b))
  |.add=>if a.length+b.length<=2^62 then some (.str (a++b))else none
  |_=>none
 |.eql,.agg a,.agg b=>(F t).bind λts=>(xB P ts a b).map .bool
 |.neq,.agg a,.agg b=>(F t).bind λts=>(xB P ts a b).map λr=>.bool !r
 |.eql,.bool a,.bool b=>(vg P t (.bool a) (.bool b)).map .bool
 |.neq,.bool a,.bool b=>(vg P t (.bool a) (.bool b)).map λr=>.bool !r
 |.eql,.nilp,y=>(vg P t .nilp y).map .bool
 |.neq,.nilp,y=>(vg P t .nilp y).map λr=>.bool !r
 |.eql,x,.nilp=>(vg P t x .nilp).map .bool
 |.neq,x,.nilp=>(vg P t x .nilp).map λr=>.bool !r
 |.eql,.nils,y=>(vg P t .nils y).map .bool
 |.neq,.nils,y=>(vg P t .nils y).map λr=>.bool !r
 |.eql,x,.nils=>(vg P t x .nils).map .bool
 |.neq,x,.nils=>(vg P t x .nils).map λr=>.bool !r
 |_,_,_=>none
def unA(op:UnOp)(x:AV):Option AV:=
 match op,x with
 |.neg,.int k n=>some (.int k (k.wrap (0-n)))
 |.not,.bool b=>some (.bool !b)
 |_,_=>none
def IW(src dst:TypeId)(x:AV):Option AV:=
 match P.underlying src,P.underlying dst,x with
 |some (.int _),some (.int k),.int _ n=>some (.int k (k.wrap n))
 |some .string,some .string,.str s=>some (.str s)
 |_,_,_=>none
def hY(H:ah)(n:Nat):AV->Option (List (List AV))
 |.nils=>some []
 |.emp=>some []
 | .lst rows=>match rows with
  |[]=>some []
  |r::l=>if r.length=n then some (r::l)else none
 | .sl b i k=>match H.get b with
  |some x=>if x.size=n/\i+k<=x.rows.length then some ((x.rows.drop i).take k)else none
  |none=>none
 |_=>none
def n0(H:ah):AV->Option Nat
 |.sl b _ _=>(H.get b).map (·.size)
 |_=>none
def fF(sz:Option Nat)(t:TypeId)(x ix:AV):Option AV:=
 match ix with
 |.int _ i=>
  if i<0 then none else
  match P.underlying t,x with
  |some (.slice e),.sl b j n=>if i.toNat<n/\sz.isSome/\bk P e=sz then some (.ptr b (j+i.toNat) 0)else none
  | some (.slice e),.lst rows=>match rows[i.toNat]? with
   |some r=>if bk P e=some r.length then some (.pptr rows i.toNat 0)else none
   |none=>none
  |some (.array len e),.ptr b j off=>if i.toNat<len then(bk P e).map λn=>.ptr b j (off+i.toNat*n)else none
  |some (.array len e),.pptr rows j off=>if i.toNat<len then(bk P e).map λn=>.pptr rows j (off+i.toNat*n)else none
  |_,_=>none
 |_=>none
def Bh(t:TypeId)(x ix:AV):Option AV:=
 match P.underlying t,x,ix with
 |some .string,.str s,.int _ i=>if i<0 then none else(s[i.toNat]?).map λb=>.int .u8 b.toNat
 |some (.array len e),.agg cs,.int _ i=>if 0<=i/\i.toNat<len then(bk P e).bind λn=>jg P e cs (i.toNat*n)else none
 |_,_,_=>none
def kB(s:TypeId)(x:AV)(f:Nat):Option AV:=
 match P.underlying s with
 | some (.struct fs)=>(fs[f]?).bind λf=>(bk P f.type).bind λn=>if n=0 then none else
   match x with
   |.ptr b i off=>some (.ptr b i (off+f.offset))
   |.pptr rows i off=>some (.pptr rows i (off+f.offset))
   |_=>none
 |_=>none
def GW(s:TypeId)(x:AV)(f:Nat):Option AV:=
 match P.underlying s,x with
 |some (.struct fs),.agg cs=>(fs[f]?).bind λf=>jg P f.type cs f.offset
 |_,_=>none
def gQ:AV->Option Nat
 |.int _ i=>if 0<=i then some i.toNat else none
 |_=>none
def cE(x:Option AV)(d:Nat):Option Nat:=
 match x with
 |none=>some d
 |some v=>gQ v
def md(sz:Option Nat)(t:TypeId)(x:AV)(lo hi mx:Option AV):Option AV:=
 match P.underlying t,LC x with
 |some (.slice e),some n=>
  match cE lo 0,cE hi n,cE mx n with
  | some l,some h,some m=>if(l<=h/\h<=m/\m<=n)/\(bk P e).isSome=true then
    (match x with
     |.nils=>some .nils
     |.sl b i _=>if sz.isSome/\bk P e=sz then some (.sl b (i+l) (h-l))else none
     | .lst rows=>if mx.isSome=true/\m=l then some .emp else match rows with
      |[]=>some (.lst [])
      |r::rs=>if bk P e=some r.length then some (.lst (((r::rs).drop l).take (h-l)))else none
     |_=>none)else none
  |_,_,_=>none
 |some .string,_=>
  match x,mx with
  | .str s,none=>match cE lo 0,cE hi s.length with
   |some l,some h=>if l<=h/\h<=s.length then some (.str ((s.drop l).take (h-l)))else none
   |_,_=>none
  |_,_=>none
 |_,_=>none
def eh(H:ah)(b:Nat)(t:TypeId)(s x:AV):Option (AV×ah):=
 match P.underlying t with
 |some (.slice e)=>
  match bk P e,iR P e,(fB P e).bind AV.cells? with
  | some n,some by_,some z=>match hY H n s,hY H n x with
   | some l,some m=>if 2*(l.length+m.length)*by_<=2^48/\2*(l.length+m.length)<=2^62/\0<n/\z.length=n/\(m.all λr=>r.all AV.one)=true then
    match s with
    |.nils=>if m.length=0 then some (.nils,H)else some (.sl b 0 m.length,H.new b ⟨n,m⟩)
    |.emp=>if m.length=0 then some (.emp,H)else some (.sl b 0 m.length,H.new b ⟨n,m⟩)
    |.sl b' _ _=>some (.sl b 0 (l.length+m.length),(H.put b' none).new b ⟨n,l++m⟩)
    |_=>none
    else none
   |_,_=>none
  |_,_,_=>none
 |_=>none
def gM(H:ah)(t:TypeId)(x:AV):Option ah:=
 match P.underlying t with
 |some (.slice e)=>
  match bk P e,(fB P e).bind AV.cells? with
  | some n,some z=>match x with
   |.nils=>some H
   | .sl c i k=>match H.get c with
    |some y=>if(y.size=n/\z.length=n)/\(0<n/\i+k<=y.rows.length)/\z.all AV.one=true then some (H.put c (some {y with rows:=y.rows.take i++List.replicate k z++y.rows.drop (i+k)}))else none
    |none=>none
   |_=>none
  |_,_=>none
 |_=>none
def bE(H:ah)(b:Nat)(op:Builtin)(types:Array TypeId)(args:List AV):Option (AV×ah):=
 match op,args with
 | .len,[.str s]=>match (types[0]?).bind P.underlying with
  |some .string=>some (.int .i64 s.length,H)
  |_=>none
 | .len,[x]=>match (types[0]?).bind P.underlying with
  |some (.slice _)=>(LC x).map λ(n:Nat)=>(.int .i64 (n:Int),H)
  |some (.array n _)=>some (.int .i64 n,H)
  |_=>none
 | .append,[s,x]=>match types.toList with
  | [t,tx]=>match P.underlying tx with
   |some (.slice _)=>eh P H b t s x
   |_=>none
  |_=>none
 |.min,[.int k a,.int k' c]=>if k=k' then some (.int k (if c<a then c else a),H)else none
 |.max,[.int k a,.int k' c]=>if k=k' then some (.int k (if c > a then c else a),H)else none
 | .clear,[x]=>match types.toList with
  |[t]=>(gM P H t x).map λH'=>(.tup [],H')
  |_=>none
 |_,_=>none
def FU:List AV->Bool
 |[.str _,_]=>true
 |_=>false
def pV(k:List UInt8):List (List AV)->Nat->Option (Nat×AV)
 |[],_=>none
 | r::l,i=>match r with
  |[.str k',v]=>if k==k' then some (i,v)else pV k l (i+1)
  |_=>pV k l (i+1)
def AV.konst:AV->Bool
 |.int ..|.bool _|.str _=>true
 |_=>false
def lB(H:ah)(t:TypeId)(m k:AV)(ok:Bool):Option AV:=
 match P.underlying t,m,k with
 | some (.map kt et),.mp b,.str s=>match P.underlying kt,fB P et,H.get b with
  | some .string,some z,some x=>if x.rows.all FU=true then some (match pV s x.rows 0 with
   |some (_,v)=>if ok then .tup [v,.bool true]else v
   |none=>if ok then .tup [z,.bool false]else z)else none
  |_,_,_=>none
 |_,_,_=>none
def gy(H:ah)(t:TypeId)(m k v:AV):Option ah:=
 match P.underlying t,m,k with
 | some (.map kt _),.mp b,.str s=>match P.underlying kt,H.get b with
  | some .string,some x=>if x.rows.all FU=true/\v.konst=true then some (H.put b (some {x with rows:=match pV s x.rows 0 with
   |some (i,_)=>x.rows.set i [.str s,v]
   |none=>x.rows++[[.str s,v]]}))else none
  |_,_=>none
 |_,_,_=>none
def jN(H:ah)(it:AV):Option (AV×ah):=
 match it with
 | .it b=>match H.get b with
  | some x=>match x.rows with
   | [[.str s,.int _ pos]]=>if pos<s.length then
     some (.tup [.bool true,.int .i64 pos,.int .i32 (Utf8.decode ⟨s.toArray⟩ pos.toNat).1],H.put b (some {x with rows:=[[.str s,.int .i64 ((pos.toNat+(Utf8.decode ⟨s.toArray⟩ pos.toNat).2:Nat):Int)]]}))
    else some (.tup [.bool false],H)
   |_=>none
  |none=>none
 |_=>none
def bu(F:TypeId->Option (List TypeId))(o:Op)(ρ:Operand->AV)(b:Nat)(H:ah):Option ik:=
 let v (r:Option AV):Option ik:=r.map λx=>.val x H
 match o with
 |.move x|.assign x=>some (.val (ρ x) H)
 | .pick c x y=>match ρ c with
  |.bool t=>some (.val (if t then ρ x else ρ y) H)
  |_=>none
 | .alloc t=>match (fB P t).bind AV.cells? with
  |some cs=>some (.val (.ptr b 0 0) (H.new b ⟨cs.length,[cs]⟩))
  |none=>none
 | .box _ x=>match (ρ x).cells? with
  |some cs=>if cs.all AV.one then some (.val (.ptr b 0 0) (H.new b ⟨cs.length,[cs]⟩))else none
  |none=>none
 |.build t parts=>v (Bg P t (parts.toList.map λp=>(p.1,ρ p.2)))
 | .buildSlice t len parts=>match P.underlying t with
  | some (.slice e)=>match bk P e,(fB P e).bind AV.cells? with
   | some n,some z=>if z.length=n/\0<n/\len*n<=2^24 then
     (fK n (List.replicate len z) (parts.toList.map λp=>(p.1,ρ p.2))).map λrows=>.val (.sl b 0 len) (H.new b ⟨n,rows⟩)
    else none
   |_,_=>none
  |_=>none
 |.load t a=>v (ph P H t (ρ a))
 |.store t a x=>(iy P H t (ρ a) (ρ x)).map λH=>.val (.tup []) H
 | .nilCheck x=>match ρ x with
  |.ptr b i off=>some (.val (.ptr b i off) H)
  |.pptr rows i off=>some (.val (.pptr rows i off) H)
  |.fn f cs=>some (.val (.fn f cs) H)
  |_=>none
 |.binOp op t x y _=>v (iS P F op t (ρ x) (ρ y))
 |.unOp op _ x=>v (unA op (ρ x))
 |.convert s d x=>v (IW P s d (ρ x))
 |.makeFunc (.func f) first cap=>if first.size=0 then some (.val (.fn f (cap.toList.map ρ)) H)else none
 | .makeSlice t l c=>match P.underlying t with
  | some (.slice e)=>match bk P e,iR P e,(fB P e).bind AV.cells?,gQ (ρ l),gQ (ρ c)with
   | some n,some by_,some z,some l,some c=>if z.length=n/\0<n/\l<=c/\c<=2^62/\c*by_<=2^48 then
     some (.val (.sl b 0 l) (H.new b ⟨n,List.replicate l z⟩))else none
   |_,_,_,_,_=>none
  |_=>none
 |.slice t x lo hi mx=>if hi.isNone&&mx.isSome then none else v (md P (n0 H (ρ x)) t (ρ x) (lo.map ρ) (hi.map ρ) (mx.map ρ))
 |.fieldAddr s x f=>v (kB P s (ρ x) f)
 |.field s x f=>v (GW P s (ρ x) f)
 |.indexAddr t x ix=>v (fF P (n0 H (ρ x)) t (ρ x) (ρ ix))
 |.index t x ix=>v (Bh P t (ρ x) (ρ ix))
 | .extract x i=>match ρ x with
  |.tup vs=>v (vs[i]?)
  |_=>none
 |.makeMap _ none=>some (.val (.mp b) (H.new b ⟨0,[]⟩))
 |.lookup t m k ok=>v (lB P H t (ρ m) (ρ k) ok)
 |.mapUpdate t m k x=>(gy P H t (ρ m) (ρ k) (ρ x)).map λH=>.val (.tup []) H
 | .range t x=>match P.underlying t,ρ x with
  |some .string,.str s=>some (.val (.it b) (H.new b ⟨0,[[.str s,.int .i64 0]]⟩))
  |_,_=>none
 |.next it true=>(jN H (ρ it)).map λr=>.val r.1 r.2
 | .call c=>match c.callee with
  |.builtin bi=>(bE P H b bi c.argTypes (c.args.toList.map ρ)).map λr=>.val r.1 r.2
  | .value f=>match ρ f with
   |.fn g cs=>some (.call g (c.args.toList.map ρ++cs))
   |_=>none
  |_=>none
 |_=>none
end
end
def Bi:List Int:=[0,0,0,0,0,0,3,3,4,4,5,6,7,8,9,10,11,12,13,14,15,16,18,19,20,21,22,23,2]
def glT(g:Nat):Option (List AV):=
 none
def glA(g:Nat):AV:=
 match glT g with
 |some r=>.pptr [r] 0 0
 |none=>.junk
section
inductive Ex where
 |normal
 |exit (id:Nat)
 |ret
def bY:AV:=.tup []
def lj(τ:List AV):Operand->AV
 |.tmp t=>τ.getD t bY
 |.const v=>(OF v).getD .junk
 |.global g=>glA g
 |.func f=>.fn f []
def iw(τ:List AV)(dst:Option Tmp)(v:AV):List AV:=
 match dst with
 |some d=>τ.set d v
 |none=>τ
def ff(ops:Array Oper)(o:Oper)(τ:List AV):Option Bool:=
 match o.guard with
 |none=>some true
 | some (j,want)=>match (ops[j]?).bind (·.dst)with
  | some d=>match τ[d]? with
   |some (.bool b)=>some (b==want)
   |some (.tup [])=>some false
   |_=>none
  |none=>none
section
variable (P:Program) (F:TypeId->Option (List TypeId)) (call:FuncId->List AV->ah->Option (AV×ah))
def lC(ops:Array Oper)(base i:Nat)(τ:List AV)(H:ah):Option (List AV×ah):=
 match ops[i]? with
 |none=>none
 | some o=>match ff ops o τ with
  | some true=>match bu P F o.op (lj τ) (base+i) H with
   |some (.val v H')=>some (iw τ o.dst v,H')
   | some (.call f args)=>match call f args H with
    |some (v,H')=>some (iw τ o.dst v,H')
    |none=>none
   |none=>none
  |some false=>some (iw τ o.dst bY,H)
  |none=>none
def oa(ops:Array Oper)(base:Nat):List Nat->List AV->ah->Option (List AV×ah)
 |[],τ,H=>some (τ,H)
 | i::l,τ,H=>match lC P F call ops base i τ H with
  |some (τ,H)=>oa ops base l τ H
  |none=>none
def ai:AV->List Nat
 |.ptr b _ _|.sl b _ _|.mp b|.it b=>[b]
 |_=>[]
def dV:AV->List Nat
 |.sl b _ _=>[b]
 |_=>[]
def aV(o:Op)(ρ:Operand->AV):List Nat:=
 match o with
 |.load _ a=>ai (ρ a)
 |.store _ a _=>ai (ρ a)
 |.indexAddr _ x _=>dV (ρ x)
 |.slice _ x _ _ _=>dV (ρ x)
 |.lookup _ m _ _=>ai (ρ m)
 |.mapUpdate _ m _ _=>ai (ρ m)
 |.next it _=>ai (ρ it)
 | .call c=>match c.callee with
  |.builtin .append=>c.args.toList.flatMap λx=>ai (ρ x)
  |.builtin .clear=>c.args.toList.flatMap λx=>ai (ρ x)
  |_=>[]
 |_=>[]
def aK(o:Op)(ρ:Operand->AV):List Nat:=
 match o with
 |.store _ a _=>ai (ρ a)
 |.mapUpdate _ m _ _=>ai (ρ m)
 |.next it _=>ai (ρ it)
 | .call c=>match c.callee with
  |.builtin .append=>(c.args.toList.take 1).flatMap λx=>ai (ρ x)
  |.builtin .clear=>c.args.toList.flatMap λx=>ai (ρ x)
  |_=>[]
 |_=>[]
structure sZ where
 op:Nat
 reads:List Nat
 writes:List Nat
 made:List Nat
 isCall:Bool
 lo:Nat
 hi:Nat
def apart(l m:List Nat):Bool:=l.all λx=>!m.contains x
def mH(x y:sZ):Bool:=
 !(apart x.writes y.reads&&apart x.writes y.writes&&apart x.reads y.writes&&apart x.made y.reads&&apart x.made y.writes) ||
 (x.isCall&&(y.isCall||!y.writes.isEmpty||y.reads.any λb=>decide (x.lo<=b)&&decide (b<x.hi)))||(y.isCall&&!x.writes.isEmpty)
def cI:List Oper->List Nat->List Nat
 |[],acc=>acc
 |o::l,acc=>cI l (acc++[o.after.toList.foldl (λs e=>if Region.binds .any e then s ||| 2^e.on ||| acc.getD e.on 0 else s) 0])
def eZ(base mask:Nat):Nat->ah->ah
 |0,H=>H
 |j+1,H=>eZ base mask j (if mask.testBit j then H else {H with tr:=H.tr.set (base+j) none})
def jO(base mask:Nat)(H:ah):Nat->ah->ah
 |0,K=>K
 |j+1,K=>jO base mask H j (if mask.testBit j then K else {K with tr:=K.tr.set (base+j) (H.tr.get (base+j))})
def bW(ops:Array Oper)(base i mask:Nat)(τ:List AV)(H:ah):Option (List AV×ah×Option sZ):=
 match ops[i]? with
 |none=>none
 | some o=>match ff ops o τ with
  | some true=>match bu P F o.op (lj τ) (base+i) H with
   |some (.val v H')=>some (iw τ o.dst v,{H' with log:=H.log},some ⟨i,aV o.op (lj τ),aK o.op (lj τ),[base+i],false,0,0⟩)
   | some (.call f args)=>match call f args {eZ base mask i H with log:=[]} with
    |some (v,H')=>some (iw τ o.dst v,{jO base mask H i H' with log:=H.log},some ⟨i,[],H'.log.filter (λc=>((eZ base mask i H).get c).isSome),[],true,H.next,H'.next⟩)
    |none=>none
   |none=>none
  |some false=>some (iw τ o.dst bY,H,none)
  |none=>none
def fS(ops:Array Oper)(base:Nat)(before:List Nat):List Nat->List AV->ah->List sZ->Option (List AV×ah×List sZ)
 |[],τ,H,rs=>some (τ,H,rs)
 | i::l,τ,H,rs=>match bW P F call ops base i (before.getD i 0) τ H with
  |some (τ,H,none)=>fS ops base before l τ H rs
  |some (τ,H,some r)=>if rs.all λx=>(before.getD i 0).testBit x.op||!mH x r then fS ops base before l τ H (r::rs)else none
  |none=>none
def fg(ops:Array Oper)(draw:Bool)(τ:List AV)(H:ah):Option (List AV×ah):=
 let H':={H with next:=H.next+ops.size}
 if draw then match fS P F call ops H.next (cI ops.toList []) (List.range ops.size) τ H' []with
  |some (τ,K,rs)=>some (τ,{K with log:=rs.flatMap (·.writes)++K.log})
  |none=>none
 else oa P F call ops H.next (List.range ops.size) τ H'
def lD(τ:List AV)(H:ah):ResultVar->Option AV
 |.tmp t=>some (τ.getD t bY)
 |.cell a t=>ph P H t (τ.getD a bY)
def mI(τ:List AV)(H:ah)(rs:List ResultVar):Option AV:=
 match cX (rs.map (lD P τ H))with
 |some [v]=>some v
 |some vs=>some (.tup vs)
 |none=>none
def pW(ex:Code->List AV->ah->Option (Ex×List AV×ah))(g:FuncId)(args:List AV)(H:ah):Option (AV×ah):=
 match P.funcs[g]? with
 | some fn=>match fn.body with
  | some c=>match ex c (args++List.replicate (fn.ntmps-args.length) bY) {H with log:=[]} with
   |some (.exit _,_,_)=>none
   | some (_,τ,H')=>match mI P τ H' fn.results.toList with
    |some v=>some (v,{H' with log:=H'.log.filter (·<H.next)++H.log})
    |none=>none
   |none=>none
  |none=>none
 |none=>none
end
def ah.empty:ah:=⟨0,.leaf,[]⟩
end
structure de where
 block:Nat
 base:Nat
 size:Nat
def de.ok(pl:de):Prop:=pl.base=0\/0<pl.size
structure bO where
 map:Nat->Option de
 fr:Nat->Prop
instance:CoeFun bO (λ_=>Nat->Option de):=⟨bO.map⟩
structure ug(w:World)(T:Nat->Prop)(rows:List (List AV))(b o sz:Nat):Prop where
 out:¬T b
 even:∀(i:Nat) (r:List AV),rows[i]? =some r->r.length=sz
 cell:∀i j,i<rows.length->j<sz->∃u,w.cell? ⟨b,o+i*sz+j,none⟩=some u
 pos:0<sz
 ne:0<rows.length
inductive bC (w:World) (σ:bO) (T:Nat->Prop):AV->Value->Prop where
 |int (k:IntKind) (n:Int):bC w σ T (.int k n) (.int k n)
 |bool (b:Bool):bC w σ T (.bool b) (.bool b)
 |str (s:ByteArray):bC w σ T (.str s.data.toList) (.string s)
 |nilp:bC w σ T .nilp (.pointer none)
 |ptr (b i off:Nat) (pl:de) (h:σ b=some pl) (hp:pl.ok):bC w σ T (.ptr b i off) (.pointer (some ⟨pl.block,pl.base+i*pl.size+off,none⟩))
 | pptr (rows:List (List AV)) (i off b o sz:Nat) (hl:ug w T rows b o sz)
   (h:∀(i:Nat) (r:List AV) (j:Nat) (a:AV) (u:Value),rows[i]? =some r->r[j]? =some a->w.cell? ⟨b,o+i*sz+j,none⟩=some u->bC w σ T a u) :
   bC w σ T (.pptr rows i off) (.pointer (some ⟨b,o+i*sz+off,none⟩))
 |nils:bC w σ T .nils (.slice none 0 0)
 |emp (a:Option Addr):bC w σ T .emp (.slice a 0 0)
 | sl (b i n:Nat) (pl:de) (a:Addr) (cap:Nat) (h:σ b=some pl) (hp:pl.ok) (hn:n<=cap) (hm:cap<=maxLen)
   (ha:0<cap->a=⟨pl.block,pl.base+i*pl.size,none⟩/\∃cs e,w.heap[pl.block]? =some (.cells cs e (0,0))/\pl.base+(i+cap)*pl.size<=cs.size) :
   bC w σ T (.sl b i n) (.slice (some a) n cap)
 |lst0 (a:Option Addr) (cap:Nat) (hm:cap<=maxLen):bC w σ T (.lst []) (.slice a 0 cap)
 | lst (rows:List (List AV)) (b o sz cap:Nat) (hl:ug w T rows b o sz) (hn:rows.length<=cap) (hm:cap<=maxLen)
   (h:∀(i:Nat) (r:List AV) (j:Nat) (a:AV) (u:Value),rows[i]? =some r->r[j]? =some a->w.cell? ⟨b,o+i*sz+j,none⟩=some u->bC w σ T a u) :
   bC w σ T (.lst rows) (.slice (some ⟨b,o,none⟩) rows.length cap)
 |mp (b:Nat) (pl:de) (h:σ b=some pl) (hs:pl.size=0) (hb:pl.base=1):bC w σ T (.mp b) (.map (some pl.block))
 |it (b:Nat) (pl:de) (h:σ b=some pl) (hs:pl.size=0) (hb:pl.base=2):bC w σ T (.it b) (.pointer (some ⟨pl.block,0,none⟩))
 |agg (cs:List AV) (vs:List Value) (hl:cs.length=vs.length) (h:∀(i:Nat) (a:AV) (v:Value),cs[i]? =some a->vs[i]? =some v->bC w σ T a v):bC w σ T (.agg cs) (.agg vs.toArray)
 |tup (cs:List AV) (vs:List Value) (hl:cs.length=vs.length) (h:∀(i:Nat) (a:AV) (v:Value),cs[i]? =some a->vs[i]? =some v->bC w σ T a v):bC w σ T (.tup cs) (.tuple vs.toArray)
 |fn (f:FuncId) (cs:List AV) (vs:List Value) (hl:cs.length=vs.length) (h:∀(i:Nat) (a:AV) (v:Value),cs[i]? =some a->vs[i]? =some v->bC w σ T a v):bC w σ T (.fn f cs) (.func (.func f) #[] vs.toArray)
 |nilf:bC w σ T .nilf .nilFunc
 |junk (v:Value):bC w σ T .junk v
def fX(w:World)(σ:bO)(T:Nat->Prop)(cs:List AV)(vs:List Value):Prop:=
 cs.length=vs.length/\∀(i:Nat) (a:AV) (v:Value),cs[i]? =some a->vs[i]? =some v->bC w σ T a v
def Ef(σ:bO)(H:ah)(c:Nat):Prop:=∃b x pl,H.get b=some x/\σ b=some pl/\pl.block=c
def aX(σ:bO)(H:ah)(c:Nat):Prop:=σ.fr c\/Ef σ H c
structure xC(w:World)(σ:bO)(T:Nat->Prop)(x:Blk)(pl:de)(cs:Array Value)(e:TypeId):Prop where
 size:pl.size=x.size
 block:w.heap[pl.block]? =some (.cells cs e (0,0))
 even:∀(i:Nat) (r:List AV),x.rows[i]? =some r->r.length=x.size
 room:pl.base+x.rows.length*x.size<=cs.size
 rep:∀(i:Nat) (r:List AV) (j:Nat) (a:AV) (u:Value),x.rows[i]? =some r->r[j]? =some a->cs[pl.base+i*x.size+j]? =some u->bC w σ T a u
def LD:Value->Option AV
 |.int k n=>some (.int k n)
 |.bool b=>some (.bool b)
 |.string s=>some (.str s.data.toList)
 |_=>none
def IX(e:MapEntry):Option (List AV):=
 match LD e.key,LD e.val with
 |some k,some v=>some [k,v]
 |_,_=>none
structure vh(w:World)(x:Blk)(pl:de):Prop where
 size:x.size=0
 psize:pl.size=0
 obj:(pl.base=1/\∃es clk,w.heap[pl.block]? =some (.map es clk)/\es.toList.map IX=x.rows.map some) \/
  (pl.base=2/\∃(s:ByteArray) (pos:Nat),w.heap[pl.block]? =some (.stringIter s pos)/\x.rows=[[.str s.data.toList,.int .i64 pos]])
def lE(w:World)(σ:bO)(T:Nat->Prop)(x:Blk)(pl:de)(cs:Array Value)(e:TypeId):Prop:=
 (pl.ok->xC w σ T x pl cs e)/\(¬pl.ok->vh w x pl)
def lE.of{w:World}{σ:bO}{T:Nat->Prop}{x:Blk}{j:de}{cs:Array Value}{e:TypeId}(hp:j.ok)(h:xC w σ T x j cs e):lE w σ T x j cs e:=⟨λ_=>h,λu=>absurd hp u⟩
def kC(w:World)(T:Nat->Prop):Prop:=∀g r,glT g=some r->¬T g/\0<r.length/\∀(j:Nat) (a:AV),r[j]? =some a->∃u,w.cell? ⟨g,j,none⟩=some u/\LD u=some a
structure bJ(w:World)(σ:bO)(H:ah):Prop where
 named:∀b pl,σ b=some pl->b<H.next
 lt:∀b pl,σ b=some pl->pl.block<w.heap.size
 live:∀b x,H.get b=some x->∃pl cs e,σ b=some pl/\lE w σ (aX σ H) x pl cs e
 apart:∀c,σ.fr c->c<w.heap.size/\¬Ef σ H c
 inj:∀b b' x x' pl pl',H.get b=some x->H.get b'=some x'->σ b=some pl->σ b'=some pl'->pl.block=pl'.block->b=b'
 glob:kC w (aX σ H)
structure fT(w:World)(σ:bO)(T:Nat->Prop)(w':World)(σ':bO)(T':Nat->Prop):Prop where
 os:w'.os=w.os
 tape:w'.tape=w.tape
 output:w'.output=w.output
 size:w.heap.size<=w'.heap.size
 keep:∀c,c<w.heap.size->¬T c->w'.heap[c]? =w.heap[c]?
 shape:∀(c:Nat) (cs:Array Value) (e:TypeId),w.heap[c]? =some (.cells cs e (0,0))->∃cs':Array Value,w'.heap[c]? =some (.cells cs' e (0,0))/\cs'.size=cs.size
 sig:∀b pl,σ b=some pl->σ' b=some pl
 eqfr:σ'.fr=σ.fr
 frame:∀c,σ.fr c->w'.heap[c]? =w.heap[c]?
 own:∀c,T' c->T c\/w.heap.size<=c
def fT.refl(w:World)(σ:bO)(T:Nat->Prop):fT w σ T w σ T:=
 ⟨rfl,rfl,rfl,Fd _,λ_ _ _=>rfl,λ_ j _ h=>⟨j,h,rfl⟩,λ_ _ h=>h,rfl,λ_ _=>rfl,λ_ h=>.inl h⟩
def fT.trans{w w' D:World}{σ σ' j:bO}{T T' T'':Nat->Prop}(h:fT w σ T w' σ' T')(k:fT w' σ' T' D j T''):fT w σ T D j T'' where
 os:=k.os.trans h.os
 tape:=k.tape.trans h.tape
 output:=k.output.trans h.output
 size:=abe h.size k.size
 keep:=λc B S=>by
  have M:c<w'.heap.size:=abk B h.size;have:¬T' c:=λY=>by
   rcases h.own c Y with u|u
   .exact S u
   .omega
  exact(k.keep c M this).trans (h.keep c B S)
 shape:=λc cs e G=>by obtain⟨N,u,h2⟩:=h.shape c cs e G;obtain⟨E,h3,h4⟩:=k.shape c N e u;exact⟨E,h3,h4.trans h2⟩
 sig:=λb O Z=>k.sig b O (h.sig b O Z)
 eqfr:=k.eqfr.trans h.eqfr
 frame:=λc B=>(k.frame c (by rw[h.eqfr];exact B)).trans (h.frame c B)
 own:=λc B=>by
  rcases k.own c B with u|u
  .exact h.own c u
  .exact .inr (abe h.size u)
def zl{w:World}{b o:Nat}{u:Value}(h:w.cell? ⟨b,o,none⟩=some u):b<w.heap.size:=by
 rcases LE b w.heap.size with j|B
 .exact j
 .simp[World.cell?,Array.getElem?_eq_none B]at h
def ug.lt{w:World}{T:Nat->Prop}{rows:List (List AV)}{b o sz:Nat}(h:ug w T rows b o sz):b<w.heap.size:=by obtain⟨u,j⟩:=h.cell 0 0 h.ne h.pos;exact zl j
def ug.cell_eq{w w':World}{σ σ':bO}{T T':Nat->Prop}{rows:List (List AV)}{b o sz:Nat}(h:ug w T rows b o sz)(e:fT w σ T w' σ' T')(k:Nat):
  w'.cell? ⟨b,k,none⟩=w.cell? ⟨b,k,none⟩:=
 World.cell?_of_block (w:=w) (w':=w') (a:=⟨b,k,none⟩) (e.keep b h.lt h.out)
def ug.mono{w w':World}{σ σ':bO}{T T':Nat->Prop}{rows:List (List AV)}{b o sz:Nat}(h:ug w T rows b o sz)(e:fT w σ T w' σ' T'):ug w' T' rows b o sz where
 out:=λB=>by
  rcases e.own b B with u|u
  .exact h.out u
  .have:=h.lt;omega
 even:=h.even
 cell:=λi j E D=>by rw[h.cell_eq e];exact h.cell i j E D
 pos:=h.pos
 ne:=h.ne
def kC.mono{w w':World}{σ σ':bO}{T T':Nat->Prop}(e:fT w σ T w' σ' T')(h:kC w T):kC w' T':=λg r Y=>by
 obtain⟨N,M,G⟩:=h g r Y;obtain⟨u,B,_⟩:=G 0 r[0] (mt M);have D:=zl B;refine⟨λO=>?_,M,λj a S=>?_⟩
 .rcases e.own g O with E|E
  .exact N E
  .omega
 .obtain⟨u,B,Z⟩:=G j a S;exact⟨u,by rw[World.cell?_of_block (w:=w) (w':=w') (a:=⟨g,j,none⟩) (e.keep g D N)];exact B,Z⟩
def kC.less{w:World}{T T':Nat->Prop}(h:kC w T)(B:∀c,T' c->T c):kC w T':=λg r j=>⟨λu=>(h g r j).1 (B g u),(h g r j).2⟩
def kC.rep{w:World}{σ:bO}{T:Nat->Prop}(h:kC w T)(g:Nat):bC w σ T (glA g) (.pointer (some ⟨g,0,none⟩)):=by
 unfold glA;cases S:glT g with
 |none=>exact .junk _
 |some r=>
  obtain⟨h1,Z,M⟩:=h g r S;have:=bC.pptr (w:=w) (σ:=σ) (T:=T) [r] 0 0 g 0 r.length ⟨h1,λi q D=>?_,λi j O N=>?_,Z,acQ⟩ λi q j a u D Y G=>?_
  .simpa using this
  .match i with
   |0=>cases D;rfl
   |i+1=>simp at D
  .have h0:i=0:=by simpa using O
   subst h0;obtain⟨u,G,_⟩:=M j _ (mt N);exact⟨u,by simpa using G⟩
  .match i with
   |0=>
    cases D;obtain⟨u',B,E⟩:=M j a Y;simp only[Nat.zero_mul,acz,abI]at G;rw[G]at B;cases B;cases u<;>simp only[LD,aaS,reduceCtorEq]at E<;>subst E
    .exact .bool _
    .exact .int _ _
    .exact .str _
   |i+1=>simp at D
def bC.mono{w w':World}{σ σ':bO}{T T':Nat->Prop}(e:fT w σ T w' σ' T'){a:AV}{v:Value}(h:bC w σ T a v):bC w' σ' T' a v:=by
 induction h with
 |int k n=>exact .int k n
 |bool b=>exact .bool b
 |str s=>exact .str s
 |nilp=>exact .nilp
 |ptr b i S D h hp=>exact .ptr b i S D (e.sig b D h) hp
 |mp b D h O N=>exact .mp b D (e.sig b D h) O N
 |it b D h O N=>exact .it b D (e.sig b D h) O N
 |pptr B i S b o sz E h M=>exact .pptr B i S b o sz (E.mono e) λi r j a u O N h3=>M i r j a u O N (by rwa [E.cell_eq e]at h3)
 |nils=>exact .nils
 |emp a=>exact .emp a
 |sl b i n D a G h hp hn hm ha=>
  refine .sl b i n D a G (e.sig b D h) hp hn hm λhc=>?_
  obtain⟨O,Y,ty,N,h3⟩:=ha hc;obtain⟨cs',h4,h5⟩:=e.shape _ _ _ N;exact⟨O,cs',ty,h4,acN⟩
 |lst0 a G hm=>exact .lst0 a G hm
 |lst B b o sz G E hn hm h M=>exact .lst B b o sz G (E.mono e) hn hm λi r j a u O N h3=>M i r j a u O N (by rwa [E.cell_eq e]at h3)
 |agg Y Z E h M=>exact .agg Y Z E M
 |tup Y Z E h M=>exact .tup Y Z E M
 |fn f Y Z E h M=>exact .fn f Y Z E M
 |nilf=>exact .nilf
 |junk v=>exact .junk v
def fX.mono{w w':World}{σ σ':bO}{T T':Nat->Prop}(e:fT w σ T w' σ' T'){cs:List AV}{vs:List Value}(h:fX w σ T cs vs):fX w' σ' T' cs vs:=
 ⟨h.1,λi a v u j=>(h.2 i a v u j).mono e⟩
def ah.get_new(H:ah)(b c:Nat)(x:Blk):(H.new b x).get c=if b=c then some x else H.get c:=Tr.get_set _ _ _ _
def ah.get_put(H:ah)(b c:Nat)(x:Option Blk):(H.put b x).get c=if b=c then x else H.get c:=Tr.get_set _ _ _ _
def xC.mono{w w':World}{σ σ':bO}{T T':Nat->Prop}{x:Blk}{B:de}{cs:Array Value}{e:TypeId}(h:xC w σ T x B cs e)(N:fT w σ T w' σ' T')
  (D:w'.heap[B.block]? =w.heap[B.block]?):xC w' σ' T' x B cs e:=
 ⟨h.size,D.trans h.block,h.even,h.room,λi r j a u M G E=>(h.rep i r j a u M G E).mono N⟩
def vh.mono{w w':World}{x:Blk}{j:de}(h:vh w x j)(u:w'.heap[j.block]? =w.heap[j.block]?):vh w' x j:=⟨h.size,h.psize,by rw[u];exact h.obj⟩
def lE.mono{w w':World}{σ σ':bO}{T T':Nat->Prop}{x:Blk}{j:de}{cs:Array Value}{e:TypeId}(h:lE w σ T x j cs e)(D:fT w σ T w' σ' T')
  (u:w'.heap[j.block]? =w.heap[j.block]?):lE w' σ' T' x j cs e:=⟨λhp=>(h.1 hp).mono D u,λB=>(h.2 B).mono u⟩
def bJ.ok_of{w:World}{σ:bO}{H:ah}(O:bJ w σ H){b:Nat}{x:Blk}{u:de}(N:H.get b=some x)(M:σ b=some u){cs:Array Value}{e:TypeId}(B:w.heap[u.block]? =some (.cells cs e (0,0))):u.ok:=by
 obtain⟨G,Y,e',D,S⟩:=O.live b x N;rw[M]at D;cases D;by_cases hp:u.ok
 .exact hp
 .rcases(S.2 hp).obj with⟨_,es,Z,j,_⟩|⟨_,s,E,j,_⟩
  .rw[B]at j;cases j
  .rw[B]at j;cases j
def de.ok_over{j:de}(h:j.ok)(c k:Nat):de.ok ⟨c,j.base+k*j.size,j.size⟩:=by
 rcases h with h|h
 .rcases abZ j.size with u|u
  .left;show j.base+k*j.size=0;rw[h,u];simp
  .exact .inr u
 .exact .inr h
def fT.same{w w':World}(σ:bO)(T:Nat->Prop)(j:w'.heap=w.heap)(u:w'.os=w.os)(ht:w'.tape=w.tape)(hp:w'.output=w.output):fT w σ T w' σ T:=
 ⟨u,ht,hp,by rw[j];exact Fd _,λ_ _ _=>by rw[j],λ_ B _ h=>⟨B,by rw[j];exact h,rfl⟩,λ_ _ h=>h,rfl,λ_ _=>by rw[j],λ_ h=>.inl h⟩
def bJ.same{w w':World}{σ:bO}{H:ah}(h:bJ w σ H)(j:w'.heap=w.heap)(D:w'.os=w.os)(ht:w'.tape=w.tape)(hp:w'.output=w.output):bJ w' σ H:=
 ⟨h.named,λb u B=>by rw[j];exact h.lt b u B,λb x B=>by
  obtain⟨u,N,e,M,G⟩:=h.live b x B;exact⟨u,N,e,M,G.mono (fT.same σ _ j D ht hp) (by rw[j])⟩,λc E=>by rw[j];exact h.apart c E,h.inj,h.glob.mono (fT.same σ _ j D ht hp)⟩
def bJ.congr{w:World}{σ:bO}{H K:ah}(h:bJ w σ H)(j:∀b,K.get b=H.get b)(N:H.next<=K.next):bJ w σ K:=by
 have E:Ef σ K=Ef σ H:=by funext c;simp[Ef,j]
 have G:aX σ K=aX σ H:=by funext c;simp[aX,E]
 refine⟨λb B D=>abk (h.named b B D) N,h.lt,λb x D=>?_,by rw[E];exact h.apart,λb Y x M B u S O=>h.inj b Y x M B u (by rwa [j]at S) (by rwa [j]at O),by rw[G];exact h.glob⟩;rw[G];exact h.live b x (by rwa [j]at D)
def aX.congr{σ:bO}{H K:ah}(j:∀b,K.get b=H.get b):aX σ K=aX σ H:=by funext c;simp[aX,Ef,j]
def aX.sub{σ:bO}{H K:ah}(u:∀b x,K.get b=some x->H.get b=some x){c:Nat}(h:aX σ K c):aX σ H c:=by
 rcases h with h|⟨b,x,j,E,D,B⟩
 .exact .inl h
 .exact .inr ⟨b,x,j,u b x E,D,B⟩
def fT.sub{w:World}{σ:bO}{H K:ah}(j:∀b x,K.get b=some x->H.get b=some x):fT w σ (aX σ H) w σ (aX σ K):=
 ⟨rfl,rfl,rfl,Fd _,λ_ _ _=>rfl,λ_ u _ h=>⟨u,h,rfl⟩,λ_ _ h=>h,rfl,λ_ _=>rfl,λ_ h=>.inl (aX.sub j h)⟩
def bJ.sub{w:World}{σ:bO}{H K:ah}(h:bJ w σ H)(u:∀b x,K.get b=some x->H.get b=some x)(O:H.next<=K.next):bJ w σ K:=
 ⟨λb j G=>abk (h.named b j G) O,h.lt,λb x G=>by
  obtain⟨j,Y,e,D,B⟩:=h.live b x (u b x G);exact⟨j,Y,e,D,B.mono (fT.sub u) rfl⟩,λc M=>⟨(h.apart c M).1,λ⟨b,x,j,D,B,S⟩=>(h.apart c M).2 ⟨b,x,j,u b x D,B,S⟩⟩,λb Z x N j E D B=>h.inj b Z x N j E (u _ _ D) (u _ _ B),h.glob.mono (fT.sub u)⟩
def bO.set(σ:bO)(b:Nat)(pl:de):bO:={σ with map:=λc=>if b=c then some pl else σ c}
def bO.set_eq(σ:bO)(b:Nat)(j:de):σ.set b j b=some j:=by simp[bO.set]
def bO.set_ne(σ:bO){b c:Nat}(j:de)(h:b≠c):σ.set b j c=σ c:=by simp[bO.set,h]
def bO.set_old{σ:bO}{b c:Nat}{j q:de}(u:σ b=none)(h:σ c=some q):σ.set b j c=some q:=by rw[bO.set_ne _ _ (by rintro rfl;rw[u]at h;cases h)];exact h
def World.push(w:World)(o:Obj):World:={w with heap:=w.heap.push o}
def bJ.new{w:World}{σ:bO}{H:ah}(h:bJ w σ H){b:Nat}(hb:σ b=none)(Z:b<H.next){x:Blk}{cs:Array Value}{e:TypeId}
  (even:∀(i:Nat) (r:List AV),x.rows[i]? =some r->r.length=x.size) (room:x.rows.length*x.size<=cs.size)
  (rep:∀(i:Nat) (r:List AV) (j:Nat) (a:AV) (u:Value),x.rows[i]? =some r->r[j]? =some a->cs[i*x.size+j]? =some u->bC w σ (aX σ H) a u) :
  bJ (World.push w (.cells cs e (0,0))) (σ.set b ⟨w.heap.size,0,x.size⟩) (H.new b x)/\
  fT w σ (aX σ H) (World.push w (.cells cs e (0,0))) (σ.set b ⟨w.heap.size,0,x.size⟩) (aX (σ.set b ⟨w.heap.size,0,x.size⟩) (H.new b x)):=by
 have hnone:H.get b=none:=by
  cases hg:H.get b with
  |none=>rfl
  |some y=>obtain⟨O,_,_,G,_⟩:=h.live b y hg;rw[hb]at G;cases G
 have S:∀c,c<w.heap.size->(World.push w (.cells cs e (0,0))).heap[c]? =w.heap[c]? :=λc D=>by show(w.heap.push _)[c]? =_;rw[Array.getElem?_push,if_neg (Nat.ne_of_lt D)]
 have ext:fT w σ (aX σ H) (World.push w (.cells cs e (0,0))) (σ.set b ⟨w.heap.size,0,x.size⟩) (aX (σ.set b ⟨w.heap.size,0,x.size⟩) (H.new b x)):=by
  refine⟨rfl,rfl,rfl,by simp[World.push],λc D _=>S c D,λc cs' e' D=>⟨cs',?_,rfl⟩,λc q hq=>bO.set_old hb hq,rfl,λc D=>S c (h.apart c D).1,?_⟩
  .rcases LE c w.heap.size with Z|hge
   .rw[S c Z];exact D
   .rw[Array.getElem?_eq_none hge]at D;cases D
  .rintro c (hfr|⟨b',y,O,G,M,Y⟩)
   .exact .inl (.inl hfr)
   rw[ah.get_new]at G;by_cases N:b=b'
   .subst N;rw[bO.set_eq]at M;cases M;exact .inr (by simp only[]at Y;omega)
   .rw[if_neg N]at G;rw[bO.set_ne _ _ N]at M;exact .inl (.inr ⟨b',y,O,G,M,Y⟩)
 have hap:∀c,(σ.set b ⟨w.heap.size,0,x.size⟩).fr c->c<(World.push w (.cells cs e (0,0))).heap.size/\¬Ef (σ.set b ⟨w.heap.size,0,x.size⟩) (H.new b x) c:=λc D=>by
  have hlt':=(h.apart c D).1;refine⟨by simp[World.push];omega,?_⟩;rintro⟨b',y,O,G,M,Y⟩;rw[ah.get_new]at G;by_cases N:b=b'
  .subst N;rw[bO.set_eq]at M;cases M;simp only[]at Y;omega
  .rw[if_neg N]at G;rw[bO.set_ne _ _ N]at M;exact(h.apart c D).2 ⟨b',y,O,G,M,Y⟩
 refine⟨⟨?_,?_,?_,hap,?_,h.glob.mono ext⟩,ext⟩
 .intro c O D;by_cases B:b=c
  .subst B;exact Z
  .rw[bO.set_ne _ _ B]at D;exact h.named c O D
 .intro c O D;by_cases B:b=c
  .subst B;rw[bO.set_eq]at D;cases D;simp[World.push]
  .rw[bO.set_ne _ _ B]at D;have:=h.lt c O D;simp[World.push];omega
 .intro c y hy;rw[ah.get_new]at hy;by_cases B:b=c
  .subst B;rw[if_pos rfl]at hy;cases hy;refine⟨_,cs,e,bO.set_eq _ _ _,.of (.inl rfl) ⟨rfl,by show(w.heap.push _)[w.heap.size]? =_;simp,even,by simpa using room,λi r j a u G M Y=>(rep i r j a u G M (by simpa using Y)).mono ext⟩⟩
  .rw[if_neg B]at hy;obtain⟨O,cs',e',G,M⟩:=h.live c y hy;exact⟨O,cs',e',by rw[bO.set_ne _ _ B];exact G,M.mono ext (S _ (h.lt c O G))⟩
 .intro c c' y y' O pl' G M Y h4 h5;rw[ah.get_new]at G M;by_cases B:b=c
  .by_cases E:b=c'
   .exact B.symm.trans E
   .subst B;rw[bO.set_eq]at Y;cases Y;rw[bO.set_ne _ _ E]at h4;have:=h.lt c' pl' h4;simp only[]at h5;omega
  .by_cases E:b=c'
   .subst E;rw[bO.set_eq]at h4;cases h4;rw[bO.set_ne _ _ B]at Y;have:=h.lt c O Y;simp only[]at h5;omega
   .rw[if_neg B]at G;rw[if_neg E]at M;rw[bO.set_ne _ _ B]at Y;rw[bO.set_ne _ _ E]at h4;exact h.inj c c' y y' O pl' G M Y h4 h5
structure mJ(w w':World)(c:Nat)(cs cs':Array Value)(e:TypeId):Prop where
 os:w'.os=w.os
 tape:w'.tape=w.tape
 output:w'.output=w.output
 size:w'.heap.size=w.heap.size
 old:w.heap[c]? =some (.cells cs e (0,0))
 new:w'.heap[c]? =some (.cells cs' e (0,0))
 len:cs'.size=cs.size
 rest:∀d,d≠c->w'.heap[d]? =w.heap[d]?
def mJ.refl{w:World}{c:Nat}{cs:Array Value}{e:TypeId}(h:w.heap[c]? =some (.cells cs e (0,0))):mJ w w c cs cs e:=
 ⟨rfl,rfl,rfl,rfl,h,h,rfl,λ_ _=>rfl⟩
def mJ.ext{w w':World}{c:Nat}{cs B:Array Value}{e:TypeId}(h:mJ w w' c cs B e){σ σ':bO}{T T':Nat->Prop}(N:T c)(D:∀b G,σ b=some G->σ' b=some G)
  (E:σ'.fr=σ.fr) (M:¬σ.fr c) (O:∀d,T' d->T d):fT w σ T w' σ' T':=by
 refine⟨h.os,h.tape,h.output,by rw[h.size];exact Fd _,λd _ j=>h.rest d (by rintro rfl;exact j N),λd ds S j=>?_,D,E,λd j=>h.rest d (by rintro rfl;exact M j),λd j=>.inl (O d j)⟩;by_cases u:d=c
 .subst u;rw[h.old]at j;cases j;exact⟨B,h.new,h.len⟩
 .exact⟨ds,by rw[h.rest d u];exact j,rfl⟩
def bJ.put{w w':World}{σ:bO}{H:ah}(h:bJ w σ H){b:Nat}{x x':Blk}{N:de}{cs Z:Array Value}{e:TypeId}(hg:H.get b=some x)(hs:σ b=some N)
  (S:mJ w w' N.block cs Z e) (hx:x'.size=N.size)
  (even:∀(i:Nat) (r:List AV),x'.rows[i]? =some r->r.length=x'.size) (room:N.base+x'.rows.length*x'.size<=cs.size)
  (rep:∀(i:Nat) (r:List AV) (j:Nat) (a:AV) (u:Value),x'.rows[i]? =some r->r[j]? =some a->Z[N.base+i*x'.size+j]? =some u->bC w σ (aX σ H) a u) :
  bJ w' σ (H.put b (some x'))/\fT w σ (aX σ H) w' σ (aX σ (H.put b (some x'))):=by
 have O:Ef σ (H.put b (some x'))=Ef σ H:=by
  funext c;apply propext;constructor
  .rintro⟨b',y,q,D,G,Y⟩;rw[ah.get_put]at D;by_cases E:b=b'
   .subst E;exact⟨b,x,q,hg,G,Y⟩
   .rw[if_neg E]at D;exact⟨b',y,q,D,G,Y⟩
  .rintro⟨b',y,q,D,G,Y⟩;by_cases E:b=b'
   .subst E;exact⟨b,x',q,by rw[ah.get_put,if_pos rfl],G,Y⟩
   .exact⟨b',y,q,by rw[ah.get_put,if_neg E];exact D,G,Y⟩
 have hown:aX σ (H.put b (some x'))=aX σ H:=by funext c;simp[aX,O]
 have ext:fT w σ (aX σ H) w' σ (aX σ (H.put b (some x'))):=by rw[hown];exact S.ext (.inr ⟨b,x,N,hg,hs,rfl⟩) (λ_ _ h=>h) rfl (λhf=>(h.apart _ hf).2 ⟨b,x,N,hg,hs,rfl⟩) (λ_ h=>h)
 refine⟨⟨h.named,λc q hc=>by rw[S.size];exact h.lt c q hc,?_,λc hc=>by rw[S.size,O];exact h.apart c hc,?_,h.glob.mono ext⟩,ext⟩
 .intro c y M;rw[ah.get_put]at M;by_cases B:b=c
  .subst B;rw[if_pos rfl]at M;cases M;exact⟨N,Z,e,hs,.of (h.ok_of hg hs S.old) ⟨hx.symm,S.new,even,by rw[S.len];exact room,λi r j a u D G Y=>(rep i r j a u D G Y).mono ext⟩⟩
  .rw[if_neg B]at M;obtain⟨q,ds,e',D,G⟩:=h.live c y M;exact⟨q,ds,e',D,G.mono ext (S.rest _ λhe=>B (h.inj b c x y N q hg M hs D he.symm))⟩
 .intro c c' y y' q q' D G;have aux:∀c y,(H.put b (some x')).get c=some y->∃z,H.get c=some z:=λc y M=>by
   rw[ah.get_put]at M;by_cases B:b=c
   .subst B;exact⟨x,hg⟩
   .rw[if_neg B]at M;exact⟨y,M⟩
  obtain⟨z,hz⟩:=aux c y D;obtain⟨z',hz'⟩:=aux c' y' G;exact h.inj c c' z z' q q' hz hz'
def bJ.over{w w':World}{σ:bO}{H:ah}(h:bJ w σ H){b D:Nat}{x x':Blk}{B:de}{cs cs':Array Value}{e:TypeId}{k:Nat}(hg:H.get b=some x)(Y:σ b=some B)
  (hb:σ D=none) (hlt:D<H.next) (hw:mJ w w' B.block cs cs' e) (hx:x'.size=B.size)
  (even:∀(i:Nat) (r:List AV),x'.rows[i]? =some r->r.length=x'.size) (room:B.base+k*B.size+x'.rows.length*x'.size<=cs.size)
  (rep:∀(i:Nat) (r:List AV) (j:Nat) (a:AV) (u:Value),x'.rows[i]? =some r->r[j]? =some a->cs'[B.base+k*B.size+i*x'.size+j]? =some u->bC w σ (aX σ H) a u) :
  bJ w' (σ.set D ⟨B.block,B.base+k*B.size,B.size⟩) ((H.put b none).new D x')/\
  fT w σ (aX σ H) w' (σ.set D ⟨B.block,B.base+k*B.size,B.size⟩) (aX (σ.set D ⟨B.block,B.base+k*B.size,B.size⟩) ((H.put b none).new D x')):=by
 have hne:D≠b:=by rintro rfl;rw[hb]at Y;cases Y
 have E:∀c y,((H.put b none).new D x').get c=some y->(c=D/\y=x')\/(c≠D/\c≠b/\H.get c=some y):=λc y S=>by
  rw[ah.get_new]at S;by_cases M:D=c
  .rw[if_pos M]at S;cases S;exact .inl ⟨M.symm,rfl⟩
  .rw[if_neg M,ah.get_put]at S;by_cases G:b=c
   .rw[if_pos G]at S;cases S
   .rw[if_neg G]at S;exact .inr ⟨λe=>M e.symm,λe=>G e.symm,S⟩
 have htok:∀d,Ef (σ.set D ⟨B.block,B.base+k*B.size,B.size⟩) ((H.put b none).new D x') d->Ef σ H d:=by
  rintro d ⟨c,y,q,M,G,O⟩;rcases E c y M with⟨rfl,rfl⟩|⟨h4,_,h5⟩
  .rw[bO.set_eq]at G;cases G;exact⟨b,x,B,hg,Y,O⟩
  .rw[bO.set_ne _ _ (λe=>h4 e.symm)]at G;exact⟨c,y,q,h5,G,O⟩
 have ext:fT w σ (aX σ H) w' (σ.set D ⟨B.block,B.base+k*B.size,B.size⟩) (aX (σ.set D ⟨B.block,B.base+k*B.size,B.size⟩) ((H.put b none).new D x')):=by
  refine hw.ext (.inr ⟨b,x,B,hg,Y,rfl⟩) (λc q hq=>bO.set_old hb hq) rfl (λhf=>(h.apart _ hf).2 ⟨b,x,B,hg,Y,rfl⟩) ?_;rintro d (hfr|hd)
  .exact .inl hfr
  .exact .inr (htok d hd)
 refine⟨⟨?_,?_,?_,λc Z=>⟨by rw[hw.size];exact(h.apart c Z).1,λht=>(h.apart c Z).2 (htok c ht)⟩,?_,h.glob.mono ext⟩,ext⟩
 .intro c q Z;by_cases N:D=c
  .subst N;exact hlt
  .rw[bO.set_ne _ _ N]at Z;exact h.named c q Z
 .intro c q Z;rw[hw.size];by_cases N:D=c
  .subst N;rw[bO.set_eq]at Z;cases Z;exact h.lt b B Y
  .rw[bO.set_ne _ _ N]at Z;exact h.lt c q Z
 .intro c y S;rcases E c y S with⟨rfl,rfl⟩|⟨h4,h6,h5⟩
  .exact⟨_,cs',e,bO.set_eq _ _ _,.of (de.ok_over (h.ok_of hg Y hw.old) _ _) ⟨hx.symm,hw.new,even,by rw[hw.len];exact room,λi r j a u M G O=>(rep i r j a u M G O).mono ext⟩⟩
  .obtain⟨q,ds,e',M,G⟩:=h.live c y h5;exact⟨q,ds,e',by rw[bO.set_ne _ _ (λe=>h4 e.symm)];exact M,G.mono ext (hw.rest _ λhe=>h6 (h.inj c b y x q B h5 hg M Y he))⟩
 .intro c c' y y' q q' M G O h4 h5;rcases E c y M with⟨rfl,rfl⟩|⟨a1,a2,a3⟩
  .rcases E c' y' G with⟨rfl,rfl⟩|⟨b1,b2,b3⟩
   .rfl
   .rw[bO.set_eq]at O;cases O;rw[bO.set_ne _ _ (λe=>b1 e.symm)]at h4;exact absurd (h.inj b c' x y' B q' hg b3 Y h4 h5) (λe=>b2 e.symm)
  .rcases E c' y' G with⟨rfl,rfl⟩|⟨b1,b2,b3⟩
   .rw[bO.set_eq]at h4;cases h4;rw[bO.set_ne _ _ (λe=>a1 e.symm)]at O;exact absurd (h.inj c b y x q B a3 hg O Y h5) a2
   .rw[bO.set_ne _ _ (λe=>a1 e.symm)]at O;rw[bO.set_ne _ _ (λe=>b1 e.symm)]at h4;exact h.inj c c' y y' q q' a3 b3 O h4 h5
section
section
variable {P:Program} {w:World} {σ:bO} {T:Nat->Prop}
theorem vj{t:TypeId}{i:TypeInfo}(h:P.info? t=some i)(w:World):(typeInfo t).run P w=.ok i w:=by simp[typeInfo,h]
theorem dP{t:TypeId}{n:Nat}(h:bk P t=some n)(w:World):(sizeOf t).run P w=.ok n w:=by
 unfold bk at h;cases j:P.info? t with
 |none=>rw[j]at h;cases h
 |some i=>rw[j]at h;cases h;simp[sizeOf,vj j]
theorem mK{t:TypeId}{r:Bool}(h:fE P t=some r)(w:World):(isAgg t).run P w=.ok r w:=by
 unfold fE at h;cases j:P.underlying t with
 |none=>rw[j]at h;cases h
 |some d=>rw[j]at h;simp only[abp,aaS]at h;subst h;simp only[isAgg,abx,run_underlying j,abd];cases d<;>rfl
theorem bC.cells{a:AV}{v:Value}{cs:List AV}(h:bC w σ T a v)(j:a.cells? =some cs):fX w σ T cs v.cells.toList:=by
 have one:∀{a v},bC w σ T a v->(v.cells=#[v])->fX w σ T [a] v.cells.toList:=λ{a v} h e=>by
  rw[e];refine⟨rfl,λi E D u B=>?_⟩
  match i with
  |0=>cases u;cases B;exact h
  |i+1=>simp at u
 cases h<;>simp only[AV.cells?,aaS,reduceCtorEq]at j<;>subst j
 case agg vs hl h=>exact⟨by simpa[Value.cells]using hl,by simpa[Value.cells]using h⟩
 all_goals exact one (by constructor<;>assumption) rfl
theorem bC.one{a:AV}{v:Value}(h:bC w σ T a v)(j:a.one=true):v.oneCell'=true:=by cases h<;>first|rfl|(simp[AV.one]at j)
theorem fX.one{cs:List AV}{vs:List Value}(h:fX w σ T cs vs)(u:cs.all AV.one=true):∀v∈vs,v.oneCell'=true:=by
 intro v D;obtain⟨i,B,rfl⟩:=abC D;have j:i<cs.length:=by rw[h.1];exact B
 exact(h.2 i cs[i] vs[i] (mt j) (mt B)).one (by rw[abh]at u;exact u _ (LT j))
def IY(w:World)(σ:bO)(T:Nat->Prop)(row:List AV)(b start:Nat):Prop:=
 ∀(j:Nat) (a:AV),row[j]? =some a->∃u,w.cell? ⟨b,start+j,none⟩=some u/\bC w σ T a u
theorem fZ(b o n:Nat):(⟨b,o,none⟩:Addr).add n=⟨b,o+n,none⟩:=by unfold Addr.add;split<;>simp_all
theorem Ql{row:List AV}{b B:Nat}(h:IY w σ T row b B)(n D:Nat)(hn:D+n<=row.length):
  ∃vs:List Value,vs.length=n/\(loadCells ⟨b,B+D,none⟩ n).run P w=.ok vs.toArray w/\fX w σ T ((row.drop D).take n) vs:=by
 have G:∀j,∃u,j<n->∃a,row[D+j]? =some a/\w.cell? ⟨b,B+D+j,none⟩=some u/\bC w σ T a u:=λj=>by
  by_cases O:j<n
  .obtain⟨u,N,E⟩:=h (D+j) row[D+j] (mt acN);exact⟨u,λ_=>⟨_,mt acN,by rw[abW];exact N,E⟩⟩
  .exact⟨undef,λh=>absurd h O⟩
 let f:=λj=>Classical.choose (G j)
 have Y:∀j,j<n->∃a,row[D+j]? =some a/\w.cell? ⟨b,B+D+j,none⟩=some (f j)/\bC w σ T a (f j):=λj=>Classical.choose_spec (G j)
 refine⟨(List.range n).map f,acQ,run_loadCells w _ n f (λj O=>by rw[fZ];obtain⟨a,_,E,_⟩:=Y j O;exact E),acS,?_⟩;intro i a v N E;rw[abn]at E;have S:i<n:=by
  rcases LE i n with M|M
  .exact M
  .rw[aah (by simpa using M)]at E;cases E
 rw[acM S]at E;cases E;obtain⟨a',M,_,Z⟩:=Y i S;rw[abJ S,abY,M]at N;cases N;exact Z
theorem ta{t:TypeId}{row:List AV}{b j B:Nat}{v:AV}(h:IY w σ T row b j)(D:jg P t row B=some v):
  ∃v',(loadVar t ⟨b,j+B,none⟩).run P w=.ok v' w/\bC w σ T v v':=by
 unfold jg at D;split at D
 .rename_i n G N;split at D
  .rename_i S;cases D;obtain⟨O,_,E,M⟩:=Ql (P:=P) h n B S;exact⟨.agg O.toArray,by simp only[loadVar,abx,mK G,abd,Sem.run_ite,if_true,dP N,E,abO],.agg _ _ M.1 M.2⟩
  .cases D
 .rename_i n G N;obtain⟨u,Y,E⟩:=h B v D;exact⟨u,by simp[loadVar,mK G,Y],E⟩
 .cases D
theorem td{t:TypeId}{row:List AV}{vs:List Value}{j:Nat}{v:AV}(h:fX w σ T row vs)(u:jg P t row j=some v):
  ∃v',(part t vs.toArray j).run P w=.ok v' w/\bC w σ T v v':=by
 unfold jg at u;split at u
 .rename_i n G N;split at u
  .rename_i Y;cases u;refine⟨.agg (vs.toArray.extract j (j+n)),by simp only[part,abx,mK G,abd,Sem.run_ite,if_true,dP N,abO],?_⟩;have e:vs.toArray.extract j (j+n)=((vs.drop j).take n).toArray:=by simp
   rw[e];refine .agg _ _ (by simp[h.1]) λi a v E M=>?_
   have S:i<n:=by
    rcases LE i n with B|B
    .exact B
    .rw[aah acS]at E;cases E
   rw[abJ S,abY]at E M;exact h.2 _ a v E M
  .cases u
 .rename_i n G N;have O:j<row.length:=by
   rcases LE j row.length with B|B
   .exact B
   .rw[aah B]at u;cases u
  have D:j<vs.length:=by rw[<-h.1];exact O
  exact⟨vs[j],by simp[part,mK G,D],h.2 j v _ u (mt D)⟩
 .cases u
theorem xC.row{x:Blk}{B:de}{cs:Array Value}{e:TypeId}(h:xC w σ T x B cs e){i:Nat}{r:List AV}(D:x.rows[i]? =some r):
  IY w σ T r B.block (B.base+i*B.size):=by
 intro j a E;have M:i<x.rows.length:=by
  rcases LE i x.rows.length with u|u
  .exact u
  .rw[aah u]at D;cases D
 have N:j<x.size:=by
  rw[<-h.even i r D];rcases LE j r.length with u|u
  .exact u
  .rw[aah u]at E;cases E
 have G:B.base+i*x.size+j<cs.size:=by have:=h.room;have:(i+1)*x.size<=x.rows.length*x.size:=abl _ M;rw[abM]at this;omega
 refine⟨cs[B.base+i*x.size+j],?_,h.rep i r j a _ D E (abu G)⟩;rw[h.size];simp[World.cell?,h.block,G]
theorem ug.row{rows:List (List AV)}{b o sz:Nat}(M:ug w T rows b o sz)
  (h:∀(i:Nat) (r:List AV) (j:Nat) (a:AV) (u:Value),rows[i]? =some r->r[j]? =some a->w.cell? ⟨b,o+i*sz+j,none⟩=some u->bC w σ T a u)
  {i:Nat} {r:List AV} (D:rows[i]? =some r):IY w σ T r b (o+i*sz):=by
 intro j a E;have O:i<rows.length:=by
  rcases LE i rows.length with B|B
  .exact B
  .rw[aah B]at D;cases D
 have N:j<sz:=by
  rw[<-M.even i r D];rcases LE j r.length with B|B
  .exact B
  .rw[aah B]at E;cases E
 obtain⟨u,G⟩:=M.cell i j O N;exact⟨u,G,h i r j a u D E G⟩
theorem Bj{H:ah}(hW:bJ w σ H){t:TypeId}{a v:AV}{Z:Value}(S:bC w σ (aX σ H) a Z)(j:ph P H t a=some v):
  ∃v',(Instr.loadAt t Z).run P w=.ok v' w/\bC w σ (aX σ H) v v':=by
 unfold ph at j;split at j
 .rename_i b i D;cases S;rename_i pl hp hs;cases E:H.get b with
  |none=>rw[E]at j;cases j
  |some x=>
   rw[E]at j;simp only[abQ]at j;cases u:x.rows[i]? with
   |none=>rw[u]at j;cases j
   |some r=>rw[u]at j;simp only[abQ]at j;obtain⟨pl',cs,e,Y,O⟩:=hW.live b x E;rw[hs]at Y;cases Y;replace O:=O.1 hp;obtain⟨v',N,M⟩:=ta (P:=P) (O.row u) j;exact⟨v',by simpa[Instr.loadAt,Instr.sureAddr]using N,M⟩
 .rename_i B i D;cases S;rename_i b o sz G h;cases u:B[i]? with
  |none=>rw[u]at j;cases j
  |some r=>rw[u]at j;simp only[abQ]at j;obtain⟨v',N,M⟩:=ta (P:=P) (G.row h u) j;exact⟨v',by simpa[Instr.loadAt,Instr.sureAddr]using N,M⟩
 .cases j
end
end
section
section
variable {P:Program} {w:World} {σ:bO} {T:Nat->Prop}
theorem Nl{v:Value}{a:AV}(h:Yv v=some a):bC w σ T a v:=by unfold Yv at h;split at h<;>first|(cases h;constructor)|cases h
theorem jY{α:Type}:∀(l:List (Option α)) (m:List α),cX l=some m->l.length=m.length/\∀(i:Nat) (x:α),m[i]? =some x->l[i]? =some (some x)
 |[],m,h=>by cases h;exact⟨rfl,λi x h=>by simp at h⟩
 |none::_,m,h=>by cases h
 | some x::l,m,h=>by
  unfold cX at h;split at h
  .rename_i u B;cases h;obtain⟨D,h2⟩:=jY l u B;refine⟨by simp[D],λi y j=>?_⟩
   match i with
   |0=>simpa using j
   |i+1=>simp only[acj]at j ⊢;exact h2 i y j
  .cases h
theorem IZ{v:Value}{a:AV}(h:OF v=some a):bC w σ T a v:=by
 unfold OF at h;split at h
 .rename_i u;cases j:cX (u.toList.map Yv)with
  |none=>rw[j]at h;cases h
  |some l=>
   rw[j]at h;cases h;obtain⟨G,E⟩:=jY _ _ j;have:bC w σ T (.agg l) (.agg u.toList.toArray):=.agg l u.toList (by simpa using G.symm) λi a v D B=>by have:=E i a D;rw[abn,B]at this;simp only[abp,aaS]at this;exact Nl this
   simpa using this
 .exact Nl h
theorem ga{t:TypeId}{z:AV}(h:fB P t=some z):∃j,(zeroValue t).run P w=.ok j w/\bC w σ T z j:=by
 unfold fB at h;cases B:P.info? t with
 |none=>rw[B]at h;cases h
 |some i=>
  rw[B]at h;simp only[abQ]at h;cases u:i.zero with
  |none=>rw[u]at h;cases h
  |some j=>rw[u]at h;exact⟨j,by simp[zeroValue,vj B,u],IZ h⟩
theorem zS{s:TypeId}{x v:AV}{x':Value}{f:Nat}(O:bC w σ T x x')(h:kB P s x f=some v):
  ∃v',(Instr.fieldAt s x' f).run P w=.ok v' w/\bC w σ T v v':=by
 unfold kB at h;split at h
 .rename_i Z M;cases D:Z[f]? with
  |none=>rw[D]at h;cases h
  |some G=>
   rw[D]at h;simp only[abQ]at h;cases B:bk P G.type with
   |none=>rw[B]at h;cases h
   |some n=>
    rw[B]at h;simp only[abQ]at h;by_cases E:n=0
    .rw[if_pos E]at h;cases h
    .rw[if_neg E]at h;cases O<;>simp only[aaS,reduceCtorEq]at h<;>subst h
     .rename_i b i j N S hp;refine⟨_,by simp only[Instr.fieldAt,abx,run_underlying M,abd,D,Instr.sureAddr,abO,fieldPlace,dP B,Sem.run_ite,if_neg E,fZ];rfl,?_⟩;have:=bC.ptr (w:=w) (T:=T) b i (j+G.offset) N S hp
      rwa [<-Nat.add_assoc]at this
     .rename_i u i j b o sz Y h;refine⟨_,by simp only[Instr.fieldAt,abx,run_underlying M,abd,D,Instr.sureAddr,abO,fieldPlace,dP B,Sem.run_ite,if_neg E,fZ];rfl,?_⟩;have:=bC.pptr u i (j+G.offset) b o sz Y h
      rwa [<-Nat.add_assoc]at this
 .cases h
theorem I1{s:TypeId}{x v:AV}{x':Value}{f:Nat}(u:bC w σ T x x')(h:GW P s x f=some v):
  ∃v',(Instr.field s x' f).run P w=.ok v' w/\bC w σ T v v':=by
 unfold GW at h;split at h
 .rename_i N Y B;cases u;rename_i O E D;cases j:N[f]? with
  |none=>rw[j]at h;cases h
  |some S=>rw[j]at h;simp only[abQ]at h;obtain⟨v',M,G⟩:=td (P:=P) (w:=w) (σ:=σ) (T:=T) ⟨E,D⟩ h;exact⟨v',by simp[Instr.field,run_underlying B,j,asAgg,M],G⟩
 .cases h
theorem bC.sl_inv{b i n:Nat}{v:Value}(h:bC w σ T (.sl b i n) v):∃u a j,v=.slice (some a) n j/\σ b=some u/\n<=j/\j<=maxLen/\
  (0<j->a=⟨u.block,u.base+i*u.size,none⟩/\∃cs e,w.heap[u.block]? =some (.cells cs e (0,0))/\u.base+(i+j)*u.size<=cs.size):=by
 cases h with
 |sl _ _ _ u a j h hp B D E=>exact⟨u,a,j,rfl,h,B,D,E⟩
theorem bC.sl_ok{b i n:Nat}{v:Value}(h:bC w σ T (.sl b i n) v){j:de}(B:σ b=some j):j.ok:=by
 cases h with
 |sl _ _ _ u a D h hp E G M=>rw[B]at h;cases h;exact hp
theorem bC.lst_inv{rows:List (List AV)}{v:Value}(h:bC w σ T (.lst rows) v):∃A B,v=.slice A rows.length B/\rows.length<=B/\B<=maxLen/\
  (rows≠[]->∃b o sz,A=some ⟨b,o,none⟩/\ug w T rows b o sz/\
   ∀(i:Nat) (r:List AV) (j:Nat) (a:AV) (u:Value),rows[i]? =some r->r[j]? =some a->w.cell? ⟨b,o+i*sz+j,none⟩=some u->bC w σ T a u):=by
 cases h with
 |lst0 a B D=>exact⟨a,B,rfl,abt _,D,λh=>absurd rfl h⟩
 |lst _ b o sz B G E D h=>exact⟨_,B,rfl,E,D,λ_=>⟨b,o,sz,rfl,G,h⟩⟩
theorem aH{α:Type}{l:List α}{i:Nat}{x:α}(h:l[i]? =some x):i<l.length:=by
 rcases LE i l.length with j|j
 .exact j
 .rw[aah j]at h;cases h
theorem zT{H:ah}(hW:bJ w σ H){t:TypeId}{x ix v:AV}{x' O:Value}(S:bC w σ (aX σ H) x x')(hi:bC w σ (aX σ H) ix O)(h:fF P (n0 H x) t x ix=some v):
  ∃v',(Instr.indexAt t x' O).run P w=.ok v' w/\bC w σ (aX σ H) v v':=by
 unfold fF at h;split at h
 .rename_i k i;cases hi;by_cases h0:i<0
  .rw[if_pos h0]at h;cases h
  .rw[if_neg h0]at h;split at h
   .rename_i e b j n N;split at h
    .rename_i D;obtain⟨D,hso,E⟩:=D;cases h;cases hy:H.get b with
     |none=>simp[n0,hy]at hso
     |some y=>
     simp only[n0,hy,abp]at E;obtain⟨pl,a,cap,rfl,Y,G,hm,ha⟩:=S.sl_inv;obtain⟨rfl,cs,ty,hc,Z⟩:=ha acN;have u:0<=i/\i<(n:Int):=by omega
     obtain⟨pl',cs',e',h1,h2⟩:=hW.live b y hy;rw[Y]at h1;cases h1;have hp:=S.sl_ok Y;replace h2:=h2.1 hp;refine⟨_,by simp only[Instr.indexAt,asIntOf,abx,abO,abd,run_underlying N,Sem.run_ite,if_pos u,dP E,fZ];rfl,?_⟩;have:=bC.ptr (w:=w) (T:=aX σ H) b (j+i.toNat) 0 pl Y hp;rw[<-h2.size];simpa[abM,abW]using this
    .cases h
   .rename_i e B N;split at h
    .rename_i r Z;split at h
     .rename_i E;cases h;have D:=aH Z;have u:0<=i/\i<(B.length:Int):=by omega
      obtain⟨A,cap,rfl,G,hm,ha⟩:=S.lst_inv;obtain⟨b,o,sz,rfl,hl,h⟩:=ha (by rintro rfl;simp at Z);have hrs:=hl.even _ _ Z;subst hrs;refine⟨_,by simp only[Instr.indexAt,asIntOf,abx,abO,abd,run_underlying N,Sem.run_ite,if_pos u,dP E,fZ];rfl,?_⟩;exact bC.pptr B i.toNat 0 b o _ hl h
     .cases h
    .cases h
   .rename_i len e b j M N;split at h
    .rename_i D;cases G:bk P e with
     |none=>rw[G]at h;cases h
     |some n=>
      rw[G]at h;cases h;cases S;rename_i pl hp Y;have u:0<=i/\i<(len:Int):=by omega
      refine⟨_,by simp only[Instr.indexAt,asIntOf,abx,abO,abd,run_underlying N,Instr.sureAddr,Sem.run_ite,if_pos u,dP G,fZ];rfl,?_⟩;have:=bC.ptr (w:=w) (T:=aX σ H) b j (M+i.toNat*n) pl Y hp
      rwa [<-Nat.add_assoc]at this
    .cases h
   .rename_i len e B j M N;split at h
    .rename_i D;cases G:bk P e with
     |none=>rw[G]at h;cases h
     |some n=>
      rw[G]at h;cases h;cases S;rename_i b o sz hl h;have u:0<=i/\i<(len:Int):=by omega
      refine⟨_,by simp only[Instr.indexAt,asIntOf,abx,abO,abd,run_underlying N,Instr.sureAddr,Sem.run_ite,if_pos u,dP G,fZ];rfl,?_⟩;have:=bC.pptr B j (M+i.toNat*n) b o sz hl h
      rwa [<-Nat.add_assoc]at this
    .cases h
   .cases h
 .cases h
theorem I2{t:TypeId}{x S v:AV}{x' B:Value}(Y:bC w σ T x x')(Z:bC w σ T S B)(h:Bh P t x S=some v):
  ∃v',(Instr.index t x' B).run P w=.ok v' w/\bC w σ T v v':=by
 unfold Bh at h;split at h
 .rename_i s k i M;cases Z;by_cases h0:i<0
  .rw[if_pos h0]at h;cases h
  .rw[if_neg h0]at h;cases Y;rename_i G;cases E:G.data.toList[i.toNat]? with
   |none=>rw[E]at h;cases h
   |some c=>
    rw[E]at h;cases h;have j:=aH E;have O:G[i.toNat]? =some c:=by
     have D:i.toNat<G.size:=by rw[abo]at j;exact j
     rw[getElem?_pos G i.toNat D];rw[mt j]at E;rw[<-E];rfl
    have u:0<=i:=by omega
    have e:(if 0<=i then G[i.toNat]? else none)=some c:=by rw[if_pos u];exact O
    exact⟨.int .u8 c.toNat,by simp only[Instr.index,asIntOf,abx,abO,abd,run_underlying M,e],.int _ _⟩
 .rename_i len e cs k i M;split at h
  .rename_i j;cases N:bk P e with
   |none=>rw[N]at h;cases h
   |some n=>
    rw[N]at h;simp only[abQ]at h;cases Z;cases Y;rename_i vs hl hr;obtain⟨v',O,h2⟩:=td (P:=P) (w:=w) (σ:=σ) (T:=T) ⟨hl,hr⟩ h;have u:0<=i/\i<(len:Int):=by omega
    refine⟨v',?_,h2⟩;simp only[Instr.index,asIntOf,abx,abO,abd,run_underlying M];rw[if_pos u];simp only[abx,dP N,abd,O]
  .cases h
 .cases h
theorem pX{x:AV}{x':Value}{n:Nat}(j:bC w σ T x x')(h:gQ x=some n):∃k i,x'=.int k i/\0<=i/\i.toNat=n:=by
 unfold gQ at h;split at h
 .rename_i k i;split at h
  .rename_i u;cases h;cases j;exact⟨k,i,rfl,u,rfl⟩
  .cases h
 .cases h
end
end
section
structure Qm(P:Program)(t:TypeId)(ts:List TypeId):Prop where
 under:P.underlying t=some (.struct (P.fieldsOf t))
 stood:P.stoodInHeld t=false
 guard:P.eqGuardType P.depth t=false
 types:(P.fieldsOf t).toList.map (·.type)=ts
 fields : ∀ (i : Nat) (f : Field), (P.fieldsOf t).toList[i]? = some f → f.name ≠ "_" ∧ f.offset = i ∧ fE P f.type = some false
section
variable {P:Program} {w:World} {σ:bO} {T:Nat->Prop}
theorem bytes_beq(a b:ByteArray):(a.toList==b.toList)=(a.data.toList==b.data.toList):=by rw[ByteArray.toList_eq,ByteArray.toList_eq]
theorem xD{t:TypeId}{x y:AV}{x' B:Value}{r:Bool}{d:Nat}(u:bC w σ T x x')(j:bC w σ T y B)(h:vg P t x y=some r):
  (Op.equalIn (d+1) t x' B).run P w=.ok r w:=by
 unfold vg at h;split at h
 case h_1 hu=>
  split at h
  .rename_i D;subst D;cases h;cases u;cases j;exact run_equalIn_int w d t _ _ _ _ hu
  .cases h
 case h_2 hu=>cases h;cases u;cases j;exact run_equalIn_bool' w d t _ _ hu
 case h_3 hu=>cases h;cases u;cases j;rw[run_equalIn_string w d t _ _ hu,bytes_beq]
 case h_4 hu=>cases h;cases u;cases j;simp[Op.equalIn,run_underlying hu]
 case h_5 hu=>cases h;cases u;cases j;simp[Op.equalIn,run_underlying hu]
 case h_6 hu=>cases h;cases u;cases j;simp[Op.equalIn,run_underlying hu]
 case h_7 hu=>cases h;cases u;cases j;simp[Op.equalIn,run_underlying hu]
 case h_8 hu=>cases h;cases u;cases j;simp[Op.equalIn,run_underlying hu]
 case h_9 hu=>cases h;cases u;cases j;simp[Op.equalIn,run_underlying hu]
 case h_10 hu=>cases h;cases u;cases j;simp[Op.equalIn,run_underlying hu]
 case h_11 hu=>cases h;cases u;cases j;simp[Op.equalIn,run_underlying hu]
 case h_12 hu=>cases h;cases u;cases j;simp[Op.equalIn,run_underlying hu]
 case h_13 hu=>cases h;cases u;cases j;simp[Op.equalIn,run_underlying hu]
 case h_14=>cases h
theorem I3{t:TypeId}{cs:List AV}{vs:List Value}{i:Nat}{a:AV}(ht:fE P t=some false)(h:fX w σ T cs vs)(u:cs[i]? =some a):
  ∃v,(part t vs.toArray i).run P w=.ok v w/\bC w σ T a v:=by
 have B:=aH u;have j:i<vs.length:=by rw[<-h.1];exact B
 exact⟨vs[i],by simp[part,mK ht,j],h.2 i a _ u (mt j)⟩
theorem uh{d:Nat}{cs ds:List AV}{xs ys:List Value}(hc:fX w σ T cs xs)(hd:fX w σ T ds ys):∀(fs:List Field) (k:Nat) (r:Bool),
  (∀ (i : Nat) (f : Field), fs[i]? = some f → f.name ≠ "_" ∧ f.offset = k + i ∧ fE P f.type = some false) → xB P (fs.map (·.type)) (cs.drop k) (ds.drop k) = some r→
  (Op.eqFields (d+1) xs.toArray ys.toArray fs).run P w=.ok r w
 | [],k,r,_,h=>by
  unfold xB at h;split at h
  .cases h;rfl
  .simp_all
  .cases h
 | f::fs,k,r,hf,h=>by
  unfold xB at h;split at h
  .rename_i e _ _;cases e
  .rename_i t ts a l b m e1 e2 e3;cases e1;obtain⟨h1,h2,h3⟩:=hf 0 f rfl;have ha:cs[k]? =some a:=by have:=congrArg (·[0]?) e2;simpa[abY]using this
   have hb:ds[k]? =some b:=by have:=congrArg (·[0]?) e3;simpa[abY]using this
   have hl:l=cs.drop (k+1):=by have:=congrArg List.tail e2;simpa[List.tail_drop]using this.symm
   have hm:m=ds.drop (k+1):=by have:=congrArg List.tail e3;simpa[List.tail_drop]using this.symm
   simp only[acz]at h2;obtain⟨u,hu1,hu2⟩:=I3 (P:=P) h3 hc ha;obtain⟨v,hv1,hv2⟩:=I3 (P:=P) h3 hd hb;rw[<-h2]at hu1 hv1;simp only[Op.eqFields,if_pos h1,abx,hu1,hv1,abd];split at h
   .rename_i he;rw[xD hu2 hv2 he];simp only[abd,Bool.not_true,abj,if_false];exact uh hc hd fs (k+1) r (λi g hg=>by have:=hf (i+1) g (by simpa using hg);refine⟨this.1,by rw[this.2.1];omega,this.2.2⟩) (by rw[<-hl,<-hm];exact h)
   .rename_i he;rw[xD hu2 hv2 h];cases r with
    |true=>exact absurd h he
    |false=>rfl
  .cases h
theorem Eh{op:BinOp}{t:TypeId}{x y:Operand}{a b:Value}(h:∀xs,a≠.agg xs)(j:a≠.nilIface):(eqGuard op t x y a b).run P w=.ok () w:=by cases a<;>cases op<;>simp_all[eqGuard]
theorem zm:∀(a b:List UInt8),vf a b=Op.bytesLess a b
 |_,[]=>by cases ‹List UInt8›<;>rfl
 |[],_::_=>rfl
 |a::x,b::y=>by simp[vf,Op.bytesLess,zm x y]
theorem bC.ne_agg{a:AV}{v:Value}(h:bC w σ T a v)(u:∀cs,a≠.agg cs)(j:a≠.junk):(∀xs,v≠.agg xs)/\v≠.nilIface:=by cases h<;>first|(exact absurd rfl (u _))|(exact absurd rfl j)|(constructor<;>simp)
theorem Qn{op:UnOp}{x v:AV}{x':Value}(j:bC w σ T x x')(h:unA op x=some v):∃v',(Op.unary op x').run P w=.ok v' w/\bC w σ T v v':=by
 unfold unA at h;split at h
 .cases h;cases j;exact⟨_,rfl,.int _ _⟩
 .cases h;cases j;exact⟨_,rfl,.bool _⟩
 .cases h
theorem LF{s d:TypeId}{x v:AV}{x':Value}(B:bC w σ T x x')(h:IW P s d x=some v):∃v',(convert s d x').run P w=.ok v' w/\bC w σ T v v':=by
 unfold IW at h;split at h
 .rename_i u j;cases h;cases B;exact⟨_,by simp[convert,run_underlying u,run_underlying j,Conv.intToInt],.int _ _⟩
 .rename_i u j;cases h;cases B;exact⟨_,by simp[convert,run_underlying u,run_underlying j],.str _⟩
 .cases h
end
end
section
section
variable {P:Program} {w:World} {σ:bO} {T:Nat->Prop}
theorem oe{op:BinOp}{t:TypeId}{k u:IntKind}{a b:Int}{v:AV}(F:TypeId->Option (List TypeId))(h:iS P F op t (.int k a) (.int u b)=some v):
  ∃v',(binOp op t (.int k a) (.int u b)).run P w=.ok v' w/\bC w σ T v v':=by
 by_cases B:k=u
 .subst B;cases op<;>simp only[iS,ne_eq,not_true_eq_false,if_false,reduceCtorEq,aaS]at h
  case shl=>
   split at h
   .rename_i j;cases h;exact⟨_,by simp only[binOp,Op.shift];rw[if_neg acN];rfl,.int _ _⟩
   .cases h
  case shr=>
   split at h
   .rename_i j;cases h;exact⟨_,by simp only[binOp,Op.shift];rw[if_neg acN];rfl,.int _ _⟩
   .cases h
  case quo=>
   split at h
   .cases h
   .rename_i j;cases h;exact⟨_,by simp only[binOp,Op.intDiv,ne_eq,not_true_eq_false,if_false];rw[if_neg j];rfl,.int _ _⟩
  case rem=>
   split at h
   .cases h
   .rename_i j;cases h;exact⟨_,by simp only[binOp,Op.intDiv,ne_eq,not_true_eq_false,if_false];rw[if_neg j];rfl,.int _ _⟩
  all_goals (subst h;refine⟨_,by simp only[binOp,ne_eq,not_true_eq_false,if_false];rfl,?_⟩;constructor)
 .cases op<;>simp only[iS,ne_eq,B,not_false_eq_true,if_true,reduceCtorEq]at h
  case shl=>
   split at h
   .rename_i j;cases h;exact⟨_,by simp only[binOp,Op.shift];rw[if_neg acN];rfl,.int _ _⟩
   .cases h
  case shr=>
   split at h
   .rename_i j;cases h;exact⟨_,by simp only[binOp,Op.shift];rw[if_neg acN];rfl,.int _ _⟩
   .cases h
theorem Nm{l:List UInt8}{s:ByteArray}(h:s.data.toList=l):bC w σ T (.str l) (.string s):=by subst h;exact .str s
theorem GX{op:BinOp}{t:TypeId}{a b:ByteArray}{v:AV}(F:TypeId->Option (List TypeId))(h:iS P F op t (.str a.data.toList) (.str b.data.toList)=some v):
  ∃v',(binOp op t (.string a) (.string b)).run P w=.ok v' w/\bC w σ T v v':=by
 cases op<;>simp only[iS,reduceCtorEq,aaS]at h
 case add=>
  split at h
  .rename_i u;cases h;have j:¬((a.size+b.size:Nat):Int) > IntKind.i64.max:=by
    have D:a.data.toList.length=a.size:=abo;have B:b.data.toList.length=b.size:=abo;rw[D,B]at u;have:(IntKind.i64.max:Int)=9223372036854775807:=by decide
    rw[this];omega
   exact⟨_,by simp only[binOp,Op.stringOp];rw[if_neg j];rfl,Nm acQ⟩
  .cases h
 case eql=>subst h;exact⟨_,rfl,by rw[bytes_beq];exact .bool _⟩
 case neq=>subst h;exact⟨_,rfl,by rw[bytes_beq];exact .bool _⟩
 case lss=>subst h;exact⟨_,rfl,by rw[zm,ByteArray.toList_eq,ByteArray.toList_eq];exact .bool _⟩
theorem Tq{t:TypeId}{x' j:Value}{r:Bool}(h:(Op.equalIn 10000 t x' j).run P w=.ok r w)
  (u:∀k n,x'≠.int k n) (B:∀s,x'≠.string s) (D:∀k n,x'≠.float k n) (E:∀k a b,x'≠.complex k a b) :
  (binOp .eql t x' j).run P w=.ok (.bool r) w/\(binOp .neq t x' j).run P w=.ok (.bool !r) w:=by
 constructor
 .cases x'<;>simp_all[binOp,Op.equal,Op.maxDepth]
 .cases x'<;>simp_all[binOp,Op.equal,Op.maxDepth]
theorem xE{t:TypeId}{x y:AV}{x':Value}{r:Bool}(h:vg P t x y=some r)(j:bC w σ T x x')(B:∀k n,x≠.int k n)(h2:∀s,x≠.str s):
  (∀k n,x'≠.int k n)/\(∀s,x'≠.string s)/\(∀k n,x'≠.float k n)/\(∀k a b,x'≠.complex k a b)/\(∀cs,x≠.agg cs)/\x≠.junk:=by
 have u:x≠.junk/\∀cs,x≠.agg cs:=by
  constructor
  .rintro rfl;unfold vg at h;split at h<;>simp_all
  .rintro cs rfl;unfold vg at h;split at h<;>simp_all
 cases j<;>simp_all
theorem AT{t:TypeId}{x y:AV}{r:Bool}(h:vg P t x y=some r)(j:y=.nilp\/y=.nils):(∀k n,x≠.int k n)/\(∀s,x≠.str s):=by
 rcases j with rfl|rfl
 .constructor
  .rintro k n rfl;unfold vg at h;split at h<;>simp_all
  .rintro s rfl;unfold vg at h;split at h<;>simp_all
 .constructor
  .rintro k n rfl;unfold vg at h;split at h<;>simp_all
  .rintro s rfl;unfold vg at h;split at h<;>simp_all
theorem OG{F:TypeId->Option (List TypeId)}(hF:∀t ts,F t=some ts->Qm P t ts){op:BinOp}{t:TypeId}{ox oy:Operand}{x y v:AV}{x' D:Value}(B:bC w σ T x x')(M:bC w σ T y D)
  (h:iS P F op t x y=some v):∃v',(do eqGuard op t ox oy x' D;binOp op t x' D:Sem Value).run P w=.ok v' w/\bC w σ T v v':=by
 have j:(∀cs,x≠.agg cs)->x≠.junk->(∃v',(binOp op t x' D).run P w=.ok v' w/\bC w σ T v v')->∃v',(do eqGuard op t ox oy x' D;binOp op t x' D:Sem Value).run P w=.ok v' w/\bC w σ T v v':=by intro h1 h2 ⟨v',h3,h4⟩;obtain⟨h5,h6⟩:=B.ne_agg h1 h2;exact⟨v',by simp only[abx,Eh h5 h6,abd,h3],h4⟩
 have eqs:∀r,vg P t x y=some r->(∀k n,x'≠.int k n)->(∀s,x'≠.string s)->(∀k n,x'≠.float k n)->(∀k a b,x'≠.complex k a b)->
   (binOp .eql t x' D).run P w=.ok (.bool r) w/\(binOp .neq t x' D).run P w=.ok (.bool !r) w:=λr hr=>Tq (xD B M hr)
 have h0:=h;unfold iS at h;split at h
 case h_1=>cases B;cases M;exact j acQ acQ (oe F h0)
 case h_2=>cases B;cases M;exact j acQ acQ (oe F h0)
 case h_3=>cases B;cases M;exact j acQ acQ (oe F h0)
 case h_4=>cases B;cases M;exact j acQ acQ (GX F h0)
 case h_5 a b=>
  cases Z:F t with
  |none=>rw[Z]at h;cases h
  |some ts=>
   rw[Z]at h;simp only[abQ]at h;cases u:xB P ts a b with
   |none=>rw[u]at h;cases h
   |some r=>
    rw[u]at h;cases h;cases B with
    |agg _ xs Y O=>
    cases M with
    |agg _ ys S N=>
    have fl:=hF t ts Z;have:=uh (P:=P) (w:=w) (σ:=σ) (T:=T) (d:=9998) ⟨Y,O⟩ ⟨S,N⟩ (P.fieldsOf t).toList 0 r (λi f hi=>by have:=fl.fields i f hi;simpa using this) (by rw[fl.types];simpa using u);refine⟨.bool r,?_,.bool r⟩;simp only[abx,run_eqGuard_agg w _ t ox oy _ _ fl.guard,abd,run_eql_struct];rw[run_equalIn_agg w 9999 t _ _ fl.under fl.stood,this];rfl
 case h_6 a b=>
  cases Z:F t with
  |none=>rw[Z]at h;cases h
  |some ts=>
   rw[Z]at h;simp only[abQ]at h;cases u:xB P ts a b with
   |none=>rw[u]at h;cases h
   |some r=>
    rw[u]at h;cases h;cases B with
    |agg _ xs Y O=>
    cases M with
    |agg _ ys S N=>
    have fl:=hF t ts Z;have:=uh (P:=P) (w:=w) (σ:=σ) (T:=T) (d:=9998) ⟨Y,O⟩ ⟨S,N⟩ (P.fieldsOf t).toList 0 r (λi f hi=>by have:=fl.fields i f hi;simpa using this) (by rw[fl.types];simpa using u);refine⟨.bool !r,?_,.bool !r⟩;simp only[abx,run_eqGuard_agg w _ t ox oy _ _ fl.guard,abd,run_neq_struct];rw[run_equalIn_agg w 9999 t _ _ fl.under fl.stood,this];rfl
 case h_17=>cases h
 all_goals
  cases u:vg P t _ _ with
  |none=>rw[u]at h;cases h
  |some r=>
   rw[u]at h;cases h
   first
    |(obtain⟨p1,p2,p3,p4,G,E⟩:=xE u B (AT u (.inl rfl)).1 (AT u (.inl rfl)).2;obtain⟨e1,e2⟩:=eqs r u p1 p2 p3 p4;first|exact j G E ⟨_,e1,.bool _⟩|exact j G E ⟨_,e2,.bool _⟩)
    |(obtain⟨p1,p2,p3,p4,G,E⟩:=xE u B (AT u (.inr rfl)).1 (AT u (.inr rfl)).2;obtain⟨e1,e2⟩:=eqs r u p1 p2 p3 p4;first|exact j G E ⟨_,e1,.bool _⟩|exact j G E ⟨_,e2,.bool _⟩)
    |(obtain⟨p1,p2,p3,p4,G,E⟩:=xE u B acQ acQ;obtain⟨e1,e2⟩:=eqs r u p1 p2 p3 p4;first|exact j G E ⟨_,e1,.bool _⟩|exact j G E ⟨_,e2,.bool _⟩)
theorem mL{a:AV}{v:Value}{n y:Nat}{code:BoundsCode}(j:bC w σ T a v)(h:gQ a=some n)(u:n<=y):(Instr.sliceBound v y code).run P w=.ok n w:=by
 obtain⟨k,i,rfl,B,rfl⟩:=pX j h;have:0<=i/\i<=(y:Int):=by omega
 simp only[Instr.sliceBound,asIntOf,abx,abO,abd,Sem.run_ite];rw[if_pos this]
def LG(w:World)(σ:bO)(T:Nat->Prop)(x:Option AV)(x':Option Value):Prop:=
 match x,x' with
 |none,none=>True
 |some a,some v=>bC w σ T a v
 |_,_=>False
theorem jZ{E G mx:Option AV}{j u mx':Option Value}{n c l h m:Nat}{isS:Bool}(B:LG w σ T E j)(M:LG w σ T G u)(O:LG w σ T mx mx')(S:G=none->mx=none)
  (D:cE E 0=some l) (h2:cE G n=some h) (Z:cE mx n=some m) (hc:n<=c) (Y:l<=h) (b2:h<=m) (b3:m<=n) :
  ∃N,(Instr.sliceBounds isS n c j u mx').run P w=.ok (l,h,N) w/\h<=N/\N<=c/\(mx.isSome=true->N=m):=by
 match mx,mx',O with
 |none,none,_=>
  cases Z;refine⟨c,?_,acN,Fd _,acQ⟩
  match G,u,M with
  |none,none,_=>
   cases h2
   match E,j,B with
   |none,none,_=>cases D;simp[Instr.sliceBounds]
   |some a,some v,hr=>simp[Instr.sliceBounds,mL (P:=P) hr D Y]
  |some a,some v,hr=>
   have e:=mL (P:=P) (code:=if isS=true then .sliceAcap else .sliceAlen) hr h2 (show h<=c by omega)
   match E,j,B with
   |none,none,_=>cases D;simp[Instr.sliceBounds,e]
   |some a,some v,hr=>simp[Instr.sliceBounds,e,mL (P:=P) hr D Y]
 |some a,some v,hr=>
  have e0:=mL (P:=P) (code:=if isS=true then .slice3Acap else .slice3Alen) hr Z (show m<=c by omega);refine⟨m,?_,b2,acN,λ_=>rfl⟩
  match G,u,M with
  |none,none,_=>exact absurd (S rfl) acQ
  |some a,some v,hr=>
   have e:=mL (P:=P) (code:=.slice3B) hr h2 b2
   match E,j,B with
   |none,none,_=>cases D;simp[Instr.sliceBounds,e0,e]
   |some a,some v,hr=>simp[Instr.sliceBounds,e0,e,mL (P:=P) hr D Y]
theorem gb{t e:TypeId}{A:Option Addr}{n j l h m sz:Nat}{B D mx:Option Value}(E:P.underlying t=some (.slice e))(u:bk P e=some sz)
  (h4:(Instr.sliceBounds true n j B D mx).run P w=.ok (l,h,m) w) :
  (Instr.sliceAt t (.slice A n j) B D mx).run P w=.ok (.slice (if m=l then A else A.map (·.add (l*sz))) (h-l) (m-l)) w:=by
 simp only[Instr.sliceAt,Instr.slice,abx,run_underlying E,abd,h4,dP u,abO]
theorem I4{H:ah}(hW:bJ w σ H){t:TypeId}{x v:AV}{lo Z mx:Option AV}{x':Value}{lo' hi' mx':Option Value}(hx:bC w σ (aX σ H) x x')
  (Y:LG w σ (aX σ H) lo lo') (hhi:LG w σ (aX σ H) Z hi') (S:LG w σ (aX σ H) mx mx') (hmh:Z=none->mx=none)
  (h:md P (n0 H x) t x lo Z mx=some v):∃v',(Instr.sliceAt t x' lo' hi' mx').run P w=.ok v' w/\bC w σ (aX σ H) v v':=by
 unfold md at h;split at h
 .rename_i e n N D;split at h
  .rename_i l E m h1 h2 h3;split at h
   .rename_i hb;obtain⟨⟨b1,b2,b3⟩,hsome⟩:=hb;have hes:∃sz,bk P e=some sz:=Option.isSome_iff_exists.1 hsome;split at h
    .cases h;cases hx;cases D;obtain⟨G,O,h5,h6,h7⟩:=jZ (P:=P) (isS:=true) Y hhi S hmh h1 h2 h3 (Fd 0) b1 b2 b3;obtain rfl:G=0:=by omega
     obtain rfl:E=0:=by omega
     obtain rfl:l=0:=by omega
     obtain⟨sz,B⟩:∃sz,bk P e=some sz:=hes;exact⟨_,gb N B O,by simpa using bC.nils⟩
    .rename_i b i k;cases D;obtain⟨pl,a,cap,rfl,hs,hn,hm,ha⟩:=hx.sl_inv;obtain⟨G,O,h5,h6,h7⟩:=jZ (P:=P) (isS:=true) Y hhi S hmh h1 h2 h3 hn b1 b2 b3;cases hy:H.get b with
     |none=>simp[n0,hy]at h
     |some y=>
      simp only[n0,hy,abp,Option.isSome_some,true_and]at h;split at h
      .rename_i B;cases h;obtain⟨pl',cs',e',g1,g2⟩:=hW.live b y hy;rw[hs]at g1;cases g1;have hp:=hx.sl_ok hs;replace g2:=g2.1 hp;by_cases M:G=l
       .refine⟨.slice (some a) (E-l) (G-l),by rw[gb N B O,if_pos M],?_⟩;exact .sl b (i+l) (E-l) pl a (G-l) hs hp acN acN acN
       .obtain⟨rfl,cs,ty,hc,hr⟩:=ha acN;refine⟨.slice (some ⟨pl.block,pl.base+i*pl.size+l*y.size,none⟩) (E-l) (G-l),by rw[gb N B O,if_neg M,abp,fZ],?_⟩;refine .sl b (i+l) (E-l) pl _ (G-l) hs hp acN acN λ_=>⟨?_,cs,ty,hc,?_⟩
        .rw[<-g2.size,abM,abW]
        .have:(i+l+(G-l))*pl.size<=(i+cap)*pl.size:=abl _ acN;omega
      .cases h
    .rename_i rows;cases D;obtain⟨A,cap,rfl,hn,hm,ha⟩:=hx.lst_inv;obtain⟨G,O,h5,h6,h7⟩:=jZ (P:=P) (isS:=true) Y hhi S hmh h1 h2 h3 hn b1 b2 b3;split at h
     .rename_i M;cases h;obtain⟨sz,B⟩:∃sz,bk P e=some sz:=hes;have e1:=h7 M.1;refine⟨.slice A (E-l) (G-l),by rw[gb N B O,if_pos acN],?_⟩;rw[show E-l=0 by omega,show G-l=0 by omega];exact .emp _
     split at h
     .cases h;obtain⟨sz,B⟩:∃sz,bk P e=some sz:=hes;obtain rfl:E=0:=by simp at b3;omega
      obtain rfl:l=0:=by omega
      exact⟨_,gb N B O,.lst0 _ _ acN⟩
     .rename_i r rs;split at h
      .rename_i B;cases h;obtain⟨b,o,sz,rfl,hl,hrep⟩:=ha acQ;obtain rfl:r.length=sz:=hl.even 0 r rfl;by_cases M:G=l
       .have:E-l=0:=by omega
        rw[this,List.take_zero];exact⟨.slice (some ⟨b,o,none⟩) (E-l) (G-l),by rw[gb N B O,if_pos M],by rw[this];exact .lst0 _ _ acN⟩
       .refine⟨.slice (some ⟨b,o+l*r.length,none⟩) (E-l) (G-l),by rw[gb N B O,if_neg M,abp,fZ],?_⟩;by_cases hz:E-l=0
        .rw[hz,List.take_zero];exact .lst0 _ _ acN
        .have D:(((r::rs).drop l).take (E-l)).length=E-l:=by simp at b3 ⊢;omega
         have get:∀(i:Nat) (q:List AV),(((r::rs).drop l).take (E-l))[i]? =some q->i<E-l/\(r::rs)[l+i]? =some q:=λi q hq=>by have Z:=aH hq;rw[D]at Z;rw[abJ Z,abY]at hq;exact⟨Z,hq⟩
         have:=bC.lst (w:=w) (σ:=σ) (T:=aX σ H) (((r::rs).drop l).take (E-l)) b (o+l*r.length) r.length (G-l)
          ⟨hl.out,λi q hq=>hl.even _ q (get i q hq).2,λi j Z hj=>by
           rw[D]at Z;have:=hl.cell (l+i) j (by simp at b3 ⊢;omega) hj
           rwa [abM,<-Nat.add_assoc]at this,hl.pos,acN⟩ acN acN
          (λi q j a u hq hj N=>hrep (l+i) q j a u (get i q hq).2 hj (by rw[abM,<-Nat.add_assoc];exact N))
         rwa [D]at this
      .cases h
    .cases h
   .cases h
  .cases h
 .rename_i N;split at h
  .split at h
   .rename_i l E h1 h2;split at h
    .rename_i hb;obtain⟨b1,b2⟩:=hb;cases h;cases hx with
     |str ba=>
     have hln:ba.data.toList.length=ba.size:=abo;have hmx2:mx'=none:=by
      match mx',S with
      |none,_=>rfl
     subst hmx2;obtain⟨G,O,h5,h6,h7⟩:=jZ (P:=P) (isS:=false) (n:=ba.size) (c:=ba.size) (m:=ba.size) (mx:=none) (mx':=none) Y hhi trivial (λ_=>rfl) h1 (by rw[<-hln];exact h2) rfl (Fd _) b1 acN (Fd _);refine⟨.string (ba.extract l E),by simp only[Instr.sliceAt,Instr.slice,abx,run_underlying N,abd,O,abO,Option.isSome_none,abj,if_false],Nm ?_⟩;rw[Lib.extract_data]
    .cases h
   .cases h
  .cases h
 .cases h
end
end
section
section
variable {P:Program} {w:World} {σ:bO} {T:Nat->Prop}
theorem xF:∀(vs:List Value) (k j:Nat) (cs:Array Value),j+k+vs.length<=cs.size->
  ((vs.zipIdx k).foldl (λ(cs:Array Value) (p:Value×Nat)=>cs.setIfInBounds (j+p.2) p.1) cs).toList=cs.toList.take (j+k)++vs++cs.toList.drop (j+k+vs.length)
 |[],k,j,cs,_=>by simp
 | v::vs,k,j,cs,h=>by simp only[abi]at h;rw[List.zipIdx_cons,acg,xF vs (k+1) j _ acS];have e:=list_seg_step cs.toList (j+k) v vs acS;simpa[Array.toList_setIfInBounds,abW]using e
theorem fX.splice{cells cs:List AV}{vs us:List Value}{j:Nat}(h:fX w σ T cells vs)(k:fX w σ T cs us)(M:j+cs.length<=cells.length):
  fX w σ T (aR cells j cs) (vs.take j++us++vs.drop (j+us.length)):=by
 refine⟨by simp[aR,h.1,k.1],λi a v B u=>?_⟩;unfold aR at B;have N:=h.1;have G:=k.1;rcases LE i j with D|D
 .rw[abr,aaW acS,abJ D]at B u;exact h.2 i a v B u
 .rcases LE i (j+cs.length)with E|E
  .rw[aaW acS,aaL acS]at B u;simp only[abm]at B u;rw[abV acN]at B u;exact k.2 _ a v B u
  .rw[aaL acS]at B u;simp only[aal,abm,abY]at B u;rw[abV acN]at B u;rw[<-G]at u;exact h.2 _ a v B u
theorem uj{place:Nat->Option (Nat×Nat)}{ρ:Operand->AV}{u:Operand->Value}(G:∀x,bC w σ T (ρ x) (u x)):∀(ps:List (Nat×Operand)) (cells r:List AV) (j:Array Value),
  fX w σ T cells j.toList->vc place cells (ps.map λp=>(p.1,ρ p.2))=some r->∃M,Instr.fill place j (ps.map λp=>(p.1,u p.2))=some M/\fX w σ T r M.toList
 |[],cells,r,j,hc,h=>by cases h;exact⟨j,rfl,hc⟩
 | (i,x)::ps,cells,r,j,hc,h=>by
  simp only[aai,vc]at h;split at h
  .rename_i B size cs hp O;split at h
   .rename_i Z;obtain⟨N,Y,_⟩:=Z;have S:=(G x).cells O;have e1:(u x).cells.size=size:=by rw[<-Array.length_toList,<-S.1,N]
    have e2:j.size=cells.length:=by rw[<-Array.length_toList,<-hc.1]
    have D:((u x).cells.zipIdx.foldl (λ(cs:Array Value) (p:Value×Nat)=>cs.setIfInBounds (B+p.2) p.1) j).toList=j.toList.take B++(u x).cells.toList++j.toList.drop (B+(u x).cells.toList.length):=by have:=xF (u x).cells.toList 0 B j acS;rw[<-Array.foldl_toList,Array.toList_zipIdx];simpa using this
    obtain⟨M,h1,h2⟩:=uj G ps (aR cells B cs) r _ (by rw[D];exact hc.splice S acN) h;refine⟨M,?_,h2⟩;have E:(decide ((u x).cells.size≠size)||decide (B+(u x).cells.size > j.size))=false:=by simp[e1,e2];omega
    simp only[aai,Instr.fill,hp,E,abj,if_false];exact h1
   .cases h
  .cases h
theorem vk{α β:Type}(f:α->Sem β)(g:α->β):∀(l:List α),(∀x∈l,(f x).run P w=.ok (g x) w)->(l.mapM f).run P w=.ok (l.map g) w
 |[],_=>by simp
 | x::l,h=>by rw[List.mapM_cons];simp only[abx,h x acQ,abd,vk f g l (λy j=>h y (by simp[j])),abO,aai]
theorem Ei{α β:Type}(f:α->Sem β)(g:α->β)(l:Array α)(h:∀x∈l.toList,(f x).run P w=.ok (g x) w):(l.mapM f).run P w=.ok (l.toList.map g).toArray w:=by rw[Array.mapM_eq_mapM_toList];simp only[Sem.run_map,vk f g l.toList h,abd]
structure Fit(P:Program)(F:TypeId->Option (List TypeId)):Prop where
 flat:∀t ts,F t=some ts->Qm P t ts
 names : ∀ (g : Nat) (fn : Func), P.funcs[g]? = some fn → fn.name ≠ "runtime.NumGoroutine"
 order:P.follows .mixedOrders=true
theorem I5{t:TypeId}{ps:Array (Nat×Operand)}{v:AV}{ρ:Operand->AV}{u:Operand->Value}(Y:∀x,bC w σ T (ρ x) (u x))(h:Bg P t (ps.toList.map λp=>(p.1,ρ p.2))=some v):
  ∃v',(Instr.build t (ps.map λ(i,x)=>(i,u x))).run P w=.ok v' w/\bC w σ T v v':=by
 have Z:(ps.map λ(i,x)=>(i,u x)).toList=ps.toList.map λp=>(p.1,u p.2):=by simp
 unfold Bg at h;split at h
 .rename_i O z hu hz;split at h
  .rename_i E;have hf:∀f∈O.toList,∃n,bk P f.type=some n:=λf N=>by rw[abh]at E;exact Option.isSome_iff_exists.1 (E f N)
   obtain⟨z',M,G⟩:=ga (P:=P) (w:=w) (σ:=σ) (T:=T) hz;cases B:vc (lz P O) z (ps.toList.map λp=>(p.1,ρ p.2))with
   |none=>rw[B]at h;cases h
   |some r=>
    rw[B]at h;cases h;have j:=G.cells (cs:=z) rfl;have hm:=Ei (P:=P) (w:=w) (λf:Field=>(do pure (f.offset,<-sizeOf f.type):Sem (Nat×Nat))) (λf=>(f.offset,(bk P f.type).getD 0)) O (λf N=>by
     obtain⟨n,D⟩:=hf f N;simp[dP D,D])
    have hpl:(λi=>((O.toList.map λf:Field=>(f.offset,(bk P f.type).getD 0)).toArray)[i]?)=lz P O:=by
     funext i;unfold lz;rw[List.getElem?_toArray,abn,abv];cases hfi:O[i]? with
     |none=>rfl
     |some f=>obtain⟨n,D⟩:=hf f (by rw[Array.mem_toList_iff];exact Array.mem_of_getElem? hfi);simp[D]
    rw[<-hpl]at B;obtain⟨S,h1,h2⟩:=uj Y ps.toList z r z'.cells j B;refine⟨.agg S,?_,by have:=bC.agg (w:=w) (σ:=σ) (T:=T) r S.toList h2.1 h2.2;simpa using this⟩;simp only[Instr.build,abx,M,abd,run_underlying hu,hm,Z,h1,abO]
  .cases h
 .rename_i n e z hu hz;obtain⟨z',M,G⟩:=ga (P:=P) (w:=w) (σ:=σ) (T:=T) hz;cases D:bk P e with
  |none=>rw[D]at h;cases h
  |some sz=>
   rw[D]at h;simp only[abQ]at h;cases B:vc (λi=>some (i*sz,sz)) z (ps.toList.map λp=>(p.1,ρ p.2))with
   |none=>rw[B]at h;cases h
   |some r=>rw[B]at h;cases h;have j:=G.cells (cs:=z) rfl;obtain⟨S,h1,h2⟩:=uj Y ps.toList z r z'.cells j B;refine⟨.agg S,?_,by have:=bC.agg (w:=w) (σ:=σ) (T:=T) r S.toList h2.1 h2.2;simpa using this⟩;simp only[Instr.build,abx,M,abd,run_underlying hu,dP D,Z,h1,abO]
 .cases h
end
end
section
def Ej(P:Program)(s:Sem Value)(w:World)(σ:bO)(H:ah)(b:Nat)(v:AV)(H':ah):Prop:=
 ∃v' w' σ',s.run P w=.ok v' w'/\bC w' σ' (aX σ' H') v v'/\bJ w' σ' H'/\fT w σ (aX σ H) w' σ' (aX σ' H')/\∀c pl,σ' c=some pl->σ c=some pl\/c=b
section
variable {P:Program} {w:World} {σ:bO} {T:Nat->Prop} {H:ah} {b:Nat}
structure Flat(w:World)(σ:bO)(T:Nat->Prop)(rows:List (List AV))(n:Nat)(l:List Value):Prop where
 len:l.length=rows.length*n
 even:∀(i:Nat) (r:List AV),rows[i]? =some r->r.length=n
 rep:∀(i:Nat) (r:List AV) (j:Nat) (a:AV) (u:Value),rows[i]? =some r->r[j]? =some a->l[i*n+j]? =some u->bC w σ T a u
theorem pY{i j m n:Nat}(u:i<m)(B:j<n):i*n+j<m*n:=by have:(i+1)*n<=m*n:=abl _ u;rw[abM]at this;omega
theorem Flat.nil(n:Nat):Flat w σ T [] n []:=⟨acQ,acQ,acQ⟩
theorem Flat.append{rows rows':List (List AV)}{n:Nat}{l N:List Value}(h:Flat w σ T rows n l)(k:Flat w σ T rows' n N):Flat w σ T (rows++rows') n (l++N):=by
 refine⟨by simp[h.len,k.len,abM],λi r B=>?_,λi r j a u B M E=>?_⟩
 .rcases LE i rows.length with D|D
  .rw[aaW D]at B;exact h.even i r B
  .rw[aaL D]at B;exact k.even _ r B
 .rcases LE i rows.length with D|D
  .rw[aaW D]at B;have O:j<n:=by rw[<-h.even i r B];exact aH M
   rw[aaW (by rw[h.len];exact pY D O)]at E;exact h.rep i r j a u B M E
  .rw[aaL D]at B;have G:l.length<=i*n+j:=by rw[h.len];exact abe (abl _ D) (abB _ _)
   rw[aaL G]at E;refine k.rep (i-rows.length) r j a u B M ?_;rw[<-E,h.len];congr 1;rw[Nat.sub_mul];have:rows.length*n<=i*n:=abl _ D;omega
theorem Flat.set{rows:List (List AV)}{n:Nat}{l:List Value}(h:Flat w σ T rows n l){i:Nat}{cs:List AV}{us:List Value}(Z:i<rows.length)(O:cs.length=n)(k:fX w σ T cs us):
  Flat w σ T (rows.set i cs) n (l.take (i*n)++us++l.drop (i*n+us.length)):=by
 have S:us.length=n:=by rw[<-k.1,O]
 have M:i*n+n<=l.length:=by rw[h.len];have:(i+1)*n<=rows.length*n:=abl _ Z;rw[abM]at this;omega
 refine⟨by simp only[aal,abm,acH,List.length_set];rw[abV acN,S,h.len];rw[h.len]at M;omega,λq r B=>?_,λq r j a u B N E=>?_⟩
 .rw[abs]at B;split at B
  .cases B;exact O
  .exact h.even q r B
 .have hj:j<r.length:=aH N;rw[abs]at B;split at B
  .rename_i e;subst e;cases B;rw[aaW acS,aaL acS]at E;simp only[abm]at E;rw[abV acN,Nat.add_sub_cancel_left]at E;exact k.2 j a u N E
  .rename_i G;have Y:=h.even q r B;have hq:q<rows.length:=aH B;refine h.rep q r j a u B N ?_;rw[<-E];rcases Nat.lt_or_gt_of_ne G with D|D
   .have:(i+1)*n<=q*n:=abl _ D;rw[abM]at this;rw[aaL acS];simp only[aal,abm,abY];rw[abV acN];congr 1;omega
   .have:(q+1)*n<=i*n:=abl _ D;rw[abM]at this;rw[abr,aaW acS,abJ acN]
theorem Flat.zeros{z:List AV}{zs:Array Value}{n:Nat}(O:fX w σ T z zs.toList)(S:z.length=n)(h0:0<n)(len k:Nat)(Z:len<=k):
  ∃l:List Value,(Array.range (k*n)).map (zs[· % zs.size]!)=l.toArray/\l.length=k*n/\Flat w σ T (List.replicate len z) n (l.take (len*n))/\(∀u∈l,∃a,bC w σ T a u/\a∈z):=by
 have N:zs.size=n:=by rw[<-Array.length_toList,<-O.1,S]
 refine⟨(List.range (k*n)).map (zs[· % zs.size]!),?_,acQ,⟨?_,?_,?_⟩,?_⟩
 .apply Array.ext';simp
 .simp only[abm,acl,List.length_range,List.length_replicate];exact abV (abl _ Z)
 .intro i r B;rw[acu]at B;split at B
  .cases B;exact S
  .cases B
 .intro i r j a u B ha D;rw[acu]at B;split at B
  .rename_i hi;cases B;have hj:j<n:=by rw[<-S];exact aH ha
   have M:=pY hi hj;have G:i*n+j<k*n:=abk M (abl _ Z);rw[abJ M,abn,acM G]at D;simp only[abp,aaS]at D;subst D;have e:(i*n+j) % zs.size=j:=by rw[N,Nat.mul_comm,Nat.mul_add_mod,Nat.mod_eq_of_lt hj]
   rw[e];refine O.2 j a _ ha ?_;rw[getElem!_pos zs j acN,abv,abu acN]
  .cases B
 .intro u D;rw[abP]at D;obtain⟨q,_,rfl⟩:=D;have Y:q % zs.size<zs.size:=Nat.mod_lt _ acN;rw[getElem!_pos zs _ Y];have E:q % zs.size<z.length:=by omega
  exact⟨z[q % zs.size],O.2 (q % zs.size) _ _ (mt E) (by rw[abv,abu Y]),LT E⟩
theorem Bk(hW:bJ w σ H)(hb:σ b=none)(M:b<H.next){x:Blk}{cs:Array Value}{e:TypeId}{s:Sem Value}{v:AV}{v':Value}{l:List Value}(N:l=cs.toList.take (x.rows.length*x.size))
  (E:Flat w σ (aX σ H) x.rows x.size l) (hs:s.run P w=.ok v' (World.push w (.cells cs e (0,0))))
  (Y:bC (World.push w (.cells cs e (0,0))) (σ.set b ⟨w.heap.size,0,x.size⟩) (aX (σ.set b ⟨w.heap.size,0,x.size⟩) (H.new b x)) v v'):Ej P s w σ H b v (H.new b x):=by
 have B:=E.len;rw[N]at B;simp only[abm,abo]at B;obtain⟨h1,h2⟩:=hW.new hb M (x:=x) (cs:=cs) (e:=e) E.even acN (λi r j a u G S Z=>E.rep i r j a u G S (by
  have hj:j<x.size:=by rw[<-E.even i r G];exact aH S
  rw[N,abJ (pY (aH G) hj),abv];exact Z))
 refine⟨v',_,_,hs,Y,h1,h2,λc pl O=>?_⟩;by_cases D:b=c
 .exact .inr D.symm
 .rw[bO.set_ne _ _ D]at O;exact .inl O
theorem Flat.one{cs:List AV}{vs:List Value}(h:fX w σ T cs vs):Flat w σ T [cs] cs.length vs:=by
 refine⟨by simp[h.1],λi r B=>?_,λi r j a u B E D=>?_⟩
 .match i with
  |0=>cases B;rfl
  |i+1=>simp at B
 .match i with
  |0=>cases B;exact h.2 j a u E (by simpa using D)
  |i+1=>simp at B
theorem I6(G:bJ w σ H)(E:σ b=none)(j:b<H.next){t:TypeId}{x:AV}{x':Value}{cs:List AV}(B:bC w σ (aX σ H) x x')(D:x.cells? =some cs):
  Ej P (Instr.box t x') w σ H b (.ptr b 0 0) (H.new b ⟨cs.length,[cs]⟩):=by
 have u:=B.cells D;refine Bk G E j (cs:=x'.cells) (e:=t) (v':=.pointer (some ⟨w.heap.size,0,none⟩)) (l:=x'.cells.toList) ?_ (Flat.one u) rfl ?_
 .have:=u.1;simp only[ach,Nat.one_mul];rw[aaT acN]
 .have:=bC.ptr (w:=World.push w (.cells x'.cells t (0,0))) (T:=aX (σ.set b ⟨w.heap.size,0,cs.length⟩) (H.new b ⟨cs.length,[cs]⟩)) b 0 0 _ (bO.set_eq σ b ⟨w.heap.size,0,cs.length⟩) (.inl rfl);simpa using this
theorem LH(N:bJ w σ H)(M:σ b=none)(D:b<H.next){t:TypeId}{cs:List AV}(j:(fB P t).bind AV.cells? =some cs):
  Ej P (Instr.alloc t true (.tuple #[])) w σ H b (.ptr b 0 0) (H.new b ⟨cs.length,[cs]⟩):=by
 cases B:fB P t with
 |none=>rw[B]at j;cases j
 |some z=>rw[B]at j;obtain⟨z',Z,Y⟩:=ga (P:=P) (w:=w) (σ:=σ) (T:=aX σ H) B;obtain⟨G,E,u,S,O⟩:=I6 (P:=P) (t:=t) N M D Y j;refine⟨G,E,u,?_,O⟩;rw[<-S];simp only[Instr.alloc,abx,Z,abd];rfl
theorem iT{α:Type}(l us:List α)(K p:Nat)(h:K+us.length<=l.length):
  (l.take K++us++l.drop (K+us.length))[p]? =if p<K then l[p]? else if p<K+us.length then us[p-K]? else l[p]? :=by
 rcases LE p K with j|j
 .rw[if_pos j,abr,aaW acS,abJ j]
 .rw[if_neg acN];rcases LE p (K+us.length)with u|u
  .rw[if_pos u,aaW acS,aaL acS];simp only[abm];rw[abV acN]
  .rw[if_neg acN,aaL acS];simp only[aal,abm,abY];rw[abV acN];congr 1;omega
theorem LI(hW:bJ w σ H){t:TypeId}{a x:AV}{a' x':Value}{H':ah}(ha:bC w σ (aX σ H) a a')(hx:bC w σ (aX σ H) x x')(h:iy P H t a x=some H'):
  ∃w',(Instr.storeAt t a' x').run P w=.ok () w'/\bJ w' σ H'/\fT w σ (aX σ H) w' σ (aX σ H'):=by
 unfold iy at h;split at h
 .rename_i c i D cs n hcs hn;split at h
  .rename_i y hy;split at h
   .rename_i r hr;split at h
    .rename_i hl;obtain⟨hl1,hl2,hl3⟩:=hl;cases h;cases ha with
     |ptr _ _ _ N hs hp=>
     obtain⟨pl',ds,e,g1,E⟩:=hW.live c y hy;rw[hs]at g1;cases g1;replace E:=E.1 hp;have B:=hx.cells hcs;have hone:=B.one hl2;have hi:=aH hr;have hrl:=E.even i r hr;have Y:=E.room;have hm:(i+1)*y.size<=y.rows.length*y.size:=abl _ hi;rw[abM]at hm;have hst:=run_storeCells_at (P:=P) N.block (N.base+i*N.size+D) e x'.cells.toList 0 ds w E.block (by rw[<-B.1,E.size];omega) hone;simp only[acz]at hst;have hw:mJ w (w.setRow N.block (ds.toList.take (N.base+i*N.size+D)++x'.cells.toList++ds.toList.drop (N.base+i*N.size+D+x'.cells.toList.length)).toArray) N.block ds _ e:=
      ⟨rfl,rfl,rfl,acQ,E.block,setRow_heap w _ _ _ _ _ E.block,by
       have:=B.1;have S:=E.size;simp only[List.size_toArray,aal,abm,acH,abo];rw[S,abV acN];rw[<-Array.length_toList (xs:=x'.cells)];omega,λd hd=>setRow_other w _ d _ hd⟩
     have hput:=hW.put hy hs hw (x':={y with rows:=y.rows.set i (aR r D cs)}) E.size.symm ?_ ?_ ?_
     .refine⟨_,?_,hput⟩;have:x'.cells.size=n:=by rw[<-Array.length_toList,<-B.1,hl1]
      simp only[Instr.storeAt,Instr.sureAddr,storeVar,abx,abO,abd,dP hn,Sem.run_ite,this,ne_eq,not_true_eq_false,if_false,hst]
     .intro q s O;rw[abs]at O;split at O
      .cases O;simp[aR];omega
      .exact E.even q s O
     .simpa using Y
     .intro q s j a u O M G;have S:=E.size;have hul:x'.cells.toList.length=cs.length:=B.1.symm;have hdl:ds.toList.length=ds.size:=abo;rw[List.getElem?_toArray,iT ds.toList x'.cells.toList (N.base+i*N.size+D) _ (by rw[hul,S];omega),hul,S]at G;simp only[]at G;rw[abs]at O;split at O
      .rename_i Z;subst Z;cases O;have hjr:=aH M;have hjl:j<r.length:=by simp[aR]at hjr;omega
       unfold aR at M;rw[iT _ _ _ _ acN]at M;by_cases h1:j<D
       .rw[if_pos h1]at M;rw[if_pos acN,abv]at G;exact E.rep i r j a u hr M G
       .rw[if_neg h1]at M;by_cases h2:j<D+cs.length
        .rw[if_pos h2]at M;rw[if_neg acN,if_pos acN]at G;refine B.2 (j-D) a u M ?_;rw[<-G];congr 1;omega
        .rw[if_neg h2]at M;rw[if_neg acN,if_neg acN,abv]at G;exact E.rep i r j a u hr M G
      .rename_i Z;have hjs:j<y.size:=by rw[<-E.even q s O];exact aH M
       refine E.rep q s j a u O M ?_;rcases Nat.lt_or_gt_of_ne Z with hlt|hlt
       .have:(i+1)*y.size<=q*y.size:=abl _ hlt;rw[abM]at this;rw[if_neg acN,if_neg acN,abv]at G;exact G
       .have:(q+1)*y.size<=i*y.size:=abl _ hlt;rw[abM]at this;rw[if_pos acN,abv]at G;exact G
    .cases h
   .cases h
  .cases h
 .cases h
end
end
end Go.Proofs.YtfckbjehkbhkgaaGreat.Am
section
namespace Go.Proofs
open Go.Shelf
def Tryz.lays189_ren:Go.Shelf.Ren:=⟨fun|189=>79|125=>108|257=>107|128=>141|129=>142|294=>132|295=>133|296=>134|297=>135|298=>136|299=>137|216=>138|300=>139|301=>140|328=>162|329=>163|330=>164|331=>165|332=>166|215=>167|343=>192|n=>n,fun|28=>26|3=>3|46=>177|0=>0|51=>232|53=>234|4=>4|183=>225|182=>224|131=>229|5=>5|9=>9|218=>258|222=>262|228=>281|229=>282|n=>n,fun|n=>n⟩
def Tryz.lays189:Go.Proofs.Lays.n189 Tryz.prog Tryz.lays189_ren:={
 mixed:=by kernel_rfl
 f125:=Tryz.func108.trans (congrArg some (by kernel_rfl))
 f128:=Tryz.func141.trans (congrArg some (by kernel_rfl))
 f129:=Tryz.func142.trans (congrArg some (by kernel_rfl))
 f189:=Tryz.func79.trans (congrArg some (by kernel_rfl))
 f215:=Tryz.func167.trans (congrArg some (by kernel_rfl))
 f216:=Tryz.func138.trans (congrArg some (by kernel_rfl))
 f257:=Tryz.func107.trans (congrArg some (by kernel_rfl))
 f294:=Tryz.func132.trans (congrArg some (by kernel_rfl))
 f295:=Tryz.func133.trans (congrArg some (by kernel_rfl))
 f296:=Tryz.func134.trans (congrArg some (by kernel_rfl))
 f297:=Tryz.func135.trans (congrArg some (by kernel_rfl))
 f298:=Tryz.func136.trans (congrArg some (by kernel_rfl))
 f299:=Tryz.func137.trans (congrArg some (by kernel_rfl))
 f300:=Tryz.func139.trans (congrArg some (by kernel_rfl))
 f301:=Tryz.func140.trans (congrArg some (by kernel_rfl))
 f328:=Tryz.func162.trans (congrArg some (by kernel_rfl))
 f329:=Tryz.func163.trans (congrArg some (by kernel_rfl))
 f330:=Tryz.func164.trans (congrArg some (by kernel_rfl))
 f331:=Tryz.func165.trans (congrArg some (by kernel_rfl))
 f332:=Tryz.func166.trans (congrArg some (by kernel_rfl))
 f343:=Tryz.func192.trans (congrArg some (by kernel_rfl))
 t0:=Tryz.underlying0
 a0:=Tryz.isAgg0
 z0:=Tryz.sizeOf0
 v0:=Tryz.zeroValue0
 t3:=Tryz.underlying3
 a3:=Tryz.isAgg3
 z3:=Tryz.sizeOf3
 v3:=Tryz.zeroValue3
 t4:=Tryz.underlying4
 a4:=Tryz.isAgg4
 z4:=Tryz.sizeOf4
 v4:=Tryz.zeroValue4
 t5:=Tryz.underlying5
 a5:=Tryz.isAgg5
 z5:=Tryz.sizeOf5
 v5:=Tryz.zeroValue5
 t9:=Tryz.underlying9
 a9:=Tryz.isAgg9
 z9:=Tryz.sizeOf9
 v9:=Tryz.zeroValue9
 t28:=Tryz.underlying26
 a28:=Tryz.isAgg26
 z28:=Tryz.sizeOf26
 v28:=Tryz.zeroValue26
 t46:=Tryz.underlying177
 a46:=Tryz.isAgg177
 z46:=Tryz.sizeOf177
 v46:=Tryz.zeroValue177
 t51:=Tryz.underlying232
 a51:=Tryz.isAgg232
 z51:=Tryz.sizeOf232
 v51:=Tryz.zeroValue232
 t53:=Tryz.underlying234
 a53:=Tryz.isAgg234
 z53:=Tryz.sizeOf234
 v53:=Tryz.zeroValue234
 t131:=Tryz.underlying229
 a131:=Tryz.isAgg229
 z131:=Tryz.sizeOf229
 v131:=Tryz.zeroValue229
 t182:=Tryz.underlying224
 a182:=Tryz.isAgg224
 z182:=Tryz.sizeOf224
 v182:=Tryz.zeroValue224
 t183:=Tryz.underlying225
 a183:=Tryz.isAgg225
 z183:=Tryz.sizeOf225
 v183:=Tryz.zeroValue225
 t218:=Tryz.underlying258
 a218:=Tryz.isAgg258
 z218:=Tryz.sizeOf258
 v218:=Tryz.zeroValue258
 t222:=Tryz.underlying262
 a222:=Tryz.isAgg262
 z222:=Tryz.sizeOf262
 v222:=Tryz.zeroValue262
 t228:=Tryz.underlying281
 a228:=Tryz.isAgg281
 z228:=Tryz.sizeOf281
 v228:=Tryz.zeroValue281
 t229:=Tryz.underlying282
 a229:=Tryz.isAgg282
 z229:=Tryz.sizeOf282
 v229:=Tryz.zeroValue282}
open Go.Sort Go.RowKit in
def Tryz.slices_Sort_int(j u D:Nat)(zs:List Int)(w:World)(M:Holds (Value.int .i64) w j u zs.toArray)(B:j<w.heap.size)(E:zs.length<4611686018427387904):
  Calls Tryz.prog 79 #[.slice (some ⟨j,u,none⟩) zs.length D] w λe w'=>
   e=.returned (.tuple #[])/\∃n G,w'=grow (putRow (Value.int .i64) (Sort.ahead w n) j u (zs.mergeSort λx y=>decide (x<=y)).toArray) G:=Any.slices_Sort_int Tryz.lays189 j u D zs w M B E
def Tryz.laysNm220_ren:Go.Shelf.Ren:=⟨fun|20=>80|n=>n,fun|22=>26|3=>3|4=>4|0=>0|n=>n,fun|n=>n⟩
def Tryz.laysNm220:Go.Proofs.Lays2.n20 Tryz.prog Tryz.laysNm220_ren:={
 mixed:=by kernel_rfl
 f20:=Tryz.func80.trans (congrArg some (by kernel_rfl))
 t0:=Tryz.underlying0
 a0:=Tryz.isAgg0
 z0:=Tryz.sizeOf0
 v0:=Tryz.zeroValue0
 t3:=Tryz.underlying3
 a3:=Tryz.isAgg3
 z3:=Tryz.sizeOf3
 v3:=Tryz.zeroValue3
 t4:=Tryz.underlying4
 a4:=Tryz.isAgg4
 z4:=Tryz.sizeOf4
 v4:=Tryz.zeroValue4
 t22:=Tryz.underlying26
 a22:=Tryz.isAgg26
 z22:=Tryz.sizeOf26
 v22:=Tryz.zeroValue26
 i3:=by kernel_rfl}
open Go.RowKit Go.Lib Go.Sort in
def Tryz.slices_Compact_int(u j B:Nat)(zs:List Int)(w:World)(G:Holds (Value.int .i64) w u j zs.toArray)(E:zs.length<=9223372036854775807)(D:zs.length<=B):
  Calls Tryz.prog 80 #[.slice (some ⟨u,j,none⟩) zs.length B] w λe w'=>e=.returned (.slice (some ⟨u,j,none⟩) (Lib.compact zs).length B)/\∃q,w'=putRow (Value.int .i64) (Sort.ahead w q) u j (Lib.compact zs++List.replicate (zs.length-(Lib.compact zs).length) 0).toArray:=Any.slices_Compact_int Tryz.laysNm220 u j B zs w G E D
open Go.RowKit Go.Lib Go.Sort in
def Tryz.slices_Compact_int_empty(a:Option Addr)(j:Nat)(w:World):
  Calls Tryz.prog 80 #[.slice a 0 j] w λe w'=>e=.returned (.slice a 0 j)/\w'=w:=Any.slices_Compact_int_empty Tryz.laysNm220 a j w
open Go.RowKit Go.Sort in
def Tryz.slices_Sort_int_none(p:Option Addr)(j:Nat)(w:World):
  Calls Tryz.prog 79 #[.slice p 0 j] w λe w'=>e=.returned (.tuple #[])/\w'=w:=Any.slices_Sort_int_none Tryz.lays189 p j w
end Go.Proofs
end
