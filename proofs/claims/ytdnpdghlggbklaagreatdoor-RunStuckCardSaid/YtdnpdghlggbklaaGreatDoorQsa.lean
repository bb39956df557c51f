/- A part of the proof; the statement is proved in the last part. -/
import Derived.Calls
import Derived.Orders
import Derived.Below
import Derived.Handy
import Derived.RowKit
import Derived.Laws.Cells
import Derived.Laws.CopyRow
import Derived.Laws.Entries
import Derived.Laws.StructEq
set_option linter.unusedSimpArgs false
set_option linter.unusedVariables false
namespace Go.Proofs.YtdnpdghlggbklaaGreatDoor
open Go Go.RowKit
abbrev VK:=@List.getElem?_eq_getElem
abbrev VL:=@Nat.le_refl
abbrev VM:=@List.map_cons
abbrev VN:=@List.mem_cons
abbrev VO:=@Nat.lt_or_ge
abbrev VP:=@List.getElem?_eq_none
abbrev VQ:=@List.map_append
abbrev VR:=@List.mem_singleton
abbrev VS:=@List.getElem?_append_right
abbrev VT:=@List.length_append
abbrev VU:=@Option.some.injEq
abbrev VV:=@List.take_succ_eq_append_getElem
abbrev VW:=@List.nodup_cons
abbrev VX:=@Result.andThen_ok
abbrev VY:=@List.mem_append
abbrev VZ:=@List.getElem?_map
abbrev V0:=@List.all_eq_true
abbrev V1:=@List.getElem?_append_left
abbrev V2:=@Nat.le_trans
abbrev V3:=@List.getElem_mem
abbrev V4:=@Nat.mul_le_mul_right
abbrev V5:=@Bool.and_eq_true
abbrev V6:=@Array.length_toList
abbrev V7:=@Nat.lt_of_lt_of_le
abbrev V8:=@List.length_cons
abbrev V9:=@Array.getElem?_toList
abbrev Wa:=@List.mem_append_right
abbrev Wb:=@Option.map_some
abbrev Wc:=@Array.getElem?_eq_getElem
abbrev Wd:=@Bool.false_eq_true
abbrev We:=@List.length_take
abbrev Wf:=@List.perm_append_comm
abbrev Wg:=@List.length_nil
abbrev Wh:=@Sem.run_bind
abbrev Wi:=@List.not_mem_nil
abbrev Wj:=@List.getElem?_take_of_lt
abbrev Wk:=@Nat.le_add_right
abbrev Wl:=@List.mem_map_of_mem
abbrev Wm:=@List.mem_map
abbrev Wn:=@List.getElem?_set
abbrev Wo:=@List.mem_of_getElem?
abbrev Wp:=@List.forall_mem_cons
abbrev Wq:=@List.append_assoc
abbrev Wr:=@List.append_nil
abbrev Ws:=@Nat.add_mul
abbrev Wt:=@List.getElem?_eq_some_iff
abbrev Wu:=@Sem.run_pure
abbrev Wv:=@List.map_nil
abbrev Ww:=@List.eq_nil_of_length_eq_zero
abbrev Wx:=@List.take_of_length_le
abbrev Wy:=@Option.bind_some
abbrev Wz:=@Nat.min_eq_left
abbrev WA:=@IntWalk.i64_in
abbrev WB:=@List.getElem?_drop
abbrev WC:=@Nat.add_assoc
abbrev WE:=@Nat.eq_zero_or_pos
abbrev WF:=@Nat.zero_le
abbrev WG:=@Nat.zero_add
abbrev WH:=@List.map_set
abbrev WI:=@List.mem_range
abbrev WJ:=@List.sum_cons
abbrev WL:=@List.mem_cons_of_mem
abbrev WM:=@List.mem_append_left
abbrev WN:=@List.nil_append
abbrev WO:=@List.getElem_of_mem
abbrev WP:=@Int.toNat_natCast
abbrev WS:=@List.length_eq_zero_iff
abbrev WT:=@List.nodup_nil
abbrev WU:=@List.ext_getElem?
abbrev WW:=@Nat.le_succ_of_le
abbrev WX:=@List.length_map
abbrev WY:=@Nat.eq_or_lt_of_le
abbrev WZ:=@World.ownsRow_made
abbrev W1:=@List.getElem?_replicate
abbrev W2:=@List.cons_append
abbrev W3:=@Array.getElem?_eq_some_iff
abbrev W4:=@World.ownsRow_nil
abbrev W5:=@List.mem_or_eq_of_mem_set
abbrev W6:=@List.drop_eq_getElem_cons
abbrev W7:=@List.perm_middle
abbrev W8:=@List.sum_nil
abbrev W9:=@Nat.le_succ
abbrev Xa:=@List.getElem?_cons_succ
abbrev Xb:=@Int.eq_ofNat_of_zero_le
abbrev Xc:=@List.mem_filter
abbrev Xd:=@Nat.add_zero
abbrev Xe:=@Option.map_eq_some_iff
abbrev Xf:=@List.getD_eq_getElem?_getD
abbrev Xg:=@List.length_drop
abbrev Xh:=@Option.getD_some
abbrev Xi:=@List.length_filter_le
abbrev Xj:=@List.foldl_cons
abbrev Xk:=@List.length_set
abbrev Xl:=@Bool.or_eq_true
abbrev Xm:=@Option.some.inj
abbrev Xn:=@List.nodup_append
abbrev Xo:=@List.getElem?_range
abbrev Xp:=@List.forall_mem_nil
abbrev Xq:=@List.any_eq_true
theorem Xr{P:Prop}(h:P:=by omega):P:=h
theorem Xs{P:Prop}(h:P:=by assumption):P:=h
theorem Xt{P:Prop}(h:P:=by rfl):P:=h
theorem Xu{P:Prop}(h:P:=by simp):P:=h
theorem Xv{P:Prop}(h:P:=by decide):P:=h
end Go.Proofs.YtdnpdghlggbklaaGreatDoor
namespace Go.Proofs.YtdnpdghlggbklaaGreatDoor.Am
section
inductive Tr (α:Type) where
 |leaf
 |node (v:Option α) (l r:Tr α)
namespace Tr
variable {α:Type}
def bitsF:Nat→Nat→List Bool
 |0,_=>[]
 |_+1,0=>[]
 |f+1,n+1=>((n+1) % 2==1)::bitsF f ((n+1) / 2)
def bits(n:Nat):List Bool:=bitsF n n
def getP:Tr α→List Bool→Option α
 |leaf,_=>none
 |node v _ _,[]=>v
 |node _ l r,b::p=>if b then l.getP p else r.getP p
def setP:List Bool→Option α→Tr α→Tr α
 |[],x,leaf=>node x leaf leaf
 |[],x,node _ l r=>node x l r
 |b::p,x,leaf=>if b then node none (setP p x leaf) leaf else node none leaf (setP p x leaf)
 |b::p,x,node v l r=>if b then node v (setP p x l) r else node v l (setP p x r)
theorem getP_leaf(p:List Bool):(leaf:Tr α).getP p=none:=by cases p<;>rfl
theorem getP_setP(p q:List Bool)(x:Option α)(t:Tr α):(setP p x t).getP q=if p=q then x else t.getP q:=by
 induction p generalizing q t with
 |nil=>cases t<;>cases q<;>simp[setP,getP]
 |cons b p ih=>
  cases t<;>cases q<;>cases b<;>simp[setP,getP]
  all_goals (rename_i c q;cases c<;>simp[ih,getP_leaf])
def val:List Bool→Nat
 |[]=>0
 |b::p=>(if b then 1 else 0)+2*val p
theorem val_bitsF(f n:Nat)(h:n≤f):val (bitsF f n)=n:=by
 induction f generalizing n with
 |zero=>simp[bitsF,val];omega
 |succ f ih=>
  cases n with
  |zero=>rfl
  |succ n=>simp only[bitsF,val];rw[ih ((n+1) / 2) Xr];by_cases h1:(n+1) % 2=1<;>simp[h1]<;>omega
theorem bits_inj{a b:Nat}(h:bits a=bits b):a=b:=by
 have:=congrArg val h
 rwa [bits,bits,val_bitsF _ _ (VL _),val_bitsF _ _ (VL _)]at this
def get(t:Tr α)(n:Nat):Option α:=t.getP (bits n)
def set(t:Tr α)(n:Nat)(x:Option α):Tr α:=setP (bits n) x t
theorem get_set(t:Tr α)(n m:Nat)(x:Option α):(t.set n x).get m=if n=m then x else t.get m:=by
 unfold get set;rw[getP_setP];by_cases h:n=m
 ·subst h;simp
 ·rw[if_neg h,if_neg (λe=>h (bits_inj e))]
theorem get_leaf(m:Nat):(leaf:Tr α).get m=none:=getP_leaf _
end Tr
end
section
inductive AV where
 |int (k:IntKind) (n:Int)
 |bool (b:Bool)
 |str (s:List UInt8)
 |nilp
 |ptr (b i off:Nat)
 |pptr (rows:List (List AV)) (i off:Nat)
 |nils
 |emp
 |sl (b i n:Nat)
 |lst (rows:List (List AV))
 |mp (b:Nat)
 |it (b:Nat)
 |agg (cells:List AV)
 |tup (vs:List AV)
 |fn (f:FuncId) (captured:List AV)
 |nilf
 |junk
 deriving Inhabited
def AV.cells? :AV→Option (List AV)
 |.agg cs=>some cs
 |.junk=>none
 |v=>some [v]
def AV.one:AV→Bool
 |.agg _|.tup _|.junk=>false
 |_=>true
def cg{α:Type}:List (Option α)→Option (List α)
 |[]=>some []
 |none::_=>none
 | some x::l=>match cg l with
  |some l=>some (x::l)
  |none=>none
def To:Value→Option AV
 |.int k n=>some (.int k n)
 |.bool b=>some (.bool b)
 |.string s=>some (.str s.data.toList)
 |.pointer none=>some .nilp
 |.slice none 0 0=>some .nils
 |.nilFunc=>some .nilf
 |_=>none
def MX:Value→Option AV
 |.agg cs=>(cg (cs.toList.map To)).map .agg
 |v=>To v
structure Blk where
 size:Nat
 rows:List (List AV)
 deriving Inhabited
structure ac where
 next:Nat
 tr:Tr Blk
 log:List Nat
def ac.get(H:ac)(b:Nat):Option Blk:=H.tr.get b
def ac.new(H:ac)(b:Nat)(x:Blk):ac:={H with tr:=H.tr.set b (some x)}
def ac.put(H:ac)(b:Nat)(x:Option Blk):ac:={H with tr:=H.tr.set b x,log:=b::H.log}
inductive fD where
 |val (v:AV) (H:ac)
 |call (f:FuncId) (args:List AV)
section
variable (P:Program)
def aQ(t:TypeId):Option Nat:=(P.info? t).map (·.size)
def iZ(t:TypeId):Option Nat:=(P.info? t).map (·.bytes)
def ea(t:TypeId):Option AV:=(P.info? t).bind λi=>i.zero.bind MX
def eR(t:TypeId):Option Bool:=(P.underlying t).map fun|.struct _|.array _ _=>true|_=>false
def gW(t:TypeId)(row:List AV)(off:Nat):Option AV:=
 match eR P t,aQ P t with
 |some true,some n=>if off+n≤row.length then some (.agg ((row.drop off).take n))else none
 |some false,some _=>row[off]?
 |_,_=>none
def bA(row:List AV)(off:Nat)(cs:List AV):List AV:=row.take off++cs++row.drop (off+cs.length)
def m5(H:ac)(t:TypeId):AV→Option AV
 |.ptr b i off=>(H.get b).bind λx=>(x.rows[i]?).bind λr=>gW P t r off
 |.pptr rows i off=>(rows[i]?).bind λr=>gW P t r off
 |_=>none
def fN(H:ac)(t:TypeId)(a v:AV):Option ac:=
 match a,v.cells?,aQ P t with
 |.ptr b i off,some cs,some n=>
  match H.get b with
  | some x=>match x.rows[i]? with
   |some r=>if cs.length=n∧cs.all AV.one∧off+n≤r.length then some (H.put b (some {x with rows:=x.rows.set i (bA r off cs)}))else none
   |none=>none
  |none=>none
 |_,_,_=>none
def vL(place:Nat→Option (Nat×Nat))(cells:List AV):List (Nat×AV)→Option (List AV)
 |[]=>some cells
 |(i,v)::rest=>
  match place i,v.cells? with
  |some (off,size),some cs=>if cs.length=size∧off+size≤cells.length∧cs.all AV.one then vL place (bA cells off cs) rest else none
  |_,_=>none
def dQ(size:Nat)(rows:List (List AV)):List (Nat×AV)→Option (List (List AV))
 |[]=>some rows
 |(i,v)::rest=>
  match v.cells? with
  |some cs=>if cs.length=size∧i<rows.length∧cs.all AV.one then dQ size (rows.set i cs) rest else none
  |none=>none
def mn(fs:Array Field)(i:Nat):Option (Nat×Nat):=(fs[i]?).bind λf=>(aQ P f.type).map λn=>(f.offset,n)
def CM(t:TypeId)(parts:List (Nat×AV)):Option AV:=
 match P.underlying t,ea P t with
 |some (.struct fs),some (.agg z)=>if(fs.toList.all λf=>(aQ P f.type).isSome)=true then(vL (mn P fs) z parts).map .agg else none
 |some (.array _ e),some (.agg z)=>(aQ P e).bind λn=>(vL (λi=>some (i*n,n)) z parts).map .agg
 |_,_=>none
def JF:AV→Option Nat
 |.nils=>some 0
 |.emp=>some 0
 |.lst rows=>some rows.length
 |.sl _ _ n=>some n
 |_=>none
def vM:List UInt8→List UInt8→Bool
 |_,[]=>false
 |[],_::_=>true
 |a::x,b::y=>a<b||(a==b&&vM x y)
def AZ(t:TypeId)(x y:AV):Option Bool:=
 match P.underlying t,x,y with
 |some (.int _),.int k a,.int k' b=>if k=k' then some (a==b)else none
 |some .bool,.bool a,.bool b=>some (a==b)
 |some .string,.str a,.str b=>some (a==b)
 |some (.pointer _),.nilp,.nilp=>some true
 |some (.pointer _),.nilp,.ptr ..|some (.pointer _),.ptr ..,.nilp|some (.pointer _),.nilp,.pptr ..|some (.pointer _),.pptr ..,.nilp=>some false
 |some (.slice _),.nils,.nils=>some true
 |some (.slice _),.nils,.sl ..|some (.slice _),.sl ..,.nils|some (.slice _),.nils,.lst (_::_)|some (.slice _),.lst (_::_),.nils=>some false
 |_,_,_=>none
def Gp:List TypeId→List AV→List AV→Option Bool
 |[],[],[]=>some true
 | t::ts,a::l,b::m=>match AZ P t a b with
  |some true=>Gp ts l m
  |r=>r
 |_,_,_=>none
def gY(F:TypeId→Option (List TypeId))(op:BinOp)(t:TypeId)(x y:AV):Option AV:=
 match op,x,y with
 |.shl,.int k a,.int _ b=>if 0≤b then some (.int k (k.wrap (a*2^min b.toNat k.bits)))else none
 |.shr,.int k a,.int _ b=>if 0≤b then some (.int k (a.fdiv (2^min b.toNat k.bits)))else none
 |op,.int k a,.int k' b=>
  if k≠k' then none else
  match op with
  |.add=>some (.int k (k.wrap (a+b)))
  |.sub=>some (.int k (k.wrap (a-b)))
  |.mul=>some (.int k (k.wrap (a*b)))
  |.quo=>if b=0 then none else some (.int k (k.wrap (a.tdiv b)))
  |.rem=>if b=0 then none else some (.int k (a.tmod b))
  |.and=>some (.int k (k.wrap (BitVec.ofInt k.bits a &&& BitVec.ofInt k.bits b).toNat))
  |.or=>some (.int k (k.wrap (BitVec.ofInt k.bits a ||| BitVec.ofInt k.bits b).toNat))
  |.xor=>some (.int k (k.wrap (BitVec.ofInt k.bits a ^^^ BitVec.ofInt k.bits b).toNat))
  |.eql=>some (.bool (a==b))
  |.neq=>some (.bool (a != b))
  |.lss=>some (.bool (decide (a<b)))
  |.leq=>some (.bool (decide (a≤b)))
  |.gtr=>some (.bool (decide (a > b)))
  |.geq=>some (.bool (decide (a≥b)))
  |_=>none
 |op,.str a,.str b=>
  match op with
  |.eql=>some (.bool (a==b))
  |.neq=>some (.bool !(a==b))
  |.lss=>some (.bool (vM a b))
  |.add=>if a.length+b.length≤2^62 then some (.str (a++b))else none
  |_=>none
 |.eql,.agg a,.agg b=>(F t).bind λts=>(Gp P ts a b).map .bool
 |.neq,.agg a,.agg b=>(F t).bind λts=>(Gp P ts a b).map λr=>.bool !r
 |.eql,.bool a,.bool b=>(AZ P t (.bool a) (.bool b)).map .bool
 |.neq,.bool a,.bool b=>(AZ P t (.bool a) (.bool b)).map λr=>.bool !r
 |.eql,.nilp,y=>(AZ P t .nilp y).map .bool
 |.neq,.nilp,y=>(AZ P t .nilp y).map λr=>.bool !r
 |.eql,x,.nilp=>(AZ P t x .nilp).map .bool
 |.neq,x,.nilp=>(AZ P t x .nilp).map λr=>.bool !r
 |.eql,.nils,y=>(AZ P t .nils y).map .bool
 |.neq,.nils,y=>(AZ P t .nils y).map λr=>.bool !r
 |.eql,x,.nils=>(AZ P t x .nils).map .bool
 |.neq,x,.nils=>(AZ P t x .nils).map λr=>.bool !r
 |_,_,_=>none
def Vb(op:UnOp)(x:AV):Option AV:=
 match op,x with
 |.neg,.int k n=>some (.int k (k.wrap (0-n)))
 |.not,.bool b=>some (.bool !b)
 |_,_=>none
def HH(src dst:TypeId)(x:AV):Option AV:=
 match P.underlying src,P.underlying dst,x with
 |some (.int _),some (.int k),.int _ n=>some (.int k (k.wrap n))
 |some .string,some .string,.str s=>some (.str s)
 |_,_,_=>none
def fq(H:ac)(n:Nat):AV→Option (List (List AV))
 |.nils=>some []
 |.emp=>some []
 | .lst rows=>match rows with
  |[]=>some []
  |r::l=>if r.length=n then some (r::l)else none
 | .sl b i k=>match H.get b with
  |some x=>if x.size=n∧i+k≤x.rows.length then some ((x.rows.drop i).take k)else none
  |none=>none
 |_=>none
def mo(H:ac):AV→Option Nat
 |.sl b _ _=>(H.get b).map (·.size)
 |_=>none
def dI(sz:Option Nat)(t:TypeId)(x ix:AV):Option AV:=
 match ix with
 |.int _ i=>
  if i<0 then none else
  match P.underlying t,x with
  |some (.slice e),.sl b j n=>if i.toNat<n∧sz.isSome∧aQ P e=sz then some (.ptr b (j+i.toNat) 0)else none
  | some (.slice e),.lst rows=>match rows[i.toNat]? with
   |some r=>if aQ P e=some r.length then some (.pptr rows i.toNat 0)else none
   |none=>none
  |some (.array len e),.ptr b j off=>if i.toNat<len then(aQ P e).map λn=>.ptr b j (off+i.toNat*n)else none
  |some (.array len e),.pptr rows j off=>if i.toNat<len then(aQ P e).map λn=>.pptr rows j (off+i.toNat*n)else none
  |_,_=>none
 |_=>none
def CN(t:TypeId)(x ix:AV):Option AV:=
 match P.underlying t,x,ix with
 |some .string,.str s,.int _ i=>if i<0 then none else(s[i.toNat]?).map λb=>.int .u8 b.toNat
 |some (.array len e),.agg cs,.int _ i=>if 0≤i∧i.toNat<len then(aQ P e).bind λn=>gW P e cs (i.toNat*n)else none
 |_,_,_=>none
def i9(s:TypeId)(x:AV)(f:Nat):Option AV:=
 match P.underlying s with
 | some (.struct fs)=>(fs[f]?).bind λf=>(aQ P f.type).bind λn=>if n=0 then none else
   match x with
   |.ptr b i off=>some (.ptr b i (off+f.offset))
   |.pptr rows i off=>some (.pptr rows i (off+f.offset))
   |_=>none
 |_=>none
def Gq(s:TypeId)(x:AV)(f:Nat):Option AV:=
 match P.underlying s,x with
 |some (.struct fs),.agg cs=>(fs[f]?).bind λf=>gW P f.type cs f.offset
 |_,_=>none
def m6:AV→Option Nat
 |.int _ i=>if 0≤i then some i.toNat else none
 |_=>none
def cD(x:Option AV)(d:Nat):Option Nat:=
 match x with
 |none=>some d
 |some v=>m6 v
def kI(sz:Option Nat)(t:TypeId)(x:AV)(lo hi mx:Option AV):Option AV:=
 match P.underlying t,JF x with
 |some (.slice e),some n=>
  match cD lo 0,cD hi n,cD mx n with
  | some l,some h,some m=>if(l≤h∧h≤m∧m≤n)∧(aQ P e).isSome=true then
    (match x with
     |.nils=>some .nils
     |.sl b i _=>if sz.isSome∧aQ P e=sz then some (.sl b (i+l) (h-l))else none
     | .lst rows=>if mx.isSome=true∧m=l then some .emp else match rows with
      |[]=>some (.lst [])
      |r::rs=>if aQ P e=some r.length then some (.lst (((r::rs).drop l).take (h-l)))else none
     |_=>none)else none
  |_,_,_=>none
 |some .string,_=>
  match x,mx with
  | .str s,none=>match cD lo 0,cD hi s.length with
   |some l,some h=>if l≤h∧h≤s.length then some (.str ((s.drop l).take (h-l)))else none
   |_,_=>none
  |_,_=>none
 |_,_=>none
def cO(H:ac)(b:Nat)(t:TypeId)(s x:AV):Option (AV×ac):=
 match P.underlying t with
 |some (.slice e)=>
  match aQ P e,iZ P e,(ea P e).bind AV.cells? with
  | some n,some by_,some z=>match fq H n s,fq H n x with
   | some l,some m=>if 2*(l.length+m.length)*by_≤2^48∧2*(l.length+m.length)≤2^62∧0<n∧z.length=n∧(m.all λr=>r.all AV.one)=true then
    match s with
    |.nils=>if m.length=0 then some (.nils,H)else some (.sl b 0 m.length,H.new b ⟨n,m⟩)
    |.emp=>if m.length=0 then some (.emp,H)else some (.sl b 0 m.length,H.new b ⟨n,m⟩)
    |.sl b' _ _=>some (.sl b 0 (l.length+m.length),(H.put b' none).new b ⟨n,l++m⟩)
    |_=>none
    else none
   |_,_=>none
  |_,_,_=>none
 |_=>none
def eT(H:ac)(t:TypeId)(x:AV):Option ac:=
 match P.underlying t with
 |some (.slice e)=>
  match aQ P e,(ea P e).bind AV.cells? with
  | some n,some z=>match x with
   |.nils=>some H
   | .sl c i k=>match H.get c with
    |some y=>if(y.size=n∧z.length=n)∧(0<n∧i+k≤y.rows.length)∧z.all AV.one=true then some (H.put c (some {y with rows:=y.rows.take i++List.replicate k z++y.rows.drop (i+k)}))else none
    |none=>none
   |_=>none
  |_,_=>none
 |_=>none
def aS(H:ac)(b:Nat)(op:Builtin)(types:Array TypeId)(args:List AV):Option (AV×ac):=
 match op,args with
 | .len,[.str s]=>match (types[0]?).bind P.underlying with
  |some .string=>some (.int .i64 s.length,H)
  |_=>none
 | .len,[x]=>match (types[0]?).bind P.underlying with
  |some (.slice _)=>(JF x).map λ(n:Nat)=>(.int .i64 (n:Int),H)
  |some (.array n _)=>some (.int .i64 n,H)
  |_=>none
 | .append,[s,x]=>match types.toList with
  | [t,tx]=>match P.underlying tx with
   |some (.slice _)=>cO P H b t s x
   |_=>none
  |_=>none
 |.min,[.int k a,.int k' c]=>if k=k' then some (.int k (if c<a then c else a),H)else none
 |.max,[.int k a,.int k' c]=>if k=k' then some (.int k (if c > a then c else a),H)else none
 | .clear,[x]=>match types.toList with
  |[t]=>(eT P H t x).map λH'=>(.tup [],H')
  |_=>none
 |_,_=>none
def vN:List AV→Bool
 |[.str _,_]=>true
 |_=>false
def gv(k:List UInt8):List (List AV)→Nat→Option (Nat×AV)
 |[],_=>none
 | r::l,i=>match r with
  |[.str k',v]=>if k==k' then some (i,v)else gv k l (i+1)
  |_=>gv k l (i+1)
def AV.konst:AV→Bool
 |.int ..|.bool _|.str _=>true
 |_=>false
def j0(H:ac)(t:TypeId)(m k:AV)(ok:Bool):Option AV:=
 match P.underlying t,m,k with
 | some (.map kt et),.mp b,.str s=>match P.underlying kt,ea P et,H.get b with
  | some .string,some z,some x=>if x.rows.all vN=true then some (match gv s x.rows 0 with
   |some (_,v)=>if ok then .tup [v,.bool true]else v
   |none=>if ok then .tup [z,.bool false]else z)else none
  |_,_,_=>none
 |_,_,_=>none
def eJ(H:ac)(t:TypeId)(m k v:AV):Option ac:=
 match P.underlying t,m,k with
 | some (.map kt _),.mp b,.str s=>match P.underlying kt,H.get b with
  | some .string,some x=>if x.rows.all vN=true∧v.konst=true then some (H.put b (some {x with rows:=match gv s x.rows 0 with
   |some (i,_)=>x.rows.set i [.str s,v]
   |none=>x.rows++[[.str s,v]]}))else none
  |_,_=>none
 |_,_,_=>none
def iz(H:ac)(it:AV):Option (AV×ac):=
 match it with
 | .it b=>match H.get b with
  | some x=>match x.rows with
   | [[.str s,.int _ pos]]=>if pos<s.length then
     some (.tup [.bool true,.int .i64 pos,.int .i32 (Utf8.decode ⟨s.toArray⟩ pos.toNat).1],H.put b (some {x with rows:=[[.str s,.int .i64 ((pos.toNat+(Utf8.decode ⟨s.toArray⟩ pos.toNat).2:Nat):Int)]]}))
    else some (.tup [.bool false],H)
   |_=>none
  |none=>none
 |_=>none
def aK(F:TypeId→Option (List TypeId))(o:Op)(ρ:Operand→AV)(b:Nat)(H:ac):Option fD:=
 let v (r:Option AV):Option fD:=r.map λx=>.val x H
 match o with
 |.move x|.assign x=>some (.val (ρ x) H)
 | .pick c x y=>match ρ c with
  |.bool t=>some (.val (if t then ρ x else ρ y) H)
  |_=>none
 | .alloc t=>match (ea P t).bind AV.cells? with
  |some cs=>some (.val (.ptr b 0 0) (H.new b ⟨cs.length,[cs]⟩))
  |none=>none
 | .box _ x=>match (ρ x).cells? with
  |some cs=>if cs.all AV.one then some (.val (.ptr b 0 0) (H.new b ⟨cs.length,[cs]⟩))else none
  |none=>none
 |.build t parts=>v (CM P t (parts.toList.map λp=>(p.1,ρ p.2)))
 | .buildSlice t len parts=>match P.underlying t with
  | some (.slice e)=>match aQ P e,(ea P e).bind AV.cells? with
   | some n,some z=>if z.length=n∧0<n∧len*n≤2^24 then
     (dQ n (List.replicate len z) (parts.toList.map λp=>(p.1,ρ p.2))).map λrows=>.val (.sl b 0 len) (H.new b ⟨n,rows⟩)
    else none
   |_,_=>none
  |_=>none
 |.load t a=>v (m5 P H t (ρ a))
 |.store t a x=>(fN P H t (ρ a) (ρ x)).map λH=>.val (.tup []) H
 | .nilCheck x=>match ρ x with
  |.ptr b i off=>some (.val (.ptr b i off) H)
  |.pptr rows i off=>some (.val (.pptr rows i off) H)
  |.fn f cs=>some (.val (.fn f cs) H)
  |_=>none
 |.binOp op t x y _=>v (gY P F op t (ρ x) (ρ y))
 |.unOp op _ x=>v (Vb op (ρ x))
 |.convert s d x=>v (HH P s d (ρ x))
 |.makeFunc (.func f) first cap=>if first.size=0 then some (.val (.fn f (cap.toList.map ρ)) H)else none
 | .makeSlice t l c=>match P.underlying t with
  | some (.slice e)=>match aQ P e,iZ P e,(ea P e).bind AV.cells?,m6 (ρ l),m6 (ρ c)with
   | some n,some by_,some z,some l,some c=>if z.length=n∧0<n∧l≤c∧c≤2^62∧c*by_≤2^48 then
     some (.val (.sl b 0 l) (H.new b ⟨n,List.replicate l z⟩))else none
   |_,_,_,_,_=>none
  |_=>none
 |.slice t x lo hi mx=>if hi.isNone&&mx.isSome then none else v (kI P (mo H (ρ x)) t (ρ x) (lo.map ρ) (hi.map ρ) (mx.map ρ))
 |.fieldAddr s x f=>v (i9 P s (ρ x) f)
 |.field s x f=>v (Gq P s (ρ x) f)
 |.indexAddr t x ix=>v (dI P (mo H (ρ x)) t (ρ x) (ρ ix))
 |.index t x ix=>v (CN P t (ρ x) (ρ ix))
 | .extract x i=>match ρ x with
  |.tup vs=>v (vs[i]?)
  |_=>none
 |.makeMap _ none=>some (.val (.mp b) (H.new b ⟨0,[]⟩))
 |.lookup t m k ok=>v (j0 P H t (ρ m) (ρ k) ok)
 |.mapUpdate t m k x=>(eJ P H t (ρ m) (ρ k) (ρ x)).map λH=>.val (.tup []) H
 | .range t x=>match P.underlying t,ρ x with
  |some .string,.str s=>some (.val (.it b) (H.new b ⟨0,[[.str s,.int .i64 0]]⟩))
  |_,_=>none
 |.next it true=>(iz H (ρ it)).map λr=>.val r.1 r.2
 | .call c=>match c.callee with
  |.builtin bi=>(aS P H b bi c.argTypes (c.args.toList.map ρ)).map λr=>.val r.1 r.2
  | .value f=>match ρ f with
   |.fn g cs=>some (.call g (c.args.toList.map ρ++cs))
   |_=>none
  |_=>none
 |_=>none
end
end
def ja:List Int:=[0,0,0,0,0,0,3,3,4,4,5,6,7,8,9,10,11,12,13,14,15,16,18,19,20,21,22,23,2]
def Rn:List (List UInt8):=[[118,97,114],[118,111,108,97,116,105,108,101],[109,117,116,101,120],[114,119,108,111,99,107],[99,111,110,100],[102,117,116,117,114,101],[116,104,114,101,97,100],[105,102],[101,108,115,101],[119,104,105,108,101],[108,111,99,107],[114,101,97,100],[119,114,105,116,101],[116,114,97,110,115,97,99,116,105,111,110],[97,116,111,109,105,99],[119,97,105,116],[110,111,116,105,102,121],[110,111,116,105,102,121,97,108,108],[115,112,97,119,110],[106,111,105,110],[115,101,116],[103,101,116]]
def Vc(g:Nat):Option (List AV):=
 if g=0 then some (ja.map λn=>.int .i64 n)else
 if g=1 then some (Rn.map .str)else
 none
def Pm(g:Nat):AV:=
 match Vc g with
 |some r=>.pptr [r] 0 0
 |none=>.junk
section
inductive Ex where
 |normal
 |exit (id:Nat)
 |ret
def bB:AV:=.tup []
def jT(τ:List AV):Operand→AV
 |.tmp t=>τ.getD t bB
 |.const v=>(MX v).getD .junk
 |.global g=>Pm g
 |.func f=>.fn f []
def fL(τ:List AV)(dst:Option Tmp)(v:AV):List AV:=
 match dst with
 |some d=>τ.set d v
 |none=>τ
def dt(ops:Array Oper)(o:Oper)(τ:List AV):Option Bool:=
 match o.guard with
 |none=>some true
 | some (j,want)=>match (ops[j]?).bind (·.dst)with
  | some d=>match τ[d]? with
   |some (.bool b)=>some (b==want)
   |some (.tup [])=>some false
   |_=>none
  |none=>none
section
variable (P:Program) (F:TypeId→Option (List TypeId)) (call:FuncId→List AV→ac→Option (AV×ac))
def j4(ops:Array Oper)(base i:Nat)(τ:List AV)(H:ac):Option (List AV×ac):=
 match ops[i]? with
 |none=>none
 | some o=>match dt ops o τ with
  | some true=>match aK P F o.op (jT τ) (base+i) H with
   |some (.val v H')=>some (fL τ o.dst v,H')
   | some (.call f args)=>match call f args H with
    |some (v,H')=>some (fL τ o.dst v,H')
    |none=>none
   |none=>none
  |some false=>some (fL τ o.dst bB,H)
  |none=>none
def mq(ops:Array Oper)(base:Nat):List Nat→List AV→ac→Option (List AV×ac)
 |[],τ,H=>some (τ,H)
 | i::l,τ,H=>match j4 P F call ops base i τ H with
  |some (τ,H)=>mq ops base l τ H
  |none=>none
def aa:AV→List Nat
 |.ptr b _ _|.sl b _ _|.mp b|.it b=>[b]
 |_=>[]
def dR:AV→List Nat
 |.sl b _ _=>[b]
 |_=>[]
def aE(o:Op)(ρ:Operand→AV):List Nat:=
 match o with
 |.load _ a=>aa (ρ a)
 |.store _ a _=>aa (ρ a)
 |.indexAddr _ x _=>dR (ρ x)
 |.slice _ x _ _ _=>dR (ρ x)
 |.lookup _ m _ _=>aa (ρ m)
 |.mapUpdate _ m _ _=>aa (ρ m)
 |.next it _=>aa (ρ it)
 | .call c=>match c.callee with
  |.builtin .append=>c.args.toList.flatMap λx=>aa (ρ x)
  |.builtin .clear=>c.args.toList.flatMap λx=>aa (ρ x)
  |_=>[]
 |_=>[]
def aC(o:Op)(ρ:Operand→AV):List Nat:=
 match o with
 |.store _ a _=>aa (ρ a)
 |.mapUpdate _ m _ _=>aa (ρ m)
 |.next it _=>aa (ρ it)
 | .call c=>match c.callee with
  |.builtin .append=>(c.args.toList.take 1).flatMap λx=>aa (ρ x)
  |.builtin .clear=>c.args.toList.flatMap λx=>aa (ρ x)
  |_=>[]
 |_=>[]
structure rU where
 op:Nat
 reads:List Nat
 writes:List Nat
 made:List Nat
 isCall:Bool
 lo:Nat
 hi:Nat
def apart(l m:List Nat):Bool:=l.all λx=>!m.contains x
def lq(x y:rU):Bool:=
 !(apart x.writes y.reads&&apart x.writes y.writes&&apart x.reads y.writes&&apart x.made y.reads&&apart x.made y.writes) ||
 (x.isCall&&(y.isCall||!y.writes.isEmpty||y.reads.any λb=>decide (x.lo≤b)&&decide (b<x.hi)))||(y.isCall&&!x.writes.isEmpty)
def bT:List Oper→List Nat→List Nat
 |[],acc=>acc
 |o::l,acc=>bT l (acc++[o.after.toList.foldl (λs e=>if Region.binds .any e then s ||| 2^e.on ||| acc.getD e.on 0 else s) 0])
def dh(base mask:Nat):Nat→ac→ac
 |0,H=>H
 |j+1,H=>dh base mask j (if mask.testBit j then H else {H with tr:=H.tr.set (base+j) none})
def iA(base mask:Nat)(H:ac):Nat→ac→ac
 |0,K=>K
 |j+1,K=>iA base mask H j (if mask.testBit j then K else {K with tr:=K.tr.set (base+j) (H.tr.get (base+j))})
def bu(ops:Array Oper)(base i mask:Nat)(τ:List AV)(H:ac):Option (List AV×ac×Option rU):=
 match ops[i]? with
 |none=>none
 | some o=>match dt ops o τ with
  | some true=>match aK P F o.op (jT τ) (base+i) H with
   |some (.val v H')=>some (fL τ o.dst v,{H' with log:=H.log},some ⟨i,aE o.op (jT τ),aC o.op (jT τ),[base+i],false,0,0⟩)
   | some (.call f args)=>match call f args {dh base mask i H with log:=[]} with
    |some (v,H')=>some (fL τ o.dst v,{iA base mask H i H' with log:=H.log},some ⟨i,[],H'.log.filter (λc=>((dh base mask i H).get c).isSome),[],true,H.next,H'.next⟩)
    |none=>none
   |none=>none
  |some false=>some (fL τ o.dst bB,H,none)
  |none=>none
def eb(ops:Array Oper)(base:Nat)(before:List Nat):List Nat→List AV→ac→List rU→Option (List AV×ac×List rU)
 |[],τ,H,rs=>some (τ,H,rs)
 | i::l,τ,H,rs=>match bu P F call ops base i (before.getD i 0) τ H with
  |some (τ,H,none)=>eb ops base before l τ H rs
  |some (τ,H,some r)=>if rs.all λx=>(before.getD i 0).testBit x.op||!lq x r then eb ops base before l τ H (r::rs)else none
  |none=>none
def du(ops:Array Oper)(draw:Bool)(τ:List AV)(H:ac):Option (List AV×ac):=
 let H':={H with next:=H.next+ops.size}
 if draw then match eb P F call ops H.next (bT ops.toList []) (List.range ops.size) τ H' []with
  |some (τ,K,rs)=>some (τ,{K with log:=rs.flatMap (·.writes)++K.log})
  |none=>none
 else mq P F call ops H.next (List.range ops.size) τ H'
def j5(τ:List AV)(H:ac):ResultVar→Option AV
 |.tmp t=>some (τ.getD t bB)
 |.cell a t=>m5 P H t (τ.getD a bB)
def lr(τ:List AV)(H:ac)(rs:List ResultVar):Option AV:=
 match cg (rs.map (j5 P τ H))with
 |some [v]=>some v
 |some vs=>some (.tup vs)
 |none=>none
def oP(ex:Code→List AV→ac→Option (Ex×List AV×ac))(g:FuncId)(args:List AV)(H:ac):Option (AV×ac):=
 match P.funcs[g]? with
 | some fn=>match fn.body with
  | some c=>match ex c (args++List.replicate (fn.ntmps-args.length) bB) {H with log:=[]} with
   |some (.exit _,_,_)=>none
   | some (_,τ,H')=>match lr P τ H' fn.results.toList with
    |some v=>some (v,{H' with log:=H'.log.filter (·<H.next)++H.log})
    |none=>none
   |none=>none
  |none=>none
 |none=>none
end
def ac.empty:ac:=⟨0,.leaf,[]⟩
end
structure cl where
 block:Nat
 base:Nat
 size:Nat
def cl.ok(pl:cl):Prop:=pl.base=0∨0<pl.size
structure bb where
 map:Nat→Option cl
 fr:Nat→Prop
instance:CoeFun bb (λ_=>Nat→Option cl):=⟨bb.map⟩
structure sD(w:World)(T:Nat→Prop)(rows:List (List AV))(b o sz:Nat):Prop where
 out:¬T b
 even:∀(i:Nat) (r:List AV),rows[i]? =some r→r.length=sz
 cell:∀i j,i<rows.length→j<sz→∃u,w.cell? ⟨b,o+i*sz+j,none⟩=some u
 pos:0<sz
 ne:0<rows.length
inductive aT (w:World) (σ:bb) (T:Nat→Prop):AV→Value→Prop where
 |int (k:IntKind) (n:Int):aT w σ T (.int k n) (.int k n)
 |bool (b:Bool):aT w σ T (.bool b) (.bool b)
 |str (s:ByteArray):aT w σ T (.str s.data.toList) (.string s)
 |nilp:aT w σ T .nilp (.pointer none)
 |ptr (b i off:Nat) (pl:cl) (h:σ b=some pl) (hp:pl.ok):aT w σ T (.ptr b i off) (.pointer (some ⟨pl.block,pl.base+i*pl.size+off,none⟩))
 | pptr (rows:List (List AV)) (i off b o sz:Nat) (hl:sD w T rows b o sz)
   (h:∀(i:Nat) (r:List AV) (j:Nat) (a:AV) (u:Value),rows[i]? =some r→r[j]? =some a→w.cell? ⟨b,o+i*sz+j,none⟩=some u→aT w σ T a u) :
   aT w σ T (.pptr rows i off) (.pointer (some ⟨b,o+i*sz+off,none⟩))
 |nils:aT w σ T .nils (.slice none 0 0)
 |emp (a:Option Addr):aT w σ T .emp (.slice a 0 0)
 | sl (b i n:Nat) (pl:cl) (a:Addr) (cap:Nat) (h:σ b=some pl) (hp:pl.ok) (hn:n≤cap) (hm:cap≤maxLen)
   (ha:0<cap→a=⟨pl.block,pl.base+i*pl.size,none⟩∧∃cs e,w.heap[pl.block]? =some (.cells cs e (0,0))∧pl.base+(i+cap)*pl.size≤cs.size) :
   aT w σ T (.sl b i n) (.slice (some a) n cap)
 |lst0 (a:Option Addr) (cap:Nat) (hm:cap≤maxLen):aT w σ T (.lst []) (.slice a 0 cap)
 | lst (rows:List (List AV)) (b o sz cap:Nat) (hl:sD w T rows b o sz) (hn:rows.length≤cap) (hm:cap≤maxLen)
   (h:∀(i:Nat) (r:List AV) (j:Nat) (a:AV) (u:Value),rows[i]? =some r→r[j]? =some a→w.cell? ⟨b,o+i*sz+j,none⟩=some u→aT w σ T a u) :
   aT w σ T (.lst rows) (.slice (some ⟨b,o,none⟩) rows.length cap)
 |mp (b:Nat) (pl:cl) (h:σ b=some pl) (hs:pl.size=0) (hb:pl.base=1):aT w σ T (.mp b) (.map (some pl.block))
 |it (b:Nat) (pl:cl) (h:σ b=some pl) (hs:pl.size=0) (hb:pl.base=2):aT w σ T (.it b) (.pointer (some ⟨pl.block,0,none⟩))
 |agg (cs:List AV) (vs:List Value) (hl:cs.length=vs.length) (h:∀(i:Nat) (a:AV) (v:Value),cs[i]? =some a→vs[i]? =some v→aT w σ T a v):aT w σ T (.agg cs) (.agg vs.toArray)
 |tup (cs:List AV) (vs:List Value) (hl:cs.length=vs.length) (h:∀(i:Nat) (a:AV) (v:Value),cs[i]? =some a→vs[i]? =some v→aT w σ T a v):aT w σ T (.tup cs) (.tuple vs.toArray)
 |fn (f:FuncId) (cs:List AV) (vs:List Value) (hl:cs.length=vs.length) (h:∀(i:Nat) (a:AV) (v:Value),cs[i]? =some a→vs[i]? =some v→aT w σ T a v):aT w σ T (.fn f cs) (.func (.func f) #[] vs.toArray)
 |nilf:aT w σ T .nilf .nilFunc
 |junk (v:Value):aT w σ T .junk v
def eh(w:World)(σ:bb)(T:Nat→Prop)(cs:List AV)(vs:List Value):Prop:=
 cs.length=vs.length∧∀(i:Nat) (a:AV) (v:Value),cs[i]? =some a→vs[i]? =some v→aT w σ T a v
def E9(σ:bb)(H:ac)(c:Nat):Prop:=∃b x pl,H.get b=some x∧σ b=some pl∧pl.block=c
def aH(σ:bb)(H:ac)(c:Nat):Prop:=σ.fr c∨E9 σ H c
structure yZ(w:World)(σ:bb)(T:Nat→Prop)(x:Blk)(pl:cl)(cs:Array Value)(e:TypeId):Prop where
 size:pl.size=x.size
 block:w.heap[pl.block]? =some (.cells cs e (0,0))
 even:∀(i:Nat) (r:List AV),x.rows[i]? =some r→r.length=x.size
 room:pl.base+x.rows.length*x.size≤cs.size
 rep:∀(i:Nat) (r:List AV) (j:Nat) (a:AV) (u:Value),x.rows[i]? =some r→r[j]? =some a→cs[pl.base+i*x.size+j]? =some u→aT w σ T a u
def HI:Value→Option AV
 |.int k n=>some (.int k n)
 |.bool b=>some (.bool b)
 |.string s=>some (.str s.data.toList)
 |_=>none
def HJ(e:MapEntry):Option (List AV):=
 match HI e.key,HI e.val with
 |some k,some v=>some [k,v]
 |_,_=>none
structure vO(w:World)(x:Blk)(pl:cl):Prop where
 size:x.size=0
 psize:pl.size=0
 obj:(pl.base=1∧∃es clk,w.heap[pl.block]? =some (.map es clk)∧es.toList.map HJ=x.rows.map some) ∨
  (pl.base=2∧∃(s:ByteArray) (pos:Nat),w.heap[pl.block]? =some (.stringIter s pos)∧x.rows=[[.str s.data.toList,.int .i64 pos]])
def j6(w:World)(σ:bb)(T:Nat→Prop)(x:Blk)(pl:cl)(cs:Array Value)(e:TypeId):Prop:=
 (pl.ok→yZ w σ T x pl cs e)∧(¬pl.ok→vO w x pl)
theorem j6.of{w:World}{σ:bb}{T:Nat→Prop}{x:Blk}{pl:cl}{cs:Array Value}{e:TypeId}(hp:pl.ok)(h:yZ w σ T x pl cs e):j6 w σ T x pl cs e:=⟨λ_=>h,λhn=>absurd hp hn⟩
def ij(w:World)(T:Nat→Prop):Prop:=∀g r,Vc g=some r→¬T g∧0<r.length∧∀(j:Nat) (a:AV),r[j]? =some a→∃u,w.cell? ⟨g,j,none⟩=some u∧HI u=some a
structure aW(w:World)(σ:bb)(H:ac):Prop where
 named:∀b pl,σ b=some pl→b<H.next
 lt:∀b pl,σ b=some pl→pl.block<w.heap.size
 live:∀b x,H.get b=some x→∃pl cs e,σ b=some pl∧j6 w σ (aH σ H) x pl cs e
 apart:∀c,σ.fr c→c<w.heap.size∧¬E9 σ H c
 inj:∀b b' x x' pl pl',H.get b=some x→H.get b'=some x'→σ b=some pl→σ b'=some pl'→pl.block=pl'.block→b=b'
 glob:ij w (aH σ H)
structure el(w:World)(σ:bb)(T:Nat→Prop)(w':World)(σ':bb)(T':Nat→Prop):Prop where
 os:w'.os=w.os
 tape:w'.tape=w.tape
 output:w'.output=w.output
 size:w.heap.size≤w'.heap.size
 keep:∀c,c<w.heap.size→¬T c→w'.heap[c]? =w.heap[c]?
 shape:∀(c:Nat) (cs:Array Value) (e:TypeId),w.heap[c]? =some (.cells cs e (0,0))→∃cs':Array Value,w'.heap[c]? =some (.cells cs' e (0,0))∧cs'.size=cs.size
 sig:∀b pl,σ b=some pl→σ' b=some pl
 eqfr:σ'.fr=σ.fr
 frame:∀c,σ.fr c→w'.heap[c]? =w.heap[c]?
 own:∀c,T' c→T c∨w.heap.size≤c
theorem el.refl(w:World)(σ:bb)(T:Nat→Prop):el w σ T w σ T:=
 ⟨rfl,rfl,rfl,VL _,λ_ _ _=>rfl,λ_ cs _ h=>⟨cs,h,rfl⟩,λ_ _ h=>h,rfl,λ_ _=>rfl,λ_ h=>.inl h⟩
theorem el.trans{w w' w'':World}{σ σ' σ'':bb}{T T' T'':Nat→Prop}(h:el w σ T w' σ' T')(k:el w' σ' T' w'' σ'' T''):el w σ T w'' σ'' T'' where
 os:=k.os.trans h.os
 tape:=k.tape.trans h.tape
 output:=k.output.trans h.output
 size:=V2 h.size k.size
 keep:=λc hc hT=>by
  have hc':c<w'.heap.size:=V7 hc h.size;have:¬T' c:=λht=>by
   rcases h.own c ht with h1|h1
   ·exact hT h1
   ·omega
  exact(k.keep c hc' this).trans (h.keep c hc hT)
 shape:=λc cs e hcs=>by obtain⟨cs',h1,h2⟩:=h.shape c cs e hcs;obtain⟨cs'',h3,h4⟩:=k.shape c cs' e h1;exact⟨cs'',h3,h4.trans h2⟩
 sig:=λb pl hb=>k.sig b pl (h.sig b pl hb)
 eqfr:=k.eqfr.trans h.eqfr
 frame:=λc hc=>(k.frame c (by rw[h.eqfr];exact hc)).trans (h.frame c hc)
 own:=λc hc=>by
  rcases k.own c hc with h1|h1
  ·exact h.own c h1
  ·exact .inr (V2 h.size h1)
theorem A0{w:World}{b o:Nat}{u:Value}(h:w.cell? ⟨b,o,none⟩=some u):b<w.heap.size:=by
 rcases VO b w.heap.size with hlt|hge
 ·exact hlt
 ·simp[World.cell?,Array.getElem?_eq_none hge]at h
theorem sD.lt{w:World}{T:Nat→Prop}{rows:List (List AV)}{b o sz:Nat}(h:sD w T rows b o sz):b<w.heap.size:=by obtain⟨u,hu⟩:=h.cell 0 0 h.ne h.pos;exact A0 hu
theorem sD.cell_eq{w w':World}{σ σ':bb}{T T':Nat→Prop}{rows:List (List AV)}{b o sz:Nat}(h:sD w T rows b o sz)(e:el w σ T w' σ' T')(k:Nat):
  w'.cell? ⟨b,k,none⟩=w.cell? ⟨b,k,none⟩:=
 World.cell?_of_block (w:=w) (w':=w') (a:=⟨b,k,none⟩) (e.keep b h.lt h.out)
theorem sD.mono{w w':World}{σ σ':bb}{T T':Nat→Prop}{rows:List (List AV)}{b o sz:Nat}(h:sD w T rows b o sz)(e:el w σ T w' σ' T'):sD w' T' rows b o sz where
 out:=λht=>by
  rcases e.own b ht with h1|h1
  ·exact h.out h1
  ·have:=h.lt;omega
 even:=h.even
 cell:=λi j hi hj=>by rw[h.cell_eq e];exact h.cell i j hi hj
 pos:=h.pos
 ne:=h.ne
theorem ij.mono{w w':World}{σ σ':bb}{T T':Nat→Prop}(e:el w σ T w' σ' T')(h:ij w T):ij w' T':=λg r hg=>by
 obtain⟨h1,h2,h3⟩:=h g r hg;obtain⟨u,hu,_⟩:=h3 0 r[0] (VK h2);have hlt:=A0 hu;refine⟨λht=>?_,h2,λj a hj=>?_⟩
 ·rcases e.own g ht with h4|h4
  ·exact h1 h4
  ·omega
 ·obtain⟨u,hu,ha⟩:=h3 j a hj;exact⟨u,by rw[World.cell?_of_block (w:=w) (w':=w') (a:=⟨g,j,none⟩) (e.keep g hlt h1)];exact hu,ha⟩
theorem ij.less{w:World}{T T':Nat→Prop}(h:ij w T)(hT:∀c,T' c→T c):ij w T':=λg r hg=>⟨λht=>(h g r hg).1 (hT g ht),(h g r hg).2⟩
theorem ij.rep{w:World}{σ:bb}{T:Nat→Prop}(h:ij w T)(g:Nat):aT w σ T (Pm g) (.pointer (some ⟨g,0,none⟩)):=by
 unfold Pm;cases hg:Vc g with
 |none=>exact .junk _
 |some r=>
  obtain⟨h1,h2,h3⟩:=h g r hg;have:=aT.pptr (w:=w) (σ:=σ) (T:=T) [r] 0 0 g 0 r.length ⟨h1,λi q hq=>?_,λi j hi hj=>?_,h2,Xu⟩ λi q j a u hq ha hu=>?_
  ·simpa using this
  ·match i with
   |0=>cases hq;rfl
   |i+1=>simp at hq
  ·have h0:i=0:=by simpa using hi
   subst h0;obtain⟨u,hu,_⟩:=h3 j _ (VK hj);exact⟨u,by simpa using hu⟩
  ·match i with
   |0=>
    cases hq;obtain⟨u',hu',ha'⟩:=h3 j a ha;simp only[Nat.zero_mul,Xd,WG]at hu;rw[hu]at hu';cases hu';cases u<;>simp only[HI,VU,reduceCtorEq]at ha'<;>subst ha'
    ·exact .bool _
    ·exact .int _ _
    ·exact .str _
   |i+1=>simp at hq
theorem aT.mono{w w':World}{σ σ':bb}{T T':Nat→Prop}(e:el w σ T w' σ' T'){a:AV}{v:Value}(h:aT w σ T a v):aT w' σ' T' a v:=by
 induction h with
 |int k n=>exact .int k n
 |bool b=>exact .bool b
 |str s=>exact .str s
 |nilp=>exact .nilp
 |ptr b i off pl h hp=>exact .ptr b i off pl (e.sig b pl h) hp
 |mp b pl h h1 h2=>exact .mp b pl (e.sig b pl h) h1 h2
 |it b pl h h1 h2=>exact .it b pl (e.sig b pl h) h1 h2
 |pptr rows i off b o sz hl h ih=>exact .pptr rows i off b o sz (hl.mono e) λi r j a u h1 h2 h3=>ih i r j a u h1 h2 (by rwa [hl.cell_eq e]at h3)
 |nils=>exact .nils
 |emp a=>exact .emp a
 |sl b i n pl a cap h hp hn hm ha=>
  refine .sl b i n pl a cap (e.sig b pl h) hp hn hm λhc=>?_
  obtain⟨h1,cs,ty,h2,h3⟩:=ha hc;obtain⟨cs',h4,h5⟩:=e.shape _ _ _ h2;exact⟨h1,cs',ty,h4,Xr⟩
 |lst0 a cap hm=>exact .lst0 a cap hm
 |lst rows b o sz cap hl hn hm h ih=>exact .lst rows b o sz cap (hl.mono e) hn hm λi r j a u h1 h2 h3=>ih i r j a u h1 h2 (by rwa [hl.cell_eq e]at h3)
 |agg cs vs hl h ih=>exact .agg cs vs hl ih
 |tup cs vs hl h ih=>exact .tup cs vs hl ih
 |fn f cs vs hl h ih=>exact .fn f cs vs hl ih
 |nilf=>exact .nilf
 |junk v=>exact .junk v
theorem eh.mono{w w':World}{σ σ':bb}{T T':Nat→Prop}(e:el w σ T w' σ' T'){cs:List AV}{vs:List Value}(h:eh w σ T cs vs):eh w' σ' T' cs vs:=
 ⟨h.1,λi a v h1 h2=>(h.2 i a v h1 h2).mono e⟩
theorem ac.get_new(H:ac)(b c:Nat)(x:Blk):(H.new b x).get c=if b=c then some x else H.get c:=Tr.get_set _ _ _ _
theorem ac.get_put(H:ac)(b c:Nat)(x:Option Blk):(H.put b x).get c=if b=c then x else H.get c:=Tr.get_set _ _ _ _
theorem yZ.mono{w w':World}{σ σ':bb}{T T':Nat→Prop}{x:Blk}{pl:cl}{cs:Array Value}{e:TypeId}(h:yZ w σ T x pl cs e)(ex:el w σ T w' σ' T')
  (hb:w'.heap[pl.block]? =w.heap[pl.block]?):yZ w' σ' T' x pl cs e:=
 ⟨h.size,hb.trans h.block,h.even,h.room,λi r j a u h1 h2 h3=>(h.rep i r j a u h1 h2 h3).mono ex⟩
theorem vO.mono{w w':World}{x:Blk}{pl:cl}(h:vO w x pl)(hb:w'.heap[pl.block]? =w.heap[pl.block]?):vO w' x pl:=⟨h.size,h.psize,by rw[hb];exact h.obj⟩
theorem j6.mono{w w':World}{σ σ':bb}{T T':Nat→Prop}{x:Blk}{pl:cl}{cs:Array Value}{e:TypeId}(h:j6 w σ T x pl cs e)(ex:el w σ T w' σ' T')
  (hb:w'.heap[pl.block]? =w.heap[pl.block]?):j6 w' σ' T' x pl cs e:=⟨λhp=>(h.1 hp).mono ex hb,λhn=>(h.2 hn).mono hb⟩
theorem aW.ok_of{w:World}{σ:bb}{H:ac}(hW:aW w σ H){b:Nat}{x:Blk}{pl:cl}(hg:H.get b=some x)(hs:σ b=some pl){cs:Array Value}{e:TypeId}(hc:w.heap[pl.block]? =some (.cells cs e (0,0))):pl.ok:=by
 obtain⟨pl',cs',e',h1,h2⟩:=hW.live b x hg;rw[hs]at h1;cases h1;by_cases hp:pl.ok
 ·exact hp
 ·rcases(h2.2 hp).obj with⟨_,es,clk,h3,_⟩|⟨_,s,pos,h3,_⟩
  ·rw[hc]at h3;cases h3
  ·rw[hc]at h3;cases h3
theorem cl.ok_over{pl:cl}(h:pl.ok)(c k:Nat):cl.ok ⟨c,pl.base+k*pl.size,pl.size⟩:=by
 rcases h with h|h
 ·rcases WE pl.size with h0|h0
  ·left;show pl.base+k*pl.size=0;rw[h,h0];simp
  ·exact .inr h0
 ·exact .inr h
theorem el.same{w w':World}(σ:bb)(T:Nat→Prop)(hh:w'.heap=w.heap)(ho:w'.os=w.os)(ht:w'.tape=w.tape)(hp:w'.output=w.output):el w σ T w' σ T:=
 ⟨ho,ht,hp,by rw[hh];exact VL _,λ_ _ _=>by rw[hh],λ_ cs _ h=>⟨cs,by rw[hh];exact h,rfl⟩,λ_ _ h=>h,rfl,λ_ _=>by rw[hh],λ_ h=>.inl h⟩
theorem aW.same{w w':World}{σ:bb}{H:ac}(h:aW w σ H)(hh:w'.heap=w.heap)(ho:w'.os=w.os)(ht:w'.tape=w.tape)(hp:w'.output=w.output):aW w' σ H:=
 ⟨h.named,λb pl hb=>by rw[hh];exact h.lt b pl hb,λb x hb=>by
  obtain⟨pl,cs,e,h1,h2⟩:=h.live b x hb;exact⟨pl,cs,e,h1,h2.mono (el.same σ _ hh ho ht hp) (by rw[hh])⟩,λc hc=>by rw[hh];exact h.apart c hc,h.inj,h.glob.mono (el.same σ _ hh ho ht hp)⟩
theorem aW.congr{w:World}{σ:bb}{H K:ac}(h:aW w σ H)(hg:∀b,K.get b=H.get b)(hn:H.next≤K.next):aW w σ K:=by
 have ht:E9 σ K=E9 σ H:=by funext c;simp[E9,hg]
 have ho:aH σ K=aH σ H:=by funext c;simp[aH,ht]
 refine⟨λb pl hb=>V7 (h.named b pl hb) hn,h.lt,λb x hb=>?_,by rw[ht];exact h.apart,λb b' x x' pl pl' h1 h2=>h.inj b b' x x' pl pl' (by rwa [hg]at h1) (by rwa [hg]at h2),by rw[ho];exact h.glob⟩;rw[ho];exact h.live b x (by rwa [hg]at hb)
theorem aH.congr{σ:bb}{H K:ac}(hg:∀b,K.get b=H.get b):aH σ K=aH σ H:=by funext c;simp[aH,E9,hg]
theorem aH.sub{σ:bb}{H K:ac}(hg:∀b x,K.get b=some x→H.get b=some x){c:Nat}(h:aH σ K c):aH σ H c:=by
 rcases h with h|⟨b,x,pl,h1,h2,h3⟩
 ·exact .inl h
 ·exact .inr ⟨b,x,pl,hg b x h1,h2,h3⟩
theorem el.sub{w:World}{σ:bb}{H K:ac}(hg:∀b x,K.get b=some x→H.get b=some x):el w σ (aH σ H) w σ (aH σ K):=
 ⟨rfl,rfl,rfl,VL _,λ_ _ _=>rfl,λ_ cs _ h=>⟨cs,h,rfl⟩,λ_ _ h=>h,rfl,λ_ _=>rfl,λ_ h=>.inl (aH.sub hg h)⟩
theorem aW.sub{w:World}{σ:bb}{H K:ac}(h:aW w σ H)(hg:∀b x,K.get b=some x→H.get b=some x)(hn:H.next≤K.next):aW w σ K:=
 ⟨λb pl hb=>V7 (h.named b pl hb) hn,h.lt,λb x hb=>by
  obtain⟨pl,cs,e,h1,h2⟩:=h.live b x (hg b x hb);exact⟨pl,cs,e,h1,h2.mono (el.sub hg) rfl⟩,λc hc=>⟨(h.apart c hc).1,λ⟨b,x,pl,h1,h2,h3⟩=>(h.apart c hc).2 ⟨b,x,pl,hg b x h1,h2,h3⟩⟩,λb b' x x' pl pl' h1 h2=>h.inj b b' x x' pl pl' (hg _ _ h1) (hg _ _ h2),h.glob.mono (el.sub hg)⟩
def bb.set(σ:bb)(b:Nat)(pl:cl):bb:={σ with map:=λc=>if b=c then some pl else σ c}
theorem bb.set_eq(σ:bb)(b:Nat)(pl:cl):σ.set b pl b=some pl:=by simp[bb.set]
theorem bb.set_ne(σ:bb){b c:Nat}(pl:cl)(h:b≠c):σ.set b pl c=σ c:=by simp[bb.set,h]
theorem bb.set_old{σ:bb}{b c:Nat}{pl q:cl}(hb:σ b=none)(h:σ c=some q):σ.set b pl c=some q:=by rw[bb.set_ne _ _ (by rintro rfl;rw[hb]at h;cases h)];exact h
def World.push(w:World)(o:Obj):World:={w with heap:=w.heap.push o}
theorem aW.new{w:World}{σ:bb}{H:ac}(h:aW w σ H){b:Nat}(hb:σ b=none)(hlt:b<H.next){x:Blk}{cs:Array Value}{e:TypeId}
  (even:∀(i:Nat) (r:List AV),x.rows[i]? =some r→r.length=x.size) (room:x.rows.length*x.size≤cs.size)
  (rep:∀(i:Nat) (r:List AV) (j:Nat) (a:AV) (u:Value),x.rows[i]? =some r→r[j]? =some a→cs[i*x.size+j]? =some u→aT w σ (aH σ H) a u) :
  aW (World.push w (.cells cs e (0,0))) (σ.set b ⟨w.heap.size,0,x.size⟩) (H.new b x)∧
  el w σ (aH σ H) (World.push w (.cells cs e (0,0))) (σ.set b ⟨w.heap.size,0,x.size⟩) (aH (σ.set b ⟨w.heap.size,0,x.size⟩) (H.new b x)):=by
 have hnone:H.get b=none:=by
  cases hg:H.get b with
  |none=>rfl
  |some y=>obtain⟨pl,_,_,h1,_⟩:=h.live b y hg;rw[hb]at h1;cases h1
 have hold:∀c,c<w.heap.size→(World.push w (.cells cs e (0,0))).heap[c]? =w.heap[c]? :=λc hc=>by show(w.heap.push _)[c]? =_;rw[Array.getElem?_push,if_neg (Nat.ne_of_lt hc)]
 have ext:el w σ (aH σ H) (World.push w (.cells cs e (0,0))) (σ.set b ⟨w.heap.size,0,x.size⟩) (aH (σ.set b ⟨w.heap.size,0,x.size⟩) (H.new b x)):=by
  refine⟨rfl,rfl,rfl,by simp[World.push],λc hc _=>hold c hc,λc cs' e' hc=>⟨cs',?_,rfl⟩,λc q hq=>bb.set_old hb hq,rfl,λc hc=>hold c (h.apart c hc).1,?_⟩
  ·rcases VO c w.heap.size with hlt|hge
   ·rw[hold c hlt];exact hc
   ·rw[Array.getElem?_eq_none hge]at hc;cases hc
  ·rintro c (hfr|⟨b',y,pl,h1,h2,h3⟩)
   ·exact .inl (.inl hfr)
   rw[ac.get_new]at h1;by_cases hbb:b=b'
   ·subst hbb;rw[bb.set_eq]at h2;cases h2;exact .inr (by simp only[]at h3;omega)
   ·rw[if_neg hbb]at h1;rw[bb.set_ne _ _ hbb]at h2;exact .inl (.inr ⟨b',y,pl,h1,h2,h3⟩)
 have hap:∀c,(σ.set b ⟨w.heap.size,0,x.size⟩).fr c→c<(World.push w (.cells cs e (0,0))).heap.size∧¬E9 (σ.set b ⟨w.heap.size,0,x.size⟩) (H.new b x) c:=λc hc=>by
  have hlt':=(h.apart c hc).1;refine⟨by simp[World.push];omega,?_⟩;rintro⟨b',y,pl,h1,h2,h3⟩;rw[ac.get_new]at h1;by_cases hbb:b=b'
  ·subst hbb;rw[bb.set_eq]at h2;cases h2;simp only[]at h3;omega
  ·rw[if_neg hbb]at h1;rw[bb.set_ne _ _ hbb]at h2;exact(h.apart c hc).2 ⟨b',y,pl,h1,h2,h3⟩
 refine⟨⟨?_,?_,?_,hap,?_,h.glob.mono ext⟩,ext⟩
 ·intro c pl hc;by_cases hbc:b=c
  ·subst hbc;exact hlt
  ·rw[bb.set_ne _ _ hbc]at hc;exact h.named c pl hc
 ·intro c pl hc;by_cases hbc:b=c
  ·subst hbc;rw[bb.set_eq]at hc;cases hc;simp[World.push]
  ·rw[bb.set_ne _ _ hbc]at hc;have:=h.lt c pl hc;simp[World.push];omega
 ·intro c y hy;rw[ac.get_new]at hy;by_cases hbc:b=c
  ·subst hbc;rw[if_pos rfl]at hy;cases hy;refine⟨_,cs,e,bb.set_eq _ _ _,.of (.inl rfl) ⟨rfl,by show(w.heap.push _)[w.heap.size]? =_;simp,even,by simpa using room,λi r j a u h1 h2 h3=>(rep i r j a u h1 h2 (by simpa using h3)).mono ext⟩⟩
  ·rw[if_neg hbc]at hy;obtain⟨pl,cs',e',h1,h2⟩:=h.live c y hy;exact⟨pl,cs',e',by rw[bb.set_ne _ _ hbc];exact h1,h2.mono ext (hold _ (h.lt c pl h1))⟩
 ·intro c c' y y' pl pl' h1 h2 h3 h4 h5;rw[ac.get_new]at h1 h2;by_cases hbc:b=c
  ·by_cases hbc':b=c'
   ·exact hbc.symm.trans hbc'
   ·subst hbc;rw[bb.set_eq]at h3;cases h3;rw[bb.set_ne _ _ hbc']at h4;have:=h.lt c' pl' h4;simp only[]at h5;omega
  ·by_cases hbc':b=c'
   ·subst hbc';rw[bb.set_eq]at h4;cases h4;rw[bb.set_ne _ _ hbc]at h3;have:=h.lt c pl h3;simp only[]at h5;omega
   ·rw[if_neg hbc]at h1;rw[if_neg hbc']at h2;rw[bb.set_ne _ _ hbc]at h3;rw[bb.set_ne _ _ hbc']at h4;exact h.inj c c' y y' pl pl' h1 h2 h3 h4 h5
structure lu(w w':World)(c:Nat)(cs cs':Array Value)(e:TypeId):Prop where
 os:w'.os=w.os
 tape:w'.tape=w.tape
 output:w'.output=w.output
 size:w'.heap.size=w.heap.size
 old:w.heap[c]? =some (.cells cs e (0,0))
 new:w'.heap[c]? =some (.cells cs' e (0,0))
 len:cs'.size=cs.size
 rest:∀d,d≠c→w'.heap[d]? =w.heap[d]?
theorem lu.refl{w:World}{c:Nat}{cs:Array Value}{e:TypeId}(h:w.heap[c]? =some (.cells cs e (0,0))):lu w w c cs cs e:=
 ⟨rfl,rfl,rfl,rfl,h,h,rfl,λ_ _=>rfl⟩
theorem lu.ext{w w':World}{c:Nat}{cs cs':Array Value}{e:TypeId}(h:lu w w' c cs cs' e){σ σ':bb}{T T':Nat→Prop}(hc:T c)(hσ:∀b pl,σ b=some pl→σ' b=some pl)
  (hfr:σ'.fr=σ.fr) (hn:¬σ.fr c) (hT:∀d,T' d→T d):el w σ T w' σ' T':=by
 refine⟨h.os,h.tape,h.output,by rw[h.size];exact VL _,λd _ hd=>h.rest d (by rintro rfl;exact hd hc),λd ds e' hd=>?_,hσ,hfr,λd hd=>h.rest d (by rintro rfl;exact hn hd),λd hd=>.inl (hT d hd)⟩;by_cases hdc:d=c
 ·subst hdc;rw[h.old]at hd;cases hd;exact⟨cs',h.new,h.len⟩
 ·exact⟨ds,by rw[h.rest d hdc];exact hd,rfl⟩
theorem aW.put{w w':World}{σ:bb}{H:ac}(h:aW w σ H){b:Nat}{x x':Blk}{pl:cl}{cs cs':Array Value}{e:TypeId}(hg:H.get b=some x)(hs:σ b=some pl)
  (hw:lu w w' pl.block cs cs' e) (hx:x'.size=pl.size)
  (even:∀(i:Nat) (r:List AV),x'.rows[i]? =some r→r.length=x'.size) (room:pl.base+x'.rows.length*x'.size≤cs.size)
  (rep:∀(i:Nat) (r:List AV) (j:Nat) (a:AV) (u:Value),x'.rows[i]? =some r→r[j]? =some a→cs'[pl.base+i*x'.size+j]? =some u→aT w σ (aH σ H) a u) :
  aW w' σ (H.put b (some x'))∧el w σ (aH σ H) w' σ (aH σ (H.put b (some x'))):=by
 have htok:E9 σ (H.put b (some x'))=E9 σ H:=by
  funext c;apply propext;constructor
  ·rintro⟨b',y,q,h1,h2,h3⟩;rw[ac.get_put]at h1;by_cases hbb:b=b'
   ·subst hbb;exact⟨b,x,q,hg,h2,h3⟩
   ·rw[if_neg hbb]at h1;exact⟨b',y,q,h1,h2,h3⟩
  ·rintro⟨b',y,q,h1,h2,h3⟩;by_cases hbb:b=b'
   ·subst hbb;exact⟨b,x',q,by rw[ac.get_put,if_pos rfl],h2,h3⟩
   ·exact⟨b',y,q,by rw[ac.get_put,if_neg hbb];exact h1,h2,h3⟩
 have hown:aH σ (H.put b (some x'))=aH σ H:=by funext c;simp[aH,htok]
 have ext:el w σ (aH σ H) w' σ (aH σ (H.put b (some x'))):=by rw[hown];exact hw.ext (.inr ⟨b,x,pl,hg,hs,rfl⟩) (λ_ _ h=>h) rfl (λhf=>(h.apart _ hf).2 ⟨b,x,pl,hg,hs,rfl⟩) (λ_ h=>h)
 refine⟨⟨h.named,λc q hc=>by rw[hw.size];exact h.lt c q hc,?_,λc hc=>by rw[hw.size,htok];exact h.apart c hc,?_,h.glob.mono ext⟩,ext⟩
 ·intro c y hy;rw[ac.get_put]at hy;by_cases hbc:b=c
  ·subst hbc;rw[if_pos rfl]at hy;cases hy;exact⟨pl,cs',e,hs,.of (h.ok_of hg hs hw.old) ⟨hx.symm,hw.new,even,by rw[hw.len];exact room,λi r j a u h1 h2 h3=>(rep i r j a u h1 h2 h3).mono ext⟩⟩
  ·rw[if_neg hbc]at hy;obtain⟨q,ds,e',h1,h2⟩:=h.live c y hy;exact⟨q,ds,e',h1,h2.mono ext (hw.rest _ λhe=>hbc (h.inj b c x y pl q hg hy hs h1 he.symm))⟩
 ·intro c c' y y' q q' h1 h2;have aux:∀c y,(H.put b (some x')).get c=some y→∃z,H.get c=some z:=λc y hy=>by
   rw[ac.get_put]at hy;by_cases hbc:b=c
   ·subst hbc;exact⟨x,hg⟩
   ·rw[if_neg hbc]at hy;exact⟨y,hy⟩
  obtain⟨z,hz⟩:=aux c y h1;obtain⟨z',hz'⟩:=aux c' y' h2;exact h.inj c c' z z' q q' hz hz'
theorem aW.over{w w':World}{σ:bb}{H:ac}(h:aW w σ H){b b':Nat}{x x':Blk}{pl:cl}{cs cs':Array Value}{e:TypeId}{k:Nat}(hg:H.get b=some x)(hs:σ b=some pl)
  (hb:σ b'=none) (hlt:b'<H.next) (hw:lu w w' pl.block cs cs' e) (hx:x'.size=pl.size)
  (even:∀(i:Nat) (r:List AV),x'.rows[i]? =some r→r.length=x'.size) (room:pl.base+k*pl.size+x'.rows.length*x'.size≤cs.size)
  (rep:∀(i:Nat) (r:List AV) (j:Nat) (a:AV) (u:Value),x'.rows[i]? =some r→r[j]? =some a→cs'[pl.base+k*pl.size+i*x'.size+j]? =some u→aT w σ (aH σ H) a u) :
  aW w' (σ.set b' ⟨pl.block,pl.base+k*pl.size,pl.size⟩) ((H.put b none).new b' x')∧
  el w σ (aH σ H) w' (σ.set b' ⟨pl.block,pl.base+k*pl.size,pl.size⟩) (aH (σ.set b' ⟨pl.block,pl.base+k*pl.size,pl.size⟩) ((H.put b none).new b' x')):=by
 have hne:b'≠b:=by rintro rfl;rw[hb]at hs;cases hs
 have get':∀c y,((H.put b none).new b' x').get c=some y→(c=b'∧y=x')∨(c≠b'∧c≠b∧H.get c=some y):=λc y hy=>by
  rw[ac.get_new]at hy;by_cases h1:b'=c
  ·rw[if_pos h1]at hy;cases hy;exact .inl ⟨h1.symm,rfl⟩
  ·rw[if_neg h1,ac.get_put]at hy;by_cases h2:b=c
   ·rw[if_pos h2]at hy;cases hy
   ·rw[if_neg h2]at hy;exact .inr ⟨λe=>h1 e.symm,λe=>h2 e.symm,hy⟩
 have htok:∀d,E9 (σ.set b' ⟨pl.block,pl.base+k*pl.size,pl.size⟩) ((H.put b none).new b' x') d→E9 σ H d:=by
  rintro d ⟨c,y,q,h1,h2,h3⟩;rcases get' c y h1 with⟨rfl,rfl⟩|⟨h4,_,h5⟩
  ·rw[bb.set_eq]at h2;cases h2;exact⟨b,x,pl,hg,hs,h3⟩
  ·rw[bb.set_ne _ _ (λe=>h4 e.symm)]at h2;exact⟨c,y,q,h5,h2,h3⟩
 have ext:el w σ (aH σ H) w' (σ.set b' ⟨pl.block,pl.base+k*pl.size,pl.size⟩) (aH (σ.set b' ⟨pl.block,pl.base+k*pl.size,pl.size⟩) ((H.put b none).new b' x')):=by
  refine hw.ext (.inr ⟨b,x,pl,hg,hs,rfl⟩) (λc q hq=>bb.set_old hb hq) rfl (λhf=>(h.apart _ hf).2 ⟨b,x,pl,hg,hs,rfl⟩) ?_;rintro d (hfr|hd)
  ·exact .inl hfr
  ·exact .inr (htok d hd)
 refine⟨⟨?_,?_,?_,λc hc=>⟨by rw[hw.size];exact(h.apart c hc).1,λht=>(h.apart c hc).2 (htok c ht)⟩,?_,h.glob.mono ext⟩,ext⟩
 ·intro c q hc;by_cases hbc:b'=c
  ·subst hbc;exact hlt
  ·rw[bb.set_ne _ _ hbc]at hc;exact h.named c q hc
 ·intro c q hc;rw[hw.size];by_cases hbc:b'=c
  ·subst hbc;rw[bb.set_eq]at hc;cases hc;exact h.lt b pl hs
  ·rw[bb.set_ne _ _ hbc]at hc;exact h.lt c q hc
 ·intro c y hy;rcases get' c y hy with⟨rfl,rfl⟩|⟨h4,h6,h5⟩
  ·exact⟨_,cs',e,bb.set_eq _ _ _,.of (cl.ok_over (h.ok_of hg hs hw.old) _ _) ⟨hx.symm,hw.new,even,by rw[hw.len];exact room,λi r j a u h1 h2 h3=>(rep i r j a u h1 h2 h3).mono ext⟩⟩
  ·obtain⟨q,ds,e',h1,h2⟩:=h.live c y h5;exact⟨q,ds,e',by rw[bb.set_ne _ _ (λe=>h4 e.symm)];exact h1,h2.mono ext (hw.rest _ λhe=>h6 (h.inj c b y x q pl h5 hg h1 hs he))⟩
 ·intro c c' y y' q q' h1 h2 h3 h4 h5;rcases get' c y h1 with⟨rfl,rfl⟩|⟨a1,a2,a3⟩
  ·rcases get' c' y' h2 with⟨rfl,rfl⟩|⟨b1,b2,b3⟩
   ·rfl
   ·rw[bb.set_eq]at h3;cases h3;rw[bb.set_ne _ _ (λe=>b1 e.symm)]at h4;exact absurd (h.inj b c' x y' pl q' hg b3 hs h4 h5) (λe=>b2 e.symm)
  ·rcases get' c' y' h2 with⟨rfl,rfl⟩|⟨b1,b2,b3⟩
   ·rw[bb.set_eq]at h4;cases h4;rw[bb.set_ne _ _ (λe=>a1 e.symm)]at h3;exact absurd (h.inj c b y x q pl a3 hg h3 hs h5) a2
   ·rw[bb.set_ne _ _ (λe=>a1 e.symm)]at h3;rw[bb.set_ne _ _ (λe=>b1 e.symm)]at h4;exact h.inj c c' y y' q q' a3 b3 h3 h4 h5
section
section
variable {P:Program} {w:World} {σ:bb} {T:Nat→Prop}
theorem vP{t:TypeId}{i:TypeInfo}(h:P.info? t=some i)(w:World):(typeInfo t).run P w=.ok i w:=by simp[typeInfo,h]
theorem cE{t:TypeId}{n:Nat}(h:aQ P t=some n)(w:World):(sizeOf t).run P w=.ok n w:=by
 unfold aQ at h;cases hi:P.info? t with
 |none=>rw[hi]at h;cases h
 |some i=>rw[hi]at h;cases h;simp[sizeOf,vP hi]
theorem lv{t:TypeId}{r:Bool}(h:eR P t=some r)(w:World):(isAgg t).run P w=.ok r w:=by
 unfold eR at h;cases hi:P.underlying t with
 |none=>rw[hi]at h;cases h
 |some d=>rw[hi]at h;simp only[Wb,VU]at h;subst h;simp only[isAgg,Wh,run_underlying hi,VX];cases d<;>rfl
theorem aT.cells{a:AV}{v:Value}{cs:List AV}(h:aT w σ T a v)(hc:a.cells? =some cs):eh w σ T cs v.cells.toList:=by
 have one:∀{a v},aT w σ T a v→(v.cells=#[v])→eh w σ T [a] v.cells.toList:=λ{a v} h e=>by
  rw[e];refine⟨rfl,λi a' v' h1 h2=>?_⟩
  match i with
  |0=>cases h1;cases h2;exact h
  |i+1=>simp at h1
 cases h<;>simp only[AV.cells?,VU,reduceCtorEq]at hc<;>subst hc
 case agg vs hl h=>exact⟨by simpa[Value.cells]using hl,by simpa[Value.cells]using h⟩
 all_goals exact one (by constructor<;>assumption) rfl
theorem aT.one{a:AV}{v:Value}(h:aT w σ T a v)(ho:a.one=true):v.oneCell'=true:=by cases h<;>first|rfl|(simp[AV.one]at ho)
theorem eh.one{cs:List AV}{vs:List Value}(h:eh w σ T cs vs)(ho:cs.all AV.one=true):∀v∈vs,v.oneCell'=true:=by
 intro v hv;obtain⟨i,hi,rfl⟩:=WO hv;have hi':i<cs.length:=by rw[h.1];exact hi
 exact(h.2 i cs[i] vs[i] (VK hi') (VK hi)).one (by rw[V0]at ho;exact ho _ (V3 hi'))
def HK(w:World)(σ:bb)(T:Nat→Prop)(row:List AV)(b start:Nat):Prop:=
 ∀(j:Nat) (a:AV),row[j]? =some a→∃u,w.cell? ⟨b,start+j,none⟩=some u∧aT w σ T a u
theorem eu(b o n:Nat):(⟨b,o,none⟩:Addr).add n=⟨b,o+n,none⟩:=by unfold Addr.add;split<;>simp_all
theorem MY{row:List AV}{b start:Nat}(h:HK w σ T row b start)(n off:Nat)(hn:off+n≤row.length):
  ∃vs:List Value,vs.length=n∧(loadCells ⟨b,start+off,none⟩ n).run P w=.ok vs.toArray w∧eh w σ T ((row.drop off).take n) vs:=by
 have key:∀j,∃u,j<n→∃a,row[off+j]? =some a∧w.cell? ⟨b,start+off+j,none⟩=some u∧aT w σ T a u:=λj=>by
  by_cases hj:j<n
  ·obtain⟨u,h1,h2⟩:=h (off+j) row[off+j] (VK Xr);exact⟨u,λ_=>⟨_,VK Xr,by rw[WC];exact h1,h2⟩⟩
  ·exact⟨undef,λh=>absurd h hj⟩
 let f:=λj=>Classical.choose (key j)
 have hf:∀j,j<n→∃a,row[off+j]? =some a∧w.cell? ⟨b,start+off+j,none⟩=some (f j)∧aT w σ T a (f j):=λj=>Classical.choose_spec (key j)
 refine⟨(List.range n).map f,Xu,run_loadCells w _ n f (λj hj=>by rw[eu];obtain⟨a,_,h2,_⟩:=hf j hj;exact h2),by simp;omega,?_⟩;intro i a v h1 h2;rw[VZ]at h2;have hi:i<n:=by
  rcases VO i n with h3|h3
  ·exact h3
  ·rw[VP (by simpa using h3)]at h2;cases h2
 rw[Xo hi]at h2;cases h2;obtain⟨a',h3,_,h5⟩:=hf i hi;rw[Wj hi,WB,h3]at h1;cases h1;exact h5
theorem rV{t:TypeId}{row:List AV}{b start off:Nat}{v:AV}(h:HK w σ T row b start)(hl:gW P t row off=some v):
  ∃v',(loadVar t ⟨b,start+off,none⟩).run P w=.ok v' w∧aT w σ T v v':=by
 unfold gW at hl;split at hl
 ·rename_i n h1 h2;split at hl
  ·rename_i hn;cases hl;obtain⟨vs,_,h4,h5⟩:=MY (P:=P) h n off hn;exact⟨.agg vs.toArray,by simp only[loadVar,Wh,lv h1,VX,Sem.run_ite,if_true,cE h2,h4,Wu],.agg _ _ h5.1 h5.2⟩
  ·cases hl
 ·rename_i n h1 h2;obtain⟨u,h3,h4⟩:=h off v hl;exact⟨u,by simp[loadVar,lv h1,h3],h4⟩
 ·cases hl
theorem rW{t:TypeId}{row:List AV}{vs:List Value}{off:Nat}{v:AV}(h:eh w σ T row vs)(hl:gW P t row off=some v):
  ∃v',(part t vs.toArray off).run P w=.ok v' w∧aT w σ T v v':=by
 unfold gW at hl;split at hl
 ·rename_i n h1 h2;split at hl
  ·rename_i hn;cases hl;refine⟨.agg (vs.toArray.extract off (off+n)),by simp only[part,Wh,lv h1,VX,Sem.run_ite,if_true,cE h2,Wu],?_⟩;have e:vs.toArray.extract off (off+n)=((vs.drop off).take n).toArray:=by simp
   rw[e];refine .agg _ _ (by simp[h.1]) λi a v h3 h4=>?_
   have hi:i<n:=by
    rcases VO i n with h5|h5
    ·exact h5
    ·rw[VP (by simp;omega)]at h3;cases h3
   rw[Wj hi,WB]at h3 h4;exact h.2 _ a v h3 h4
  ·cases hl
 ·rename_i n h1 h2;have ho:off<row.length:=by
   rcases VO off row.length with h5|h5
   ·exact h5
   ·rw[VP h5]at hl;cases hl
  have ho':off<vs.length:=by rw[←h.1];exact ho
  exact⟨vs[off],by simp[part,lv h1,ho'],h.2 off v _ hl (VK ho')⟩
 ·cases hl
theorem yZ.row{x:Blk}{pl:cl}{cs:Array Value}{e:TypeId}(h:yZ w σ T x pl cs e){i:Nat}{r:List AV}(hr:x.rows[i]? =some r):
  HK w σ T r pl.block (pl.base+i*pl.size):=by
 intro j a ha;have hi:i<x.rows.length:=by
  rcases VO i x.rows.length with h5|h5
  ·exact h5
  ·rw[VP h5]at hr;cases hr
 have hj:j<x.size:=by
  rw[←h.even i r hr];rcases VO j r.length with h5|h5
  ·exact h5
  ·rw[VP h5]at ha;cases ha
 have hb:pl.base+i*x.size+j<cs.size:=by have:=h.room;have:(i+1)*x.size≤x.rows.length*x.size:=V4 _ hi;rw[Ws]at this;omega
 refine⟨cs[pl.base+i*x.size+j],?_,h.rep i r j a _ hr ha (Wc hb)⟩;rw[h.size];simp[World.cell?,h.block,hb]
theorem sD.row{rows:List (List AV)}{b o sz:Nat}(hl:sD w T rows b o sz)
  (h:∀(i:Nat) (r:List AV) (j:Nat) (a:AV) (u:Value),rows[i]? =some r→r[j]? =some a→w.cell? ⟨b,o+i*sz+j,none⟩=some u→aT w σ T a u)
  {i:Nat} {r:List AV} (hr:rows[i]? =some r):HK w σ T r b (o+i*sz):=by
 intro j a ha;have hi:i<rows.length:=by
  rcases VO i rows.length with h5|h5
  ·exact h5
  ·rw[VP h5]at hr;cases hr
 have hj:j<sz:=by
  rw[←hl.even i r hr];rcases VO j r.length with h5|h5
  ·exact h5
  ·rw[VP h5]at ha;cases ha
 obtain⟨u,hu⟩:=hl.cell i j hi hj;exact⟨u,hu,h i r j a u hr ha hu⟩
theorem CO{H:ac}(hW:aW w σ H){t:TypeId}{a v:AV}{a':Value}(ha:aT w σ (aH σ H) a a')(hl:m5 P H t a=some v):
  ∃v',(Instr.loadAt t a').run P w=.ok v' w∧aT w σ (aH σ H) v v':=by
 unfold m5 at hl;split at hl
 ·rename_i b i off;cases ha;rename_i pl hp hs;cases hx:H.get b with
  |none=>rw[hx]at hl;cases hl
  |some x=>
   rw[hx]at hl;simp only[Wy]at hl;cases hr:x.rows[i]? with
   |none=>rw[hr]at hl;cases hl
   |some r=>rw[hr]at hl;simp only[Wy]at hl;obtain⟨pl',cs,e,h1,h2⟩:=hW.live b x hx;rw[hs]at h1;cases h1;replace h2:=h2.1 hp;obtain⟨v',h3,h4⟩:=rV (P:=P) (h2.row hr) hl;exact⟨v',by simpa[Instr.loadAt,Instr.sureAddr]using h3,h4⟩
 ·rename_i rows i off;cases ha;rename_i b o sz hl' h;cases hr:rows[i]? with
  |none=>rw[hr]at hl;cases hl
  |some r=>rw[hr]at hl;simp only[Wy]at hl;obtain⟨v',h3,h4⟩:=rV (P:=P) (hl'.row h hr) hl;exact⟨v',by simpa[Instr.loadAt,Instr.sureAddr]using h3,h4⟩
 ·cases hl
end
end
section
section
variable {P:Program} {w:World} {σ:bb} {T:Nat→Prop}
theorem KP{v:Value}{a:AV}(h:To v=some a):aT w σ T a v:=by unfold To at h;split at h<;>first|(cases h;constructor)|cases h
theorem iM{α:Type}:∀(l:List (Option α)) (m:List α),cg l=some m→l.length=m.length∧∀(i:Nat) (x:α),m[i]? =some x→l[i]? =some (some x)
 |[],m,h=>by cases h;exact⟨rfl,λi x h=>by simp at h⟩
 |none::_,m,h=>by cases h
 | some x::l,m,h=>by
  unfold cg at h;split at h
  ·rename_i l' hl;cases h;obtain⟨h1,h2⟩:=iM l l' hl;refine⟨by simp[h1],λi y hy=>?_⟩
   match i with
   |0=>simpa using hy
   |i+1=>simp only[Xa]at hy ⊢;exact h2 i y hy
  ·cases h
theorem HL{v:Value}{a:AV}(h:MX v=some a):aT w σ T a v:=by
 unfold MX at h;split at h
 ·rename_i cs;cases hm:cg (cs.toList.map To)with
  |none=>rw[hm]at h;cases h
  |some l=>
   rw[hm]at h;cases h;obtain⟨h1,h2⟩:=iM _ _ hm;have:aT w σ T (.agg l) (.agg cs.toList.toArray):=.agg l cs.toList (by simpa using h1.symm) λi a v h3 h4=>by have:=h2 i a h3;rw[VZ,h4]at this;simp only[Wb,VU]at this;exact KP this
   simpa using this
 ·exact KP h
theorem ew{t:TypeId}{z:AV}(h:ea P t=some z):∃z',(zeroValue t).run P w=.ok z' w∧aT w σ T z z':=by
 unfold ea at h;cases hi:P.info? t with
 |none=>rw[hi]at h;cases h
 |some i=>
  rw[hi]at h;simp only[Wy]at h;cases hz:i.zero with
  |none=>rw[hz]at h;cases h
  |some z'=>rw[hz]at h;exact⟨z',by simp[zeroValue,vP hi,hz],HL h⟩
theorem Bm{s:TypeId}{x v:AV}{x':Value}{f:Nat}(hx:aT w σ T x x')(h:i9 P s x f=some v):
  ∃v',(Instr.fieldAt s x' f).run P w=.ok v' w∧aT w σ T v v':=by
 unfold i9 at h;split at h
 ·rename_i fs hu;cases hf:fs[f]? with
  |none=>rw[hf]at h;cases h
  |some fd=>
   rw[hf]at h;simp only[Wy]at h;cases hn:aQ P fd.type with
   |none=>rw[hn]at h;cases h
   |some n=>
    rw[hn]at h;simp only[Wy]at h;by_cases h0:n=0
    ·rw[if_pos h0]at h;cases h
    ·rw[if_neg h0]at h;cases hx<;>simp only[VU,reduceCtorEq]at h<;>subst h
     ·rename_i b i off pl hs hp;refine⟨_,by simp only[Instr.fieldAt,Wh,run_underlying hu,VX,hf,Instr.sureAddr,Wu,fieldPlace,cE hn,Sem.run_ite,if_neg h0,eu];rfl,?_⟩;have:=aT.ptr (w:=w) (T:=T) b i (off+fd.offset) pl hs hp
      rwa [←WC]at this
     ·rename_i rows i off b o sz hl h;refine⟨_,by simp only[Instr.fieldAt,Wh,run_underlying hu,VX,hf,Instr.sureAddr,Wu,fieldPlace,cE hn,Sem.run_ite,if_neg h0,eu];rfl,?_⟩;have:=aT.pptr rows i (off+fd.offset) b o sz hl h
      rwa [←WC]at this
 ·cases h
theorem HM{s:TypeId}{x v:AV}{x':Value}{f:Nat}(hx:aT w σ T x x')(h:Gq P s x f=some v):
  ∃v',(Instr.field s x' f).run P w=.ok v' w∧aT w σ T v v':=by
 unfold Gq at h;split at h
 ·rename_i fs cs hu;cases hx;rename_i vs hl hr;cases hf:fs[f]? with
  |none=>rw[hf]at h;cases h
  |some fd=>rw[hf]at h;simp only[Wy]at h;obtain⟨v',h1,h2⟩:=rW (P:=P) (w:=w) (σ:=σ) (T:=T) ⟨hl,hr⟩ h;exact⟨v',by simp[Instr.field,run_underlying hu,hf,asAgg,h1],h2⟩
 ·cases h
theorem aT.sl_inv{b i n:Nat}{v:Value}(h:aT w σ T (.sl b i n) v):∃pl a cap,v=.slice (some a) n cap∧σ b=some pl∧n≤cap∧cap≤maxLen∧
  (0<cap→a=⟨pl.block,pl.base+i*pl.size,none⟩∧∃cs e,w.heap[pl.block]? =some (.cells cs e (0,0))∧pl.base+(i+cap)*pl.size≤cs.size):=by
 cases h with
 |sl _ _ _ pl a cap h hp hn hm ha=>exact⟨pl,a,cap,rfl,h,hn,hm,ha⟩
theorem aT.sl_ok{b i n:Nat}{v:Value}(h:aT w σ T (.sl b i n) v){pl:cl}(hs:σ b=some pl):pl.ok:=by
 cases h with
 |sl _ _ _ pl' a cap h hp hn hm ha=>rw[hs]at h;cases h;exact hp
theorem aT.lst_inv{rows:List (List AV)}{v:Value}(h:aT w σ T (.lst rows) v):∃A cap,v=.slice A rows.length cap∧rows.length≤cap∧cap≤maxLen∧
  (rows≠[]→∃b o sz,A=some ⟨b,o,none⟩∧sD w T rows b o sz∧
   ∀(i:Nat) (r:List AV) (j:Nat) (a:AV) (u:Value),rows[i]? =some r→r[j]? =some a→w.cell? ⟨b,o+i*sz+j,none⟩=some u→aT w σ T a u):=by
 cases h with
 |lst0 a cap hm=>exact⟨a,cap,rfl,WF _,hm,λh=>absurd rfl h⟩
 |lst _ b o sz cap hl hn hm h=>exact⟨_,cap,rfl,hn,hm,λ_=>⟨b,o,sz,rfl,hl,h⟩⟩
theorem aA{α:Type}{l:List α}{i:Nat}{x:α}(h:l[i]? =some x):i<l.length:=by
 rcases VO i l.length with h5|h5
 ·exact h5
 ·rw[VP h5]at h;cases h
theorem Bn{H:ac}(hW:aW w σ H){t:TypeId}{x ix v:AV}{x' ix':Value}(hx:aT w σ (aH σ H) x x')(hi:aT w σ (aH σ H) ix ix')(h:dI P (mo H x) t x ix=some v):
  ∃v',(Instr.indexAt t x' ix').run P w=.ok v' w∧aT w σ (aH σ H) v v':=by
 unfold dI at h;split at h
 ·rename_i k i;cases hi;by_cases h0:i<0
  ·rw[if_pos h0]at h;cases h
  ·rw[if_neg h0]at h;split at h
   ·rename_i e b j n hu;split at h
    ·rename_i hlt;obtain⟨hlt,hso,hsz⟩:=hlt;cases h;cases hy:H.get b with
     |none=>simp[mo,hy]at hso
     |some y=>
     simp only[mo,hy,Wb]at hsz;obtain⟨pl,a,cap,rfl,hs,hn,hm,ha⟩:=hx.sl_inv;obtain⟨rfl,cs,ty,hc,hr⟩:=ha Xr;have hii:0≤i∧i<(n:Int):=by omega
     obtain⟨pl',cs',e',h1,h2⟩:=hW.live b y hy;rw[hs]at h1;cases h1;have hp:=hx.sl_ok hs;replace h2:=h2.1 hp;refine⟨_,by simp only[Instr.indexAt,asIntOf,Wh,Wu,VX,run_underlying hu,Sem.run_ite,if_pos hii,cE hsz,eu];rfl,?_⟩;have:=aT.ptr (w:=w) (T:=aH σ H) b (j+i.toNat) 0 pl hs hp;rw[←h2.size];simpa[Ws,WC]using this
    ·cases h
   ·rename_i e rows hu;split at h
    ·rename_i r hr;split at h
     ·rename_i hsz;cases h;have hlt:=aA hr;have hii:0≤i∧i<(rows.length:Int):=by omega
      obtain⟨A,cap,rfl,hn,hm,ha⟩:=hx.lst_inv;obtain⟨b,o,sz,rfl,hl,h⟩:=ha (by rintro rfl;simp at hr);have hrs:=hl.even _ _ hr;subst hrs;refine⟨_,by simp only[Instr.indexAt,asIntOf,Wh,Wu,VX,run_underlying hu,Sem.run_ite,if_pos hii,cE hsz,eu];rfl,?_⟩;exact aT.pptr rows i.toNat 0 b o _ hl h
     ·cases h
    ·cases h
   ·rename_i len e b j off hu;split at h
    ·rename_i hlt;cases hn:aQ P e with
     |none=>rw[hn]at h;cases h
     |some n=>
      rw[hn]at h;cases h;cases hx;rename_i pl hp hs;have hii:0≤i∧i<(len:Int):=by omega
      refine⟨_,by simp only[Instr.indexAt,asIntOf,Wh,Wu,VX,run_underlying hu,Instr.sureAddr,Sem.run_ite,if_pos hii,cE hn,eu];rfl,?_⟩;have:=aT.ptr (w:=w) (T:=aH σ H) b j (off+i.toNat*n) pl hs hp
      rwa [←WC]at this
    ·cases h
   ·rename_i len e rows j off hu;split at h
    ·rename_i hlt;cases hn:aQ P e with
     |none=>rw[hn]at h;cases h
     |some n=>
      rw[hn]at h;cases h;cases hx;rename_i b o sz hl h;have hii:0≤i∧i<(len:Int):=by omega
      refine⟨_,by simp only[Instr.indexAt,asIntOf,Wh,Wu,VX,run_underlying hu,Instr.sureAddr,Sem.run_ite,if_pos hii,cE hn,eu];rfl,?_⟩;have:=aT.pptr rows j (off+i.toNat*n) b o sz hl h
      rwa [←WC]at this
    ·cases h
   ·cases h
 ·cases h
theorem HN{t:TypeId}{x ix v:AV}{x' ix':Value}(hx:aT w σ T x x')(hi:aT w σ T ix ix')(h:CN P t x ix=some v):
  ∃v',(Instr.index t x' ix').run P w=.ok v' w∧aT w σ T v v':=by
 unfold CN at h;split at h
 ·rename_i s k i hu;cases hi;by_cases h0:i<0
  ·rw[if_pos h0]at h;cases h
  ·rw[if_neg h0]at h;cases hx;rename_i ba;cases hb:ba.data.toList[i.toNat]? with
   |none=>rw[hb]at h;cases h
   |some c=>
    rw[hb]at h;cases h;have hlt:=aA hb;have h1:ba[i.toNat]? =some c:=by
     have hlt':i.toNat<ba.size:=by rw[V6]at hlt;exact hlt
     rw[getElem?_pos ba i.toNat hlt'];rw[VK hlt]at hb;rw[←hb];rfl
    have hii:0≤i:=by omega
    have e:(if 0≤i then ba[i.toNat]? else none)=some c:=by rw[if_pos hii];exact h1
    exact⟨.int .u8 c.toNat,by simp only[Instr.index,asIntOf,Wh,Wu,VX,run_underlying hu,e],.int _ _⟩
 ·rename_i len e cs k i hu;split at h
  ·rename_i hlt;cases hn:aQ P e with
   |none=>rw[hn]at h;cases h
   |some n=>
    rw[hn]at h;simp only[Wy]at h;cases hi;cases hx;rename_i vs hl hr;obtain⟨v',h1,h2⟩:=rW (P:=P) (w:=w) (σ:=σ) (T:=T) ⟨hl,hr⟩ h;have hii:0≤i∧i<(len:Int):=by omega
    refine⟨v',?_,h2⟩;simp only[Instr.index,asIntOf,Wh,Wu,VX,run_underlying hu];rw[if_pos hii];simp only[Wh,cE hn,VX,h1]
  ·cases h
 ·cases h
theorem oQ{x:AV}{x':Value}{n:Nat}(hx:aT w σ T x x')(h:m6 x=some n):∃k i,x'=.int k i∧0≤i∧i.toNat=n:=by
 unfold m6 at h;split at h
 ·rename_i k i;split at h
  ·rename_i h0;cases h;cases hx;exact⟨k,i,rfl,h0,rfl⟩
  ·cases h
 ·cases h
end
end
section
structure MZ(P:Program)(t:TypeId)(ts:List TypeId):Prop where
 under:P.underlying t=some (.struct (P.fieldsOf t))
 stood:P.stoodInHeld t=false
 guard:P.eqGuardType P.depth t=false
 types:(P.fieldsOf t).toList.map (·.type)=ts
 fields : ∀ (i : Nat) (f : Field), (P.fieldsOf t).toList[i]? = some f → f.name ≠ "_" ∧ f.offset = i ∧ eR P f.type = some false
section
variable {P:Program} {w:World} {σ:bb} {T:Nat→Prop}
theorem bytes_beq(a b:ByteArray):(a.toList==b.toList)=(a.data.toList==b.data.toList):=by rw[ByteArray.toList_eq,ByteArray.toList_eq]
theorem zb{t:TypeId}{x y:AV}{x' y':Value}{r:Bool}{d:Nat}(hx:aT w σ T x x')(hy:aT w σ T y y')(h:AZ P t x y=some r):
  (Op.equalIn (d+1) t x' y').run P w=.ok r w:=by
 unfold AZ at h;split at h
 case h_1 hu=>
  split at h
  ·rename_i hk;subst hk;cases h;cases hx;cases hy;exact run_equalIn_int w d t _ _ _ _ hu
  ·cases h
 case h_2 hu=>cases h;cases hx;cases hy;exact run_equalIn_bool' w d t _ _ hu
 case h_3 hu=>cases h;cases hx;cases hy;rw[run_equalIn_string w d t _ _ hu,bytes_beq]
 case h_4 hu=>cases h;cases hx;cases hy;simp[Op.equalIn,run_underlying hu]
 case h_5 hu=>cases h;cases hx;cases hy;simp[Op.equalIn,run_underlying hu]
 case h_6 hu=>cases h;cases hx;cases hy;simp[Op.equalIn,run_underlying hu]
 case h_7 hu=>cases h;cases hx;cases hy;simp[Op.equalIn,run_underlying hu]
 case h_8 hu=>cases h;cases hx;cases hy;simp[Op.equalIn,run_underlying hu]
 case h_9 hu=>cases h;cases hx;cases hy;simp[Op.equalIn,run_underlying hu]
 case h_10 hu=>cases h;cases hx;cases hy;simp[Op.equalIn,run_underlying hu]
 case h_11 hu=>cases h;cases hx;cases hy;simp[Op.equalIn,run_underlying hu]
 case h_12 hu=>cases h;cases hx;cases hy;simp[Op.equalIn,run_underlying hu]
 case h_13 hu=>cases h;cases hx;cases hy;simp[Op.equalIn,run_underlying hu]
 case h_14=>cases h
theorem HO{t:TypeId}{cs:List AV}{vs:List Value}{i:Nat}{a:AV}(ht:eR P t=some false)(h:eh w σ T cs vs)(ha:cs[i]? =some a):
  ∃v,(part t vs.toArray i).run P w=.ok v w∧aT w σ T a v:=by
 have hi:=aA ha;have hi':i<vs.length:=by rw[←h.1];exact hi
 exact⟨vs[i],by simp[part,lv ht,hi'],h.2 i a _ ha (VK hi')⟩
theorem sE{d:Nat}{cs ds:List AV}{xs ys:List Value}(hc:eh w σ T cs xs)(hd:eh w σ T ds ys):∀(fs:List Field) (k:Nat) (r:Bool),
  (∀ (i : Nat) (f : Field), fs[i]? = some f → f.name ≠ "_" ∧ f.offset = k + i ∧ eR P f.type = some false) → Gp P (fs.map (·.type)) (cs.drop k) (ds.drop k) = some r→
  (Op.eqFields (d+1) xs.toArray ys.toArray fs).run P w=.ok r w
 | [],k,r,_,h=>by
  unfold Gp at h;split at h
  ·cases h;rfl
  ·simp_all
  ·cases h
 | f::fs,k,r,hf,h=>by
  unfold Gp at h;split at h
  ·rename_i e _ _;cases e
  ·rename_i t ts a l b m e1 e2 e3;cases e1;obtain⟨h1,h2,h3⟩:=hf 0 f rfl;have ha:cs[k]? =some a:=by have:=congrArg (·[0]?) e2;simpa[WB]using this
   have hb:ds[k]? =some b:=by have:=congrArg (·[0]?) e3;simpa[WB]using this
   have hl:l=cs.drop (k+1):=by have:=congrArg List.tail e2;simpa[List.tail_drop]using this.symm
   have hm:m=ds.drop (k+1):=by have:=congrArg List.tail e3;simpa[List.tail_drop]using this.symm
   simp only[Xd]at h2;obtain⟨u,hu1,hu2⟩:=HO (P:=P) h3 hc ha;obtain⟨v,hv1,hv2⟩:=HO (P:=P) h3 hd hb;rw[←h2]at hu1 hv1;simp only[Op.eqFields,if_pos h1,Wh,hu1,hv1,VX];split at h
   ·rename_i he;rw[zb hu2 hv2 he];simp only[VX,Bool.not_true,Wd,if_false];exact sE hc hd fs (k+1) r (λi g hg=>by have:=hf (i+1) g (by simpa using hg);refine⟨this.1,by rw[this.2.1];omega,this.2.2⟩) (by rw[←hl,←hm];exact h)
   ·rename_i he;rw[zb hu2 hv2 h];cases r with
    |true=>exact absurd h he
    |false=>rfl
  ·cases h
theorem Fb{op:BinOp}{t:TypeId}{x y:Operand}{a b:Value}(h:∀xs,a≠.agg xs)(h':a≠.nilIface):(eqGuard op t x y a b).run P w=.ok () w:=by cases a<;>cases op<;>simp_all[eqGuard]
theorem A3:∀(a b:List UInt8),vM a b=Op.bytesLess a b
 |_,[]=>by cases ‹List UInt8›<;>rfl
 |[],_::_=>rfl
 |a::x,b::y=>by simp[vM,Op.bytesLess,A3 x y]
theorem aT.ne_agg{a:AV}{v:Value}(h:aT w σ T a v)(hc:∀cs,a≠.agg cs)(hj:a≠.junk):(∀xs,v≠.agg xs)∧v≠.nilIface:=by cases h<;>first|(exact absurd rfl (hc _))|(exact absurd rfl hj)|(constructor<;>simp)
theorem M1{op:UnOp}{x v:AV}{x':Value}(hx:aT w σ T x x')(h:Vb op x=some v):∃v',(Op.unary op x').run P w=.ok v' w∧aT w σ T v v':=by
 unfold Vb at h;split at h
 ·cases h;cases hx;exact⟨_,rfl,.int _ _⟩
 ·cases h;cases hx;exact⟨_,rfl,.bool _⟩
 ·cases h
theorem JG{s d:TypeId}{x v:AV}{x':Value}(hx:aT w σ T x x')(h:HH P s d x=some v):∃v',(convert s d x').run P w=.ok v' w∧aT w σ T v v':=by
 unfold HH at h;split at h
 ·rename_i hu hv;cases h;cases hx;exact⟨_,by simp[convert,run_underlying hu,run_underlying hv,Conv.intToInt],.int _ _⟩
 ·rename_i hu hv;cases h;cases hx;exact⟨_,by simp[convert,run_underlying hu,run_underlying hv],.str _⟩
 ·cases h
end
end
end Go.Proofs.YtdnpdghlggbklaaGreatDoor.Am
