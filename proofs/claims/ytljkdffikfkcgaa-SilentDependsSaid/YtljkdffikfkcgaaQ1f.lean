/- A part of the proof; the statement is proved in the last part. -/
import Derived.Test.YtljkdffikfkcgaaQ1e
import Derived.Test.YtljkdffikfkcgaaRows
import Derived.WalkKit
import Derived.ProofKit
import Derived.OpenShut
import Derived.Handy
import Derived.Outline
import Derived.Lib.Hide
import Derived.Deep.Slices
import Derived.Deep.Fields
import Derived.ChangeSame
import Derived.Carry
import Derived.Deep.Draws
import Derived.Laws.AppendOwn
import Derived.Laws.OwnMore
import Derived.Laws.MakeOwn
import Derived.OwnWalk
import Derived.Shelf.Small.Wraps
import Derived.Shelf.Sort.Plain
import Derived.Ground.Names2Prog
import Derived.Shelf.Slices.Clone
import Derived.Shelf.Slices.CompactI
import Derived.Shelf.Slices.In.SortNone
import Derived.Ground.SlgnProg
import Derived.Shelf.SlicesE.Clone
import Derived.Test.YtljkdffikfkcgaaProg
import Derived.WalkSpells
import Derived.Deep.DeepMust
import Derived.Sort.OwnSortedInts
set_option linter.unusedSimpArgs false
set_option linter.unusedVariables false
section
namespace Go.Proofs.Ytljkdffikfkcgaa.Am
set_option linter.unusedVariables false
abbrev aL:=List UInt8
structure A3 where
 name:aL
 index:Int
 size:Int
 volatile:Bool
 init:Int
 deriving Inhabited,DecidableEq
structure A4 where
 name:aL
 rw:Bool
 deriving Inhabited,DecidableEq
structure A5 where
 name:aL
 mutex:Int
 deriving Inhabited,DecidableEq
structure A6 where
 thread:Int
 stmt:Int
 line:Int
 deriving Inhabited,DecidableEq
structure CP where
 cells:List A3
 locks:List A4
 conds:List A5
 futures:List aL
 threads:List aL
 sites:List A6
 deriving Inhabited,DecidableEq
structure LockD where
 owner:Int
 readers:List Int
 deriving Inhabited,DecidableEq
structure ThrD where
 status:Int
 cond:Int
 atomic:Bool
 deriving Inhabited,DecidableEq
structure SyncD where
 locks:List LockD
 tx:Int
 done:List Bool
 threads:List ThrD
 deriving Inhabited,DecidableEq
def A3.enc(c:A3):List AV:=[.str c.name,.int .i64 c.index,.int .i64 c.size,.bool c.volatile,.int .i64 c.init]
def A4.enc(c:A4):List AV:=[.str c.name,.bool c.rw]
def A5.enc(c:A5):List AV:=[.str c.name,.int .i64 c.mutex]
def A6.enc(c:A6):List AV:=[.int .i64 c.thread,.int .i64 c.stmt,.int .i64 c.line]
def az(s:aL):List AV:=[.str s]
def aJ(n:Int):List AV:=[.int .i64 n]
def Ia(b:Bool):List AV:=[.bool b]
def LockD.enc(l:LockD):List AV:=[.int .i64 l.owner,.lst (l.readers.map aJ)]
def ThrD.enc(t:ThrD):List AV:=[.int .i64 t.status,.int .i64 t.cond,.bool t.atomic]
def CP.enc(w:CP):List AV:=[.lst (w.cells.map A3.enc),.lst (w.locks.map A4.enc),.lst (w.conds.map A5.enc),.lst (w.futures.map az),.lst (w.threads.map az),.lst (w.sites.map A6.enc)]
def SyncD.enc(s:SyncD):List AV:=[.lst (s.locks.map LockD.enc),.int .i64 s.tx,.lst (s.done.map Ia),.lst (s.threads.map ThrD.enc)]
theorem aC{α β:Type}{f:α→β}{l:List α}{i:Nat}(h:i<l.length):(l.map f)[i]? =some (f l[i]):=by simp[h]
theorem bH{i n:Nat}(h:i<n)(hn:n<2^62):IntKind.i64.wrap ((i:Int)+1)=((i+1:Nat):Int):=by rw[IntWalk.i64_in _ (by omega)];omega
theorem ct{i n:Nat}(h:i<n):decide ((i:Int)<(n:Int))=true:=by simpa using h
theorem ee{i n:Nat}(h:n≤i):decide ((i:Int)<(n:Int))=false:=by simpa using h
theorem uS{vs vs2:List AV}{L L2:SH}(hv:vs=vs2)(hL:L=L2):aV vs L vs2 L2:=by subst hv;subst hL;exact .refl _ _
theorem Gj(n:Nat)(S:Nat→List AV×SH)(G:Nat→Prop){B:List AV→SH→W.Kn→Prop}{vs:List AV}{L:SH}(h0:G 0)(hv:vs=(S 0).1)(hL:L=(S 0).2)
  (h:∀i,i≤n→G i→B (S i).1 (S i).2 fun vs' L'=>∃j,i<j∧j≤n∧G j∧aV vs' L' (S j).1 (S j).2):W.loop B vs L:=by
 refine⟨fun k vs L=>∃i,i≤n∧G i∧k=n-i∧vs=(S i).1∧L=(S i).2,⟨n,_,_,.refl _ _,0,Nat.zero_le _,h0,rfl,hv,hL⟩,?_⟩
 rintro k vs L ⟨i,hi,hG,rfl,rfl,rfl⟩
 have e:(fun vs' L'=>∃m vs2 L2,m<n-i∧aV vs' L' vs2 L2∧∃j,j≤n∧G j∧m=n-j∧vs2=(S j).1∧L2=(S j).2)=fun vs' L'=>∃j,i<j∧j≤n∧G j∧aV vs' L' (S j).1 (S j).2:=by
  funext vs' L'
  apply propext
  constructor
  ·rintro⟨m,vs2,L2,h1,h2,j,h3,h4,rfl,rfl,rfl⟩;exact⟨j,by omega,h3,h4,h2⟩
  ·rintro⟨j,h1,h2,h3,h4⟩;exact⟨n-j,_,_,by omega,h4,j,h2,h3,rfl,rfl,rfl⟩
 rw[e]
 exact h i hi hG
def inB(i:Int)(n:Nat):Bool:=decide (0≤i)&&decide (i<(n:Int))
theorem gX{i:Int}{n:Nat}:inB i n=true↔0≤i∧i<n:=by simp[inB]
theorem Gk{α:Type}[Inhabited α]{f:α→List AV}{l:List α}{i:Int}(h:inB i l.length=true):(l.map f)[i.toNat]? =some (f (l.getD i.toNat default)):=by
 obtain⟨h1,h2⟩:=gX.1 h
 have:i.toNat<l.length:=by omega
 simp[this]
end Go.Proofs.Ytljkdffikfkcgaa.Am
end
section
namespace Go.Proofs.Ytljkdffikfkcgaa.Am
set_option maxRecDepth 100000
set_option linter.unusedSimpArgs false
set_option linter.unusedVariables false
theorem Fz.slm{α:Type}{K:SH}{b n size:Nat}{l:List α}{f g:α→List AV}{rows:List (List AV)}(hm:(b,⟨size,rows⟩)∈K)(hr:rows=l.map f)(hs:0<size)(hn:n=l.length)(hl:∀y∈l,(f y).length=(g y).length)
  (hc:∀y∈l,∀(q:Nat) (a a2:AV),(f y)[q]? =some a→(g y)[q]? =some a2→Fz K a a2):Fz K (.sl b 0 n) (.lst (l.map g)):=by
 subst hr
 subst hn
 cases l with
 | nil=>exact .sl0 b 0
 | cons x l=>
  have get:∀(j:Nat) (r r2:List AV),((x::l).map f)[0+j]? =some r→((x::l).map g)[j]? =some r2→∃y∈x::l,r=f y∧r2=g y:=fun j r r2 h1 h2=>by
   rw[Nat.zero_add,List.getElem?_map]at h1
   rw[List.getElem?_map]at h2
   cases hj:(x::l)[j]? with
   | none=>rw[hj]at h1;cases h1
   | some y=>
    rw[hj]at h1 h2
    cases h1;cases h2
    exact⟨y,List.mem_of_getElem? hj,rfl,rfl⟩
  refine .sl b 0 _ ⟨size,(x::l).map f⟩ _ hm hs (by simp) (by simp) (by simp) (fun j r r2 h1 h2=>?_) (fun j r r2 q a a2 h1 h2 h3 h4=>?_)
  ·obtain⟨y,hy,rfl,rfl⟩:=get j r r2 h1 h2;exact hl y hy
  ·obtain⟨y,hy,rfl,rfl⟩:=get j r r2 h1 h2;exact hc y hy q a a2 h3 h4
theorem Fz.sls{α:Type}{K:SH}{b n size:Nat}{l:List α}{f:α→List AV}{rows:List (List AV)}(hm:(b,⟨size,rows⟩)∈K)(hr:rows=l.map f)(hs:0<size)(hn:n=l.length):Fz K (.sl b 0 n) (.lst (l.map f)):=
 Fz.slm hm hr hs hn (fun _ _=>rfl) fun y _ q a a2 h1 h2=>by rw[h1]at h2;cases h2;exact .refl _
inductive pV (K:SH):List AV→List AV→Prop where
 | nil:pV K [] []
 | cons {a b:AV} {l m:List AV}:Fz K a b→pV K l m→pV K (a::l) (b::m)
theorem pV.at_{K:SH}{l m:List AV}(h:pV K l m):l.length=m.length∧∀(i:Nat) (a b:AV),l[i]? =some a→m[i]? =some b→Fz K a b:=by
 induction h with
 | nil=>exact⟨rfl,fun i a b h=>by simp at h⟩
 | cons h1 h2 ih=>
  refine⟨by simp[ih.1],fun i a b ha hb=>?_⟩
  match i with
  | 0=>cases ha;cases hb;exact h1
  | i+1=>exact ih.2 i a b (by simpa using ha) (by simpa using hb)
theorem Fz.aggs{K:SH}{l m:List AV}(h:pV K l m):Fz K (.agg l) (.agg m):=.agg l m h.at_.1 h.at_.2
theorem Fz.tups{K:SH}{l m:List AV}(h:pV K l m):Fz K (.tup l) (.tup m):=.tup l m h.at_.1 h.at_.2
theorem aV.all{L:SH}{v v2:AV}(h:Fz L v v2):aV [v] L [v2] []:=.drop (K:=L) (R:=[]) (by simp) rfl fun i a a2 h1 h2=>by
 match i with
 | 0=>cases h1;cases h2;exact h
 | i+1=>simp at h1
def au:Option Nat→Nat→AV
 | none,_=>.emp
 | some b,n=>.sl b 0 n
def ao(o:Option Nat)(size:Nat)(rows:List (List AV)):SH:=match o with
 | none=>[]
 | some b=>[(b,⟨size,rows⟩)]
theorem dG.app{b:Nat}{x:Blk}{L L':SH}(h:dG b x L L'):∀M:SH,dG b x (M++L) (M++L')
 | []=>h
 | p::M=>.there p (h.app M)
theorem aV.forget{vs:List AV}{L K R:SH}(hL:L.Perm (K++R)):aV vs L vs R:=.drop hL rfl fun i a a2 h1 h2=>by rw[h1]at h2;cases h2;exact .refl _
theorem aV.box{vs:List AV}{L K R:SH}{b n:Nat}{r r':List AV}(hL:L.Perm (K++(b,⟨n,[r]⟩)::R))(hr:pV K r r'):aV vs L vs ((b,⟨n,[r']⟩)::R):=by
 refine⟨K,(b,⟨n,[r]⟩)::R,hL,⟨rfl,fun i a a2 h1 h2=>by rw[h1]at h2;cases h2;exact .refl _⟩,rfl,fun i p q h1 h2=>?_⟩
 match i with
 | 0=>
  cases h1;cases h2
  refine⟨rfl,rfl,rfl,fun j s s2 g1 g2=>?_⟩
  match j with
  | 0=>cases g1;cases g2;exact⟨hr.at_.1,hr.at_.2⟩
  | j+1=>simp at g1
 | i+1=>
  simp only[List.getElem?_cons_succ]at h1 h2
  rw[h1]at h2;cases h2
  exact⟨rfl,rfl,rfl,fun j r r2 h3 h4=>by rw[h3]at h4;cases h4;exact⟨rfl,fun k a a2 h5 h6=>by rw[h5]at h6;cases h6;exact .refl _⟩⟩
theorem Fz.slot{α:Type}{o:Option Nat}{size:Nat}{l:List α}{f g:α→List AV}{rows:List (List AV)}(hr:rows=l.map f)(h0:o=none→rows=[])(hs:0<size)(hl:∀y∈l,(f y).length=(g y).length)
  (hc:∀y∈l,∀(q:Nat) (a a2:AV),(f y)[q]? =some a→(g y)[q]? =some a2→Fz (ao o size rows) a a2):Fz (ao o size rows) (au o l.length) (.lst (l.map g)):=by
 cases o with
 | none=>
  have:=h0 rfl
  subst hr
  have:l=[]:=by simpa using this
  subst this
  exact .emp
 | some b=>exact Fz.slm (List.mem_singleton.2 rfl) hr hs rfl hl hc
theorem cH{β:Type}(n:Nat)(S:Nat→β→List AV×SH)(G:Nat→β→Prop){B:List AV→SH→W.Kn→Prop}{vs:List AV}{L:SH}(b0:β)(h0:G 0 b0)(hz:aV vs L (S 0 b0).1 (S 0 b0).2)
  (h:∀i o,i≤n→G i o→B (S i o).1 (S i o).2 fun vs' L'=>∃j o',i<j∧j≤n∧G j o'∧aV vs' L' (S j o').1 (S j o').2):W.loop B vs L:=by
 refine⟨fun k vs L=>∃i o,i≤n∧G i o∧k=n-i∧vs=(S i o).1∧L=(S i o).2,⟨n,_,_,hz,0,b0,Nat.zero_le _,h0,rfl,rfl,rfl⟩,?_⟩
 rintro k vs L ⟨i,o,hi,hG,rfl,rfl,rfl⟩
 have e:(fun vs' L'=>∃m vs2 L2,m<n-i∧aV vs' L' vs2 L2∧∃j o',j≤n∧G j o'∧m=n-j∧vs2=(S j o').1∧L2=(S j o').2)=fun vs' L'=>∃j o',i<j∧j≤n∧G j o'∧aV vs' L' (S j o').1 (S j o').2:=by
  funext vs' L'
  apply propext
  constructor
  ·rintro⟨m,vs2,L2,h1,h2,j,o',h3,h4,rfl,rfl,rfl⟩;exact⟨j,o',by omega,h3,h4,h2⟩
  ·rintro⟨j,o',h1,h2,h3,h4⟩;exact⟨n-j,_,_,by omega,h4,j,o',h2,h3,rfl,rfl,rfl⟩
 rw[e]
 exact h i o hi hG
end Go.Proofs.Ytljkdffikfkcgaa.Am
end
section
namespace Go.Proofs.Ytljkdffikfkcgaa.Am
set_option linter.unusedVariables false
structure W.callM(P:Program)(g:FuncId)(args:List AV)(L:SH)(KL:AV→SH→Prop):Prop where
 h:am P g args L KL
structure W.dcallM(P:Program)(us:List W.WR)(i:Nat)(g:FuncId)(args:List AV)(L:SH)(KN:AV→SH→List Nat→Prop):Prop where
 h:∃Kc R:SH,L.Perm (Kc++R)∧(∀x∈us,W.free x ⟨i,[],Kc.names,[],true,[]⟩)∧am P g args Kc fun v Kc'=>KN v (Kc'++R) Kc.names
section
variable {P:Program} {g:FuncId} {args:List AV} {L:SH} {KL:AV→SH→Prop} {KN:AV→SH→List Nat→Prop} {us:List W.WR} {i:Nat} {v:AV}
theorem CQ(h:W.callM P g args L KL):W.call P (.fn g []) args L KL:=by rw[Eo,List.append_nil];exact h.h
theorem aj(h1:aO P g args v)(h:KL v L):W.callM P g args L KL:=⟨h1.call h⟩
theorem A7(h:am P g args L KL):W.callM P g args L KL:=⟨h⟩
theorem xE{K R:SH}{R1:AV→SH→Prop}(h:am P g args K R1)(hL:L.Perm (K++R))(hq:∀v K',R1 v K'→KL v (K'++R)):W.callM P g args L KL:=⟨h.frame hL hq⟩
theorem kS{b:Nat}{x:Blk}{L':SH}{R1:AV→SH→Prop}(h:am P g args [(b,x)] R1)(hd:dG b x L L')(hq:∀v K',R1 v K'→KL v (K'++L')):W.callM P g args L KL:=⟨h.frame hd.perm hq⟩
theorem uT{b1 b2:Nat}{x1 x2:Blk}{L1 L2:SH}(h1:dG b1 x1 L L1)(h2:dG b2 x2 L1 L2):L.Perm ([(b1,x1),(b2,x2)]++L2):=h1.perm.trans (h2.perm.cons _)
theorem CR{b1 b2:Nat}{x1 x2:Blk}{L1 L2:SH}{R1:AV→SH→Prop}(h:am P g args [(b1,x1),(b2,x2)] R1)(h1:dG b1 x1 L L1)(h2:dG b2 x2 L1 L2)(hq:∀v K',R1 v K'→KL v (K'++L2)):W.callM P g args L KL:=⟨h.frame (uT h1 h2) hq⟩
theorem CS{b:Nat}{x:Blk}{L':SH}{R1:AV→SH→Prop}(h:am P g args [(b,x)] R1)(hd:dG b x L L')(hf:∀y∈us,W.free y ⟨i,[],[b],[],true,[]⟩)(hq:∀v K',R1 v K'→KN v (K'++L') [b]):W.dcallM P us i g args L KN:=
 ⟨[(b,x)],L',hd.perm,hf,h.mono hq⟩
theorem BJ{b1 b2:Nat}{x1 x2:Blk}{L1 L2:SH}{R1:AV→SH→Prop}(h:am P g args [(b1,x1),(b2,x2)] R1)(h1:dG b1 x1 L L1)(h2:dG b2 x2 L1 L2)(hf:∀y∈us,W.free y ⟨i,[],[b1,b2],[],true,[]⟩)(hq:∀v K',R1 v K'→KN v (K'++L2) [b1,b2]):W.dcallM P us i g args L KN:=
 ⟨[(b1,x1),(b2,x2)],L2,uT h1 h2,hf,h.mono hq⟩
theorem aV.keep1{v2:AV}{b:Nat}{x:Blk}{L1:SH}(h1:dG b x L L1)(hv:Fz L1 v v2):aV [v] L [v2] [(b,x)]:=by
 refine .drop (K:=L1) (h1.perm.trans (List.perm_append_comm (l₁:=[(b,x)]))) rfl fun i a a2 e1 e2=>?_
 match i with
 | 0=>cases e1;cases e2;exact hv
 | i+1=>simp at e1
theorem aV.keep2{v2:AV}{b1 b2:Nat}{x1 x2:Blk}{L1 L2:SH}(h1:dG b1 x1 L L1)(h2:dG b2 x2 L1 L2)(hv:Fz L2 v v2):aV [v] L [v2] [(b1,x1),(b2,x2)]:=by
 refine .drop (K:=L2) ((uT h1 h2).trans List.perm_append_comm) rfl fun i a a2 e1 e2=>?_
 match i with
 | 0=>cases e1;cases e2;exact hv
 | i+1=>simp at e1
theorem am.nd{f:FuncId}{Q:AV→SH→Prop}(hb:∃fn c,P.funcs[f]? =some fn∧fn.body=some c)(h:L.names.Nodup→am P f args L Q):am P f args L Q:=⟨hb,fun H hB hs=>(h hs.nd).2 H hB hs⟩
theorem am.pre{f:FuncId}{args2:List AV}{L2:SH}{Q:AV→SH→Prop}(hz:aV args L args2 L2)(h:am P f args2 L2 Q):am P f args L Q:=⟨h.1,fun H hb hs=>by
 obtain⟨H2,f1,f2,f3,f4⟩:=iJ hz hs hb
 obtain⟨v,H',L',h1,h2,h3⟩:=h.2 H2 f1.bd f1.sub
 refine⟨v,H',L',fun w σ vs hW hvs=>?_,f1.trans (h2.low (by rw[f2];exact Nat.le_refl _)) (Nat.le_refl _),h3⟩
 obtain⟨g1,g2,g3⟩:=f3 w σ hW
 refine(h1 w σ vs g1 (g3 vs hvs)).mono ?_
 rintro e w' ⟨v',σ',rfl,k1,k2,k3,k4⟩
 exact⟨v',σ',rfl,k1,k2,⟨k3.os,k3.tape,k3.output,k3.size,fun c hc hT=>k3.keep c hc (fun h=>hT (g2 c h)),k3.shape,k3.sig,k3.eqfr,k3.frame,fun c hc=>(k3.own c hc).imp (g2 c) id⟩,fun c pl hc=>by rw[←f2];exact k4 c pl hc⟩⟩
theorem aV.vals{vs vs2:List AV}(h:pV [] vs vs2):aV vs L vs2 L:=.drop (K:=[]) (.refl _) h.at_.1 h.at_.2
theorem aq(k:FuncId)(h:W.callM P k args L KL):W.callM P k args L KL:=h
theorem al(k:FuncId)(h:W.dcallM P us i k args L KN):W.dcallM P us i k args L KN:=h
theorem A8(h:W.dcallM P us i g args L KN):W.dcall P us i (.fn g []) args L KN:=by rw[Cv,List.append_nil];exact h.h
theorem EC(h:aO P g args v)(hf:∀x∈us,W.free x ⟨i,[],[],[],true,[]⟩)(hk:KN v L []):W.dcallM P us i g args L KN:=
 ⟨[],L,.refl _,hf,am.mono h fun u K ⟨h1,h2⟩=>by subst h1;subst h2;exact hk⟩
end
theorem Ib{n:Nat}{a:AV}{L:SH}{K:AV→Prop}(h:W.load true n a L K):W.load true n a L K:=h
theorem ED{off:Nat}{x:AV}{K:AV→Prop}(h:W.faddr off x K):W.faddr off x K:=h
theorem Ic{n:Nat}{x ix:AV}{L:SH}{K:AV→Prop}(h:W.idx n x ix L K):W.idx n x ix L K:=h
theorem Ie{x:AV}{K:AV→Prop}(h:W.len x K):W.len x K:=h
theorem If{i:Nat}{x:AV}{K:AV→Prop}(h:W.ext i x K):W.ext i x K:=h
theorem Gl{us:List W.WR}{y:W.WR}{A:Prop}(h:W.calm us y A):W.calm us y A:=h
theorem Gm{r:W.Fp}{K:W.Fp→Prop}(h:W.note r K):W.note r K:=h
theorem Gn{c x y:AV}{K:AV→Prop}(h:W.pick c x y K):W.pick c x y K:=h
theorem FJ{x:AV}{want:Bool}{A:(AV→SH→Prop)→Prop}{L:SH}{K:AV→SH→Prop}(h:W.grd x want A L K):W.grd x want A L K:=h
theorem CT{x:AV}{want:Bool}{A:(AV→SH→W.Fp→Prop)→Prop}{L:SH}{K:AV→SH→W.Fp→Prop}(h:W.dgrd x want A L K):W.dgrd x want A L K:=h
theorem I6{op:UnOp}{x:AV}{K:AV→Prop}(h:W.un op x K):W.un op x K:=h
theorem Ig{x:AV}{L:SH}{K:AV→SH→Prop}(h:W.box x L K):W.box x L K:=h
theorem Gp{v:AV}{L:SH}{K:AV→SH→Prop}(h:W.frz1 v L K):W.frz1 v L K:=h
theorem EE{n:Nat}{a v:AV}{L:SH}{K:SH→Prop}(h:W.store n a v L K):W.store n a v L K:=h
theorem CU{n:Nat}{z:List AV}{len:Nat}{ps:List (Nat×AV)}{L:SH}{K:AV→SH→Prop}(h:W.bslice n z len ps L K):W.bslice n z len ps L K:=h
theorem CV{n by_:Nat}{z:List AV}{l c:AV}{L:SH}{K:AV→SH→Prop}(h:W.mslice n by_ z l c L K):W.mslice n by_ z l c L K:=h
theorem CW{x:AV}{K:AV→Prop}(h:W.nilchk x K):W.nilchk x K:=h
end Go.Proofs.Ytljkdffikfkcgaa.Am
end
section
namespace Go.Proofs.Ytljkdffikfkcgaa.Am
set_option linter.unusedVariables false
section
variable {P:Program} {g:FuncId} {args:List AV} {L:SH} {KL:AV→SH→Prop}
theorem Fr.permS{B:Nat}{L' L'':SH}{H H':ah}(h:Fr B L H L' H')(hp:L'.Perm L''):Fr B L H L'' H':=
 ⟨h.next,h.bd,h.sub.perm hp,fun b x h1 h2=>⟨(h.keep b x h1 h2).1,fun hm=>(h.keep b x h1 h2).2 ((hp.map Prod.fst).mem_iff.2 hm)⟩,h.dom,fun b hb hlt=>h.fresh b ((hp.map Prod.fst).mem_iff.2 hb) hlt⟩
end
end Go.Proofs.Ytljkdffikfkcgaa.Am
end
section
namespace Go.Proofs.Ytljkdffikfkcgaa.Am
set_option linter.unusedVariables false
section
variable {P:Program} {F:TypeId→Option (List TypeId)} {K:AV→Prop} {KL:AV→SH→Prop} {L:SH}
theorem yW{n:Nat}{rows:List (List AV)}{i off:Nat}{r:List AV}{v:AV}(h:K v)(h1:rows[i]? =some r:=by first | assumption | rfl)(h2:r[off]? =some v:=by rfl):W.load false n (.pptr rows i off) L K:=CJ h1 h2 h
theorem yX{n b i off:Nat}{x:Blk}{r:List AV}{v:AV}(h:K v)(hm:(b,x)∈L:=by repeat constructor)(h1:x.rows[i]? =some r:=by first | assumption | rfl)(h2:r[off]? =some v:=by rfl):W.load false n (.ptr b i off) L K:=uR hm h1 h2 h
theorem uf{n:Nat}{rows:List (List AV)}{i:Nat}{r:List AV}(h:K (.agg r))(h1:rows[i]? =some r:=by first | assumption | rfl)(h2:r.length=n:=by rfl):W.load true n (.pptr rows i 0) L K:=Et h1 h2 h
theorem A9{n b i:Nat}{x:Blk}{r:List AV}(h:K (.agg r))(hm:(b,x)∈L:=by repeat constructor)(h1:x.rows[i]? =some r:=by first | assumption | rfl)(h2:r.length=n:=by rfl):W.load true n (.ptr b i 0) L K:=Eu hm h1 h2 h
theorem FK{t:TypeId}{k:IntKind}{a b:Int}(h:K (.int k (a.tmod b)))(hb:b≠0:=by first | assumption | decide | omega | exact of_decide_eq_false (by assumption)):W.bin P F .rem t (.int k a) (.int k b) K:=FF hb h
theorem FL{t:TypeId}{k:IntKind}{a b:Int}(h:K (.int k (k.wrap (a.tdiv b))))(hb:b≠0:=by first | assumption | decide | omega | exact of_decide_eq_false (by assumption)):W.bin P F .quo t (.int k a) (.int k b) K:=H6 hb h
theorem yY{p:Bool}{A B:Prop}(h:A)(hp:p=true:=by first | assumption | rfl):W.cond (.bool p) A B:=CD hp h
theorem yZ{p:Bool}{A B:Prop}(h:B)(hp:p=false:=by first | assumption | rfl):W.cond (.bool p) A B:=CE hp h
theorem pW{n:Nat}{rows:List (List AV)}{k:IntKind}{j:Nat}{r:List AV}(h:K (.pptr rows j 0))(h1:rows[j]? =some r:=by first | assumption | rfl)(h2:r.length=n:=by rfl):W.idx n (.lst rows) (.int k (j:Int)) L K:=Ev h1 h2 h
theorem EF{n:Nat}{rows:List (List AV)}{k:IntKind}{i:Int}{r:List AV}(h:K (.pptr rows i.toNat 0))(h0:0≤i:=by first | decide | omega)(h1:rows[i.toNat]? =some r:=by first | assumption | rfl)(h2:r.length=n:=by rfl):W.idx n (.lst rows) (.int k i) L K:=Ew h0 h1 h2 h
theorem cR{n b m:Nat}{k:IntKind}{i:Nat}{y:Blk}(h:K (.ptr b i 0))(h1:i<m:=by first | assumption | omega)(hm:(b,y)∈L:=by repeat constructor)(h2:y.size=n:=by rfl):W.idx n (.sl b 0 m) (.int k (i:Int)) L K:=CM h1 hm h2 h
theorem EG{n b j m:Nat}{k:IntKind}{i:Int}{y:Blk}(h:K (.ptr b (j+i.toNat) 0))(h0:0≤i:=by first | decide | omega)(h1:i.toNat<m:=by first | assumption | omega)(hm:(b,y)∈L:=by repeat constructor)(h2:y.size=n:=by rfl):W.idx n (.sl b j m) (.int k i) L K:=Ey h0 h1 hm h2 h
theorem Ih{i:Nat}{vs:List AV}{v:AV}(h:K v)(h1:vs[i]? =some v:=by rfl):W.ext i (.tup vs) K:=H9 h1 h
theorem CX{p:Bool}{x y:AV}(h:K x)(hp:p=true:=by first | assumption | rfl):W.pick (.bool p) x y K:=Cw hp h
theorem CY{p:Bool}{x y:AV}(h:K y)(hp:p=false:=by first | assumption | rfl):W.pick (.bool p) x y K:=Cx hp h
theorem xF{p want:Bool}{A:(AV→SH→Prop)→Prop}(h:A KL)(hp:p=want:=by first | assumption | rfl):W.grd (.bool p) want A L KL:=Er hp h
theorem xG{p want:Bool}{A:(AV→SH→Prop)→Prop}(h:KL aZ L)(hp:p=!want:=by first | assumption | rfl):W.grd (.bool p) want A L KL:=Es hp h
theorem CZ{KF:AV→SH→W.Fp→Prop}{p want:Bool}{A:(AV→SH→W.Fp→Prop)→Prop}(h:A KF)(hp:p=want:=by first | assumption | rfl):W.dgrd (.bool p) want A L KF:=Cy hp h
theorem C0{KF:AV→SH→W.Fp→Prop}{p want:Bool}{A:(AV→SH→W.Fp→Prop)→Prop}(h:KF aZ L ⟨[],[],[],L.names⟩)(hp:p=!want:=by first | assumption | rfl):W.dgrd (.bool p) want A L KF:=Cz hp h
theorem EH{b i off:Nat}{x:Blk}{L':SH}(h:KL (.pptr x.rows i off) L')(h1:dG b x L L':=by repeat constructor)(h2:0<x.size:=by first | exact Nat.succ_pos _ | decide | simp)(h3:0<x.rows.length:=by first | exact Nat.succ_pos _ | decide | simp):W.frz1 (.ptr b i off) L KL:=xD h1 h2 h3 h
theorem zb{KS:SH→Prop}{n b:Nat}{v:AV}{m:Nat}{r cs:List AV}{L':SH}(h:KS L')(hu:yg b ⟨m,[r]⟩ ⟨m,[cs]⟩ L L':=by repeat constructor)(h2:v.cells? =some cs:=by rfl)(h3:cs.length=n:=by rfl)(h4:cs.all AV.one=true:=by rfl)(h5:r.length=n:=by rfl):W.store n (.ptr b 0 0) v L KS:=gW hu h2 h3 h4 h5 h
theorem s8{KS:SH→Prop}{b i off:Nat}{v:AV}{x:Blk}{r:List AV}{L':SH}(h:KS L')(hu:yg b x ⟨x.size,x.rows.set i (r.set off v)⟩ L L':=by repeat constructor)(h1:x.rows[i]? =some r:=by first | assumption | rfl)(h2:v.cells? =some [v]:=by rfl)(h4:v.one=true:=by rfl)(h5:off<r.length:=by first | decide | exact Nat.lt_of_sub_pos (Nat.succ_pos _) | simp | omega):W.store 1 (.ptr b i off) v L KS:=s7 hu h1 h2 h4 h5 rfl h
theorem zc{KS:SH→Prop}{n b i:Nat}{v:AV}{x:Blk}{r cs:List AV}{L':SH}(h:KS L')(hu:yg b x ⟨x.size,x.rows.set i cs⟩ L L':=by repeat constructor)(h1:x.rows[i]? =some r:=by first | assumption | rfl)(h2:v.cells? =some cs:=by rfl)(h3:cs.length=n:=by rfl)(h4:cs.all AV.one=true:=by rfl)(h5:r.length=n:=by rfl):W.store n (.ptr b i 0) v L KS:=yU hu h1 h2 h3 h4 h5 rfl h
theorem C1{n by_:Nat}{z:List AV}{k k':IntKind}{i j:Nat}(h:∀b,b∉L.names→KL (.sl b 0 i) ((b,⟨n,List.replicate i z⟩)::L))(h1:i≤j:=by omega)(h2:j≤2^62:=by omega)(h3:j*by_≤2^48:=by omega):W.mslice n by_ z (.int k (i:Int)) (.int k' (j:Int)) L KL:=yV h1 h2 h3 h
theorem C2{n:Nat}{z:List AV}{len:Nat}{ps:List (Nat×AV)}{rows:List (List AV)}(h:∀b,b∉L.names→KL (.sl b 0 len) ((b,⟨n,rows⟩)::L))(h1:len*n≤2^24:=by decide)(h2:cZ n (List.replicate len z) ps=some rows:=by rfl):W.bslice n z len ps L KL:=CN h1 h2 h
theorem Ii{x:AV}{cs:List AV}(h:∀b,b∉L.names→KL (.ptr b 0 0) ((b,⟨cs.length,[cs]⟩)::L))(h1:x.cells? =some cs:=by rfl)(h2:cs.all AV.one=true:=by rfl):W.box x L KL:=FI h1 h2 h
theorem EI{z:List AV}{ps:List (Nat×Nat×AV)}{cs:List AV}(h:K (.agg cs))(h1:W0.fillR z ps=some cs:=by rfl):W.build z ps K:=Ez h1 h
end
end Go.Proofs.Ytljkdffikfkcgaa.Am
end
section
namespace Go.Proofs.Ytljkdffikfkcgaa.Am
set_option linter.unusedVariables false
abbrev R:=AV→SH→Prop
abbrev Vs:=List AV
abbrev Kn:=W.Kn
abbrev Fp:=W.Fp
abbrev Ns:=List Nat
def rz:Fp:=⟨[],[],[],[]⟩
def rm(i:Nat)(r:Fp):W.WR:=⟨i,r.reads,r.writes,r.made,false,r.old⟩
def rc(i:Nat)(r:Fp):W.WR:=⟨i,r.reads,r.writes,r.made,true,r.old⟩
@[irreducible] def wl (x:AV) (L:SH) (K:AV→Prop):Prop:=W.load false 1 x L K
@[irreducible] def dy (n:Nat) (x:AV) (L:SH) (K:AV→Prop):Prop:=W.load true n x L K
@[irreducible] def bo (o:Nat) (x:AV) (L:SH) (K:AV→Prop):Prop:=W.faddr o x fun a=>wl a L K
@[irreducible] def c8 (o:Nat) (x:AV) (L:SH) (K:AV→Prop):Prop:=W.nilchk x fun a=>bo o a L K
@[irreducible] def Ba (n:Nat) (x i:AV) (L:SH) (K:AV→Prop):Prop:=W.idx n x i L fun a=>wl a L K
@[irreducible] def ug (n:Nat) (x i:AV) (L:SH) (K:AV→Prop):Prop:=W.idx n x i L fun a=>dy n a L K
@[irreducible] def gQ (n o:Nat) (x i:AV) (L:SH) (K:AV→Prop):Prop:=W.idx n x i L fun a=>bo o a L K
@[irreducible] def wb (op:BinOp) (t:TypeId) (x y:AV) (K:AV→Prop):Prop:=W.bin Try.prog Fl op t x y K
@[irreducible] def wk (x:AV) (A B:Prop):Prop:=W.cond x A B
@[irreducible] def wg (x:AV) (w:Bool) (A:(AV→Prop)→Prop) (L:SH) (K:R):Prop:=W.grd x w (fun k=>A fun v=>k v L) L K
@[irreducible] def cj (x:AV) (w:Bool) (y:AV) (L:SH) (K:R):Prop:=W.grd x w (fun k=>k y L) L K
@[irreducible] def wc (f:AV) (args:List AV) (L:SH) (K:R):Prop:=W.call Try.prog f args L K
@[irreducible] def wd (us:List W.WR) (i:Nat) (f:AV) (args:List AV) (L:SH) (K:AV→SH→Ns→Prop):Prop:=W.dcall Try.prog us i f args L K
@[irreducible] def wn (a b c d:Ns) (K:Fp→Prop):Prop:=W.note ⟨a,b,c,d⟩ K
@[irreducible] def dl (us:List W.WR) (i:Nat) (x:AV) (L:SH) (K:AV→Fp→Prop):Prop:=W.calm us ⟨i,af x,[],[],false,[]⟩ (wl x L fun v=>W.note ⟨af x,[],[],[]⟩ fun r=>K v r)
@[irreducible] def dr (us:List W.WR) (i n:Nat) (x:AV) (L:SH) (K:AV→Fp→Prop):Prop:=W.calm us ⟨i,af x,[],[],false,[]⟩ (dy n x L fun v=>W.note ⟨af x,[],[],[]⟩ fun r=>K v r)
@[irreducible] def bx (o:Nat) (x:AV) (us:List W.WR) (i:Nat) (L:SH) (K:AV→Fp→Prop):Prop:=W.faddr o x fun a=>dl us i a L K
@[irreducible] def di (us:List W.WR) (i n:Nat) (x ix:AV) (L:SH) (K:AV→Fp→Prop):Prop:=W.calm us ⟨i,dw x,[],[],false,[]⟩ (W.idx n x ix L fun v=>W.note ⟨dw x,[],[],[]⟩ fun r=>K v r)
@[irreducible] def ds (us:List W.WR) (i n:Nat) (x y:AV) (L:SH) (K:SH→Fp→Prop):Prop:=W.calm us ⟨i,af x,af x,[],false,[]⟩ (W.store n x y L fun L=>W.note ⟨af x,af x,[],[]⟩ fun r=>K L r)
@[irreducible] def xH (z:List AV) (n:Nat) (y:AV) (L:SH) (K:R):Prop:=W.alloc z L fun x L1=>W.store n x y L1 fun L2=>W.frz1 x L2 K
@[irreducible] def xb (y:AV) (L:SH) (K:R):Prop:=W.box y L fun x L1=>W.frz1 x L1 K
theorem Gq{x:AV}{L:SH}{K:AV→Prop}(k0:W.load false 1 x L K):wl x L K:=by unfold wl;exact k0
theorem C3{n:Nat}{x:AV}{L:SH}{K:AV→Prop}(k0:W.load true n x L K):dy n x L K:=by unfold dy;exact k0
theorem C4{o:Nat}{x:AV}{L:SH}{K:AV→Prop}(k0:W.faddr o x fun a=>wl a L K):bo o x L K:=by unfold bo;exact k0
theorem C5{o:Nat}{x:AV}{L:SH}{K:AV→Prop}(k0:W.nilchk x fun a=>bo o a L K):c8 o x L K:=by unfold c8;exact k0
theorem FM{n:Nat}{x i:AV}{L:SH}{K:AV→Prop}(k0:W.idx n x i L fun a=>wl a L K):Ba n x i L K:=by unfold Ba;exact k0
theorem FN{n:Nat}{x i:AV}{L:SH}{K:AV→Prop}(k0:W.idx n x i L fun a=>dy n a L K):ug n x i L K:=by unfold ug;exact k0
theorem C6{n o:Nat}{x i:AV}{L:SH}{K:AV→Prop}(k0:W.idx n x i L fun a=>bo o a L K):gQ n o x i L K:=by unfold gQ;exact k0
theorem dm{op:BinOp}{t:TypeId}{x y:AV}{K:AV→Prop}(k0:W.bin Try.prog Fl op t x y K):wb op t x y K:=by unfold wb;exact k0
theorem Ij{x:AV}{A B:Prop}(k0:W.cond x A B):wk x A B:=by unfold wk;exact k0
theorem Ik{x:AV}{w:Bool}{A:(AV→Prop)→Prop}{L:SH}{K:R}(k0:W.grd x w (fun k=>A fun v=>k v L) L K):wg x w A L K:=by unfold wg;exact k0
theorem FO{x:AV}{w:Bool}{y:AV}{L:SH}{K:R}(k0:W.grd x w (fun k=>k y L) L K):cj x w y L K:=by unfold cj;exact k0
theorem rQ{f:AV}{args:List AV}{L:SH}{K:R}(k0:W.call Try.prog f args L K):wc f args L K:=by unfold wc;exact k0
theorem I7{us:List W.WR}{i:Nat}{f:AV}{args:List AV}{L:SH}{K:AV→SH→Ns→Prop}(k0:W.dcall Try.prog us i f args L K):wd us i f args L K:=by unfold wd;exact k0
theorem I8{a b c d:Ns}{K:Fp→Prop}(k0:W.note ⟨a,b,c,d⟩ K):wn a b c d K:=by unfold wn;exact k0
theorem Il{us:List W.WR}{i:Nat}{x:AV}{L:SH}{K:AV→Fp→Prop}(k0:W.calm us ⟨i,af x,[],[],false,[]⟩ (wl x L fun v=>W.note ⟨af x,[],[],[]⟩ fun r=>K v r)):dl us i x L K:=by unfold dl;exact k0
theorem Im{us:List W.WR}{i n:Nat}{x:AV}{L:SH}{K:AV→Fp→Prop}(k0:W.calm us ⟨i,af x,[],[],false,[]⟩ (dy n x L fun v=>W.note ⟨af x,[],[],[]⟩ fun r=>K v r)):dr us i n x L K:=by unfold dr;exact k0
theorem FP{o:Nat}{x:AV}{us:List W.WR}{i:Nat}{L:SH}{K:AV→Fp→Prop}(k0:W.faddr o x fun a=>dl us i a L K):bx o x us i L K:=by unfold bx;exact k0
theorem Gr{us:List W.WR}{i n:Nat}{x ix:AV}{L:SH}{K:AV→Fp→Prop}(k0:W.calm us ⟨i,dw x,[],[],false,[]⟩ (W.idx n x ix L fun v=>W.note ⟨dw x,[],[],[]⟩ fun r=>K v r)):di us i n x ix L K:=by unfold di;exact k0
theorem In{us:List W.WR}{i n:Nat}{x y:AV}{L:SH}{K:SH→Fp→Prop}(k0:W.calm us ⟨i,af x,af x,[],false,[]⟩ (W.store n x y L fun L=>W.note ⟨af x,af x,[],[]⟩ fun r=>K L r)):ds us i n x y L K:=by unfold ds;exact k0
theorem EJ{rows:List (List AV)}{i off:Nat}{r:List AV}{v:AV}{L:SH}{K:AV→Prop}(k:K v)(h1:rows[i]? =some r:=by first | assumption | rfl)(h2:r[off]? =some v:=by rfl):wl (.pptr rows i off) L K:=Gq (yW k h1 h2)
theorem Io{b i off:Nat}{x:Blk}{r:List AV}{v:AV}{L:SH}{K:AV→Prop}(k:K v)(hm:(b,x)∈L:=by repeat constructor)(h1:x.rows[i]? =some r:=by first | assumption | rfl)(h2:r[off]? =some v:=by rfl):wl (.ptr b i off) L K:=Gq (yX k hm h1 h2)
theorem FQ{o:Nat}{rows:List (List AV)}{i off:Nat}{r:List AV}{v:AV}{L:SH}{K:AV→Prop}(k:K v)(h1:rows[i]? =some r:=by first | assumption | rfl)(h2:r[off+o]? =some v:=by rfl):bo o (.pptr rows i off) L K:=C4 (rP (EJ k h1 h2))
theorem FR{o b i off:Nat}{x:Blk}{r:List AV}{v:AV}{L:SH}{K:AV→Prop}(k:K v)(hm:(b,x)∈L:=by repeat constructor)(h1:x.rows[i]? =some r:=by first | assumption | rfl)(h2:r[off+o]? =some v:=by rfl):bo o (.ptr b i off) L K:=C4 (rO (Io k hm h1 h2))
theorem Gs{o b i off:Nat}{x:Blk}{r:List AV}{v:AV}{L:SH}{K:AV→Prop}(k:K v)(hm:(b,x)∈L:=by repeat constructor)(h1:x.rows[i]? =some r:=by first | assumption | rfl)(h2:r[off+o]? =some v:=by rfl):c8 o (.ptr b i off) L K:=C5 (AW (FR k hm h1 h2))
theorem Ip{n:Nat}{rows:List (List AV)}{kd:IntKind}{j:Nat}{r:List AV}{v:AV}{L:SH}{K:AV→Prop}(k:K v)(h1:rows[j]? =some r:=by first | assumption | rfl)(h2:r.length=n:=by rfl)(h3:r[0]? =some v:=by rfl):Ba n (.lst rows) (.int kd (j:Int)) L K:=FM (pW (EJ k h1 h3) h1 h2)
theorem Iq{n:Nat}{rows:List (List AV)}{kd:IntKind}{j:Nat}{r:List AV}{L:SH}{K:AV→Prop}(k:K (.agg r))(h1:rows[j]? =some r:=by first | assumption | rfl)(h2:r.length=n:=by rfl):ug n (.lst rows) (.int kd (j:Int)) L K:=FN (pW (C3 (uf k h1 h2)) h1 h2)
theorem Gt{n o:Nat}{rows:List (List AV)}{kd:IntKind}{j:Nat}{r:List AV}{v:AV}{L:SH}{K:AV→Prop}(k:K v)(h1:rows[j]? =some r:=by first | assumption | rfl)(h2:r.length=n:=by rfl)(h3:r[0+o]? =some v:=by rfl):gQ n o (.lst rows) (.int kd (j:Int)) L K:=C6 (pW (FQ k h1 h3) h1 h2)
theorem uU{us:List W.WR}{i:Nat}{A:Prop}(k:A):W.calm us ⟨i,[],[],[],false,[]⟩ A:=CO (fun x _=>by simp[W.free]) k
theorem Ir{us:List W.WR}{j:Nat}{rows:List (List AV)}{i off:Nat}{r:List AV}{v:AV}{L:SH}{K:AV→Fp→Prop}(k:K v rz)(h1:rows[i]? =some r:=by first | assumption | rfl)(h2:r[off]? =some v:=by rfl):dl us j (.pptr rows i off) L K:=Il (uU (EJ (mX k) h1 h2))
theorem I9{us:List W.WR}{j n:Nat}{rows:List (List AV)}{i:Nat}{r:List AV}{L:SH}{K:AV→Fp→Prop}(k:K (.agg r) rz)(h1:rows[i]? =some r:=by first | assumption | rfl)(h2:r.length=n:=by rfl):dr us j n (.pptr rows i 0) L K:=Im (uU (C3 (uf (mX k) h1 h2)))
theorem Is{us:List W.WR}{j o:Nat}{rows:List (List AV)}{i off:Nat}{r:List AV}{v:AV}{L:SH}{K:AV→Fp→Prop}(k:K v rz)(h1:rows[i]? =some r:=by first | assumption | rfl)(h2:r[off+o]? =some v:=by rfl):bx o (.pptr rows i off) us j L K:=FP (rP (Ir k h1 h2))
theorem Ja{us:List W.WR}{m n:Nat}{rows:List (List AV)}{kd:IntKind}{j:Nat}{r:List AV}{L:SH}{K:AV→Fp→Prop}(k:K (.pptr rows j 0) rz)(h1:rows[j]? =some r:=by first | assumption | rfl)(h2:r.length=n:=by rfl):di us m n (.lst rows) (.int kd (j:Int)) L K:=Gr (uU (pW (mX k) h1 h2))
theorem Gu{z cs:List AV}{n:Nat}{L:SH}{K:R}(k:K (.pptr [cs] 0 0) L)(h1:cs.length=n:=by rfl)(h2:z.length=n:=by rfl)(h3:cs.all AV.one=true:=by rfl)(h4:0<n:=by decide):xH z n (.agg cs) L K:=by
 unfold xH
 refine AX fun b hb=>?_
 refine gW (.here _) rfl h1 h3 h2 ?_
 exact xD (.here _) (by show 0<z.length;omega) (Nat.succ_pos _) k
theorem C7{y:AV}{cs:List AV}{L:SH}{K:R}(k:K (.pptr [cs] 0 0) L)(h1:y.cells? =some cs:=by rfl)(h2:cs.all AV.one=true:=by rfl)(h3:0<cs.length:=by exact Nat.succ_pos _):xb y L K:=by
 unfold xb
 exact FI h1 h2 fun b hb=>xD (.here _) h3 (Nat.succ_pos _) k
theorem zd{n:Nat}{rows:List (List AV)}{i off:Nat}{r cs:List AV}{L:SH}{K:AV→Prop}(k:K (.agg cs))(h1:rows[i]? =some r:=by first | assumption | rfl)(h3:(r.drop off).take n=cs:=by rfl)(h2:off+n≤r.length:=by exact Nat.le_of_ble_eq_true rfl):W.load true n (.pptr rows i off) L K:=CK h1 h2 h3 k
theorem ze{n b i off:Nat}{x:Blk}{r cs:List AV}{L:SH}{K:AV→Prop}(k:K (.agg cs))(hm:(b,x)∈L:=by repeat constructor)(h1:x.rows[i]? =some r:=by first | assumption | rfl)(h3:(r.drop off).take n=cs:=by rfl)(h2:off+n≤r.length:=by exact Nat.le_of_ble_eq_true rfl):W.load true n (.ptr b i off) L K:=CL hm h1 h2 h3 k
theorem b9{P:Program}{F:TypeId→Option (List TypeId)}{t:TypeId}{kd:IntKind}{a b c:Int}{K:AV→Prop}(k:K (.int kd c))(e:kd.wrap (a+b)=c:=by assumption):W.bin P F .add t (.int kd a) (.int kd b) K:=CG (by rw[e];exact k)
theorem ge{P:Program}{F:TypeId→Option (List TypeId)}{t:TypeId}{kd:IntKind}{a b c:Int}{K:AV→Prop}(k:K (.int kd c))(e:kd.wrap (a-b)=c:=by assumption):W.bin P F .sub t (.int kd a) (.int kd b) K:=CH (by rw[e];exact k)
theorem FS{a b:Bool}{K:AV→Prop}(k:K (.bool (decide (a≠b)))):W.bin Try.prog Fl .neq 4 (.bool a) (.bool b) K:=by
 rw[H5 _ (show Try.prog.underlying 4=some .bool by kernel_rfl)]
 cases a<;>cases b<;>exact k
theorem xI{us:List W.WR}{y:W.WR}{A:Prop}(h:A)(h1:∀x∈us,W.free x y:=by(simp only[rm,rc,rz,W.free,ay,↓reduceIte,Nat.reduceEqDiff,af,dw,List.forall_mem_nil,List.forall_mem_cons,List.not_mem_nil,not_false_eq_true,implies_true,and_true,true_and,and_self,Bool.false_eq_true,reduceCtorEq,forall_const,false_implies,List.mem_singleton,forall_eq,List.append_nil,List.nil_append,List.mem_cons,or_false,false_or,forall_eq_or_imp,not_or])<;>(repeat' constructor)<;>first | assumption | (exact Ne.symm (by assumption)) | (intro e_;subst e_;simp[SH.names]at *;done)):W.calm us y A:=CO h1 h
theorem ab{L:SH}{KN:AV→SH→List Nat→Prop}{us:List W.WR}{i:Nat}{g:FuncId}{args:List AV}{v:AV}(h:aO Try.prog g args v)(hk:KN v L [])(hf:∀x∈us,W.free x ⟨i,[],[],[],true,[]⟩:=by(simp only[rm,rc,rz,W.free,ay,↓reduceIte,Nat.reduceEqDiff,af,dw,List.forall_mem_nil,List.forall_mem_cons,List.not_mem_nil,not_false_eq_true,implies_true,and_true,true_and,and_self,Bool.false_eq_true,reduceCtorEq,forall_const,false_implies,List.mem_singleton,forall_eq,List.append_nil,List.nil_append,List.mem_cons,or_false,false_or,forall_eq_or_imp,not_or])<;>(repeat' constructor)<;>first | assumption | (exact Ne.symm (by assumption)) | (intro e_;subst e_;simp[SH.names]at *;done)):W.dcallM Try.prog us i g args L KN:=EC h hf hk
theorem uV{g:FuncId}{args:List AV}{L:SH}{i:Nat}{R1:R}{KN:AV→SH→List Nat→Prop}(h:am Try.prog g args L R1)(hk:∀v K',R1 v K'→KN v K' L.names):W.dcallM Try.prog [] i g args L KN:=
 ⟨L,[],by simp,nofun,h.mono fun v K' hr=>by simpa using hk v K' hr⟩
theorem cf{g:FuncId}{args:List AV}{L:SH}{R1 KL:R}(h:am Try.prog g args L R1)(hk:∀v K',R1 v K'→KL v K'):W.callM Try.prog g args L KL:=A7 (h.mono hk)
theorem bC(ht:Ct){f:FuncId}{fn:Func}{args:List AV}{L:SH}{Q:R}{p:Prop}(hf:Try.prog.funcs[f]? =some fn)(hb:fn.body=some (fn.body.getD .skip))(he:W.func Try.prog Fl ht fn (fn.body.getD .skip) args L Q=p)(h:p):am Try.prog f args L Q:=
 Af (ht:=ht) fit hf hb (Eq.mpr he h)
@[irreducible] def Jo (a0:Nat) (v:Vs) (K:AV→Prop):Prop:=K (ay [a0] v a0)
theorem Gv{a0:Nat}{y0:AV}{K:AV→Prop}(k:K y0)(h:[a0].Nodup:=by decide):Jo a0 [y0] K:=by
 simp only[List.nodup_cons,List.mem_cons,not_or,List.not_mem_nil,not_false_eq_true,List.nodup_nil,and_true,true_and]at h
 simp only[Jo,ay, *,if_true,if_false,eq_self]
@[irreducible] def EK (a0 a1:Nat) (v:Vs) (K:AV→AV→Prop):Prop:=K (ay [a0,a1] v a0) (ay [a0,a1] v a1)
theorem Gw{a0 a1:Nat}{y0 y1:AV}{K:AV→AV→Prop}(k:K y0 y1)(h:[a0,a1].Nodup:=by decide):EK a0 a1 [y0,y1] K:=by
 simp only[List.nodup_cons,List.mem_cons,not_or,List.not_mem_nil,not_false_eq_true,List.nodup_nil,and_true,true_and]at h
 simp only[EK,ay, *,if_true,if_false,eq_self]
@[irreducible] def wu (a0 a1 a2:Nat) (v:Vs) (K:AV→AV→AV→Prop):Prop:=K (ay [a0,a1,a2] v a0) (ay [a0,a1,a2] v a1) (ay [a0,a1,a2] v a2)
theorem Gx{a0 a1 a2:Nat}{y0 y1 y2:AV}{K:AV→AV→AV→Prop}(k:K y0 y1 y2)(h:[a0,a1,a2].Nodup:=by decide):wu a0 a1 a2 [y0,y1,y2] K:=by
 simp only[List.nodup_cons,List.mem_cons,not_or,List.not_mem_nil,not_false_eq_true,List.nodup_nil,and_true,true_and]at h
 simp only[wu,ay, *,if_true,if_false,eq_self]
@[irreducible] def EL (a0 a1 a2 a3:Nat) (v:Vs) (K:AV→AV→AV→AV→Prop):Prop:=K (ay [a0,a1,a2,a3] v a0) (ay [a0,a1,a2,a3] v a1) (ay [a0,a1,a2,a3] v a2) (ay [a0,a1,a2,a3] v a3)
theorem Gy{a0 a1 a2 a3:Nat}{y0 y1 y2 y3:AV}{K:AV→AV→AV→AV→Prop}(k:K y0 y1 y2 y3)(h:[a0,a1,a2,a3].Nodup:=by decide):EL a0 a1 a2 a3 [y0,y1,y2,y3] K:=by
 simp only[List.nodup_cons,List.mem_cons,not_or,List.not_mem_nil,not_false_eq_true,List.nodup_nil,and_true,true_and]at h
 simp only[EL,ay, *,if_true,if_false,eq_self]
@[irreducible] def Ah (a0 a1 a2 a3 a4:Nat) (v:Vs) (K:AV→AV→AV→AV→AV→Prop):Prop:=K (ay [a0,a1,a2,a3,a4] v a0) (ay [a0,a1,a2,a3,a4] v a1) (ay [a0,a1,a2,a3,a4] v a2) (ay [a0,a1,a2,a3,a4] v a3) (ay [a0,a1,a2,a3,a4] v a4)
theorem Gz{a0 a1 a2 a3 a4:Nat}{y0 y1 y2 y3 y4:AV}{K:AV→AV→AV→AV→AV→Prop}(k:K y0 y1 y2 y3 y4)(h:[a0,a1,a2,a3,a4].Nodup:=by decide):Ah a0 a1 a2 a3 a4 [y0,y1,y2,y3,y4] K:=by
 simp only[List.nodup_cons,List.mem_cons,not_or,List.not_mem_nil,not_false_eq_true,List.nodup_nil,and_true,true_and]at h
 simp only[Ah,ay, *,if_true,if_false,eq_self]
@[irreducible] def GA (a0 a1 a2 a3 a4 a5:Nat) (v:Vs) (K:AV→AV→AV→AV→AV→AV→Prop):Prop:=K (ay [a0,a1,a2,a3,a4,a5] v a0) (ay [a0,a1,a2,a3,a4,a5] v a1) (ay [a0,a1,a2,a3,a4,a5] v a2) (ay [a0,a1,a2,a3,a4,a5] v a3) (ay [a0,a1,a2,a3,a4,a5] v a4) (ay [a0,a1,a2,a3,a4,a5] v a5)
theorem GB{a0 a1 a2 a3 a4 a5:Nat}{y0 y1 y2 y3 y4 y5:AV}{K:AV→AV→AV→AV→AV→AV→Prop}(k:K y0 y1 y2 y3 y4 y5)(h:[a0,a1,a2,a3,a4,a5].Nodup:=by decide):GA a0 a1 a2 a3 a4 a5 [y0,y1,y2,y3,y4,y5] K:=by
 simp only[List.nodup_cons,List.mem_cons,not_or,List.not_mem_nil,not_false_eq_true,List.nodup_nil,and_true,true_and]at h
 simp only[GA,ay, *,if_true,if_false,eq_self]
@[irreducible] def GC (a0 a1 a2 a3 a4 a5 a6:Nat) (v:Vs) (K:AV→AV→AV→AV→AV→AV→AV→Prop):Prop:=K (ay [a0,a1,a2,a3,a4,a5,a6] v a0) (ay [a0,a1,a2,a3,a4,a5,a6] v a1) (ay [a0,a1,a2,a3,a4,a5,a6] v a2) (ay [a0,a1,a2,a3,a4,a5,a6] v a3) (ay [a0,a1,a2,a3,a4,a5,a6] v a4) (ay [a0,a1,a2,a3,a4,a5,a6] v a5) (ay [a0,a1,a2,a3,a4,a5,a6] v a6)
theorem GD{a0 a1 a2 a3 a4 a5 a6:Nat}{y0 y1 y2 y3 y4 y5 y6:AV}{K:AV→AV→AV→AV→AV→AV→AV→Prop}(k:K y0 y1 y2 y3 y4 y5 y6)(h:[a0,a1,a2,a3,a4,a5,a6].Nodup:=by decide):GC a0 a1 a2 a3 a4 a5 a6 [y0,y1,y2,y3,y4,y5,y6] K:=by
 simp only[List.nodup_cons,List.mem_cons,not_or,List.not_mem_nil,not_false_eq_true,List.nodup_nil,and_true,true_and]at h
 simp only[GC,ay, *,if_true,if_false,eq_self]
@[irreducible] def IZ (a0 a1 a2 a3 a4 a5 a6 a7:Nat) (v:Vs) (K:AV→AV→AV→AV→AV→AV→AV→AV→Prop):Prop:=K (ay [a0,a1,a2,a3,a4,a5,a6,a7] v a0) (ay [a0,a1,a2,a3,a4,a5,a6,a7] v a1) (ay [a0,a1,a2,a3,a4,a5,a6,a7] v a2) (ay [a0,a1,a2,a3,a4,a5,a6,a7] v a3) (ay [a0,a1,a2,a3,a4,a5,a6,a7] v a4) (ay [a0,a1,a2,a3,a4,a5,a6,a7] v a5) (ay [a0,a1,a2,a3,a4,a5,a6,a7] v a6) (ay [a0,a1,a2,a3,a4,a5,a6,a7] v a7)
theorem GE{a0 a1 a2 a3 a4 a5 a6 a7:Nat}{y0 y1 y2 y3 y4 y5 y6 y7:AV}{K:AV→AV→AV→AV→AV→AV→AV→AV→Prop}(k:K y0 y1 y2 y3 y4 y5 y6 y7)(h:[a0,a1,a2,a3,a4,a5,a6,a7].Nodup:=by decide):IZ a0 a1 a2 a3 a4 a5 a6 a7 [y0,y1,y2,y3,y4,y5,y6,y7] K:=by
 simp only[List.nodup_cons,List.mem_cons,not_or,List.not_mem_nil,not_false_eq_true,List.nodup_nil,and_true,true_and]at h
 simp only[IZ,ay, *,if_true,if_false,eq_self]
@[irreducible] def GF (a0 a1 a2 a3 a4 a5 a6 a7 a8:Nat) (v:Vs) (K:AV→AV→AV→AV→AV→AV→AV→AV→AV→Prop):Prop:=K (ay [a0,a1,a2,a3,a4,a5,a6,a7,a8] v a0) (ay [a0,a1,a2,a3,a4,a5,a6,a7,a8] v a1) (ay [a0,a1,a2,a3,a4,a5,a6,a7,a8] v a2) (ay [a0,a1,a2,a3,a4,a5,a6,a7,a8] v a3) (ay [a0,a1,a2,a3,a4,a5,a6,a7,a8] v a4) (ay [a0,a1,a2,a3,a4,a5,a6,a7,a8] v a5) (ay [a0,a1,a2,a3,a4,a5,a6,a7,a8] v a6) (ay [a0,a1,a2,a3,a4,a5,a6,a7,a8] v a7) (ay [a0,a1,a2,a3,a4,a5,a6,a7,a8] v a8)
theorem GG{a0 a1 a2 a3 a4 a5 a6 a7 a8:Nat}{y0 y1 y2 y3 y4 y5 y6 y7 y8:AV}{K:AV→AV→AV→AV→AV→AV→AV→AV→AV→Prop}(k:K y0 y1 y2 y3 y4 y5 y6 y7 y8)(h:[a0,a1,a2,a3,a4,a5,a6,a7,a8].Nodup:=by decide):GF a0 a1 a2 a3 a4 a5 a6 a7 a8 [y0,y1,y2,y3,y4,y5,y6,y7,y8] K:=by
 simp only[List.nodup_cons,List.mem_cons,not_or,List.not_mem_nil,not_false_eq_true,List.nodup_nil,and_true,true_and]at h
 simp only[GF,ay, *,if_true,if_false,eq_self]
@[irreducible] def GH (a0 a1 a2 a3 a4 a5 a6 a7 a8 a9:Nat) (v:Vs) (K:AV→AV→AV→AV→AV→AV→AV→AV→AV→AV→Prop):Prop:=K (ay [a0,a1,a2,a3,a4,a5,a6,a7,a8,a9] v a0) (ay [a0,a1,a2,a3,a4,a5,a6,a7,a8,a9] v a1) (ay [a0,a1,a2,a3,a4,a5,a6,a7,a8,a9] v a2) (ay [a0,a1,a2,a3,a4,a5,a6,a7,a8,a9] v a3) (ay [a0,a1,a2,a3,a4,a5,a6,a7,a8,a9] v a4) (ay [a0,a1,a2,a3,a4,a5,a6,a7,a8,a9] v a5) (ay [a0,a1,a2,a3,a4,a5,a6,a7,a8,a9] v a6) (ay [a0,a1,a2,a3,a4,a5,a6,a7,a8,a9] v a7) (ay [a0,a1,a2,a3,a4,a5,a6,a7,a8,a9] v a8) (ay [a0,a1,a2,a3,a4,a5,a6,a7,a8,a9] v a9)
theorem EM{a0 a1 a2 a3 a4 a5 a6 a7 a8 a9:Nat}{y0 y1 y2 y3 y4 y5 y6 y7 y8 y9:AV}{K:AV→AV→AV→AV→AV→AV→AV→AV→AV→AV→Prop}(k:K y0 y1 y2 y3 y4 y5 y6 y7 y8 y9)(h:[a0,a1,a2,a3,a4,a5,a6,a7,a8,a9].Nodup:=by decide):GH a0 a1 a2 a3 a4 a5 a6 a7 a8 a9 [y0,y1,y2,y3,y4,y5,y6,y7,y8,y9] K:=by
 simp only[List.nodup_cons,List.mem_cons,not_or,List.not_mem_nil,not_false_eq_true,List.nodup_nil,and_true,true_and]at h
 simp only[GH,ay, *,if_true,if_false,eq_self]
end Go.Proofs.Ytljkdffikfkcgaa.Am
end
section
namespace Go.Proofs.Ytljkdffikfkcgaa.Am
set_option linter.unusedVariables false
set_option maxRecDepth 100000
def uW(n33:Kn)(L56:SH)(x39 x35 x40 x36 x37 x38:AV):Prop:=
 (true=true)∧(
 bx 1 x39 [] 1 L56 fun x60 r61=>
 di [rm 1 r61] 5 1 x35 x40 L56 fun x62 r63=>
 dl [rm 1 r61] 6 x62 L56 fun x64 r65=>
 di [] 7 1 x60 x40 L56 fun x66 r67=>
 ds [] 8 1 x66 x64 L56 fun L68 r69=>
 wb .add 3 x40 (.int .i64 1) fun x70=>
 n33 [x35,x36,x37,x38,x39,x70] L68)
def uX(n72:Kn)(L94:SH)(x77 x74 x78 x75 x76:AV):Prop:=
 (true=true)∧(
 bx 2 x77 [] 1 L94 fun x98 r99=>
 di [rm 1 r99] 5 1 x74 x78 L94 fun x100 r101=>
 dl [rm 1 r99] 6 x100 L94 fun x102 r103=>
 W.conv .i64 x102 fun x104=>
 W.calm [rm 1 r99] ⟨8,[],[],[],false,[]⟩ (
 W.bslice 1 [(.int .i64 0)] 1 [(0,x104)] L94 fun x105 L106=>
 wn [] [] (af x105) [] fun r107=>
 di [] 9 1 x98 x78 L106 fun x108 r109=>
 ds [] 10 1 x108 x105 L106 fun L110 r111=>
 wb .add 3 x78 (.int .i64 1) fun x112=>
 n72 [x74,x75,x76,x77,x112] L110))
def eI(Q:R)(v71:Vs)(L73:SH)(n72:Kn):Prop:=
 Ah 3 4 8 9 11 v71 fun x74 x75 x76 x77 x78=>
 bo 0 x75 L73 fun x80=>
 wb .lss 3 x78 x80 fun x81=>
 cj x81 true x78 L73 fun x82 L84=>
 cj x81 true x74 L84 fun x85 L87=>
 wg x81 true (W.len x85) L87 fun x88 L90=>
 wg x81 true (wb .lss 3 x82 x88) L90 fun x92 L94=>
 W.pick x81 x92 (.bool false) fun x96=>
 wk x96 (
 (uX n72 L94 x77 x74 x78 x75 x76)) (
 dy 4 x77 L94 fun x113=>
 W.store 4 x76 x113 L94 fun L114=>
 W.load true 4 x76 L114 fun x115=>
 Q x115 L114)
def gf(Q:R)(v32:Vs)(L34:SH)(n33:Kn):Prop:=
 GA 2 3 4 8 9 10 v32 fun x35 x36 x37 x38 x39 x40=>
 bo 0 x37 L34 fun x42=>
 wb .lss 3 x40 x42 fun x43=>
 cj x43 true x40 L34 fun x44 L46=>
 cj x43 true x35 L46 fun x47 L49=>
 wg x43 true (W.len x47) L49 fun x50 L52=>
 wg x43 true (wb .lss 3 x44 x50) L52 fun x54 L56=>
 W.pick x43 x54 (.bool false) fun x58=>
 wk x58 (
 (uW n33 L56 x39 x35 x40 x36 x37 x38)) (
 W.loop (eI Q) [x36,x37,x38,x39,(.int .i64 0)] L56)
def mB(t0 t1 t2 t3:AV)(L:SH)(Q:R):Prop:=
 W.box t0 L fun x0 L1=>
 W.alloc [(.int .i64 0),.nils,.nils,(.int .i64 0)] L1 fun x2 L3=>
 W.frz1 x0 L3 fun x4 L5=>
 (true=true)∧(
 W.conv .i64 t1 fun x6=>
 bx 1 x4 [] 3 L5 fun x8 r9=>
 W.len x8 fun x10=>
 wb .rem 3 x6 x10 fun x11=>
 bx 0 x4 [rm 3 r9] 7 L5 fun x13 r14=>
 W.calm [rm 3 r9] ⟨8,[],[],[],false,[]⟩ (
 W.mslice 1 8 [(.int .i64 0)] x13 x13 L5 fun x15 L16=>
 wn [] [] (af x15) [] fun r17=>
 bx 0 x4 [rm 8 r17,rm 7 r14,rm 3 r9] 10 L16 fun x19 r20=>
 W.calm [rm 8 r17,rm 7 r14,rm 3 r9] ⟨11,[],[],[],false,[]⟩ (
 W.mslice 1 24 [.nils] x19 x19 L16 fun x21 L22=>
 wn [] [] (af x21) [] fun r23=>
 W.build [(.int .i64 0),.nils,.nils,(.int .i64 0)] [(0,1,x11),(1,1,x15),(2,1,x21)] fun x24=>
 W.calm [rm 11 r23,rm 10 r20,rm 8 r17,rm 7 r14,rm 3 r9] ⟨13,[],[],[],false,[]⟩ (
 W.alloc [(.int .i64 0),.nils,.nils,(.int .i64 0)] L22 fun x25 L26=>
 wn [] [] (af x25) [] fun r27=>
 ds [] 14 4 x25 x24 L26 fun L28 r29=>
 W.frz1 x25 L28 fun x30 L31=>
 W.loop (gf Q) [t2,t3,x4,x2,x30,(.int .i64 0)] L31))))
theorem uY(t0 t1 t2 t3:AV)(L:SH)(Q:R)(h:mB t0 t1 t2 t3 L Q):am Try.prog 5 [t0,t1,t2,t3] L Q:=
 bC ⟨fun _=>none,fun k=>if k=3 then [2,3,4,8,9,10]else if k=7 then [3,4,8,9,11]else [],fun k=>if k=0 then [4]else if k=1 then [9]else [],fun k=>if k=1 then [0,1,0,4,12,31,0,64,192,0,512,1536,4095,0,16383]else if k=5 then [0,1,0,0,0,24,56,127,255]else if k=9 then [0,1,0,0,0,24,56,120,248,511,1023]else []⟩ Try.func5 (by kernel_rfl) (by kernel_rfl) h
end Go.Proofs.Ytljkdffikfkcgaa.Am
end
section
namespace Go.Proofs.Ytljkdffikfkcgaa
open Go.ChangeShapes Go.WideShapes Go.ChangeAt Go.RowKit
abbrev Rel(α:Type):=World→(Nat→Prop)→α→List Value→Prop
def rInt(k:IntKind):Rel Int:=fun _ _ n cs=>cs=[.int k n]∧(Lit.int k n).wf=true
def rBool:Rel Bool:=fun _ _ b cs=>cs=[.bool b]
def rSlice{α:Type}(size:Nat)(R:Rel α):Rel (List α):=fun w F l cs=>
 ∃A c,cs=[.slice A l.length c]∧l.length≤c∧c≤maxLen∧
  (0<l.length→∃b o,A=some ⟨b,o,none⟩∧F b∧
   ∀i x,l[i]? =some x→∃cs',cs'.length=size∧R w F x cs'∧∀j u,cs'[j]? =some u→w.cell? ⟨b,o+i*size+j,none⟩=some u)
def Rel.Stays{α:Type}(R:Rel α):Prop:=∀(w w':World) (F F':Nat→Prop) (x:α) (cs:List Value),
 (∀b,F b→b<w.heap.size→w'.heap[b]? =w.heap[b]?)→(∀b,F b→b<w.heap.size→F' b)→R w F x cs→R w' F' x cs
theorem lt_of_cell{w:World}{b o:Nat}{u:Value}(h:w.cell? ⟨b,o,none⟩=some u):b<w.heap.size:=by
 rcases Nat.lt_or_ge b w.heap.size with hlt | hge
 ·exact hlt
 ·simp[World.cell?,Array.getElem?_eq_none hge]at h
theorem cell_kept{w w':World}{b o:Nat}{u:Value}(hk:b<w.heap.size→w'.heap[b]? =w.heap[b]?)(h:w.cell? ⟨b,o,none⟩=some u):w'.cell? ⟨b,o,none⟩=some u:=
 (World.cell?_of_block (w:=w) (w':=w') (a:=⟨b,o,none⟩) (hk (lt_of_cell h))).trans h
theorem rInt_stays(k:IntKind):(rInt k).Stays:=fun _ _ _ _ _ _ _ _ h=>h
theorem rBool_stays:rBool.Stays:=fun _ _ _ _ _ _ _ _ h=>h
theorem rSlice_stays{α:Type}{size:Nat}{R:Rel α}(hs:0<size)(hR:R.Stays):(rSlice size R).Stays:=by
 intro w w' F F' l cs hk hF ⟨A,c,h1,h2,h3,h4⟩
 refine⟨A,c,h1,h2,h3,fun hn=>?_⟩
 obtain⟨b,o,hA,hFb,hc⟩:=h4 hn
 have hb:b<w.heap.size:=by
  obtain⟨cs',hl,_,hcell⟩:=hc 0 l[0] (List.getElem?_eq_getElem hn)
  exact lt_of_cell (hcell 0 cs'[0] (List.getElem?_eq_getElem (by omega)))
 refine⟨b,o,hA,hF b hFb hb,fun i x hx=>?_⟩
 obtain⟨cs',hl,hr,hcell⟩:=hc i x hx
 exact⟨cs',hl,hR w w' F F' x cs' hk hF hr,fun j u hu=>cell_kept (hk b hFb) (hcell j u hu)⟩
def Sl{α:Type}(size:Nat)(R:Rel α)(w:World)(F:Nat→Prop)(v:Value)(l:List α):Prop:=rSlice size R w F l [v]
section
variable {α:Type} {size:Nat} {R:Rel α} {w w':World} {F F':Nat→Prop} {v:Value} {l:List α}
theorem Sl.form(h:Sl size R w F v l):∃A c,v=.slice A l.length c∧l.length≤c∧c≤maxLen:=by
 obtain⟨A,c,h1,h2,h3,_⟩:=h
 exact⟨A,c,by simpa using h1,h2,h3⟩
theorem Sl.at_{A:Option Addr}{n c:Nat}(h:Sl size R w F (.slice A n c) l){i:Nat}(hi:i<l.length):
  ∃b o cs,A=some ⟨b,o,none⟩∧F b∧cs.length=size∧R w F l[i] cs∧∀j u,cs[j]? =some u→w.cell? ⟨b,o+i*size+j,none⟩=some u:=by
 obtain⟨A',c',h1,h2,h3,h4⟩:=h
 obtain⟨b,o,hA,hF,hc⟩:=h4 (by omega)
 have e:A=A':=by injection h1 with h1;injection h1
 obtain⟨cs',hl,hr,hcell⟩:=hc i l[i] (List.getElem?_eq_getElem hi)
 exact⟨b,o,cs',e.trans hA,hF,hl,hr,hcell⟩
theorem Sl.stays(hs:0<size)(hR:R.Stays)(h:Sl size R w F v l)(hk:∀b,F b→b<w.heap.size→w'.heap[b]? =w.heap[b]?)(hF:∀b,F b→b<w.heap.size→F' b):Sl size R w' F' v l:=
 rSlice_stays hs hR w w' F F' l [v] hk hF h
theorem Sl.below{B:Nat}(hs:0<size)(hR:R.Stays)(h:Sl size R w (·<B) v l)(hb:Below B w w'):Sl size R w' (·<B) v l:=
 h.stays hs hR (fun b hb' _=>hb.block b hb') (fun _ h _=>h)
theorem Sl.nil:Sl size R w F (.slice none 0 0) ([]:List α):=⟨none,0,rfl,by simp,by simp[maxLen],fun h=>absurd h (by simp)⟩
theorem Sl.len{A:Option Addr}{n c:Nat}(h:Sl size R w F (.slice A n c) l):n=l.length∧n≤c∧c≤maxLen:=by
 obtain⟨A',c',h1,h2,h3⟩:=h.form
 injection h1 with e1 e2 e3
 subst e2 e3
 exact⟨rfl,h2,h3⟩
end
section
variable {a w:World} {row:Option Nat}
end
def Blk(w:World)(g:Nat)(t:TypeId)(cs:List Value):Prop:=w.heap[g]? =some (.cells cs.toArray t (0,0))
section
variable {w w':World} {g:Nat} {t:TypeId} {cs:List Value}
theorem Blk.lt(h:Blk w g t cs):g<w.heap.size:=by
 rcases Nat.lt_or_ge g w.heap.size with hlt | hge
 ·exact hlt
 ·unfold Blk at h;rw[Array.getElem?_eq_none hge]at h;cases h
theorem Blk.free(h:Blk w g t cs)(i:Nat):w.frozen? ⟨g,i,none⟩=false:=by
 unfold Blk at h
 simp[World.frozen?,h]
theorem Blk.new(w:World)(t:TypeId)(cs:List Value){g:Nat}(hg:w.heap.size=g):Blk (w.alloc (.cells cs.toArray t)) g t cs:=by
 subst hg
 exact heap_alloc_new w _
theorem Blk.alloc(h:Blk w g t cs)(o:Obj):Blk (w.alloc o) g t cs:=(Below.heap_alloc w o g h.lt).trans h
theorem Blk.below{B:Nat}(h:Blk w g t cs)(hb:Below B w w')(hg:g<B):Blk w' g t cs:=(hb.block g hg).trans h
theorem Blk.keep(h:Blk w g t cs)(hb:Below w.heap.size w w'):Blk w' g t cs:=h.below hb h.lt
theorem Blk.only{g':Nat}(h:Blk w g t cs)(hb:w.grownBy w' (some g'))(hg:g≠g'):Blk w' g t cs:=(hb.block g h.lt (fun e=>hg (by injection e))).trans h
end
section
variable {H:Type} {enc:TypeId×Value→H} {P:Program} {w:World} {base:Nat} {spare:Nat→Bool} {held:Bool}
def Opens(H:Type)(enc:TypeId×Value→H)(P:Program)(w:World)(base:Nat)(spare:Nat→Bool)(held:Bool){α:Type}(t:TypeId)(R:Rel α):Prop:=
 ∀(fuel:Nat) (cs:List Value) (x:DataW H×List MemPlace),DataW.trod enc P w base spare held fuel t cs=some x→∃d,R w (·<w.heap.size) d cs
theorem opens_int{t:TypeId}{k:IntKind}(ht:P.underlying t=some (.int k)):Opens H enc P w base spare held t (rInt k):=fun _ _ _ h=>by
 obtain⟨n,h1,_,h3⟩:=DataW.trod_int ht h
 exact⟨n,h1,h3⟩
theorem opens_slice{α:Type}{t e:TypeId}{size:Nat}{R:Rel α}(ht:P.underlying t=some (.slice e))(hc:P.cellsOf e=size)(hs:0<size)(he:Opens H enc P w base spare held e R):
  Opens H enc P w base spare held t (rSlice size R):=fun fuel cs x h=>by
 rcases Deep.open_slice ht h with⟨rfl,_⟩ | ⟨a,len,cap,m,n,D,Pl,rfl,hb,hl,hm,hmm,hx,hi⟩
 ·exact⟨[],Sl.nil⟩
 rw[hc]at hi
 have hlm:len≤m:=by rw[hmm];split<;>omega
 have hall:∀i,i<len→∃d cs',R w (·<w.heap.size) d cs'∧cs'.length=size∧∀j u,cs'[j]? =some u→w.cell? (a.add (i*size+j))=some u:=by
  intro i hil
  obtain⟨cs',h1,h2⟩:=hi i (by omega)
  obtain⟨d,hd⟩:=he _ _ _ h2
  obtain⟨_,hcl,hat⟩:=World.cells?_some h1
  refine⟨d,cs',hd,hcl,fun j u hu=>?_⟩
  have hj:j<size:=by rw[←hcl];exact(List.getElem?_eq_some_iff.1 hu).1
  rw[←Deep.add_add,hat j hj,hu]
 have:∃l:List α,l.length=len∧∀i x,l[i]? =some x→∃cs',R w (·<w.heap.size) x cs'∧cs'.length=size∧∀j u,cs'[j]? =some u→w.cell? (a.add (i*size+j))=some u:=by
  clear hx hmm hlm hi hl h
  induction len with
  | zero=>exact⟨[],rfl,fun i x h=>by simp at h⟩
  | succ k ih=>
   obtain⟨l,hl,hl2⟩:=ih (fun i hi=>hall i (by omega))
   obtain⟨d,cs',h1,h2⟩:=hall k (by omega)
   refine⟨l++[d],by simp[hl],fun i x hx=>?_⟩
   rcases Nat.lt_or_ge i l.length with h | h
   ·rw[List.getElem?_append_left h]at hx
    exact hl2 i x hx
   ·rw[List.getElem?_append_right h]at hx
    have hi0:i-l.length=0:=by
     rcases Nat.eq_zero_or_pos (i-l.length)with h0 | h0
     ·exact h0
     ·rw[List.getElem?_eq_none (by simp only[List.length_singleton];omega)]at hx
      cases hx
    rw[hi0]at hx
    simp at hx
    subst hx
    obtain rfl:i=k:=by omega
    exact⟨cs',h1,h2⟩
 obtain⟨l,hll,hel⟩:=this
 subst hll
 refine⟨l,some a,cap,rfl,hl,hm,fun hn=>?_⟩
 have hsp:a=⟨a.block,a.off,none⟩:=by
  obtain⟨cs',_,h2,h3⟩:=hel 0 l[0] (List.getElem?_eq_getElem hn)
  have hc0:=h3 0 cs'[0] (List.getElem?_eq_getElem (by omega))
  rw[show 0*size+0=0 from by omega,Addr.add_zero']at hc0
  unfold World.cell? at hc0
  cases hsp:a.spot with
  | none=>cases a;simp_all
  | some s=>split at hc0<;>simp[hsp]at hc0
 have hblk:a.block<w.heap.size:=by
  obtain⟨cs',_,h2,h3⟩:=hel 0 l[0] (List.getElem?_eq_getElem hn)
  have hc0:=h3 0 cs'[0] (List.getElem?_eq_getElem (by omega))
  rw[show 0*size+0=0 from by omega,Addr.add_zero',hsp]at hc0
  exact lt_of_cell hc0
 refine⟨a.block,a.off,by rw[←hsp],hblk,fun i x hx=>?_⟩
 obtain⟨cs',h1,h2,h3⟩:=hel i x hx
 refine⟨cs',h2,h1,fun j u hu=>?_⟩
 have:=h3 j u hu
 rw[hsp,Addr.add_lit]at this
 rw[Nat.add_assoc]
 exact this
end
section
variable {H:Type} {enc:TypeId×Value→H} {P:Program}
theorem trodAll_below(hl:laidOutB P=true){W W':World}(hb:Below W.heap.size W W'){sp:Nat→Bool}:∀(ts:List TypeId) (vs:List Value) (ds:List (DataW H)) (ps:List MemPlace),
  (∀t∈ts,P.readableRec t=true∧t<P.types.size)→DataW.TrodAll enc P W 0 (fun _=>true) true ts vs ds ps→(∀x∈ps,x.block<W.heap.size)→(∀x∈ps,sp x.block=true)→DataW.TrodAll enc P W' 0 sp true ts vs ds ps
 | [],vs,ds,ps,_,h,_,_=>by
  obtain⟨rfl,rfl,rfl⟩:=trodAll_nil h
  exact trodAll_mk0
 | t::ts,vs,ds,ps,hr,h,hlt,hsp=>by
  obtain⟨v,vs',d,ds',p,q,rfl,rfl,rfl,h0,h1⟩:=trodAll_cons h
  refine trodAll_cons_mk ?_ (trodAll_below hl hb ts vs' ds' q (fun t ht=>hr t (List.mem_cons_of_mem _ ht)) h1 (fun x hx=>hlt x (List.mem_append_right _ hx)) (fun x hx=>hsp x (List.mem_append_right _ hx)))
  exact WideElems.Trod_stays hl (hr t List.mem_cons_self).1 (hr t List.mem_cons_self).2 h0 (fun x hx=>hb.same (hlt x (List.mem_append_left _ hx))) (fun x hx=>hsp x (List.mem_append_left _ hx))
theorem law_post{f:Func}{s:ChangeSpec}{apart fresh handsOn again:Bool}{W W':World}{args:Array Value}{ds gs:List (DataW H)}{before:List MemPlace}{tb:TypeId}
  (hl:laidOutB P=true) (hr:∀t∈f.params.toList,P.readableRec t=true∧t<P.types.size) (hvars:s.vars=[]) (hrt:f.resultTypes=#[tb]) (htb:P.underlying tb=some .bool)
  (hW:DataW.Whole enc P f.params.toList s.vars apart W args.toList ds gs before)
  (hsr:(s.fn H (ds++gs)).results=[.lit (.bool true)]) (hsa:(s.fn H (ds++gs)).args=ds) (hsv:(s.fn H (ds++gs)).vars=[]) (hb:Below W.heap.size W W') :
  s.post enc P f apart fresh handsOn again W args (.bool true) W':=by
 have hlt:∀p∈before,p.block<W.heap.size:=fun p hp=>hW.lt p hp
 have hold:∀p∈before,(fun b=>decide (b<W.heap.size)) p.block=true:=fun p hp=>by simpa using hlt p hp
 obtain⟨pa,pv,hA,hV,rfl,hz,hn⟩:=hW
 have hW:DataW.Whole enc P f.params.toList s.vars apart W args.toList ds gs (pa++pv):=⟨pa,pv,hA,hV,rfl,hz,hn⟩
 rw[hvars]at hV
 obtain⟨rfl,rfl⟩:=trodVars_none hV
 have hargs:∀sp:Nat→Bool,(∀p∈pa,sp p.block=true)→DataW.TrodAll enc P W' 0 sp true f.params.toList args.toList (s.fn H (ds++[])).args pa:=fun sp hsp=>by
  rw[hsa]
  exact trodAll_below hl hb _ _ _ _ hr hA (fun x hx=>hlt x (by simpa using hx)) hsp
 have hres:∀(b:Nat) (sp:Nat→Bool) (hd:Bool),DataW.TrodAll enc P W' b sp hd f.resultTypes.toList ((Value.bool true).resultList f.resultTypes.size) (s.fn H (ds++[])).results []:=fun b sp hd=>by
  rw[hsr,hrt]
  exact trodAll_cons_mk (shut_bool htb _) trodAll_mk0
 have hvs:∀sp:Nat→Bool,DataW.TrodVars enc P W' sp s.vars (s.fn H (ds++[])).vars []:=fun sp=>by
  rw[hvars,hsv];rfl
 refine⟨ds,[],pa++[],[],pa,[],hW,hres _ _ _,hargs _ (fun p hp=>hold p (by simpa using hp)),hvs _,World.keptBut_mono (fun p hp=>⟨hp,?_⟩) (hb.frame (·∈pa++[])),fun _=>?_⟩
 ·rw[List.mem_append]at hp
  exact Or.inr hp
 ·refine⟨?_,_,_,([]++pa)++[],⟨[]++pa,[],trodAll_append (hargs _ (fun _ _=>rfl)) (hres _ _ _),hvs _,rfl,?_,?_⟩,?_⟩
  ·intro j t r hj hr'
   rw[hrt]at hj hr'
   match j with
   | 0=>
    simp at hj
    subst hj
    have:r=.bool true:=by simpa[Value.resultList]using hr'.symm
    subst this
    exact okWide_bool_mk htb _
   | j+1=>simp at hj
  ·intro b off hp
   have hin:MemPlace.cell b off∈pa++[]:=by simpa using hp
   rw[hb.frozen (hlt _ hin)]
   exact hz b off hin
  ·intro ha
   have:=hn ha
   simpa using this
  ·intro p hp _
   simpa using hp
end
end Go.Proofs.Ytljkdffikfkcgaa
end
section
namespace Go.Proofs.Ytljkdffikfkcgaa
open Go.ChangeShapes Go.WideShapes Go.ChangeAt Go.RowKit
structure Elem(P:Program)(t e:TypeId)(z:Value)(size bytes:Nat):Prop where
 ht:P.underlying t=some (.slice e)
 hi:∃i,P.info? e=some i∧i.zero=some z∧i.size=size∧i.bytes=bytes
 hz:z.cells.size=size
 hs:0<size
theorem elem_mk{P:Program}{t e:TypeId}{z:Value}{size bytes:Nat}(ht:P.underlying t=some (.slice e))(hi:(P.info? e).map (fun i=>(i.zero,i.size,i.bytes))=some (some z,size,bytes))
  (hz:z.cells.size=size) (hs:0<size):Elem P t e z size bytes:=
 ⟨ht,by obtain⟨i,h1,h2,h3,h4⟩:=info_parts hi;exact⟨i,h1,h2,h3,h4⟩,hz,hs⟩
def Flat(w:World)(size:Nat)(A:Option Addr)(n:Nat)(xs:List Value):Prop:=
 xs.length=n*size∧(0<n→∃b o,A=some ⟨b,o,none⟩∧∀j u,xs[j]? =some u→w.cell? ⟨b,o+j,none⟩=some u)
theorem run_append_nil_src{P:Program}(w:World)(base:Nat)(t ty e:TypeId)(i:TypeInfo)(size:Nat)(ht:P.underlying t=some (.slice e))(hi:P.info? e=some i)
  (v:Value) (n:Nat) (xs:List Value) (hown:w.ownsRow base e size v n xs) (c:Nat):(Builtin.append_ #[t,t] ty #[v,.slice none 0 c]).run P w=.ok v w:=by
 rcases hown.2 with⟨rfl,rfl⟩ | ⟨g,cap,cur,rfl,_,_,hnc,_⟩
 ·simp[Builtin.append_,run_underlying ht,sizeOf,typeInfo,hi,Builtin.lenOf,Builtin.firstCells]
 ·simp[Builtin.append_,run_underlying ht,sizeOf,typeInfo,hi,Builtin.lenOf,Builtin.firstCells,hnc,storeCells]
section
variable {P:Program} {w:World} {t e:TypeId} {z:Value} {size bytes:Nat}
theorem run_app(E:Elem P t e z size bytes)(ty:TypeId)(base:Nat)(v:Value)(n:Nat)(xs:List Value)(hown:w.ownsRow base e size v n xs)
  (A:Option Addr) (m c:Nat) (news:List Value) (hf:Flat w size A m news) (h1:∀u∈news,u.oneCell'=true)
  (h63:n+m≤maxLen) (hbytes:(n+m)*bytes≤140737488355328) (hbase:base≤w.heap.size) :
  ∃v' w',(Builtin.append_ #[t,t] ty #[v,.slice A m c]).run P w=.ok v' w'∧w'.ownsRow base e size v' (n+m) (xs++news)∧w.grownBy w' v.ownBlock:=by
 obtain⟨i,hi,hz0,hsz,hby⟩:=E.hi
 rcases A with _ | ad
 ·have hm:m=0:=by
   rcases Nat.eq_zero_or_pos m with h0 | h0
   ·exact h0
   ·obtain⟨b,o,h,_⟩:=hf.2 h0
    cases h
  subst hm
  have hn:news=[]:=List.eq_nil_of_length_eq_zero (by simpa using hf.1)
  subst hn
  exact⟨v,w,run_append_nil_src w base t ty e i size E.ht hi v n xs hown c,by simpa using hown,World.grownBy.refl w _⟩
 ·have hcells:∀j u,news[j]? =some u→w.cell? (ad.add j)=some u:=by
   intro j u hu
   rcases Nat.eq_zero_or_pos m with h0 | h0
   ·subst h0
    have hn:news=[]:=List.eq_nil_of_length_eq_zero (by simpa using hf.1)
    subst hn
    simp at hu
   ·obtain⟨b,o,h,hc⟩:=hf.2 h0
    injection h with h
    subst h
    rw[Addr.add_lit]
    exact hc j u hu
  obtain⟨v',w',hrun,h2,h3,_⟩:=run_append_own (P:=P) w base t ty e i z size bytes E.ht hi hz0 hsz hby E.hz E.hs v n xs hown ad m c news hf.1 hcells h1 h63 hbytes hbase
  exact⟨v',w',hrun,h2,h3⟩
theorem wp_app{o:Oper}{a:Act}{K:Act→World→Prop}{Q:Exit→Act→World→Prop}(s x:Operand)
  (ho:o.op=.call {callee:=.builtin .append,args:=#[s,x],argTypes:=#[t,t]}) (E:Elem P t e z size bytes) (base:Nat)
  (v:Value) (n:Nat) (xs:List Value) (hs:a.eval s=v) (hown:w.ownsRow base e size v n xs)
  (A:Option Addr) (m c:Nat) (news:List Value) (hx:a.eval x=.slice A m c) (hf:Flat w size A m news) (h1:∀u∈news,u.oneCell'=true)
  (h63:n+m≤maxLen) (hbytes:(n+m)*bytes≤140737488355328) (hbase:base≤w.heap.size)
  (h:∀v' w',w'.ownsRow base e size v' (n+m) (xs++news)→w.grownBy w' v.ownBlock→K (a.put o.dst v') w'):o.wp P a w K Q:=by
 obtain⟨v',w',hrun,h2,h3⟩:=run_app E o.type base v n xs hown A m c news hf h1 h63 hbytes hbase
 unfold Oper.wp execOp
 simp only[ho,resolve,invoke,builtin,Sem.run_bind,Sem.run_pure,Result.andThen_ok,List.map_toArray,List.map_cons,List.map_nil,hs,hx,hrun]
 exact h v' w' h2 h3
theorem wpList_app{ops:Array Oper}{rest:List Oper}{o:Oper}{a:Act}{Q:Exit→Act→World→Prop}(hgd:o.guard=none)(s x:Operand)
  (ho:o.op=.call {callee:=.builtin .append,args:=#[s,x],argTypes:=#[t,t]}) (E:Elem P t e z size bytes) (base:Nat)
  (v:Value) (n:Nat) (xs:List Value) (hs:a.eval s=v) (hown:w.ownsRow base e size v n xs)
  (A:Option Addr) (m c:Nat) (news:List Value) (hx:a.eval x=.slice A m c) (hf:Flat w size A m news) (h1:∀u∈news,u.oneCell'=true)
  (h63:n+m≤maxLen) (hbytes:(n+m)*bytes≤140737488355328) (hbase:base≤w.heap.size)
  (h:∀v' w',w'.ownsRow base e size v' (n+m) (xs++news)→w.grownBy w' v.ownBlock→wpList P ops Q rest (a.put o.dst v') w'):wpList P ops Q (o::rest) a w:=
 wpList_plain hgd fun _ hK=>wp_app s x ho E base v n xs hs hown A m c news hx hf h1 h63 hbytes hbase fun v' w' h2 h3=>hK _ _ (h v' w' h2 h3)
end
theorem own_from{w:World}{base:Nat}{e:TypeId}{size n:Nat}{v:Value}{xs:List Value}(h:w.ownsRow base e size v n xs):∀k,v.ownBlock=some k→base≤k:=fun k hk=>(h.lt k hk).1
theorem Flat.kept{w w':World}{size n:Nat}{A:Option Addr}{xs:List Value}(h:Flat w size A n xs)(hb:Below w.heap.size w w'):Flat w' size A n xs:=by
 refine⟨h.1,fun hn=>?_⟩
 obtain⟨b,o,hA,hc⟩:=h.2 hn
 exact⟨b,o,hA,fun j u hu=>cell_kept (fun hlt=>hb.block b hlt) (hc j u hu)⟩
theorem Sl.one{α:Type}{size:Nat}{R:Rel α}{w:World}{F:Nat→Prop}{b:Nat}{e:TypeId}{cs:List Value}{x:α}(hb:w.heap.size=b)(hl:cs.length=size)(hF:F b)
  (hR:R (w.alloc (.cells cs.toArray e)) F x cs):Sl size R (w.alloc (.cells cs.toArray e)) F (.slice (some ⟨b,0,none⟩) 1 1) [x]:=by
 subst hb
 refine⟨_,1,rfl,by simp,by simp[maxLen],fun _=>⟨_,0,rfl,hF,fun i y hy=>?_⟩⟩
 match i with
 | 0=>
  simp at hy
  subst hy
  refine⟨cs,hl,hR,fun j u hu=>?_⟩
  rw[cell_of_row _ _ _ cs.toArray e (0,0) (heap_alloc_new w _)]
  simpa using hu
 | i+1=>simp at hy
end Go.Proofs.Ytljkdffikfkcgaa
end
section
namespace Go.Proofs.Ytljkdffikfkcgaa
open Go.ChangeShapes Go.WideShapes Go.ChangeAt Go.RowKit
abbrev Ints:=Sl (α:=Int) 1 (rInt .i64)
def Fit(l:List Int):Prop:=∀x∈l,(Lit.int .i64 x).wf=true
theorem Ints.fit{A:Option Addr}{n c:Nat}{l:List Int}{w:World}{F:Nat→Prop}(h:Ints w F (.slice A n c) l):Fit l:=by
 intro x hx
 obtain⟨i,hi,rfl⟩:=List.getElem_of_mem hx
 obtain⟨b,o,cs,hA,hb,_,hR,hc⟩:=h.at_ hi
 exact hR.2
end Go.Proofs.Ytljkdffikfkcgaa
end
section
namespace Go.Proofs.Ytljkdffikfkcgaa
open Go.ChangeShapes Go.WideShapes Go.ChangeAt Go.RowKit
set_option linter.unusedVariables false
structure WD where
 nc:Nat
 rw:List Bool
 mx:List Int
 nf:Nat
 nt:Nat
structure LockD where
 owner:Int
 readers:List Int
structure ThrD where
 status:Int
 cond:Int
 atomic:Bool
structure SyncD where
 locks:List LockD
 tx:Int
 done:List Bool
 threads:List ThrD
def rLk:Rel Bool:=fun _ _ b cs=>∃s,cs=[.string s,.bool b]
def rCd:Rel Int:=fun _ _ m cs=>∃s,cs=[.string s,.int .i64 m]∧(Lit.int .i64 m).wf=true
def rLock:Rel LockD:=fun w F l cs=>∃A n c,cs=[.int .i64 l.owner,.slice A n c]∧(Lit.int .i64 l.owner).wf=true∧Ints w F (.slice A n c) l.readers
def rThr:Rel ThrD:=fun _ _ t cs=>cs=[.int .i64 t.status,.int .i64 t.cond,.bool t.atomic]∧(Lit.int .i64 t.status).wf=true∧(Lit.int .i64 t.cond).wf=true
theorem rLk_stays:rLk.Stays:=fun _ _ _ _ _ _ _ _ h=>h
theorem rCd_stays:rCd.Stays:=fun _ _ _ _ _ _ _ _ h=>h
theorem rThr_stays:rThr.Stays:=fun _ _ _ _ _ _ _ _ h=>h
theorem rLock_stays:rLock.Stays:=fun w w' F F' l cs hk hF ⟨A,n,c,h1,h2,h3⟩=>⟨A,n,c,h1,h2,h3.stays (by decide) (rInt_stays _) hk hF⟩
structure WV where
 cA:Option Addr
 nc:Nat
 cc:Nat
 lA:Option Addr
 nl:Nat
 lc:Nat
 dA:Option Addr
 nd:Nat
 dc:Nat
 fA:Option Addr
 nf:Nat
 fc:Nat
 tA:Option Addr
 nt:Nat
 tc:Nat
 sA:Option Addr
 ns:Nat
 sc:Nat
structure WOk(w:World)(F:Nat→Prop)(v:WV)(d:WD):Prop where
 nc:v.nc=d.nc∧v.nc≤maxLen
 nf:v.nf=d.nf∧v.nf≤maxLen
 nt:v.nt=d.nt∧v.nt≤maxLen
 locks:Sl 2 rLk w F (.slice v.lA v.nl v.lc) d.rw
 conds:Sl 2 rCd w F (.slice v.dA v.nd v.dc) d.mx
structure SV where
 kA:Option Addr
 nk:Nat
 kc:Nat
 tx:Int
 eA:Option Addr
 ne:Nat
 ec:Nat
 hA:Option Addr
 nh:Nat
 hc:Nat
structure SOk(w:World)(F:Nat→Prop)(v:SV)(d:SyncD):Prop where
 locks:Sl 2 rLock w F (.slice v.kA v.nk v.kc) d.locks
 done:Sl 1 rBool w F (.slice v.eA v.ne v.ec) d.done
 threads:Sl 3 rThr w F (.slice v.hA v.nh v.hc) d.threads
 tx:v.tx=d.tx
 wf:(Lit.int .i64 d.tx).wf=true
abbrev WV.val(v:WV):Value:=.agg #[.slice v.cA v.nc v.cc,.slice v.lA v.nl v.lc,.slice v.dA v.nd v.dc,.slice v.fA v.nf v.fc,.slice v.tA v.nt v.tc,.slice v.sA v.ns v.sc]
abbrev SV.val(v:SV):Value:=.agg #[.slice v.kA v.nk v.kc,.int .i64 v.tx,.slice v.eA v.ne v.ec,.slice v.hA v.nh v.hc]
theorem WOk.stays{w w':World}{F F':Nat→Prop}{v:WV}{d:WD}(h:WOk w F v d)(hk:∀b,F b→b<w.heap.size→w'.heap[b]? =w.heap[b]?)(hF:∀b,F b→b<w.heap.size→F' b):WOk w' F' v d:=
 ⟨h.nc,h.nf,h.nt,h.locks.stays (by decide) rLk_stays hk hF,h.conds.stays (by decide) rCd_stays hk hF⟩
theorem SOk.stays{w w':World}{F F':Nat→Prop}{v:SV}{d:SyncD}(h:SOk w F v d)(hk:∀b,F b→b<w.heap.size→w'.heap[b]? =w.heap[b]?)(hF:∀b,F b→b<w.heap.size→F' b):SOk w' F' v d:=
 ⟨h.locks.stays (by decide) rLock_stays hk hF,h.done.stays (by decide) rBool_stays hk hF,h.threads.stays (by decide) rThr_stays hk hF,h.tx,h.wf⟩
def inB(i:Int)(n:Nat):Bool:=decide (0≤i)&&decide (i<n)
end Go.Proofs.Ytljkdffikfkcgaa
end
section
namespace Go.Proofs.Ytljkdffikfkcgaa.Am
open Go.RowKit
set_option linter.unusedVariables false
theorem iK{w w':World}{σ:bq}{T:Nat→Prop}(h:Below w.heap.size w w')(hfr:∀c,σ.fr c→c<w.heap.size):en w σ T w' σ T:=
 ⟨h.os,h.tape,h.output,h.size,fun c hc _=>h.block c hc,fun c cs e hc=>⟨cs,by rw[h.block c (Array.getElem?_eq_some_iff.1 hc).1];exact hc,rfl⟩,fun _ _ h=>h,rfl,fun c hc=>h.block c (hfr c hc),fun _ h=>.inl h⟩
theorem rR{w w':World}{σ:bq}{H:ah}(hW:bc w σ H)(h:Below w.heap.size w w'):bc w' σ H:=
 ⟨hW.named,fun b pl hb=>Nat.lt_of_lt_of_le (hW.lt b pl hb) h.size,fun b x hb=>by
  obtain⟨pl,cs,e,h1,h2⟩:=hW.live b x hb
  exact⟨pl,cs,e,h1,h2.mono (iK h fun c hc=>(hW.apart c hc).1) (h.block _ (hW.lt b pl h1))⟩,fun c hc=>⟨Nat.lt_of_lt_of_le (hW.apart c hc).1 h.size,(hW.apart c hc).2⟩,hW.inj⟩
theorem BK{w w':World}{σ:bq}{H:ah}{b g:Nat}(hW:bc w σ H)(hbl:Below w.heap.size w w')(hb:σ b=none)(hlt:b<H.next)(hg:w.heap.size≤g){x:Blk}{cs:Array Value}{e:TypeId}(hgb:w'.heap[g]? =some (.cells cs e (0,0)))
  (even:∀(i:Nat) (r:List AV),x.rows[i]? =some r→r.length=x.size) (room:x.rows.length*x.size≤cs.size)
  (rep:∀(i:Nat) (r:List AV) (j:Nat) (a:AV) (u:Value),x.rows[i]? =some r→r[j]? =some a→cs[i*x.size+j]? =some u→bl w σ (aQ σ H) a u) :
  bc w' (σ.set b ⟨g,0,x.size⟩) (H.new b x)∧en w σ (aQ σ H) w' (σ.set b ⟨g,0,x.size⟩) (aQ (σ.set b ⟨g,0,x.size⟩) (H.new b x)):=by
 have hnone:H.get b=none:=by
  cases hg:H.get b with
  | none=>rfl
  | some y=>obtain⟨pl,_,_,h1,_⟩:=hW.live b y hg;rw[hb]at h1;cases h1
 have hgl:g<w'.heap.size:=(Array.getElem?_eq_some_iff.1 hgb).1
 have ext:en w σ (aQ σ H) w' (σ.set b ⟨g,0,x.size⟩) (aQ (σ.set b ⟨g,0,x.size⟩) (H.new b x)):=by
  refine⟨hbl.os,hbl.tape,hbl.output,hbl.size,fun c hc _=>hbl.block c hc,fun c cs' e' hc=>⟨cs',by rw[hbl.block c (Array.getElem?_eq_some_iff.1 hc).1];exact hc,rfl⟩,fun c q hq=>bq.set_old hb hq,rfl,fun c hc=>hbl.block c (hW.apart c hc).1,?_⟩
  rintro c (hfr | ⟨b',y,pl,h1,h2,h3⟩)
  ·exact .inl (.inl hfr)
  rw[ah.get_new]at h1
  by_cases hbb:b=b'
  ·subst hbb
   rw[bq.set_eq]at h2
   cases h2
   exact .inr (by simp only[]at h3;omega)
  ·rw[if_neg hbb]at h1
   rw[bq.set_ne _ _ hbb]at h2
   exact .inl (.inr ⟨b',y,pl,h1,h2,h3⟩)
 refine⟨⟨?_,?_,?_,?_,?_⟩,ext⟩
 ·intro c pl hc
  by_cases hbc:b=c
  ·subst hbc;exact hlt
  ·rw[bq.set_ne _ _ hbc]at hc;exact hW.named c pl hc
 ·intro c pl hc
  by_cases hbc:b=c
  ·subst hbc;rw[bq.set_eq]at hc;cases hc;exact hgl
  ·rw[bq.set_ne _ _ hbc]at hc;exact Nat.lt_of_lt_of_le (hW.lt c pl hc) hbl.size
 ·intro c y hy
  rw[ah.get_new]at hy
  by_cases hbc:b=c
  ·subst hbc
   rw[if_pos rfl]at hy
   cases hy
   exact⟨_,cs,e,bq.set_eq _ _ _,⟨rfl,hgb,even,by simpa using room,fun i r j a u h1 h2 h3=>(rep i r j a u h1 h2 (by simpa using h3)).mono ext⟩⟩
  ·rw[if_neg hbc]at hy
   obtain⟨pl,cs',e',h1,h2⟩:=hW.live c y hy
   exact⟨pl,cs',e',by rw[bq.set_ne _ _ hbc];exact h1,h2.mono ext (hbl.block _ (hW.lt c pl h1))⟩
 ·intro c hc
  refine⟨Nat.lt_of_lt_of_le (hW.apart c hc).1 hbl.size,?_⟩
  rintro⟨b',y,pl,h1,h2,h3⟩
  rw[ah.get_new]at h1
  by_cases hbb:b=b'
  ·subst hbb
   rw[bq.set_eq]at h2
   cases h2
   have:=(hW.apart c hc).1
   simp only[]at h3;omega
  ·rw[if_neg hbb]at h1
   rw[bq.set_ne _ _ hbb]at h2
   exact(hW.apart c hc).2 ⟨b',y,pl,h1,h2,h3⟩
 ·intro c c' y y' pl pl' h1 h2 h3 h4 h5
  rw[ah.get_new]at h1 h2
  by_cases hbc:b=c
  ·by_cases hbc':b=c'
   ·exact hbc.symm.trans hbc'
   ·subst hbc
    rw[bq.set_eq]at h3;cases h3
    rw[bq.set_ne _ _ hbc']at h4
    have:=hW.lt c' pl' h4
    simp only[]at h5;omega
  ·by_cases hbc':b=c'
   ·subst hbc'
    rw[bq.set_eq]at h4;cases h4
    rw[bq.set_ne _ _ hbc]at h3
    have:=hW.lt c pl h3
    simp only[]at h5;omega
   ·rw[if_neg hbc]at h1
    rw[if_neg hbc']at h2
    rw[bq.set_ne _ _ hbc]at h3
    rw[bq.set_ne _ _ hbc']at h4
    exact hW.inj c c' y y' pl pl' h1 h2 h3 h4 h5
theorem Bb{w:World}{σ:bq}{T:Nat→Prop}{a:AV}{vs:List Value}(h:db w σ T [a] vs):∃v,vs=[v]∧bl w σ T a v:=by
 match vs,h with
 | [v],h=>exact⟨v,rfl,h.2 0 a v rfl rfl⟩
 | [],h=>exact absurd h.1 (by simp)
 | _::_::_,h=>exact absurd h.1 (by simp)
section
variable {P:Program} {f:FuncId} {e:TypeId} {size bytes:Nat}
def xJ(P:Program)(f:FuncId)(e:TypeId)(size bytes:Nat):Prop:=∀(A:Option Addr) (n c:Nat) (xs:List Value) (w:World),Go.Proofs.Ytljkdffikfkcgaa.Flat w size A n xs→(∀x∈xs,x.oneCell'=true)→n*bytes≤140737488355328→(A=none→n=0)→
 Calls P f #[.slice A n c] w fun e' w'=>∃v,e'=.returned v∧w'.ownsRow w.heap.size e size v n xs∧Below w.heap.size w w'
theorem uZ(hcl:xJ P f e size bytes)(hbody:∃fn c,P.funcs[f]? =some fn∧fn.body=some c)(rows:List (List AV))(hne:rows≠[])(hone:(rows.all fun r=>r.all AV.one)=true)(hev:∀r∈rows,r.length=size)(hbig:rows.length*bytes≤140737488355328):
  am P f [.lst rows] [] fun v L=>∃b,v=.sl b 0 rows.length∧L=[(b,⟨size,rows⟩)]:=by
 have hsz:∀(i:Nat) (r:List AV),rows[i]? =some r→r.length=size:=fun i r hr=>hev r (List.mem_of_getElem? hr)
 refine⟨hbody,fun H hb hs=>⟨.sl H.next 0 rows.length,({H with next:=H.next+1}:ah).new H.next ⟨size,rows⟩,[(H.next,⟨size,rows⟩)],?_,?_,H.next,rfl,rfl⟩⟩
 ·intro w σ vs hW hvs
  obtain⟨v,rfl,hv⟩:=Bb hvs
  obtain⟨A,cap,rfl,hn,hm,ha⟩:=hv.lst_inv
  obtain⟨b,o,sz,rfl,hl,hrep⟩:=ha hne
  have hl0:0<rows.length:=List.length_pos_iff.2 hne
  obtain rfl:size=sz:=by
   rw[←hl.even 0 rows[0] (List.getElem?_eq_getElem hl0)]
   exact(hsz 0 rows[0] (List.getElem?_eq_getElem hl0)).symm
  have hdm:∀p,p<rows.length*size→p / size<rows.length∧p % size<size∧p=p / size*size+p % size:=fun p hp=>
   ⟨(Nat.div_lt_iff_lt_mul hl.pos).2 hp,Nat.mod_lt _ hl.pos,by rw[Nat.mul_comm];exact(Nat.div_add_mod _ _).symm⟩
  let xs:List Value:=(List.range (rows.length*size)).map fun p=>(w.cell? ⟨b,o+p,none⟩).getD undef
  have hxl:xs.length=rows.length*size:=by simp[xs]
  have hcell:∀p u,xs[p]? =some u→w.cell? ⟨b,o+p,none⟩=some u:=fun p u hu=>by
   have hp:p<rows.length*size:=by rw[←hxl];exact ax hu
   simp only[xs,List.getElem?_map,List.getElem?_range hp,Option.map_some,Option.some.injEq]at hu
   obtain⟨d1,d2,d3⟩:=hdm p hp
   obtain⟨q,hq⟩:=hl.cell (p / size) (p % size) d1 d2
   rw[Nat.add_assoc,←d3]at hq
   rw[hq]at hu ⊢
   simp only[Option.getD_some]at hu
   rw[hu]
  have hrp:∀(i:Nat) (r:List AV) (j:Nat) (a:AV) (u:Value),rows[i]? =some r→r[j]? =some a→xs[i*size+j]? =some u→bl w σ (aQ σ H) a u:=fun i r j a u h1 h2 h3=>hrep i r j a u h1 h2 (by rw[Nat.add_assoc];exact hcell _ u h3)
  have hone':∀x∈xs,x.oneCell'=true:=fun x hx=>by
   obtain⟨p,hp,rfl⟩:=List.getElem_of_mem hx
   have hp':p<rows.length*size:=by omega
   obtain⟨d1,d2,d3⟩:=hdm p hp'
   have hr:rows[p / size]? =some rows[p / size]:=List.getElem?_eq_getElem d1
   have hj:p % size<rows[p / size].length:=by rw[hsz _ _ hr];exact d2
   have h1:=hrp (p / size) _ (p % size) _ xs[p] hr (List.getElem?_eq_getElem hj) (by rw[←d3];exact List.getElem?_eq_getElem hp)
   exact h1.one (List.all_eq_true.1 (List.all_eq_true.1 hone _ (List.getElem_mem d1)) _ (List.getElem_mem hj))
  refine(hcl (some ⟨b,o,none⟩) rows.length cap xs w ⟨hxl,fun _=>⟨b,o,rfl,hcell⟩⟩ hone' hbig (fun h=>by cases h)).mono ?_
  rintro e' w' ⟨v',rfl,hown,hbl⟩
  rcases hown.2 with⟨_,h0⟩ | ⟨g,cap',cur,rfl,hg,hgb,hnc,hcm,hcs,ht⟩
  ·omega
  have hσ:σ H.next=none:=by
   cases hq:σ H.next with
   | none=>rfl
   | some pl=>exact absurd (hW.named _ pl hq) (Nat.lt_irrefl _)
  have hW1:bc w σ {H with next:=H.next+1}:=hW.congr (fun _=>rfl) (Nat.le_succ _)
  have hOwn:aQ σ ({H with next:=H.next+1}:ah)=aQ σ H:=aQ.congr fun _=>rfl
  have hle:rows.length*size≤cur.size:=by rw[hcs];exact Nat.mul_le_mul_right _ hnc
  obtain⟨g1,g2⟩:=BK (b:=H.next) (g:=g) (x:=⟨size,rows⟩) hW1 hbl hσ (Nat.lt_succ_self _) hg hgb hsz hle (fun i r j a u h1 h2 h3=>by
   rw[hOwn]
   refine hrp i r j a u h1 h2 ?_
   have hj:j<size:=by rw[←hsz i r h1];exact ax h2
   rw[←ht,List.getElem?_take_of_lt (j8 (ax h1) hj),Array.getElem?_toList]
   exact h3)
  refine⟨_,_,rfl,?_,g1,by rw[hOwn]at g2;exact g2,fun c pl hc=>?_⟩
  ·refine bl.sl H.next 0 rows.length ⟨g,0,size⟩ ⟨g,0,none⟩ cap' (bq.set_eq _ _ _) hnc hcm fun _=>⟨by simp,cur,e,hgb,by simp;omega⟩
  ·by_cases hbc:H.next=c
   ·subst hbc;exact .inr (Nat.le_refl _)
   ·rw[bq.set_ne _ _ hbc]at hc;exact .inl hc
 ·refine⟨Nat.le_succ _,fun c hc=>?_,⟨by simp,fun p hp=>?_⟩,fun c x hc _=>⟨?_,?_⟩,fun c hc h0=>?_,fun c hc hlt=>?_⟩
  ·have hc:H.next+1≤c:=hc
   rw[ah.get_new,if_neg (by omega)];exact hb c (by omega)
  ·simp only[List.mem_singleton]at hp;subst hp;rw[ah.get_new,if_pos rfl]
  ·rw[ah.get_new,if_neg];exact hc
   rintro rfl;rw[hb _ (Nat.le_refl _)]at hc;cases hc
  ·simp only[List.map_cons,List.map_nil,List.mem_singleton];rintro rfl;rw[hb _ (Nat.le_refl _)]at hc;cases hc
  ·rw[ah.get_new,if_neg (by omega)];exact h0
  ·simp only[List.map_cons,List.map_nil,List.mem_singleton]at hc;omega
theorem Ai(hcl:xJ P f e size bytes)(hbody:∃fn c,P.funcs[f]? =some fn∧fn.body=some c):am P f [.lst []] [] fun v L=>v=.lst []∧L=[]:=by
 refine⟨hbody,fun H hb hs=>⟨.lst [],H,[],?_,.refl hb hs,rfl,rfl⟩⟩
 intro w σ vs hW hvs
 obtain⟨v,rfl,hv⟩:=Bb hvs
 obtain⟨A,cap,rfl,hn,hm,_⟩:=hv.lst_inv
 refine(hcl A 0 cap [] w ⟨by simp,by omega⟩ (by simp) (by omega) (fun _=>rfl)).mono ?_
 rintro e' w' ⟨v',rfl,hown,hbl⟩
 refine⟨v',σ,rfl,?_,rR hW hbl,iK hbl fun c hc=>(hW.apart c hc).1,fun c pl hc=>.inl hc⟩
 rcases hown.2 with⟨rfl,_⟩ | ⟨g,cap',cur,rfl,hg,hgb,hnc,hcm,hcs,ht⟩
 ·exact .lst0 _ _ (by unfold maxLen;omega)
 ·exact .lst0 _ _ hcm
theorem Aj(hcl:∀(A:Option Addr) (c:Nat) (w:World),Calls P f #[.slice A 0 c] w fun e' w'=>∃B,e'=.returned (.slice B 0 0)∧Below w.heap.size w w')(hbody:∃fn c,P.funcs[f]? =some fn∧fn.body=some c):am P f [.lst []] [] fun v L=>v=.emp∧L=[]:=by
 refine⟨hbody,fun H hb hs=>⟨.emp,H,[],?_,.refl hb hs,rfl,rfl⟩⟩
 intro w σ vs hW hvs
 obtain⟨v,rfl,hv⟩:=Bb hvs
 obtain⟨A,cap,rfl,hn,hm,_⟩:=hv.lst_inv
 refine(hcl A cap w).mono ?_
 rintro e' w' ⟨B,rfl,hbl⟩
 exact⟨_,σ,rfl,.emp B,rR hW hbl,iK hbl fun c hc=>(hW.apart c hc).1,fun c pl hc=>.inl hc⟩
end
end Go.Proofs.Ytljkdffikfkcgaa.Am
end
section
namespace Go.Proofs.Ytljkdffikfkcgaa.Am
open Go.RowKit
set_option linter.unusedVariables false
def dU:Option Nat→Nat→AV
 | none,_=>.lst []
 | some b,n=>.sl b 0 n
theorem BL{P:Program}{f:FuncId}{e:TypeId}{size bytes:Nat}(hcl:xJ P f e size bytes)(hbody:∃fn c,P.funcs[f]? =some fn∧fn.body=some c)(rows:List (List AV))(hone:(rows.all fun r=>r.all AV.one)=true)(hev:∀r∈rows,r.length=size)(hbig:rows.length*bytes≤140737488355328):
  am P f [.lst rows] [] fun v L=>∃o,v=dU o rows.length∧L=ao o size rows∧(o=none→rows=[]):=by
 rcases List.eq_nil_or_concat rows with rfl | ⟨ys,y,hxs⟩
 ·exact(Ai hcl hbody).mono fun v L ⟨h1,h2⟩=>⟨none,h1,h2,fun _=>rfl⟩
 ·refine(uZ hcl hbody rows (by rw[hxs];simp) hone hev hbig).mono ?_
  rintro v L ⟨b,rfl,rfl⟩
  exact⟨some b,rfl,rfl,fun h=>by cases h⟩
end Go.Proofs.Ytljkdffikfkcgaa.Am
end
section
namespace Go.Proofs
open Go.Shelf
def Try.lays189_ren:Go.Shelf.Ren:=⟨fun | 189=>38 | 125=>58 | 257=>57 | 128=>78 | 129=>79 | 294=>69 | 295=>70 | 296=>71 | 297=>72 | 298=>73 | 299=>74 | 216=>75 | 300=>76 | 301=>77 | 328=>87 | 329=>88 | 330=>89 | 331=>90 | 332=>91 | 215=>92 | 343=>94 | n=>n,fun | 28=>42 | 3=>3 | 46=>134 | 0=>0 | 51=>153 | 53=>155 | 4=>4 | 183=>145 | 182=>144 | 131=>150 | 5=>5 | 9=>9 | 218=>161 | 222=>165 | 228=>167 | 229=>159 | n=>n,fun | n=>n⟩
theorem Try.lays189:Go.Proofs.Lays.n189 Try.prog Try.lays189_ren:={
 mixed:=by kernel_rfl
 f125:=Try.func58.trans (congrArg some (by kernel_rfl))
 f128:=Try.func78.trans (congrArg some (by kernel_rfl))
 f129:=Try.func79.trans (congrArg some (by kernel_rfl))
 f189:=Try.func38.trans (congrArg some (by kernel_rfl))
 f215:=Try.func92.trans (congrArg some (by kernel_rfl))
 f216:=Try.func75.trans (congrArg some (by kernel_rfl))
 f257:=Try.func57.trans (congrArg some (by kernel_rfl))
 f294:=Try.func69.trans (congrArg some (by kernel_rfl))
 f295:=Try.func70.trans (congrArg some (by kernel_rfl))
 f296:=Try.func71.trans (congrArg some (by kernel_rfl))
 f297:=Try.func72.trans (congrArg some (by kernel_rfl))
 f298:=Try.func73.trans (congrArg some (by kernel_rfl))
 f299:=Try.func74.trans (congrArg some (by kernel_rfl))
 f300:=Try.func76.trans (congrArg some (by kernel_rfl))
 f301:=Try.func77.trans (congrArg some (by kernel_rfl))
 f328:=Try.func87.trans (congrArg some (by kernel_rfl))
 f329:=Try.func88.trans (congrArg some (by kernel_rfl))
 f330:=Try.func89.trans (congrArg some (by kernel_rfl))
 f331:=Try.func90.trans (congrArg some (by kernel_rfl))
 f332:=Try.func91.trans (congrArg some (by kernel_rfl))
 f343:=Try.func94.trans (congrArg some (by kernel_rfl))
 t0:=Try.underlying0
 a0:=Try.isAgg0
 z0:=Try.sizeOf0
 v0:=Try.zeroValue0
 t3:=Try.underlying3
 a3:=Try.isAgg3
 z3:=Try.sizeOf3
 v3:=Try.zeroValue3
 t4:=Try.underlying4
 a4:=Try.isAgg4
 z4:=Try.sizeOf4
 v4:=Try.zeroValue4
 t5:=Try.underlying5
 a5:=Try.isAgg5
 z5:=Try.sizeOf5
 v5:=Try.zeroValue5
 t9:=Try.underlying9
 a9:=Try.isAgg9
 z9:=Try.sizeOf9
 v9:=Try.zeroValue9
 t28:=Try.underlying42
 a28:=Try.isAgg42
 z28:=Try.sizeOf42
 v28:=Try.zeroValue42
 t46:=Try.underlying134
 a46:=Try.isAgg134
 z46:=Try.sizeOf134
 v46:=Try.zeroValue134
 t51:=Try.underlying153
 a51:=Try.isAgg153
 z51:=Try.sizeOf153
 v51:=Try.zeroValue153
 t53:=Try.underlying155
 a53:=Try.isAgg155
 z53:=Try.sizeOf155
 v53:=Try.zeroValue155
 t131:=Try.underlying150
 a131:=Try.isAgg150
 z131:=Try.sizeOf150
 v131:=Try.zeroValue150
 t182:=Try.underlying144
 a182:=Try.isAgg144
 z182:=Try.sizeOf144
 v182:=Try.zeroValue144
 t183:=Try.underlying145
 a183:=Try.isAgg145
 z183:=Try.sizeOf145
 v183:=Try.zeroValue145
 t218:=Try.underlying161
 a218:=Try.isAgg161
 z218:=Try.sizeOf161
 v218:=Try.zeroValue161
 t222:=Try.underlying165
 a222:=Try.isAgg165
 z222:=Try.sizeOf165
 v222:=Try.zeroValue165
 t228:=Try.underlying167
 a228:=Try.isAgg167
 z228:=Try.sizeOf167
 v228:=Try.zeroValue167
 t229:=Try.underlying159
 a229:=Try.isAgg159
 z229:=Try.sizeOf159
 v229:=Try.zeroValue159}
open Go.Sort Go.RowKit in
theorem Try.slices_Sort_int(blk off cap:Nat)(zs:List Int)(w:World)(hH:Holds (Value.int .i64) w blk off zs.toArray)(hblk:blk<w.heap.size)(hsz:zs.length<4611686018427387904):
  Calls Try.prog 38 #[.slice (some ⟨blk,off,none⟩) zs.length cap] w fun e w'=>
   e=.returned (.tuple #[])∧∃n os,w'=grow (putRow (Value.int .i64) (Sort.ahead w n) blk off (zs.mergeSort fun x y=>decide (x≤y)).toArray) os:=Any.slices_Sort_int Try.lays189 blk off cap zs w hH hblk hsz
def Try.laysNm220_ren:Go.Shelf.Ren:=⟨fun | 20=>39 | n=>n,fun | 22=>42 | 3=>3 | 4=>4 | 0=>0 | n=>n,fun | n=>n⟩
theorem Try.laysNm220:Go.Proofs.Lays2.n20 Try.prog Try.laysNm220_ren:={
 mixed:=by kernel_rfl
 f20:=Try.func39.trans (congrArg some (by kernel_rfl))
 t0:=Try.underlying0
 a0:=Try.isAgg0
 z0:=Try.sizeOf0
 v0:=Try.zeroValue0
 t3:=Try.underlying3
 a3:=Try.isAgg3
 z3:=Try.sizeOf3
 v3:=Try.zeroValue3
 t4:=Try.underlying4
 a4:=Try.isAgg4
 z4:=Try.sizeOf4
 v4:=Try.zeroValue4
 t22:=Try.underlying42
 a22:=Try.isAgg42
 z22:=Try.sizeOf42
 v22:=Try.zeroValue42
 i3:=by kernel_rfl}
open Go.RowKit Go.Lib Go.Sort in
theorem Try.slices_Compact_int(blk off cap:Nat)(zs:List Int)(w:World)(hH:Holds (Value.int .i64) w blk off zs.toArray)(hsz:zs.length≤9223372036854775807)(hcap:zs.length≤cap):
  Calls Try.prog 39 #[.slice (some ⟨blk,off,none⟩) zs.length cap] w fun e w'=>e=.returned (.slice (some ⟨blk,off,none⟩) (Lib.compact zs).length cap)∧∃q,w'=putRow (Value.int .i64) (Sort.ahead w q) blk off (Lib.compact zs++List.replicate (zs.length-(Lib.compact zs).length) 0).toArray:=Any.slices_Compact_int Try.laysNm220 blk off cap zs w hH hsz hcap
open Go.RowKit Go.Lib Go.Sort in
theorem Try.slices_Compact_int_empty(a:Option Addr)(cap:Nat)(w:World):
  Calls Try.prog 39 #[.slice a 0 cap] w fun e w'=>e=.returned (.slice a 0 cap)∧w'=w:=Any.slices_Compact_int_empty Try.laysNm220 a cap w
open Go.RowKit Go.Sort in
theorem Try.slices_Sort_int_none(p:Option Addr)(cap:Nat)(w:World):
  Calls Try.prog 38 #[.slice p 0 cap] w fun e w'=>e=.returned (.tuple #[])∧w'=w:=Any.slices_Sort_int_none Try.lays189 p cap w
end Go.Proofs
end
section
namespace Go.Proofs.Ytljkdffikfkcgaa
open Go.ChangeShapes Go.WideShapes Go.ChangeAt Go.RowKit
set_option linter.unusedVariables false
theorem elemI:Elem Try.prog 42 3 (.int .i64 0) 1 8:=elem_mk Try.underlying42 (by kernel_rfl) rfl (by decide)
set_option maxHeartbeats 1000000 in
set_option maxRecDepth 100000 in
theorem cloneI_any(A:Option Addr)(n c:Nat)(xs:List Value)(w:World)(hf:Flat w 1 A n xs)(h1:∀x∈xs,x.oneCell'=true)(hn:n*8≤140737488355328)(hA:A=none→n=0):
  Calls Try.prog 23 #[.slice A n c] w fun e w'=>∃v,e=.returned v∧w'.ownsRow w.heap.size 3 1 v n xs∧Below w.heap.size w w':=by
 have HF:=Lib.hid hf
 have H1:=Lib.hid h1
 clear hf h1
 have heq:=fun(W:World) (a:Option Addr) (l c:Nat)=>Lib.run_eql_slice_nil (P:=Try.prog) W 42 3 a l c 0 0 Try.underlying42
 cases A with
 | none=>
  obtain rfl:n=0:=hA rfl
  have hx:xs=[]:=List.eq_nil_of_length_eq_zero (by have:=HF.out.1;simpa using this)
  have Hx:=Lib.hid hx
  clear hx HF H1
  go_enter Try.func23,Try.ntmps23
  go_wp2_with fail
  go_ret
  exact⟨_,rfl,by rw[Hx.out];exact World.ownsRow_nil _ _ _ _,Below.refl _ _⟩
 | some a=>
  clear hA
  have M0:Hid ((w.alloc (.cells #[] 3)).ownsRow w.heap.size 3 1 (.slice (some ⟨w.heap.size,0,none⟩) 0 0) 0 []):=Lib.hid (World.ownsRow_made w #[] 0 (Nat.le_refl _) (by simp[maxLen]) (by simp))
  go_enter Try.func23,Try.ntmps23
  go_wp2_with (at_builtin;go_must (refine wpList_app rfl (.tmp 5) (.tmp 6) rfl elemI w.heap.size _ 0 [] rfl M0.out (some a) n c xs rfl (HF.out.kept ((Below.refl _ _).alloc (Nat.le_refl _) _)) H1.out (by simp only[maxLen];omega) (by omega) (by simp) ?_);intro v1 w1 hown1 hg1)
  have hb1:=((Below.refl w.heap.size w).alloc (Nat.le_refl _) _).grown hg1 (by simp) (own_from M0.out)
  go_wp2_with fail
  go_ret
  exact⟨_,rfl,by simpa using hown1,hb1⟩
end Go.Proofs.Ytljkdffikfkcgaa
end
section
namespace Go.Proofs.Ytljkdffikfkcgaa
open Go.ChangeShapes Go.WideShapes Go.ChangeAt Go.RowKit
set_option linter.unusedVariables false
set_option maxRecDepth 100000
theorem append_zero(t ty e:TypeId)(P:Program)(w:World)(ht:P.underlying t=some (.slice e))(hi:∃i,P.info? e=some i)(A B:Option Addr)(c:Nat):(Builtin.append_ #[t,t] ty #[.slice A 0 0,.slice B 0 c]).run P w=.ok (.slice A 0 0) w:=by
 obtain⟨i,hi⟩:=hi
 cases A<;>cases B<;>simp[Builtin.append_,run_underlying ht,sizeOf,typeInfo,hi,Builtin.lenOf,Builtin.firstCells,loadCells,loadCellsFrom,storeCells]
theorem cloneI_zero(A:Option Addr)(c:Nat)(w:World):Calls Try.prog 23 #[.slice A 0 c] w fun e w'=>∃B,e=.returned (.slice B 0 0)∧Below w.heap.size w w':=by
 have heq:=fun(W:World) (a:Option Addr) (l c:Nat)=>Lib.run_eql_slice_nil (P:=Try.prog) W 42 3 a l c 0 0 Try.underlying42
 cases A with
 | none=>
  go_enter Try.func23,Try.ntmps23
  go_wp2_with fail
  go_ret
  exact⟨_,rfl,Below.refl _ _⟩
 | some a=>
  have hinf:∃i,Try.prog.info? 3=some i:=Option.isSome_iff_exists.1 (show(Try.prog.info? 3).isSome=true by kernel_rfl)
  have happ:=fun(W:World) (ty:TypeId) (A B:Option Addr)=>append_zero 42 ty 3 Try.prog W Try.underlying42 hinf A B c
  go_enter Try.func23,Try.ntmps23
  go_wp2_with fail
  go_ret
  exact⟨_,rfl,(Below.refl _ _).alloc (Nat.le_refl _) _⟩
end Go.Proofs.Ytljkdffikfkcgaa
end
section
namespace Go.Proofs.Ytljkdffikfkcgaa.Am
open Go.RowKit Go.Sort
set_option linter.unusedVariables false
def wv(l:List Int):List Int:=l.mergeSort fun x y=>decide (x≤y)
theorem xK(l:List Int):(wv l).length=l.length:=by simp[wv]
theorem zf{xs:List Int}{i:Nat}{r:List AV}(h:(xs.map aJ)[i]? =some r):∃x,xs[i]? =some x∧r=[.int .i64 x]:=by
 rw[List.getElem?_map]at h
 cases hx:xs[i]? with
 | none=>rw[hx]at h;cases h
 | some x=>rw[hx]at h;cases h;exact⟨x,rfl,rfl⟩
theorem zg{P:Program}{f:FuncId}(hbody:∃fn c,P.funcs[f]? =some fn∧fn.body=some c)(b:Nat)(xs ys:List Int)(hlen:ys.length=xs.length)(v:AV)(ret:Addr→Nat→Value)
  (hrep:∀(w':World) (σ:bq) (T:Nat→Prop) (pl:fk) (a:Addr) (cap:Nat),σ b=some pl→xs.length≤cap→cap≤maxLen→(0<cap→a=⟨pl.block,pl.base+0*pl.size,none⟩∧∃cs e,w'.heap[pl.block]? =some (.cells cs e (0,0))∧pl.base+(0+cap)*pl.size≤cs.size)→bl w' σ T v (ret a cap))
  (hpos:∀(blk off cap:Nat) (w:World),Holds (Value.int .i64) w blk off xs.toArray→blk<w.heap.size→xs.length≤cap→Calls P f #[.slice (some ⟨blk,off,none⟩) xs.length cap] w fun e w'=>e=.returned (ret ⟨blk,off,none⟩ cap)∧∃n os,w'=grow (putRow (Value.int .i64) (Sort.ahead w n) blk off ys.toArray) os)
  (hzero:xs.length=0→∀(a:Addr) (cap:Nat) (w:World),Calls P f #[.slice (some a) 0 cap] w fun e w'=>e=.returned (ret a cap)∧w'=w) :
  am P f [.sl b 0 xs.length] [(b,⟨1,xs.map aJ⟩)] fun u L=>u=v∧L=[(b,⟨1,ys.map aJ⟩)]:=by
 refine⟨hbody,fun H hb hs=>⟨v,H.put b (some ⟨1,ys.map aJ⟩),[(b,⟨1,ys.map aJ⟩)],?_,?_,rfl,rfl⟩⟩
 ·intro w σ vs hW hvs
  obtain⟨v,rfl,hv⟩:=Bb hvs
  obtain⟨pl,a,cap,rfl,hsg,hnc,hmx,ha⟩:=hv.sl_inv
  have hg:H.get b=some ⟨1,xs.map aJ⟩:=hs.get (b,⟨1,xs.map aJ⟩) (by simp)
  obtain⟨pl',cs,e,g1,g2⟩:=hW.live b _ hg
  rw[hsg]at g1
  cases g1
  have hsz:pl.size=1:=g2.size
  rcases Nat.eq_zero_or_pos xs.length with h0 | h0
  ·have hx:xs=[]:=List.length_eq_zero_iff.1 h0
   have hy:ys=[]:=List.length_eq_zero_iff.1 (by omega)
   have hz:=hzero h0 a cap w
   rw[h0]
   refine hz.mono ?_
   rintro e' w' ⟨rfl,rfl⟩
   have hput:=hW.put hg hsg (iA.refl g2.block) (x':=⟨1,ys.map aJ⟩) g2.size.symm (by simp[hy]) (by simpa[hy,hx]using g2.room) (by simp[hy])
   exact⟨_,σ,rfl,hrep _ _ _ pl a cap hsg hnc hmx ha,hput.1,hput.2,fun c pl hc=>.inl hc⟩
  ·have ha':=ha
   obtain⟨rfl,cs',te,hcs',hroom⟩:=ha (by omega)
   rw[g2.block]at hcs'
   cases hcs'
   have hr:=g2.room
   simp only[List.length_map,Nat.mul_one]at hr
   have hcell:∀(i:Nat) (x:Int),xs[i]? =some x→cs[pl.base+i]? =some (.int .i64 x):=fun i x hx=>by
    have hi:=ax hx
    have hi':pl.base+i<cs.size:=by omega
    have:=g2.rep i [.int .i64 x] 0 (.int .i64 x) cs[pl.base+i] (by simp[hx,aJ]) rfl (by simp[Array.getElem?_eq_getElem hi'])
    cases hq:cs[pl.base+i]with
    | _=>rw[hq]at this;cases this<;>rw[Array.getElem?_eq_getElem hi',hq]
   have hH:Holds (Value.int .i64) w pl.block (pl.base+0*pl.size) xs.toArray:=fun j hj=>by
    have hj':j<xs.length:=by simpa using hj
    refine⟨?_,by simp[World.frozen?,g2.block]⟩
    have:=hcell j xs[j] (List.getElem?_eq_getElem hj')
    simp[World.cell?,g2.block,this,hj']
   refine(hpos pl.block (pl.base+0*pl.size) cap w hH (hW.lt b pl hsg) hnc).mono ?_
   rintro e' w' ⟨rfl,n,os,rfl⟩
   have hz:pl.base+0*pl.size=pl.base:=by omega
   rw[show putRow (Value.int .i64) (Sort.ahead w n) pl.block (pl.base+0*pl.size) ys.toArray=putRow (Value.int .i64) (Sort.ahead w n) pl.block pl.base ys.toArray by rw[hz]]
   have hw:iA w (putRow (Value.int .i64) (Sort.ahead w n) pl.block pl.base ys.toArray) pl.block cs (putCells (Value.int .i64) pl.base ys.toArray cs) e:=
    ⟨rfl,rfl,rfl,by simp[Sort.ahead],g2.block,by simp[putRow,mapBlock,Sort.ahead,Array.getElem?_modify,g2.block,onCells],by simp[putCells],fun d hd=>by
     have:pl.block≠d:=fun e=>hd e.symm
     simp[putRow,mapBlock,Sort.ahead,Array.getElem?_modify,this]⟩
   obtain⟨p1,p2⟩:=hW.put hg hsg hw (x':=⟨1,ys.map aJ⟩) g2.size.symm (fun i r hr=>by obtain⟨x,_,rfl⟩:=zf hr;rfl) (by simp only[List.length_map,Nat.mul_one];omega) (fun i r j a u hr hj hu=>by
    obtain⟨x,hx,rfl⟩:=zf hr
    match j,hj with
    | 0,hj=>
     cases hj
     have hi:=ax hx
     have hi':pl.base+i<cs.size:=by omega
     simp only[Nat.mul_one,Nat.add_zero]at hu
     have:(putCells (Value.int .i64) pl.base ys.toArray cs)[pl.base+i]? =some (.int .i64 x):=by
      have hx':ys[i]=x:=by rw[List.getElem?_eq_getElem hi]at hx;exact Option.some.inj hx
      simp[putCells,hi',hi,hx']
     rw[this]at hu
     cases hu
     exact .int _ _
    | j+1,hj=>simp at hj)
   generalize hw1:putRow (Value.int .i64) (Sort.ahead w n) pl.block pl.base ys.toArray=w1 at p1 p2
   have hbl:Below w1.heap.size w1 (grow w1 os):=⟨rfl,rfl,rfl,by simp[grow],fun k hk=>heap_grow_old _ _ hk⟩
   have hE:=p2.trans (iK hbl fun c hc=>(p1.apart c hc).1)
   exact⟨_,σ,rfl,hrep _ _ _ pl _ cap hsg hnc hmx (fun h=>⟨rfl,by obtain⟨cs2,k1,k2⟩:=hE.shape _ _ _ g2.block;exact⟨cs2,_,k1,by omega⟩⟩),rR p1 hbl,p2.trans (iK hbl fun c hc=>(p1.apart c hc).1),fun c pl hc=>.inl hc⟩
 ·have hg:H.get b=some ⟨1,xs.map aJ⟩:=hs.get (b,⟨1,xs.map aJ⟩) (by simp)
  refine⟨Nat.le_refl _,fun c hc=>?_,⟨by simp,fun p hp=>?_⟩,fun c x hc hn=>⟨?_,?_⟩,fun c hc h0=>?_,fun c hc hlt=>?_⟩
  ·rw[ah.get_put,if_neg];exact hb c hc
   rintro rfl;rw[hb _ hc]at hg;cases hg
  ·simp only[List.mem_singleton]at hp;subst hp;rw[ah.get_put,if_pos rfl]
  ·rw[ah.get_put,if_neg];exact hc
   rintro rfl;exact hn (by simp)
  ·simpa using hn
  ·rw[ah.get_put,if_neg];exact h0
   rintro rfl;rw[hg]at h0;cases h0
  ·simpa using hc
theorem EN(b:Nat)(xs:List Int)(hl:xs.length<4611686018427387904):am Try.prog 38 [.sl b 0 xs.length] [(b,⟨1,xs.map aJ⟩)] fun v L=>v=.tup []∧L=[(b,⟨1,(wv xs).map aJ⟩)]:=
 zg ⟨_,_,Try.func38,rfl⟩ b xs (wv xs) (xK xs) (.tup []) (fun _ _=>.tuple #[]) (fun _ _ _ _ _ _ _ _ _ _=>.tup [] [] rfl (by simp))
  (fun blk off cap w hH hblk _=>Try.slices_Sort_int blk off cap xs w hH hblk hl) (fun _ a cap w=>Try.slices_Sort_int_none (some a) cap w)
theorem s9(l:List Int):(Lib.compact l).length≤l.length:=by
 unfold Lib.compact Lib.compactUpTo
 rw[List.length_map]
 exact Nat.le_trans (List.length_filter_le _ _) (by simp)
theorem Ak(b:Nat)(xs:List Int)(hl:xs.length≤9223372036854775807):am Try.prog 39 [.sl b 0 xs.length] [(b,⟨1,xs.map aJ⟩)] fun v L=>v=.sl b 0 (Lib.compact xs).length∧L=[(b,⟨1,(Lib.compact xs++List.replicate (xs.length-(Lib.compact xs).length) 0).map aJ⟩)]:=
 zg ⟨_,_,Try.func39,rfl⟩ b xs _ (by have:=s9 xs;simp;omega) (.sl b 0 (Lib.compact xs).length) (fun a cap=>.slice (some a) (Lib.compact xs).length cap)
  (fun w' σ T pl a cap h1 h2 h3 h4=>.sl b 0 _ pl a cap h1 (Nat.le_trans (s9 xs) h2) h3 h4)
  (fun blk off cap w hH hblk hcap=>(Try.slices_Compact_int blk off cap xs w hH hl hcap).mono fun e w' ⟨h1,q,h2⟩=>⟨h1,q,#[],by rw[h2,grow_empty]⟩)
  (fun h0 a cap w=>by
   have hx:xs=[]:=List.length_eq_zero_iff.1 h0
   subst hx
   exact Try.slices_Compact_int_empty (some a) cap w)
theorem BM(xs:List Int)(hl:xs.length*8≤140737488355328):am Try.prog 23 [.lst (xs.map aJ)] [] fun v L=>∃o,v=au o xs.length∧L=ao o 1 (xs.map aJ)∧(o=none→xs=[]):=by
 rcases List.eq_nil_or_concat xs with rfl | ⟨ys,y,hxs⟩
 ·exact(Aj cloneI_zero ⟨_,_,Try.func23,rfl⟩).mono fun v L ⟨h1,h2⟩=>⟨none,h1,h2,fun _=>rfl⟩
 ·have hne:xs.map aJ≠[]:=by rw[hxs];simp
  refine(uZ (fun A n c xs w hf h1 hn hA=>cloneI_any A n c xs w hf h1 hn hA) ⟨_,_,Try.func23,rfl⟩ (xs.map aJ) hne (by simp[aJ,AV.one]) (fun r hr=>by obtain⟨x,_,rfl⟩:=List.mem_map.1 hr;rfl) (by simpa using hl)).mono ?_
  rintro v L ⟨b,rfl,rfl⟩
  exact⟨some b,by simp[au],rfl,fun h=>by cases h⟩
end Go.Proofs.Ytljkdffikfkcgaa.Am
end
section
namespace Go.Proofs.Ytljkdffikfkcgaa.Am
set_option linter.unusedVariables false
theorem fx(d:Array Int)(hs:∀i j,i<j→j<d.size→d[i]!≤d[j]!):∀m,m≤d.size→
  (Lib.compactUpTo d m).Pairwise (·<·)∧(∀x∈Lib.compactUpTo d m,∃j,j<m∧x=d[j]!)∧(∀j,j<m→d[j]!∈Lib.compactUpTo d m)
 | 0,_=>⟨by simp[Lib.compactUpTo],by simp[Lib.compactUpTo],by intro j hj;omega⟩
 | m+1,hm=>by
  obtain⟨h1,h2,h3⟩:=fx d hs m (by omega)
  rw[Lib.compactUpTo_succ]
  by_cases hk:Lib.keeps d m=true
  ·rw[if_pos hk]
   refine⟨?_,?_,?_⟩
   ·rw[List.pairwise_append]
    refine⟨h1,by simp,?_⟩
    intro x hx y hy
    obtain⟨j,hj,rfl⟩:=h2 x hx
    simp at hy
    subst hy
    have hle:=hs j m hj (by omega)
    have hne:d[j]!≠d[m]! :=by
     intro he
     have hm0:0<m:=by omega
     have h4:d[m]!≠d[m-1]! :=by
      intro h5
      rw[Lib.keeps_neg hm0 h5]at hk
      cases hk
     have h5:d[j]!≤d[m-1]! :=by
      rcases Nat.lt_or_ge j (m-1)with h | h
      ·exact hs j (m-1) h (by omega)
      ·rw[show j=m-1 from by omega]
       exact Int.le_refl _
     have h6:d[m-1]!≤d[m]! :=hs (m-1) m (by omega) (by omega)
     exact h4 (by omega)
    omega
   ·intro x hx
    rw[List.mem_append]at hx
    rcases hx with hx | hx
    ·obtain⟨j,hj,e⟩:=h2 x hx
     exact⟨j,by omega,e⟩
    ·simp at hx
     exact⟨m,by omega,hx⟩
   ·intro j hj
    rw[List.mem_append]
    rcases Nat.lt_or_ge j m with h | h
    ·exact .inl (h3 j h)
    ·rw[show j=m from by omega]
     exact .inr (by simp)
  ·rw[if_neg hk,List.append_nil]
   have hm0:0<m:=by
    rcases Nat.eq_zero_or_pos m with h | h
    ·subst h
     exact absurd (Lib.keeps_lt_one d 0 (by omega)) hk
    ·exact h
   have he:d[m]! =d[m-1]! :=by
    apply Classical.byContradiction
    intro h
    exact hk (Lib.keeps_pos h)
   refine⟨h1,fun x hx=>?_,fun j hj=>?_⟩
   ·obtain⟨j,hj,e⟩:=h2 x hx
    exact⟨j,by omega,e⟩
   ·rcases Nat.lt_or_ge j m with h | h
    ·exact h3 j h
    ·rw[show j=m from by omega,he]
     exact h3 (m-1) (by omega)
theorem EO(l:List Int)(j:Nat)(hj:j<l.length):l.toArray[j]! =l[j]:=by
 rw[getElem!_pos _ _ (by simpa using hj)]
 simp
theorem u0(l:List Int):∀i j,i<j→j<(wv l).toArray.size→(wv l).toArray[i]!≤(wv l).toArray[j]! :=by
 intro i j hij hj
 have hj':j<(wv l).length:=by simpa using hj
 rw[EO _ i (by omega),EO _ j hj']
 have hp:(wv l).Pairwise (fun x y=>(decide (x≤y))=true):=List.pairwise_mergeSort (fun a b c=>by simp;omega) (fun a b=>by simp;omega) l
 have:=(List.pairwise_iff_getElem.1 hp) i j (by omega) hj' hij
 simpa using this
def zQ(l:List Int):List Int:=Lib.compact (wv l)
theorem xL(l:List Int)(x:Int):x∈zQ l↔x∈l:=by
 obtain⟨h1,h2,h3⟩:=fx (wv l).toArray (u0 _) (wv l).length (by simp)
 have hm:∀y,y∈wv l↔y∈l:=fun y=>by simp[wv,List.mem_mergeSort]
 unfold zQ Lib.compact
 constructor
 ·intro hx
  obtain⟨j,hj,rfl⟩:=h2 x hx
  rw[EO _ j hj]
  exact(hm _).1 (List.getElem_mem _)
 ·intro hx
  obtain⟨j,hj,rfl⟩:=List.getElem_of_mem ((hm x).2 hx)
  rw[←EO _ j hj]
  exact h3 j hj
theorem EP(l:List Int):(zQ l).Pairwise (·<·):=
 (fx (wv l).toArray (u0 _) (wv l).length (by simp)).1
end Go.Proofs.Ytljkdffikfkcgaa.Am
end
section
namespace Go.Proofs.Ytljkdffikfkcgaa.Am
set_option linter.unusedVariables false
inductive cW (o:Option Nat) (n:Nat) (rows:List (List AV)):SH→SH→Prop where
 | here (R:SH):cW o n rows (ao o n rows++R) R
 | last:cW o n rows (ao o n rows) []
 | there (p:Nat×Blk) {L L':SH}:cW o n rows L L'→cW o n rows (p::L) (p::L')
 | skip (o2:Option Nat) (n2:Nat) (rows2:List (List AV)) {L L':SH}:cW o n rows L L'→cW o n rows (ao o2 n2 rows2++L) (ao o2 n2 rows2++L')
theorem cW.some'{b n:Nat}{rows:List (List AV)}{L L':SH}(h:cW (some b) n rows L L'):dG b ⟨n,rows⟩ L L':=by
 induction h with
 | here R=>exact .here R
 | last=>exact .here []
 | there p h ih=>exact .there p ih
 | skip o2 n2 rows2 h ih=>exact ih.app _
theorem cW.none'{n:Nat}{rows:List (List AV)}{L L':SH}(h:cW none n rows L L'):L=L':=by
 induction h with
 | here R=>rfl
 | last=>rfl
 | there p h ih=>rw[ih]
 | skip o2 n2 rows2 h ih=>rw[ih]
theorem cW.perm{o:Option Nat}{n:Nat}{rows:List (List AV)}{L L':SH}(h:cW o n rows L L'):L.Perm (ao o n rows++L'):=by
 cases o with
 | none=>rw[h.none'];exact .refl _
 | some b=>exact h.some'.perm
theorem dG.mem'{b:Nat}{x:Blk}{L L':SH}(h:dG b x L L'):(b,x)∈L:=by
 induction h with
 | here L=>simp
 | there p h ih=>simp[ih]
section
variable {KL:AV→SH→Prop} {L L':SH}
theorem cI{o:Option Nat}{i n by_ bX k:Nat}{rows m:List (List AV)}(hX:(bX,(⟨n,m⟩:Blk))∈L)(hd:cW o n rows L L')(hr:rows.length=i)(h0:o=none→rows=[])(hk:k=m.length)(hm:0<m.length)(h2:2*(i+m.length)*by_≤2^48)(h3:2*(i+m.length)≤2^62)(h4:(m.all fun r=>r.all AV.one)=true)
  (h:∀b,b∉L.names→KL (.sl b 0 (i+m.length)) ((b,⟨n,rows++m⟩)::L')):W.append n by_ (au o i) (.sl bX 0 k) L KL:=by
 subst hk
 cases o with
 | none=>
  have hr0:=h0 rfl
  subst hr0
  simp only[List.length_nil]at hr
  subst hr
  have hl:=hd.none'
  subst hl
  have:=AZ (KL:=KL) (L:=L) (by_:=by_) (ue hX rfl rfl) (by simpa using h2) (by simpa using h3) h4 (by show m.length≠0;omega) (fun b hb=>by simpa using h b hb)
  exact this
 | some b=>
  subst hr
  exact uc (y:=⟨n,rows⟩) (l:=rows) hd.some'.mem' rfl (by simp) (by simp) (ue hX rfl rfl) h2 h3 h4 hd.some' (fun b' hb=>h b' hb)
theorem C8{α:Type}{f:α→List AV}{l:List α}{o:Option Nat}{i n by_:Nat}{rows:List (List AV)}(hd:cW o n rows L L')(hn:∀x,(f x).length=n)(hr:rows.length=i)(h0:o=none→rows=[])(h2:2*(i+l.length)*by_≤2^48)(h3:2*(i+l.length)≤2^62)(h4:∀x,(f x).all AV.one=true)
  (h:∀o',(o'=none→rows++l.map f=[])→KL (au o' (i+l.length)) (ao o' n (rows++l.map f)++L')):W.append n by_ (au o i) (.lst (l.map f)) L KL:=by
 have h4':((l.map f).all fun r=>r.all AV.one)=true:=by
  rw[List.all_eq_true]
  intro r hr
  obtain⟨x,_,rfl⟩:=List.mem_map.1 hr
  exact h4 x
 cases o with
 | none=>
  have hr0:=h0 rfl
  subst hr0
  simp only[List.length_nil]at hr
  subst hr
  have hl:=hd.none'
  subst hl
  refine⟨[],l.map f,rfl,ud hn,by simpa using h2,by simpa using h3,h4',fun e=>?_,fun e b hb=>?_⟩
  ·have hl:l=[]:=by simpa using e
   subst hl
   exact h none fun _=>rfl
  ·have:=h (some b) nofun
   simpa[au,ao]using this
 | some b=>
  subst hr
  refine uc (y:=⟨n,rows⟩) (l:=rows) hd.some'.mem' rfl (by simp) (by simp) (ud hn) (by simpa using h2) (by simpa using h3) h4' hd.some' (fun b' hb=>?_)
  have:=h (some b') nofun
  simpa[au,ao]using this
inductive ez:SH→SH→Prop where
 | nil (L:SH):ez L []
 | one {b:Nat} {x:Blk} {L L' R:SH}:dG b x L L'→ez L' R→ez L ((b,x)::R)
 | slot {o:Option Nat} {n:Nat} {rows:List (List AV)} {L L' R:SH}:cW o n rows L L'→ez L' R→ez L (ao o n rows++R)
 | slotl {o:Option Nat} {n:Nat} {rows:List (List AV)} {L L':SH}:cW o n rows L L'→ez L (ao o n rows)
theorem ez.perm{L R:SH}(h:ez L R):∃K,L.Perm (K++R):=by
 induction h with
 | nil L=>exact⟨L,by simp⟩
 | one hd hp ih=>
  obtain⟨K,hK⟩:=ih
  exact⟨K,(hd.perm.trans ((hK.cons _).trans List.perm_middle.symm))⟩
 | slot hd hp ih=>
  obtain⟨K,hK⟩:=ih
  refine⟨K,hd.perm.trans ((hK.append_left _).trans ?_)⟩
  rw[←List.append_assoc,←List.append_assoc]
  exact List.perm_append_comm.append_right _
 | slotl hd=>exact⟨_,hd.perm.trans List.perm_append_comm⟩
theorem aV.pick{vs vs2:List AV}{R:SH}(h:ez L R)(hv:vs=vs2):aV vs L vs2 R:=by
 subst hv
 obtain⟨K,hK⟩:=h.perm
 exact aV.forget hK
end
end Go.Proofs.Ytljkdffikfkcgaa.Am
end
section
namespace Go.Proofs.Ytljkdffikfkcgaa.Am
structure aw where
 op:Int
 a:Int
 b:Int
 c:Int
 n:Int
 site:Int
 deriving Inhabited
def aw.enc(i:aw):List AV:=[.int .i64 i.op,.int .i64 i.a,.int .i64 i.b,.int .i64 i.c,.int .i64 i.n,.int .i64 i.site]
structure lf where
 regs:Int
 ins:List aw
def lf.enc(c:lf):List AV:=[.int .i64 c.regs,.lst (c.ins.map aw.enc)]
end Go.Proofs.Ytljkdffikfkcgaa.Am
end
