/- A part of the proof; the statement is proved in the last part. -/
import Derived.Test.YtelgfgfgghpjgaaGreatDoorQae
set_option linter.unusedSimpArgs false
set_option linter.unusedVariables false
section
namespace Go.Proofs.YtelgfgfgghpjgaaGreatDoor.Am
set_option linter.unusedVariables false
section
variable {P:Program} {F:TypeId→Option (List TypeId)} {K:AV→Prop} {KL:AV→SH→Prop} {L:SH}
theorem sx{p:Bool}{x y:AV}(hp:p=true)(h:K x):W.pick (.bool p) x y K:=by subst hp;rw[vc];exact h
theorem sy{p:Bool}{x y:AV}(hp:p=false)(h:K y):W.pick (.bool p) x y K:=by subst hp;rw[vd];exact h
theorem tU{p want:Bool}{A:(AV→SH→Prop)→Prop}(hp:p=want)(h:A KL):W.grd (.bool p) want A L KL:=⟨.inl ⟨by rw[hp],h⟩⟩
theorem tV{p want:Bool}{A:(AV→SH→Prop)→Prop}(hp:p=!want)(h:KL aA L):W.grd (.bool p) want A L KL:=⟨.inr ⟨.inl (by rw[hp]),h⟩⟩
theorem ol{want:Bool}{A:(AV→SH→Prop)→Prop}(h:KL aA L):W.grd aA want A L KL:=⟨.inr ⟨.inr rfl,h⟩⟩
theorem om{p:Bool}{A:(AV→SH→Prop)→Prop}(h1:p=true→A KL)(h2:p=false→KL aA L):W.grd (.bool p) true A L KL:=by rw[v5];exact⟨h1,h2⟩
theorem oo{p:Bool}{A:(AV→SH→Prop)→Prop}(h1:p=false→A KL)(h2:p=true→KL aA L):W.grd (.bool p) false A L KL:=by rw[v8];exact⟨h1,h2⟩
theorem sB{KF:AV→SH→W.Fp→Prop}{p want:Bool}{A:(AV→SH→W.Fp→Prop)→Prop}(hp:p=want)(h:A KF):W.dgrd (.bool p) want A L KF:=⟨.inl ⟨by rw[hp],h⟩⟩
theorem sC{KF:AV→SH→W.Fp→Prop}{p want:Bool}{A:(AV→SH→W.Fp→Prop)→Prop}(hp:p=!want)(h:KF aA L ⟨[],[],[],L.names⟩):W.dgrd (.bool p) want A L KF:=⟨.inr ⟨.inl (by rw[hp]),h⟩⟩
theorem sD{KF:AV→SH→W.Fp→Prop}{want:Bool}{A:(AV→SH→W.Fp→Prop)→Prop}(h:KF aA L ⟨[],[],[],L.names⟩):W.dgrd aA want A L KF:=⟨.inr ⟨.inr rfl,h⟩⟩
theorem sE{KF:AV→SH→W.Fp→Prop}{p:Bool}{A:(AV→SH→W.Fp→Prop)→Prop}(h1:p=false→A KF)(h2:p=true→KF aA L ⟨[],[],[],L.names⟩):W.dgrd (.bool p) false A L KF:=by rw[ve];exact⟨h1,h2⟩
theorem sF{p:Bool}{A B:Prop}(hp:p=true)(h:A):W.cond (.bool p) A B:=⟨.inl ⟨by rw[hp],h⟩⟩
theorem sG{p:Bool}{A B:Prop}(hp:p=false)(h:B):W.cond (.bool p) A B:=⟨.inr ⟨by rw[hp],h⟩⟩
theorem sH{p:Bool}{A B:Prop}(h1:p=true→A)(h2:p=false→B):W.cond (.bool p) A B:=by rw[vf];exact⟨h1,h2⟩
theorem uH{t:TypeId}{k:IntKind}{a b:Int}(h:K (.bool (decide (a<b)))):W.bin P F .lss t (.int k a) (.int k b) K:=by rw[wa];exact h
theorem uI{t:TypeId}{k:IntKind}{a b:Int}(h:K (.bool (decide (a≤b)))):W.bin P F .leq t (.int k a) (.int k b) K:=by rw[we];exact h
theorem uJ{t:TypeId}{k:IntKind}{a b:Int}(h:K (.bool (decide (b<a)))):W.bin P F .gtr t (.int k a) (.int k b) K:=by rw[wh];exact h
theorem uK{t:TypeId}{k:IntKind}{a b:Int}(h:K (.bool (decide (b≤a)))):W.bin P F .geq t (.int k a) (.int k b) K:=by rw[wi];exact h
theorem uL{t:TypeId}{k:IntKind}{a b:Int}(h:K (.bool (decide (a=b)))):W.bin P F .eql t (.int k a) (.int k b) K:=by rw[wj];exact h
theorem uM{t:TypeId}{k:IntKind}{a b:Int}(h:K (.bool (decide (a≠b)))):W.bin P F .neq t (.int k a) (.int k b) K:=by rw[wm];exact h
theorem sI{t:TypeId}{k:IntKind}{a b:Int}(h:K (.int k (k.wrap (a+b)))):W.bin P F .add t (.int k a) (.int k b) K:=by rw[wo];exact h
theorem sJ{t:TypeId}{k:IntKind}{a b:Int}(h:K (.int k (k.wrap (a-b)))):W.bin P F .sub t (.int k a) (.int k b) K:=by rw[wq];exact h
theorem uN{t:TypeId}{k:IntKind}{a b:Int}(h:K (.int k (k.wrap (a*b)))):W.bin P F .mul t (.int k a) (.int k b) K:=by rw[wu];exact h
theorem wD{t:TypeId}{k:IntKind}{a b:Int}(hb:b≠0)(h:K (.int k (k.wrap (a.tdiv b)))):W.bin P F .quo t (.int k a) (.int k b) K:=by rw[wv];exact⟨hb,h⟩
theorem wE{t:TypeId}{k:IntKind}{a b:Int}(hb:b≠0)(h:K (.int k (a.tmod b))):W.bin P F .rem t (.int k a) (.int k b) K:=by rw[wx];exact⟨hb,h⟩
theorem uO{t:TypeId}{a b:List UInt8}(h:K (.bool (decide (a=b)))):W.bin P F .eql t (.str a) (.str b) K:=by rw[wz];exact h
theorem uP{t:TypeId}{a b:List UInt8}(h:K (.bool (decide (a≠b)))):W.bin P F .neq t (.str a) (.str b) K:=by rw[wA];exact h
theorem wF{b:Bool}(h:K (.bool !b)):W.un .not (.bool b) K:=by rw[vg];exact h
theorem wG{k:IntKind}{n:Int}(h:K (.int k (k.wrap (0-n)))):W.un .neg (.int k n) K:=by rw[vh];exact h
theorem nR{off b i o:Nat}(h:K (.ptr b i (o+off))):W.faddr off (.ptr b i o) K:=⟨h⟩
theorem kh{off:Nat}{rows:List (List AV)}{i o:Nat}(h:K (.pptr rows i (o+off))):W.faddr off (.pptr rows i o) K:=⟨h⟩
theorem sK{n:Nat}{rows:List (List AV)}{i off:Nat}{r:List AV}{v:AV}(h1:rows[i]? =some r)(h2:r[off]? =some v)(h:K v):W.load false n (.pptr rows i off) L K:=⟨r,v,h1,h2,h⟩
theorem sL{n b i off:Nat}{x:Blk}{r:List AV}{v:AV}(hm:(b,x)∈L)(h1:x.rows[i]? =some r)(h2:r[off]? =some v)(h:K v):W.load false n (.ptr b i off) L K:=⟨x,r,v,hm,h1,h2,h⟩
theorem tW{n:Nat}{rows:List (List AV)}{i:Nat}{r:List AV}(h1:rows[i]? =some r)(h2:r.length=n)(h:K (.agg r)):W.load true n (.pptr rows i 0) L K:=
 ⟨r,.agg r,h1,by simp[W0.rowLd,←h2],h⟩
theorem tX{n b i:Nat}{x:Blk}{r:List AV}(hm:(b,x)∈L)(h1:x.rows[i]? =some r)(h2:r.length=n)(h:K (.agg r)):W.load true n (.ptr b i 0) L K:=
 ⟨x,r,.agg r,hm,h1,by simp[W0.rowLd,←h2],h⟩
theorem sM{n:Nat}{rows:List (List AV)}{i off:Nat}{r cs:List AV}(h1:rows[i]? =some r)(h2:off+n≤r.length)(h3:(r.drop off).take n=cs)(h:K (.agg cs)):W.load true n (.pptr rows i off) L K:=
 ⟨r,.agg cs,h1,by simp[W0.rowLd,h2,h3],h⟩
theorem kY{KS:SH→Prop}{n b:Nat}{v:AV}{m:Nat}{r cs:List AV}{L':SH}(hu:nN b ⟨m,[r]⟩ ⟨m,[cs]⟩ L L')(h2:v.cells? =some cs)(h3:cs.length=n)(h4:cs.all AV.one=true)(h5:r.length=n)(h:KS L'):W.store n (.ptr b 0 0) v L KS:=
 ⟨⟨m,[r]⟩,r,cs,L',rfl,h2,h3,h4,by omega,by
  have:aP r 0 cs=cs:=by
   unfold aP
   rw[List.take_zero,List.nil_append,List.drop_of_length_le (by omega),List.append_nil]
  rw[this];exact hu,h⟩
theorem oq(r:List AV)(off:Nat)(v:AV)(h:off<r.length):aP r off [v]=r.set off v:=by
 unfold aP
 rw[List.set_eq_take_append_cons_drop,if_pos h]
 simp
theorem pn{KS:SH→Prop}{b i off:Nat}{v:AV}{x x':Blk}{r:List AV}{L':SH}(hu:nN b x x' L L')(h1:x.rows[i]? =some r)(h2:v.cells? =some [v])(h4:v.one=true)(h5:off<r.length)(h6:x'=⟨x.size,x.rows.set i (r.set off v)⟩)(h:KS L'):W.store 1 (.ptr b i off) v L KS:=
 ⟨x,r,[v],L',h1,h2,rfl,by simp[h4],by omega,by rw[oq r off v h5,←h6];exact hu,h⟩
theorem tY{n:Nat}{rows:List (List AV)}{k:IntKind}{j:Nat}{r:List AV}(h1:rows[j]? =some r)(h2:r.length=n)(h:K (.pptr rows j 0)):W.idx n (.lst rows) (.int k (j:Int)) L K:=
 ⟨k,j,r,rfl,Int.natCast_nonneg _,by simpa using h1,h2,by simpa using h⟩
theorem sN{n b m:Nat}{k:IntKind}{i:Nat}{y:Blk}(h1:i<m)(hm:(b,y)∈L)(h2:y.size=n)(h:K (.ptr b i 0)):W.idx n (.sl b 0 m) (.int k (i:Int)) L K:=⟨k,i,y,rfl,Int.natCast_nonneg _,by simpa using h1,hm,h2,by simpa using h⟩
theorem wH{ag:Bool}{len n:Nat}{cs:List AV}{k:IntKind}{i:Int}{v:AV}(h0:0≤i)(h1:i.toNat<len)(h2:W0.rowLd ag n cs (i.toNat*n)=some v)(h:K v):W.ixA ag len n (.agg cs) (.int k i) K:=⟨cs,k,i,v,rfl,rfl,h0,h1,h2,h⟩
theorem wI{i:Nat}{vs:List AV}{v:AV}(h1:vs[i]? =some v)(h:K v):W.ext i (.tup vs) K:=⟨vs,v,rfl,h1,h⟩
theorem tZ{z:List AV}{ps:List (Nat×Nat×AV)}{cs:List AV}(h1:W0.fillR z ps=some cs)(h:K (.agg cs)):W.build z ps K:=⟨cs,h1,h⟩
theorem qT{cs:List AV}(h:∀b,b∉L.names→KL (.ptr b 0 0) ((b,⟨cs.length,[cs]⟩)::L)):W.alloc cs L KL:=⟨h⟩
theorem uQ{x:AV}{cs:List AV}(h1:x.cells? =some cs)(h2:cs.all AV.one=true)(h:∀b,b∉L.names→KL (.ptr b 0 0) ((b,⟨cs.length,[cs]⟩)::L)):W.box x L KL:=⟨cs,h1,h2,h⟩
theorem sO{n:Nat}{z:List AV}{len:Nat}{ps:List (Nat×AV)}{rows:List (List AV)}(h1:len*n≤2^24)(h2:bC n (List.replicate len z) ps=some rows)(h:∀b,b∉L.names→KL (.sl b 0 len) ((b,⟨n,rows⟩)::L)):W.bslice n z len ps L KL:=⟨h1,rows,h2,h⟩
theorem sP{n by_:Nat}{z:List AV}{k k':IntKind}{i j:Nat}(h1:i≤j)(h2:j≤2^62)(h3:j*by_≤2^48)(h:∀b,b∉L.names→KL (.sl b 0 i) ((b,⟨n,List.replicate i z⟩)::L)):W.mslice n by_ z (.int k (i:Int)) (.int k' (j:Int)) L KL:=⟨k,k',i,j,rfl,rfl,h1,h2,h3,h⟩
theorem t5{α:Type}{f:α→List AV}{l:List α}(h:K (.int .i64 (l.length:Int))):W.len (.lst (l.map f)) K:=⟨_,rfl,by rw[List.length_map];exact h⟩
theorem qU{b i n:Nat}(h:K (.int .i64 (n:Int))):W.len (.sl b i n) K:=⟨_,rfl,h⟩
theorem t6(h:K (.int .i64 (0:Nat))):W.len .nils K:=⟨_,rfl,h⟩
theorem vi{s:List UInt8}(h:K (.int .i64 (s.length:Int))):W.lenS (.str s) K:=⟨_,rfl,h⟩
theorem ot{b i off:Nat}{x:Blk}{L':SH}(h1:oe b x L L')(h2:0<x.size)(h3:0<x.rows.length)(h:KL (.pptr x.rows i off) L'):W.frz1 (.ptr b i off) L KL:=⟨x,L',h1,h2,h3,h⟩
theorem me{KF:W.Fp→Prop}{r:W.Fp}(h:KF r):W.note r KF:=by rw[tS];exact h
theorem sQ{us:List W.WR}{y:W.WR}{A:Prop}(h1:∀x∈us,W.free x y)(h:A):W.calm us y A:=⟨h1,h⟩
theorem xF{A:Prop}(h:A):(true=true)∧A:=⟨rfl,h⟩
theorem vj{J:W.Kn}{B:W.Kn→Prop}(h:B J):W.join J B:=⟨h⟩
theorem qV{n by_ b' i k:Nat}{x:AV}{y:Blk}{l m:List (List AV)}{L':SH}(hm:(b',y)∈L)(hs:y.size=n)(hl:i+k≤y.rows.length)(he:(y.rows.drop i).take k=l)(h1:W0.rowsR L n x m)
  (h2:2*(l.length+m.length)*by_≤2^48) (h3:2*(l.length+m.length)≤2^62) (h4:(m.all fun r=>r.all AV.one)=true) (hd:oe b' y L L')
  (h:∀b,b∉L.names→KL (.sl b 0 (l.length+m.length)) ((b,⟨n,l++m⟩)::L')):W.append n by_ (.sl b' i k) x L KL:=
 ⟨l,m,⟨y,hm,hs,hl,he.symm⟩,h1,h2,h3,h4,y,L',hd,h⟩
theorem t7{n by_:Nat}{x:AV}{m:List (List AV)}(h1:W0.rowsR L n x m)(h2:2*m.length*by_≤2^48)(h3:2*m.length≤2^62)(h4:(m.all fun r=>r.all AV.one)=true)(h0:m.length≠0)
  (h:∀b,b∉L.names→KL (.sl b 0 m.length) ((b,⟨n,m⟩)::L)):W.append n by_ .emp x L KL:=
 ⟨[],m,rfl,h1,by simpa using h2,by simpa using h3,h4,fun e=>absurd e h0,fun _=>h⟩
theorem qW(h:K (.int .i64 (0:Nat))):W.len .emp K:=⟨_,rfl,h⟩
theorem rI{n:Nat}{rows:List (List AV)}{lo hi:Option AV}{l h:Nat}(h1:bn lo 0=some l)(h2:bn hi rows.length=some h)(hl:l≤h)(hh:h≤rows.length)(hs:∀r,rows.head? =some r→r.length=n)(hk:K (.lst ((rows.drop l).take (h-l)))):W.slice n (.lst rows) lo hi none L K:=
 ⟨rows.length,l,h,rows.length,rfl,h1,h2,rfl,hl,hh,Nat.le_refl _,⟨rfl,hs⟩,hk⟩
theorem ou{α:Type}{f:α→List AV}{l:List α}{n:Nat}(h:∀x,(f x).length=n):W0.rowsR L n (.lst (l.map f)) (l.map f):=⟨rfl,fun r hr=>by
 cases l with
 | nil=>cases hr
 | cons x l=>simp at hr;rw[←hr];exact h x⟩
theorem qX{n b k:Nat}{x:Blk}(hm:(b,x)∈L)(hs:x.size=n)(hk:k=x.rows.length):W0.rowsR L n (.sl b 0 k) x.rows:=⟨x,hm,hs,by omega,by simp[hk]⟩
end
end Go.Proofs.YtelgfgfgghpjgaaGreatDoor.Am
end
section
namespace Go.Proofs.YtelgfgfgghpjgaaGreatDoor.Am
set_option linter.unusedVariables false
abbrev br:=List UInt8
structure qY where
 name:br
 index:Int
 size:Int
 volatile:Bool
 init:Int
 deriving Inhabited,DecidableEq
structure qZ where
 name:br
 rw:Bool
 deriving Inhabited,DecidableEq
structure q6 where
 name:br
 mutex:Int
 deriving Inhabited,DecidableEq
structure q7 where
 thread:Int
 stmt:Int
 line:Int
 deriving Inhabited,DecidableEq
structure sR where
 cells:List qY
 locks:List qZ
 conds:List q6
 futures:List br
 threads:List br
 sites:List q7
 deriving Inhabited,DecidableEq
structure q8 where
 owner:Int
 readers:List Int
 deriving Inhabited,DecidableEq
structure t8 where
 status:Int
 cond:Int
 atomic:Bool
 deriving Inhabited,DecidableEq
structure uR where
 locks:List q8
 tx:Int
 done:List Bool
 threads:List t8
 deriving Inhabited,DecidableEq
def qY.enc(c:qY):List AV:=[.str c.name,.int .i64 c.index,.int .i64 c.size,.bool c.volatile,.int .i64 c.init]
def qZ.enc(c:qZ):List AV:=[.str c.name,.bool c.rw]
def q6.enc(c:q6):List AV:=[.str c.name,.int .i64 c.mutex]
def q7.enc(c:q7):List AV:=[.int .i64 c.thread,.int .i64 c.stmt,.int .i64 c.line]
def aN(s:br):List AV:=[.str s]
def c9(n:Int):List AV:=[.int .i64 n]
def cy(b:Bool):List AV:=[.bool b]
def q8.enc(l:q8):List AV:=[.int .i64 l.owner,.lst (l.readers.map c9)]
def t8.enc(t:t8):List AV:=[.int .i64 t.status,.int .i64 t.cond,.bool t.atomic]
def sR.enc(w:sR):List AV:=[.lst (w.cells.map qY.enc),.lst (w.locks.map qZ.enc),.lst (w.conds.map q6.enc),.lst (w.futures.map aN),.lst (w.threads.map aN),.lst (w.sites.map q7.enc)]
def uR.enc(s:uR):List AV:=[.lst (s.locks.map q8.enc),.int .i64 s.tx,.lst (s.done.map cy),.lst (s.threads.map t8.enc)]
theorem aG{α β:Type}{f:α→β}{l:List α}{i:Nat}(h:i<l.length):(l.map f)[i]? =some (f l[i]):=by simp[h]
theorem t9{α β:Type}{f:α→β}{l:List α}{i:Nat}{x:α}(h:l[i]? =some x):(l.map f)[i]? =some (f x):=by simp[h]
theorem aY{i n:Nat}(h:i<n)(hn:n<2^62):IntKind.i64.wrap ((i:Int)+1)=((i+1:Nat):Int):=by rw[IntWalk.i64_in _ (by omega)];omega
theorem dE{i n:Nat}(h:i<n):decide ((i:Int)<(n:Int))=true:=by simpa using h
theorem dF{i n:Nat}(h:n≤i):decide ((i:Int)<(n:Int))=false:=by simpa using h
theorem vk(n:Nat)(S:Nat→List AV×SH)(G:Nat→Prop){B:List AV→SH→W.Kn→Prop}{vs:List AV}{L:SH}(h0:G 0)(hv:vs=(S 0).1)(hL:L=(S 0).2)
  (h:∀i,i≤n→G i→B (S i).1 (S i).2 fun vs' L'=>∃j,i<j∧j≤n∧G j∧bM vs' L' (S j).1 (S j).2):W.loop B vs L:=by
 refine⟨fun k vs L=>∃i,i≤n∧G i∧k=n-i∧vs=(S i).1∧L=(S i).2,⟨n,_,_,.refl _ _,0,Nat.zero_le _,h0,rfl,hv,hL⟩,?_⟩
 rintro k vs L ⟨i,hi,hG,rfl,rfl,rfl⟩
 have e:(fun vs' L'=>∃m vs2 L2,m<n-i∧bM vs' L' vs2 L2∧∃j,j≤n∧G j∧m=n-j∧vs2=(S j).1∧L2=(S j).2)=fun vs' L'=>∃j,i<j∧j≤n∧G j∧bM vs' L' (S j).1 (S j).2:=by
  funext vs' L'
  apply propext
  constructor
  ·rintro⟨m,vs2,L2,h1,h2,j,h3,h4,rfl,rfl,rfl⟩;exact⟨j,by omega,h3,h4,h2⟩
  ·rintro⟨j,h1,h2,h3,h4⟩;exact⟨n-j,_,_,by omega,h4,j,h2,h3,rfl,rfl,rfl⟩
 rw[e]
 exact h i hi hG
def fc(i:Int)(n:Nat):Bool:=decide (0≤i)&&decide (i<(n:Int))
theorem bA{i:Int}{n:Nat}:fc i n=true↔0≤i∧i<n:=by simp[fc]
theorem dG{i:Int}{n:Nat}(h:fc i n=true):0≤i:=(bA.1 h).1
theorem mf{α:Type}[Inhabited α]{f:α→List AV}{l:List α}{i:Int}(h:fc i l.length=true):(l.map f)[i.toNat]? =some (f (l.getD i.toNat default)):=by
 obtain⟨h1,h2⟩:=bA.1 h
 have:i.toNat<l.length:=by omega
 simp[this]
end Go.Proofs.YtelgfgfgghpjgaaGreatDoor.Am
end
section
namespace Go.Proofs.YtelgfgfgghpjgaaGreatDoor.Am
set_option maxRecDepth 100000
set_option linter.unusedSimpArgs false
set_option linter.unusedVariables false
theorem Fz.slm{α:Type}{K:SH}{b n size:Nat}{l:List α}{f g:α→List AV}{rows:List (List AV)}(hm:(b,⟨size,rows⟩)∈K)(hr:rows=l.map f)(hs:0<size)(hn:n=l.length)(hl:∀y∈l,(f y).length=(g y).length)
  (hc:∀y∈l,∀(q:Nat) (a a2:AV),(f y)[q]? =some a→(g y)[q]? =some a2→Fz K a a2):Fz K (.sl b 0 n) (.lst (l.map g)):=by
 subst hr
 subst hn
 cases l with
 | nil=>exact .sl0 b 0
 | cons x l=>
  have get:∀(j:Nat) (r r2:List AV),((x::l).map f)[0+j]? =some r→((x::l).map g)[j]? =some r2→∃y∈x::l,r=f y∧r2=g y:=fun j r r2 h1 h2=>by
   rw[Nat.zero_add,List.getElem?_map]at h1
   rw[List.getElem?_map]at h2
   cases hj:(x::l)[j]? with
   | none=>rw[hj]at h1;cases h1
   | some y=>
    rw[hj]at h1 h2
    cases h1;cases h2
    exact⟨y,List.mem_of_getElem? hj,rfl,rfl⟩
  refine .sl b 0 _ ⟨size,(x::l).map f⟩ _ hm hs (by simp) (by simp) (by simp) (fun j r r2 h1 h2=>?_) (fun j r r2 q a a2 h1 h2 h3 h4=>?_)
  ·obtain⟨y,hy,rfl,rfl⟩:=get j r r2 h1 h2;exact hl y hy
  ·obtain⟨y,hy,rfl,rfl⟩:=get j r r2 h1 h2;exact hc y hy q a a2 h3 h4
theorem Fz.sls{α:Type}{K:SH}{b n size:Nat}{l:List α}{f:α→List AV}{rows:List (List AV)}(hm:(b,⟨size,rows⟩)∈K)(hr:rows=l.map f)(hs:0<size)(hn:n=l.length):Fz K (.sl b 0 n) (.lst (l.map f)):=
 Fz.slm hm hr hs hn (fun _ _=>rfl) fun y _ q a a2 h1 h2=>by rw[h1]at h2;cases h2;exact .refl _
inductive rJ (K:SH):List AV→List AV→Prop where
 | nil:rJ K [] []
 | cons {a b:AV} {l m:List AV}:Fz K a b→rJ K l m→rJ K (a::l) (b::m)
theorem rJ.at_{K:SH}{l m:List AV}(h:rJ K l m):l.length=m.length∧∀(i:Nat) (a b:AV),l[i]? =some a→m[i]? =some b→Fz K a b:=by
 induction h with
 | nil=>exact⟨rfl,fun i a b h=>by simp at h⟩
 | cons h1 h2 ih=>
  refine⟨by simp[ih.1],fun i a b ha hb=>?_⟩
  match i with
  | 0=>cases ha;cases hb;exact h1
  | i+1=>exact ih.2 i a b (by simpa using ha) (by simpa using hb)
theorem Fz.tups{K:SH}{l m:List AV}(h:rJ K l m):Fz K (.tup l) (.tup m):=.tup l m h.at_.1 h.at_.2
theorem bM.all{L:SH}{v v2:AV}(h:Fz L v v2):bM [v] L [v2] []:=.drop (K:=L) (R:=[]) (by simp) rfl fun i a a2 h1 h2=>by
 match i with
 | 0=>cases h1;cases h2;exact h
 | i+1=>simp at h1
def bS:Option Nat→Nat→AV
 | none,_=>.emp
 | some b,n=>.sl b 0 n
def bf(o:Option Nat)(size:Nat)(rows:List (List AV)):SH:=match o with
 | none=>[]
 | some b=>[(b,⟨size,rows⟩)]
theorem oe.app{b:Nat}{x:Blk}{L L':SH}(h:oe b x L L'):∀M:SH,oe b x (M++L) (M++L')
 | []=>h
 | p::M=>.there p (h.app M)
theorem bM.forget{vs:List AV}{L K R:SH}(hL:L.Perm (K++R)):bM vs L vs R:=.drop hL rfl fun i a a2 h1 h2=>by rw[h1]at h2;cases h2;exact .refl _
theorem Fz.slot{α:Type}{o:Option Nat}{size:Nat}{l:List α}{f g:α→List AV}{rows:List (List AV)}(hr:rows=l.map f)(h0:o=none→rows=[])(hs:0<size)(hl:∀y∈l,(f y).length=(g y).length)
  (hc:∀y∈l,∀(q:Nat) (a a2:AV),(f y)[q]? =some a→(g y)[q]? =some a2→Fz (bf o size rows) a a2):Fz (bf o size rows) (bS o l.length) (.lst (l.map g)):=by
 cases o with
 | none=>
  have:=h0 rfl
  subst hr
  have:l=[]:=by simpa using this
  subst this
  exact .emp
 | some b=>exact Fz.slm (List.mem_singleton.2 rfl) hr hs rfl hl hc
end Go.Proofs.YtelgfgfgghpjgaaGreatDoor.Am
end
section
namespace Go.Proofs.YtelgfgfgghpjgaaGreatDoor.Am
set_option linter.unusedVariables false
structure W.callM(P:Program)(g:FuncId)(args:List AV)(L:SH)(KL:AV→SH→Prop):Prop where
 h:al P g args L KL
structure W.dcallM(P:Program)(us:List W.WR)(i:Nat)(g:FuncId)(args:List AV)(L:SH)(KN:AV→SH→List Nat→Prop):Prop where
 h:∃Kc R:SH,L.Perm (Kc++R)∧(∀x∈us,W.free x ⟨i,[],Kc.names,[],true,[]⟩)∧al P g args Kc fun v Kc'=>KN v (Kc'++R) Kc.names
section
variable {P:Program} {g:FuncId} {args:List AV} {L:SH} {KL:AV→SH→Prop} {KN:AV→SH→List Nat→Prop} {us:List W.WR} {i:Nat} {v:AV}
theorem sS(h:W.callM P g args L KL):W.call P (.fn g []) args L KL:=by rw[tR,List.append_nil];exact h.h
theorem ae(h1:ax P g args v)(h:KL v L):W.callM P g args L KL:=⟨h1.call h⟩
theorem am(k:FuncId)(h:W.callM P k args L KL):W.callM P k args L KL:=h
theorem af(k:FuncId)(h:W.dcallM P us i k args L KN):W.dcallM P us i k args L KN:=h
theorem q9(h:W.dcallM P us i g args L KN):W.dcall P us i (.fn g []) args L KN:=by rw[sw,List.append_nil];exact h.h
theorem ua(h:ax P g args v)(hf:∀x∈us,W.free x ⟨i,[],[],[],true,[]⟩)(hk:KN v L []):W.dcallM P us i g args L KN:=
 ⟨[],L,.refl _,hf,al.mono h fun u K ⟨h1,h2⟩=>by subst h1;subst h2;exact hk⟩
end
theorem wJ{n:Nat}{a:AV}{L:SH}{K:AV→Prop}(h:W.load true n a L K):W.load true n a L K:=h
theorem ub{off:Nat}{x:AV}{K:AV→Prop}(h:W.faddr off x K):W.faddr off x K:=h
theorem wK{n:Nat}{x ix:AV}{L:SH}{K:AV→Prop}(h:W.idx n x ix L K):W.idx n x ix L K:=h
theorem wL{x:AV}{K:AV→Prop}(h:W.len x K):W.len x K:=h
theorem wM{i:Nat}{x:AV}{K:AV→Prop}(h:W.ext i x K):W.ext i x K:=h
theorem vl{us:List W.WR}{y:W.WR}{A:Prop}(h:W.calm us y A):W.calm us y A:=h
theorem vm{r:W.Fp}{K:W.Fp→Prop}(h:W.note r K):W.note r K:=h
theorem vn{c x y:AV}{K:AV→Prop}(h:W.pick c x y K):W.pick c x y K:=h
theorem uS{x:AV}{want:Bool}{A:(AV→SH→Prop)→Prop}{L:SH}{K:AV→SH→Prop}(h:W.grd x want A L K):W.grd x want A L K:=h
theorem sT{x:AV}{want:Bool}{A:(AV→SH→W.Fp→Prop)→Prop}{L:SH}{K:AV→SH→W.Fp→Prop}(h:W.dgrd x want A L K):W.dgrd x want A L K:=h
theorem xG{op:UnOp}{x:AV}{K:AV→Prop}(h:W.un op x K):W.un op x K:=h
theorem wN{x:AV}{L:SH}{K:AV→SH→Prop}(h:W.box x L K):W.box x L K:=h
theorem vp{v:AV}{L:SH}{K:AV→SH→Prop}(h:W.frz1 v L K):W.frz1 v L K:=h
theorem uc{n:Nat}{a v:AV}{L:SH}{K:SH→Prop}(h:W.store n a v L K):W.store n a v L K:=h
theorem sU{n:Nat}{z:List AV}{len:Nat}{ps:List (Nat×AV)}{L:SH}{K:AV→SH→Prop}(h:W.bslice n z len ps L K):W.bslice n z len ps L K:=h
theorem sV{n by_:Nat}{z:List AV}{l c:AV}{L:SH}{K:AV→SH→Prop}(h:W.mslice n by_ z l c L K):W.mslice n by_ z l c L K:=h
end Go.Proofs.YtelgfgfgghpjgaaGreatDoor.Am
end
section
namespace Go.Proofs.YtelgfgfgghpjgaaGreatDoor.Am
set_option linter.unusedVariables false
section
variable {P:Program} {F:TypeId→Option (List TypeId)} {K:AV→Prop} {KL:AV→SH→Prop} {L:SH}
theorem po{n:Nat}{rows:List (List AV)}{i off:Nat}{r:List AV}{v:AV}(h:K v)(h1:rows[i]? =some r:=by first | assumption | rfl)(h2:r[off]? =some v:=by rfl):W.load false n (.pptr rows i off) L K:=sK h1 h2 h
theorem pp{n b i off:Nat}{x:Blk}{r:List AV}{v:AV}(h:K v)(hm:(b,x)∈L:=by repeat constructor)(h1:x.rows[i]? =some r:=by first | assumption | rfl)(h2:r[off]? =some v:=by rfl):W.load false n (.ptr b i off) L K:=sL hm h1 h2 h
theorem lI{n:Nat}{rows:List (List AV)}{i:Nat}{r:List AV}(h:K (.agg r))(h1:rows[i]? =some r:=by first | assumption | rfl)(h2:r.length=n:=by rfl):W.load true n (.pptr rows i 0) L K:=tW h1 h2 h
theorem ra{n b i:Nat}{x:Blk}{r:List AV}(h:K (.agg r))(hm:(b,x)∈L:=by repeat constructor)(h1:x.rows[i]? =some r:=by first | assumption | rfl)(h2:r.length=n:=by rfl):W.load true n (.ptr b i 0) L K:=tX hm h1 h2 h
theorem uT{t:TypeId}{k:IntKind}{a b:Int}(h:K (.int k (a.tmod b)))(hb:b≠0:=by first | assumption | decide | omega | exact of_decide_eq_false (by assumption)):W.bin P F .rem t (.int k a) (.int k b) K:=wE hb h
theorem uU{t:TypeId}{k:IntKind}{a b:Int}(h:K (.int k (k.wrap (a.tdiv b))))(hb:b≠0:=by first | assumption | decide | omega | exact of_decide_eq_false (by assumption)):W.bin P F .quo t (.int k a) (.int k b) K:=wD hb h
theorem pq{p:Bool}{A B:Prop}(h:A)(hp:p=true:=by first | assumption | rfl):W.cond (.bool p) A B:=sF hp h
theorem pr{p:Bool}{A B:Prop}(h:B)(hp:p=false:=by first | assumption | rfl):W.cond (.bool p) A B:=sG hp h
theorem jP{n:Nat}{rows:List (List AV)}{k:IntKind}{j:Nat}{r:List AV}(h:K (.pptr rows j 0))(h1:rows[j]? =some r:=by first | assumption | rfl)(h2:r.length=n:=by rfl):W.idx n (.lst rows) (.int k (j:Int)) L K:=tY h1 h2 h
theorem sW{n b m:Nat}{k:IntKind}{i:Nat}{y:Blk}(h:K (.ptr b i 0))(h1:i<m:=by first | assumption | omega)(hm:(b,y)∈L:=by repeat constructor)(h2:y.size=n:=by rfl):W.idx n (.sl b 0 m) (.int k (i:Int)) L K:=sN h1 hm h2 h
theorem wO{i:Nat}{vs:List AV}{v:AV}(h:K v)(h1:vs[i]? =some v:=by rfl):W.ext i (.tup vs) K:=wI h1 h
theorem sX{p:Bool}{x y:AV}(h:K x)(hp:p=true:=by first | assumption | rfl):W.pick (.bool p) x y K:=sx hp h
theorem sY{p:Bool}{x y:AV}(h:K y)(hp:p=false:=by first | assumption | rfl):W.pick (.bool p) x y K:=sy hp h
theorem ov{p want:Bool}{A:(AV→SH→Prop)→Prop}(h:A KL)(hp:p=want:=by first | assumption | rfl):W.grd (.bool p) want A L KL:=tU hp h
theorem ow{p want:Bool}{A:(AV→SH→Prop)→Prop}(h:KL aA L)(hp:p=!want:=by first | assumption | rfl):W.grd (.bool p) want A L KL:=tV hp h
theorem sZ{KF:AV→SH→W.Fp→Prop}{p want:Bool}{A:(AV→SH→W.Fp→Prop)→Prop}(h:A KF)(hp:p=want:=by first | assumption | rfl):W.dgrd (.bool p) want A L KF:=sB hp h
theorem s0{KF:AV→SH→W.Fp→Prop}{p want:Bool}{A:(AV→SH→W.Fp→Prop)→Prop}(h:KF aA L ⟨[],[],[],L.names⟩)(hp:p=!want:=by first | assumption | rfl):W.dgrd (.bool p) want A L KF:=sC hp h
theorem ud{b i off:Nat}{x:Blk}{L':SH}(h:KL (.pptr x.rows i off) L')(h1:oe b x L L':=by repeat constructor)(h2:0<x.size:=by first | exact Nat.succ_pos _ | decide | simp)(h3:0<x.rows.length:=by first | exact Nat.succ_pos _ | decide | simp):W.frz1 (.ptr b i off) L KL:=ot h1 h2 h3 h
theorem pt{KS:SH→Prop}{n b:Nat}{v:AV}{m:Nat}{r cs:List AV}{L':SH}(h:KS L')(hu:nN b ⟨m,[r]⟩ ⟨m,[cs]⟩ L L':=by repeat constructor)(h2:v.cells? =some cs:=by rfl)(h3:cs.length=n:=by rfl)(h4:cs.all AV.one=true:=by rfl)(h5:r.length=n:=by rfl):W.store n (.ptr b 0 0) v L KS:=kY hu h2 h3 h4 h5 h
theorem pu{KS:SH→Prop}{b i off:Nat}{v:AV}{x:Blk}{r:List AV}{L':SH}(h:KS L')(hu:nN b x ⟨x.size,x.rows.set i (r.set off v)⟩ L L':=by repeat constructor)(h1:x.rows[i]? =some r:=by first | assumption | rfl)(h2:v.cells? =some [v]:=by rfl)(h4:v.one=true:=by rfl)(h5:off<r.length:=by first | decide | exact Nat.lt_of_sub_pos (Nat.succ_pos _) | simp | omega):W.store 1 (.ptr b i off) v L KS:=pn hu h1 h2 h4 h5 rfl h
theorem s1{n by_:Nat}{z:List AV}{k k':IntKind}{i j:Nat}(h:∀b,b∉L.names→KL (.sl b 0 i) ((b,⟨n,List.replicate i z⟩)::L))(h1:i≤j:=by omega)(h2:j≤2^62:=by omega)(h3:j*by_≤2^48:=by omega):W.mslice n by_ z (.int k (i:Int)) (.int k' (j:Int)) L KL:=sP h1 h2 h3 h
theorem s3{n:Nat}{z:List AV}{len:Nat}{ps:List (Nat×AV)}{rows:List (List AV)}(h:∀b,b∉L.names→KL (.sl b 0 len) ((b,⟨n,rows⟩)::L))(h1:len*n≤2^24:=by decide)(h2:bC n (List.replicate len z) ps=some rows:=by rfl):W.bslice n z len ps L KL:=sO h1 h2 h
theorem wP{x:AV}{cs:List AV}(h:∀b,b∉L.names→KL (.ptr b 0 0) ((b,⟨cs.length,[cs]⟩)::L))(h1:x.cells? =some cs:=by rfl)(h2:cs.all AV.one=true:=by rfl):W.box x L KL:=uQ h1 h2 h
theorem ue{z:List AV}{ps:List (Nat×Nat×AV)}{cs:List AV}(h:K (.agg cs))(h1:W0.fillR z ps=some cs:=by rfl):W.build z ps K:=tZ h1 h
end
end Go.Proofs.YtelgfgfgghpjgaaGreatDoor.Am
end
section
namespace Go.Proofs.YtelgfgfgghpjgaaGreatDoor.Am
set_option linter.unusedVariables false
abbrev R:=AV→SH→Prop
abbrev Vs:=List AV
abbrev Kn:=W.Kn
abbrev Fp:=W.Fp
abbrev Ns:=List Nat
def rz:Fp:=⟨[],[],[],[]⟩
def rm(i:Nat)(r:Fp):W.WR:=⟨i,r.reads,r.writes,r.made,false,r.old⟩
def rc(i:Nat)(r:Fp):W.WR:=⟨i,r.reads,r.writes,r.made,true,r.old⟩
@[irreducible] def wl (x:AV) (L:SH) (K:AV→Prop):Prop:=W.load false 1 x L K
@[irreducible] def cH (n:Nat) (x:AV) (L:SH) (K:AV→Prop):Prop:=W.load true n x L K
@[irreducible] def aF (o:Nat) (x:AV) (L:SH) (K:AV→Prop):Prop:=W.faddr o x fun a=>wl a L K
@[irreducible] def tK (n:Nat) (x i:AV) (L:SH) (K:AV→Prop):Prop:=W.idx n x i L fun a=>wl a L K
@[irreducible] def pT (n:Nat) (x i:AV) (L:SH) (K:AV→Prop):Prop:=W.idx n x i L fun a=>cH n a L K
@[irreducible] def i8 (n o:Nat) (x i:AV) (L:SH) (K:AV→Prop):Prop:=W.idx n x i L fun a=>aF o a L K
@[irreducible] def wb (op:BinOp) (t:TypeId) (x y:AV) (K:AV→Prop):Prop:=W.bin Tryz.prog Fl op t x y K
@[irreducible] def wk (x:AV) (A B:Prop):Prop:=W.cond x A B
@[irreducible] def wg (x:AV) (w:Bool) (A:(AV→Prop)→Prop) (L:SH) (K:R):Prop:=W.grd x w (fun k=>A fun v=>k v L) L K
@[irreducible] def bN (x:AV) (w:Bool) (y:AV) (L:SH) (K:R):Prop:=W.grd x w (fun k=>k y L) L K
@[irreducible] def wc (f:AV) (args:List AV) (L:SH) (K:R):Prop:=W.call Tryz.prog f args L K
@[irreducible] def wd (us:List W.WR) (i:Nat) (f:AV) (args:List AV) (L:SH) (K:AV→SH→Ns→Prop):Prop:=W.dcall Tryz.prog us i f args L K
@[irreducible] def wn (a b c d:Ns) (K:Fp→Prop):Prop:=W.note ⟨a,b,c,d⟩ K
@[irreducible] def dl (us:List W.WR) (i:Nat) (x:AV) (L:SH) (K:AV→Fp→Prop):Prop:=W.calm us ⟨i,ac x,[],[],false,[]⟩ (wl x L fun v=>W.note ⟨ac x,[],[],[]⟩ fun r=>K v r)
@[irreducible] def dr (us:List W.WR) (i n:Nat) (x:AV) (L:SH) (K:AV→Fp→Prop):Prop:=W.calm us ⟨i,ac x,[],[],false,[]⟩ (cH n x L fun v=>W.note ⟨ac x,[],[],[]⟩ fun r=>K v r)
@[irreducible] def s4 (o:Nat) (x:AV) (us:List W.WR) (i:Nat) (L:SH) (K:AV→Fp→Prop):Prop:=W.faddr o x fun a=>dl us i a L K
@[irreducible] def di (us:List W.WR) (i n:Nat) (x ix:AV) (L:SH) (K:AV→Fp→Prop):Prop:=W.calm us ⟨i,dV x,[],[],false,[]⟩ (W.idx n x ix L fun v=>W.note ⟨dV x,[],[],[]⟩ fun r=>K v r)
@[irreducible] def ds (us:List W.WR) (i n:Nat) (x y:AV) (L:SH) (K:SH→Fp→Prop):Prop:=W.calm us ⟨i,ac x,ac x,[],false,[]⟩ (W.store n x y L fun L=>W.note ⟨ac x,ac x,[],[]⟩ fun r=>K L r)
@[irreducible] def pU (z:List AV) (n:Nat) (y:AV) (L:SH) (K:R):Prop:=W.alloc z L fun x L1=>W.store n x y L1 fun L2=>W.frz1 x L2 K
@[irreducible] def pV (y:AV) (L:SH) (K:R):Prop:=W.box y L fun x L1=>W.frz1 x L1 K
theorem vq{x:AV}{L:SH}{K:AV→Prop}(k0:W.load false 1 x L K):wl x L K:=by unfold wl;exact k0
theorem s5{n:Nat}{x:AV}{L:SH}{K:AV→Prop}(k0:W.load true n x L K):cH n x L K:=by unfold cH;exact k0
theorem s6{o:Nat}{x:AV}{L:SH}{K:AV→Prop}(k0:W.faddr o x fun a=>wl a L K):aF o x L K:=by unfold aF;exact k0
theorem uV{n:Nat}{x i:AV}{L:SH}{K:AV→Prop}(k0:W.idx n x i L fun a=>wl a L K):tK n x i L K:=by unfold tK;exact k0
theorem uW{n:Nat}{x i:AV}{L:SH}{K:AV→Prop}(k0:W.idx n x i L fun a=>cH n a L K):pT n x i L K:=by unfold pT;exact k0
theorem s7{n o:Nat}{x i:AV}{L:SH}{K:AV→Prop}(k0:W.idx n x i L fun a=>aF o a L K):i8 n o x i L K:=by unfold i8;exact k0
theorem wQ{op:BinOp}{t:TypeId}{x y:AV}{K:AV→Prop}(k0:W.bin Tryz.prog Fl op t x y K):wb op t x y K:=by unfold wb;exact k0
theorem wR{x:AV}{A B:Prop}(k0:W.cond x A B):wk x A B:=by unfold wk;exact k0
theorem wS{x:AV}{w:Bool}{A:(AV→Prop)→Prop}{L:SH}{K:R}(k0:W.grd x w (fun k=>A fun v=>k v L) L K):wg x w A L K:=by unfold wg;exact k0
theorem uX{x:AV}{w:Bool}{y:AV}{L:SH}{K:R}(k0:W.grd x w (fun k=>k y L) L K):bN x w y L K:=by unfold bN;exact k0
theorem xH{f:AV}{args:List AV}{L:SH}{K:R}(k0:W.call Tryz.prog f args L K):wc f args L K:=by unfold wc;exact k0
theorem xI{us:List W.WR}{i:Nat}{f:AV}{args:List AV}{L:SH}{K:AV→SH→Ns→Prop}(k0:W.dcall Tryz.prog us i f args L K):wd us i f args L K:=by unfold wd;exact k0
theorem xJ{a b c d:Ns}{K:Fp→Prop}(k0:W.note ⟨a,b,c,d⟩ K):wn a b c d K:=by unfold wn;exact k0
theorem wT{us:List W.WR}{i:Nat}{x:AV}{L:SH}{K:AV→Fp→Prop}(k0:W.calm us ⟨i,ac x,[],[],false,[]⟩ (wl x L fun v=>W.note ⟨ac x,[],[],[]⟩ fun r=>K v r)):dl us i x L K:=by unfold dl;exact k0
theorem wU{us:List W.WR}{i n:Nat}{x:AV}{L:SH}{K:AV→Fp→Prop}(k0:W.calm us ⟨i,ac x,[],[],false,[]⟩ (cH n x L fun v=>W.note ⟨ac x,[],[],[]⟩ fun r=>K v r)):dr us i n x L K:=by unfold dr;exact k0
theorem uY{o:Nat}{x:AV}{us:List W.WR}{i:Nat}{L:SH}{K:AV→Fp→Prop}(k0:W.faddr o x fun a=>dl us i a L K):s4 o x us i L K:=by unfold s4;exact k0
theorem wV{us:List W.WR}{i n:Nat}{x ix:AV}{L:SH}{K:AV→Fp→Prop}(k0:W.calm us ⟨i,dV x,[],[],false,[]⟩ (W.idx n x ix L fun v=>W.note ⟨dV x,[],[],[]⟩ fun r=>K v r)):di us i n x ix L K:=by unfold di;exact k0
theorem uf{rows:List (List AV)}{i off:Nat}{r:List AV}{v:AV}{L:SH}{K:AV→Prop}(k:K v)(h1:rows[i]? =some r:=by first | assumption | rfl)(h2:r[off]? =some v:=by rfl):wl (.pptr rows i off) L K:=vq (po k h1 h2)
theorem wW{b i off:Nat}{x:Blk}{r:List AV}{v:AV}{L:SH}{K:AV→Prop}(k:K v)(hm:(b,x)∈L:=by repeat constructor)(h1:x.rows[i]? =some r:=by first | assumption | rfl)(h2:r[off]? =some v:=by rfl):wl (.ptr b i off) L K:=vq (pp k hm h1 h2)
theorem uZ{o:Nat}{rows:List (List AV)}{i off:Nat}{r:List AV}{v:AV}{L:SH}{K:AV→Prop}(k:K v)(h1:rows[i]? =some r:=by first | assumption | rfl)(h2:r[off+o]? =some v:=by rfl):aF o (.pptr rows i off) L K:=s6 (kh (uf k h1 h2))
theorem wX{o b i off:Nat}{x:Blk}{r:List AV}{v:AV}{L:SH}{K:AV→Prop}(k:K v)(hm:(b,x)∈L:=by repeat constructor)(h1:x.rows[i]? =some r:=by first | assumption | rfl)(h2:r[off+o]? =some v:=by rfl):aF o (.ptr b i off) L K:=s6 (nR (wW k hm h1 h2))
theorem wY{n:Nat}{rows:List (List AV)}{kd:IntKind}{j:Nat}{r:List AV}{v:AV}{L:SH}{K:AV→Prop}(k:K v)(h1:rows[j]? =some r:=by first | assumption | rfl)(h2:r.length=n:=by rfl)(h3:r[0]? =some v:=by rfl):tK n (.lst rows) (.int kd (j:Int)) L K:=uV (jP (uf k h1 h3) h1 h2)
theorem wZ{n:Nat}{rows:List (List AV)}{kd:IntKind}{j:Nat}{r:List AV}{L:SH}{K:AV→Prop}(k:K (.agg r))(h1:rows[j]? =some r:=by first | assumption | rfl)(h2:r.length=n:=by rfl):pT n (.lst rows) (.int kd (j:Int)) L K:=uW (jP (s5 (lI k h1 h2)) h1 h2)
theorem vr{n o:Nat}{rows:List (List AV)}{kd:IntKind}{j:Nat}{r:List AV}{v:AV}{L:SH}{K:AV→Prop}(k:K v)(h1:rows[j]? =some r:=by first | assumption | rfl)(h2:r.length=n:=by rfl)(h3:r[0+o]? =some v:=by rfl):i8 n o (.lst rows) (.int kd (j:Int)) L K:=s7 (jP (uZ k h1 h3) h1 h2)
theorem mg{us:List W.WR}{i:Nat}{A:Prop}(k:A):W.calm us ⟨i,[],[],[],false,[]⟩ A:=sQ (fun x _=>by simp[W.free]) k
theorem w3{us:List W.WR}{j:Nat}{rows:List (List AV)}{i off:Nat}{r:List AV}{v:AV}{L:SH}{K:AV→Fp→Prop}(k:K v rz)(h1:rows[i]? =some r:=by first | assumption | rfl)(h2:r[off]? =some v:=by rfl):dl us j (.pptr rows i off) L K:=wT (mg (uf (me k) h1 h2))
theorem xK{us:List W.WR}{j n:Nat}{rows:List (List AV)}{i:Nat}{r:List AV}{L:SH}{K:AV→Fp→Prop}(k:K (.agg r) rz)(h1:rows[i]? =some r:=by first | assumption | rfl)(h2:r.length=n:=by rfl):dr us j n (.pptr rows i 0) L K:=wU (mg (s5 (lI (me k) h1 h2)))
theorem w4{us:List W.WR}{j o:Nat}{rows:List (List AV)}{i off:Nat}{r:List AV}{v:AV}{L:SH}{K:AV→Fp→Prop}(k:K v rz)(h1:rows[i]? =some r:=by first | assumption | rfl)(h2:r[off+o]? =some v:=by rfl):s4 o (.pptr rows i off) us j L K:=uY (kh (w3 k h1 h2))
theorem xL{us:List W.WR}{m n:Nat}{rows:List (List AV)}{kd:IntKind}{j:Nat}{r:List AV}{L:SH}{K:AV→Fp→Prop}(k:K (.pptr rows j 0) rz)(h1:rows[j]? =some r:=by first | assumption | rfl)(h2:r.length=n:=by rfl):di us m n (.lst rows) (.int kd (j:Int)) L K:=wV (mg (jP (me k) h1 h2))
theorem vt{z cs:List AV}{n:Nat}{L:SH}{K:R}(k:K (.pptr [cs] 0 0) L)(h1:cs.length=n:=by rfl)(h2:z.length=n:=by rfl)(h3:cs.all AV.one=true:=by rfl)(h4:0<n:=by decide):pU z n (.agg cs) L K:=by
 unfold pU
 refine qT fun b hb=>?_
 refine kY (.here _) rfl h1 h3 h2 ?_
 exact ot (.here _) (by show 0<z.length;omega) (Nat.succ_pos _) k
theorem vu{y:AV}{cs:List AV}{L:SH}{K:R}(k:K (.pptr [cs] 0 0) L)(h1:y.cells? =some cs:=by rfl)(h2:cs.all AV.one=true:=by rfl)(h3:0<cs.length:=by exact Nat.succ_pos _):pV y L K:=by
 unfold pV
 exact uQ h1 h2 fun b hb=>ot (.here _) h3 (Nat.succ_pos _) k
theorem pw{n:Nat}{rows:List (List AV)}{i off:Nat}{r cs:List AV}{L:SH}{K:AV→Prop}(k:K (.agg cs))(h1:rows[i]? =some r:=by first | assumption | rfl)(h3:(r.drop off).take n=cs:=by rfl)(h2:off+n≤r.length:=by exact Nat.le_of_ble_eq_true rfl):W.load true n (.pptr rows i off) L K:=sM h1 h2 h3 k
theorem s8{P:Program}{F:TypeId→Option (List TypeId)}{t:TypeId}{kd:IntKind}{a b c:Int}{K:AV→Prop}(k:K (.int kd c))(e:kd.wrap (a+b)=c:=by assumption):W.bin P F .add t (.int kd a) (.int kd b) K:=sI (by rw[e];exact k)
theorem s9{P:Program}{F:TypeId→Option (List TypeId)}{t:TypeId}{kd:IntKind}{a b c:Int}{K:AV→Prop}(k:K (.int kd c))(e:kd.wrap (a-b)=c:=by assumption):W.bin P F .sub t (.int kd a) (.int kd b) K:=sJ (by rw[e];exact k)
theorem u0{a b:Bool}{K:AV→Prop}(k:K (.bool (decide (a=b)))):W.bin Tryz.prog Fl .eql 4 (.bool a) (.bool b) K:=by
 rw[wB _ (show Tryz.prog.underlying 4=some .bool by kernel_rfl)]
 cases a<;>cases b<;>exact k
theorem u1{a b:Bool}{K:AV→Prop}(k:K (.bool (decide (a≠b)))):W.bin Tryz.prog Fl .neq 4 (.bool a) (.bool b) K:=by
 rw[wC _ (show Tryz.prog.underlying 4=some .bool by kernel_rfl)]
 cases a<;>cases b<;>exact k
theorem ug{us:List W.WR}{y:W.WR}{A:Prop}(h:A)(h1:∀x∈us,W.free x y:=by(simp only[rm,rc,rz,W.free,aj,↓reduceIte,Nat.reduceEqDiff,ac,dV,List.forall_mem_nil,List.forall_mem_cons,List.not_mem_nil,not_false_eq_true,implies_true,and_true,true_and,and_self,Bool.false_eq_true,reduceCtorEq,forall_const,false_implies,List.mem_singleton,forall_eq,List.append_nil,List.nil_append,List.mem_cons,or_false,false_or,forall_eq_or_imp,not_or])<;>(repeat' constructor)<;>first | assumption | (exact Ne.symm (by assumption)) | (intro e_;subst e_;simp[SH.names]at *;done)):W.calm us y A:=sQ h1 h
theorem ab{L:SH}{KN:AV→SH→List Nat→Prop}{us:List W.WR}{i:Nat}{g:FuncId}{args:List AV}{v:AV}(h:ax Tryz.prog g args v)(hk:KN v L [])(hf:∀x∈us,W.free x ⟨i,[],[],[],true,[]⟩:=by(simp only[rm,rc,rz,W.free,aj,↓reduceIte,Nat.reduceEqDiff,ac,dV,List.forall_mem_nil,List.forall_mem_cons,List.not_mem_nil,not_false_eq_true,implies_true,and_true,true_and,and_self,Bool.false_eq_true,reduceCtorEq,forall_const,false_implies,List.mem_singleton,forall_eq,List.append_nil,List.nil_append,List.mem_cons,or_false,false_or,forall_eq_or_imp,not_or])<;>(repeat' constructor)<;>first | assumption | (exact Ne.symm (by assumption)) | (intro e_;subst e_;simp[SH.names]at *;done)):W.dcallM Tryz.prog us i g args L KN:=ua h hf hk
theorem bg(ht:sv){f:FuncId}{fn:Func}{args:List AV}{L:SH}{Q:R}{p:Prop}(hf:Tryz.prog.funcs[f]? =some fn)(hb:fn.body=some (fn.body.getD .skip))(he:W.func Tryz.prog Fl ht fn (fn.body.getD .skip) args L Q=p)(h:p):al Tryz.prog f args L Q:=
 qm (ht:=ht) fit hf hb (Eq.mpr he h)
@[irreducible] def xM (a0:Nat) (v:Vs) (K:AV→Prop):Prop:=K (aj [a0] v a0)
theorem vv{a0:Nat}{y0:AV}{K:AV→Prop}(k:K y0)(h:[a0].Nodup:=by decide):xM a0 [y0] K:=by
 simp only[List.nodup_cons,List.mem_cons,not_or,List.not_mem_nil,not_false_eq_true,List.nodup_nil,and_true,true_and]at h
 simp only[xM,aj, *,if_true,if_false,eq_self]
@[irreducible] def vQ (a0 a1:Nat) (v:Vs) (K:AV→AV→Prop):Prop:=K (aj [a0,a1] v a0) (aj [a0,a1] v a1)
theorem vw{a0 a1:Nat}{y0 y1:AV}{K:AV→AV→Prop}(k:K y0 y1)(h:[a0,a1].Nodup:=by decide):vQ a0 a1 [y0,y1] K:=by
 simp only[List.nodup_cons,List.mem_cons,not_or,List.not_mem_nil,not_false_eq_true,List.nodup_nil,and_true,true_and]at h
 simp only[vQ,aj, *,if_true,if_false,eq_self]
@[irreducible] def px (a0 a1 a2:Nat) (v:Vs) (K:AV→AV→AV→Prop):Prop:=K (aj [a0,a1,a2] v a0) (aj [a0,a1,a2] v a1) (aj [a0,a1,a2] v a2)
theorem vx{a0 a1 a2:Nat}{y0 y1 y2:AV}{K:AV→AV→AV→Prop}(k:K y0 y1 y2)(h:[a0,a1,a2].Nodup:=by decide):px a0 a1 a2 [y0,y1,y2] K:=by
 simp only[List.nodup_cons,List.mem_cons,not_or,List.not_mem_nil,not_false_eq_true,List.nodup_nil,and_true,true_and]at h
 simp only[px,aj, *,if_true,if_false,eq_self]
@[irreducible] def rK (a0 a1 a2 a3:Nat) (v:Vs) (K:AV→AV→AV→AV→Prop):Prop:=K (aj [a0,a1,a2,a3] v a0) (aj [a0,a1,a2,a3] v a1) (aj [a0,a1,a2,a3] v a2) (aj [a0,a1,a2,a3] v a3)
theorem vy{a0 a1 a2 a3:Nat}{y0 y1 y2 y3:AV}{K:AV→AV→AV→AV→Prop}(k:K y0 y1 y2 y3)(h:[a0,a1,a2,a3].Nodup:=by decide):rK a0 a1 a2 a3 [y0,y1,y2,y3] K:=by
 simp only[List.nodup_cons,List.mem_cons,not_or,List.not_mem_nil,not_false_eq_true,List.nodup_nil,and_true,true_and]at h
 simp only[rK,aj, *,if_true,if_false,eq_self]
@[irreducible] def uh (a0 a1 a2 a3 a4:Nat) (v:Vs) (K:AV→AV→AV→AV→AV→Prop):Prop:=K (aj [a0,a1,a2,a3,a4] v a0) (aj [a0,a1,a2,a3,a4] v a1) (aj [a0,a1,a2,a3,a4] v a2) (aj [a0,a1,a2,a3,a4] v a3) (aj [a0,a1,a2,a3,a4] v a4)
theorem vz{a0 a1 a2 a3 a4:Nat}{y0 y1 y2 y3 y4:AV}{K:AV→AV→AV→AV→AV→Prop}(k:K y0 y1 y2 y3 y4)(h:[a0,a1,a2,a3,a4].Nodup:=by decide):uh a0 a1 a2 a3 a4 [y0,y1,y2,y3,y4] K:=by
 simp only[List.nodup_cons,List.mem_cons,not_or,List.not_mem_nil,not_false_eq_true,List.nodup_nil,and_true,true_and]at h
 simp only[uh,aj, *,if_true,if_false,eq_self]
@[irreducible] def vR (a0 a1 a2 a3 a4 a5:Nat) (v:Vs) (K:AV→AV→AV→AV→AV→AV→Prop):Prop:=K (aj [a0,a1,a2,a3,a4,a5] v a0) (aj [a0,a1,a2,a3,a4,a5] v a1) (aj [a0,a1,a2,a3,a4,a5] v a2) (aj [a0,a1,a2,a3,a4,a5] v a3) (aj [a0,a1,a2,a3,a4,a5] v a4) (aj [a0,a1,a2,a3,a4,a5] v a5)
theorem vA{a0 a1 a2 a3 a4 a5:Nat}{y0 y1 y2 y3 y4 y5:AV}{K:AV→AV→AV→AV→AV→AV→Prop}(k:K y0 y1 y2 y3 y4 y5)(h:[a0,a1,a2,a3,a4,a5].Nodup:=by decide):vR a0 a1 a2 a3 a4 a5 [y0,y1,y2,y3,y4,y5] K:=by
 simp only[List.nodup_cons,List.mem_cons,not_or,List.not_mem_nil,not_false_eq_true,List.nodup_nil,and_true,true_and]at h
 simp only[vR,aj, *,if_true,if_false,eq_self]
@[irreducible] def w5 (a0 a1 a2 a3 a4 a5 a6:Nat) (v:Vs) (K:AV→AV→AV→AV→AV→AV→AV→Prop):Prop:=K (aj [a0,a1,a2,a3,a4,a5,a6] v a0) (aj [a0,a1,a2,a3,a4,a5,a6] v a1) (aj [a0,a1,a2,a3,a4,a5,a6] v a2) (aj [a0,a1,a2,a3,a4,a5,a6] v a3) (aj [a0,a1,a2,a3,a4,a5,a6] v a4) (aj [a0,a1,a2,a3,a4,a5,a6] v a5) (aj [a0,a1,a2,a3,a4,a5,a6] v a6)
theorem vB{a0 a1 a2 a3 a4 a5 a6:Nat}{y0 y1 y2 y3 y4 y5 y6:AV}{K:AV→AV→AV→AV→AV→AV→AV→Prop}(k:K y0 y1 y2 y3 y4 y5 y6)(h:[a0,a1,a2,a3,a4,a5,a6].Nodup:=by decide):w5 a0 a1 a2 a3 a4 a5 a6 [y0,y1,y2,y3,y4,y5,y6] K:=by
 simp only[List.nodup_cons,List.mem_cons,not_or,List.not_mem_nil,not_false_eq_true,List.nodup_nil,and_true,true_and]at h
 simp only[w5,aj, *,if_true,if_false,eq_self]
@[irreducible] def xB (a0 a1 a2 a3 a4 a5 a6 a7:Nat) (v:Vs) (K:AV→AV→AV→AV→AV→AV→AV→AV→Prop):Prop:=K (aj [a0,a1,a2,a3,a4,a5,a6,a7] v a0) (aj [a0,a1,a2,a3,a4,a5,a6,a7] v a1) (aj [a0,a1,a2,a3,a4,a5,a6,a7] v a2) (aj [a0,a1,a2,a3,a4,a5,a6,a7] v a3) (aj [a0,a1,a2,a3,a4,a5,a6,a7] v a4) (aj [a0,a1,a2,a3,a4,a5,a6,a7] v a5) (aj [a0,a1,a2,a3,a4,a5,a6,a7] v a6) (aj [a0,a1,a2,a3,a4,a5,a6,a7] v a7)
theorem vC{a0 a1 a2 a3 a4 a5 a6 a7:Nat}{y0 y1 y2 y3 y4 y5 y6 y7:AV}{K:AV→AV→AV→AV→AV→AV→AV→AV→Prop}(k:K y0 y1 y2 y3 y4 y5 y6 y7)(h:[a0,a1,a2,a3,a4,a5,a6,a7].Nodup:=by decide):xB a0 a1 a2 a3 a4 a5 a6 a7 [y0,y1,y2,y3,y4,y5,y6,y7] K:=by
 simp only[List.nodup_cons,List.mem_cons,not_or,List.not_mem_nil,not_false_eq_true,List.nodup_nil,and_true,true_and]at h
 simp only[xB,aj, *,if_true,if_false,eq_self]
@[irreducible] def vD (a0 a1 a2 a3 a4 a5 a6 a7 a8 a9:Nat) (v:Vs) (K:AV→AV→AV→AV→AV→AV→AV→AV→AV→AV→Prop):Prop:=K (aj [a0,a1,a2,a3,a4,a5,a6,a7,a8,a9] v a0) (aj [a0,a1,a2,a3,a4,a5,a6,a7,a8,a9] v a1) (aj [a0,a1,a2,a3,a4,a5,a6,a7,a8,a9] v a2) (aj [a0,a1,a2,a3,a4,a5,a6,a7,a8,a9] v a3) (aj [a0,a1,a2,a3,a4,a5,a6,a7,a8,a9] v a4) (aj [a0,a1,a2,a3,a4,a5,a6,a7,a8,a9] v a5) (aj [a0,a1,a2,a3,a4,a5,a6,a7,a8,a9] v a6) (aj [a0,a1,a2,a3,a4,a5,a6,a7,a8,a9] v a7) (aj [a0,a1,a2,a3,a4,a5,a6,a7,a8,a9] v a8) (aj [a0,a1,a2,a3,a4,a5,a6,a7,a8,a9] v a9)
theorem ui{a0 a1 a2 a3 a4 a5 a6 a7 a8 a9:Nat}{y0 y1 y2 y3 y4 y5 y6 y7 y8 y9:AV}{K:AV→AV→AV→AV→AV→AV→AV→AV→AV→AV→Prop}(k:K y0 y1 y2 y3 y4 y5 y6 y7 y8 y9)(h:[a0,a1,a2,a3,a4,a5,a6,a7,a8,a9].Nodup:=by decide):vD a0 a1 a2 a3 a4 a5 a6 a7 a8 a9 [y0,y1,y2,y3,y4,y5,y6,y7,y8,y9] K:=by
 simp only[List.nodup_cons,List.mem_cons,not_or,List.not_mem_nil,not_false_eq_true,List.nodup_nil,and_true,true_and]at h
 simp only[vD,aj, *,if_true,if_false,eq_self]
end Go.Proofs.YtelgfgfgghpjgaaGreatDoor.Am
end
section
namespace Go.Proofs.YtelgfgfgghpjgaaGreatDoor.Am
set_option linter.unusedVariables false
set_option maxRecDepth 100000
def mh(Q:R)(n5:Kn)(L28:SH)(x21 x9 x7 x27:AV):Prop:=
 aF 1 x21 L28 fun x33=>
 wb .neq 3 x33 (.int .i64 0) fun x34=>
 wk x34 (
 Q (.tup [.nils,(.bool false)]) L28) (
 wb .add 3 x9 (.int .i64 1) fun x35=>
 n5 [x7,x27,x35] L28)
def mi(Q:R)(n85:Kn)(L86:SH)(x87 x89 x91 x90 x88:AV):Prop:=
 aF 0 x87 L86 fun x96=>
 wb .add 3 x89 x91 fun x97=>
 pT 5 x96 x97 L86 fun x99=>
 pU [(.str []),(.int .i64 0),(.int .i64 0),(.bool false),(.int .i64 0)] 5 x99 L86 fun x103 L104=>
 aF 1 x103 L104 fun x106=>
 wb .neq 3 x106 x91 fun x107=>
 wg x107 false (W.faddr 0 x103) L104 fun x108 L110=>
 wg x107 false (wl x108 L110) L110 fun x112 L114=>
 wg x107 false (W.faddr 0 x90) L114 fun x116 L118=>
 wg x107 false (wl x116 L118) L118 fun x120 L122=>
 wg x107 false (wb .neq 9 x112 x120) L122 fun x124 L126=>
 W.pick x107 (.bool true) x124 fun x128=>
 wg x128 false (W.faddr 2 x103) L126 fun x129 L131=>
 wg x128 false (wl x129 L131) L131 fun x133 L135=>
 wg x128 false (W.faddr 2 x90) L135 fun x137 L139=>
 wg x128 false (wl x137 L139) L139 fun x141 L143=>
 wg x128 false (wb .neq 3 x133 x141) L143 fun x145 L147=>
 W.pick x128 (.bool true) x145 fun x149=>
 wg x149 false (W.faddr 4 x103) L147 fun x150 L152=>
 wg x149 false (wl x150 L152) L152 fun x154 L156=>
 wg x149 false (W.faddr 4 x90) L156 fun x158 L160=>
 wg x149 false (wl x158 L160) L160 fun x162 L164=>
 wg x149 false (wb .neq 2 x154 x162) L164 fun x166 L168=>
 W.pick x149 (.bool true) x166 fun x170=>
 wg x170 false (W.faddr 3 x103) L168 fun x171 L173=>
 wg x170 false (wl x171 L173) L173 fun x175 L177=>
 W.pick x170 (.bool true) x175 fun x179=>
 wk x179 (
 Q (.tup [.nils,(.bool false)]) L177) (
 wb .add 3 x91 (.int .i64 1) fun x180=>
 n85 [x87,x88,x89,x90,x180] L177)
def dH(Q:R)(n5:Kn)(v84:Vs)(L86:SH)(n85:Kn):Prop:=
 uh 1 4 5 6 7 v84 fun x87 x88 x89 x90 x91=>
 aF 2 x90 L86 fun x93=>
 wb .lss 3 x91 x93 fun x94=>
 wk x94 (
 (mi Q n85 L86 x87 x89 x91 x90 x88)) (
 aF 2 x90 L86 fun x182=>
 wb .add 3 x89 x182 fun x183=>
 n5 [x87,x88,x183] L86)
def mj(Q:R)(n5:Kn)(L28:SH)(x21 x7 x9 x27:AV):Prop:=
 aF 2 x21 L28 fun x37=>
 wb .lss 3 x37 (.int .i64 1) fun x38=>
 wg x38 false (W.faddr 2 x21) L28 fun x39 L41=>
 wg x38 false (wl x39 L41) L41 fun x43 L45=>
 wg x38 false (wb .gtr 3 x43 (.int .i64 4)) L45 fun x47 L49=>
 W.pick x38 (.bool true) x47 fun x51=>
 wg x51 false (W.faddr 2 x21) L49 fun x52 L54=>
 wg x51 false (wl x52 L54) L54 fun x56 L58=>
 wg x51 false (W.faddr 0 x7) L58 fun x60 L62=>
 wg x51 false (wl x60 L62) L62 fun x64 L66=>
 wg x51 false (W.len x64) L66 fun x68 L70=>
 bN x51 false x9 L70 fun x72 L74=>
 wg x51 false (wb .sub 3 x68 x72) L74 fun x75 L77=>
 wg x51 false (wb .gtr 3 x56 x75) L77 fun x79 L81=>
 W.pick x51 (.bool true) x79 fun x83=>
 wk x83 (
 Q (.tup [.nils,(.bool false)]) L81) (
 W.loop (dH Q n5) [x7,x27,x9,x21,(.int .i64 0)] L81)
def ml(Q:R)(n5:Kn)(L6:SH)(x7 x9 x8:AV):Prop:=
 aF 0 x7 L6 fun x15=>
 pT 5 x15 x9 L6 fun x17=>
 pU [(.str []),(.int .i64 0),(.int .i64 0),(.bool false),(.int .i64 0)] 5 x17 L6 fun x21 L22=>
 aF 0 x21 L22 fun x24=>
 W.bslice 1 [(.str [])] 1 [(0,x24)] L22 fun x25 L26=>
 W.append 1 16 x8 x25 L26 fun x27 L28=>
 aF 2 x21 L28 fun x30=>
 wb .eql 3 x30 (.int .i64 0) fun x31=>
 wk x31 (
 (mh Q n5 L28 x21 x9 x7 x27)) (
 (mj Q n5 L28 x21 x7 x9 x27))
def mn(n185:Kn)(L186:SH)(x187 x189 x188:AV):Prop:=
 aF 1 x187 L186 fun x195=>
 i8 2 0 x195 x189 L186 fun x198=>
 W.bslice 1 [(.str [])] 1 [(0,x198)] L186 fun x199 L200=>
 W.append 1 16 x188 x199 L200 fun x201 L202=>
 wb .add 3 x189 (.int .i64 1) fun x203=>
 n185 [x187,x201,x203] L202
def mo(n205:Kn)(L206:SH)(x207 x209 x208:AV):Prop:=
 aF 2 x207 L206 fun x215=>
 i8 2 0 x215 x209 L206 fun x218=>
 W.bslice 1 [(.str [])] 1 [(0,x218)] L206 fun x219 L220=>
 W.append 1 16 x208 x219 L220 fun x221 L222=>
 wb .add 3 x209 (.int .i64 1) fun x223=>
 n205 [x207,x221,x223] L222
def mq(Q:R)(L206:SH)(x207 x208:AV):Prop:=
 aF 3 x207 L206 fun x225=>
 W.append 1 16 x208 x225 L206 fun x226 L227=>
 aF 4 x207 L227 fun x229=>
 W.append 1 16 x226 x229 L227 fun x230 L231=>
 Q (.tup [x230,(.bool true)]) L231
def dI(Q:R)(v204:Vs)(L206:SH)(n205:Kn):Prop:=
 px 1 4 10 v204 fun x207 x208 x209=>
 aF 2 x207 L206 fun x211=>
 W.len x211 fun x212=>
 wb .lss 3 x209 x212 fun x213=>
 wk x213 (
 (mo n205 L206 x207 x209 x208)) (
 (mq Q L206 x207 x208))
def dJ(Q:R)(v184:Vs)(L186:SH)(n185:Kn):Prop:=
 px 1 4 9 v184 fun x187 x188 x189=>
 aF 1 x187 L186 fun x191=>
 W.len x191 fun x192=>
 wb .lss 3 x189 x192 fun x193=>
 wk x193 (
 (mn n185 L186 x187 x189 x188)) (
 W.loop (dI Q) [x187,x188,(.int .i64 0)] L186)
def gF(Q:R)(v4:Vs)(L6:SH)(n5:Kn):Prop:=
 px 1 4 5 v4 fun x7 x8 x9=>
 aF 0 x7 L6 fun x11=>
 W.len x11 fun x12=>
 wb .lss 3 x9 x12 fun x13=>
 wk x13 (
 (ml Q n5 L6 x7 x9 x8)) (
 W.loop (dJ Q) [x7,x8,(.int .i64 0)] L6)
def em(t0:AV)(L:SH)(Q:R):Prop:=
 pV t0 L fun x2 L3=>
 W.loop (gF Q) [x2,.nils,(.int .i64 0)] L3
theorem gG(t0:AV)(L:SH)(Q:R)(h:em t0 L Q):al Tryz.prog 23 [t0] L Q:=
 bg ⟨fun _=>none,fun k=>if k=13 then [1,4,5,6,7]else if k=3 then [1,4,5]else if k=20 then [1,4,9]else if k=24 then [1,4,10]else [],fun k=>if k=0 then [1]else if k=4 then [6]else if k=15 then [8]else [],fun _=>[]⟩ Tryz.func23 (by kernel_rfl) (by kernel_rfl) h
def ij(Q:R)(n117:Kn)(L118:SH)(x120 x121 x119 x128:AV)(L130:SH)(q129:Ns):Prop:=
 wn [] q129 [] L118.names fun r131=>
 W.un .not x128 fun x132=>
 W.dgrd x132 false (fun k134=>k134 x120 L130 rz) L130 fun x133 L136 r135=>
 W.dgrd x132 false (fun k138=>k138 x121 L136 rz) L136 fun x137 L140 r139=>
 W.dgrd x132 false (fun k142=>W.calm [] ⟨9,(dV x133),[],[],false,[]⟩ (
 W.slice 1 x133 none (some x137) none L140 fun x145=>
 wn (dV x133) [] [] [] fun r146=>
 k142 x145 L140 r146)) L140 fun x141 L144 r143=>
 W.dgrd x132 false (fun k148=>k148 x120 L144 rz) L144 fun x147 L150 r149=>
 W.dgrd x132 false (fun k152=>k152 x121 L150 rz) L150 fun x151 L154 r153=>
 W.dgrd x132 false (fun k156=>di [rm 9 r143] 12 1 x147 x151 L154 fun x159 r160=>
 k156 x159 L154 r160) L154 fun x155 L158 r157=>
 W.dgrd x132 false (fun k162=>dl [rm 9 r143] 13 x155 L158 fun x165 r166=>
 k162 x165 L158 r166) L158 fun x161 L164 r163=>
 W.dgrd x132 false (fun k168=>wd [] 14 (.fn 25 []) [x141,x161] L164 fun x171 L173 q172=>
 wn [] q172 [] L164.names fun r174=>
 k168 x171 L173 r174) L164 fun x167 L170 r169=>
 W.dgrd x132 false (fun k176=>wb .geq 3 x167 (.int .i64 0) fun x179=>
 k176 x179 L170 rz) L170 fun x175 L178 r177=>
 W.pick x132 (.bool true) x175 fun x180=>
 wk x180 (
 Q (.bool false) L178) (
 wb .add 3 x121 (.int .i64 1) fun x181=>
 n117 [x119,x120,x181] L178)
def ik(Q:R)(n117:Kn)(L118:SH)(x120 x121 x119:AV):Prop:=
 (true=true)∧(
 di [] 2 1 x120 x121 L118 fun x124 r125=>
 dl [] 3 x124 L118 fun x126 r127=>
 wd [] 4 (.fn 24 []) [x126] L118 (ij Q n117 L118 x120 x121 x119))
def il(Q:R)(n183:Kn)(L184:SH)(x185 x186:AV):Prop:=
 aF 2 x185 L184 fun x192=>
 i8 2 1 x192 x186 L184 fun x195=>
 wb .lss 3 x195 (.int .i64 0) fun x196=>
 bN x196 false x195 L184 fun x197 L199=>
 wg x196 false (W.faddr 1 x185) L199 fun x200 L202=>
 wg x196 false (wl x200 L202) L202 fun x204 L206=>
 wg x196 false (W.len x204) L206 fun x208 L210=>
 wg x196 false (wb .geq 3 x197 x208) L210 fun x212 L214=>
 W.pick x196 (.bool true) x212 fun x216=>
 wg x216 false (W.faddr 1 x185) L214 fun x217 L219=>
 wg x216 false (wl x217 L219) L219 fun x221 L223=>
 bN x216 false x195 L223 fun x225 L227=>
 wg x216 false (W.idx 2 x221 x225 L227) L227 fun x228 L230=>
 wg x216 false (W.faddr 1 x228) L230 fun x232 L234=>
 wg x216 false (wl x232 L234) L234 fun x236 L238=>
 W.pick x216 (.bool true) x236 fun x240=>
 wk x240 (
 Q (.bool false) L238) (
 wb .add 3 x186 (.int .i64 1) fun x241=>
 n183 [x185,x241] L238)
def im(Q:R)(n243:Kn)(L340:SH)(x258 x246 x245:AV):Prop:=
 (true=true)∧(
 s4 1 x258 [] 1 L340 fun x344 r345=>
 wb .neq 3 x344 (.int .i64 0) fun x346=>
 W.dgrd x346 false (fun k348=>k348 x246 L340 rz) L340 fun x347 L350 r349=>
 W.dgrd x346 false (fun k352=>wb .gtr 3 x347 (.int .i64 0) fun x355=>
 k352 x355 L350 rz) L350 fun x351 L354 r353=>
 W.dgrd x346 false (fun k357=>k357 x351 L354 rz) L354 fun x356 L359 r358=>
 W.dgrd x356 true (fun k361=>W.faddr 5 x245 fun x364=>
 k361 x364 L359 rz) L359 fun x360 L363 r362=>
 W.dgrd x356 true (fun k366=>dl [] 8 x360 L363 fun x369 r370=>
 k366 x369 L363 r370) L363 fun x365 L368 r367=>
 W.dgrd x356 true (fun k372=>k372 x246 L368 rz) L368 fun x371 L374 r373=>
 W.dgrd x356 true (fun k376=>wb .sub 3 x371 (.int .i64 1) fun x379=>
 k376 x379 L374 rz) L374 fun x375 L378 r377=>
 W.dgrd x356 true (fun k381=>di [] 11 3 x365 x375 L378 fun x384 r385=>
 k381 x384 L378 r385) L378 fun x380 L383 r382=>
 W.dgrd x356 true (fun k387=>W.faddr 0 x380 fun x390=>
 k387 x390 L383 rz) L383 fun x386 L389 r388=>
 W.dgrd x356 true (fun k392=>dl [] 13 x386 L389 fun x395 r396=>
 k392 x395 L389 r396) L389 fun x391 L394 r393=>
 W.dgrd x356 true (fun k398=>W.faddr 0 x258 fun x401=>
 k398 x401 L394 rz) L394 fun x397 L400 r399=>
 W.dgrd x356 true (fun k403=>dl [rm 13 r393,rm 11 r382,rm 8 r367] 15 x397 L400 fun x406 r407=>
 k403 x406 L400 r407) L400 fun x402 L405 r404=>
 W.dgrd x356 true (fun k409=>wb .gtr 3 x391 x402 fun x412=>
 k409 x412 L405 rz) L405 fun x408 L411 r410=>
 W.dgrd x346 false (fun k414=>W.pick x356 x408 (.bool false) fun x417=>
 k414 x417 L411 rz) L411 fun x413 L416 r415=>
 W.pick x346 (.bool true) x413 fun x418=>
 wk x418 (
 Q (.bool false) L416) (
 wb .add 3 x246 (.int .i64 1) fun x419=>
 n243 [x245,x419] L416))
def io(Q:R)(n243:Kn)(L340:SH)(x258 x245 x246:AV):Prop:=
 (true=true)∧(
 s4 1 x258 [] 1 L340 fun x421 r422=>
 s4 5 x245 [rm 1 r422] 3 L340 fun x424 r425=>
 wb .sub 3 x246 (.int .i64 1) fun x426=>
 di [rm 1 r422] 6 3 x424 x426 L340 fun x427 r428=>
 s4 1 x427 [rm 1 r422] 8 L340 fun x430 r431=>
 wb .add 3 x430 (.int .i64 1) fun x432=>
 wb .neq 3 x421 x432 fun x433=>
 wk x433 (
 Q (.bool false) L340) (
 wb .add 3 x246 (.int .i64 1) fun x434=>
 n243 [x245,x434] L340))
def ip(Q:R)(n243:Kn)(L285:SH)(x246 x245 x258:AV):Prop:=
 (true=true)∧(
 wb .eql 3 x246 (.int .i64 0) fun x288=>
 W.dgrd x288 false (fun k290=>W.faddr 5 x245 fun x293=>
 k290 x293 L285 rz) L285 fun x289 L292 r291=>
 W.dgrd x288 false (fun k295=>dl [] 4 x289 L292 fun x298 r299=>
 k295 x298 L292 r299) L292 fun x294 L297 r296=>
 W.dgrd x288 false (fun k301=>k301 x246 L297 rz) L297 fun x300 L303 r302=>
 W.dgrd x288 false (fun k305=>wb .sub 3 x300 (.int .i64 1) fun x308=>
 k305 x308 L303 rz) L303 fun x304 L307 r306=>
 W.dgrd x288 false (fun k310=>di [] 7 3 x294 x304 L307 fun x313 r314=>
 k310 x313 L307 r314) L307 fun x309 L312 r311=>
 W.dgrd x288 false (fun k316=>W.faddr 0 x309 fun x319=>
 k316 x319 L312 rz) L312 fun x315 L318 r317=>
 W.dgrd x288 false (fun k321=>dl [] 9 x315 L318 fun x324 r325=>
 k321 x324 L318 r325) L318 fun x320 L323 r322=>
 W.dgrd x288 false (fun k327=>W.faddr 0 x258 fun x330=>
 k327 x330 L323 rz) L323 fun x326 L329 r328=>
 W.dgrd x288 false (fun k332=>dl [rm 9 r322,rm 7 r311,rm 4 r296] 11 x326 L329 fun x335 r336=>
 k332 x335 L329 r336) L329 fun x331 L334 r333=>
 W.dgrd x288 false (fun k338=>wb .neq 3 x320 x331 fun x341=>
 k338 x341 L334 rz) L334 fun x337 L340 r339=>
 W.pick x288 (.bool true) x337 fun x342=>
 wk x342 (
 (im Q n243 L340 x258 x246 x245)) (
 (io Q n243 L340 x258 x245 x246)))
def iq(Q:R)(n243:Kn)(L244:SH)(x245 x246:AV):Prop:=
 aF 5 x245 L244 fun x252=>
 pT 3 x252 x246 L244 fun x254=>
 pU [(.int .i64 0),(.int .i64 0),(.int .i64 0)] 3 x254 L244 fun x258 L259=>
 aF 0 x258 L259 fun x261=>
 wb .lss 3 x261 (.int .i64 0) fun x262=>
 wg x262 false (W.faddr 0 x258) L259 fun x263 L265=>
 wg x262 false (wl x263 L265) L265 fun x267 L269=>
 wg x262 false (W.faddr 4 x245) L269 fun x271 L273=>
 wg x262 false (wl x271 L273) L273 fun x275 L277=>
 wg x262 false (W.len x275) L277 fun x279 L281=>
 wg x262 false (wb .geq 3 x267 x279) L281 fun x283 L285=>
 W.pick x262 (.bool true) x283 fun x287=>
 wk x287 (
 Q (.bool false) L285) (
 (ip Q n243 L285 x246 x245 x258))
def b9(Q:R)(v242:Vs)(L244:SH)(n243:Kn):Prop:=
 vQ 1 8 v242 fun x245 x246=>
 aF 5 x245 L244 fun x248=>
 W.len x248 fun x249=>
 wb .lss 3 x246 x249 fun x250=>
 wk x250 (
 (iq Q n243 L244 x245 x246)) (
 Q (.bool true) L244)
def dk(Q:R)(v182:Vs)(L184:SH)(n183:Kn):Prop:=
 vQ 1 6 v182 fun x185 x186=>
 aF 2 x185 L184 fun x188=>
 W.len x188 fun x189=>
 wb .lss 3 x186 x189 fun x190=>
 wk x190 (
 (il Q n183 L184 x185 x186)) (
 W.loop (b9 Q) [x185,(.int .i64 0)] L184)
def dm(Q:R)(v116:Vs)(L118:SH)(n117:Kn):Prop:=
 px 1 3 5 v116 fun x119 x120 x121=>
 W.len x120 fun x122=>
 wb .lss 3 x121 x122 fun x123=>
 wk x123 (
 (ik Q n117 L118 x120 x121 x119)) (
 W.loop (dk Q) [x119,(.int .i64 0)] L118)
def ir(Q:R)(x2 x111:AV)(L112:SH):Prop:=
 W.ext 0 x111 fun x113=>
 W.ext 1 x111 fun x114=>
 W.un .not x114 fun x115=>
 wk x115 (
 Q (.bool false) L112) (
 W.loop (dm Q) [x2,x113,(.int .i64 0)] L112)
def dK(t0:AV)(L:SH)(Q:R):Prop:=
 pV t0 L fun x2 L3=>
 aF 0 x2 L3 fun x5=>
 W.len x5 fun x6=>
 wb .gtr 3 x6 (.int .i64 12) fun x7=>
 wg x7 false (W.faddr 1 x2) L3 fun x8 L10=>
 wg x7 false (wl x8 L10) L10 fun x12 L14=>
 wg x7 false (W.len x12) L14 fun x16 L18=>
 wg x7 false (wb .gtr 3 x16 (.int .i64 4)) L18 fun x20 L22=>
 W.pick x7 (.bool true) x20 fun x24=>
 wg x24 false (W.faddr 2 x2) L22 fun x25 L27=>
 wg x24 false (wl x25 L27) L27 fun x29 L31=>
 wg x24 false (W.len x29) L31 fun x33 L35=>
 wg x24 false (wb .gtr 3 x33 (.int .i64 2)) L35 fun x37 L39=>
 W.pick x24 (.bool true) x37 fun x41=>
 wg x41 false (W.faddr 3 x2) L39 fun x42 L44=>
 wg x41 false (wl x42 L44) L44 fun x46 L48=>
 wg x41 false (W.len x46) L48 fun x50 L52=>
 wg x41 false (wb .gtr 3 x50 (.int .i64 2)) L52 fun x54 L56=>
 W.pick x41 (.bool true) x54 fun x58=>
 wg x58 false (W.faddr 4 x2) L56 fun x59 L61=>
 wg x58 false (wl x59 L61) L61 fun x63 L65=>
 wg x58 false (W.len x63) L65 fun x67 L69=>
 wg x58 false (wb .lss 3 x67 (.int .i64 1)) L69 fun x71 L73=>
 W.pick x58 (.bool true) x71 fun x75=>
 wg x75 false (W.faddr 4 x2) L73 fun x76 L78=>
 wg x75 false (wl x76 L78) L78 fun x80 L82=>
 wg x75 false (W.len x80) L82 fun x84 L86=>
 wg x75 false (wb .gtr 3 x84 (.int .i64 4)) L86 fun x88 L90=>
 W.pick x75 (.bool true) x88 fun x92=>
 wg x92 false (W.faddr 5 x2) L90 fun x93 L95=>
 wg x92 false (wl x93 L95) L95 fun x97 L99=>
 wg x92 false (W.len x97) L99 fun x101 L103=>
 wg x92 false (wb .gtr 3 x101 (.int .i64 60)) L103 fun x105 L107=>
 W.pick x92 (.bool true) x105 fun x109=>
 wk x109 (
 Q (.bool false) L107) (
 cH 6 x2 L107 fun x110=>
 wc (.fn 23 []) [x110] L107 (ir Q x2))
theorem iu(t0:AV)(L:SH)(Q:R)(h:dK t0 L Q):al Tryz.prog 12 [t0] L Q:=
 bg ⟨fun _=>none,fun k=>if k=7 then [1,3,5]else if k=12 then [1,6]else if k=18 then [1,8]else [],fun k=>if k=0 then [1]else if k=20 then [9]else [],fun k=>if k=9 then [0,0,3,7,15,31,63,127,127,511,127,127,3199,7295,16383,32767,65535]else if k=23 then [0,1,3,7,15,7,39,127,255,511,7,1031,4095,8191]else if k=24 then [0,1,3,7,15,31,63,127,255,127,639,2047,4095,8191,127,16511,65535,131071,262143]else if k=26 then [0,1,0,4,0,16,60,124,252,508,1023]else []⟩ Tryz.func12 (by kernel_rfl) (by kernel_rfl) h
def ms(t0 t1:AV)(L:SH)(Q:R):Prop:=
 wb .geq 3 t0 (.int .i64 0) fun x0=>
 bN x0 true t0 L fun x1 L3=>
 bN x0 true t1 L3 fun x4 L6=>
 wg x0 true (wb .lss 3 x1 x4) L6 fun x7 L9=>
 W.pick x0 x7 (.bool false) fun x11=>
 Q x11 L9
theorem py(t0 t1:AV)(L:SH)(Q:R)(h:ms t0 t1 L Q):al Tryz.prog 28 [t0,t1] L Q:=
 bg ⟨fun _=>none,fun _=>[],fun _=>[],fun _=>[]⟩ Tryz.func28 (by kernel_rfl) (by kernel_rfl) h
def mt(Q:R)(t1 t2 x2 x7:AV)(L8:SH):Prop:=
 wg x7 true (W.faddr 0 x2) L8 fun x9 L11=>
 wg x7 true (wl x9 L11) L11 fun x13 L15=>
 bN x7 true t1 L15 fun x17 L19=>
 wg x7 true (W.idx 5 x13 x17 L19) L19 fun x20 L22=>
 wg x7 true (W.faddr 1 x20) L22 fun x24 L26=>
 wg x7 true (wl x24 L26) L26 fun x28 L30=>
 wg x7 true (wb .eql 3 x28 (.int .i64 0)) L30 fun x32 L34=>
 W.pick x7 x32 (.bool false) fun x36=>
 wg x36 true (W.faddr 0 x2) L34 fun x37 L39=>
 wg x36 true (wl x37 L39) L39 fun x41 L43=>
 bN x36 true t1 L43 fun x45 L47=>
 wg x36 true (W.idx 5 x41 x45 L47) L47 fun x48 L50=>
 wg x36 true (W.faddr 2 x48) L50 fun x52 L54=>
 wg x36 true (wl x52 L54) L54 fun x56 L58=>
 wg x36 true (wb .neq 3 x56 (.int .i64 0)) L58 fun x60 L62=>
 W.pick x36 x60 (.bool false) fun x64=>
 wg x64 true (W.faddr 0 x2) L62 fun x65 L67=>
 wg x64 true (wl x65 L67) L67 fun x69 L71=>
 bN x64 true t1 L71 fun x73 L75=>
 wg x64 true (W.idx 5 x69 x73 L75) L75 fun x76 L78=>
 wg x64 true (W.faddr 2 x76) L78 fun x80 L82=>
 wg x64 true (wl x80 L82) L82 fun x84 L86=>
 bN x64 true t2 L86 fun x88 L90=>
 wg x64 true (wb .eql 2 x84 x88) L90 fun x91 L93=>
 W.pick x64 x91 (.bool false) fun x95=>
 Q x95 L93
def iQ(t0 t1 t2:AV)(L:SH)(Q:R):Prop:=
 pV t0 L fun x2 L3=>
 aF 0 x2 L3 fun x5=>
 W.len x5 fun x6=>
 wc (.fn 28 []) [t1,x6] L3 (mt Q t1 t2 x2)
theorem mu(t0 t1 t2:AV)(L:SH)(Q:R)(h:iQ t0 t1 t2 L Q):al Tryz.prog 51 [t0,t1,t2] L Q:=
 bg ⟨fun _=>none,fun _=>[],fun k=>if k=0 then [3]else [],fun _=>[]⟩ Tryz.func51 (by kernel_rfl) (by kernel_rfl) h
def ki(Q:R)(x4 x6 x16:AV)(L17:SH):Prop:=
 wg x16 true (W.faddr 0 x4) L17 fun x18 L20=>
 wg x16 true (wl x18 L20) L20 fun x22 L24=>
 wg x16 true (W.faddr 2 x6) L24 fun x26 L28=>
 wg x16 true (wl x26 L28) L28 fun x30 L32=>
 wg x16 true (W.idx 5 x22 x30 L32) L32 fun x34 L36=>
 wg x16 true (W.faddr 2 x34) L36 fun x38 L40=>
 wg x16 true (wl x38 L40) L40 fun x42 L44=>
 wg x16 true (wb .eql 3 x42 (.int .i64 0)) L44 fun x46 L48=>
 W.pick x16 x46 (.bool false) fun x50=>
 Q x50 L48
def kj(Q:R)(x4 x6 x57:AV)(L58:SH):Prop:=
 wg x57 true (W.faddr 0 x4) L58 fun x59 L61=>
 wg x57 true (wl x59 L61) L61 fun x63 L65=>
 wg x57 true (W.faddr 1 x6) L65 fun x67 L69=>
 wg x57 true (wl x67 L69) L69 fun x71 L73=>
 wg x57 true (W.idx 5 x63 x71 L73) L73 fun x75 L77=>
 wg x57 true (W.faddr 2 x75) L77 fun x79 L81=>
 wg x57 true (wl x79 L81) L81 fun x83 L85=>
 wg x57 true (wb .eql 3 x83 (.int .i64 0)) L85 fun x87 L89=>
 W.pick x57 x87 (.bool false) fun x91=>
 Q x91 L89
def kk(Q:R)(x111 x112 x120:AV)(L121:SH):Prop:=
 wg x120 true (W.faddr 1 x111) L121 fun x122 L124=>
 wg x120 true (wl x122 L124) L124 fun x126 L128=>
 wg x120 true (W.faddr 1 x112) L128 fun x130 L132=>
 wg x120 true (wl x130 L132) L132 fun x134 L136=>
 wg x120 true (W.idx 2 x126 x134 L136) L136 fun x138 L140=>
 wg x120 true (W.faddr 1 x138) L140 fun x142 L144=>
 wg x120 true (wl x142 L144) L144 fun x146 L148=>
 wg x120 true (W.un .not x146) L148 fun x150 L152=>
 W.pick x120 x150 (.bool false) fun x154=>
 Q x154 L152
def km(Q:R)(x158 x159 x167:AV)(L168:SH):Prop:=
 wg x167 true (W.faddr 1 x158) L168 fun x169 L171=>
 wg x167 true (wl x169 L171) L171 fun x173 L175=>
 wg x167 true (W.faddr 1 x159) L175 fun x177 L179=>
 wg x167 true (wl x177 L179) L179 fun x181 L183=>
 wg x167 true (W.idx 2 x173 x181 L183) L183 fun x185 L187=>
 wg x167 true (W.faddr 1 x185) L187 fun x189 L191=>
 wg x167 true (wl x189 L191) L191 fun x193 L195=>
 W.pick x167 x193 (.bool false) fun x197=>
 Q x197 L195
def ko(Q:R)(L214:SH)(x216:AV):Prop:=
 aF 4 x216 L214 fun x244=>
 wb .eql 2 x244 (.int .i64 4) fun x245=>
 wg x245 false (W.faddr 4 x216) L214 fun x246 L248=>
 wg x245 false (wl x246 L248) L248 fun x250 L252=>
 wg x245 false (wb .eql 2 x250 (.int .i64 5)) L252 fun x254 L256=>
 W.pick x245 (.bool true) x254 fun x258=>
 Q x258 L256
def kp(Q:R)(L214:SH)(x216:AV):Prop:=
 aF 4 x216 L214 fun x261=>
 wb .geq 2 x261 (.int .i64 6) fun x262=>
 wg x262 true (W.faddr 4 x216) L214 fun x263 L265=>
 wg x262 true (wl x263 L265) L265 fun x267 L269=>
 wg x262 true (wb .leq 2 x267 (.int .i64 18)) L269 fun x271 L273=>
 W.pick x262 x271 (.bool false) fun x275=>
 Q x275 L273
def kq(Q:R)(L214:SH)(x217 x216:AV):Prop:=
 wb .eql 3 x217 (.int .i64 3) fun x242=>
 wk x242 (
 (ko Q L214 x216)) (
 wb .eql 3 x217 (.int .i64 4) fun x259=>
 wk x259 (
 (kp Q L214 x216)) (
 Q (.bool true) L214))
def ku(Q:R)(L214:SH)(x217 x216 x215:AV):Prop:=
 wb .eql 3 x217 (.int .i64 27) fun x234=>
 wk x234 (
 aF 2 x216 L214 fun x236=>
 aF 3 x215 L214 fun x238=>
 W.len x238 fun x239=>
 wc (.fn 28 []) [x236,x239] L214 fun x240 L241=>
 Q x240 L241) (
 (kq Q L214 x217 x216))
def kv(Q:R)(L214:SH)(x217 x216 x215:AV):Prop:=
 wb .eql 3 x217 (.int .i64 26) fun x226=>
 wk x226 (
 aF 1 x216 L214 fun x228=>
 aF 3 x215 L214 fun x230=>
 W.len x230 fun x231=>
 wc (.fn 28 []) [x228,x231] L214 fun x232 L233=>
 Q x232 L233) (
 (ku Q L214 x217 x216 x215))
def kw(Q:R)(v212:Vs)(L214:SH):Prop:=
 rK 2 3 6 108 v212 fun x215 x216 x217 x218=>
 wk x218 (
 aF 1 x216 L214 fun x220=>
 aF 4 x215 L214 fun x222=>
 W.len x222 fun x223=>
 wc (.fn 28 []) [x220,x223] L214 fun x224 L225=>
 Q x224 L225) (
 (kv Q L214 x217 x216 x215))
def ky(Q:R)(L200:SH)(x203 x201 x202:AV):Prop:=
 W.join (kw Q) fun j213=>
 wb .eql 3 x203 (.int .i64 24) fun x276=>
 wk x276 (
 j213 [x201,x202,x203,x276] L200) (
 wb .eql 3 x203 (.int .i64 25) fun x277=>
 j213 [x201,x202,x203,x277] L200)
def kz(Q:R)(v198:Vs)(L200:SH):Prop:=
 rK 2 3 6 98 v198 fun x201 x202 x203 x204=>
 wk x204 (
 aF 1 x202 L200 fun x206=>
 aF 2 x201 L200 fun x208=>
 W.len x208 fun x209=>
 wc (.fn 28 []) [x206,x209] L200 fun x210 L211=>
 Q x210 L211) (
 (ky Q L200 x203 x201 x202))
def kA(j199:Kn)(L157:SH)(x160 x158 x159:AV):Prop:=
 wb .eql 3 x160 (.int .i64 22) fun x279=>
 wk x279 (
 j199 [x158,x159,x160,x279] L157) (
 wb .eql 3 x160 (.int .i64 23) fun x280=>
 j199 [x158,x159,x160,x280] L157)
def kB(Q:R)(L157:SH)(x160 x158 x159:AV):Prop:=
 W.join (kz Q) fun j199=>
 wb .eql 3 x160 (.int .i64 21) fun x278=>
 wk x278 (
 j199 [x158,x159,x160,x278] L157) (
 (kA j199 L157 x160 x158 x159))
def kC(Q:R)(v155:Vs)(L157:SH):Prop:=
 rK 2 3 6 78 v155 fun x158 x159 x160 x161=>
 wk x161 (
 aF 1 x159 L157 fun x163=>
 aF 1 x158 L157 fun x165=>
 W.len x165 fun x166=>
 wc (.fn 28 []) [x163,x166] L157 (km Q x158 x159)) (
 (kB Q L157 x160 x158 x159))
def kD(j156:Kn)(L110:SH)(x113 x111 x112:AV):Prop:=
 wb .eql 3 x113 (.int .i64 15) fun x283=>
 wk x283 (
 j156 [x111,x112,x113,x283] L110) (
 wb .eql 3 x113 (.int .i64 16) fun x284=>
 j156 [x111,x112,x113,x284] L110)
def kE(Q:R)(L110:SH)(x113 x111 x112:AV):Prop:=
 W.join (kC Q) fun j156=>
 wb .eql 3 x113 (.int .i64 13) fun x281=>
 wk x281 (
 j156 [x111,x112,x113,x281] L110) (
 wb .eql 3 x113 (.int .i64 14) fun x282=>
 wk x282 (
 j156 [x111,x112,x113,x282] L110) (
 (kD j156 L110 x113 x111 x112)))
def kF(Q:R)(v108:Vs)(L110:SH):Prop:=
 rK 2 3 6 59 v108 fun x111 x112 x113 x114=>
 wk x114 (
 aF 1 x112 L110 fun x116=>
 aF 1 x111 L110 fun x118=>
 W.len x118 fun x119=>
 wc (.fn 28 []) [x116,x119] L110 (kk Q x111 x112)) (
 (kE Q L110 x113 x111 x112))
def jQ(Q:R)(L7:SH)(x9 x4 x6:AV):Prop:=
 W.join (kF Q) fun j109=>
 wb .eql 3 x9 (.int .i64 11) fun x285=>
 wk x285 (
 j109 [x4,x6,x9,x285] L7) (
 wb .eql 3 x9 (.int .i64 12) fun x286=>
 j109 [x4,x6,x9,x286] L7)
def jR(Q:R)(L7:SH)(x9 x4 x6:AV):Prop:=
 wb .eql 3 x9 (.int .i64 9) fun x100=>
 wk x100 (
 cH 6 x4 L7 fun x101=>
 aF 1 x6 L7 fun x103=>
 aF 4 x6 L7 fun x105=>
 wc (.fn 51 []) [x101,x103,x105] L7 fun x106 L107=>
 Q x106 L107) (
 (jQ Q L7 x9 x4 x6))
def jS(Q:R)(L7:SH)(x9 x4 x6:AV):Prop:=
 wb .eql 3 x9 (.int .i64 7) fun x92=>
 wk x92 (
 cH 6 x4 L7 fun x93=>
 aF 2 x6 L7 fun x95=>
 aF 4 x6 L7 fun x97=>
 wc (.fn 51 []) [x93,x95,x97] L7 fun x98 L99=>
 Q x98 L99) (
 (jR Q L7 x9 x4 x6))
def jT(Q:R)(L7:SH)(x9 x6 x4:AV):Prop:=
 wb .eql 3 x9 (.int .i64 8) fun x51=>
 wk x51 (
 aF 1 x6 L7 fun x53=>
 aF 0 x4 L7 fun x55=>
 W.len x55 fun x56=>
 wc (.fn 28 []) [x53,x56] L7 (kj Q x4 x6)) (
 (jS Q L7 x9 x4 x6))
def fP(t0 t1:AV)(L:SH)(Q:R):Prop:=
 W.box t0 L fun x0 L1=>
 W.box t1 L1 fun x2 L3=>
 W.frz1 x0 L3 fun x4 L5=>
 W.frz1 x2 L5 fun x6 L7=>
 aF 0 x6 L7 fun x9=>
 wb .eql 3 x9 (.int .i64 6) fun x10=>
 wk x10 (
 aF 2 x6 L7 fun x12=>
 aF 0 x4 L7 fun x14=>
 W.len x14 fun x15=>
 wc (.fn 28 []) [x12,x15] L7 (ki Q x4 x6)) (
 (jT Q L7 x9 x6 x4))
theorem kG(t0 t1:AV)(L:SH)(Q:R)(h:fP t0 t1 L Q):al Tryz.prog 26 [t0,t1] L Q:=
 bg ⟨fun k=>if k=11 then some [2,3,6,59]else if k=16 then some [2,3,6,78]else if k=20 then some [2,3,6,98]else if k=23 then some [2,3,6,108]else none,fun _=>[],fun k=>if k=0 then [2,3]else [],fun _=>[]⟩ Tryz.func26 (by kernel_rfl) (by kernel_rfl) h
def mv(n1:Kn)(L28:SH)(x3 x4 x5:AV):Prop:=
 i8 6 0 x3 x4 L28 fun x32=>
 wb .eql 3 x32 (.int .i64 5) fun x33=>
 wk x33 (
 i8 6 1 x3 x4 L28 fun x36=>
 wb .add 3 x5 (.int .i64 1) fun x37=>
 n1 [x3,x36,x37] L28) (
 wb .add 3 x4 (.int .i64 1) fun x38=>
 wb .add 3 x5 (.int .i64 1) fun x39=>
 n1 [x3,x38,x39] L28)
def my(Q:R)(n1:Kn)(x3 x4 x5 x27:AV)(L28:SH):Prop:=
 W.un .not x27 fun x29=>
 wk x29 (
 Q (.bool true) L28) (
 (mv n1 L28 x3 x4 x5))
def mz(Q:R)(n1:Kn)(L2:SH)(x4 x3 x5:AV):Prop:=
 wb .lss 3 x4 (.int .i64 0) fun x8=>
 bN x8 false x4 L2 fun x9 L11=>
 bN x8 false x3 L11 fun x12 L14=>
 wg x8 false (W.len x12) L14 fun x15 L17=>
 wg x8 false (wb .geq 3 x9 x15) L17 fun x19 L21=>
 W.pick x8 (.bool true) x19 fun x23=>
 wk x23 (
 Q (.bool false) L21) (
 i8 6 0 x3 x4 L21 fun x26=>
 wc (.fn 52 []) [x26] L21 (my Q n1 x3 x4 x5))
def gH(Q:R)(v0:Vs)(L2:SH)(n1:Kn):Prop:=
 px 0 1 5 v0 fun x3 x4 x5=>
 W.len x3 fun x6=>
 wb .leq 3 x5 x6 fun x7=>
 wk x7 (
 (mz Q n1 L2 x4 x3 x5)) (
 Q (.bool false) L2)
def iR(t0 t1:AV)(L:SH)(Q:R):Prop:=
 W.loop (gH Q) [t0,t1,(.int .i64 0)] L
theorem mA(t0 t1:AV)(L:SH)(Q:R)(h:iR t0 t1 L Q):al Tryz.prog 27 [t0,t1] L Q:=
 bg ⟨fun _=>none,fun k=>if k=2 then [0,1,5]else [],fun _=>[],fun _=>[]⟩ Tryz.func27 (by kernel_rfl) (by kernel_rfl) h
def gI(Q:R)(n314:Kn)(L315:SH)(x322 x316 x317 x318 x319 x320 x321 x332:AV)(L334:SH)(q333:Ns):Prop:=
 wn [] q333 [] L315.names fun r335=>
 W.un .not x332 fun x336=>
 wk x336 (
 Q (.bool false) L334) (
 wb .add 3 x322 (.int .i64 1) fun x337=>
 n314 [x316,x317,x318,x319,x320,x321,x337] L334)
def gJ(Q:R)(n314:Kn)(L315:SH)(x321 x322 x318 x316 x317 x319 x320:AV):Prop:=
 (true=true)∧(
 di [] 2 1 x321 x322 L315 fun x325 r326=>
 dl [] 3 x325 L315 fun x327 r328=>
 s4 0 x318 [rm 3 r328,rm 2 r326] 5 L315 fun x330 r331=>
 wd [] 6 (.fn 28 []) [x327,x330] L315 (gI Q n314 L315 x322 x316 x317 x318 x319 x320 x321))
def bh(Q:R)(n36:Kn)(v313:Vs)(L315:SH)(n314:Kn):Prop:=
 w5 1 3 5 7 8 10 11 v313 fun x316 x317 x318 x319 x320 x321 x322=>
 W.len x321 fun x323=>
 wb .lss 3 x322 x323 fun x324=>
 wk x324 (
 (gJ Q n314 L315 x321 x322 x318 x316 x317 x319 x320)) (
 wb .add 3 x320 (.int .i64 1) fun x338=>
 n36 [x316,x317,x318,x319,x338] L315)
def gK(Q:R)(n36:Kn)(x38 x39 x40 x41 x42 x311:AV)(L312:SH):Prop:=
 W.loop (bh Q n36) [x38,x39,x40,x41,x42,x311,(.int .i64 0)] L312
def gL(Q:R)(n36:Kn)(L243:SH)(x51 x41 x38 x39 x40 x42:AV):Prop:=
 aF 0 x51 L243 fun x247=>
 wb .eql 3 x247 (.int .i64 5) fun x248=>
 wg x248 true (W.faddr 1 x51) L243 fun x249 L251=>
 wg x248 true (wl x249 L251) L251 fun x253 L255=>
 bN x248 true x41 L255 fun x257 L259=>
 W.grd x248 true (fun k261=>wc (.fn 28 []) [x253,x257] L259 fun x263 L264=>
 k261 x263 L264) L259 fun x260 L262=>
 wg x248 true (W.un .not x260) L262 fun x265 L267=>
 W.pick x248 x265 (.bool false) fun x269=>
 wg x269 false (W.faddr 0 x51) L267 fun x270 L272=>
 wg x269 false (wl x270 L272) L272 fun x274 L276=>
 wg x269 false (wb .eql 3 x274 (.int .i64 10)) L276 fun x278 L280=>
 bN x269 false x278 L280 fun x282 L284=>
 wg x282 true (W.faddr 2 x51) L284 fun x285 L287=>
 wg x282 true (wl x285 L287) L287 fun x289 L291=>
 bN x282 true x41 L291 fun x293 L295=>
 W.grd x282 true (fun k297=>wc (.fn 28 []) [x289,x293] L295 fun x299 L300=>
 k297 x299 L300) L295 fun x296 L298=>
 wg x282 true (W.un .not x296) L298 fun x301 L303=>
 wg x269 false (W.pick x282 x301 (.bool false)) L303 fun x305 L307=>
 W.pick x269 (.bool true) x305 fun x309=>
 wk x309 (
 Q (.bool false) L307) (
 cH 6 x51 L307 fun x310=>
 wc (.fn 29 []) [x310] L307 (gK Q n36 x38 x39 x40 x41 x42))
def gM(Q:R)(n36:Kn)(L136:SH)(x51 x39 x38 x41 x40 x42:AV):Prop:=
 aF 0 x51 L136 fun x140=>
 wb .eql 3 x140 (.int .i64 28) fun x141=>
 wg x141 true (W.faddr 5 x51) L136 fun x142 L144=>
 wg x141 true (wl x142 L144) L144 fun x146 L148=>
 wg x141 true (wb .neq 3 x146 (.int .i64 (-1))) L148 fun x150 L152=>
 W.pick x141 x150 (.bool false) fun x154=>
 wg x154 false (W.faddr 0 x51) L152 fun x155 L157=>
 wg x154 false (wl x155 L157) L157 fun x159 L161=>
 wg x154 false (wb .neq 3 x159 (.int .i64 28)) L161 fun x163 L165=>
 bN x154 false x163 L165 fun x167 L169=>
 wg x167 true (W.faddr 5 x51) L169 fun x170 L172=>
 wg x167 true (wl x170 L172) L172 fun x174 L176=>
 wg x167 true (W.faddr 5 x39) L176 fun x178 L180=>
 wg x167 true (wl x178 L180) L180 fun x182 L184=>
 wg x167 true (W.len x182) L184 fun x186 L188=>
 W.grd x167 true (fun k191=>wc (.fn 28 []) [x174,x186] L188 fun x193 L194=>
 k191 x193 L194) L188 fun x190 L192=>
 wg x167 true (W.un .not x190) L192 fun x195 L197=>
 bN x167 true x195 L197 fun x199 L201=>
 wg x199 false (W.faddr 5 x39) L201 fun x202 L204=>
 wg x199 false (wl x202 L204) L204 fun x206 L208=>
 wg x199 false (W.faddr 5 x51) L208 fun x210 L212=>
 wg x199 false (wl x210 L212) L212 fun x214 L216=>
 wg x199 false (W.idx 3 x206 x214 L216) L216 fun x218 L220=>
 wg x199 false (W.faddr 0 x218) L220 fun x222 L224=>
 wg x199 false (wl x222 L224) L224 fun x226 L228=>
 bN x199 false x38 L228 fun x230 L232=>
 wg x199 false (wb .neq 3 x226 x230) L232 fun x233 L235=>
 wg x167 true (W.pick x199 (.bool true) x233) L235 fun x237 L239=>
 wg x154 false (W.pick x167 x237 (.bool false)) L239 fun x241 L243=>
 W.pick x154 (.bool true) x241 fun x245=>
 wk x245 (
 Q (.bool false) L243) (
 (gL Q n36 L243 x51 x41 x38 x39 x40 x42))
def gN(Q:R)(n36:Kn)(L37:SH)(x40 x42 x41 x39 x38:AV):Prop:=
 aF 1 x40 L37 fun x45=>
 pT 6 x45 x42 L37 fun x47=>
 pU [(.int .i64 0),(.int .i64 0),(.int .i64 0),(.int .i64 0),(.int .i64 0),(.int .i64 0)] 6 x47 L37 fun x51 L52=>
 aF 0 x51 L52 fun x54=>
 wb .lss 3 x54 (.int .i64 1) fun x55=>
 wg x55 false (W.faddr 0 x51) L52 fun x56 L58=>
 wg x55 false (wl x56 L58) L58 fun x60 L62=>
 wg x55 false (wb .gtr 3 x60 (.int .i64 28)) L62 fun x64 L66=>
 W.pick x55 (.bool true) x64 fun x68=>
 wg x68 false (W.faddr 0 x51) L66 fun x69 L71=>
 wg x68 false (wl x69 L71) L71 fun x73 L75=>
 wg x68 false (wb .eql 3 x73 (.int .i64 28)) L75 fun x77 L79=>
 bN x68 false x42 L79 fun x81 L83=>
 bN x68 false x41 L83 fun x84 L86=>
 wg x68 false (wb .sub 3 x84 (.int .i64 1)) L86 fun x87 L89=>
 wg x68 false (wb .eql 3 x81 x87) L89 fun x91 L93=>
 wg x68 false (wb .neq 4 x77 x91) L93 fun x95 L97=>
 W.pick x68 (.bool true) x95 fun x99=>
 wg x99 false (cH 6 x39 L97) L97 fun x100 L102=>
 wg x99 false (cH 6 x51 L102) L102 fun x104 L106=>
 W.grd x99 false (fun k109=>wc (.fn 26 []) [x100,x104] L106 fun x111 L112=>
 k109 x111 L112) L106 fun x108 L110=>
 wg x99 false (W.un .not x108) L110 fun x113 L115=>
 W.pick x99 (.bool true) x113 fun x117=>
 wg x117 false (W.faddr 1 x40) L115 fun x118 L120=>
 wg x117 false (wl x118 L120) L120 fun x122 L124=>
 bN x117 false x42 L124 fun x126 L128=>
 W.grd x117 false (fun k130=>wc (.fn 27 []) [x122,x126] L128 fun x132 L133=>
 k130 x132 L133) L128 fun x129 L131=>
 wg x117 false (W.un .not x129) L131 fun x134 L136=>
 W.pick x117 (.bool true) x134 fun x138=>
 wk x138 (
 Q (.bool false) L136) (
 (gM Q n36 L136 x51 x39 x38 x41 x40 x42))
def da(Q:R)(v35:Vs)(L37:SH)(n36:Kn):Prop:=
 uh 1 3 5 7 8 v35 fun x38 x39 x40 x41 x42=>
 wb .lss 3 x42 x41 fun x43=>
 wk x43 (
 (gN Q n36 L37 x40 x42 x41 x39 x38)) (
 Q (.bool true) L37)
def dn(t0 t1 t2:AV)(L:SH)(Q:R):Prop:=
 W.box t0 L fun x0 L1=>
 W.box t2 L1 fun x2 L3=>
 W.frz1 x0 L3 fun x4 L5=>
 W.frz1 x2 L5 fun x6 L7=>
 aF 1 x6 L7 fun x9=>
 W.len x9 fun x10=>
 aF 0 x6 L7 fun x12=>
 wb .lss 3 x12 (.int .i64 0) fun x13=>
 wg x13 false (W.faddr 0 x6) L7 fun x14 L16=>
 wg x13 false (wl x14 L16) L16 fun x18 L20=>
 wg x13 false (wb .gtr 3 x18 (.int .i64 32)) L20 fun x22 L24=>
 W.pick x13 (.bool true) x22 fun x26=>
 bN x26 false x10 L24 fun x27 L29=>
 wg x26 false (wb .eql 3 x27 (.int .i64 0)) L29 fun x30 L32=>
 W.pick x26 (.bool true) x30 fun x34=>
 wk x34 (
 Q (.bool false) L32) (
 W.loop (da Q) [t1,x4,x6,x10,(.int .i64 0)] L32)
theorem gO(t0 t1 t2:AV)(L:SH)(Q:R)(h:dn t0 t1 t2 L Q):al Tryz.prog 13 [t0,t1,t2] L Q:=
 bg ⟨fun _=>none,fun k=>if k=16 then [1,3,5,7,8,10,11]else if k=5 then [1,3,5,7,8]else [],fun k=>if k=0 then [3,5]else if k=7 then [9]else [],fun k=>if k=18 then [0,0,3,7,0,16,63,127]else []⟩ Tryz.func13 (by kernel_rfl) (by kernel_rfl) h
def mB(Q:R)(n43:Kn)(L44:SH)(x46 x45 x61:AV)(L63:SH)(q62:Ns):Prop:=
 wn [] q62 [] L44.names fun r64=>
 W.un .not x61 fun x65=>
 wk x65 (
 Q (.bool false) L63) (
 wb .add 3 x46 (.int .i64 1) fun x66=>
 n43 [x45,x66] L63)
def mC(Q:R)(n43:Kn)(L44:SH)(x45 x46:AV):Prop:=
 (true=true)∧(
 W.faddr 0 x45 fun x51=>
 dr [] 1 6 x51 L44 fun x52 r53=>
 s4 6 x45 [rm 1 r53] 4 L44 fun x55 r56=>
 di [rm 1 r53] 6 2 x55 x46 L44 fun x57 r58=>
 dr [rm 1 r53] 7 2 x57 L44 fun x59 r60=>
 wd [] 8 (.fn 13 []) [x52,x46,x59] L44 (mB Q n43 L44 x46 x45))
def gP(Q:R)(v42:Vs)(L44:SH)(n43:Kn):Prop:=
 vQ 1 3 v42 fun x45 x46=>
 aF 6 x45 L44 fun x48=>
 W.len x48 fun x49=>
 wb .lss 3 x46 x49 fun x50=>
 wk x50 (
 (mC Q n43 L44 x45 x46)) (
 Q (.bool true) L44)
def mD(Q:R)(x2 x6:AV)(L7:SH):Prop:=
 W.un .not x6 fun x8=>
 wg x8 false (W.faddr 6 x2) L7 fun x9 L11=>
 wg x8 false (wl x9 L11) L11 fun x13 L15=>
 wg x8 false (W.len x13) L15 fun x17 L19=>
 wg x8 false (W.faddr 0 x2) L19 fun x21 L23=>
 wg x8 false (W.faddr 4 x21) L23 fun x25 L27=>
 wg x8 false (wl x25 L27) L27 fun x29 L31=>
 wg x8 false (W.len x29) L31 fun x33 L35=>
 wg x8 false (wb .neq 3 x17 x33) L35 fun x37 L39=>
 W.pick x8 (.bool true) x37 fun x41=>
 wk x41 (
 Q (.bool false) L39) (
 W.loop (gP Q) [x2,(.int .i64 0)] L39)
def iS(t0:AV)(L:SH)(Q:R):Prop:=
 pV t0 L fun x2 L3=>
 W.faddr 0 x2 fun x4=>
 cH 6 x4 L3 fun x5=>
 wc (.fn 12 []) [x5] L3 (mD Q x2)
theorem mE(t0:AV)(L:SH)(Q:R)(h:iS t0 L Q):al Tryz.prog 4 [t0] L Q:=
 bg ⟨fun _=>none,fun k=>if k=4 then [1,3]else [],fun k=>if k=0 then [1]else [],fun k=>if k=6 then [0,1,0,0,8,0,56,120,255,511]else []⟩ Tryz.func4 (by kernel_rfl) (by kernel_rfl) h
def gQ(t0:AV)(L:SH)(Q:R):Prop:=
 wb .geq 3 t0 (.int .i64 1) fun x0=>
 bN x0 true t0 L fun x1 L3=>
 wg x0 true (wb .leq 3 x1 (.int .i64 5)) L3 fun x4 L6=>
 W.pick x0 x4 (.bool false) fun x8=>
 Q x8 L6
theorem ll(t0:AV)(L:SH)(Q:R)(h:gQ t0 L Q):al Tryz.prog 52 [t0] L Q:=
 bg ⟨fun _=>none,fun _=>[],fun _=>[],fun _=>[]⟩ Tryz.func52 (by kernel_rfl) (by kernel_rfl) h
end Go.Proofs.YtelgfgfgghpjgaaGreatDoor.Am
end
