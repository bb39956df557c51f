/- part -/
import Derived.Test.YtfckbjehkbhkgaaGreatQwe
set_option linter.all false
set_option maxRecDepth 100000
set_option maxHeartbeats 0
namespace Go.Proofs.YtfckbjehkbhkgaaGreat.Am
section
section
variable {P:Program} {F:TypeId->Option (List TypeId)} {K:AV->Prop} {KL:AV->SH->Prop} {L:SH}
theorem Qz{p:Bool}{x y:AV}(hp:p=true)(h:K x):W.pick (.bool p) x y K:=by subst hp;rw[Wo];exact h
theorem QA{p:Bool}{x y:AV}(hp:p=false)(h:K y):W.pick (.bool p) x y K:=by subst hp;rw[Wp];exact h
theorem TA{p j:Bool}{A:(AV->SH->Prop)->Prop}(hp:p=j)(h:A KL):W.grd (.bool p) j A L KL:=⟨.inl ⟨by rw[hp],h⟩⟩
theorem TC{p j:Bool}{A:(AV->SH->Prop)->Prop}(hp:p=!j)(h:KL bY L):W.grd (.bool p) j A L KL:=⟨.inr ⟨.inl (by rw[hp]),h⟩⟩
theorem Ha{j:Bool}{A:(AV->SH->Prop)->Prop}(h:KL bY L):W.grd bY j A L KL:=⟨.inr ⟨.inr rfl,h⟩⟩
theorem Hb{p:Bool}{A:(AV->SH->Prop)->Prop}(j:p=true->A KL)(h2:p=false->KL bY L):W.grd (.bool p) true A L KL:=by rw[YE];exact⟨j,h2⟩
theorem Hd{p:Bool}{A:(AV->SH->Prop)->Prop}(j:p=false->A KL)(h2:p=true->KL bY L):W.grd (.bool p) false A L KL:=by rw[YF];exact⟨j,h2⟩
theorem QB{u:AV->SH->W.Fp->Prop}{p j:Bool}{A:(AV->SH->W.Fp->Prop)->Prop}(hp:p=j)(h:A u):W.dgrd (.bool p) j A L u:=⟨.inl ⟨by rw[hp],h⟩⟩
theorem QC{u:AV->SH->W.Fp->Prop}{p j:Bool}{A:(AV->SH->W.Fp->Prop)->Prop}(hp:p=!j)(h:u bY L ⟨[],[],[],L.names⟩):W.dgrd (.bool p) j A L u:=⟨.inr ⟨.inl (by rw[hp]),h⟩⟩
theorem QD{u:AV->SH->W.Fp->Prop}{j:Bool}{A:(AV->SH->W.Fp->Prop)->Prop}(h:u bY L ⟨[],[],[],L.names⟩):W.dgrd bY j A L u:=⟨.inr ⟨.inr rfl,h⟩⟩
theorem QE{j:AV->SH->W.Fp->Prop}{p:Bool}{A:(AV->SH->W.Fp->Prop)->Prop}(u:p=true->A j)(h2:p=false->j bY L ⟨[],[],[],L.names⟩):W.dgrd (.bool p) true A L j:=by rw[Wq];exact⟨u,h2⟩
theorem QF{j:AV->SH->W.Fp->Prop}{p:Bool}{A:(AV->SH->W.Fp->Prop)->Prop}(u:p=false->A j)(h2:p=true->j bY L ⟨[],[],[],L.names⟩):W.dgrd (.bool p) false A L j:=by rw[Wr];exact⟨u,h2⟩
theorem QG{p:Bool}{A B:Prop}(hp:p=true)(h:A):W.cond (.bool p) A B:=⟨.inl ⟨by rw[hp],h⟩⟩
theorem Jz{p:Bool}{A B:Prop}(hp:p=false)(h:B):W.cond (.bool p) A B:=⟨.inr ⟨by rw[hp],h⟩⟩
theorem QH{p:Bool}{A B:Prop}(j:p=true->A)(h2:p=false->B):W.cond (.bool p) A B:=by rw[Ws];exact⟨j,h2⟩
theorem QI{t:TypeId}{k:IntKind}{a b:Int}(h:K (.bool (decide (a<b)))):W.bin P F .lss t (.int k a) (.int k b) K:=by rw[YG];exact h
theorem VD{t:TypeId}{k:IntKind}{a b:Int}(h:K (.bool (decide (a<=b)))):W.bin P F .leq t (.int k a) (.int k b) K:=by rw[YH];exact h
theorem VE{t:TypeId}{k:IntKind}{a b:Int}(h:K (.bool (decide (b<a)))):W.bin P F .gtr t (.int k a) (.int k b) K:=by rw[YI];exact h
theorem VF{t:TypeId}{k:IntKind}{a b:Int}(h:K (.bool (decide (b<=a)))):W.bin P F .geq t (.int k a) (.int k b) K:=by rw[YJ];exact h
theorem VG{t:TypeId}{k:IntKind}{a b:Int}(h:K (.bool (decide (a=b)))):W.bin P F .eql t (.int k a) (.int k b) K:=by rw[YK];exact h
theorem VH{t:TypeId}{k:IntKind}{a b:Int}(h:K (.bool (decide (a≠b)))):W.bin P F .neq t (.int k a) (.int k b) K:=by rw[YL];exact h
theorem QJ{t:TypeId}{k:IntKind}{a b:Int}(h:K (.int k (k.wrap (a+b)))):W.bin P F .add t (.int k a) (.int k b) K:=by rw[YM];exact h
theorem QK{t:TypeId}{k:IntKind}{a b:Int}(h:K (.int k (k.wrap (a-b)))):W.bin P F .sub t (.int k a) (.int k b) K:=by rw[YN];exact h
theorem VI{t:TypeId}{k:IntKind}{a b:Int}(h:K (.int k (k.wrap (a*b)))):W.bin P F .mul t (.int k a) (.int k b) K:=by rw[YO];exact h
theorem YV{t:TypeId}{k:IntKind}{a b:Int}(j:b≠0)(h:K (.int k (k.wrap (a.tdiv b)))):W.bin P F .quo t (.int k a) (.int k b) K:=by rw[YP];exact⟨j,h⟩
theorem NE{t:TypeId}{k:IntKind}{a b:Int}(j:b≠0)(h:K (.int k (a.tmod b))):W.bin P F .rem t (.int k a) (.int k b) K:=by rw[YQ];exact⟨j,h⟩
theorem VJ{t:TypeId}{a b:List UInt8}(h:K (.bool (decide (a=b)))):W.bin P F .eql t (.str a) (.str b) K:=by rw[YR];exact h
theorem VK{t:TypeId}{a b:List UInt8}(h:K (.bool (decide (a≠b)))):W.bin P F .neq t (.str a) (.str b) K:=by rw[YS];exact h
theorem YW{b:Bool}(h:K (.bool !b)):W.un .not (.bool b) K:=by rw[Wt];exact h
theorem YX{k:IntKind}{n:Int}(h:K (.int k (k.wrap (0-n)))):W.un .neg (.int k n) K:=by rw[Wu];exact h
theorem Ww{k j:IntKind}{n:Int}(h:K (.int k (k.wrap n))):W.conv k (.int j n) K:=by rw[Wv];exact h
theorem xL{j b i o:Nat}(h:K (.ptr b i (o+j))):W.faddr j (.ptr b i o) K:=⟨h⟩
theorem xM{j:Nat}{rows:List (List AV)}{i o:Nat}(h:K (.pptr rows i (o+j))):W.faddr j (.pptr rows i o) K:=⟨h⟩
theorem JA{n:Nat}{rows:List (List AV)}{i j:Nat}{r:List AV}{v:AV}(u:rows[i]? =some r)(h2:r[j]? =some v)(h:K v):W.load false n (.pptr rows i j) L K:=⟨r,v,u,h2,h⟩
theorem dR{n b i j:Nat}{x:Blk}{r:List AV}{v:AV}(u:(b,x)∈L)(B:x.rows[i]? =some r)(h2:r[j]? =some v)(h:K v):W.load false n (.ptr b i j) L K:=⟨x,r,v,u,B,h2,h⟩
theorem TD{n:Nat}{rows:List (List AV)}{i:Nat}{r:List AV}(j:rows[i]? =some r)(h2:r.length=n)(h:K (.agg r)):W.load true n (.pptr rows i 0) L K:=
 ⟨r,.agg r,j,by simp[W0.rowLd,<-h2],h⟩
theorem TF{n b i:Nat}{x:Blk}{r:List AV}(j:(b,x)∈L)(u:x.rows[i]? =some r)(h2:r.length=n)(h:K (.agg r)):W.load true n (.ptr b i 0) L K:=
 ⟨x,r,.agg r,j,u,by simp[W0.rowLd,<-h2],h⟩
theorem QL{n:Nat}{rows:List (List AV)}{i j:Nat}{r cs:List AV}(B:rows[i]? =some r)(h2:j+n<=r.length)(u:(r.drop j).take n=cs)(h:K (.agg cs)):W.load true n (.pptr rows i j) L K:=
 ⟨r,.agg cs,B,by simp[W0.rowLd,h2,u],h⟩
theorem QM{n b i j:Nat}{x:Blk}{r cs:List AV}(u:(b,x)∈L)(D:x.rows[i]? =some r)(h2:j+n<=r.length)(B:(r.drop j).take n=cs)(h:K (.agg cs)):W.load true n (.ptr b i j) L K:=
 ⟨x,r,.agg cs,u,D,by simp[W0.rowLd,h2,B],h⟩
theorem bD{u:SH->Prop}{n b:Nat}{v:AV}{m:Nat}{r cs:List AV}{j:SH}(B:Bx b ⟨m,[r]⟩ ⟨m,[cs]⟩ L j)(h2:v.cells? =some cs)(D:cs.length=n)(h4:cs.all AV.one=true)(E:r.length=n)(h:u j):W.store n (.ptr b 0 0) v L u:=
 ⟨⟨m,[r]⟩,r,cs,j,rfl,h2,D,h4,acN,by
  have:aR r 0 cs=cs:=by unfold aR;rw[List.take_zero,abK,List.drop_of_length_le acN,aby]
  rw[this];exact B,h⟩
theorem He(r:List AV)(j:Nat)(v:AV)(h:j<r.length):aR r j [v]=r.set j v:=by unfold aR;rw[List.set_eq_take_append_cons_drop,if_pos h];simp
theorem qh{B:SH->Prop}{b i j:Nat}{v:AV}{x x':Blk}{r:List AV}{u:SH}(D:Bx b x x' L u)(M:x.rows[i]? =some r)(h2:v.cells? =some [v])(h4:v.one=true)(G:j<r.length)(E:x'=⟨x.size,x.rows.set i (r.set j v)⟩)(h:B u):W.store 1 (.ptr b i j) v L B:=
 ⟨x,r,[v],u,M,h2,rfl,by simp[h4],acN,by rw[He r j v G,<-E];exact D,h⟩
theorem JB{u:SH->Prop}{n b i:Nat}{v:AV}{x x':Blk}{r cs:List AV}{j:SH}(B:Bx b x x' L j)(G:x.rows[i]? =some r)(h2:v.cells? =some cs)(E:cs.length=n)(h4:cs.all AV.one=true)(M:r.length=n)(D:x'=⟨x.size,x.rows.set i cs⟩)(h:u j):W.store n (.ptr b i 0) v L u:=
 ⟨x,r,cs,j,G,h2,E,h4,acN,by
  have:aR r 0 cs=cs:=by unfold aR;rw[List.take_zero,abK,List.drop_of_length_le acN,aby]
  rw[this,<-D];exact B,h⟩
theorem TG{n:Nat}{rows:List (List AV)}{k:IntKind}{j:Nat}{r:List AV}(u:rows[j]? =some r)(h2:r.length=n)(h:K (.pptr rows j 0)):W.idx n (.lst rows) (.int k (j:Int)) L K:=
 ⟨k,j,r,rfl,Int.natCast_nonneg _,by simpa using u,h2,by simpa using h⟩
theorem NF{n:Nat}{rows:List (List AV)}{k:IntKind}{i:Int}{r:List AV}(u:0<=i)(j:rows[i.toNat]? =some r)(h2:r.length=n)(h:K (.pptr rows i.toNat 0)):W.idx n (.lst rows) (.int k i) L K:=⟨k,i,r,rfl,u,j,h2,h⟩
theorem Hf{n b j m:Nat}{k:IntKind}{i:Int}{y:Blk}(D:0<=i)(B:i.toNat<m)(u:(b,y)∈L)(h2:y.size=n)(h:K (.ptr b (j+i.toNat) 0)):W.idx n (.sl b j m) (.int k i) L K:=⟨k,i,y,rfl,D,B,u,h2,h⟩
theorem QN{n b m:Nat}{k:IntKind}{i:Nat}{y:Blk}(u:i<m)(j:(b,y)∈L)(h2:y.size=n)(h:K (.ptr b i 0)):W.idx n (.sl b 0 m) (.int k (i:Int)) L K:=⟨k,i,y,rfl,Int.natCast_nonneg _,by simpa using u,j,h2,by simpa using h⟩
theorem YY{i:Nat}{vs:List AV}{v:AV}(j:vs[i]? =some v)(h:K v):W.ext i (.tup vs) K:=⟨vs,v,rfl,j,h⟩
theorem NG{b i j:Nat}(h:K (.ptr b i j)):W.nilchk (.ptr b i j) K:=⟨h⟩
theorem TH{z:List AV}{ps:List (Nat×Nat×AV)}{cs:List AV}(j:W0.fillR z ps=some cs)(h:K (.agg cs)):W.build z ps K:=⟨cs,j,h⟩
theorem Hg{cs:List AV}(h:∀b,b∉L.names->KL (.ptr b 0 0) ((b,⟨cs.length,[cs]⟩)::L)):W.alloc cs L KL:=⟨h⟩
theorem lI{x:AV}{cs:List AV}(j:x.cells? =some cs)(h2:cs.all AV.one=true)(h:∀b,b∉L.names->KL (.ptr b 0 0) ((b,⟨cs.length,[cs]⟩)::L)):W.box x L KL:=⟨cs,j,h2,h⟩
theorem QO{n:Nat}{z:List AV}{len:Nat}{ps:List (Nat×AV)}{rows:List (List AV)}(j:len*n<=2^24)(h2:fK n (List.replicate len z) ps=some rows)(h:∀b,b∉L.names->KL (.sl b 0 len) ((b,⟨n,rows⟩)::L)):W.bslice n z len ps L KL:=⟨j,rows,h2,h⟩
theorem vF{n by_:Nat}{z:List AV}{k u:IntKind}{i j:Nat}(D:i<=j)(h2:j<=2^62)(B:j*by_<=2^48)(h:∀b,b∉L.names->KL (.sl b 0 i) ((b,⟨n,List.replicate i z⟩)::L)):W.mslice n by_ z (.int k (i:Int)) (.int u (j:Int)) L KL:=⟨k,u,i,j,rfl,rfl,D,h2,B,h⟩
theorem TJ{rows:List (List AV)}(h:K (.int .i64 (rows.length:Int))):W.len (.lst rows) K:=⟨_,rfl,h⟩
theorem TK{α:Type}{f:α->List AV}{l:List α}(h:K (.int .i64 (l.length:Int))):W.len (.lst (l.map f)) K:=⟨_,rfl,by rw[acl];exact h⟩
theorem AU{b i n:Nat}(h:K (.int .i64 (n:Int))):W.len (.sl b i n) K:=⟨_,rfl,h⟩
theorem NH(h:K (.int .i64 (0:Nat))):W.len .nils K:=⟨_,rfl,h⟩
theorem Wx{s:List UInt8}(h:K (.int .i64 (s.length:Int))):W.lenS (.str s) K:=⟨_,rfl,h⟩
theorem Hj{b i j:Nat}{x:Blk}{u:SH}(D:dF b x L u)(h2:0<x.size)(B:0<x.rows.length)(h:KL (.pptr x.rows i j) u):W.frz1 (.ptr b i j) L KL:=⟨x,u,D,h2,B,h⟩
theorem uq{j:W.Fp->Prop}{r:W.Fp}(h:j r):W.note r j:=by rw[Ty];exact h
theorem oD{us:List W.WR}{y:W.WR}{A:Prop}(j:∀x∈us,W.free x y)(h:A):W.calm us y A:=⟨j,h⟩
theorem aao{A:Prop}(h:A):(true=true)/\A:=⟨rfl,h⟩
theorem Wy{J:W.Kn}{B:W.Kn->Prop}(h:B J):W.join J B:=⟨h⟩
theorem TL{n by_:Nat}{x:AV}{m:List (List AV)}(u:W0.rowsR L n x m)(h2:2*m.length*by_<=2^48)(j:2*m.length<=2^62)(h4:(m.all λr=>r.all AV.one)=true)(B:m.length≠0)
  (h:∀b,b∉L.names->KL (.sl b 0 m.length) ((b,⟨n,m⟩)::L)):W.append n by_ .nils x L KL:=
 ⟨[],m,rfl,u,by simpa using h2,by simpa using j,h4,λe=>absurd e B,λ_=>h⟩
theorem lJ{n by_ j i k:Nat}{x:AV}{y:Blk}{l m:List (List AV)}{u:SH}(D:(j,y)∈L)(B:y.size=n)(E:i+k<=y.rows.length)(G:(y.rows.drop i).take k=l)(O:W0.rowsR L n x m)
  (h2:2*(l.length+m.length)*by_<=2^48) (N:2*(l.length+m.length)<=2^62) (h4:(m.all λr=>r.all AV.one)=true) (M:dF j y L u)
  (h:∀b,b∉L.names->KL (.sl b 0 (l.length+m.length)) ((b,⟨n,l++m⟩)::u)):W.append n by_ (.sl j i k) x L KL:=
 ⟨l,m,⟨y,D,B,E,G.symm⟩,O,h2,N,h4,y,u,M,h⟩
theorem Hk{n by_:Nat}{x:AV}{m:List (List AV)}(u:W0.rowsR L n x m)(h2:2*m.length*by_<=2^48)(j:2*m.length<=2^62)(h4:(m.all λr=>r.all AV.one)=true)(B:m.length≠0)
  (h:∀b,b∉L.names->KL (.sl b 0 m.length) ((b,⟨n,m⟩)::L)):W.append n by_ .emp x L KL:=
 ⟨[],m,rfl,u,by simpa using h2,by simpa using j,h4,λe=>absurd e B,λ_=>h⟩
theorem Hl(h:K (.int .i64 (0:Nat))):W.len .emp K:=⟨_,rfl,h⟩
theorem OU{B:SH->Prop}{n:Nat}{z:List AV}{b i k:Nat}{y u:Blk}{j:SH}(D:Bx b y u L j)(G:y.size=n)(h2:i+k<=y.rows.length)(E:u=⟨y.size,y.rows.take i++List.replicate k z++y.rows.drop (i+k)⟩)(h:B j):W.clear n z (.sl b i k) L B:=
 ⟨y,j,G,h2,E▸D,h⟩
theorem xN{n b i m:Nat}{j u:Option AV}{l h:Nat}{y:Blk}(N:cE j 0=some l)(h2:cE u m=some h)(E:l<=h)(M:h<=m)(D:(b,y)∈L)(B:y.size=n)(G:K (.sl b (i+l) (h-l))):W.slice n (.sl b i m) j u none L K:=
 ⟨m,l,h,m,rfl,N,h2,rfl,E,M,Fd _,⟨y,D,B⟩,G⟩
theorem ip{n:Nat}{rows:List (List AV)}{j u:Option AV}{l h:Nat}(M:cE j 0=some l)(h2:cE u rows.length=some h)(D:l<=h)(G:h<=rows.length)(B:∀r,rows.head? =some r->r.length=n)(E:K (.lst ((rows.drop l).take (h-l)))):W.slice n (.lst rows) j u none L K:=
 ⟨rows.length,l,h,rows.length,rfl,M,h2,rfl,D,G,Fd _,⟨rfl,B⟩,E⟩
theorem vG{α:Type}{f:α->List AV}{l:List α}{n:Nat}(h:∀x,(f x).length=n):W0.rowsR L n (.lst (l.map f)) (l.map f):=⟨rfl,λr j=>by
 cases l with
 |nil=>cases j
 |cons x l=>simp at j;rw[<-j];exact h x⟩
theorem j7{n b k:Nat}{x:Blk}(u:(b,x)∈L)(j:x.size=n)(B:k=x.rows.length):W0.rowsR L n (.sl b 0 k) x.rows:=⟨x,u,j,acN,by simp[B]⟩
end
end
abbrev bU:=List UInt8
structure NI where
 name:bU
 index:Int
 size:Int
 volatile:Bool
 init:Int
 deriving Inhabited,DecidableEq
structure NJ where
 name:bU
 rw:Bool
 deriving Inhabited,DecidableEq
structure NK where
 name:bU
 mutex:Int
 deriving Inhabited,DecidableEq
structure NL where
 thread:Int
 stmt:Int
 line:Int
 deriving Inhabited,DecidableEq
structure QP where
 cells:List NI
 locks:List NJ
 conds:List NK
 futures:List bU
 threads:List bU
 sites:List NL
 deriving Inhabited,DecidableEq
structure LockD where
 owner:Int
 readers:List Int
 deriving Inhabited,DecidableEq
structure ThrD where
 status:Int
 cond:Int
 atomic:Bool
 deriving Inhabited,DecidableEq
structure SyncD where
 locks:List LockD
 tx:Int
 done:List Bool
 threads:List ThrD
 deriving Inhabited,DecidableEq
def NI.enc(c:NI):List AV:=[.str c.name,.int .i64 c.index,.int .i64 c.size,.bool c.volatile,.int .i64 c.init]
def NJ.enc(c:NJ):List AV:=[.str c.name,.bool c.rw]
def NK.enc(c:NK):List AV:=[.str c.name,.int .i64 c.mutex]
def NL.enc(c:NL):List AV:=[.int .i64 c.thread,.int .i64 c.stmt,.int .i64 c.line]
def ay(s:bU):List AV:=[.str s]
def aa(n:Int):List AV:=[.int .i64 n]
def au(b:Bool):List AV:=[.bool b]
def LockD.enc(l:LockD):List AV:=[.int .i64 l.owner,.lst (l.readers.map aa)]
def ThrD.enc(t:ThrD):List AV:=[.int .i64 t.status,.int .i64 t.cond,.bool t.atomic]
def QP.enc(w:QP):List AV:=[.lst (w.cells.map NI.enc),.lst (w.locks.map NJ.enc),.lst (w.conds.map NK.enc),.lst (w.futures.map ay),.lst (w.threads.map ay),.lst (w.sites.map NL.enc)]
def SyncD.enc(s:SyncD):List AV:=[.lst (s.locks.map LockD.enc),.int .i64 s.tx,.lst (s.done.map au),.lst (s.threads.map ThrD.enc)]
def aj{α β:Type}{f:α->β}{l:List α}{i:Nat}(h:i<l.length):(l.map f)[i]? =some (f l[i]):=by simp[h]
def av{i n:Nat}(h:i<n)(j:n<2^62):IntKind.i64.wrap ((i:Int)+1)=((i+1:Nat):Int):=by rw[abg _ acN];omega
def aS{i n:Nat}(h:i<n):decide ((i:Int)<(n:Int))=true:=by simpa using h
def aW{i n:Nat}(h:n<=i):decide ((i:Int)<(n:Int))=false:=by simpa using h
def fR{vs j:List AV}{L L2:SH}(u:vs=j)(B:L=L2):ax vs L j L2:=by subst u;subst B;exact .refl _ _
def qi(n:Nat)(S:Nat->List AV×SH)(G:Nat->Prop){B:List AV->SH->W.Kn->Prop}{vs:List AV}{L:SH}(h0:G 0)(Z:vs=(S 0).1)(hL:L=(S 0).2)
  (h:∀i,i<=n->G i->B (S i).1 (S i).2 λu E=>∃j,i<j/\j<=n/\G j/\ax u E (S j).1 (S j).2):W.loop B vs L:=by
 refine⟨λk vs L=>∃i,i<=n/\G i/\k=n-i/\vs=(S i).1/\L=(S i).2,⟨n,_,_,.refl _ _,0,abt _,h0,rfl,Z,hL⟩,?_⟩;rintro k vs L ⟨i,hi,hG,rfl,rfl,rfl⟩;have e:(λu E=>∃m D Y,m<n-i/\ax u E D Y/\∃j,j<=n/\G j/\m=n-j/\D=(S j).1/\Y=(S j).2)=λu E=>∃j,i<j/\j<=n/\G j/\ax u E (S j).1 (S j).2:=by
  funext u E;apply propext;constructor
  .rintro⟨m,D,Y,h1,O,j,N,M,rfl,rfl,rfl⟩;exact⟨j,acN,N,M,O⟩
  .rintro⟨j,h1,O,N,M⟩;exact⟨n-j,_,_,acN,M,j,O,N,rfl,rfl,rfl⟩
 rw[e];exact h i hi hG
def inB(i:Int)(n:Nat):Bool:=decide (0<=i)&&decide (i<(n:Int))
def ao{i:Int}{n:Nat}:inB i n=true↔0<=i/\i<n:=by simp[inB]
def dY{i:Int}{n:Nat}(h:inB i n=true):0<=i:=(ao.1 h).1
def cq{α:Type}[Inhabited α]{f:α->List AV}{l:List α}{i:Int}(h:inB i l.length=true):(l.map f)[i.toNat]? =some (f (l.getD i.toNat default)):=by
 obtain⟨u,j⟩:=ao.1 h;have:i.toNat<l.length:=by omega
 simp[this]
def Fz.slm{α:Type}{K:SH}{b n size:Nat}{l:List α}{f g:α->List AV}{rows:List (List AV)}(Y:(b,⟨size,rows⟩)∈K)(O:rows=l.map f)(N:0<size)(S:n=l.length)(Z:∀y∈l,(f y).length=(g y).length)
  (hc:∀y∈l,∀(q:Nat) (a E:AV),(f y)[q]? =some a->(g y)[q]? =some E->Fz K a E):Fz K (.sl b 0 n) (.lst (l.map g)):=by
 subst O;subst S;cases l with
 |nil=>exact .sl0 b 0
 |cons x l=>
  have get:∀(j:Nat) (r B:List AV),((x::l).map f)[0+j]? =some r->((x::l).map g)[j]? =some B->∃y∈x::l,r=f y/\B=g y:=λj r B u D=>by
   rw[abI,abn]at u;rw[abn]at D;cases M:(x::l)[j]? with
   |none=>rw[M]at u;cases u
   |some y=>rw[M]at u D;cases u;cases D;exact⟨y,abN M,rfl,rfl⟩
  refine .sl b 0 _ ⟨size,(x::l).map f⟩ _ Y N acQ acQ acQ (λj r B u D=>?_) (λj r B q a E u D h3 h4=>?_)
  .obtain⟨y,G,rfl,rfl⟩:=get j r B u D;exact Z y G
  .obtain⟨y,G,rfl,rfl⟩:=get j r B u D;exact hc y G q a E h3 h4
def Fz.sls{α:Type}{K:SH}{b n size:Nat}{l:List α}{f:α->List AV}{rows:List (List AV)}(E:(b,⟨size,rows⟩)∈K)(B:rows=l.map f)(u:0<size)(D:n=l.length):Fz K (.sl b 0 n) (.lst (l.map f)):=
 Fz.slm E B u D (λ_ _=>rfl) λy _ q a M G j=>by rw[G]at j;cases j;exact .refl _
inductive fy (K:SH):List AV->List AV->Prop where
 |nil:fy K [] []
 |cons {a b:AV} {l m:List AV}:Fz K a b->fy K l m->fy K (a::l) (b::m)
def fy.at_{K:SH}{l m:List AV}(h:fy K l m):l.length=m.length/\∀(i:Nat) (a b:AV),l[i]? =some a->m[i]? =some b->Fz K a b:=by
 induction h with
 |nil=>exact⟨rfl,λi a b h=>by simp at h⟩
 |cons D E j=>
  refine⟨by simp[j.1],λi a b B u=>?_⟩
  match i with
  |0=>cases B;cases u;exact D
  |i+1=>exact j.2 i a b (by simpa using B) (by simpa using u)
def Fz.aggs{K:SH}{l m:List AV}(h:fy K l m):Fz K (.agg l) (.agg m):=.agg l m h.at_.1 h.at_.2
def Fz.tups{K:SH}{l m:List AV}(h:fy K l m):Fz K (.tup l) (.tup m):=.tup l m h.at_.1 h.at_.2
def ax.all{L:SH}{v v2:AV}(h:Fz L v v2):ax [v] L [v2] []:=.drop (K:=L) (R:=[]) acQ rfl λi a B j u=>by
 match i with
 |0=>cases j;cases u;exact h
 |i+1=>simp at j
def af:Option Nat->Nat->AV
 |none,_=>.emp
 |some b,n=>.sl b 0 n
def ab(o:Option Nat)(size:Nat)(rows:List (List AV)):SH:=match o with
 |none=>[]
 |some b=>[(b,⟨size,rows⟩)]
def dF.app{b:Nat}{x:Blk}{L j:SH}(h:dF b x L j):∀M:SH,dF b x (M++L) (M++j)
 |[]=>h
 |p::M=>.there p (h.app M)
def ax.forget{vs:List AV}{L K R:SH}(u:L.Perm (K++R)):ax vs L vs R:=.drop u rfl λi a D B j=>by rw[B]at j;cases j;exact .refl _
def ax.box{vs:List AV}{L K R:SH}{b n:Nat}{r D:List AV}(O:L.Perm (K++(b,⟨n,[r]⟩)::R))(E:fy K r D):ax vs L vs ((b,⟨n,[D]⟩)::R):=by
 refine⟨K,(b,⟨n,[r]⟩)::R,O,⟨rfl,λi a a2 B u=>by rw[B]at u;cases u;exact .refl _⟩,rfl,λi p q B u=>?_⟩
 match i with
 |0=>
  cases B;cases u;refine⟨rfl,rfl,rfl,λj s s2 N Z=>?_⟩
  match j with
  |0=>cases N;cases Z;exact⟨E.at_.1,E.at_.2⟩
  |j+1=>simp at N
 |i+1=>simp only[acj]at B u;rw[B]at u;cases u;exact⟨rfl,rfl,rfl,λj r r2 Y M=>by rw[Y]at M;cases M;exact⟨rfl,λk a a2 S G=>by rw[S]at G;cases G;exact .refl _⟩⟩
def Fz.slot{α:Type}{o:Option Nat}{size:Nat}{l:List α}{f g:α->List AV}{rows:List (List AV)}(j:rows=l.map f)(G:o=none->rows=[])(B:0<size)(D:∀y∈l,(f y).length=(g y).length)
  (E:∀y∈l,∀(q:Nat) (a u:AV),(f y)[q]? =some a->(g y)[q]? =some u->Fz (ab o size rows) a u):Fz (ab o size rows) (af o l.length) (.lst (l.map g)):=by
 cases o with
 |none=>
  have:=G rfl;subst j;have:l=[]:=by simpa using this
  subst this;exact .emp
 |some b=>exact Fz.slm (aag.2 rfl) j B rfl D E
def aL{β:Type}(n:Nat)(S:Nat->β->List AV×SH)(G:Nat->β->Prop){B:List AV->SH->W.Kn->Prop}{vs:List AV}{L:SH}(N:β)(h0:G 0 N)(hz:ax vs L (S 0 N).1 (S 0 N).2)
  (h:∀i o,i<=n->G i o->B (S i o).1 (S i o).2 λD M=>∃j u,i<j/\j<=n/\G j u/\ax D M (S j u).1 (S j u).2):W.loop B vs L:=by
 refine⟨λk vs L=>∃i o,i<=n/\G i o/\k=n-i/\vs=(S i o).1/\L=(S i o).2,⟨n,_,_,hz,0,N,abt _,h0,rfl,rfl,rfl⟩,?_⟩;rintro k vs L ⟨i,o,hi,hG,rfl,rfl,rfl⟩;have e:(λD M=>∃m E L2,m<n-i/\ax D M E L2/\∃j u,j<=n/\G j u/\m=n-j/\E=(S j u).1/\L2=(S j u).2)=λD M=>∃j u,i<j/\j<=n/\G j u/\ax D M (S j u).1 (S j u).2:=by
  funext D M;apply propext;constructor
  .rintro⟨m,E,L2,h1,Z,j,u,Y,O,rfl,rfl,rfl⟩;exact⟨j,u,acN,Y,O,Z⟩
  .rintro⟨j,u,h1,Z,Y,O⟩;exact⟨n-j,_,_,acN,O,j,u,Z,Y,rfl,rfl,rfl⟩
 rw[e];exact h i o hi hG
section
structure W.callM(P:Program)(g:FuncId)(args:List AV)(L:SH)(KL:AV->SH->Prop):Prop where
 h:ac P g args L KL
structure W.dcallM(P:Program)(us:List W.WR)(i:Nat)(g:FuncId)(args:List AV)(L:SH)(KN:AV->SH->List Nat->Prop):Prop where
 h:∃Kc R:SH,L.Perm (Kc++R)/\(∀x∈us,W.free x ⟨i,[],Kc.names,[],true,[]⟩)/\ac P g args Kc λv Kc'=>KN v (Kc'++R) Kc.names
section
variable {P:Program} {g:FuncId} {args:List AV} {L:SH} {KL:AV->SH->Prop} {KN:AV->SH->List Nat->Prop} {us:List W.WR} {i:Nat} {v:AV}
theorem LZ(h:W.callM P g args L KL):W.call P (.fn g []) args L KL:=by rw[Tx,aby];exact h.h
theorem jC(j:aq P g args v)(h:KL v L):W.callM P g args L KL:=⟨j.call h⟩
theorem NM(h:ac P g args L KL):W.callM P g args L KL:=⟨h⟩
theorem Hm{K R:SH}{R1:AV->SH->Prop}(h:ac P g args K R1)(B:L.Perm (K++R))(u:∀v j,R1 v j->KL v (j++R)):W.callM P g args L KL:=⟨h.frame B u⟩
theorem cQ{b:Nat}{x:Blk}{j:SH}{R1:AV->SH->Prop}(h:ac P g args [(b,x)] R1)(D:dF b x L j)(B:∀v u,R1 v u->KL v (u++j)):W.callM P g args L KL:=⟨h.frame D.perm B⟩
theorem BK{j b2:Nat}{x1 x2:Blk}{u L2:SH}(B:dF j x1 L u)(h2:dF b2 x2 u L2):L.Perm ([(j,x1),(b2,x2)]++L2):=B.perm.trans (h2.perm.cons _)
theorem JC{j b2:Nat}{x1 x2:Blk}{u L2:SH}{R1:AV->SH->Prop}(h:ac P g args [(j,x1),(b2,x2)] R1)(E:dF j x1 L u)(h2:dF b2 x2 u L2)(D:∀v B,R1 v B->KL v (B++L2)):W.callM P g args L KL:=⟨h.frame (BK E h2) D⟩
theorem ee{b:Nat}{x:Blk}{j:SH}{R1:AV->SH->Prop}(h:ac P g args [(b,x)] R1)(E:dF b x L j)(D:∀y∈us,W.free y ⟨i,[],[b],[],true,[]⟩)(B:∀v u,R1 v u->KN v (u++j) [b]):W.dcallM P us i g args L KN:=
 ⟨[(b,x)],j,E.perm,D,h.mono B⟩
theorem OV{j b2:Nat}{x1 x2:Blk}{u L2:SH}{R1:AV->SH->Prop}(h:ac P g args [(j,x1),(b2,x2)] R1)(G:dF j x1 L u)(h2:dF b2 x2 u L2)(E:∀y∈us,W.free y ⟨i,[],[j,b2],[],true,[]⟩)(D:∀v B,R1 v B->KN v (B++L2) [j,b2]):W.dcallM P us i g args L KN:=
 ⟨[(j,x1),(b2,x2)],L2,BK G h2,E,h.mono D⟩
theorem ax.keep1{v2:AV}{b:Nat}{x:Blk}{j:SH}(D:dF b x L j)(B:Fz j v v2):ax [v] L [v2] [(b,x)]:=by
 refine .drop (K:=j) (D.perm.trans (aar (l₁:=[(b,x)]))) rfl λi a G u E=>?_
 match i with
 |0=>cases u;cases E;exact B
 |i+1=>simp at u
theorem ax.keep2{v2:AV}{u b2:Nat}{x1 x2:Blk}{B L2:SH}(E:dF u x1 L B)(h2:dF b2 x2 B L2)(D:Fz L2 v v2):ax [v] L [v2] [(u,x1),(b2,x2)]:=by
 refine .drop (K:=L2) ((BK E h2).trans aar) rfl λi a M j G=>?_
 match i with
 |0=>cases j;cases G;exact D
 |i+1=>simp at j
theorem ac.nd{f:FuncId}{Q:AV->SH->Prop}(B:∃u c,P.funcs[f]? =some u/\u.body=some c)(h:L.names.Nodup->ac P f args L Q):ac P f args L Q:=⟨B,λH D j=>(h j.nd).2 H D j⟩
theorem ac.pre{f:FuncId}{args2:List AV}{L2:SH}{Q:AV->SH->Prop}(hz:ax args L args2 L2)(h:ac P f args2 L2 Q):ac P f args L Q:=⟨h.1,λH hb hs=>by
 obtain⟨H2,E,O,f3,f4⟩:=km hz hs hb;obtain⟨v,H',L',h1,h2,h3⟩:=h.2 H2 E.bd E.sub;refine⟨v,H',L',λw G M hW D=>?_,E.trans (h2.low (by rw[O];exact Fd _)) (Fd _),h3⟩;obtain⟨g1,N,g3⟩:=f3 w G hW;refine(h1 w G M g1 (g3 M D)).mono ?_;rintro e w' ⟨S,B,rfl,k1,k2,j,Z⟩;exact⟨S,B,rfl,k1,k2,⟨j.os,j.tape,j.output,j.size,λc u hT=>j.keep c u (λh=>hT (N c h)),j.shape,j.sig,j.eqfr,j.frame,λc u=>(j.own c u).imp (N c) id⟩,λc Y u=>by rw[<-O];exact Z c Y u⟩⟩
theorem ax.vals{vs j:List AV}(h:fy [] vs j):ax vs L j L:=.drop (K:=[]) (.refl _) h.at_.1 h.at_.2
theorem aN(k:FuncId)(h:W.callM P k args L KL):W.callM P k args L KL:=h
theorem cy(k:FuncId)(h:W.dcallM P us i k args L KN):W.dcallM P us i k args L KN:=h
theorem NN(h:W.dcallM P us i g args L KN):W.dcall P us i (.fn g []) args L KN:=by rw[Qy,aby];exact h.h
theorem TM(h:aq P g args v)(B:∀x∈us,W.free x ⟨i,[],[],[],true,[]⟩)(j:KN v L []):W.dcallM P us i g args L KN:=
 ⟨[],L,.refl _,B,ac.mono h λu K ⟨E,D⟩=>by subst E;subst D;exact j⟩
end
theorem TN{n:Nat}{a:AV}{L:SH}{K:AV->Prop}(h:W.load false n a L K):W.load false n a L K:=h
theorem TO{j:Nat}{x:AV}{K:AV->Prop}(h:W.faddr j x K):W.faddr j x K:=h
theorem YZ{n:Nat}{x j:AV}{L:SH}{K:AV->Prop}(h:W.idx n x j L K):W.idx n x j L K:=h
theorem Y0{x:AV}{K:AV->Prop}(h:W.len x K):W.len x K:=h
theorem Y1{i:Nat}{x:AV}{K:AV->Prop}(h:W.ext i x K):W.ext i x K:=h
theorem BL{us:List W.WR}{y:W.WR}{A:Prop}(h:W.calm us y A):W.calm us y A:=h
theorem Wz{r:W.Fp}{K:W.Fp->Prop}(h:W.note r K):W.note r K:=h
theorem WA{c x y:AV}{K:AV->Prop}(h:W.pick c x y K):W.pick c x y K:=h
theorem VL{x:AV}{j:Bool}{A:(AV->SH->Prop)->Prop}{L:SH}{K:AV->SH->Prop}(h:W.grd x j A L K):W.grd x j A L K:=h
theorem QQ{x:AV}{j:Bool}{A:(AV->SH->W.Fp->Prop)->Prop}{L:SH}{K:AV->SH->W.Fp->Prop}(h:W.dgrd x j A L K):W.dgrd x j A L K:=h
theorem aap{op:UnOp}{x:AV}{K:AV->Prop}(h:W.un op x K):W.un op x K:=h
theorem VM{x:AV}{L:SH}{K:AV->SH->Prop}(h:W.box x L K):W.box x L K:=h
theorem WB{v:AV}{L:SH}{K:AV->SH->Prop}(h:W.frz1 v L K):W.frz1 v L K:=h
theorem TP{n:Nat}{a v:AV}{L:SH}{K:SH->Prop}(h:W.store n a v L K):W.store n a v L K:=h
theorem JD{n:Nat}{z:List AV}{len:Nat}{ps:List (Nat×AV)}{L:SH}{K:AV->SH->Prop}(h:W.bslice n z len ps L K):W.bslice n z len ps L K:=h
theorem JE{n by_:Nat}{z:List AV}{l c:AV}{L:SH}{K:AV->SH->Prop}(h:W.mslice n by_ z l c L K):W.mslice n by_ z l c L K:=h
theorem QR{x:AV}{K:AV->Prop}(h:W.nilchk x K):W.nilchk x K:=h
end
section
section
variable {P:Program} {g:FuncId} {args:List AV} {L:SH} {KL:AV->SH->Prop}
theorem Fr.permS{B:Nat}{E L'':SH}{H H':ah}(h:Fr B L H E H')(hp:E.Perm L''):Fr B L H L'' H':=
 ⟨h.next,h.bd,h.sub.perm hp,λb x D u=>⟨(h.keep b x D u).1,λG=>(h.keep b x D u).2 ((hp.map Prod.fst).mem_iff.2 G)⟩,h.dom,λb M j=>h.fresh b ((hp.map Prod.fst).mem_iff.2 M) j⟩
theorem vH{R1:AV->SH->Prop}(h:ac P g args [] R1)(E:∀v B,R1 v B->∃j:SH,(B++L).Perm j/\(j.names.Nodup->KL v j)):W.callM P g args L KL:=by refine⟨⟨h.1,λH G D=>?_⟩⟩;obtain⟨v,Y,j,O,N,L'',hp,M⟩:=(h.frame (K:=[]) (R:=L) (R2:=λv S=>∃j:SH,S.Perm j/\(j.names.Nodup->KL v j)) (.refl _) E).2 H G D;have u:=N.permS hp;exact⟨v,Y,L'',O,u,M u.sub.nd⟩
theorem JF(M:SH){o:Option Nat}{i n by_ j:Nat}{R:SH}{rows m:List (List AV)}{k:Nat}(B:rows.length=i)(N:o=none->rows=[])(G:k=m.length)(S:0<m.length)(h2:2*(i+m.length)*by_<=2^48)(E:2*(i+m.length)<=2^62)(h4:(m.all λr=>r.all AV.one)=true)
  (h:∀b,(∀p∈M,b≠p.1)->KL (.sl b 0 (i+m.length)) ((b,⟨n,rows++m⟩)::(j,⟨n,m⟩)::(M++R))):W.append n by_ (af o i) (.sl j 0 k) ((j,⟨n,m⟩)::(M++(ab o n rows++R))) KL:=by
 subst G;cases o with
 |none=>
  have u:=N rfl;subst u;simp only[abq]at B;subst B;have:=Hk (KL:=KL) (L:=(j,⟨n,m⟩)::(M++R)) (by_:=by_) (j7 (.head _) rfl rfl) (by simpa using h2) (by simpa using E) h4 (by show m.length≠0;omega) (λb D=>by
   have:=h b λp hp e=>D (by rw[e];exact abE (acb _ (abR _ hp)))
   simpa using this)
  exact this
 |some b=>subst B;exact lJ (y:=⟨n,rows⟩) (l:=rows) (by simp[ab]) rfl acQ acQ (j7 (.head _) rfl rfl) h2 E h4 (.there _ (dF.app (.here R) M)) (λO D=>h O λp hp e=>D (by rw[e];exact abE (acb _ (abR _ hp))))
end
end
section
section
variable {P:Program} {F:TypeId->Option (List TypeId)} {K:AV->Prop} {KL:AV->SH->Prop} {L:SH}
theorem JG{n:Nat}{rows:List (List AV)}{i j:Nat}{r:List AV}{v:AV}(h:K v)(u:rows[i]? =some r:=by first|assumption|rfl)(h2:r[j]? =some v:=by rfl):W.load false n (.pptr rows i j) L K:=JA u h2 h
theorem QT{α:Type}[Inhabited α]{f:α->List AV}{l:List α}{n:Nat}{i:Int}{j:Nat}{v:AV}(h:K v)(u:inB i l.length=true:=by assumption)(h2:(f (l.getD i.toNat default))[j]? =some v:=by rfl):W.load false n (.pptr (l.map f) i.toNat j) L K:=JA (cq u) h2 h
theorem JH{n b i j:Nat}{x:Blk}{r:List AV}{v:AV}(h:K v)(u:(b,x)∈L:=by repeat constructor)(B:x.rows[i]? =some r:=by first|assumption|rfl)(h2:r[j]? =some v:=by rfl):W.load false n (.ptr b i j) L K:=dR u B h2 h
theorem AW{n:Nat}{rows:List (List AV)}{i:Nat}{r:List AV}(h:K (.agg r))(j:rows[i]? =some r:=by first|assumption|rfl)(h2:r.length=n:=by rfl):W.load true n (.pptr rows i 0) L K:=TD j h2 h
theorem NO{n b i:Nat}{x:Blk}{r:List AV}(h:K (.agg r))(j:(b,x)∈L:=by repeat constructor)(u:x.rows[i]? =some r:=by first|assumption|rfl)(h2:r.length=n:=by rfl):W.load true n (.ptr b i 0) L K:=TF j u h2 h
theorem VN{t:TypeId}{k:IntKind}{a b:Int}(h:K (.int k (a.tmod b)))(j:b≠0:=by first|assumption|decide|omega|exact of_decide_eq_false acO):W.bin P F .rem t (.int k a) (.int k b) K:=NE j h
theorem VO{t:TypeId}{k:IntKind}{a b:Int}(h:K (.int k (k.wrap (a.tdiv b))))(j:b≠0:=by first|assumption|decide|omega|exact of_decide_eq_false acO):W.bin P F .quo t (.int k a) (.int k b) K:=YV j h
theorem JI{p:Bool}{A B:Prop}(h:A)(hp:p=true:=by first|assumption|rfl):W.cond (.bool p) A B:=QG hp h
theorem JK{p:Bool}{A B:Prop}(h:B)(hp:p=false:=by first|assumption|rfl):W.cond (.bool p) A B:=Jz hp h
theorem vJ{n:Nat}{rows:List (List AV)}{k:IntKind}{j:Nat}{r:List AV}(h:K (.pptr rows j 0))(u:rows[j]? =some r:=by first|assumption|rfl)(h2:r.length=n:=by rfl):W.idx n (.lst rows) (.int k (j:Int)) L K:=TG u h2 h
theorem TQ{n:Nat}{rows:List (List AV)}{k:IntKind}{i:Int}{r:List AV}(h:K (.pptr rows i.toNat 0))(u:0<=i:=by first|decide|omega)(j:rows[i.toNat]? =some r:=by first|assumption|rfl)(h2:r.length=n:=by rfl):W.idx n (.lst rows) (.int k i) L K:=NF u j h2 h
theorem TR{α:Type}[Inhabited α]{f:α->List AV}{l:List α}{n:Nat}{k:IntKind}{i:Int}(h:K (.pptr (l.map f) i.toNat 0))(j:inB i l.length=true:=by assumption)(h2:(f (l.getD i.toNat default)).length=n:=by rfl):W.idx n (.lst (l.map f)) (.int k i) L K:=NF (dY j) (cq j) h2 h
theorem cN{n b m:Nat}{k:IntKind}{i:Nat}{y:Blk}(h:K (.ptr b i 0))(u:i<m:=by first|assumption|omega)(j:(b,y)∈L:=by repeat constructor)(h2:y.size=n:=by rfl):W.idx n (.sl b 0 m) (.int k (i:Int)) L K:=QN u j h2 h
theorem TS{n b j m:Nat}{k:IntKind}{i:Int}{y:Blk}(h:K (.ptr b (j+i.toNat) 0))(D:0<=i:=by first|decide|omega)(B:i.toNat<m:=by first|assumption|omega)(u:(b,y)∈L:=by repeat constructor)(h2:y.size=n:=by rfl):W.idx n (.sl b j m) (.int k i) L K:=Hf D B u h2 h
theorem Y2{i:Nat}{vs:List AV}{v:AV}(h:K v)(j:vs[i]? =some v:=by rfl):W.ext i (.tup vs) K:=YY j h
theorem QU{p:Bool}{x y:AV}(h:K x)(hp:p=true:=by first|assumption|rfl):W.pick (.bool p) x y K:=Qz hp h
theorem QV{p:Bool}{x y:AV}(h:K y)(hp:p=false:=by first|assumption|rfl):W.pick (.bool p) x y K:=QA hp h
theorem Hq{p j:Bool}{A:(AV->SH->Prop)->Prop}(h:A KL)(hp:p=j:=by first|assumption|rfl):W.grd (.bool p) j A L KL:=TA hp h
theorem Hr{p j:Bool}{A:(AV->SH->Prop)->Prop}(h:KL bY L)(hp:p=!j:=by first|assumption|rfl):W.grd (.bool p) j A L KL:=TC hp h
theorem QW{u:AV->SH->W.Fp->Prop}{p j:Bool}{A:(AV->SH->W.Fp->Prop)->Prop}(h:A u)(hp:p=j:=by first|assumption|rfl):W.dgrd (.bool p) j A L u:=QB hp h
theorem QX{u:AV->SH->W.Fp->Prop}{p j:Bool}{A:(AV->SH->W.Fp->Prop)->Prop}(h:u bY L ⟨[],[],[],L.names⟩)(hp:p=!j:=by first|assumption|rfl):W.dgrd (.bool p) j A L u:=QC hp h
theorem TT{b i j:Nat}{x:Blk}{u:SH}(h:KL (.pptr x.rows i j) u)(D:dF b x L u:=by repeat constructor)(h2:0<x.size:=by first|exact aaq _|decide|simp)(B:0<x.rows.length:=by first|exact aaq _|decide|simp):W.frz1 (.ptr b i j) L KL:=Hj D h2 B h
theorem JL{u:SH->Prop}{n b:Nat}{v:AV}{m:Nat}{r cs:List AV}{j:SH}(h:u j)(B:Bx b ⟨m,[r]⟩ ⟨m,[cs]⟩ L j:=by repeat constructor)(h2:v.cells? =some cs:=by rfl)(E:cs.length=n:=by rfl)(h4:cs.all AV.one=true:=by rfl)(D:r.length=n:=by rfl):W.store n (.ptr b 0 0) v L u:=bD B h2 E h4 D h
theorem zu{B:SH->Prop}{b i j:Nat}{v:AV}{x:Blk}{r:List AV}{u:SH}(h:B u)(D:Bx b x ⟨x.size,x.rows.set i (r.set j v)⟩ L u:=by repeat constructor)(G:x.rows[i]? =some r:=by first|assumption|rfl)(h2:v.cells? =some [v]:=by rfl)(h4:v.one=true:=by rfl)(E:j<r.length:=by first|decide|exact Nat.lt_of_sub_pos (aaq _)|simp|omega):W.store 1 (.ptr b i j) v L B:=qh D G h2 h4 E rfl h
theorem JM{u:SH->Prop}{n b i:Nat}{v:AV}{x:Blk}{r cs:List AV}{j:SH}(h:u j)(B:Bx b x ⟨x.size,x.rows.set i cs⟩ L j:=by repeat constructor)(G:x.rows[i]? =some r:=by first|assumption|rfl)(h2:v.cells? =some cs:=by rfl)(E:cs.length=n:=by rfl)(h4:cs.all AV.one=true:=by rfl)(D:r.length=n:=by rfl):W.store n (.ptr b i 0) v L u:=JB B G h2 E h4 D rfl h
theorem JN{n by_:Nat}{z:List AV}{k u:IntKind}{i j:Nat}(h:∀b,b∉L.names->KL (.sl b 0 i) ((b,⟨n,List.replicate i z⟩)::L))(D:i<=j:=by omega)(h2:j<=2^62:=by omega)(B:j*by_<=2^48:=by omega):W.mslice n by_ z (.int k (i:Int)) (.int u (j:Int)) L KL:=vF D h2 B h
theorem JO{n:Nat}{z:List AV}{len:Nat}{ps:List (Nat×AV)}{rows:List (List AV)}(h:∀b,b∉L.names->KL (.sl b 0 len) ((b,⟨n,rows⟩)::L))(j:len*n<=2^24:=by decide)(h2:fK n (List.replicate len z) ps=some rows:=by rfl):W.bslice n z len ps L KL:=QO j h2 h
theorem VP{x:AV}{cs:List AV}(h:∀b,b∉L.names->KL (.ptr b 0 0) ((b,⟨cs.length,[cs]⟩)::L))(j:x.cells? =some cs:=by rfl)(h2:cs.all AV.one=true:=by rfl):W.box x L KL:=lI j h2 h
theorem TU{z:List AV}{ps:List (Nat×Nat×AV)}{cs:List AV}(h:K (.agg cs))(j:W0.fillR z ps=some cs:=by rfl):W.build z ps K:=TH j h
end
end
abbrev AV.acU(x:Int):AV:=.int .i64 x
abbrev R:=AV->SH->Prop
abbrev Vs:=List AV
abbrev Kn:=W.Kn
abbrev Fp:=W.Fp
abbrev Ns:=List Nat
def rz:Fp:=⟨[],[],[],[]⟩
def rm(i:Nat)(r:Fp):W.WR:=⟨i,r.reads,r.writes,r.made,false,r.old⟩
def rc(i:Nat)(r:Fp):W.WR:=⟨i,r.reads,r.writes,r.made,true,r.old⟩
@[irreducible] def wl (x:AV) (L:SH) (K:AV->Prop):Prop:=W.load false 1 x L K
@[irreducible] def WC (n:Nat) (x:AV) (L:SH) (K:AV->Prop):Prop:=W.load true n x L K
@[irreducible] def Qi (o:Nat) (x:AV) (L:SH) (K:AV->Prop):Prop:=W.faddr o x λa=>wl a L K
@[irreducible] def OW (o:Nat) (x:AV) (L:SH) (K:AV->Prop):Prop:=W.nilchk x λa=>Qi o a L K
@[irreducible] def Yo (n:Nat) (x i:AV) (L:SH) (K:AV->Prop):Prop:=W.idx n x i L λa=>wl a L K
@[irreducible] def Yp (n:Nat) (x i:AV) (L:SH) (K:AV->Prop):Prop:=W.idx n x i L λa=>WC n a L K
@[irreducible] def OX (n o:Nat) (x i:AV) (L:SH) (K:AV->Prop):Prop:=W.idx n x i L λa=>Qi o a L K
@[irreducible] def wb (op:BinOp) (t:TypeId) (x y:AV) (K:AV->Prop):Prop:=W.bin Tryz.prog Fl op t x y K
@[irreducible] def wk (x:AV) (A B:Prop):Prop:=W.cond x A B
@[irreducible] def wg (x:AV) (w:Bool) (A:(AV->Prop)->Prop) (L:SH) (K:R):Prop:=W.grd x w (λk=>A λv=>k v L) L K
@[irreducible] def wgm (x:AV) (w:Bool) (y:AV) (L:SH) (K:R):Prop:=W.grd x w (λk=>k y L) L K
@[irreducible] def wc (f:AV) (args:List AV) (L:SH) (K:R):Prop:=W.call Tryz.prog f args L K
@[irreducible] def wd (us:List W.WR) (i:Nat) (f:AV) (args:List AV) (L:SH) (K:AV->SH->Ns->Prop):Prop:=W.dcall Tryz.prog us i f args L K
@[irreducible] def wn (a b c d:Ns) (K:Fp->Prop):Prop:=W.note ⟨a,b,c,d⟩ K
@[irreducible] def dl (us:List W.WR) (i:Nat) (x:AV) (L:SH) (K:AV->Fp->Prop):Prop:=W.calm us ⟨i,ai x,[],[],false,[]⟩ (wl x L λv=>W.note ⟨ai x,[],[],[]⟩ λr=>K v r)
@[irreducible] def dr (us:List W.WR) (i n:Nat) (x:AV) (L:SH) (K:AV->Fp->Prop):Prop:=W.calm us ⟨i,ai x,[],[],false,[]⟩ (WC n x L λv=>W.note ⟨ai x,[],[],[]⟩ λr=>K v r)
@[irreducible] def Yq (o:Nat) (x:AV) (us:List W.WR) (i:Nat) (L:SH) (K:AV->Fp->Prop):Prop:=W.faddr o x λa=>dl us i a L K
@[irreducible] def di (us:List W.WR) (i n:Nat) (x ix:AV) (L:SH) (K:AV->Fp->Prop):Prop:=W.calm us ⟨i,dV x,[],[],false,[]⟩ (W.idx n x ix L λv=>W.note ⟨dV x,[],[],[]⟩ λr=>K v r)
@[irreducible] def ds (us:List W.WR) (i n:Nat) (x y:AV) (L:SH) (K:SH->Fp->Prop):Prop:=W.calm us ⟨i,ai x,ai x,[],false,[]⟩ (W.store n x y L λL=>W.note ⟨ai x,ai x,[],[]⟩ λr=>K L r)
@[irreducible] def wcp (z:List AV) (n:Nat) (y:AV) (L:SH) (K:R):Prop:=W.alloc z L λx L1=>W.store n x y L1 λL2=>W.frz1 x L2 K
@[irreducible] def wbx (y:AV) (L:SH) (K:R):Prop:=W.box y L λx L1=>W.frz1 x L1 K
def WE{x:AV}{L:SH}{K:AV->Prop}(j:W.load false 1 x L K):wl x L K:=by unfold wl;exact j
def QY{n:Nat}{x:AV}{L:SH}{K:AV->Prop}(j:W.load true n x L K):WC n x L K:=by unfold WC;exact j
def QZ{o:Nat}{x:AV}{L:SH}{K:AV->Prop}(j:W.faddr o x λa=>wl a L K):Qi o x L K:=by unfold Qi;exact j
def Q0{o:Nat}{x:AV}{L:SH}{K:AV->Prop}(j:W.nilchk x λa=>Qi o a L K):OW o x L K:=by unfold OW;exact j
def VQ{n:Nat}{x i:AV}{L:SH}{K:AV->Prop}(j:W.idx n x i L λa=>wl a L K):Yo n x i L K:=by unfold Yo;exact j
def VR{n:Nat}{x i:AV}{L:SH}{K:AV->Prop}(j:W.idx n x i L λa=>WC n a L K):Yp n x i L K:=by unfold Yp;exact j
def Q3{n o:Nat}{x i:AV}{L:SH}{K:AV->Prop}(j:W.idx n x i L λa=>Qi o a L K):OX n o x i L K:=by unfold OX;exact j
def kH{op:BinOp}{t:TypeId}{x y:AV}{K:AV->Prop}(j:W.bin Tryz.prog Fl op t x y K):wb op t x y K:=by unfold wb;exact j
def WF{x:AV}{A B:Prop}(j:W.cond x A B):wk x A B:=by unfold wk;exact j
def Y3{x:AV}{w:Bool}{A:(AV->Prop)->Prop}{L:SH}{K:R}(j:W.grd x w (λk=>A λv=>k v L) L K):wg x w A L K:=by unfold wg;exact j
def VS{x:AV}{w:Bool}{y:AV}{L:SH}{K:R}(j:W.grd x w (λk=>k y L) L K):wgm x w y L K:=by unfold wgm;exact j
def Q4{f:AV}{args:List AV}{L:SH}{K:R}(j:W.call Tryz.prog f args L K):wc f args L K:=by unfold wc;exact j
def aat{us:List W.WR}{i:Nat}{f:AV}{args:List AV}{L:SH}{K:AV->SH->Ns->Prop}(j:W.dcall Tryz.prog us i f args L K):wd us i f args L K:=by unfold wd;exact j
def aau{a b c d:Ns}{K:Fp->Prop}(j:W.note ⟨a,b,c,d⟩ K):wn a b c d K:=by unfold wn;exact j
def Y4{us:List W.WR}{i:Nat}{x:AV}{L:SH}{K:AV->Fp->Prop}(j:W.calm us ⟨i,ai x,[],[],false,[]⟩ (wl x L λv=>W.note ⟨ai x,[],[],[]⟩ λr=>K v r)):dl us i x L K:=by unfold dl;exact j
def Y5{us:List W.WR}{i n:Nat}{x:AV}{L:SH}{K:AV->Fp->Prop}(j:W.calm us ⟨i,ai x,[],[],false,[]⟩ (WC n x L λv=>W.note ⟨ai x,[],[],[]⟩ λr=>K v r)):dr us i n x L K:=by unfold dr;exact j
def VT{o:Nat}{x:AV}{us:List W.WR}{i:Nat}{L:SH}{K:AV->Fp->Prop}(j:W.faddr o x λa=>dl us i a L K):Yq o x us i L K:=by unfold Yq;exact j
def WG{us:List W.WR}{i n:Nat}{x j:AV}{L:SH}{K:AV->Fp->Prop}(u:W.calm us ⟨i,dV x,[],[],false,[]⟩ (W.idx n x j L λv=>W.note ⟨dV x,[],[],[]⟩ λr=>K v r)):di us i n x j L K:=by unfold di;exact u
def Y6{us:List W.WR}{i n:Nat}{x y:AV}{L:SH}{K:SH->Fp->Prop}(j:W.calm us ⟨i,ai x,ai x,[],false,[]⟩ (W.store n x y L λL=>W.note ⟨ai x,ai x,[],[]⟩ λr=>K L r)):ds us i n x y L K:=by unfold ds;exact j
def TV{rows:List (List AV)}{i j:Nat}{r:List AV}{v:AV}{L:SH}{K:AV->Prop}(k:K v)(u:rows[i]? =some r:=by first|assumption|rfl)(h2:r[j]? =some v:=by rfl):wl (.pptr rows i j) L K:=WE (JG k u h2)
def Y7{b i j:Nat}{x:Blk}{r:List AV}{v:AV}{L:SH}{K:AV->Prop}(k:K v)(u:(b,x)∈L:=by repeat constructor)(B:x.rows[i]? =some r:=by first|assumption|rfl)(h2:r[j]? =some v:=by rfl):wl (.ptr b i j) L K:=WE (JH k u B h2)
def VU{o:Nat}{rows:List (List AV)}{i j:Nat}{r:List AV}{v:AV}{L:SH}{K:AV->Prop}(k:K v)(u:rows[i]? =some r:=by first|assumption|rfl)(h2:r[j+o]? =some v:=by rfl):Qi o (.pptr rows i j) L K:=QZ (xM (TV k u h2))
def VV{o b i j:Nat}{x:Blk}{r:List AV}{v:AV}{L:SH}{K:AV->Prop}(k:K v)(u:(b,x)∈L:=by repeat constructor)(B:x.rows[i]? =some r:=by first|assumption|rfl)(h2:r[j+o]? =some v:=by rfl):Qi o (.ptr b i j) L K:=QZ (xL (Y7 k u B h2))
def WH{o b i j:Nat}{x:Blk}{r:List AV}{v:AV}{L:SH}{K:AV->Prop}(k:K v)(u:(b,x)∈L:=by repeat constructor)(B:x.rows[i]? =some r:=by first|assumption|rfl)(h2:r[j+o]? =some v:=by rfl):OW o (.ptr b i j) L K:=Q0 (NG (VV k u B h2))
def Y8{n:Nat}{rows:List (List AV)}{kd:IntKind}{j:Nat}{r:List AV}{v:AV}{L:SH}{K:AV->Prop}(k:K v)(u:rows[j]? =some r:=by first|assumption|rfl)(h2:r.length=n:=by rfl)(B:r[0]? =some v:=by rfl):Yo n (.lst rows) (.int kd (j:Int)) L K:=VQ (vJ (TV k u B) u h2)
def Y9{n:Nat}{rows:List (List AV)}{kd:IntKind}{j:Nat}{r:List AV}{L:SH}{K:AV->Prop}(k:K (.agg r))(u:rows[j]? =some r:=by first|assumption|rfl)(h2:r.length=n:=by rfl):Yp n (.lst rows) (.int kd (j:Int)) L K:=VR (vJ (QY (AW k u h2)) u h2)
def WI{n o:Nat}{rows:List (List AV)}{kd:IntKind}{j:Nat}{r:List AV}{v:AV}{L:SH}{K:AV->Prop}(k:K v)(u:rows[j]? =some r:=by first|assumption|rfl)(h2:r.length=n:=by rfl)(B:r[0+o]? =some v:=by rfl):OX n o (.lst rows) (.int kd (j:Int)) L K:=Q3 (vJ (VU k u B) u h2)
def BM{us:List W.WR}{i:Nat}{A:Prop}(k:A):W.calm us ⟨i,[],[],[],false,[]⟩ A:=oD (λx _=>by simp[W.free]) k
def Za{us:List W.WR}{j:Nat}{rows:List (List AV)}{i u:Nat}{r:List AV}{v:AV}{L:SH}{K:AV->Fp->Prop}(k:K v rz)(B:rows[i]? =some r:=by first|assumption|rfl)(h2:r[u]? =some v:=by rfl):dl us j (.pptr rows i u) L K:=Y4 (BM (TV (uq k) B h2))
def aav{us:List W.WR}{j n:Nat}{rows:List (List AV)}{i:Nat}{r:List AV}{L:SH}{K:AV->Fp->Prop}(k:K (.agg r) rz)(u:rows[i]? =some r:=by first|assumption|rfl)(h2:r.length=n:=by rfl):dr us j n (.pptr rows i 0) L K:=Y5 (BM (QY (AW (uq k) u h2)))
def Zb{us:List W.WR}{j o:Nat}{rows:List (List AV)}{i u:Nat}{r:List AV}{v:AV}{L:SH}{K:AV->Fp->Prop}(k:K v rz)(B:rows[i]? =some r:=by first|assumption|rfl)(h2:r[u+o]? =some v:=by rfl):Yq o (.pptr rows i u) us j L K:=VT (xM (Za k B h2))
def aaw{us:List W.WR}{m n:Nat}{rows:List (List AV)}{kd:IntKind}{j:Nat}{r:List AV}{L:SH}{K:AV->Fp->Prop}(k:K (.pptr rows j 0) rz)(u:rows[j]? =some r:=by first|assumption|rfl)(h2:r.length=n:=by rfl):di us m n (.lst rows) (.int kd (j:Int)) L K:=WG (BM (vJ (uq k) u h2))
def WJ{z cs:List AV}{n:Nat}{L:SH}{K:R}(k:K (.pptr [cs] 0 0) L)(u:cs.length=n:=by rfl)(h2:z.length=n:=by rfl)(j:cs.all AV.one=true:=by rfl)(h4:0<n:=by decide):wcp z n (.agg cs) L K:=by
 unfold wcp;refine Hg λb B=>?_
 refine bD (.here _) rfl u j h2 ?_;exact Hj (.here _) (by show 0<z.length;omega) (aaq _) k
def BN{y:AV}{cs:List AV}{L:SH}{K:R}(k:K (.pptr [cs] 0 0) L)(u:y.cells? =some cs:=by rfl)(h2:cs.all AV.one=true:=by rfl)(j:0<cs.length:=by exact aaq _):wbx y L K:=by unfold wbx;exact lI u h2 λb B=>Hj (.here _) j (aaq _) k
def JP{n:Nat}{rows:List (List AV)}{i j:Nat}{r cs:List AV}{L:SH}{K:AV->Prop}(k:K (.agg cs))(B:rows[i]? =some r:=by first|assumption|rfl)(u:(r.drop j).take n=cs:=by rfl)(h2:j+n<=r.length:=by exact Nat.le_of_ble_eq_true rfl):W.load true n (.pptr rows i j) L K:=QL B h2 u k
def JQ{n b i j:Nat}{x:Blk}{r cs:List AV}{L:SH}{K:AV->Prop}(k:K (.agg cs))(u:(b,x)∈L:=by repeat constructor)(D:x.rows[i]? =some r:=by first|assumption|rfl)(B:(r.drop j).take n=cs:=by rfl)(h2:j+n<=r.length:=by exact Nat.le_of_ble_eq_true rfl):W.load true n (.ptr b i j) L K:=QM u D h2 B k
def ur{P:Program}{F:TypeId->Option (List TypeId)}{t:TypeId}{kd:IntKind}{a b c:Int}{K:AV->Prop}(k:K (.int kd c))(e:kd.wrap (a+b)=c:=by assumption):W.bin P F .add t (.int kd a) (.int kd b) K:=QJ (by rw[e];exact k)
def kI{P:Program}{F:TypeId->Option (List TypeId)}{t:TypeId}{kd:IntKind}{a b c:Int}{K:AV->Prop}(k:K (.int kd c))(e:kd.wrap (a-b)=c:=by assumption):W.bin P F .sub t (.int kd a) (.int kd b) K:=QK (by rw[e];exact k)
def VX{a b:Bool}{K:AV->Prop}(k:K (.bool (decide (a≠b)))):W.bin Tryz.prog Fl .neq 4 (.bool a) (.bool b) K:=by rw[YU _ (show Tryz.prog.underlying 4=some .bool by kernel_rfl)];cases a<;>cases b<;>exact k
def Hs{us:List W.WR}{y:W.WR}{A:Prop}(h:A)(j:∀x∈us,W.free x y:=by(simp only[rm,rc,rz,W.free,co,↓reduceIte,Nat.reduceEqDiff,ai,dV,aco,abz,abA,not_false_eq_true,implies_true,and_true,true_and,and_self,abj,reduceCtorEq,forall_const,false_implies,aag,forall_eq,aby,abK,aaj,or_false,false_or,forall_eq_or_imp,not_or])<;>(repeat' constructor)<;>first|assumption|(exact Ne.symm acO)|(intro u;subst u;simp[SH.names]at *;done)):W.calm us y A:=oD j h
def qj{g:FuncId}{args:List AV}{L:SH}{i:Nat}{R1:R}{u:AV->SH->List Nat->Prop}(h:ac Tryz.prog g args L R1)(D:∀v j,R1 v j->u v j L.names):W.dcallM Tryz.prog [] i g args L u:=
 ⟨L,[],acQ,nofun,h.mono λv j B=>by simpa using D v j B⟩
def zw{g:FuncId}{args:List AV}{L:SH}{R1 KL:R}(h:ac Tryz.prog g args L R1)(u:∀v j,R1 v j->KL v j):W.callM Tryz.prog g args L KL:=NM (h.mono u)
def aax(ht:NA){f:FuncId}{j:Func}{args:List AV}{L:SH}{Q:R}{p:Prop}(u:Tryz.prog.funcs[f]? =some j)(D:j.body=some (j.body.getD .skip))(B:W.func Tryz.prog Fl ht j (j.body.getD .skip) args L Q=p)(h:p):ac Tryz.prog f args L Q:=
 LV (ht:=ht) fit u D (Eq.mpr B h)
structure PG(g:FuncId)(args:List AV)(K:AV->Prop):Prop where
 h:∃v,aq Tryz.prog g args v/\K v
def pm{g:FuncId}{args:List AV}{K:AV->Prop}{v:AV}(h:aq Tryz.prog g args v)(k:K v):PG g args K:=⟨v,h,k⟩
def Zc{g:FuncId}{args:List AV}{L:SH}{KL:R}(h:PG g args λv=>KL v L):W.callM Tryz.prog g args L KL:=h.h.elim λ_ x=>jC x.1 x.2
def Zd{L:SH}{j:AV->SH->List Nat->Prop}{us:List W.WR}{i:Nat}{g:FuncId}{args:List AV}(h:PG g args λv=>j v L [])(u:∀x∈us,W.free x ⟨i,[],[],[],true,[]⟩:=by(simp only[rm,rc,rz,W.free,co,↓reduceIte,Nat.reduceEqDiff,ai,dV,aco,abz,abA,not_false_eq_true,implies_true,and_true,true_and,and_self,abj,reduceCtorEq,forall_const,false_implies,aag,forall_eq,aby,abK,aaj,or_false,false_or,forall_eq_or_imp,not_or])<;>(repeat' constructor)<;>first|assumption|(exact Ne.symm acO)|(intro B;subst B;simp[SH.names]at *;done)):W.dcallM Tryz.prog us i g args L j:=h.h.elim λ_ x=>TM x.1 u x.2
def pf(g:FuncId){args:List AV}{K:AV->Prop}{G:Prop}(k:PG g args K)(h:PG g args K->G:=by intro k;first|with_reducible exact Zc k|with_reducible exact Zd k|fail):G:=h k
section
inductive X where
 |s (i:Nat)
 |g (i:Nat)
 |v (a:AV)
 |t (l:List Nat)
inductive RO where
 |pick (c x y:X)
 |alloc (z:List AV)
 |box (x:X)
 |build (z:List AV) (ps:List (Nat×Nat×X))
 |bslice (n:Nat) (z:List AV) (len:Nat) (ps:List (Nat×X))
 |l (x:X)
 |load (n:Nat) (x:X)
 |ro (n:Nat) (x:X)
 |store (n:Nat) (x y:X)
 |nilchk (x:X)
 |bin (op:BinOp) (t:TypeId) (x y:X)
 |un (op:UnOp) (x:X)
 |conv (k:IntKind) (x:X)
 |convS (x:X)
 |fn (f:FuncId) (l:List X)
 |mslice (n b:Nat) (z:List AV) (l c:X)
 |slice (n:Nat) (x:X) (lo hi mx:Option X)
 |sliceS (x:X) (lo hi:Option X)
 |faddr (o:Nat) (x:X)
 |fld (ag:Bool) (n o:Nat) (x:X)
 |idx (n:Nat) (x i:X)
 |idxP (len n:Nat) (x i:X)
 |ixS (x i:X)
 |ixA (ag:Bool) (len n:Nat) (x i:X)
 |ext (i:Nat) (x:X)
 |len (x:X)
 |lenS (x:X)
 |app (n b:Nat) (s x:X)
 |clr (n:Nat) (z:List AV) (x:X)
 |mnx (m:Bool) (x y:X)
 |mkmap
 |look (z:AV) (ok:Bool) (m k:X)
 |mup (m k v:X)
 |rngS (x:X)
 |nxt (x:X)
 |call (f:X) (l:List X)
 |fl (o:Nat) (x:X)
 |nfl (o:Nat) (x:X)
 |il (n:Nat) (x i:X)
 |ir (n:Nat) (x i:X)
 |ifl (n o:Nat) (x i:X)
 |cp (z:List AV) (n:Nat) (x:X)
 |bx (x:X)
 |bad
inductive N3 where
 |a
 |b
 |c
inductive RT where
 |op (o:RO) (p:N3) (k:RT)
 |go (g:X) (w:Bool) (o:RO) (k:RT)
 |gh (g:X) (w:Bool) (o:RO) (k:RT)
 |gm (g:X) (w:Bool) (x:X) (k:RT)
 |dop (us:List Nat) (i:Nat) (o:RO) (p:N3) (k:RT)
 |dg (us:List Nat) (i:Nat) (g:X) (w:Bool) (o:RO) (k:RT)
 |dm (i:Nat) (g:X) (w:Bool) (x:X) (k:RT)
 |tt (k:RT)
 |clr (k:RT)
 |keep (l:List Nat) (k:RT)
 |frz (x:X) (k:RT)
 |cnd (x:X) (a b:RT)
 |join (p:Nat) (q:Bool) (ls:List Nat) (k:RT)
 |loop (p:Nat) (q:Bool) (ls:List Nat) (vs:List X)
 |jmp (lab:Nat) (vs:List X)
 |cut (p:Nat) (q:Bool) (ls:List Nat) (vs:List X)
 |ret (vs:List X)
 |bad
structure VY where
 key:Nat
 live:List Nat
 mis:List Nat
 labs:List Nat
 tree:RT
structure Hp where
 live:List Nat
 labs:List Nat:=[]
 q:Bool:=true
 mis:List Nat:=[]
structure RF where
 hs:List (Nat×Hp)
 fz:List (Nat×List Nat)
 ps:List VY
namespace Cm
def xlev:X->List Nat
 |.s i=>[i]
 |_=>[]
def xs(l:List X):List Nat:=l.flatMap xlev
def ox:Option X->List Nat
 |some x=>xlev x
 |none=>[]
def rlev:RO->List Nat
 |.pick c x y=>xs [c,x,y]
 |.box x|.l x|.load _ x|.ro _ x|.nilchk x|.un _ x|.conv _ x|.convS x|.faddr _ x|.fld _ _ _ x|.ext _ x|.len x|.lenS x|.clr _ _ x|.fl _ x|.nfl _ x|.cp _ _ x|.bx x=>xlev x
 |.build _ ps=>xs (ps.map (·.2.2))
 |.bslice _ _ _ ps=>xs (ps.map (·.2))
 |.store _ x y|.bin _ _ x y|.mslice _ _ _ x y|.idx _ x y|.idxP _ _ x y|.ixS x y|.ixA _ _ _ x y|.app _ _ x y|.mnx _ x y|.il _ x y|.ir _ x y|.ifl _ _ x y=>xs [x,y]
 |.fn _ l=>xs l
 |.look _ _ x y=>xs [x,y]
 |.mup x y z=>xs [x,y,z]
 |.rngS x|.nxt x=>xlev x
 |.slice _ x a b c=>xlev x++ox a++ox b++ox c
 |.sliceS x a b=>xlev x++ox a++ox b
 |.call f l=>xs (f::l)
 |_=>[]
def hp:RO->Bool
 |.alloc _|.box _|.bslice ..|.mslice ..|.store ..|.app ..|.clr ..|.call ..|.fn ..|.mkmap|.mup ..|.rngS _|.nxt _=>true
 |_=>false
def has(n:Nat)(l:List Nat):Bool:=l.any (·==n)
def reads(n:Nat):RT->Bool
 |.op o _ k=>has n (rlev o)||reads n k
 |.go g _ o k|.gh g _ o k=>has n (xlev g++rlev o)||reads n k
 |.gm g _ x k=>has n (xs [g,x])||reads n k
 |.dop _ _ o _ k=>has n (rlev o)||reads n k
 |.dg _ _ g _ o k=>has n (xlev g++rlev o)||reads n k
 |.dm _ g _ x k=>has n (xs [g,x])||reads n k
 |.tt k|.clr k|.keep _ k=>reads n k
 |.frz x k=>has n (xlev x)||reads n k
 |.cnd x a b=>has n (xlev x)||(reads n a||reads n b)
 |.join _ _ _ k=>reads n k
 |.loop _ _ _ vs|.jmp _ vs|.cut _ _ _ vs|.ret vs=>has n (xs vs)
 |.bad=>false
def n3:N3->Nat
 |.a=>1
 |.b=>2
 |.c=>3
def up:N3->N3
 |.a=>.b
 |_=>.c
def peep(n:Nat):RT->RT
 |.op o p k=>
  let k:=peep (n+n3 p) k
  match o,k with
  |.faddr f x,.op (.l (.s y)) _ k2=>bif y==n&&!reads y k2 then .op (.fl f x) .b k2 else .op o p k
  |.faddr f x,.dop us i (.l (.s y)) _ k2=>bif y==n&&!reads y k2 then .dop us i (.fl f x) .b k2 else .op o p k
  |.nilchk x,.op (.fl f (.s y)) q k2=>bif y==n&&!reads y k2 then .op (.nfl f x) (up q) k2 else .op o p k
  |.idx m x i,.op (.l (.s y)) _ k2=>bif y==n&&!reads y k2 then .op (.il m x i) .b k2 else .op o p k
  |.idx m x i,.op (.ro m2 (.s y)) _ k2=>bif y==n&&m==m2&&!reads y k2 then .op (.ir m x i) .b k2 else .op o p k
  |.idx m x i,.op (.fl f (.s y)) q k2=>bif y==n&&!reads y k2 then .op (.ifl m f x i) (up q) k2 else .op o p k
  |.alloc z,.op (.store m (.s y) x) _ (.frz (.s y2) k2)=>bif y==n&&y2==n&&!has n (xlev x)&&!reads y k2 then .op (.cp z m x) .c k2 else .op o p k
  |.box x,.frz (.s y) k2=>bif y==n&&!reads y k2 then .op (.bx x) .b k2 else .op o p k
  |_,_=>.op o p k
 |.go g w o k=>.go g w o (peep (n+1) k)
 |.gh g w o k=>.gh g w o (peep (n+1) k)
 |.gm g w x k=>.gm g w x (peep (n+1) k)
 |.dop us i o p k=>
  let k:=peep (n+n3 p) k
  match o,k with
  |.faddr f x,.dop us i (.l (.s y)) _ k2=>bif y==n&&!reads y k2 then .dop us i (.fl f x) .b k2 else .dop us i o p k
  |_,_=>.dop us i o p k
 |.dg us i g w o k=>.dg us i g w o (peep (n+1) k)
 |.dm i g w x k=>.dm i g w x (peep (n+1) k)
 |.tt k=>.tt (peep n k)
 |.clr k=>.clr (peep n k)
 |.frz x k=>.frz x (peep (n+1) k)
 |.cnd x a b=>.cnd x (peep n a) (peep n b)
 |.join p q ls k=>.join p q ls (peep n k)
 |t=>t
def idx(i:Nat):List Nat->Nat
 |[]=>0
 |a::l=>bif a==i then 0 else idx i l+1
def rx(n:List Nat):X->X
 |.s i=>.s (idx i n)
 |x=>x
def rxs(n:List Nat)(l:List X):List X:=l.map (rx n)
def rro(n:List Nat):RO->RO
 |.pick c x y=>.pick (rx n c) (rx n x) (rx n y)
 |.box x=>.box (rx n x)
 |.build z ps=>.build z (ps.map λp=>(p.1,p.2.1,rx n p.2.2))
 |.bslice m z len ps=>.bslice m z len (ps.map λp=>(p.1,rx n p.2))
 |.l x=>.l (rx n x)
 |.load m x=>.load m (rx n x)
 |.ro m x=>.ro m (rx n x)
 |.store m x y=>.store m (rx n x) (rx n y)
 |.nilchk x=>.nilchk (rx n x)
 |.bin o t x y=>.bin o t (rx n x) (rx n y)
 |.un o x=>.un o (rx n x)
 |.conv k x=>.conv k (rx n x)
 |.convS x=>.convS (rx n x)
 |.fn f l=>.fn f (rxs n l)
 |.mslice m b z l c=>.mslice m b z (rx n l) (rx n c)
 |.slice m x a b c=>.slice m (rx n x) (a.map (rx n)) (b.map (rx n)) (c.map (rx n))
 |.sliceS x a b=>.sliceS (rx n x) (a.map (rx n)) (b.map (rx n))
 |.faddr o x=>.faddr o (rx n x)
 |.fld a m o x=>.fld a m o (rx n x)
 |.idx m x i=>.idx m (rx n x) (rx n i)
 |.idxP l m x i=>.idxP l m (rx n x) (rx n i)
 |.ixS x i=>.ixS (rx n x) (rx n i)
 |.ixA a l m x i=>.ixA a l m (rx n x) (rx n i)
 |.ext i x=>.ext i (rx n x)
 |.len x=>.len (rx n x)
 |.lenS x=>.lenS (rx n x)
 |.app m b s x=>.app m b (rx n s) (rx n x)
 |.clr m z x=>.clr m z (rx n x)
 |.mnx m x y=>.mnx m (rx n x) (rx n y)
 |.look z k x y=>.look z k (rx n x) (rx n y)
 |.mup x y z=>.mup (rx n x) (rx n y) (rx n z)
 |.rngS x=>.rngS (rx n x)
 |.nxt x=>.nxt (rx n x)
 |.call f l=>.call (rx n f) (rxs n l)
 |.fl o x=>.fl o (rx n x)
 |.nfl o x=>.nfl o (rx n x)
 |.il m x i=>.il m (rx n x) (rx n i)
 |.ir m x i=>.ir m (rx n x) (rx n i)
 |.ifl m o x i=>.ifl m o (rx n x) (rx n i)
 |.cp z m x=>.cp z m (rx n x)
 |.bx x=>.bx (rx n x)
 |o=>o
def lv:RT->List Nat
 |.op o _ k=>rlev o++lv k
 |.go g _ o k|.gh g _ o k=>xlev g++(rlev o++lv k)
 |.gm g _ x k=>xs [g,x]++lv k
 |.dop _ _ o _ k=>rlev o++lv k
 |.dg _ _ g _ o k=>xlev g++(rlev o++lv k)
 |.dm _ g _ x k=>xs [g,x]++lv k
 |.tt k|.clr k|.keep _ k=>lv k
 |.frz x k=>xlev x++lv k
 |.cnd x a b=>xlev x++(lv a++lv b)
 |.join _ _ _ k=>lv k
 |.loop _ _ _ vs|.jmp _ vs|.cut _ _ _ vs|.ret vs=>xs vs
 |.bad=>[]
def pu(n:Nat)(p:N3)(e:List Nat):List Nat:=match p with
 |.a=>n::e
 |.b=>(n+1)::n::e
 |.c=>(n+2)::(n+1)::n::e
def isCall:RO->Bool
 |.call ..=>true
 |_=>false
def kp(e:List Nat)(k:RT):List Nat:=match k with
 |.cut ..=>e
 |k=>let u:=lv k;e.filter λi=>has i u
def mk(e l:List Nat)(k:RT):RT:=bif l.length==e.length then k else .keep (l.map λi=>idx i e) k
def rel(e:List Nat)(n:Nat):RT->RT
 |.op o p k=>bif isCall o then .op (rro e o) p (mk (pu n p e) (kp (pu n p e) k) (rel (kp (pu n p e) k) (n+n3 p) k))else .op (rro e o) p (rel (pu n p e) (n+n3 p) k)
 |.go g w o k=>.go (rx e g) w (rro e o) (rel (n::e) (n+1) k)
 |.gh g w o k=>.gh (rx e g) w (rro e o) (rel (n::e) (n+1) k)
 |.gm g w x k=>.gm (rx e g) w (rx e x) (rel (n::e) (n+1) k)
 |.dop us i o p k=>bif isCall o then .dop us i (rro e o) p (mk (pu n p e) (kp (pu n p e) k) (rel (kp (pu n p e) k) (n+n3 p) k))else .dop us i (rro e o) p (rel (pu n p e) (n+n3 p) k)
 |.dg us i g w o k=>.dg us i (rx e g) w (rro e o) (rel (n::e) (n+1) k)
 |.dm i g w x k=>.dm i (rx e g) w (rx e x) (rel (n::e) (n+1) k)
 |.tt k=>.tt (rel e n k)
 |.clr k=>.clr (rel e n k)
 |.keep l k=>.keep l (rel e n k)
 |.frz x k=>.frz (rx e x) (rel (n::e) (n+1) k)
 |.cnd x a b=>.cnd (rx e x) (mk e (kp e a) (rel (kp e a) n a)) (mk e (kp e b) (rel (kp e b) n b))
 |.join p q ls k=>.join p q ls (rel e n k)
 |.loop p q ls vs=>.loop p q ls (rxs e vs)
 |.jmp lab vs=>.jmp lab (rxs e vs)
 |.cut p q ls vs=>.cut p q ls (rxs e vs)
 |.ret vs=>.ret (rxs e vs)
 |.bad=>.bad
def down:Nat->List Nat
 |0=>[]
 |n+1=>n::down n
abbrev Sl:=List (Nat×X)
abbrev CT:=Sl->Nat->RT
def lk{α:Type}:List (Nat×α)->Nat->Option α
 |[],_=>none
 |(a,b)::l,k=>bif a==k then some b else lk l k
def sl0(live:List Nat)(n:Nat):Sl:=match live with
 |[]=>[]
 |t::l=>(t,.s n)::sl0 l (n-1)
def slp(live:List Nat):Sl:=sl0 live (live.length-1)++[(1000000,.v .junk)]
def get(sl:Sl)(t:Nat):X:=match lk sl t with
 |some x=>x
 |none=>(lk sl 1000000).getD (.v bY)
section
variable (P:Program) (h:RF)
def opd(sl:Sl):Operand->X
 |.tmp t=>get sl t
 |.const (.string s)=>.t (s.data.toList.map UInt8.toNat)
 |.const v=>.v ((OF v).getD .junk)
 |.global g=>.g g
 |.func f=>.v (.fn f [])
def res(o:Op)(sl:Sl):RO:=
 let a:=opd sl
 match o with
 |.pick c x y=>.pick (a c) (a x) (a y)
 | .alloc t=>match W0.zof P t with
  |some z=>.alloc z
  |none=>.bad
 |.box _ x=>.box (a x)
 | .build t ps=>match P.underlying t,fB P t with
  | some (.struct fs),some (.agg z)=>match cX (ps.toList.map λp=>(lz P fs p.1).map λq=>(q.1,q.2,a p.2))with
   |some l=>.build z l
   |none=>.bad
  | some (.array _ e),some (.agg z)=>match bk P e with
   |some n=>.build z (ps.toList.map λp=>(p.1*n,n,a p.2))
   |none=>.bad
  |_,_=>.bad
 | .buildSlice t len ps=>match P.underlying t with
  | some (.slice e)=>match bk P e,W0.zof P e with
   |some n,some z=>.bslice n z len (ps.toList.map λp=>(p.1,a p.2))
   |_,_=>.bad
  |_=>.bad
 | .load t x=>match fE P t,bk P t with
  |some true,some n=>.ro n (a x)
  |some false,some n=>bif n==1 then .l (a x)else .load n (a x)
  |_,_=>.bad
 | .store t x y=>match bk P t with
  |some n=>.store n (a x) (a y)
  |none=>.bad
 |.nilCheck x=>.nilchk (a x)
 |.binOp o t x y _=>.bin o t (a x) (a y)
 |.unOp o _ x=>.un o (a x)
 | .convert s d x=>match P.underlying s,P.underlying d with
  |some (.int _),some (.int kd)=>.conv kd (a x)
  |some .string,some .string=>.convS (a x)
  |_,_=>.bad
 |.makeFunc (.func f) _ cap=>.fn f (cap.toList.map a)
 | .makeSlice t l c=>match P.underlying t with
  | some (.slice e)=>match bk P e,iR P e,W0.zof P e with
   |some n,some b,some z=>.mslice n b z (a l) (a c)
   |_,_,_=>.bad
  |_=>.bad
 | .slice t x lo hi mx=>match P.underlying t with
  | some (.slice e)=>match bk P e with
   |some n=>.slice n (a x) (lo.map a) (hi.map a) (mx.map a)
   |none=>.bad
  |some .string=>.sliceS (a x) (lo.map a) (hi.map a)
  |_=>.bad
 | .fieldAddr s x f=>match P.underlying s with
  | some (.struct fs)=>match fs[f]? with
   |some f=>.faddr f.offset (a x)
   |none=>.bad
  |_=>.bad
 | .field s x f=>match P.underlying s with
  | some (.struct fs)=>match fs[f]? with
   | some f=>match fE P f.type,bk P f.type with
    |some ag,some n=>.fld ag n f.offset (a x)
    |_,_=>.bad
   |none=>.bad
  |_=>.bad
 | .indexAddr t x i=>match P.underlying t with
  | some (.slice e)=>match bk P e with
   |some n=>.idx n (a x) (a i)
   |none=>.bad
  | some (.array len e)=>match bk P e with
   |some n=>.idxP len n (a x) (a i)
   |none=>.bad
  |_=>.bad
 | .index t x i=>match P.underlying t with
  |some .string=>.ixS (a x) (a i)
  | some (.array len e)=>match fE P e,bk P e with
   |some ag,some n=>.ixA ag len n (a x) (a i)
   |_,_=>.bad
  |_=>.bad
 |.extract x i=>.ext i (a x)
 |.makeMap _ none=>.mkmap
 | .lookup t m y ok=>match P.underlying t with
  | some (.map kt et)=>match P.underlying kt,fB P et with
   |some .string,some z=>.look z ok (a m) (a y)
   |_,_=>.bad
  |_=>.bad
 |.mapUpdate _ m y x=>.mup (a m) (a y) (a x)
 |.range _ x=>.rngS (a x)
 |.next it true=>.nxt (a it)
 | .call c=>match c.callee with
  | .builtin .len=>match c.args.toList,(c.argTypes[0]?).bind P.underlying with
   |[x],some (.slice _)=>.len (a x)
   |[x],some .string=>.lenS (a x)
   |_,_=>.bad
  | .builtin .append=>match c.args.toList,c.argTypes.toList with
   | [s,x],t::_=>match P.underlying t with
    | some (.slice e)=>match bk P e,iR P e with
     |some n,some b=>.app n b (a s) (a x)
     |_,_=>.bad
    |_=>.bad
   |_,_=>.bad
  | .builtin .clear=>match c.args.toList,c.argTypes.toList with
   | [x],[t]=>match P.underlying t with
    | some (.slice e)=>match bk P e,W0.zof P e with
     |some n,some z=>.clr n z (a x)
     |_,_=>.bad
    |_=>.bad
   |_,_=>.bad
  | .builtin .min=>match c.args.toList with
   |[x,y]=>.mnx false (a x) (a y)
   |_=>.bad
  | .builtin .max=>match c.args.toList with
   |[x,y]=>.mnx true (a x) (a y)
   |_=>.bad
  |.value f=>.call (a f) (c.args.toList.map a)
  |_=>.bad
 |_=>.bad
def alias(o:Op)(sl:Sl):Option X:=match o with
 |.move x|.assign x=>some (opd sl x)
 | .call c=>match c.callee with
  | .builtin .len=>match (c.argTypes[0]?).bind P.underlying with
   |some (.array n _)=>some (.v (.int .i64 n))
   |_=>none
  |_=>none
 |_=>none
def put(sl:Sl)(d:Option Tmp)(x:X):Sl:=match d with
 |some t=>(t,x)::sl
 |none=>sl
def dstOf(ops:List Oper)(j:Nat):Nat:=((ops[j]?).bind (·.dst)).getD 0
def vals(sl:Sl)(live:List Nat):List X:=live.map λt=>get sl t
def ent(key:Nat)(k:CT):CT:=λsl n=>match lk h.hs key with
 |some p=>.cut key p.q p.labs (vals sl p.live)
 |none=>k sl n
def frzs:List Nat->CT->CT
 |[],k,sl,n=>k sl n
 |d::ds,k,sl,n=>.frz (get sl d) (frzs ds k (put sl (some d) (.s n)) (n+1))
def sqs(all:List Oper)(id:Nat)(k:CT):Nat->List Oper->CT
 |_,[],sl,n=>k sl n
 |i,o::l,sl,n=>
  let k:=ent h (3*(100*id+i+1)+2) (sqs all id k (i+1) l)
  match o.guard,alias P o.op sl with
  |none,some x=>k (put sl o.dst x) n
  |none,none=>.op (res P o.op sl) .a (k (put sl o.dst (.s n)) (n+1))
  |some (j,w),some x=>.gm (get sl (dstOf all j)) w x (k (put sl o.dst (.s n)) (n+1))
  |some (j,w),none=>
   let q:=res P o.op sl
   let g:=get sl (dstOf all j)
   let k:=k (put sl o.dst (.s n)) (n+1)
   bif hp q then .gh g w q k else .go g w q k
def memo(o:Op):Bool:=W.isCallV o||W.isMem o
def us(m:Nat)(rs:List Nat)(i:Nat):List Nat:=match rs with
 |[]=>[]
 |r::l=>bif m.testBit r then us m l (i+1)else i::us m l (i+1)
def drs(all:List Oper)(id:Nat)(ms:List Nat)(k:CT):Nat->List Oper->List Nat->CT
 |_,[],_,sl,n=>.clr (k sl n)
 |i,o::l,rs,sl,n=>
  let u:=us (ms.getD i 0) rs 0
  let rs2:=bif memo o.op then i::rs else rs
  let k:=λ(sl:Sl) (n:Nat)=>drs all id ms k (i+1) l rs2 sl n
  match o.guard,alias P o.op sl with
  |none,some x=>k (put sl o.dst x) n
  |none,none=>bif memo o.op then .dop u i (res P o.op sl) .a (k (put sl o.dst (.s n)) (n+1))else .op (res P o.op sl) .a (k (put sl o.dst (.s n)) (n+1))
  |some (j,w),some x=>.dm i (get sl (dstOf all j)) w x (k (put sl o.dst (.s n)) (n+1))
  |some (j,w),none=>.dg u i (get sl (dstOf all j)) w (res P o.op sl) (k (put sl o.dst (.s n)) (n+1))
def frz(id:Nat)(k:CT):CT:=frzs ((lk h.fz id).getD []) k
def reg(id:Nat)(ops:Array Oper)(draw:Bool)(k:CT):CT:=λsl n=>bif draw then .tt (drs P ops.toList id (cI ops.toList []) (frz h id k) 0 ops.toList [] sl n)
 else sqs P h ops.toList id (frz h id k) 0 ops.toList sl n
def jmp(key:Nat)(live:List Nat):CT:=λsl n=>.jmp key (vals sl live)
def jkey(a b:Code):Nat:=3*((lH a).getD 0+1000*(match gS b with|some r=>r+1|none=>0))+1
def hpOf(key:Nat):Hp:=(lk h.hs key).getD ⟨[],[],true,[]⟩
def code:Code->CT->(Nat->CT)->CT->CT
 |.skip,kn,_,_,sl,n=>kn sl n
 |.label _,kn,_,_,sl,n=>kn sl n
 |.region id ops draw,kn,_,_,sl,n=>ent h (3*(100*id)+2) (reg P h id ops draw kn) sl n
 |.seq a b,kn,kx,kr,sl,n=>
  let key:=jkey a b
  match lk h.hs key with
  |none=>code a (code b kn kx kr) kx kr sl n
  |some p=>.join key p.q p.labs (code a (jmp key p.live) kx kr sl n)
 |.cond x a b,kn,kx,kr,sl,n=>.cnd (opd sl x) (code a kn kx kr sl n) (code b kn kx kr sl n)
 |.block id b,kn,kx,kr,sl,n=>code b kn (λi=>bif i==id then kn else kx i) kr sl n
 |.loop b,_,_,_,sl,n=>
  let key:=3*(gS b).getD 0
  let p:=hpOf h key
  .loop key p.q p.labs (vals sl p.live)
 |.exit id,_,kx,_,sl,n=>kx id sl n
 |.ret,_,_,kr,sl,n=>kr sl n
 |_,_,_,_,_,_=>.bad
def fin(n:Nat)(t:RT):RT:=rel (down n) n (peep n t)
def mkp(key:Nat)(own:Bool)(k:CT):VY:=
 let p:=hpOf h key
 let l:=p.live++p.mis
 ⟨key,p.live,p.mis,bif own then key::p.labs else p.labs,fin l.length (k (slp l) l.length)⟩
def pif(key:Nat)(k:CT):List VY:=match lk h.hs key with
 |some _=>[mkp h key false k]
 |none=>[]
def cutp(all:List Oper)(id:Nat)(k:CT)(i:Nat):List Oper->List VY
 |[]=>[]
 |o::l=>pif h (3*(100*id+i+1)+2) (sqs P h all id k (i+1) l)++cutp all id k (i+1) l
def pcs:Code->CT->(Nat->CT)->CT->List VY
 |.region id ops draw,kn,_,_=>pif h (3*(100*id)+2) (reg P h id ops draw kn)++bif draw then []else cutp P h ops.toList id (frz h id kn) 0 ops.toList
 |.seq a b,kn,kx,kr=>
  let key:=jkey a b
  pif h key (code P h b kn kx kr)++(pcs a (match lk h.hs key with|none=>code P h b kn kx kr|some p=>jmp key p.live) kx kr++pcs b kn kx kr)
 |.cond _ a b,kn,kx,kr=>pcs a kn kx kr++pcs b kn kx kr
 |.block id b,kn,kx,kr=>pcs b kn (λi=>bif i==id then kn else kx i) kr
 |.loop b,_,kx,kr=>
  let key:=3*(gS b).getD 0
  let kn2:=jmp key (hpOf h key).live
  mkp h key true (code P h b kn2 kx kr)::pcs b kn2 kx kr
 |_,_,_,_=>[]
def ress:List ResultVar->List X->CT
 |[],vs,_,_=>.ret vs.reverse
 |.tmp t::rs,vs,sl,n=>ress rs (get sl t::vs) sl n
 |.cell a t::rs,vs,sl,n=>.op (res P (.load t (.tmp a)) sl) .a (ress rs (.s n::vs) sl (n+1))
end
end Cm
def bQ(P:Program)(fn:Func)(hs:List (Nat×Hp))(fz:List (Nat×List Nat)):RF:=
 let h:RF:=⟨hs,fz,[]⟩
 let c:=fn.body.getD .skip
 let live:=List.range (fn.params.size+fn.nfree)
 let kr:Cm.CT:=Cm.ress P fn.results.toList []
 ⟨hs,fz,⟨0,live,[],[],Cm.fin live.length (Cm.code P h c kr (λ_ _ _=>.bad) kr (Cm.sl0 live (live.length-1)) live.length)⟩::Cm.pcs P h c kr (λ_ _ _=>.bad) kr⟩
def nv{α:Type}(a:α){b:α}(h:a=b:=by((conv=>lhs;reduce)<;>rfl)):α:=b
end
section
def q0:R:=λ_ _=>False
namespace Cm
def nth:List AV->Nat->AV
 |[],_=>.junk
 |a::_,0=>a
 |_::l,n+1=>nth l n
def nthR:List W.WR->Nat->W.WR
 |[],_=>rm 0 rz
 |a::_,0=>a
 |_::l,n+1=>nthR l n
def bys:List Nat->List UInt8
 |[]=>[]
 |a::l=>UInt8.ofNat a::bys l
def ev(e:List AV):X->AV
 |.s i=>nth e i
 |.g i=>glA i
 |.v a=>a
 |.t l=>.str (bys l)
def evs(e:List AV):List X->List AV
 |[]=>[]
 |x::l=>ev e x::evs e l
def evo(e:List AV):Option X->Option AV
 |none=>none
 |some x=>some (ev e x)
def evp(e:List AV):List (Nat×Nat×X)->List (Nat×Nat×AV)
 |[]=>[]
 |(a,b,x)::l=>(a,b,ev e x)::evp e l
def evq(e:List AV):List (Nat×X)->List (Nat×AV)
 |[]=>[]
 |(a,x)::l=>(a,ev e x)::evq e l
def ps:N3->AV->List AV->List AV
 |.a,v,e=>v::e
 |.b,v,e=>v::.junk::e
 |.c,v,e=>v::.junk::.junk::e
def vv:RO->List AV->SH->(AV->Prop)->Prop
 |.pick c x y,e,L=>W.pick (ev e c) (ev e x) (ev e y)
 |.build z ps,e,L=>W.build z (evp e ps)
 |.l x,e,L=>wl (ev e x) L
 |.load n x,e,L=>W.load false n (ev e x) L
 |.ro n x,e,L=>WC n (ev e x) L
 |.nilchk x,e,L=>W.nilchk (ev e x)
 |.bin o t x y,e,L=>wb o t (ev e x) (ev e y)
 |.un o x,e,L=>W.un o (ev e x)
 |.conv k x,e,L=>W.conv k (ev e x)
 |.convS x,e,L=>W.convS (ev e x)
 |.slice n x a b c,e,L=>W.slice n (ev e x) (evo e a) (evo e b) (evo e c) L
 |.sliceS x a b,e,L=>W.sliceS (ev e x) (evo e a) (evo e b)
 |.faddr o x,e,L=>W.faddr o (ev e x)
 |.fld a n o x,e,L=>W.fld a n o (ev e x)
 |.idx n x i,e,L=>W.idx n (ev e x) (ev e i) L
 |.idxP l n x i,e,L=>W.idxP l n (ev e x) (ev e i)
 |.ixS x i,e,L=>W.ixS (ev e x) (ev e i)
 |.ixA a l n x i,e,L=>W.ixA a l n (ev e x) (ev e i)
 |.ext i x,e,L=>W.ext i (ev e x)
 |.len x,e,L=>W.len (ev e x)
 |.lenS x,e,L=>W.lenS (ev e x)
 |.mnx m x y,e,L=>W.mnx m (ev e x) (ev e y)
 |.look z k x y,e,L=>W.look z k (ev e x) (ev e y) L
 |.fl o x,e,L=>Qi o (ev e x) L
 |.nfl o x,e,L=>OW o (ev e x) L
 |.il n x i,e,L=>Yo n (ev e x) (ev e i) L
 |.ir n x i,e,L=>Yp n (ev e x) (ev e i) L
 |.ifl n o x i,e,L=>OX n o (ev e x) (ev e i) L
 |_,_,_=>λ_=>False
def vo:RO->List AV->SH->R->Prop
 |.alloc z,e,L,K=>W.alloc z L K
 |.box x,e,L,K=>W.box (ev e x) L K
 |.bslice n z len ps,e,L,K=>W.bslice n z len (evq e ps) L K
 |.mslice n b z l c,e,L,K=>W.mslice n b z (ev e l) (ev e c) L K
 |.store n x y,e,L,K=>W.store n (ev e x) (ev e y) L λL=>K (.tup []) L
 |.app n b s x,e,L,K=>W.append n b (ev e s) (ev e x) L K
 |.clr n z x,e,L,K=>W.clear n z (ev e x) L λL=>K (.tup []) L
 |.mkmap,e,L,K=>W.mkmap L K
 |.mup x y z,e,L,K=>W.mup (ev e x) (ev e y) (ev e z) L λL=>K (.tup []) L
 |.rngS x,e,L,K=>W.rngS (ev e x) L K
 |.nxt x,e,L,K=>W.nxt (ev e x) L K
 |.call f l,e,L,K=>wc (ev e f) (evs e l) L K
 |.fn f l,e,L,K=>K (.fn f (evs e l)) L
 |.cp z n x,e,L,K=>wcp z n (ev e x) L K
 |.bx x,e,L,K=>wbx (ev e x) L K
 |o,e,L,K=>vv o e L λv=>K v L
def vd(u:List W.WR)(i:Nat):RO->List AV->SH->(AV->SH->Fp->Prop)->Prop
 |.l x,e,L,K=>dl u i (ev e x) L λv r=>K v L r
 |.ro n x,e,L,K=>dr u i n (ev e x) L λv r=>K v L r
 |.idx n x j,e,L,K=>di u i n (ev e x) (ev e j) L λv r=>K v L r
 |.store n x y,e,L,K=>ds u i n (ev e x) (ev e y) L λL r=>K (.tup []) L r
 |.fl o x,e,L,K=>Yq o (ev e x) u i L λv r=>K v L r
 |.call f l,e,L,K=>wd u i (ev e f) (evs e l) L λv L2 ks=>wn [] ks [] L.names λr=>K v L2 r
 |.app n b s x,e,L,K=>W.calm u ⟨i,ai (ev e s)++ai (ev e x),ai (ev e s),[],false,[]⟩ (W.append n b (ev e s) (ev e x) L λv L=>wn (ai (ev e s)++ai (ev e x)) (ai (ev e s)) (ai v) [] λr=>K v L r)
 |.clr n z x,e,L,K=>W.calm u ⟨i,ai (ev e x),ai (ev e x),[],false,[]⟩ (W.clear n z (ev e x) L λL=>wn (ai (ev e x)) (ai (ev e x)) [] [] λr=>K (.tup []) L r)
 |.slice n x a b c,e,L,K=>W.calm u ⟨i,dV (ev e x),[],[],false,[]⟩ (W.slice n (ev e x) (evo e a) (evo e b) (evo e c) L λv=>wn (dV (ev e x)) [] [] [] λr=>K v L r)
 |.idxP l n x j,e,L,K=>W.calm u ⟨i,dV (ev e x),[],[],false,[]⟩ (W.idxP l n (ev e x) (ev e j) λv=>wn (dV (ev e x)) [] [] [] λr=>K v L r)
 |.alloc z,e,L,K=>W.calm u ⟨i,[],[],[],false,[]⟩ (W.alloc z L λv L=>wn [] [] (ai v) [] λr=>K v L r)
 |.box x,e,L,K=>W.calm u ⟨i,[],[],[],false,[]⟩ (W.box (ev e x) L λv L=>wn [] [] (ai v) [] λr=>K v L r)
 |.bslice n z len ps,e,L,K=>W.calm u ⟨i,[],[],[],false,[]⟩ (W.bslice n z len (evq e ps) L λv L=>wn [] [] (ai v) [] λr=>K v L r)
 |.mslice n b z l c,e,L,K=>W.calm u ⟨i,[],[],[],false,[]⟩ (W.mslice n b z (ev e l) (ev e c) L λv L=>wn [] [] (ai v) [] λr=>K v L r)
 |_,_,_,_=>False
def mem:RO->Bool
 |.l _|.ro ..|.load ..|.idx ..|.idxP ..|.store ..|.fl ..|.call ..|.app ..|.clr ..|.slice ..|.alloc _|.box _|.bslice ..|.mslice ..=>true
 |_=>false
def rcd:RO->Nat->Fp->W.WR
 |.call _ _,i,r=>rc i r
 |_,i,r=>rm i r
def rec2(o:RO)(i:Nat)(r:Fp)(rs:List W.WR):List W.WR:=bif mem o then rcd o i r::rs else rs
def vd2(u:List W.WR)(i:Nat)(o:RO)(e:List AV)(L:SH)(K:AV->SH->Fp->Prop):Prop:=bif mem o then vd u i o e L K else vo o e L λv L=>K v L rz
def lkk:List (Nat×Kn)->Nat->Kn
 |[],_=>λ_ _=>False
 |(a,b)::l,k=>bif a==k then b else lkk l k
def lks(ks:List (Nat×Kn)):List Nat->List Kn
 |[]=>[]
 |a::l=>lkk ks a::lks ks l
def sel(e:List AV):List Nat->List AV
 |[]=>[]
 |a::l=>nth e a::sel e l
def usl(rs:List W.WR):List Nat->List W.WR
 |[]=>[]
 |a::l=>nthR rs a::usl rs l
def zp:List Nat->List Kn->List (Nat×Kn)
 |a::l,b::m=>(a,b)::zp l m
 |_,_=>[]
def retv(e:List AV):List X->AV
 |[x]=>ev e x
 |l=>.tup (evs e l)
section
variable (Q:R) (T:R->Nat->List Kn->Vs->SH->Kn->Prop) (J C:R->Nat->List Kn->Vs->SH->Prop)
def V:RT->List AV->List W.WR->List (Nat×Kn)->SH->Prop
 |.op o p k,e,rs,ks,L=>vo o e L λv L=>V k (ps p v e) rs ks L
 |.go g w o k,e,rs,ks,L=>wg (ev e g) w (vv o e L) L λv L=>V k (v::e) rs ks L
 |.gh g w o k,e,rs,ks,L=>W.grd (ev e g) w (vo o e L) L λv L=>V k (v::e) rs ks L
 |.gm g w x k,e,rs,ks,L=>wgm (ev e g) w (ev e x) L λv L=>V k (v::e) rs ks L
 |.dop us i o p k,e,rs,ks,L=>vd (usl rs us) i o e L λv L r=>V k (ps p v e) (rcd o i r::rs) ks L
 |.dg us i g w o k,e,rs,ks,L=>W.dgrd (ev e g) w (vd2 (usl rs us) i o e L) L λv L r=>V k (v::e) (rec2 o i r rs) ks L
 |.dm i g w x k,e,rs,ks,L=>W.dgrd (ev e g) w (λK=>K (ev e x) L rz) L λv L r=>V k (v::e) rs ks L
 |.tt k,e,rs,ks,L=>(true=true)/\V k e [] ks L
 |.clr k,e,rs,ks,L=>V k e [] ks L
 |.keep l k,e,rs,ks,L=>V k (sel e l) rs ks L
 |.frz x k,e,rs,ks,L=>W.frz1 (ev e x) L λv L=>V k (v::e) rs ks L
 |.cnd x a b,e,rs,ks,L=>wk (ev e x) (V a e rs ks L) (V b e rs ks L)
 |.join p q ls k,e,rs,ks,L=>W.join (J (bif q then Q else q0) p (lks ks ls)) λj=>V k e rs ((p,j)::ks) L
 |.loop p q ls vs,e,rs,ks,L=>W.loop (T (bif q then Q else q0) p (lks ks ls)) (evs e vs) L
 |.jmp lab vs,e,rs,ks,L=>lkk ks lab (evs e vs) L
 |.cut p q ls vs,e,rs,ks,L=>C (bif q then Q else q0) p (lks ks ls) (evs e vs) L
 |.ret vs,e,rs,ks,L=>Q (retv e vs) L
 |.bad,_,_,_,_=>False
def Vz(t:RT)(e:List AV)(rs:List W.WR)(ks:List (Nat×Kn))(L:SH):Prop:=V Q T J C t e rs ks L
theorem V_call{f:X}{l:List X}{p:N3}{k:RT}{e:List AV}{rs:List W.WR}{j:List (Nat×Kn)}{L:SH}:V Q T J C (.op (.call f l) p k) e rs j L=wc (ev e f) (evs e l) L λv L=>Vz Q T J C k (ps p v e) rs j L:=rfl
theorem V_dcall{us:List Nat}{i:Nat}{f:X}{l:List X}{p:N3}{k:RT}{e:List AV}{rs:List W.WR}{j:List (Nat×Kn)}{L:SH}:V Q T J C (.dop us i (.call f l) p k) e rs j L=wd (usl rs us) i (ev e f) (evs e l) L λv L2 ns=>wn [] ns [] L.names λr=>Vz Q T J C k (ps p v e) (rc i r::rs) j L2:=rfl
theorem Vz_cut{p:Nat}{q:Bool}{ls:List Nat}{vs:List X}{e:List AV}{rs:List W.WR}{j:List (Nat×Kn)}{L:SH}:Vz Q T J C (.cut p q ls vs) e rs j L=C (bif q then Q else q0) p (lks j ls) (evs e vs) L:=rfl
theorem Vz_keep{l:List Nat}{k:RT}{e:List AV}{rs:List W.WR}{j:List (Nat×Kn)}{L:SH}:Vz Q T J C (.keep l k) e rs j L=Vz Q T J C k (sel e l) rs j L:=rfl
theorem Vz_clr{k:RT}{e:List AV}{rs:List W.WR}{j:List (Nat×Kn)}{L:SH}:Vz Q T J C (.clr k) e rs j L=Vz Q T J C k e [] j L:=rfl
theorem V_cnd{x:X}{a b:RT}{e:List AV}{rs:List W.WR}{j:List (Nat×Kn)}{L:SH}:V Q T J C (.cnd x a b) e rs j L=wk (ev e x) (Vz Q T J C a e rs j L) (Vz Q T J C b e rs j L):=rfl
end
def fp:List VY->Nat->VY
 |[],_=>⟨0,[],[],[],.bad⟩
 |a::l,k=>bif a.key==k then a else fp l k
def sp(p:VY)(vs:Vs):List AV:=(p.live++p.mis).map λt=>co p.live vs t
def jk:List Nat->List AV
 |[]=>[]
 |_::l=>.junk::jk l
end Cm
open Cm
def Pc(r:RF):Nat->R->Nat->List Kn->Vs->SH->Prop
 |0,_,_,_,_,_=>False
 |f+1,Q,p,kl,e,L=>V Q (λQ p kl vs L n=>Pc r f Q p (n::kl) (sp (fp r.ps p) vs) L) (λQ p kl vs L=>Pc r f Q p kl (sp (fp r.ps p) vs) L) (λQ p kl vs L=>Pc r f Q p kl vs L) (fp r.ps p).tree e [] (zp (fp r.ps p).labs kl) L
def Lp(r:RF)(f:Nat)(Q:R)(p:Nat)(kl:List Kn)(vs:Vs)(L:SH)(n:Kn):Prop:=Pc r f Q p (n::kl) (sp (fp r.ps p) vs) L
def Jp(r:RF)(f:Nat)(Q:R)(p:Nat)(kl:List Kn)(vs:Vs)(L:SH):Prop:=Pc r f Q p kl (sp (fp r.ps p) vs) L
theorem WL{r:RF}{Q:R}{f p a:Nat}{live mis labs:List Nat}{t:RT}{j:List Kn}{e:Vs}{L:SH}(h:fp r.ps p=⟨a,live,mis,labs,t⟩):Pc r (f+1) Q p j e L=V Q (Lp r f) (Jp r f) (Pc r f) t e [] (zp labs j) L:=by show V Q _ _ _ (fp r.ps p).tree e [] (zp (fp r.ps p).labs j) L=_;rw[h];rfl
theorem TW(live:List Nat)(vs:Vs)(t:Nat)(h:t∉live):co live vs t=.junk:=by
 induction live generalizing vs with
 |nil=>rfl
 |cons d ds u=>
  cases vs with
  |nil=>rfl
  |cons v vs=>
   have j:=not_or.1 λe=>h (aaj.2 e)
   simp only[co,if_neg λe=>j.1 (Eq.symm e)];exact u vs j.2
theorem JR:∀{live:List Nat} {vs:Vs},live.Nodup->vs.length=live.length->live.map (co live vs)=vs
 |[],[],_,_=>rfl
 |[],_::_,_,h=>by cases h
 |_::_,[],_,h=>by cases h
 | d::ds,v::vs,hn,h=>by have j:=abG.1 hn;have u:=JR (live:=ds) (vs:=vs) j.2 (by simpa using h);simp only[aai,co,if_true];congr 1;refine Eq.trans (List.map_congr_left λt ht=>?_) u;rw[if_neg (show d≠t from λe=>j.1 (e▸ht))]
theorem VZ{a:Nat}{live mis labs:List Nat}{t:RT}{vs:Vs}(hn:(live++mis).Nodup)(h:vs.length=live.length):sp ⟨a,live,mis,labs,t⟩ vs=vs++jk mis:=by
 obtain⟨G,E,j⟩:=List.nodup_append.1 hn;unfold sp;dsimp only;rw[List.map_append,JR G h];congr 1;clear hn E
 induction mis with
 |nil=>rfl
 |cons m M u=>rw[aai,TW live vs m λe=>j m e m (.head _) rfl,u λx D y B=>j x D y (.tail _ B)];rfl
theorem V0{r:RF}{Q:R}{f g p a:Nat}{live mis labs:List Nat}{t:RT}{j:List Kn}{e:Vs}{L:SH}{N:R->Prop}(k:N Q)(h:fp r.ps p=⟨a,live,mis,labs,t⟩:=by rfl)(u:g=f+1:=by rfl)(B:∀Q,V Q (Lp r f) (Jp r f) (Pc r f) t e [] (zp labs j) L=N Q:=by intro Q;dsimp only[Cm.jk,List.cons_append,List.nil_append,Cm.V_call,Cm.V_dcall,Cm.V_cnd,Cm.Vz_cut,Cm.Vz_keep,Cm.Vz_clr,Cm.sel,Cm.V,Cm.vo,Cm.vv,Cm.vd,Cm.vd2,Cm.mem,Cm.rcd,Cm.rec2,Cm.ev,Cm.evs,Cm.evo,Cm.evp,Cm.evq,Cm.nth,Cm.nthR,Cm.ps,Cm.lkk,Cm.lks,Cm.usl,Cm.zp,Cm.retv,Cm.bys,UInt8.reduceOfNat,Int.reduceOfNat,Int.reduceNegSucc,cond_true,cond_false,Nat.reduceBEq]<;>rfl):Pc r g Q p j e L:=by subst u;rw[WL h,B];exact k
theorem NP{Q:R}{T:R->Nat->List Kn->Vs->SH->Kn->Prop}{J C:R->Nat->List Kn->Vs->SH->Prop}{t:RT}{e:Vs}{rs:List W.WR}{j:List (Nat×Kn)}{L:SH}{N:R->Prop}(k:N Q)(u:∀Q,V Q T J C t e rs j L=N Q:=by intro Q;dsimp only[Cm.jk,List.cons_append,List.nil_append,Cm.V_call,Cm.V_dcall,Cm.V_cnd,Cm.Vz_cut,Cm.Vz_keep,Cm.Vz_clr,Cm.sel,Cm.V,Cm.vo,Cm.vv,Cm.vd,Cm.vd2,Cm.mem,Cm.rcd,Cm.rec2,Cm.ev,Cm.evs,Cm.evo,Cm.evp,Cm.evq,Cm.nth,Cm.nthR,Cm.ps,Cm.lkk,Cm.lks,Cm.usl,Cm.zp,Cm.retv,Cm.bys,UInt8.reduceOfNat,Int.reduceOfNat,Int.reduceNegSucc,cond_true,cond_false,Nat.reduceBEq]<;>rfl):Vz Q T J C t e rs j L:=by unfold Vz;rw[u];exact k
theorem V1{r:RF}{Q:R}{f g p a:Nat}{live mis labs:List Nat}{t:RT}{j:List Kn}{vs:Vs}{L:SH}{n:Kn}{N:R->Kn->Prop}(k:N Q n)(h:fp r.ps p=⟨a,live,mis,labs,t⟩:=by rfl)(hn:(live++mis).Nodup:=by decide)(hl:vs.length=live.length:=by rfl)(u:g=f+1:=by rfl)(B:∀Q n,V Q (Lp r f) (Jp r f) (Pc r f) t (vs++jk mis) [] (zp labs (n::j)) L=N Q n:=by intro Q n;dsimp only[Cm.jk,List.cons_append,List.nil_append,Cm.V_call,Cm.V_dcall,Cm.V_cnd,Cm.Vz_cut,Cm.Vz_keep,Cm.Vz_clr,Cm.sel,Cm.V,Cm.vo,Cm.vv,Cm.vd,Cm.vd2,Cm.mem,Cm.rcd,Cm.rec2,Cm.ev,Cm.evs,Cm.evo,Cm.evp,Cm.evq,Cm.nth,Cm.nthR,Cm.ps,Cm.lkk,Cm.lks,Cm.usl,Cm.zp,Cm.retv,Cm.bys,UInt8.reduceOfNat,Int.reduceOfNat,Int.reduceNegSucc,cond_true,cond_false,Nat.reduceBEq]<;>rfl):Lp r g Q p j vs L n:=by subst u;unfold Lp;rw[h,VZ hn hl,WL h,B];exact k
theorem V2{r:RF}{Q:R}{f g p a:Nat}{live mis labs:List Nat}{t:RT}{j:List Kn}{vs:Vs}{L:SH}{N:R->Prop}(k:N Q)(h:fp r.ps p=⟨a,live,mis,labs,t⟩:=by rfl)(hn:(live++mis).Nodup:=by decide)(hl:vs.length=live.length:=by rfl)(u:g=f+1:=by rfl)(B:∀Q,V Q (Lp r f) (Jp r f) (Pc r f) t (vs++jk mis) [] (zp labs j) L=N Q:=by intro Q;dsimp only[Cm.jk,List.cons_append,List.nil_append,Cm.V_call,Cm.V_dcall,Cm.V_cnd,Cm.Vz_cut,Cm.Vz_keep,Cm.Vz_clr,Cm.sel,Cm.V,Cm.vo,Cm.vv,Cm.vd,Cm.vd2,Cm.mem,Cm.rcd,Cm.rec2,Cm.ev,Cm.evs,Cm.evo,Cm.evp,Cm.evq,Cm.nth,Cm.nthR,Cm.ps,Cm.lkk,Cm.lks,Cm.usl,Cm.zp,Cm.retv,Cm.bys,UInt8.reduceOfNat,Int.reduceOfNat,Int.reduceNegSucc,cond_true,cond_false,Nat.reduceBEq]<;>rfl):Jp r g Q p j vs L:=by subst u;unfold Jp;rw[h,VZ hn hl,WL h,B];exact k
def V3:List (Nat×Hp)->Nat->Option (List Nat)
 |[],_=>none
 |(a,p)::l,k=>bif a % 3==1&&(a / 3) % 1000==k then some p.live else V3 l k
def zV(r:RF)(fn:Func):NA:=⟨V3 r.hs,λk=>(hpOf r (3*k)).live,λk=>(Cm.lk r.fz k).getD [],λk=>mks k (fn.body.getD .skip)⟩
where mks (k:Nat):Code->List Nat
 |.region id ops _=>bif id==k then cI ops.toList []else []
 |.seq a b|.cond _ a b=>mks k a++mks k b
 |.block _ b|.loop b=>mks k b
 |_=>[]
theorem aay{Q:R}{T:R->Nat->List Kn->Vs->SH->Kn->Prop}{J C:R->Nat->List Kn->Vs->SH->Prop}{t:RT}{e:Vs}{rs:List W.WR}{j:List (Nat×Kn)}{L:SH}(k:Vz Q T J C t e rs j L):Vz Q T J C t e rs j L:=k
theorem aaz{r:RF}{Q:R}{g p:Nat}{j:List Kn}{e:Vs}{L:SH}(k:Pc r g Q p j e L):Pc r g Q p j e L:=k
theorem aaA{r:RF}{Q:R}{g p:Nat}{j:List Kn}{e:Vs}{L:SH}(k:Jp r g Q p j e L):Jp r g Q p j e L:=k
theorem vw{A B:Prop}(k:B)(h:B->A:=by intro k;first|exact V0 k|exact V1 k|exact V2 k|exact NP k|fail):A:=h k
attribute [irreducible] Vz Pc Lp Jp
theorem fv(r:RF){f:FuncId}{fn:Func}{args:List AV}{L:SH}{Q:R}(j:Tryz.prog.funcs[f]? =some fn)(h:Pc r 20 Q 0 [] args L)(hb:fn.body=some (fn.body.getD .skip):=by kernel_rfl)(u:W.func Tryz.prog Fl (zV r fn) fn (fn.body.getD .skip) args L Q=Pc r 20 Q 0 [] args L:=by kernel_rfl):ac Tryz.prog f args L Q:=aax _ j hb u h
end
def Ze{o:Nat}{x:AV}{L:SH}{K:AV->Prop}(h:Qi o x L K):Qi o x L K:=h
def WM{o:Nat}{x:AV}{L:SH}{K:AV->Prop}(h:OW o x L K):OW o x L K:=h
def aaB{x:AV}{L:SH}{K:AV->Prop}(h:wl x L K):wl x L K:=h
def Zf{n:Nat}{x i:AV}{L:SH}{K:AV->Prop}(h:Yo n x i L K):Yo n x i L K:=h
def Zg{n:Nat}{x i:AV}{L:SH}{K:AV->Prop}(h:Yp n x i L K):Yp n x i L K:=h
def WN{n o:Nat}{x i:AV}{L:SH}{K:AV->Prop}(h:OX n o x i L K):OX n o x i L K:=h
def aaC{us:List W.WR}{i:Nat}{x:AV}{L:SH}{K:AV->Fp->Prop}(h:dl us i x L K):dl us i x L K:=h
def Zh{o:Nat}{x:AV}{us:List W.WR}{i:Nat}{L:SH}{K:AV->Fp->Prop}(h:Yq o x us i L K):Yq o x us i L K:=h
def aaD{us:List W.WR}{i n:Nat}{x:AV}{L:SH}{K:AV->Fp->Prop}(h:dr us i n x L K):dr us i n x L K:=h
def aaE{us:List W.WR}{i n:Nat}{x j:AV}{L:SH}{K:AV->Fp->Prop}(h:di us i n x j L K):di us i n x j L K:=h
def st{P Q:Prop}(k:Q)(h:Q->P:=by
 intro k
 first
 |(refine Ze ?_;first|exact VU k|exact VV k|exact QZ k)
 |(refine kH ?_;first|exact VG k|exact QI k|exact VH k|exact VF k|exact VE k|exact VD k|exact ur k|exact QJ k|exact kI k|exact QK k|exact VI k|exact VJ k|exact VK k|exact VW k|exact VX k|exact VN k|exact VO k)
 |(refine WF ?_;first|exact JI k|exact JK k)
 |(refine Y3 ?_;first|exact Hq k|exact Hr k|exact Ha k)
 |(refine aaB ?_;first|exact TV k|exact Y7 k|exact WE k)
 |(refine VS ?_;first|exact Hq k|exact Hr k|exact Ha k)
 |(refine WA ?_;first|exact QU k|exact QV k)
 |(refine WM ?_;first|exact wnfl_q k|exact WH k|exact Q0 k)
 |(refine Y0 ?_;first|exact TK k|exact TJ k|exact AU k|exact NH k|exact Hl k)
 |(refine WN ?_;first|exact WI k|exact Q3 k)
 |(refine Zg ?_;first|exact Y9 k|exact VR k)
 |(refine Zf ?_;first|exact Y8 k|exact VQ k)
 |(refine TO ?_;first|exact xM k|exact xL k)
 |(refine QY ?_;first|exact AW k|exact b_row_i k|exact NO k|exact JP k|exact JQ k)
 |(refine Zh ?_;first|exact Zb k|exact VT k)
 |(refine aaC ?_;first|exact Za k|exact Y4 k)
 |(refine aaD ?_;first|exact aav k|exact Y5 k)
 |(refine aaE ?_;first|exact aaw k|exact WG k)
 |(refine VL ?_;first|exact Hq k|exact Hr k|exact Ha k)
 |(refine QQ ?_;first|exact QW k|exact QX k|exact QD k)
 |(refine TN ?_;first|exact JG k|exact QT k|exact JH k)
 |(refine YZ ?_;first|exact vJ k|exact TQ k|exact TR k|exact cN k|exact TS k)
 |(refine h_row ?_;first|exact AW k|exact b_row_i k|exact NO k|exact JP k|exact JQ k)
 |(refine Y1 ?_;exact Y2 k)
 |(refine BL ?_;exact Hs k)
 |exact aau (uq k)
 |(refine Wz ?_;exact uq k)
 |(refine QR ?_;first|exact NG k|exact a_nil_q k|exact a_nil_f k)
 |(refine aap ?_;first|exact YW k|exact YX k)
 |(refine WB ?_;first|exact TT k|exact b_frz_s k)
 |(refine TP ?_;first|exact JL k|exact zu k|exact JM k)
 |(refine h_idxP ?_;first|exact b_idxP_p k|exact b_idxP_q k)
 |(refine h_bin ?_;first|exact VG k|exact QI k|exact VH k|exact VF k|exact VE k|exact VD k|exact ur k|exact QJ k|exact kI k|exact QK k|exact VI k|exact VJ k|exact VK k|exact VW k|exact VX k|exact VN k|exact VO k)
 |(refine h_cond ?_;first|exact JI k|exact JK k)
 |exact WJ k
 |exact BN k
 |exact Q4 (LZ k)
 |exact aat (NN k)
 |exact Y6 k
 |exact aao k
 |exact Wy k
 |exact TU k
 |(first|exact wo1_ok k|exact wo2_ok k|exact wo3_ok k|exact wo4_ok k|exact wo5_ok k|exact wo6_ok k|exact wo7_ok k|exact wo8_ok k|exact wo9_ok k|exact wo10_ok k|exact wo11_ok k|exact wo12_ok k|exact wo13_ok k|exact wo14_ok k|exact wo15_ok k|exact wo16_ok k)
 |exact Ww k
 |exact a_convS k
 |exact b_fld k
 |exact Wx k
 |exact LZ k
 |exact NN k
 |((with_reducible refine aay ?_);exact NP k)
 |((with_reducible refine h_lp ?_);exact V1 k)
 |((with_reducible refine aaA ?_);exact V2 k)
 |((with_reducible refine aaz ?_);exact V0 k)
 |fail):P:=h k
def sb{P:Prop}{Q:Nat->Prop}{N:Nat->Prop}(k:∀b,N b->Q b)(h:(∀b,N b->Q b)->P:=by
 intro k
 first
 |(refine VM ?_;exact VP k)
 |(refine JE ?_;exact JN k)
 |(refine JD ?_;exact JO k)
 |(exact Hg k)
 |fail):P:=h k
def sx{P Q:Prop}(k:Q)(h:Q->P:=by
 intro k
 first
 |exact st k
 |exact Zc (pm acO k)
 |exact Zd (pm acO k)
 |fail):P:=h k
def sy{P Q:Prop}(k:Q)(h:Q->P:=by
 intro k
 first
 |exact sx k
 |(refine VM ?_;exact VP k)
 |(refine JE ?_;exact JN k)
 |(refine JD ?_;exact JO k)
 |(exact Hg k)
 |fail):P:=h k
def L6{P:Program}{f:FuncId}{args:List AV}{v:AV}(h:∀Q:R,(∀L,Q v L)->ac P f args [] Q):aq P f args v:=ac.fz (h _ λL=>⟨_,[],ax.all (.refl _),rfl,rfl⟩)
def NQ{P:Program}{f:FuncId}{args:List AV}{α:Type}(E:α->AV){x:α}(h:∀Q:R,(∀b L,x=b->Q (E b) L)->ac P f args [] Q):aq P f args (E x):=ac.fz (h _ λb L e=>⟨_,[],ax.all (.refl _),by rw[e],rfl⟩)
def OY{P:Program}{f:FuncId}{args:List AV}{v:AV}(h:∀Q:R,(∀w L,Fz L w v->Q w L)->ac P f args [] Q):aq P f args v:=ac.fz (h _ λw L e=>⟨_,[],ax.all e,rfl,rfl⟩)
def s2{P D B G E:Prop}(u:G->D)(j:E->B)(h:(G->D)->(E->B)->P:=by
 intro u j
 first
 |(refine WF ?_;exact QH u j)
 |(refine Y3 ?_;first|exact Hb u j|exact Hd u j)
 |(refine VS ?_;first|exact Hb u j|exact Hd u j)
 |(refine VL ?_;first|exact Hb u j|exact Hd u j)
 |(refine QQ ?_;first|exact QE u j|exact QF u j)
 |(refine h_cond ?_;exact QH u j)
 |fail):P:=h u j
def mm{α:Type}{a:α}{l:List α}(h:a∈l:=by first|exact .head _|exact .tail _ (.head _)|exact .tail _ (.tail _ (.head _))|exact .tail _ (.tail _ (.tail _ (.head _)))|exact .tail _ (.tail _ (.tail _ (.tail _ (.head _))))|exact .tail _ (.tail _ (.tail _ (.tail _ (.tail _ (.head _)))))|exact .tail _ (.tail _ (.tail _ (.tail _ (.tail _ (.tail _ (.head _))))))|exact .tail _ (.tail _ (.tail _ (.tail _ (.tail _ (.tail _ (.tail _ (.head _)))))))|exact .tail _ (.tail _ (.tail _ (.tail _ (.tail _ (.tail _ (.tail _ (.tail _ (.head _))))))))|exact .tail _ (.tail _ (.tail _ (.tail _ (.tail _ (.tail _ (.tail _ (.tail _ (.tail _ (.head _)))))))))|exact .tail _ (.tail _ (.tail _ (.tail _ (.tail _ (.tail _ (.tail _ (.tail _ (.tail _ (.tail _ (.head _))))))))))|exact .tail _ (.tail _ (.tail _ (.tail _ (.tail _ (.tail _ (.tail _ (.tail _ (.tail _ (.tail _ (.tail _ (.head _)))))))))))|exact .tail _ (.tail _ (.tail _ (.tail _ (.tail _ (.tail _ (.tail _ (.tail _ (.tail _ (.tail _ (.tail _ (.tail _ (.head _))))))))))))):a∈l:=h
def rp{P:Prop}(h:P:=by repeat constructor):P:=h
inductive aB where
 |mk (op n:Int) (name:bU) (l:List aB)
def aB.op:aB->Int|.mk a _ _ _=>a
def aB.n:aB->Int|.mk _ a _ _=>a
def aB.name:aB->bU|.mk _ _ a _=>a
def aB.l:aB->List aB|.mk _ _ _ a=>a
mutual
def aB.enc:aB->List AV
 |.mk op n name l=>[.int .i64 op,.int .i64 n,.str name,.lst (aB.encs l)]
def aB.encs:List aB->List (List AV)
 |[]=>[]
 |x::l=>x.enc::aB.encs l
end
def aB.encs_eq:∀l:List aB,aB.encs l=l.map aB.enc
 |[]=>rfl
 |x::l=>by rw[aB.encs,aB.encs_eq l];rfl
def aB.row(x:aB):List AV:=[.acU x.op,.acU x.n,.str x.name,.lst (x.l.map aB.enc)]
def aB.enc_row(x:aB):x.enc=x.row:=by cases x;rw[aB.enc,aB.encs_eq];rfl
def BO{l:List aB}{i:Nat}(h:i<l.length):(l.map aB.enc)[i]? =some [.acU l[i].op,.acU l[i].n,.str l[i].name,.lst (l[i].l.map aB.enc)]:=by rw[aj h,aB.enc_row];rfl
def z0(op:Int):Nat:=if op=0 then 2^50 else 0
def z3(op:Int):Nat:=if op=3 then 2^50 else 0
def BP(op:Int)(name:bU)(n:Nat):Nat:=(if n=0 then(if op=0\/op=1\/op=2 then 0 else 2^50)else 0)+(if name=[113]then 0 else z3 op)
mutual
def aB.wt:aB->Nat
 |.mk op _ name l=>1+name.length+BP op name l.length+aB.wts l
def aB.wts:List aB->Nat
 |[]=>0
 |x::l=>x.wt+z0 x.op+aB.wts l
end
def aB.wt_eq(x:aB):x.wt=1+x.name.length+BP x.op x.name x.l.length+aB.wts x.l:=by cases x;rfl
def aB.wts_get0:∀(l:List aB) (i:Nat) (h:i<l.length),l[i].wt+z0 l[i].op<=aB.wts l
 |x::l,0,_=>by simp[aB.wts]
 |x::l,i+1,h=>by have:=aB.wts_get0 l i (by simpa using h);simp only[List.getElem_cons_succ,aB.wts];omega
def aB.wts_get(l:List aB)(i:Nat)(h:i<l.length):l[i].wt<=aB.wts l:=by have:=aB.wts_get0 l i h;omega
def aB.wts_len:∀l:List aB,l.length<=aB.wts l
 |[]=>Fd _
 |x::l=>by have:=aB.wts_len l;have:=x.wt_eq;simp only[abi,aB.wts];omega
def aB.kid(x:aB){i:Nat}(h:i<x.l.length):x.l[i].wt<x.wt:=by have:=aB.wts_get x.l i h;have:=x.wt_eq;omega
def aB.len(x:aB):x.l.length<x.wt:=by have:=aB.wts_len x.l;have:=x.wt_eq;omega
inductive ae where
 |mk (op line:Int) (name arg:bU) (index:List aB) (expr:aB) (body els:List ae)
def ae.op:ae->Int|.mk a _ _ _ _ _ _ _=>a
def ae.line:ae->Int|.mk _ a _ _ _ _ _ _=>a
def ae.name:ae->bU|.mk _ _ a _ _ _ _ _=>a
def ae.arg:ae->bU|.mk _ _ _ a _ _ _ _=>a
def ae.index:ae->List aB|.mk _ _ _ _ a _ _ _=>a
def ae.expr:ae->aB|.mk _ _ _ _ _ a _ _=>a
def ae.body:ae->List ae|.mk _ _ _ _ _ _ a _=>a
def ae.els:ae->List ae|.mk _ _ _ _ _ _ _ a=>a
mutual
def ae.enc:ae->List AV
 |.mk op line name arg index e body els=>[.int .i64 op,.int .i64 line,.str name,.str arg,.lst (index.map aB.enc),.int .i64 e.op,.int .i64 e.n,.str e.name,.lst (e.l.map aB.enc),.lst (ae.encs body),.lst (ae.encs els)]
def ae.encs:List ae->List (List AV)
 |[]=>[]
 |x::l=>x.enc::ae.encs l
end
def ae.encs_eq:∀l:List ae,ae.encs l=l.map ae.enc
 |[]=>rfl
 |x::l=>by rw[ae.encs,ae.encs_eq l];rfl
def ae.row(x:ae):List AV:=[.acU x.op,.acU x.line,.str x.name,.str x.arg,.lst (x.index.map aB.enc),.acU x.expr.op,.acU x.expr.n,.str x.expr.name,.lst (x.expr.l.map aB.enc),.lst (x.body.map ae.enc),.lst (x.els.map ae.enc)]
def ae.enc_row(x:ae):x.enc=x.row:=by cases x;rw[ae.enc,ae.encs_eq,ae.encs_eq];rfl
def Gb{l:List ae}{i:Nat}(h:i<l.length):(l.map ae.enc)[i]? =some [.acU l[i].op,.acU l[i].line,.str l[i].name,.str l[i].arg,.lst (l[i].index.map aB.enc),.acU l[i].expr.op,.acU l[i].expr.n,.str l[i].expr.name,.lst (l[i].expr.l.map aB.enc),.lst (l[i].body.map ae.enc),.lst (l[i].els.map ae.enc)]:=by rw[aj h,ae.enc_row];rfl
def zv(op eop:Int):Nat:=if op=1\/op=2\/op=3\/op=14 then z0 eop else 0
def zi(name:bU)(n:Nat):Nat:=if n=0\/name=[113]then 0 else 2^50
mutual
def ae.wt:ae->Nat
 |.mk op _ name arg index e body els=>1+name.length+arg.length+aB.wts index+e.wt+zv op e.op+zi name index.length+ae.wts body+ae.wts els
def ae.wts:List ae->Nat
 |[]=>0
 |x::l=>x.wt+ae.wts l
end
def ae.wt_eq(x:ae):x.wt=1+x.name.length+x.arg.length+aB.wts x.index+x.expr.wt+zv x.op x.expr.op+zi x.name x.index.length+ae.wts x.body+ae.wts x.els:=by cases x;rfl
def ae.wts_get:∀(l:List ae) (i:Nat) (h:i<l.length),l[i].wt<=ae.wts l
 |x::l,0,_=>by simp[ae.wts]
 |x::l,i+1,h=>by have:=ae.wts_get l i (by simpa using h);simp only[List.getElem_cons_succ,ae.wts];omega
def ae.wts_len:∀l:List ae,l.length<=ae.wts l
 |[]=>Fd _
 |x::l=>by have:=ae.wts_len l;have:=x.wt_eq;simp only[abi,ae.wts];omega
structure aZ where
 kind:Int
 line:Int
 name:bU
 size:Int
 init:Int
 on:bU
 deriving Inhabited
def aZ.enc(d:aZ):List AV:=[.acU d.kind,.acU d.line,.str d.name,.acU d.size,.acU d.init,.str d.on]
structure am where
 name:bU
 line:Int
 locals:List bU
 body:List ae
def am.enc(t:am):List AV:=[.str t.name,.acU t.line,.lst (t.locals.map ay),.lst (t.body.map ae.enc)]
structure cJ where
 decls:List aZ
 threads:List am
def cJ.enc(p:cJ):List AV:=[.lst (p.decls.map aZ.enc),.lst (p.threads.map am.enc)]
def aZ.wt(d:aZ):Nat:=1+d.name.length+d.on.length
def am.wt(t:am):Nat:=1+t.name.length+t.locals.length+(t.locals.map List.length).sum+ae.wts t.body
def cJ.wt(p:cJ):Nat:=(p.decls.map aZ.wt).sum+(p.threads.map am.wt).sum
def AX{α:Type}{f:α->Nat}:∀(l:List α) (i:Nat) (h:i<l.length),f l[i]<=(l.map f).sum
 |x::l,0,_=>by simp
 |x::l,i+1,h=>by have:=AX (f:=f) l i (by simpa using h);simp only[List.getElem_cons_succ,aai,acf];omega
def Ht{α:Type}{f:α->Nat}(j:∀x,1<=f x):∀l:List α,l.length<=(l.map f).sum
 |[]=>Fd _
 |x::l=>by have:=Ht j l;have:=j x;simp only[abi,aai,acf];omega
def JS{α:Type}{p:α->Prop}{l:List α}{i:Nat}(h:i<l.length)(u:∀x∈l.take i,p x)(h2:p l[i]):∀x∈l.take (i+1),p x:=by
 rw[Fn h];intro x j;rcases aak.1 j with j|j
 .exact u x j
 .simp at j;subst j;exact h2
def JT(n:Nat)(G:Nat->Prop)(S:Nat->List AV×SH){B:List AV->SH->W.Kn->Prop}{vs:List AV}{L:SH}(O:n<2^62)(h0:G 0)(N:vs=(S 0).1)(Z:L=(S 0).2)
  (h1:∀i,i<n->decide ((i:Int)<(n:Int))=true->IntKind.i64.wrap ((i:Int)+1)=((i+1:Nat):Int)->G i->∀u:W.Kn,(G (i+1)->∀j D,ax j D (S (i+1)).1 (S (i+1)).2->u j D)->B (S i).1 (S i).2 u)
  (h2:∀i,i=n->decide ((i:Int)<(n:Int))=false->G i->∀u:W.Kn,B (S i).1 (S i).2 u):W.loop B vs L:=by
 refine qi n S G h0 N Z λi hi E=>?_
 rcases LE i n with h|h
 .exact h1 i h (aS h) (av h O) E _ λY j D M=>⟨i+1,acN,acN,Y,M⟩
 .exact h2 i acN (aW h) E _
def cT(n:Nat)(G:Nat->Prop)(S:Nat->List AV){B:List AV->SH->W.Kn->Prop}{vs:List AV}{L:SH}(E:n<2^62)(h0:G 0)(u:vs=S 0)
  (Z:∀i,i<n->decide ((i:Int)<(n:Int))=true->IntKind.i64.wrap ((i:Int)+1)=((i+1:Nat):Int)->G i->∀j:W.Kn,(G (i+1)->j (S (i+1)) L)->B (S i) L j)
  (h2:∀i,i=n->decide ((i:Int)<(n:Int))=false->G i->∀j:W.Kn,B (S i) L j):W.loop B vs L:=
 JT n G (λi=>(S i,L)) E h0 u rfl (λi h O M Y j D=>Z i h O M Y j λN=>D N _ _ (.refl _ _)) h2
def eO{α:Type}(l:List α)(p:α->Bool)(S:Nat->List AV){B:List AV->SH->W.Kn->Prop}{vs:List AV}{L:SH}(M:l.length<2^62)(E:vs=S 0)
  (O:∀i (h:i<l.length),decide ((i:Int)<(l.length:Int))=true->IntKind.i64.wrap ((i:Int)+1)=((i+1:Nat):Int)->(∀x∈l.take i,p x=false)->∀j:W.Kn,(p l[i]=false->j (S (i+1)) L)->B (S i) L j)
  (h2:∀i,i=l.length->decide ((i:Int)<(l.length:Int))=false->(∀x∈l,p x=false)->∀j:W.Kn,B (S i) L j):W.loop B vs L:=
 cT l.length (λi=>∀x∈l.take i,p x=false) S M acQ E (λi h D N u j G=>O i h D N u j λhp=>G (JS h u hp))
  λi e D u j=>h2 i e D (by rw[aaT acN]at u;exact u) j
def WO{α:Type}{p:α->Bool}{l:List α}(h:∀x∈l,p x=false):l.any p=false:=by simpa using h
def TX{α:Type}{p:α->Bool}{l:List α}{i:Nat}(h:i<l.length)(hp:p l[i]=true):l.any p=true:=acw.2 ⟨_,LT h,hp⟩
def L7{α:Type}{p:α->Bool}{l:List α}{i:Nat}(h:i<l.length)(hp:p l[i]=false):l.all p=false:=List.all_eq_false.2 ⟨_,LT h,by simp[hp]⟩
def NR{s:bU}{k:IntKind}{i:Nat}{K:AV->Prop}(h:K (.int .u8 (s.getD i 0).toNat))(j:i<s.length:=by assumption):W.ixS (.str s) (.int k (i:Int)) K:=⟨s,k,i,s[i],rfl,rfl,acN,by simp[j],by simpa[List.getD,j]using h⟩
def lm{α:Type}(p:α->Bool):List α->Nat->Int
 |[],_=>-1
 |x::l,i=>if p x then(i:Int)else lm p l (i+1)
def gz{α:Type}{p:α->Bool}:∀{l:List α} {i:Nat},(∀x∈l,p x=false)->lm p l i=-1
 |[],_,_=>rfl
 |x::l,i,h=>by rw[lm,h x acQ];exact gz λy j=>h y (by simp[j])
def NS{α:Type}{p:α->Bool}:∀{l:List α} {j k:Nat} (u:k<l.length),(∀x∈l.take k,p x=false)->p l[k]=true->lm p l j=(j+k:Nat)
 |x::l,j,0,u,h,hp=>by simp at hp;simp[lm,hp]
 | x::l,j,k+1,u,h,hp=>by rw[lm,h x acQ];have:=NS (p:=p) (l:=l) (j:=j+1) (k:=k) (by simpa using u) (λy B=>h y (by simp[B])) (by simpa using hp);simp only[abj,if_false,this];congr 1;omega
def mR{α:Type}{p:α->Bool}{l:List α}{k:Nat}(j:k<l.length)(h:∀x∈l.take k,p x=false)(hp:p l[k]=true):lm p l 0=k:=by rw[NS j h hp];simp
section
section
variable {L:SH} {K:AV->Prop} {KL:R} {KS:SH->Prop}
end
theorem WS{α:Type}(S:α->List AV×SH)(m:α->Nat)(G:α->Prop){B:List AV->SH->W.Kn->Prop}{vs:List AV}{L:SH}(u:α)(Z:G u)(E:vs=(S u).1)(N:L=(S u).2)
  (h:∀a,G a->∀D:W.Kn,(∀j,G j->m j<m a->D (S j).1 (S j).2)->B (S a).1 (S a).2 D):W.loop B vs L:=
 Tz S m G u Z E N λa M=>h a M _ λj Y O=>⟨j,Y,O,.refl _ _⟩
end
def qk:RF:=nv (bQ Tryz.prog Tryz.f144 [] [])
abbrev BQ(a:AV)(L:SH)(Q:R):Prop:=Pc qk 20 Q 0 [] [a] L
def pi(j:AV)(L:SH)(Q:R)(h:BQ j L Q):ac Tryz.prog 144 [j] L Q:=
 fv qk Tryz.func144 h
def tm:RF:=nv (bQ Tryz.prog Tryz.f169 [] [])
abbrev Em(a:AV)(L:SH)(Q:R):Prop:=Pc tm 20 Q 0 [] [a] L
def ql(j:AV)(L:SH)(Q:R)(h:Em j L Q):ac Tryz.prog 169 [j] L Q:=
 fv tm Tryz.func169 h
def tp:RF:=nv (bQ Tryz.prog Tryz.f146 [] [])
abbrev En(a:AV)(L:SH)(Q:R):Prop:=Pc tp 20 Q 0 [] [a] L
def qm(j:AV)(L:SH)(Q:R)(h:En j L Q):ac Tryz.prog 146 [j] L Q:=
 fv tp Tryz.func146 h
def mS:RF:=nv (bQ Tryz.prog Tryz.f168 [] [])
abbrev xO(L:SH)(Q:R):Prop:=Pc mS 20 Q 0 [] [] L
def lK(L:SH)(Q:R)(h:xO L Q):ac Tryz.prog 168 [] L Q:=
 fv mS Tryz.func168 h
def lL:RF:=nv (bQ Tryz.prog Tryz.f145 [(9,⟨[0,3,4],[],true,[]⟩)] [])
abbrev vK(a:AV)(L:SH)(Q:R):Prop:=Pc lL 20 Q 0 [] [a] L
def kJ(j:AV)(L:SH)(Q:R)(h:vK j L Q):ac Tryz.prog 145 [j] L Q:=
 fv lL Tryz.func145 h
def qn:RF:=nv (bQ Tryz.prog Tryz.f117 [(12,⟨[0,3],[],true,[]⟩)] [])
abbrev BR(a:AV)(L:SH)(Q:R):Prop:=Pc qn 20 Q 0 [] [a] L
def jD(j:AV)(L:SH)(Q:R)(h:BR j L Q):ac Tryz.prog 117 [j] L Q:=
 fv qn Tryz.func117 h
def mT:RF:=nv (bQ Tryz.prog Tryz.f210 [] [])
abbrev xP(a:AV)(L:SH)(Q:R):Prop:=Pc mT 20 Q 0 [] [a] L
def vL(j:AV)(L:SH)(Q:R)(h:xP j L Q):ac Tryz.prog 210 [j] L Q:=
 fv mT Tryz.func210 h
def kK:RF:=nv (bQ Tryz.prog Tryz.f205 [(15,⟨[1,4],[],true,[]⟩)] [(0,[1])])
abbrev ut(a:AV)(L:SH)(Q:R):Prop:=Pc kK 20 Q 0 [] [a] L
def r8(j:AV)(L:SH)(Q:R)(h:ut j L Q):ac Tryz.prog 205 [j] L Q:=
 fv kK Tryz.func205 h
def tq:RF:=nv (bQ Tryz.prog Tryz.f206 [] [(0,[1])])
abbrev Eo(a:AV)(L:SH)(Q:R):Prop:=Pc tq 20 Q 0 [] [a] L
def BS(j:AV)(L:SH)(Q:R)(h:Eo j L Q):ac Tryz.prog 206 [j] L Q:=
 fv tq Tryz.func206 h
def cZ:RF:=nv (bQ Tryz.prog Tryz.f197 [(3902,⟨[1],[],true,[]⟩),(3002,⟨[1],[],true,[]⟩),(2402,⟨[1],[],true,[]⟩),(1802,⟨[1],[],true,[]⟩),(902,⟨[1],[],true,[]⟩)] [(0,[1])])
abbrev r9(Q:R)(a:SH)(b:AV):Prop:=Pc cZ 15 Q 3902 [] [b] a
abbrev sd(Q:R)(a:SH)(b:AV):Prop:=Pc cZ 16 Q 3002 [] [b] a
abbrev sf(Q:R)(a:SH)(b:AV):Prop:=Pc cZ 17 Q 2402 [] [b] a
abbrev sg(Q:R)(a:SH)(b:AV):Prop:=Pc cZ 18 Q 1802 [] [b] a
abbrev si(Q:R)(a:SH)(b:AV):Prop:=Pc cZ 19 Q 902 [] [b] a
abbrev uu(a:AV)(L:SH)(Q:R):Prop:=Pc cZ 20 Q 0 [] [a] L
def sj(j:AV)(L:SH)(Q:R)(h:uu j L Q):ac Tryz.prog 197 [j] L Q:=
 fv cZ Tryz.func197 h
def jP:RF:=nv (bQ Tryz.prog Tryz.f178 [(6,⟨[0,3],[],true,[]⟩)] [])
abbrev so(a:AV)(L:SH)(Q:R):Prop:=Pc jP 20 Q 0 [] [a] L
def qo(j:AV)(L:SH)(Q:R)(h:so j L Q):ac Tryz.prog 178 [j] L Q:=
 fv jP Tryz.func178 h
def fH:RF:=nv (bQ Tryz.prog Tryz.f177 [(1502,⟨[1],[],true,[]⟩),(902,⟨[1],[],true,[]⟩)] [(0,[1])])
abbrev ss(Q:R)(a:SH)(b:AV):Prop:=Pc fH 18 Q 1502 [] [b] a
abbrev su(Q:R)(a:SH)(b:AV):Prop:=Pc fH 19 Q 902 [] [b] a
abbrev uv(a:AV)(L:SH)(Q:R):Prop:=Pc fH 20 Q 0 [] [a] L
def sw(j:AV)(L:SH)(Q:R)(h:uv j L Q):ac Tryz.prog 177 [j] L Q:=
 fv fH Tryz.func177 h
def qp:RF:=nv (bQ Tryz.prog Tryz.f153 [(33,⟨[1,4,5,6],[21],true,[]⟩),(21,⟨[1,4],[],true,[]⟩),(6,⟨[1,3],[],true,[]⟩)] [(0,[1]),(9,[5])])
abbrev BT(a:AV)(L:SH)(Q:R):Prop:=Pc qp 20 Q 0 [] [a] L
def zW(j:AV)(L:SH)(Q:R)(h:BT j L Q):ac Tryz.prog 153 [j] L Q:=
 fv qp Tryz.func153 h
def BU:RF:=nv (bQ Tryz.prog Tryz.f118 [(6,⟨[0,1,5],[],true,[]⟩)] [])
abbrev L8(a b:AV)(L:SH)(Q:R):Prop:=Pc BU 20 Q 0 [] [a,b] L
def lM(u j:AV)(L:SH)(Q:R)(h:L8 u j L Q):ac Tryz.prog 118 [u,j] L Q:=
 fv BU Tryz.func118 h
def qq:RF:=nv (bQ Tryz.prog Tryz.f179 [(6,⟨[0,1,5],[],true,[]⟩)] [])
abbrev BV(a b:AV)(L:SH)(Q:R):Prop:=Pc qq 20 Q 0 [] [a,b] L
def zX(u j:AV)(L:SH)(Q:R)(h:BV u j L Q):ac Tryz.prog 179 [u,j] L Q:=
 fv qq Tryz.func179 h
def mU:RF:=nv (bQ Tryz.prog Tryz.f180 [(6,⟨[0,1,5],[],true,[]⟩)] [])
abbrev xQ(a b:AV)(L:SH)(Q:R):Prop:=Pc mU 20 Q 0 [] [a,b] L
def vM(u j:AV)(L:SH)(Q:R)(h:xQ u j L Q):ac Tryz.prog 180 [u,j] L Q:=
 fv mU Tryz.func180 h
def qr:RF:=nv (bQ Tryz.prog Tryz.f207 [(60055,⟨[3,7,56],[],true,[]⟩)] [(0,[3])])
abbrev BW(a b c:AV)(L:SH)(Q:R):Prop:=Pc qr 20 Q 0 [] [a,b,c] L
def zY(B u j:AV)(L:SH)(Q:R)(h:BW B u j L Q):ac Tryz.prog 207 [B,u,j] L Q:=
 fv qr Tryz.func207 h
def vN:RF:=nv (bQ Tryz.prog Tryz.f200 [] [(0,[5])])
abbrev Hu(a b c d e:AV)(L:SH)(Q:R):Prop:=Pc vN 20 Q 0 [] [a,b,c,d,e] L
def tu(E D B u j:AV)(L:SH)(Q:R)(h:Hu E D B u j L Q):ac Tryz.prog 200 [E,D,B,u,j] L Q:=
 fv vN Tryz.func200 h
def tv:RF:=nv (bQ Tryz.prog Tryz.f208 [(9,⟨[1,4,5,6],[],true,[]⟩)] [(0,[1])])
abbrev Ep(a:AV)(L:SH)(Q:R):Prop:=Pc tv 20 Q 0 [] [a] L
def BX(j:AV)(L:SH)(Q:R)(h:Ep j L Q):ac Tryz.prog 208 [j] L Q:=
 fv tv Tryz.func208 h
def mg:RF:=nv (bQ Tryz.prog Tryz.f209 [(24,⟨[1,3,5,7,8],[],true,[]⟩),(24019,⟨[1,3,5,7],[],true,[]⟩)] [(0,[3,5])])
abbrev BY(Q:R):Vs->SH->Prop:=Jp mg 19 Q 24019 []
abbrev Er(a b c:AV)(L:SH)(Q:R):Prop:=Pc mg 20 Q 0 [] [a,b,c] L
def BZ(B u j:AV)(L:SH)(Q:R)(h:Er B u j L Q):ac Tryz.prog 209 [B,u,j] L Q:=
 fv mg Tryz.func209 h
def vO:RF:=nv (bQ Tryz.prog Tryz.f201 [] [(0,[3,5])])
abbrev Hv(a b c:AV)(L:SH)(Q:R):Prop:=Pc vO 20 Q 0 [] [a,b,c] L
def Es(B u j:AV)(L:SH)(Q:R)(h:Hv B u j L Q):ac Tryz.prog 201 [B,u,j] L Q:=
 fv vO Tryz.func201 h
def pj:RF:=nv (bQ Tryz.prog Tryz.f202 [] [])
abbrev zZ(a:AV)(L:SH)(Q:R):Prop:=Pc pj 20 Q 0 [] [a] L
def xR(j:AV)(L:SH)(Q:R)(h:zZ j L Q):ac Tryz.prog 202 [j] L Q:=
 fv pj Tryz.func202 h
def B0:RF:=nv (bQ Tryz.prog Tryz.f199 [] [])
abbrev L9(a b:AV)(L:SH)(Q:R):Prop:=Pc B0 20 Q 0 [] [a,b] L
def JU(u j:AV)(L:SH)(Q:R)(h:L9 u j L Q):ac Tryz.prog 199 [u,j] L Q:=
 fv B0 Tryz.func199 h
def tw:RF:=nv (bQ Tryz.prog Tryz.f156 [(9,⟨[0,3,4],[],true,[]⟩)] [])
abbrev Et(a:AV)(L:SH)(Q:R):Prop:=Pc tw 20 Q 0 [] [a] L
def B6(j:AV)(L:SH)(Q:R)(h:Et j L Q):ac Tryz.prog 156 [j] L Q:=
 fv tw Tryz.func156 h
def tz:RF:=nv (bQ Tryz.prog Tryz.f23 [] [(1,[1]),(2,[3])])
abbrev Ev(L:SH)(Q:R):Prop:=Pc tz 20 Q 0 [] [] L
def B8(L:SH)(Q:R)(h:Ev L Q):ac Tryz.prog 23 [] L Q:=
 fv tz Tryz.func23 h
def jh:RF:=nv (bQ Tryz.prog Tryz.f13 [(21,⟨[1,2,3,5],[],true,[]⟩),(9,⟨[1,2,3,4],[],true,[]⟩)] [(0,[1])])
abbrev B9(Q:R):Vs->SH->Kn->Prop:=Lp jh 18 Q 21 []
abbrev Ca(Q:R):Vs->SH->Kn->Prop:=Lp jh 19 Q 9 []
abbrev Ew(a:AV)(L:SH)(Q:R):Prop:=Pc jh 20 Q 0 [] [a] L
def Cb(j:AV)(L:SH)(Q:R)(h:Ew j L Q):ac Tryz.prog 13 [j] L Q:=
 fv jh Tryz.func13 h
def vQ:RF:=nv (bQ Tryz.prog Tryz.f16 [(6,⟨[2,3,4,7],[],true,[]⟩)] [(0,[3,4])])
abbrev Hw(a b c:AV)(L:SH)(Q:R):Prop:=Pc vQ 20 Q 0 [] [a,b,c] L
def Ey(B u j:AV)(L:SH)(Q:R)(h:Hw B u j L Q):ac Tryz.prog 16 [B,u,j] L Q:=
 fv vQ Tryz.func16 h
def mW:RF:=nv (bQ Tryz.prog Tryz.f20 [(12,⟨[2,3,4,5,9],[],true,[]⟩)] [(0,[4,5])])
abbrev xV(a b c d:AV)(L:SH)(Q:R):Prop:=Pc mW 20 Q 0 [] [a,b,c,d] L
def vR(D B u j:AV)(L:SH)(Q:R)(h:xV D B u j L Q):ac Tryz.prog 20 [D,B,u,j] L Q:=
 fv mW Tryz.func20 h
def pk:RF:=nv (bQ Tryz.prog Tryz.f18 [] [(0,[3,4]),(4,[8])])
abbrev z8(a b c:AV)(L:SH)(Q:R):Prop:=Pc pk 20 Q 0 [] [a,b,c] L
def xW(B u j:AV)(L:SH)(Q:R)(h:z8 B u j L Q):ac Tryz.prog 18 [B,u,j] L Q:=
 fv pk Tryz.func18 h
def kQ:RF:=nv (bQ Tryz.prog Tryz.f49 [(135130,⟨[7,12,15],[],true,[]⟩),(48043,⟨[4,5,6,7,8,12,15,27,51],[135130],false,[]⟩),(39034,⟨[4,5,6,7,8,12,15,27,42],[135130],false,[]⟩),(908,⟨[3,4,5,6,7,8,12,26],[],true,[]⟩)] [(0,[6,8])])
abbrev pt(Q:R)(a b c d e f g h:AV)(i:SH):Prop:=Pc kQ 19 Q 908 [] [a,b,c,g,d,e,f,h] i
abbrev qJ(a b c d e f:AV)(L:SH)(Q:R):Prop:=Pc kQ 20 Q 0 [] [a,b,c,d,e,f] L
def As(G E D B u j:AV)(L:SH)(Q:R)(h:qJ G E D B u j L Q):ac Tryz.prog 49 [G,E,D,B,u,j] L Q:=
 fv kQ Tryz.func49 h
