/- part -/
import Derived.Test.YtfckbjehkbhkgaaGreatQwI
import Derived.Test.YtfckbjehkbhkgaaGreatQwR
set_option linter.all false
set_option maxRecDepth 100000
set_option maxHeartbeats 0
namespace Go.Proofs.YtfckbjehkbhkgaaGreat.Am
def rK:List bU:=[[109,97,105,110],[116,49],[116,50],[116,51]]
def PH(bm bt b0 bp nmb:Nat)(t:List UInt8)(a:Nat)(th le:Int)(se tx at_ lo:Bool)(o:Option Nat)(ar:List bU)(oT:Option Nat)(m:Nat)(ts:List am):SH:=
 (bm,bV bt th le se tx at_ lo o 0)::(bt,az t a)::(b0,⟨2,[[.nils,.nils]]⟩)::(bp,⟨2,[[.lst (cj.map aZ.enc),af oT m]]⟩)::(nmb,⟨1,rK.map ay⟩)::(ab oT 4 (ts.map am.enc)++ab o 1 (ar.map ay))
def Ln{D G bt i j:Nat}{x y:Blk}{o:Option Nat}{rows:List (List AV)}(B:D≠G)(u:D≠bt)(M:∀b,o=some b->D≠b):∀z∈[rm j ⟨ai (.ptr D 0 (0+3)),[],[],[]⟩],W.free z ⟨i,[],SH.names ((G,x)::(bt,y)::ab o 1 rows),[],true,[]⟩:=by
 intro z E;simp only[aag]at E;subst E;cases o with
 |none=>simp[rm,W.free,ab,SH.names,ai,dV,B,u,B.symm,u.symm]
 |some b=>have:=M b rfl;simp[rm,W.free,ab,SH.names,ai,dV,B,u,B.symm,u.symm,this,this.symm]
def PZ(b0 bp:Nat)(ts:List am):SH:=[(b0,⟨2,[[.nils,.nils]]⟩),(bp,⟨2,[[.lst (cj.map aZ.enc),.lst (ts.map am.enc)]]⟩)]
def eg{K:SH}{x y:List AV}(h:fy K x y)(j:Nat)(r u:List AV)(B:[x][j]? =some r)(h2:[y][j]? =some u):fy K r u:=by
 match j with
 |0=>cases B;cases h2;exact h
 |j+1=>simp at B
def gK{K:SH}{b n:Nat}{ts:List am}{x:am}{raw:List AV}{rows:List (List AV)}(M:(b,⟨4,rows⟩)∈K)(E:rows=ts.map am.enc++[raw])(G:n=ts.length+1)(h:fy K raw x.enc):Fz K (.sl b 0 n) (.lst ((ts++[x]).map am.enc)):=by
 have e:(ts++[x]).map am.enc=(ts.map (λt:am=>(t.enc,t))++[(raw,x)]).map (λy:List AV×am=>y.2.enc):=by rw[ST,ST,List.map_map];rfl
 rw[e];refine Fz.slm (f:=Prod.fst) (g:=λy:List AV×am=>y.2.enc) M (by rw[E,ST,List.map_map];rfl) acR (by rw[G,aal,acl];rfl) (λy j=>?_) λy j q a D B u=>?_
 .rcases aak.1 j with j|j
  .obtain⟨s,_,rfl⟩:=abP.1 j;rfl
  .rw[aag.1 j];exact h.at_.1
 .rcases aak.1 j with j|j
  .obtain⟨s,_,rfl⟩:=abP.1 j;replace B:s.enc[q]? =some a:=B;replace u:s.enc[q]? =some D:=u;rw[B]at u;cases u;exact .refl _
  .rw[aag.1 j]at B u;exact h.at_.2 q a D B u
def Lo{O bt:Nat}{t:List UInt8}{a r:Nat}{th le:Int}{se tx at_ lo:Bool}{o:Option Nat}{ar:List bU}{L L1 L2 L3:SH}{i:Nat}{nn:Int}{us:List W.WR}{KN:AV->SH->List Nat->Prop}(Z:nn=((1+r:Nat):Int))(hr:r<3)(h1:dF O (bV bt th le se tx at_ lo o 0) L L1)(h2:dF bt (az t a) L1 L2)(h3:eG o 1 (ar.map ay) L2 L3)(ht:t.length<2^63)(ha:a<=t.length)(ho:o=none->ar=[])
  (hf:∀y∈us,W.free y ⟨i,[],SH.names ((O,bV bt th le se tx at_ lo o 0)::(bt,az t a)::ab o 1 (ar.map ay)),[],true,[]⟩)
  (hq:∀(l:List ae) (S:Nat) (B G:Int) (D u M E:Bool) (N:Option Nat) (j:List bU) (Y:List Nat),ae.wts l<=30000->S<=t.length->(N=none->j=[])->KN (.lst (l.map ae.enc)) ((O,bV bt B G D u M E N 0)::(bt,az t S)::(ab N 1 (j.map ay)++L3)) Y):W.dcallM Tryz.prog us i 129 [.ptr O 0 0,.acU 2,.acU nn] L KN:=by
 subst Z;refine S0 (IL 2 Yb (1+r) acN) h1 h2 h3 ht ha ho (abt _) acR hf ?_;rintro _ S B G D u M E N j Y ⟨l,rfl,hl⟩ q2 q3 q4;refine hq l S B G D u M E N j Y (abe hl ?_) q2 q3;have:dw 2=10000:=by decide
 rw[this];omega
def ey{α:Type}{f:α->List AV}{K:SH}{ts:List α}{x:α}{raw:List AV}(h:fy K raw (f x))(j:Nat)(r B:List AV)(u:(ts.map f++[raw])[j]? =some r)(h2:((ts++[x]).map f)[j]? =some B):fy K r B:=by
 rw[ST]at h2;rcases LE j (ts.map f).length with g|g
 .rw[aaW g]at u h2;rw[u]at h2;cases h2;exact .refl _ _
 .rw[aaL g]at u h2;generalize j-(ts.map f).length=k at u h2
  match k with
  |0=>cases u;cases h2;exact h
  |k+1=>simp at u
def kh(l m:List ae):ae.wts (l++m)=ae.wts l+ae.wts m:=by
 induction l with
 |nil=>simp[ae.wts]
 |cons x l j=>simp only[abX,ae.wts,j];omega
def S8(ps:List (List AV×ae))(l:List ae):List (List AV×ae):=ps++l.map λs=>(s.enc,s)
structure iu(ps:List (List AV×ae)):Prop where
 len:∀y∈ps,y.1.length=11
 fz:∀(K:SH),∀y∈ps,∀(q:Nat) (a a2:AV),y.1[q]? =some a->y.2.row[q]? =some a2->Fz K a a2
def iu.pl{ps:List (List AV×ae)}(h:iu ps)(l:List ae):iu (S8 ps l):=by
 constructor
 .intro y j;rcases aak.1 j with j|j
  .exact h.len y j
  .obtain⟨s,_,rfl⟩:=abP.1 j;show s.enc.length=11;rw[ae.enc_row];rfl
 .intro K y j q a D B u;rcases aak.1 j with j|j
  .exact h.fz K y j q a D B u
  .obtain⟨s,_,rfl⟩:=abP.1 j;rw[<-ae.enc_row]at u;replace B:s.enc[q]? =some a:=B;replace u:s.enc[q]? =some D:=u;rw[B]at u;cases u;exact .refl _
def iu.raw{ps:List (List AV×ae)}(h:iu ps)(op:Int)(D:bU):iu (ps++[(FS op D,mF op D)]):=by
 constructor
 .intro y j;rcases aak.1 j with j|j
  .exact h.len y j
  .rw[aag.1 j];rfl
 .intro K y j q a E B u;rcases aak.1 j with j|j
  .exact h.fz K y j q a E B u
  .rw[aag.1 j]at B u;exact M7 q a E B u
def iu.go{ps:List (List AV×ae)}(h:iu ps){K:SH}{b n:Nat}{rows:List (List AV)}(B:(b,⟨11,rows⟩)∈K)(j:rows=ps.map Prod.fst)(u:n=ps.length):Fz K (.sl b 0 n) (.lst ((ps.map Prod.snd).map ae.enc)):=D9 ps B j u h.len (h.fz K)
def l6(ps:List (List AV×ae))(l:List ae):(S8 ps l).map Prod.fst=ps.map Prod.fst++l.map ae.enc:=by simp[S8,Function.comp]
def l7(ps:List (List AV×ae))(l:List ae):(S8 ps l).map Prod.snd=ps.map Prod.snd++l:=by rw[S8,ST,List.map_map,show(Prod.snd∘λs:ae=>(s.enc,s))=id from rfl,List.map_id]
def l8(ps:List (List AV×ae))(l:List ae):(S8 ps l).length=ps.length+l.length:=by simp[S8]
def Yc{n23:Kn}{bm bt D B u bh G a n i:Nat}{t:List UInt8}{th le:Int}{se tx at_ lo:Bool}{o oT oB:Option Nat}{ar:List bU}{ts:List am}{ps:List (List AV×ae)}{nm:bU}
  (ht:t.length<2^63) (ha:a<=t.length) (ho:o=none->ar=[]) (hoT:oT=none->ts=[]) (hoB:oB=none->ps=[]) (zV:ts.length<=4) (hps:ps.length<=4)
  (f1:bh≠bm) (f2:bh≠bt) (f3:∀b,o=some b->bh≠b) (hg:iu ps) (hnm:nm.length<=4) (hpw:ae.wts (ps.map Prod.snd)<=100)
  (hn:∀(x:am) (a':Nat) (th' le':Int) (se' tx' at' lo':Bool) (o':Option Nat) (ar':List bU) (nbT:Nat) (L':SH),(am.wt x<=40000/\x.name=nm/\x.locals=[[97],[98]])->a'<=t.length->(o'=none->ar'=[])->ax [.ptr D 0 0,.ptr bm 0 0,.ptr B 0 0,.acU n,.sl u 0 4,.acU (IntKind.i64.wrap ((i:Int)+1))] L' [.ptr D 0 0,.ptr bm 0 0,.ptr B 0 0,.acU n,.sl u 0 4,.acU (IntKind.i64.wrap ((i:Int)+1))] (PH bm bt D B u t a' th' le' se' tx' at' lo' o' ar' (some nbT) (ts.length+1) (ts++[x]))->ax [.ptr D 0 0,.ptr bm 0 0,.ptr B 0 0,.acU n,.sl u 0 4,.acU (IntKind.i64.wrap ((i:Int)+1))] L' [.ptr D 0 0,.ptr bm 0 0,.ptr B 0 0,.acU n,.sl u 0 4,.acU (IntKind.i64.wrap ((i:Int)+1))] (PZ D B (ts++[x]))->n23 [.ptr D 0 0,.ptr bm 0 0,.ptr B 0 0,.acU n,.sl u 0 4,.acU (IntKind.i64.wrap ((i:Int)+1))] L')
  : eK n23 [.ptr D 0 0,.ptr bm 0 0,.ptr B 0 0,.acU n,.sl u 0 4,.acU i,.ptr bh 0 0] ((bh,⟨4,[[.str nm,.acU 0,.sl G 0 2,af oB ps.length]]⟩)::(G,⟨1,[[.str [97]],[.str [98]]]⟩)::(bm,bV bt th le se tx at_ lo o 0)::(bt,az t a)::(D,⟨2,[[.nils,.nils]]⟩)::(B,⟨2,[[.lst (cj.map aZ.enc),af oT ts.length]]⟩)::(u,⟨1,rK.map ay⟩)::(ab oB 11 (ps.map Prod.fst)++(ab oT 4 (ts.map am.enc)++ab o 1 (ar.map ay)))):=by
 unfold bV nQ;refine vw ?_
 repeat' (first|refine kH (ur ?_ (Vf acN))|refine sx ?_|((with_reducible refine aN 92 ?_);(refine ij ht acO rp (λr_ a_ hr_ E=>?_)))|((with_reducible refine cy 92 ?_);refine Bc ht acO rp (λr_ a_ hr_ E=>?_))|((with_reducible refine cy 129 ?_);refine Lo rfl acN rp rp rp ht acO acO (Ln f1 f2 f3) ?_;rintro l_ a_ N Z O M at_ Y o_ ar_ ks_ hl_ E ho_;have hl9_:=ae.wts_len l_;rcases o_ with _|S;all_goals dsimp only[A7,A8,List.nil_append,List.cons_append])|(refine CC rp (λx=>by rw[ae.enc_row];rfl) acQ (λe=>by simp[hoB e]) acN acN (λx=>by rw[ae.enc_row];rfl) (λo2_ ho2_=>?_);rcases o2_ with _|ob2_;(have e_:=ho2_ rfl;simp only[List.append_eq_nil_iff,List.map_eq_nil_iff]at e_;obtain⟨rfl,rfl⟩:=e_);all_goals dsimp only[A7,A8,List.nil_append,List.cons_append])|refine aM (rows:=[]) (o:=none) rp (.here _) acP (λ_=>rfl) acP acQ acQ acQ acP (λj hnb_=>?_)|refine aM rp rp acQ (λe=>by first|simp[ho2_ e]|simp[hoT e]|simp[hoB e]) acP acQ acS acS acP (λj hnb_=>?_)|refine sb λj hnb_=>?_|refine s2 ?_ ?_|intro)
 all_goals first
  |exact hn ⟨nm,0,[[97],[98]],((S8 ps l_).map Prod.snd)⟩ a_ N Z O M at_ Y none ar_ j _ ⟨by simp only[am.wt,l7,kh,ST,aai,abF,mF,wz,abi,abq,acf,acA];omega,rfl,rfl⟩ E ho_ (ax.rowA (A:=[(bm,_),(bt,_),(D,_),(B,_),(u,_)]) (b:=j) (R:=[]) (rows':=(ts++[_]).map am.enc) rp acQ (ey (f:=am.enc) (.cons (.refl _) (.cons (.refl _) (.cons (Fz.sls (l:=[[97],[98]]) (f:=ay) (size:=1) (b:=G) mm acP acR acP) (.cons ((hg.pl l_).go mm (l6 _ _).symm (l8 _ _).symm) .nil))))) rfl) (ax.rowA (A:=[(D,_)]) (b:=B) (R:=[]) (rows':=[[.lst (cj.map aZ.enc),.lst ((ts++[_]).map am.enc)]]) rp acP (eg (.cons (.refl _) (.cons (gK (b:=j) mm acP acP (.cons (.refl _) (.cons (.refl _) (.cons (Fz.sls (l:=[[97],[98]]) (f:=ay) (size:=1) (b:=G) mm acP acR acP) (.cons ((hg.pl l_).go mm (l6 _ _).symm (l8 _ _).symm) .nil))))) .nil))) rfl)
  |exact hn ⟨nm,0,[[97],[98]],((S8 ps l_++[(FS 13 [116,49],mF 13 [116,49])]).map Prod.snd)⟩ a_ N Z O M at_ Y none ar_ j _ ⟨by simp only[am.wt,l7,kh,ST,aai,abF,mF,wz,abi,abq,acf,acA];omega,rfl,rfl⟩ E ho_ (ax.rowA (A:=[(bm,_),(bt,_),(D,_),(B,_),(u,_)]) (b:=j) (R:=[]) (rows':=(ts++[_]).map am.enc) rp acQ (ey (f:=am.enc) (.cons (.refl _) (.cons (.refl _) (.cons (Fz.sls (l:=[[97],[98]]) (f:=ay) (size:=1) (b:=G) mm acP acR acP) (.cons (((hg.pl l_).raw 13 [116,49]).go mm (by rw[ST,l6];rfl) (by rw[aal,l8];rfl)) .nil))))) rfl) (ax.rowA (A:=[(D,_)]) (b:=B) (R:=[]) (rows':=[[.lst (cj.map aZ.enc),.lst ((ts++[_]).map am.enc)]]) rp acP (eg (.cons (.refl _) (.cons (gK (b:=j) mm acP acP (.cons (.refl _) (.cons (.refl _) (.cons (Fz.sls (l:=[[97],[98]]) (f:=ay) (size:=1) (b:=G) mm acP acR acP) (.cons (((hg.pl l_).raw 13 [116,49]).go mm (by rw[ST,l6];rfl) (by rw[aal,l8];rfl)) .nil))))) .nil))) rfl)
  |exact hn ⟨nm,0,[[97],[98]],[]⟩ a_ N Z O M at_ Y none ar_ j _ ⟨by simp only[am.wt,l7,kh,ST,aai,abF,mF,wz,abi,abq,acf,acA];omega,rfl,rfl⟩ E ho_ (ax.rowA (A:=[(bm,_),(bt,_),(D,_),(B,_),(u,_)]) (b:=j) (R:=[]) (rows':=(ts++[_]).map am.enc) rp acQ (ey (f:=am.enc) (.cons (.refl _) (.cons (.refl _) (.cons (Fz.sls (l:=[[97],[98]]) (f:=ay) (size:=1) (b:=G) mm acP acR acP) (.cons .emp .nil))))) rfl) (ax.rowA (A:=[(D,_)]) (b:=B) (R:=[]) (rows':=[[.lst (cj.map aZ.enc),.lst ((ts++[_]).map am.enc)]]) rp acP (eg (.cons (.refl _) (.cons (gK (b:=j) mm acP acP (.cons (.refl _) (.cons (.refl _) (.cons (Fz.sls (l:=[[97],[98]]) (f:=ay) (size:=1) (b:=G) mm acP acR acP) (.cons .emp .nil))))) .nil))) rfl)
  |exact hn ⟨nm,0,[[97],[98]],[mF 13 [116,49]]⟩ a_ N Z O M at_ Y none ar_ j _ ⟨by simp only[am.wt,l7,kh,ST,aai,abF,mF,wz,abi,abq,acf,acA];omega,rfl,rfl⟩ E ho_ (ax.rowA (A:=[(bm,_),(bt,_),(D,_),(B,_),(u,_)]) (b:=j) (R:=[]) (rows':=(ts++[_]).map am.enc) rp acQ (ey (f:=am.enc) (.cons (.refl _) (.cons (.refl _) (.cons (Fz.sls (l:=[[97],[98]]) (f:=ay) (size:=1) (b:=G) mm acP acR acP) (.cons (((iu.mk nofun nofun:iu []).raw 13 [116,49]).go mm acP acP) .nil))))) rfl) (ax.rowA (A:=[(D,_)]) (b:=B) (R:=[]) (rows':=[[.lst (cj.map aZ.enc),.lst ((ts++[_]).map am.enc)]]) rp acP (eg (.cons (.refl _) (.cons (gK (b:=j) mm acP acP (.cons (.refl _) (.cons (.refl _) (.cons (Fz.sls (l:=[[97],[98]]) (f:=ay) (size:=1) (b:=G) mm acP acR acP) (.cons (((iu.mk nofun nofun:iu []).raw 13 [116,49]).go mm acP acP) .nil))))) .nil))) rfl)
  |exact hn ⟨nm,0,[[97],[98]],((S8 ps l_).map Prod.snd)⟩ a_ N Z O M at_ Y (some S) ar_ j _ ⟨by simp only[am.wt,l7,kh,ST,aai,abF,mF,wz,abi,abq,acf,acA];omega,rfl,rfl⟩ E ho_ (ax.rowA (A:=[(bm,_),(bt,_),(D,_),(B,_),(u,_)]) (b:=j) (R:=[(S,_)]) (rows':=(ts++[_]).map am.enc) rp acQ (ey (f:=am.enc) (.cons (.refl _) (.cons (.refl _) (.cons (Fz.sls (l:=[[97],[98]]) (f:=ay) (size:=1) (b:=G) mm acP acR acP) (.cons ((hg.pl l_).go mm (l6 _ _).symm (l8 _ _).symm) .nil))))) rfl) (ax.rowA (A:=[(D,_)]) (b:=B) (R:=[]) (rows':=[[.lst (cj.map aZ.enc),.lst ((ts++[_]).map am.enc)]]) rp acP (eg (.cons (.refl _) (.cons (gK (b:=j) mm acP acP (.cons (.refl _) (.cons (.refl _) (.cons (Fz.sls (l:=[[97],[98]]) (f:=ay) (size:=1) (b:=G) mm acP acR acP) (.cons ((hg.pl l_).go mm (l6 _ _).symm (l8 _ _).symm) .nil))))) .nil))) rfl)
  |exact hn ⟨nm,0,[[97],[98]],((S8 ps l_++[(FS 13 [116,49],mF 13 [116,49])]).map Prod.snd)⟩ a_ N Z O M at_ Y (some S) ar_ j _ ⟨by simp only[am.wt,l7,kh,ST,aai,abF,mF,wz,abi,abq,acf,acA];omega,rfl,rfl⟩ E ho_ (ax.rowA (A:=[(bm,_),(bt,_),(D,_),(B,_),(u,_)]) (b:=j) (R:=[(S,_)]) (rows':=(ts++[_]).map am.enc) rp acQ (ey (f:=am.enc) (.cons (.refl _) (.cons (.refl _) (.cons (Fz.sls (l:=[[97],[98]]) (f:=ay) (size:=1) (b:=G) mm acP acR acP) (.cons (((hg.pl l_).raw 13 [116,49]).go mm (by rw[ST,l6];rfl) (by rw[aal,l8];rfl)) .nil))))) rfl) (ax.rowA (A:=[(D,_)]) (b:=B) (R:=[]) (rows':=[[.lst (cj.map aZ.enc),.lst ((ts++[_]).map am.enc)]]) rp acP (eg (.cons (.refl _) (.cons (gK (b:=j) mm acP acP (.cons (.refl _) (.cons (.refl _) (.cons (Fz.sls (l:=[[97],[98]]) (f:=ay) (size:=1) (b:=G) mm acP acR acP) (.cons (((hg.pl l_).raw 13 [116,49]).go mm (by rw[ST,l6];rfl) (by rw[aal,l8];rfl)) .nil))))) .nil))) rfl)
  |exact hn ⟨nm,0,[[97],[98]],[]⟩ a_ N Z O M at_ Y (some S) ar_ j _ ⟨by simp only[am.wt,l7,kh,ST,aai,abF,mF,wz,abi,abq,acf,acA];omega,rfl,rfl⟩ E ho_ (ax.rowA (A:=[(bm,_),(bt,_),(D,_),(B,_),(u,_)]) (b:=j) (R:=[(S,_)]) (rows':=(ts++[_]).map am.enc) rp acQ (ey (f:=am.enc) (.cons (.refl _) (.cons (.refl _) (.cons (Fz.sls (l:=[[97],[98]]) (f:=ay) (size:=1) (b:=G) mm acP acR acP) (.cons .emp .nil))))) rfl) (ax.rowA (A:=[(D,_)]) (b:=B) (R:=[]) (rows':=[[.lst (cj.map aZ.enc),.lst ((ts++[_]).map am.enc)]]) rp acP (eg (.cons (.refl _) (.cons (gK (b:=j) mm acP acP (.cons (.refl _) (.cons (.refl _) (.cons (Fz.sls (l:=[[97],[98]]) (f:=ay) (size:=1) (b:=G) mm acP acR acP) (.cons .emp .nil))))) .nil))) rfl)
  |exact hn ⟨nm,0,[[97],[98]],[mF 13 [116,49]]⟩ a_ N Z O M at_ Y (some S) ar_ j _ ⟨by simp only[am.wt,l7,kh,ST,aai,abF,mF,wz,abi,abq,acf,acA];omega,rfl,rfl⟩ E ho_ (ax.rowA (A:=[(bm,_),(bt,_),(D,_),(B,_),(u,_)]) (b:=j) (R:=[(S,_)]) (rows':=(ts++[_]).map am.enc) rp acQ (ey (f:=am.enc) (.cons (.refl _) (.cons (.refl _) (.cons (Fz.sls (l:=[[97],[98]]) (f:=ay) (size:=1) (b:=G) mm acP acR acP) (.cons (((iu.mk nofun nofun:iu []).raw 13 [116,49]).go mm acP acP) .nil))))) rfl) (ax.rowA (A:=[(D,_)]) (b:=B) (R:=[]) (rows':=[[.lst (cj.map aZ.enc),.lst ((ts++[_]).map am.enc)]]) rp acP (eg (.cons (.refl _) (.cons (gK (b:=j) mm acP acP (.cons (.refl _) (.cons (.refl _) (.cons (Fz.sls (l:=[[97],[98]]) (f:=ay) (size:=1) (b:=G) mm acP acR acP) (.cons (((iu.mk nofun nofun:iu []).raw 13 [116,49]).go mm acP acP) .nil))))) .nil))) rfl)
section
theorem Ea{α:Type}{o:Option Nat}{size:Nat}{l:List α}{f:α->List AV}{L:SH}(B:o=none->l=[])(j:0<size)(u:∀q∈ab o size (l.map f),q∈L):Fz L (af o l.length) (.lst (l.map f)):=by
 cases o with
 |none=>rw[B rfl];exact .emp
 |some b=>exact Fz.sls (u _ (.head _)) rfl j rfl
theorem zh(o:Option Nat)(n:Nat):(af o n).one=true:=by cases o<;>rfl
theorem Lq(o:Option Nat)(n:Nat):(af o n).cells? =some [af o n]:=by cases o<;>rfl
section
variable {n151:Kn} {b2 b6 i:Nat} {oc ol od of ot os:Option Nat} {w:aF} {dl:List (List AV)} {ts:List am} {Q:R}
theorem Vi(hi:i<ts.length)(hi1:IntKind.i64.wrap ((i:Int)+1)=((i+1:Nat):Int))(O:i=w.threads.length)(S:i<2^20)(hb:ae.wts ts[i].body<2^20)(Y:w.sites.length<2^29)(j:FR b6 oc ol od of ot os w)
  (G:Wa (n151 [.pptr [[.lst dl,.lst (ts.map am.enc)]] 0 0,.ptr b2 0 0,.ptr b6 0 0,.acU ((i+1:Nat):Int)]) b2 b6 (fa w ts[i])) :
  D0 n151 (Eg b2 b6 oc ol od of ot os w) (.ptr b6 0 0) (.pptr [[.lst dl,.lst (ts.map am.enc)]] 0 0) (.acU i) (.ptr b2 0 0):=by
 have hx:=aj (f:=am.enc) hi;have hcw:=ae.cnts_wt ts[i].body;have Z:=SZ i (2^20) ts[i].body acN acN;have D:ot=none->w.threads.map ay=[]:=λe=>by rw[j.t e];rfl
 unfold fa at G;rw[<-O]at G;unfold Eg;refine vw ?_
 repeat' (first|refine sx ?_|refine aM rp rp acQ (λe=>by first|simp[D e]) acP acQ acS acS acP (λu B=>?_)|((with_reducible refine cy 159 ?_);refine oX ?_;refine M6 (t:=i) (n:=0) Z rp rfl rfl j.s acN acN (λM E N=>?_);simp only[abX,abK,abr])|refine zu ?_ (h2:=Lq _ _) (h4:=zh _ _)|refine sb λu B=>?_|refine s2 ?_ ?_|intro)
 exact G oc ol od of (some u) M _ _ _ _ _ _ _ _ _ _ _ _ _ ⟨j.c,j.l,j.d,j.f,nofun,E,j.n⟩ rp (by simp[af]) rfl rfl rfl rfl (by rw[ST];rfl) rfl
theorem Yd(zV:ts.length<2^20)(hb:∀t∈ts,ae.wts t.body<2^20)(hw0:w.threads=[])(hs0:w.sites=[])(hsl:∀k,(((ts.take k).foldl fa w).sites.length<2^29))(u:FR b6 oc ol od of ot os w)
  (hq:∀(v:AV) (L:SH),Fz L v (.agg (ts.foldl fa w).enc)->Q v L) :
  W.loop (D3 Q) [.pptr [[.lst dl,.lst (ts.map am.enc)]] 0 0,.ptr b2 0 0,.ptr b6 0 0,.acU 0] (Eg b2 b6 oc ol od of ot os w):=by
 have E:∀k,k<=ts.length->((ts.take k).foldl fa w).threads.length=k:=by
  intro k
  induction k with
  |zero=>intro _;simp[hw0]
  |succ k ih=>intro h;rw[u7 (show k<ts.length by omega)];simp[fa,ih acN]
 refine aL (β:=Option Nat×Option Nat×Option Nat×Option Nat×Option Nat×Option Nat) ts.length (λi q=>([.pptr [[.lst dl,.lst (ts.map am.enc)]] 0 0,.ptr b2 0 0,.ptr b6 0 0,.acU i],Eg b2 b6 q.1 q.2.1 q.2.2.1 q.2.2.2.1 q.2.2.2.2.1 q.2.2.2.2.2 ((ts.take i).foldl fa w)))
  (λi q=>FR b6 q.1 q.2.1 q.2.2.1 q.2.2.2.1 q.2.2.2.2.1 q.2.2.2.2.2 ((ts.take i).foldl fa w)) (oc,ol,od,of,ot,os) u (.refl _ _) ?_
 rintro i ⟨oc,ol,od,of,ot,os⟩ hi u;dsimp only at u ⊢;refine vw ?_;generalize D:(λ(vs':List AV) (L':SH)=>∃j o',i<j/\j<=ts.length/\_)=nx;rcases Nat.lt_or_ge i ts.length with B|B
 .have hd:=aS B;have hi1:=av B acN;have G:Wa (nx [.pptr [[.lst dl,.lst (ts.map am.enc)]] 0 0,.ptr b2 0 0,.ptr b6 0 0,.acU ((i+1:Nat):Int)]) b2 b6 (fa ((ts.take i).foldl fa w) ts[i]):=.of λZ O Y S M N L' q1 q2=>by subst D;rw[<-u7 (f:=fa) (a:=w) B]at q1 q2;exact⟨i+1,(Z,O,Y,S,M,N),acN,acN,q1,ax.pick q2 rfl⟩
  have hr:=Vi (dl:=dl) B hi1 (E i acN).symm acN (hb _ (LT B)) (hsl i) u G;clear D G;generalize hW:Eg b2 b6 oc ol od of ot os ((ts.take i).foldl fa w)=LW at *
  repeat' (first|exact hr|refine sy ?_|refine s2 ?_ ?_|intro)
 .have hd:=aW B;have e:i=ts.length:=by omega
  subst e;rw[acx]at u ⊢;unfold Eg
  repeat' (first|refine sy ?_|refine s2 ?_ ?_|intro)
  refine bD (cs:=[af oc (List.foldl fa w ts).cells.length,af ol (List.foldl fa w ts).locks.length,af od (List.foldl fa w ts).conds.length,af of (List.foldl fa w ts).futures.length,af ot (List.foldl fa w ts).threads.length,af os (List.foldl fa w ts).sites.length]) (.there _ (.here _)) rfl rfl (by simp[zh]) rfl ?_
  repeat' (first|refine sy ?_|refine s2 ?_ ?_|intro)
  refine hq _ _ (Fz.aggs (.cons (Ea u.c acR λq h=>.tail _ (.tail _ (abR _ h))) (.cons (Ea u.l acR λq h=>.tail _ (.tail _ (aaY _ (abR _ h)))) (.cons (Ea u.d acR λq h=>.tail _ (.tail _ (aaY _ (aaY _ (abR _ h))))) (.cons (Ea u.f acR λq h=>.tail _ (.tail _ (aaY _ (aaY _ (aaY _ (abR _ h)))))) (.cons (Ea u.t acR λq h=>.tail _ (.tail _ (aaY _ (aaY _ (aaY _ (aaY _ (abR _ h))))))) (.cons (Ea u.s acR λq h=>.tail _ (.tail _ (aaY _ (aaY _ (aaY _ (aaY _ (aaY _ h))))))) .nil)))))))
end
theorem P3(w:aF)(d:aZ)(j:d.size<=4):(cR w d).cells.length<=w.cells.length+4/\(cR w d).locks.length<=w.locks.length+1/\(cR w d).conds.length<=w.conds.length+1/\(cR w d).futures.length<=w.futures.length+1/\(cR w d).threads=w.threads/\(cR w d).sites=w.sites:=by
 unfold cR
 repeat' split
 all_goals simp[aZ.celW]
 all_goals omega
theorem GT(w:aF):∀(l:List aZ),(∀d∈l,d.size<=4)->(l.foldl cR w).cells.length<=w.cells.length+4*l.length/\(l.foldl cR w).locks.length<=w.locks.length+l.length/\(l.foldl cR w).conds.length<=w.conds.length+l.length/\(l.foldl cR w).futures.length<=w.futures.length+l.length/\(l.foldl cR w).threads=w.threads/\(l.foldl cR w).sites=w.sites:=by
 intro l
 induction l generalizing w with
 |nil=>intro _;simp
 |cons d l j=>
  intro h;obtain⟨Z,Y,S,O,E,D⟩:=P3 w d (h d (.head _));obtain⟨N,b2,M,G,B,b6⟩:=j (cR w d) λx u=>h x (.tail _ u)
  simp only[acg,abi];exact⟨acN,acN,acN,acN,B.trans E,b6.trans D⟩
theorem M9(ts:List am):∀(w:aF),(ts.foldl fa w).sites.length=w.sites.length+iQ (λt=>ae.cnts t.body) ts:=by
 induction ts with
 |nil=>intro w;simp[iQ]
 |cons t l j=>intro w;rw[acg,j];simp[fa,sitL_len,iQ];omega
theorem P4(p:cJ){ln:Int}(B:∀d∈p.decls,(1<=d.kind/\d.kind<=6)/\d.size<=4)(hck:aq Tryz.prog 123 [.agg p.enc] (.tup [.acU 0,.acU ln]))(hw:p.wt<=200000):aq Tryz.prog 124 [.agg p.enc] (.agg (mE p).enc):=by
 have hdl:=p.decls_len;have htl:=p.threads_len;refine ac.fz (D4 _ _ _ ?_);unfold cJ.enc;refine vw ?_;generalize hQ:(λ(v:AV) (L:SH)=>∃v2 L2,ax [v] L [v2] L2/\v2=.agg (mE p).enc/\L2=[])=Q;have hq:∀v L,Fz L v (.agg (mE p).enc)->Q v L:=λv L h=>by subst hQ;exact⟨_,[],ax.all h,rfl,rfl⟩
 clear hQ
 repeat' (first|refine sx ?_|refine sb λu hnb_=>?_|refine s2 (λh=>?_) λh=>?_|fail)
 rename_i b0 hb0 b2 hb2;have N:∀k,((p.decls.take k).foldl cR aF.zero).cells.length<2^30/\((p.decls.take k).foldl cR aF.zero).locks.length<2^30/\((p.decls.take k).foldl cR aF.zero).conds.length<2^30/\((p.decls.take k).foldl cR aF.zero).futures.length<2^30:=λk=>by
  obtain⟨a1,a2,a3,a4,_,_⟩:=GT aF.zero (p.decls.take k) λd S=>(B d (acv S)).2
  have:(p.decls.take k).length<=200000:=by rw[abm];omega
  simp only[aF.zero,abq]at a1 a2 a3 a4;exact⟨by show List.length _<_;unfold aF.zero;omega,by show List.length _<_;unfold aF.zero;omega,by show List.length _<_;unfold aF.zero;omega,by show List.length _<_;unfold aF.zero;omega⟩
 obtain⟨_,_,_,_,G,D⟩:=GT aF.zero p.decls λd S=>(B d S).2
 refine aL (β:=Option Nat×Option Nat×Option Nat×Option Nat×Option Nat×Option Nat) p.decls.length (λi q=>([.pptr [[.lst (p.decls.map aZ.enc),.lst (p.threads.map am.enc)]] 0 0,.ptr b2 0 0,.ptr u 0 0,.acU i],Eg b2 u q.1 q.2.1 q.2.2.1 q.2.2.2.1 q.2.2.2.2.1 q.2.2.2.2.2 ((p.decls.take i).foldl cR aF.zero)))
  (λi q=>FR u q.1 q.2.1 q.2.2.1 q.2.2.2.1 q.2.2.2.2.1 q.2.2.2.2.2 ((p.decls.take i).foldl cR aF.zero)) (none,none,none,none,none,none) ⟨λ_=>rfl,λ_=>rfl,λ_=>rfl,λ_=>rfl,λ_=>rfl,λ_=>rfl,nofun⟩ ?_ ?_
 .exact ax.rowA (K:=[]) (A:=[]) (R:=[(b2,⟨6,[XZ]⟩)]) (rows:=[[.nils,.nils,.nils,.nils,.nils,.nils]]) (.one (.here _) (.one (.here _) (.nil _))) rfl (eg (.cons .nile (.cons .nile (.cons .nile (.cons .nile (.cons .nile (.cons .nile .nil))))))) rfl
 rintro i ⟨oc,ol,od,of,ot,os⟩ hi ho;dsimp only at ho ⊢;refine vw ?_;generalize M:(λ(vs':List AV) (L':SH)=>∃j o',i<j/\j<=p.decls.length/\_)=nx;rcases Nat.lt_or_ge i p.decls.length with E|E
 .have S:=aS E;have hi1:=av E acN;have O:Wa (nx [.pptr [[.lst (p.decls.map aZ.enc),.lst (p.threads.map am.enc)]] 0 0,.ptr b2 0 0,.ptr u 0 0,.acU ((i+1:Nat):Int)]) b2 u (cR ((p.decls.take i).foldl cR aF.zero) p.decls[i]):=.of λoc2 ol2 od2 of2 Y Z L' q1 q2=>by subst M;rw[<-u7 (f:=cR) (a:=aF.zero) E]at q1 q2;exact⟨i+1,(oc2,ol2,od2,of2,Y,Z),acN,acN,q1,ax.pick q2 rfl⟩
  obtain⟨a1,a2,a3,a4⟩:=N i;have hk:=B _ (LT E);have hr:=X0 (rows:=p.decls.map aZ.enc) (tl:=p.threads.map am.enc) (d:=p.decls[i]) (aj E) hk.1 acN hi1 ho a1 a2 a3 a4 O;clear M O;generalize hW:Eg b2 u oc ol od of ot os ((p.decls.take i).foldl cR aF.zero)=LW at *
  repeat' (first|exact hr|refine sy ?_|refine s2 ?_ ?_|intro)
 .have S:=aW E;have e:i=p.decls.length:=by omega
  subst e;rw[acx]at ho ⊢;have hl:=Yd (Q:=Q) (dl:=p.decls.map aZ.enc) (ts:=p.threads) (b2:=b2) acN (λt ht=>?hb) G D (λk=>?hs) ho hq
  case hb=>
   obtain⟨j,hj,rfl⟩:=abC ht;have:=p.thread_wt hj;unfold am.wt at this;omega
  case hs=>
   rw[M9,D];have h1:=Dj (λt:am=>ae.cnts t.body) p.threads k;have h2:iQ (λt:am=>ae.cnts t.body) p.threads<=p.wt:=by have:=KI (f:=λt:am=>ae.cnts t.body) (g:=am.wt) (λt=>by have:=ae.cnts_wt t.body;unfold am.wt;omega) p.threads;unfold cJ.wt;unfold iQ at *;omega
   simp only[aF.zero,abq];omega
  generalize hW:Eg b2 u oc ol od of ot os (p.decls.foldl cR aF.zero)=LW at *
  repeat' (first|exact hl|refine sy ?_|refine s2 ?_ ?_|intro)
end
