/- part -/
import Derived.Test.YtfcfhjadaknphaaGreatDoorQxq
set_option linter.all false
set_option maxRecDepth 100000
set_option maxHeartbeats 0
namespace Go.Proofs.YtfcfhjadaknphaaGreatDoor.Am
def mb:List aO:=[[109,97,105,110],[116,49],[116,50],[116,51]]
def PH(bm bt b0 bp nmb:Nat)(t:List UInt8)(a:Nat)(th le:Int)(se tx at_ lo:Bool)(o:Option Nat)(ar:List aO)(oT:Option Nat)(m:Nat)(ts:List aj):SH:=
 (bm,bY bt th le se tx at_ lo o 0)::(bt,bE t a)::(b0,⟨2,[[.nils,.nils]]⟩)::(bp,⟨2,[[.lst (bD.map aA.enc),ai oT m]]⟩)::(nmb,⟨1,mb.map av⟩)::(ab oT 4 (ts.map aj.enc)++ab o 1 (ar.map av))
def H7{D bm bt i j:Nat}{x y:Blk}{o:Option Nat}{rows:List (List AV)}(B:D≠bm)(u:D≠bt)(G:∀b,o=some b->D≠b):∀z∈[rm j ⟨am (.ptr D 0 (0+3)),[],[],[]⟩],W.free z ⟨i,[],SH.names ((bm,x)::(bt,y)::ab o 1 rows),[],true,[]⟩:=by
 intro z E;simp only[WP]at E;subst E;cases o with
 |none=>simp[rm,W.free,ab,SH.names,am,gE,B,u,B.symm,u.symm]
 |some b=>have:=G b rfl;simp[rm,W.free,ab,SH.names,am,gE,B,u,B.symm,u.symm,this,this.symm]
def PZ(b0 bp:Nat)(ts:List aj):SH:=[(b0,⟨2,[[.nils,.nils]]⟩),(bp,⟨2,[[.lst (bD.map aA.enc),.lst (ts.map aj.enc)]]⟩)]
def dN{K:SH}{x y:List AV}(h:fi K x y)(j:Nat)(r u:List AV)(B:[x][j]? =some r)(h2:[y][j]? =some u):fi K r u:=by
 match j with
 |0=>cases B;cases h2;exact h
 |j+1=>simp at B
def gx{K:SH}{b n:Nat}{ts:List aj}{x:aj}{raw:List AV}{rows:List (List AV)}(M:(b,⟨4,rows⟩)∈K)(E:rows=ts.map aj.enc++[raw])(G:n=ts.length+1)(h:fi K raw x.enc):Fz K (.sl b 0 n) (.lst ((ts++[x]).map aj.enc)):=by
 have e:(ts++[x]).map aj.enc=(ts.map (λt:aj=>(t.enc,t))++[(raw,x)]).map (λy:List AV×aj=>y.2.enc):=by rw[WL,WL,List.map_map];rfl
 rw[e];refine Fz.slm (f:=Prod.fst) (g:=λy:List AV×aj=>y.2.enc) M (by rw[E,WL,List.map_map];rfl) YG (by rw[G,LT,Xd];rfl) (λy j=>?_) λy j q a D B u=>?_
 .rcases WM.1 j with j|j
  .obtain⟨s,_,rfl⟩:=Xi.1 j;rfl
  .rw[WP.1 j];exact h.at_.1
 .rcases WM.1 j with j|j
  .obtain⟨s,_,rfl⟩:=Xi.1 j;replace B:s.enc[q]? =some a:=B;replace u:s.enc[q]? =some D:=u;rw[B]at u;cases u;exact .refl _
  .rw[WP.1 j]at B u;exact h.at_.2 q a D B u
def H8{bm bt:Nat}{t:List UInt8}{a r:Nat}{th le:Int}{se tx at_ lo:Bool}{o:Option Nat}{ar:List aO}{L L1 L2 L3:SH}{i:Nat}{nn:Int}{us:List W.WR}{KN:AV->SH->List Nat->Prop}(Z:nn=((1+r:Nat):Int))(hr:r<3)(h1:fQ bm (bY bt th le se tx at_ lo o 0) L L1)(h2:fQ bt (bE t a) L1 L2)(h3:eZ o 1 (ar.map av) L2 L3)(ht:t.length<2^63)(ha:a<=t.length)(ho:o=none->ar=[])
  (hf:∀y∈us,W.free y ⟨i,[],SH.names ((bm,bY bt th le se tx at_ lo o 0)::(bt,bE t a)::ab o 1 (ar.map av)),[],true,[]⟩)
  (hq:∀(l:List aa) (S:Nat) (B G:Int) (D u M E:Bool) (O:Option Nat) (j:List aO) (Y:List Nat),aa.wts l<=30000->S<=t.length->(O=none->j=[])->KN (.lst (l.map aa.enc)) ((bm,bY bt B G D u M E O 0)::(bt,bE t S)::(ab O 1 (j.map av)++L3)) Y):W.dcallM Tryz.prog us i 23 [.ptr bm 0 0,.YJ 2,.YJ nn] L KN:=by
 subst Z;refine Oy (FJ 2 Tw (1+r) YC) h1 h2 h3 ht ha ho (Xq _) YG hf ?_;rintro _ S B G D u M E O j Y ⟨l,rfl,hl⟩ q2 q3 q4;refine hq l S B G D u M E O j Y (W5 hl ?_) q2 q3;have:cV 2=10000:=by decide
 rw[this];omega
def dU{α:Type}{f:α->List AV}{K:SH}{ts:List α}{x:α}{raw:List AV}(h:fi K raw (f x))(j:Nat)(r B:List AV)(u:(ts.map f++[raw])[j]? =some r)(h2:((ts++[x]).map f)[j]? =some B):fi K r B:=by
 rw[WL]at h2;rcases Fn j (ts.map f).length with g|g
 .rw[WW g]at u h2;rw[u]at h2;cases h2;exact .refl _ _
 .rw[WQ g]at u h2;generalize j-(ts.map f).length=k at u h2
  match k with
  |0=>cases u;cases h2;exact h
  |k+1=>simp at u
def jZ(l m:List aa):aa.wts (l++m)=aa.wts l+aa.wts m:=by
 induction l with
 |nil=>simp[aa.wts]
 |cons x l j=>simp only[XS,aa.wts,j];omega
def OG(ps:List (List AV×aa))(l:List aa):List (List AV×aa):=ps++l.map λs=>(s.enc,s)
structure ij(ps:List (List AV×aa)):Prop where
 len:∀y∈ps,y.1.length=11
 fz:∀(K:SH),∀y∈ps,∀(q:Nat) (a a2:AV),y.1[q]? =some a->y.2.row[q]? =some a2->Fz K a a2
def ij.pl{ps:List (List AV×aa)}(h:ij ps)(l:List aa):ij (OG ps l):=by
 constructor
 .intro y j;rcases WM.1 j with j|j
  .exact h.len y j
  .obtain⟨s,_,rfl⟩:=Xi.1 j;show s.enc.length=11;rw[aa.enc_row];rfl
 .intro K y j q a D B u;rcases WM.1 j with j|j
  .exact h.fz K y j q a D B u
  .obtain⟨s,_,rfl⟩:=Xi.1 j;rw[<-aa.enc_row]at u;replace B:s.enc[q]? =some a:=B;replace u:s.enc[q]? =some D:=u;rw[B]at u;cases u;exact .refl _
def ij.raw{ps:List (List AV×aa)}(h:ij ps)(op:Int)(D:aO):ij (ps++[(Dl op D,ma op D)]):=by
 constructor
 .intro y j;rcases WM.1 j with j|j
  .exact h.len y j
  .rw[WP.1 j];rfl
 .intro K y j q a E B u;rcases WM.1 j with j|j
  .exact h.fz K y j q a E B u
  .rw[WP.1 j]at B u;exact Jx q a E B u
def ij.go{ps:List (List AV×aa)}(h:ij ps){K:SH}{b n:Nat}{rows:List (List AV)}(B:(b,⟨11,rows⟩)∈K)(j:rows=ps.map Prod.fst)(u:n=ps.length):Fz K (.sl b 0 n) (.lst ((ps.map Prod.snd).map aa.enc)):=B4 ps B j u h.len (h.fz K)
def lO(ps:List (List AV×aa))(l:List aa):(OG ps l).map Prod.fst=ps.map Prod.fst++l.map aa.enc:=by simp[OG,Function.comp]
def lP(ps:List (List AV×aa))(l:List aa):(OG ps l).map Prod.snd=ps.map Prod.snd++l:=by rw[OG,WL,List.map_map,show(Prod.snd∘λs:aa=>(s.enc,s))=id from rfl,List.map_id]
def lQ(ps:List (List AV×aa))(l:List aa):(OG ps l).length=ps.length+l.length:=by simp[OG]
def Tx{n23:Kn}{bm bt D B u bh G a n i:Nat}{t:List UInt8}{th le:Int}{se tx at_ lo:Bool}{o oT oB:Option Nat}{ar:List aO}{ts:List aj}{ps:List (List AV×aa)}{nm:aO}
  (ht:t.length<2^63) (ha:a<=t.length) (ho:o=none->ar=[]) (hoT:oT=none->ts=[]) (hoB:oB=none->ps=[]) (Cj:ts.length<=4) (hps:ps.length<=4)
  (f1:bh≠bm) (f2:bh≠bt) (f3:∀b,o=some b->bh≠b) (hg:ij ps) (hnm:nm.length<=4) (hpw:aa.wts (ps.map Prod.snd)<=100)
  (hn:∀(x:aj) (a':Nat) (th' le':Int) (se' tx' at' lo':Bool) (o':Option Nat) (ar':List aO) (nbT:Nat) (L':SH),(aj.wt x<=40000/\x.name=nm/\x.locals=[[97],[98]])->a'<=t.length->(o'=none->ar'=[])->aE [.ptr D 0 0,.ptr bm 0 0,.ptr B 0 0,.YJ n,.sl u 0 4,.YJ (IntKind.i64.wrap ((i:Int)+1))] L' [.ptr D 0 0,.ptr bm 0 0,.ptr B 0 0,.YJ n,.sl u 0 4,.YJ (IntKind.i64.wrap ((i:Int)+1))] (PH bm bt D B u t a' th' le' se' tx' at' lo' o' ar' (some nbT) (ts.length+1) (ts++[x]))->aE [.ptr D 0 0,.ptr bm 0 0,.ptr B 0 0,.YJ n,.sl u 0 4,.YJ (IntKind.i64.wrap ((i:Int)+1))] L' [.ptr D 0 0,.ptr bm 0 0,.ptr B 0 0,.YJ n,.sl u 0 4,.YJ (IntKind.i64.wrap ((i:Int)+1))] (PZ D B (ts++[x]))->n23 [.ptr D 0 0,.ptr bm 0 0,.ptr B 0 0,.YJ n,.sl u 0 4,.YJ (IntKind.i64.wrap ((i:Int)+1))] L')
  : ey n23 [.ptr D 0 0,.ptr bm 0 0,.ptr B 0 0,.YJ n,.sl u 0 4,.YJ i,.ptr bh 0 0] ((bh,⟨4,[[.str nm,.YJ 0,.sl G 0 2,ai oB ps.length]]⟩)::(G,⟨1,[[.str [97]],[.str [98]]]⟩)::(bm,bY bt th le se tx at_ lo o 0)::(bt,bE t a)::(D,⟨2,[[.nils,.nils]]⟩)::(B,⟨2,[[.lst (bD.map aA.enc),ai oT ts.length]]⟩)::(u,⟨1,mb.map av⟩)::(ab oB 11 (ps.map Prod.fst)++(ab oT 4 (ts.map aj.enc)++ab o 1 (ar.map av)))):=by
 unfold bY mY;refine vw ?_
 repeat' (first|refine ep (dw ?_ (Qr YC))|refine sx ?_|((with_reducible refine aU 22 ?_);(refine g9 ht YD rp (λr_ a_ hr_ E=>?_)))|((with_reducible refine dR 22 ?_);refine zH ht YD rp (λr_ a_ hr_ E=>?_))|((with_reducible refine dR 23 ?_);refine H8 rfl YC rp rp rp ht YD YD (H7 f1 f2 f3) ?_;rintro l_ a_ O le_ S M at_ Z o_ ar_ ks_ hl_ E ho_;have hl9_:=aa.wts_len l_;rcases o_ with _|Y;all_goals dsimp only[zF,zG,List.nil_append,List.cons_append])|(refine pF rp (λx=>by rw[aa.enc_row];rfl) YF (λe=>by simp[hoB e]) YC YC (λx=>by rw[aa.enc_row];rfl) (λo2_ ho2_=>?_);rcases o2_ with _|ob2_;(have e_:=ho2_ rfl;simp only[List.append_eq_nil_iff,List.map_eq_nil_iff]at e_;obtain⟨rfl,rfl⟩:=e_);all_goals dsimp only[zF,zG,List.nil_append,List.cons_append])|refine bG (rows:=[]) (o:=none) rp (.here _) YE (λ_=>rfl) YE YF YF YF YE (λj hnb_=>?_)|refine bG rp rp YF (λe=>by first|simp[ho2_ e]|simp[hoT e]|simp[hoB e]) YE YF YH YH YE (λj hnb_=>?_)|refine sb λj hnb_=>?_|refine s2 ?_ ?_|intro)
 all_goals first
  |exact hn ⟨nm,0,[[97],[98]],((OG ps l_).map Prod.snd)⟩ a_ O le_ S M at_ Z none ar_ j _ ⟨by simp only[aj.wt,lP,jZ,WL,WS,Xp,ma,wz,WO,WT,XO,Ya];omega,rfl,rfl⟩ E ho_ (aE.rowA (A:=[(bm,_),(bt,_),(D,_),(B,_),(u,_)]) (b:=j) (R:=[]) (rows':=(ts++[_]).map aj.enc) rp YF (dU (f:=aj.enc) (.cons (.refl _) (.cons (.refl _) (.cons (Fz.sls (l:=[[97],[98]]) (f:=av) (size:=1) (b:=G) mm YE YG YE) (.cons ((hg.pl l_).go mm (lO _ _).symm (lQ _ _).symm) .nil))))) rfl) (aE.rowA (A:=[(D,_)]) (b:=B) (R:=[]) (rows':=[[.lst (bD.map aA.enc),.lst ((ts++[_]).map aj.enc)]]) rp YE (dN (.cons (.refl _) (.cons (gx (b:=j) mm YE YE (.cons (.refl _) (.cons (.refl _) (.cons (Fz.sls (l:=[[97],[98]]) (f:=av) (size:=1) (b:=G) mm YE YG YE) (.cons ((hg.pl l_).go mm (lO _ _).symm (lQ _ _).symm) .nil))))) .nil))) rfl)
  |exact hn ⟨nm,0,[[97],[98]],((OG ps l_++[(Dl 13 [116,49],ma 13 [116,49])]).map Prod.snd)⟩ a_ O le_ S M at_ Z none ar_ j _ ⟨by simp only[aj.wt,lP,jZ,WL,WS,Xp,ma,wz,WO,WT,XO,Ya];omega,rfl,rfl⟩ E ho_ (aE.rowA (A:=[(bm,_),(bt,_),(D,_),(B,_),(u,_)]) (b:=j) (R:=[]) (rows':=(ts++[_]).map aj.enc) rp YF (dU (f:=aj.enc) (.cons (.refl _) (.cons (.refl _) (.cons (Fz.sls (l:=[[97],[98]]) (f:=av) (size:=1) (b:=G) mm YE YG YE) (.cons (((hg.pl l_).raw 13 [116,49]).go mm (by rw[WL,lO];rfl) (by rw[LT,lQ];rfl)) .nil))))) rfl) (aE.rowA (A:=[(D,_)]) (b:=B) (R:=[]) (rows':=[[.lst (bD.map aA.enc),.lst ((ts++[_]).map aj.enc)]]) rp YE (dN (.cons (.refl _) (.cons (gx (b:=j) mm YE YE (.cons (.refl _) (.cons (.refl _) (.cons (Fz.sls (l:=[[97],[98]]) (f:=av) (size:=1) (b:=G) mm YE YG YE) (.cons (((hg.pl l_).raw 13 [116,49]).go mm (by rw[WL,lO];rfl) (by rw[LT,lQ];rfl)) .nil))))) .nil))) rfl)
  |exact hn ⟨nm,0,[[97],[98]],[]⟩ a_ O le_ S M at_ Z none ar_ j _ ⟨by simp only[aj.wt,lP,jZ,WL,WS,Xp,ma,wz,WO,WT,XO,Ya];omega,rfl,rfl⟩ E ho_ (aE.rowA (A:=[(bm,_),(bt,_),(D,_),(B,_),(u,_)]) (b:=j) (R:=[]) (rows':=(ts++[_]).map aj.enc) rp YF (dU (f:=aj.enc) (.cons (.refl _) (.cons (.refl _) (.cons (Fz.sls (l:=[[97],[98]]) (f:=av) (size:=1) (b:=G) mm YE YG YE) (.cons .emp .nil))))) rfl) (aE.rowA (A:=[(D,_)]) (b:=B) (R:=[]) (rows':=[[.lst (bD.map aA.enc),.lst ((ts++[_]).map aj.enc)]]) rp YE (dN (.cons (.refl _) (.cons (gx (b:=j) mm YE YE (.cons (.refl _) (.cons (.refl _) (.cons (Fz.sls (l:=[[97],[98]]) (f:=av) (size:=1) (b:=G) mm YE YG YE) (.cons .emp .nil))))) .nil))) rfl)
  |exact hn ⟨nm,0,[[97],[98]],[ma 13 [116,49]]⟩ a_ O le_ S M at_ Z none ar_ j _ ⟨by simp only[aj.wt,lP,jZ,WL,WS,Xp,ma,wz,WO,WT,XO,Ya];omega,rfl,rfl⟩ E ho_ (aE.rowA (A:=[(bm,_),(bt,_),(D,_),(B,_),(u,_)]) (b:=j) (R:=[]) (rows':=(ts++[_]).map aj.enc) rp YF (dU (f:=aj.enc) (.cons (.refl _) (.cons (.refl _) (.cons (Fz.sls (l:=[[97],[98]]) (f:=av) (size:=1) (b:=G) mm YE YG YE) (.cons (((ij.mk nofun nofun:ij []).raw 13 [116,49]).go mm YE YE) .nil))))) rfl) (aE.rowA (A:=[(D,_)]) (b:=B) (R:=[]) (rows':=[[.lst (bD.map aA.enc),.lst ((ts++[_]).map aj.enc)]]) rp YE (dN (.cons (.refl _) (.cons (gx (b:=j) mm YE YE (.cons (.refl _) (.cons (.refl _) (.cons (Fz.sls (l:=[[97],[98]]) (f:=av) (size:=1) (b:=G) mm YE YG YE) (.cons (((ij.mk nofun nofun:ij []).raw 13 [116,49]).go mm YE YE) .nil))))) .nil))) rfl)
  |exact hn ⟨nm,0,[[97],[98]],((OG ps l_).map Prod.snd)⟩ a_ O le_ S M at_ Z (some Y) ar_ j _ ⟨by simp only[aj.wt,lP,jZ,WL,WS,Xp,ma,wz,WO,WT,XO,Ya];omega,rfl,rfl⟩ E ho_ (aE.rowA (A:=[(bm,_),(bt,_),(D,_),(B,_),(u,_)]) (b:=j) (R:=[(Y,_)]) (rows':=(ts++[_]).map aj.enc) rp YF (dU (f:=aj.enc) (.cons (.refl _) (.cons (.refl _) (.cons (Fz.sls (l:=[[97],[98]]) (f:=av) (size:=1) (b:=G) mm YE YG YE) (.cons ((hg.pl l_).go mm (lO _ _).symm (lQ _ _).symm) .nil))))) rfl) (aE.rowA (A:=[(D,_)]) (b:=B) (R:=[]) (rows':=[[.lst (bD.map aA.enc),.lst ((ts++[_]).map aj.enc)]]) rp YE (dN (.cons (.refl _) (.cons (gx (b:=j) mm YE YE (.cons (.refl _) (.cons (.refl _) (.cons (Fz.sls (l:=[[97],[98]]) (f:=av) (size:=1) (b:=G) mm YE YG YE) (.cons ((hg.pl l_).go mm (lO _ _).symm (lQ _ _).symm) .nil))))) .nil))) rfl)
  |exact hn ⟨nm,0,[[97],[98]],((OG ps l_++[(Dl 13 [116,49],ma 13 [116,49])]).map Prod.snd)⟩ a_ O le_ S M at_ Z (some Y) ar_ j _ ⟨by simp only[aj.wt,lP,jZ,WL,WS,Xp,ma,wz,WO,WT,XO,Ya];omega,rfl,rfl⟩ E ho_ (aE.rowA (A:=[(bm,_),(bt,_),(D,_),(B,_),(u,_)]) (b:=j) (R:=[(Y,_)]) (rows':=(ts++[_]).map aj.enc) rp YF (dU (f:=aj.enc) (.cons (.refl _) (.cons (.refl _) (.cons (Fz.sls (l:=[[97],[98]]) (f:=av) (size:=1) (b:=G) mm YE YG YE) (.cons (((hg.pl l_).raw 13 [116,49]).go mm (by rw[WL,lO];rfl) (by rw[LT,lQ];rfl)) .nil))))) rfl) (aE.rowA (A:=[(D,_)]) (b:=B) (R:=[]) (rows':=[[.lst (bD.map aA.enc),.lst ((ts++[_]).map aj.enc)]]) rp YE (dN (.cons (.refl _) (.cons (gx (b:=j) mm YE YE (.cons (.refl _) (.cons (.refl _) (.cons (Fz.sls (l:=[[97],[98]]) (f:=av) (size:=1) (b:=G) mm YE YG YE) (.cons (((hg.pl l_).raw 13 [116,49]).go mm (by rw[WL,lO];rfl) (by rw[LT,lQ];rfl)) .nil))))) .nil))) rfl)
  |exact hn ⟨nm,0,[[97],[98]],[]⟩ a_ O le_ S M at_ Z (some Y) ar_ j _ ⟨by simp only[aj.wt,lP,jZ,WL,WS,Xp,ma,wz,WO,WT,XO,Ya];omega,rfl,rfl⟩ E ho_ (aE.rowA (A:=[(bm,_),(bt,_),(D,_),(B,_),(u,_)]) (b:=j) (R:=[(Y,_)]) (rows':=(ts++[_]).map aj.enc) rp YF (dU (f:=aj.enc) (.cons (.refl _) (.cons (.refl _) (.cons (Fz.sls (l:=[[97],[98]]) (f:=av) (size:=1) (b:=G) mm YE YG YE) (.cons .emp .nil))))) rfl) (aE.rowA (A:=[(D,_)]) (b:=B) (R:=[]) (rows':=[[.lst (bD.map aA.enc),.lst ((ts++[_]).map aj.enc)]]) rp YE (dN (.cons (.refl _) (.cons (gx (b:=j) mm YE YE (.cons (.refl _) (.cons (.refl _) (.cons (Fz.sls (l:=[[97],[98]]) (f:=av) (size:=1) (b:=G) mm YE YG YE) (.cons .emp .nil))))) .nil))) rfl)
  |exact hn ⟨nm,0,[[97],[98]],[ma 13 [116,49]]⟩ a_ O le_ S M at_ Z (some Y) ar_ j _ ⟨by simp only[aj.wt,lP,jZ,WL,WS,Xp,ma,wz,WO,WT,XO,Ya];omega,rfl,rfl⟩ E ho_ (aE.rowA (A:=[(bm,_),(bt,_),(D,_),(B,_),(u,_)]) (b:=j) (R:=[(Y,_)]) (rows':=(ts++[_]).map aj.enc) rp YF (dU (f:=aj.enc) (.cons (.refl _) (.cons (.refl _) (.cons (Fz.sls (l:=[[97],[98]]) (f:=av) (size:=1) (b:=G) mm YE YG YE) (.cons (((ij.mk nofun nofun:ij []).raw 13 [116,49]).go mm YE YE) .nil))))) rfl) (aE.rowA (A:=[(D,_)]) (b:=B) (R:=[]) (rows':=[[.lst (bD.map aA.enc),.lst ((ts++[_]).map aj.enc)]]) rp YE (dN (.cons (.refl _) (.cons (gx (b:=j) mm YE YE (.cons (.refl _) (.cons (.refl _) (.cons (Fz.sls (l:=[[97],[98]]) (f:=av) (size:=1) (b:=G) mm YE YG YE) (.cons (((ij.mk nofun nofun:ij []).raw 13 [116,49]).go mm YE YE) .nil))))) .nil))) rfl)
section
theorem B5{α:Type}{o:Option Nat}{size:Nat}{l:List α}{f:α->List AV}{L:SH}(B:o=none->l=[])(j:0<size)(u:∀q∈ab o size (l.map f),q∈L):Fz L (ai o l.length) (.lst (l.map f)):=by
 cases o with
 |none=>rw[B rfl];exact .emp
 |some b=>exact Fz.sls (u _ (.head _)) rfl j rfl
theorem xG(o:Option Nat)(n:Nat):(ai o n).one=true:=by cases o<;>rfl
theorem H9(o:Option Nat)(n:Nat):(ai o n).cells? =some [ai o n]:=by cases o<;>rfl
section
variable {n151:Kn} {b2 b6 i:Nat} {oc ol od of ot os:Option Nat} {w:aK} {dl:List (List AV)} {ts:List aj} {Q:R}
theorem Qu(hi:i<ts.length)(hi1:IntKind.i64.wrap ((i:Int)+1)=((i+1:Nat):Int))(S:i=w.threads.length)(Y:i<2^20)(hb:aa.wts ts[i].body<2^20)(Z:w.sites.length<2^29)(j:Dk b6 oc ol od of ot os w)
  (G:Rv (n151 [.pptr [[.lst dl,.lst (ts.map aj.enc)]] 0 0,.ptr b2 0 0,.ptr b6 0 0,.YJ ((i+1:Nat):Int)]) b2 b6 (el w ts[i])) :
  BX n151 (Ck b2 b6 oc ol od of ot os w) (.ptr b6 0 0) (.pptr [[.lst dl,.lst (ts.map aj.enc)]] 0 0) (.YJ i) (.ptr b2 0 0):=by
 have hx:=aq (f:=aj.enc) hi;have hcw:=aa.cnts_wt ts[i].body;have hk:=Ox i (2^20) ts[i].body YC YC;have D:ot=none->w.threads.map av=[]:=λe=>by rw[j.t e];rfl
 unfold el at G;rw[<-S]at G;unfold Ck;refine vw ?_
 repeat' (first|refine sx ?_|refine bG rp rp YF (λe=>by first|simp[D e]) YE YF YH YH YE (λu B=>?_)|((with_reducible refine dR 99 ?_);refine iF ?_;refine Jw (t:=i) (n:=0) hk rp rfl rfl j.s YC YC (λM E O=>?_);simp only[XS,XM,WU])|refine xS ?_ (h2:=H9 _ _) (h4:=xG _ _)|refine sb λu B=>?_|refine s2 ?_ ?_|intro)
 exact G oc ol od of (some u) M _ _ _ _ _ _ _ _ _ _ _ _ _ ⟨j.c,j.l,j.d,j.f,nofun,E,j.n⟩ rp (by simp[ai]) rfl rfl rfl rfl (by rw[WL];rfl) rfl
theorem Ty(Cj:ts.length<2^20)(hb:∀t∈ts,aa.wts t.body<2^20)(hw0:w.threads=[])(hs0:w.sites=[])(hsl:∀k,(((ts.take k).foldl el w).sites.length<2^29))(u:Dk b6 oc ol od of ot os w)
  (hq:∀(v:AV) (L:SH),Fz L v (.agg (ts.foldl el w).enc)->Q v L) :
  W.loop (BY Q) [.pptr [[.lst dl,.lst (ts.map aj.enc)]] 0 0,.ptr b2 0 0,.ptr b6 0 0,.YJ 0] (Ck b2 b6 oc ol od of ot os w):=by
 have E:∀k,k<=ts.length->((ts.take k).foldl el w).threads.length=k:=by
  intro k
  induction k with
  |zero=>intro _;simp[hw0]
  |succ k ih=>intro h;rw[kQ (show k<ts.length by omega)];simp[el,ih YC]
 refine bF (β:=Option Nat×Option Nat×Option Nat×Option Nat×Option Nat×Option Nat) ts.length (λi q=>([.pptr [[.lst dl,.lst (ts.map aj.enc)]] 0 0,.ptr b2 0 0,.ptr b6 0 0,.YJ i],Ck b2 b6 q.1 q.2.1 q.2.2.1 q.2.2.2.1 q.2.2.2.2.1 q.2.2.2.2.2 ((ts.take i).foldl el w)))
  (λi q=>Dk b6 q.1 q.2.1 q.2.2.1 q.2.2.2.1 q.2.2.2.2.1 q.2.2.2.2.2 ((ts.take i).foldl el w)) (oc,ol,od,of,ot,os) u (.refl _ _) ?_
 rintro i ⟨oc,ol,od,of,ot,os⟩ hi u;dsimp only at u ⊢;refine vw ?_;generalize D:(λ(vs':List AV) (L':SH)=>∃j o',i<j/\j<=ts.length/\_)=nx;rcases Nat.lt_or_ge i ts.length with B|B
 .have hd:=a8 B;have hi1:=ax B YC;have G:Rv (nx [.pptr [[.lst dl,.lst (ts.map aj.enc)]] 0 0,.ptr b2 0 0,.ptr b6 0 0,.YJ ((i+1:Nat):Int)]) b2 b6 (el ((ts.take i).foldl el w) ts[i]):=.of λoc2 S Z Y M O L' q1 q2=>by subst D;rw[<-kQ (f:=el) (a:=w) B]at q1 q2;exact⟨i+1,(oc2,S,Z,Y,M,O),YC,YC,q1,aE.pick q2 rfl⟩
  have hr:=Qu (dl:=dl) B hi1 (E i YC).symm YC (hb _ (WN B)) (hsl i) u G;clear D G;generalize hW:Ck b2 b6 oc ol od of ot os ((ts.take i).foldl el w)=LW at *
  repeat' (first|exact hr|refine sy ?_|refine s2 ?_ ?_|intro)
 .have hd:=bq B;have e:i=ts.length:=by omega
  subst e;rw[XT]at u ⊢;unfold Ck
  repeat' (first|refine sy ?_|refine s2 ?_ ?_|intro)
  refine bI (cs:=[ai oc (List.foldl el w ts).cells.length,ai ol (List.foldl el w ts).locks.length,ai od (List.foldl el w ts).conds.length,ai of (List.foldl el w ts).futures.length,ai ot (List.foldl el w ts).threads.length,ai os (List.foldl el w ts).sites.length]) (.there _ (.here _)) rfl rfl (by simp[xG]) rfl ?_
  repeat' (first|refine sy ?_|refine s2 ?_ ?_|intro)
  refine hq _ _ (Fz.aggs (.cons (B5 u.c YG λq h=>.tail _ (.tail _ (XK _ h))) (.cons (B5 u.l YG λq h=>.tail _ (.tail _ (W8 _ (XK _ h)))) (.cons (B5 u.d YG λq h=>.tail _ (.tail _ (W8 _ (W8 _ (XK _ h))))) (.cons (B5 u.f YG λq h=>.tail _ (.tail _ (W8 _ (W8 _ (W8 _ (XK _ h)))))) (.cons (B5 u.t YG λq h=>.tail _ (.tail _ (W8 _ (W8 _ (W8 _ (W8 _ (XK _ h))))))) (.cons (B5 u.s YG λq h=>.tail _ (.tail _ (W8 _ (W8 _ (W8 _ (W8 _ (W8 _ h))))))) .nil)))))))
end
theorem L5(w:aK)(d:aA)(j:d.size<=4):(dh w d).cells.length<=w.cells.length+4/\(dh w d).locks.length<=w.locks.length+1/\(dh w d).conds.length<=w.conds.length+1/\(dh w d).futures.length<=w.futures.length+1/\(dh w d).threads=w.threads/\(dh w d).sites=w.sites:=by
 unfold dh
 repeat' split
 all_goals simp[aA.celW]
 all_goals omega
theorem Ea(w:aK):∀(l:List aA),(∀d∈l,d.size<=4)->(l.foldl dh w).cells.length<=w.cells.length+4*l.length/\(l.foldl dh w).locks.length<=w.locks.length+l.length/\(l.foldl dh w).conds.length<=w.conds.length+l.length/\(l.foldl dh w).futures.length<=w.futures.length+l.length/\(l.foldl dh w).threads=w.threads/\(l.foldl dh w).sites=w.sites:=by
 intro l
 induction l generalizing w with
 |nil=>intro _;simp
 |cons d l j=>
  intro h;obtain⟨a1,Z,Y,S,E,D⟩:=L5 w d (h d (.head _));obtain⟨O,b2,M,G,B,b6⟩:=j (dh w d) λx u=>h x (.tail _ u)
  simp only[XL,WO];exact⟨YC,YC,YC,YC,B.trans E,b6.trans D⟩
theorem Jz(ts:List aj):∀(w:aK),(ts.foldl el w).sites.length=w.sites.length+bT (λt=>aa.cnts t.body) ts:=by
 induction ts with
 |nil=>intro w;simp[bT]
 |cons t l j=>intro w;rw[XL,j];simp[el,sitL_len,bT];omega
theorem L6(p:aY){ln:Int}(B:∀d∈p.decls,(1<=d.kind/\d.kind<=6)/\d.size<=4)(hck:ao Tryz.prog 24 [.agg p.enc] (.tup [.YJ 0,.YJ ln]))(hw:p.wt<=200000):ao Tryz.prog 51 [.agg p.enc] (.agg (cC p).enc):=by
 have hdl:=p.decls_len;have htl:=p.threads_len;refine ac.fz (BZ _ _ _ ?_);unfold aY.enc;refine vw ?_;generalize hQ:(λ(v:AV) (L:SH)=>∃v2 L2,aE [v] L [v2] L2/\v2=.agg (cC p).enc/\L2=[])=Q;have hq:∀v L,Fz L v (.agg (cC p).enc)->Q v L:=λv L h=>by subst hQ;exact⟨_,[],aE.all h,rfl,rfl⟩
 clear hQ
 repeat' (first|refine sx ?_|refine sb λu hnb_=>?_|refine s2 (λh=>?_) λh=>?_|fail)
 rename_i b0 hb0 b2 hb2;have O:∀k,((p.decls.take k).foldl dh aK.zero).cells.length<2^30/\((p.decls.take k).foldl dh aK.zero).locks.length<2^30/\((p.decls.take k).foldl dh aK.zero).conds.length<2^30/\((p.decls.take k).foldl dh aK.zero).futures.length<2^30:=λk=>by
  obtain⟨a1,a2,a3,a4,_,_⟩:=Ea aK.zero (p.decls.take k) λd Y=>(B d (List.mem_of_mem_take Y)).2
  have:(p.decls.take k).length<=200000:=by rw[Xb];omega
  simp only[aK.zero,WT]at a1 a2 a3 a4;exact⟨by show List.length _<_;unfold aK.zero;omega,by show List.length _<_;unfold aK.zero;omega,by show List.length _<_;unfold aK.zero;omega,by show List.length _<_;unfold aK.zero;omega⟩
 obtain⟨_,_,_,_,G,D⟩:=Ea aK.zero p.decls λd Y=>(B d Y).2
 refine bF (β:=Option Nat×Option Nat×Option Nat×Option Nat×Option Nat×Option Nat) p.decls.length (λi q=>([.pptr [[.lst (p.decls.map aA.enc),.lst (p.threads.map aj.enc)]] 0 0,.ptr b2 0 0,.ptr u 0 0,.YJ i],Ck b2 u q.1 q.2.1 q.2.2.1 q.2.2.2.1 q.2.2.2.2.1 q.2.2.2.2.2 ((p.decls.take i).foldl dh aK.zero)))
  (λi q=>Dk u q.1 q.2.1 q.2.2.1 q.2.2.2.1 q.2.2.2.2.1 q.2.2.2.2.2 ((p.decls.take i).foldl dh aK.zero)) (none,none,none,none,none,none) ⟨λ_=>rfl,λ_=>rfl,λ_=>rfl,λ_=>rfl,λ_=>rfl,λ_=>rfl,nofun⟩ ?_ ?_
 .exact aE.rowA (K:=[]) (A:=[]) (R:=[(b2,⟨6,[Tj]⟩)]) (rows:=[[.nils,.nils,.nils,.nils,.nils,.nils]]) (.one (.here _) (.one (.here _) (.nil _))) rfl (dN (.cons .nile (.cons .nile (.cons .nile (.cons .nile (.cons .nile (.cons .nile .nil))))))) rfl
 rintro i ⟨oc,ol,od,of,ot,os⟩ hi ho;dsimp only at ho ⊢;refine vw ?_;generalize M:(λ(vs':List AV) (L':SH)=>∃j o',i<j/\j<=p.decls.length/\_)=nx;rcases Nat.lt_or_ge i p.decls.length with E|E
 .have Y:=a8 E;have hi1:=ax E YC;have S:Rv (nx [.pptr [[.lst (p.decls.map aA.enc),.lst (p.threads.map aj.enc)]] 0 0,.ptr b2 0 0,.ptr u 0 0,.YJ ((i+1:Nat):Int)]) b2 u (dh ((p.decls.take i).foldl dh aK.zero) p.decls[i]):=.of λoc2 ol2 od2 of2 Z os2 L' q1 q2=>by subst M;rw[<-kQ (f:=dh) (a:=aK.zero) E]at q1 q2;exact⟨i+1,(oc2,ol2,od2,of2,Z,os2),YC,YC,q1,aE.pick q2 rfl⟩
  obtain⟨a1,a2,a3,a4⟩:=O i;have hk:=B _ (WN E);have hr:=Tk (rows:=p.decls.map aA.enc) (tl:=p.threads.map aj.enc) (d:=p.decls[i]) (aq E) hk.1 YC hi1 ho a1 a2 a3 a4 S;clear M S;generalize hW:Ck b2 u oc ol od of ot os ((p.decls.take i).foldl dh aK.zero)=LW at *
  repeat' (first|exact hr|refine sy ?_|refine s2 ?_ ?_|intro)
 .have Y:=bq E;have e:i=p.decls.length:=by omega
  subst e;rw[XT]at ho ⊢;have hl:=Ty (Q:=Q) (dl:=p.decls.map aA.enc) (ts:=p.threads) (b2:=b2) YC (λt ht=>?hb) G D (λk=>?hs) ho hq
  case hb=>
   obtain⟨j,hj,rfl⟩:=XJ ht;have:=p.thread_wt hj;unfold aj.wt at this;omega
  case hs=>
   rw[Jz,D];have h1:=oq (λt:aj=>aa.cnts t.body) p.threads k;have h2:bT (λt:aj=>aa.cnts t.body) p.threads<=p.wt:=by have:=BJ (f:=λt:aj=>aa.cnts t.body) (g:=aj.wt) (λt=>by have:=aa.cnts_wt t.body;unfold aj.wt;omega) p.threads;unfold aY.wt;unfold bT at *;omega
   simp only[aK.zero,WT];omega
  generalize hW:Ck b2 u oc ol od of ot os (p.decls.foldl dh aK.zero)=LW at *
  repeat' (first|exact hl|refine sy ?_|refine s2 ?_ ?_|intro)
end
def OW{α:Type}{f:α->List AV}{l:List α}{n by_:Nat}{L:SH}{KL:AV->SH->Prop}(B:∀x,(f x).length=n)(h2:2*l.length*by_<=2^48)(D:2*l.length<=2^62)(h4:∀x,(f x).all AV.one=true)
  (h:l=[]->KL .nils L) (E:∀b,KL (.sl b 0 l.length) ((b,⟨n,l.map f⟩)::L)):W.append n by_ .nils (.lst (l.map f)) L KL:=by
 have j:((l.map f).all λr=>r.all AV.one)=true:=by rw[W2];intro r u;obtain⟨x,_,rfl⟩:=Xi.1 u;exact h4 x
 refine⟨[],l.map f,rfl,qI B,by simpa using h2,by simpa using D,j,λe=>?_,λe b G=>?_⟩
 .exact h (by simpa using e)
 .have:=E b;simpa using this
def TI{n23:Kn}{bm bt D B u bh M a n i:Nat}{t:List UInt8}{th le:Int}{se tx at_ lo:Bool}{o oT:Option Nat}{ar:List aO}{ts:List aj}{nm:aO}
  (ht:t.length<2^63) (ha:a<=t.length) (ho:o=none->ar=[]) (hoT:oT=none->ts=[]) (Cj:ts.length<=4)
  (f1:bh≠bm) (f2:bh≠bt) (f3:∀b,o=some b->bh≠b) (hnm:nm.length<=4)
  (hz:decide ((i:Int)=0)=false) (hn:∀(x:aj) (a':Nat) (th' le':Int) (se' tx' at' lo':Bool) (o':Option Nat) (ar':List aO) (nbT:Nat) (L':SH),(aj.wt x<=40000/\x.name=nm/\x.locals=[[97],[98]])->a'<=t.length->(o'=none->ar'=[])->aE [.ptr D 0 0,.ptr bm 0 0,.ptr B 0 0,.YJ n,.sl u 0 4,.YJ (IntKind.i64.wrap ((i:Int)+1))] L' [.ptr D 0 0,.ptr bm 0 0,.ptr B 0 0,.YJ n,.sl u 0 4,.YJ (IntKind.i64.wrap ((i:Int)+1))] (PH bm bt D B u t a' th' le' se' tx' at' lo' o' ar' (some nbT) (ts.length+1) (ts++[x]))->aE [.ptr D 0 0,.ptr bm 0 0,.ptr B 0 0,.YJ n,.sl u 0 4,.YJ (IntKind.i64.wrap ((i:Int)+1))] L' [.ptr D 0 0,.ptr bm 0 0,.ptr B 0 0,.YJ n,.sl u 0 4,.YJ (IntKind.i64.wrap ((i:Int)+1))] (PZ D B (ts++[x]))->n23 [.ptr D 0 0,.ptr bm 0 0,.ptr B 0 0,.YJ n,.sl u 0 4,.YJ (IntKind.i64.wrap ((i:Int)+1))] L')
  : ey n23 [.ptr D 0 0,.ptr bm 0 0,.ptr B 0 0,.YJ n,.sl u 0 4,.YJ (i:Int),.ptr bh 0 0] ((bh,⟨4,[[.str nm,.YJ 0,.sl M 0 2,AV.nils]]⟩)::(M,⟨1,[[.str [97]],[.str [98]]]⟩)::(bm,bY bt th le se tx at_ lo o 0)::(bt,bE t a)::(D,⟨2,[[.nils,.nils]]⟩)::(B,⟨2,[[.lst (bD.map aA.enc),ai oT ts.length]]⟩)::(u,⟨1,mb.map av⟩)::(ab oT 4 (ts.map aj.enc)++ab o 1 (ar.map av))):=by
 unfold bY mY;refine vw ?_
 repeat' (first|refine ep (dw ?_ (Qr YC))|refine sx ?_|((with_reducible refine aU 22 ?_);(refine g9 ht YD rp (λr_ a_ hr_ G=>?_)))|((with_reducible refine dR 22 ?_);refine zH ht YD rp (λr_ a_ hr_ G=>?_))|((with_reducible refine dR 23 ?_);refine H8 rfl YC rp rp rp ht YD YD (H7 f1 f2 f3) ?_;rintro l_ a_ S le_ Y O at_ lo_ o_ ar_ ks_ hl_ G ho_;have hl9_:=aa.wts_len l_;rcases o_ with _|Z;all_goals dsimp only[zF,zG,List.nil_append,List.cons_append])|(refine OW (λx=>by rw[aa.enc_row];rfl) YC YC (λx=>by rw[aa.enc_row];rfl) ?_ ?_;all_goals first|(intro e_;subst e_)|intro E)|refine bG rp rp YF (λe=>by first|simp[hoT e]) YE YF YH YH YE (λj hnb_=>?_)|refine sb λj hnb_=>?_|refine s2 ?_ ?_|intro)
 all_goals first
  |exact hn ⟨nm,0,[[97],[98]],l_⟩ a_ S le_ Y O at_ lo_ none ar_ j _ ⟨by simp only[aj.wt,aa.wts,WS,Xp,WO,WT,XO,Ya];omega,rfl,rfl⟩ G ho_ (aE.rowA (A:=[(bm,_),(bt,_),(D,_),(B,_),(u,_)]) (b:=j) (R:=[]) (rows':=(ts++[_]).map aj.enc) rp YF (dU (f:=aj.enc) (.cons (.refl _) (.cons (.refl _) (.cons (Fz.sls (l:=[[97],[98]]) (f:=av) (size:=1) (b:=M) mm YE YG YE) (.cons (Fz.sls (l:=l_) (f:=aa.enc) (size:=11) (b:=E) mm YE YG YE) .nil))))) rfl) (aE.rowA (A:=[(D,_)]) (b:=B) (R:=[]) (rows':=[[.lst (bD.map aA.enc),.lst ((ts++[_]).map aj.enc)]]) rp YE (dN (.cons (.refl _) (.cons (gx (b:=j) mm YE YE (.cons (.refl _) (.cons (.refl _) (.cons (Fz.sls (l:=[[97],[98]]) (f:=av) (size:=1) (b:=M) mm YE YG YE) (.cons (Fz.sls (l:=l_) (f:=aa.enc) (size:=11) (b:=E) mm YE YG YE) .nil))))) .nil))) rfl)
  |exact hn ⟨nm,0,[[97],[98]],[]⟩ a_ S le_ Y O at_ lo_ none ar_ j _ ⟨by simp only[aj.wt,aa.wts,WS,Xp,WO,WT,XO,Ya];omega,rfl,rfl⟩ G ho_ (aE.rowA (A:=[(bm,_),(bt,_),(D,_),(B,_),(u,_)]) (b:=j) (R:=[]) (rows':=(ts++[_]).map aj.enc) rp YF (dU (f:=aj.enc) (.cons (.refl _) (.cons (.refl _) (.cons (Fz.sls (l:=[[97],[98]]) (f:=av) (size:=1) (b:=M) mm YE YG YE) (.cons .nils .nil))))) rfl) (aE.rowA (A:=[(D,_)]) (b:=B) (R:=[]) (rows':=[[.lst (bD.map aA.enc),.lst ((ts++[_]).map aj.enc)]]) rp YE (dN (.cons (.refl _) (.cons (gx (b:=j) mm YE YE (.cons (.refl _) (.cons (.refl _) (.cons (Fz.sls (l:=[[97],[98]]) (f:=av) (size:=1) (b:=M) mm YE YG YE) (.cons .nils .nil))))) .nil))) rfl)
  |exact hn ⟨nm,0,[[97],[98]],l_⟩ a_ S le_ Y O at_ lo_ (some Z) ar_ j _ ⟨by simp only[aj.wt,aa.wts,WS,Xp,WO,WT,XO,Ya];omega,rfl,rfl⟩ G ho_ (aE.rowA (A:=[(bm,_),(bt,_),(D,_),(B,_),(u,_)]) (b:=j) (R:=[(Z,_)]) (rows':=(ts++[_]).map aj.enc) rp YF (dU (f:=aj.enc) (.cons (.refl _) (.cons (.refl _) (.cons (Fz.sls (l:=[[97],[98]]) (f:=av) (size:=1) (b:=M) mm YE YG YE) (.cons (Fz.sls (l:=l_) (f:=aa.enc) (size:=11) (b:=E) mm YE YG YE) .nil))))) rfl) (aE.rowA (A:=[(D,_)]) (b:=B) (R:=[]) (rows':=[[.lst (bD.map aA.enc),.lst ((ts++[_]).map aj.enc)]]) rp YE (dN (.cons (.refl _) (.cons (gx (b:=j) mm YE YE (.cons (.refl _) (.cons (.refl _) (.cons (Fz.sls (l:=[[97],[98]]) (f:=av) (size:=1) (b:=M) mm YE YG YE) (.cons (Fz.sls (l:=l_) (f:=aa.enc) (size:=11) (b:=E) mm YE YG YE) .nil))))) .nil))) rfl)
  |exact hn ⟨nm,0,[[97],[98]],[]⟩ a_ S le_ Y O at_ lo_ (some Z) ar_ j _ ⟨by simp only[aj.wt,aa.wts,WS,Xp,WO,WT,XO,Ya];omega,rfl,rfl⟩ G ho_ (aE.rowA (A:=[(bm,_),(bt,_),(D,_),(B,_),(u,_)]) (b:=j) (R:=[(Z,_)]) (rows':=(ts++[_]).map aj.enc) rp YF (dU (f:=aj.enc) (.cons (.refl _) (.cons (.refl _) (.cons (Fz.sls (l:=[[97],[98]]) (f:=av) (size:=1) (b:=M) mm YE YG YE) (.cons .nils .nil))))) rfl) (aE.rowA (A:=[(D,_)]) (b:=B) (R:=[]) (rows':=[[.lst (bD.map aA.enc),.lst ((ts++[_]).map aj.enc)]]) rp YE (dN (.cons (.refl _) (.cons (gx (b:=j) mm YE YE (.cons (.refl _) (.cons (.refl _) (.cons (Fz.sls (l:=[[97],[98]]) (f:=av) (size:=1) (b:=M) mm YE YG YE) (.cons .nils .nil))))) .nil))) rfl)
@[irreducible] def JJ (n23:Kn) (v:List AV) (L:SH):Prop:=ey n23 v L
def RA{n23:Kn}{v:List AV}{L:SH}(h:JJ n23 v L):ey n23 v L:=by unfold JJ at h;exact h
def RB{n23:Kn}{v:List AV}{L:SH}(h:ey n23 v L):JJ n23 v L:=by unfold JJ;exact h
def KG(r:Nat):(mb.getD r []).length<=4:=by
 rcases r with _|_|_|_|r
 all_goals simp[mb]
def TJ{n23:Kn}{bm bt S M u O D a n:Nat}{t:List UInt8}{th le:Int}{se tx at_ lo:Bool}{o oT:Option Nat}{ar:List aO}{ts:List aj}{Y:aO}{m:Nat}(hn4:n<=4)(h1:1<=n)
  (hj:∀(B:Option Nat) (ps:List (List AV×aa)),(B=none->ps=[])->ps.length<=4->ij ps->aa.wts (ps.map Prod.snd)<=100->JJ n23 [.ptr S 0 0,.ptr bm 0 0,.ptr M 0 0,.YJ n,.sl u 0 4,.YJ ((0:Nat):Int),.ptr O 0 0] ((O,⟨4,[[.str Y,.YJ 0,.sl D 0 2,ai B ps.length]]⟩)::(D,⟨1,[[.str [97]],[.str [98]]]⟩)::(bm,bY bt th le se tx at_ lo o 0)::(bt,bE t a)::(S,⟨2,[[.nils,.nils]]⟩)::(M,⟨2,[[.lst (bD.map aA.enc),ai oT m]]⟩)::(u,⟨1,mb.map av⟩)::(ab B 11 (ps.map Prod.fst)++(ab oT 4 (ts.map aj.enc)++ab o 1 (ar.map av))))) :
  W.loop (zh (ey n23)) [.ptr S 0 0,.ptr bm 0 0,.ptr M 0 0,.YJ n,.sl u 0 4,.YJ ((0:Nat):Int),.ptr O 0 0,.YJ 1] ((O,⟨4,[[.str Y,.YJ 0,.sl D 0 2,.nils]]⟩)::(D,⟨1,[[.str [97]],[.str [98]]]⟩)::(bm,bY bt th le se tx at_ lo o 0)::(bt,bE t a)::(S,⟨2,[[.nils,.nils]]⟩)::(M,⟨2,[[.lst (bD.map aA.enc),ai oT m]]⟩)::(u,⟨1,mb.map av⟩)::(ab oT 4 (ts.map aj.enc)++ab o 1 (ar.map av))):=by
 refine bF (β:=Option Nat×List (List AV×aa)) (n-1) (λj ⟨B,ps⟩=>([.ptr S 0 0,.ptr bm 0 0,.ptr M 0 0,.YJ n,.sl u 0 4,.YJ ((0:Nat):Int),.ptr O 0 0,.YJ ((j+1:Nat):Int)],(O,⟨4,[[.str Y,.YJ 0,.sl D 0 2,ai B j]]⟩)::(D,⟨1,[[.str [97]],[.str [98]]]⟩)::(bm,bY bt th le se tx at_ lo o 0)::(bt,bE t a)::(S,⟨2,[[.nils,.nils]]⟩)::(M,⟨2,[[.lst (bD.map aA.enc),ai oT m]]⟩)::(u,⟨1,mb.map av⟩)::(ab B 11 (ps.map Prod.fst)++(ab oT 4 (ts.map aj.enc)++ab o 1 (ar.map av)))))
  (λj ⟨B,ps⟩=>(B=none->ps=[])/\ps.length=j/\ij ps/\aa.wts (ps.map Prod.snd)<=10*j) (none,[]) ⟨λ_=>rfl,rfl,ij.mk nofun nofun,Xq _⟩ ?_ ?_
 .refine aE.row (R:=_) (K:=[]) (rows:=[[.str Y,.YJ 0,.sl D 0 2,.nils]]) (rows':=[[.str Y,.YJ 0,.sl D 0 2,ai none 0]]) (.refl _) YE (λj r r' q1 q2=>?_)
  match j with
   |0=>cases q1;cases q2;exact .cons (.refl _) (.cons (.refl _) (.cons (.refl _) (.cons .nile .nil)))
   |j+1=>simp at q1
 rintro j ⟨B,ps⟩ hjn ⟨G,hl,hg,hw⟩;dsimp only at G hl hg hw ⊢;refine vw ?_;generalize Z:(λ(vs':List AV) (L':SH)=>_)=nx;subst hl;rcases Nat.lt_or_ge (ps.length+1) n with g|g
 .have hd1:=a8 g;have hi1:=ax g YC;unfold bY mY
  repeat' (first|refine sx ?_|refine gg (l:=mb) ?_ mm rfl (by simp[mb];omega)|refine eQ ?_ YC|refine bG rp rp YF (λe=>by first|simp[G e]) YE YF YH YH YE (λE hnb_=>?_)|refine sb λE hnb_=>?_|refine s2 ?_ ?_|intro)
  subst Z;have hnl:=KG (ps.length+1);generalize mb.getD (ps.length+1) []=w at hnl ⊢;refine⟨ps.length+1,(some E,ps++[(Dl 12 w,ma 12 w)]),YC,YC,⟨nofun,YF,hg.raw 12 w,?_⟩,aE.pickE (R:=(O,_)::(D,_)::(bm,_)::(bt,_)::(S,_)::(M,_)::(u,_)::(E,⟨11,ps.map Prod.fst++[Dl 12 w]⟩)::(ab oT 4 (ts.map aj.enc)++ab o 1 (ar.map av))) (.one (.there _ (.there _ (.here _))) (.one (.there _ (.there _ (.here _))) (.one (.there _ (.there _ (.here _))) (.one (.there _ (.there _ (.here _))) (.one (.there _ (.there _ (.here _))) (.one (.there _ (.there _ (.here _))) (.one (.there _ (.there _ (.here _))) (.one (.here _) (.slot (.there _ (.here _)) (.slotl (.there _ .last))))))))))) rfl ?_⟩
  .rw[WL,jZ];simp only[WS,Xp,ma,wz,WT];omega
  .dsimp only;rw[List.map_append];rfl
 .have hd1:=bq g;clear Z;unfold bY mY at *
  repeat' (first|(with_reducible refine RA ?_)|refine sy ?_|refine s2 ?_ ?_|intro)
  exact hj B ps G YC hg YC
def nu{b c:Nat}{L:SH}{y:Blk}(h:¬b∈SH.names L)(j:(c,y)∈L):b≠c:=λe=>h (by subst e;exact Xi.2 ⟨_,j,rfl⟩)
def Ib{o:Option Nat}{b n:Nat}{rows:List (List AV)}(h:o=some b):(b,(⟨n,rows⟩:Blk))∈ab o n rows:=by subst h;exact .head _
def L7{Q:R}{n23:Kn}{bm bt E D u a n i:Nat}{t:List UInt8}{th le:Int}{se tx at_ lo:Bool}{o oT:Option Nat}{ar:List aO}{ts:List aj}
  (ht:t.length<2^63) (ha:a<=t.length) (ho:o=none->ar=[]) (G:oT=none->ts=[]) (Cj:ts.length=i) (hi:i<n) (hn4:n<=4)
  (hn:∀(x:aj) (a':Nat) (S le':Int) (Y O at' lo':Bool) (o':Option Nat) (M:List aO) (Z:Nat) (L':SH),(aj.wt x<=40000/\x.name=mb.getD i []/\x.locals=[[97],[98]])->a'<=t.length->(o'=none->M=[])->aE [.ptr E 0 0,.ptr bm 0 0,.ptr D 0 0,.YJ n,.sl u 0 4,.YJ (IntKind.i64.wrap ((i:Int)+1))] L' [.ptr E 0 0,.ptr bm 0 0,.ptr D 0 0,.YJ n,.sl u 0 4,.YJ (IntKind.i64.wrap ((i:Int)+1))] (PH bm bt E D u t a' S le' Y O at' lo' o' M (some Z) (ts.length+1) (ts++[x]))->aE [.ptr E 0 0,.ptr bm 0 0,.ptr D 0 0,.YJ n,.sl u 0 4,.YJ (IntKind.i64.wrap ((i:Int)+1))] L' [.ptr E 0 0,.ptr bm 0 0,.ptr D 0 0,.YJ n,.sl u 0 4,.YJ (IntKind.i64.wrap ((i:Int)+1))] (PZ E D (ts++[x]))->n23 [.ptr E 0 0,.ptr bm 0 0,.ptr D 0 0,.YJ n,.sl u 0 4,.YJ (IntKind.i64.wrap ((i:Int)+1))] L') :
  zj Q [.ptr E 0 0,.ptr bm 0 0,.ptr D 0 0,.YJ n,.sl u 0 4,.YJ (i:Int)] (PH bm bt E D u t a th le se tx at_ lo o ar oT ts.length ts) n23:=by
 have hd1:=a8 hi;unfold PH bY mY;refine vw ?_;rcases i with _|i
 .repeat' (first|refine sx ?_|refine gg (l:=mb) ?_ mm rfl (by simp[mb])|refine eQ ?_ YC|refine sb λB j=>?_|refine s2 ?_ ?_|intro)
  have f1:B≠bm:=nu j (.tail _ (.head _));have f2:B≠bt:=nu j (.tail _ (.tail _ (.head _)));have f3:∀b,o=some b->B≠b:=λb e=>nu j (.tail _ (.tail _ (.tail _ (.tail _ (.tail _ (.tail _ (W8 _ (Ib e))))))))
  exact TJ hn4 YC λoB ps hoB hps hg hw=>RB (Tx ht ha ho G hoB YC hps f1 f2 f3 hg YG hw hn)
 .have hz:decide (((i+1:Nat):Int)=0)=false:=by simp;omega
  repeat' (first|(with_reducible refine RA ?_)|refine sx ?_|refine gg (l:=mb) ?_ mm rfl (by simp[mb];omega)|refine eQ ?_ YC|refine sb λB j=>?_|refine s2 ?_ ?_|intro)
  have f1:B≠bm:=nu j (.tail _ (.head _));have f2:B≠bt:=nu j (.tail _ (.tail _ (.head _)));have f3:∀b,o=some b->B≠b:=λb e=>nu j (.tail _ (.tail _ (.tail _ (.tail _ (.tail _ (.tail _ (W8 _ (Ib e))))))))
  exact RB (TI ht ha ho G YC f1 f2 f3 (KG (i+1)) hz hn)
def Wy{r:Nat}(h:r<100):IntKind.i64.wrap (2+(r:Int))=((2+r:Nat):Int):=by rw[WY _ YC];omega
inductive L8 (K:SH):SH->SH->Prop where
 |nil:L8 K [] []
 |same (p:Nat×Blk) {R R2:SH}:L8 K R R2->L8 K (p::R) (p::R2)
 |box {b n:Nat} {r r':List AV} {R R2:SH}:fi K r r'->L8 K R R2->L8 K ((b,⟨n,[r]⟩)::R) ((b,⟨n,[r']⟩)::R2)
def aE.blks{vs E:List AV}{L K R R2:SH}(M:L.Perm (K++R))(h:L8 K R R2)(Z:vs=E):aE vs L E R2:=by
 subst Z;refine⟨K,R,M,⟨rfl,λi a a2 u B=>by rw[u]at B;cases B;exact .refl _⟩,?_,?_⟩
 .clear M
  induction h with
  |nil=>rfl
  |same p h D=>simp[D]
  |box u h D=>simp[D]
 .clear M
  induction h with
  |nil=>intro i p q u;simp at u
  |same p h D=>
   intro i x y u B
   match i with
   |0=>cases u;cases B;exact⟨rfl,rfl,rfl,λj r S O G=>by rw[O]at G;cases G;exact⟨rfl,λk a a2 h5 Y=>by rw[h5]at Y;cases Y;exact .refl _⟩⟩
   |i+1=>exact D i x y (by simpa using u) (by simpa using B)
  |box hr h D=>
   intro i x y u B
   match i with
   |0=>cases u;cases B;exact⟨rfl,rfl,rfl,λj r S O G=>(dN hr j r S O G).at_⟩
   |i+1=>exact D i x y (by simpa using u) (by simpa using B)
def L9{L R K:SH}(h:wq L R K)(j:K=[]:=by rfl):L.Perm ([]++R):=by subst j;exact h.perm
