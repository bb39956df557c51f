/- part -/
import Derived.Test.YtfckbjehkbhkgaaGreatQwL
import Derived.Test.YtfckbjehkbhkgaaGreatQwP
import Derived.Test.YtfckbjehkbhkgaaGreatQwS
set_option linter.all false
set_option maxRecDepth 100000
set_option maxHeartbeats 0
namespace Go.Proofs.YtfckbjehkbhkgaaGreat.Am
def S9{α:Type}{f:α->List AV}{l:List α}{n by_:Nat}{L:SH}{KL:AV->SH->Prop}(B:∀x,(f x).length=n)(h2:2*l.length*by_<=2^48)(D:2*l.length<=2^62)(h4:∀x,(f x).all AV.one=true)
  (h:l=[]->KL .nils L) (E:∀b,KL (.sl b 0 l.length) ((b,⟨n,l.map f⟩)::L)):W.append n by_ .nils (.lst (l.map f)) L KL:=by
 have j:((l.map f).all λr=>r.all AV.one)=true:=by rw[abh];intro r u;obtain⟨x,_,rfl⟩:=abP.1 u;exact h4 x
 refine⟨[],l.map f,rfl,vG B,by simpa using h2,by simpa using D,j,λe=>?_,λe b G=>?_⟩
 .exact h (by simpa using e)
 .have:=E b;simpa using this
def Ye{n23:Kn}{M bt D B u bh N a n i:Nat}{t:List UInt8}{th le:Int}{se tx at_ lo:Bool}{o oT:Option Nat}{ar:List bU}{ts:List am}{nm:bU}
  (ht:t.length<2^63) (ha:a<=t.length) (ho:o=none->ar=[]) (hoT:oT=none->ts=[]) (zV:ts.length<=4)
  (f1:bh≠M) (f2:bh≠bt) (f3:∀b,o=some b->bh≠b) (hnm:nm.length<=4)
  (hz:decide ((i:Int)=0)=false) (hn:∀(x:am) (a':Nat) (th' le':Int) (se' tx' at' lo':Bool) (o':Option Nat) (ar':List bU) (nbT:Nat) (L':SH),(am.wt x<=40000/\x.name=nm/\x.locals=[[97],[98]])->a'<=t.length->(o'=none->ar'=[])->ax [.ptr D 0 0,.ptr M 0 0,.ptr B 0 0,.acU n,.sl u 0 4,.acU (IntKind.i64.wrap ((i:Int)+1))] L' [.ptr D 0 0,.ptr M 0 0,.ptr B 0 0,.acU n,.sl u 0 4,.acU (IntKind.i64.wrap ((i:Int)+1))] (PH M bt D B u t a' th' le' se' tx' at' lo' o' ar' (some nbT) (ts.length+1) (ts++[x]))->ax [.ptr D 0 0,.ptr M 0 0,.ptr B 0 0,.acU n,.sl u 0 4,.acU (IntKind.i64.wrap ((i:Int)+1))] L' [.ptr D 0 0,.ptr M 0 0,.ptr B 0 0,.acU n,.sl u 0 4,.acU (IntKind.i64.wrap ((i:Int)+1))] (PZ D B (ts++[x]))->n23 [.ptr D 0 0,.ptr M 0 0,.ptr B 0 0,.acU n,.sl u 0 4,.acU (IntKind.i64.wrap ((i:Int)+1))] L')
  : eK n23 [.ptr D 0 0,.ptr M 0 0,.ptr B 0 0,.acU n,.sl u 0 4,.acU (i:Int),.ptr bh 0 0] ((bh,⟨4,[[.str nm,.acU 0,.sl N 0 2,AV.nils]]⟩)::(N,⟨1,[[.str [97]],[.str [98]]]⟩)::(M,bV bt th le se tx at_ lo o 0)::(bt,az t a)::(D,⟨2,[[.nils,.nils]]⟩)::(B,⟨2,[[.lst (cj.map aZ.enc),af oT ts.length]]⟩)::(u,⟨1,rK.map ay⟩)::(ab oT 4 (ts.map am.enc)++ab o 1 (ar.map ay))):=by
 unfold bV nQ;refine vw ?_
 repeat' (first|refine kH (ur ?_ (Vf acN))|refine sx ?_|((with_reducible refine aN 92 ?_);(refine ij ht acO rp (λr_ a_ hr_ G=>?_)))|((with_reducible refine cy 92 ?_);refine Bc ht acO rp (λr_ a_ hr_ G=>?_))|((with_reducible refine cy 129 ?_);refine Lo rfl acN rp rp rp ht acO acO (Ln f1 f2 f3) ?_;rintro l_ a_ S le_ Y O at_ lo_ o_ ar_ ks_ hl_ G ho_;have hl9_:=ae.wts_len l_;rcases o_ with _|Z;all_goals dsimp only[A7,A8,List.nil_append,List.cons_append])|(refine S9 (λx=>by rw[ae.enc_row];rfl) acN acN (λx=>by rw[ae.enc_row];rfl) ?_ ?_;all_goals first|(intro e_;subst e_)|intro E)|refine aM rp rp acQ (λe=>by first|simp[hoT e]) acP acQ acS acS acP (λj hnb_=>?_)|refine sb λj hnb_=>?_|refine s2 ?_ ?_|intro)
 all_goals first
  |exact hn ⟨nm,0,[[97],[98]],l_⟩ a_ S le_ Y O at_ lo_ none ar_ j _ ⟨by simp only[am.wt,ae.wts,aai,abF,abi,abq,acf,acA];omega,rfl,rfl⟩ G ho_ (ax.rowA (A:=[(M,_),(bt,_),(D,_),(B,_),(u,_)]) (b:=j) (R:=[]) (rows':=(ts++[_]).map am.enc) rp acQ (ey (f:=am.enc) (.cons (.refl _) (.cons (.refl _) (.cons (Fz.sls (l:=[[97],[98]]) (f:=ay) (size:=1) (b:=N) mm acP acR acP) (.cons (Fz.sls (l:=l_) (f:=ae.enc) (size:=11) (b:=E) mm acP acR acP) .nil))))) rfl) (ax.rowA (A:=[(D,_)]) (b:=B) (R:=[]) (rows':=[[.lst (cj.map aZ.enc),.lst ((ts++[_]).map am.enc)]]) rp acP (eg (.cons (.refl _) (.cons (gK (b:=j) mm acP acP (.cons (.refl _) (.cons (.refl _) (.cons (Fz.sls (l:=[[97],[98]]) (f:=ay) (size:=1) (b:=N) mm acP acR acP) (.cons (Fz.sls (l:=l_) (f:=ae.enc) (size:=11) (b:=E) mm acP acR acP) .nil))))) .nil))) rfl)
  |exact hn ⟨nm,0,[[97],[98]],[]⟩ a_ S le_ Y O at_ lo_ none ar_ j _ ⟨by simp only[am.wt,ae.wts,aai,abF,abi,abq,acf,acA];omega,rfl,rfl⟩ G ho_ (ax.rowA (A:=[(M,_),(bt,_),(D,_),(B,_),(u,_)]) (b:=j) (R:=[]) (rows':=(ts++[_]).map am.enc) rp acQ (ey (f:=am.enc) (.cons (.refl _) (.cons (.refl _) (.cons (Fz.sls (l:=[[97],[98]]) (f:=ay) (size:=1) (b:=N) mm acP acR acP) (.cons .nils .nil))))) rfl) (ax.rowA (A:=[(D,_)]) (b:=B) (R:=[]) (rows':=[[.lst (cj.map aZ.enc),.lst ((ts++[_]).map am.enc)]]) rp acP (eg (.cons (.refl _) (.cons (gK (b:=j) mm acP acP (.cons (.refl _) (.cons (.refl _) (.cons (Fz.sls (l:=[[97],[98]]) (f:=ay) (size:=1) (b:=N) mm acP acR acP) (.cons .nils .nil))))) .nil))) rfl)
  |exact hn ⟨nm,0,[[97],[98]],l_⟩ a_ S le_ Y O at_ lo_ (some Z) ar_ j _ ⟨by simp only[am.wt,ae.wts,aai,abF,abi,abq,acf,acA];omega,rfl,rfl⟩ G ho_ (ax.rowA (A:=[(M,_),(bt,_),(D,_),(B,_),(u,_)]) (b:=j) (R:=[(Z,_)]) (rows':=(ts++[_]).map am.enc) rp acQ (ey (f:=am.enc) (.cons (.refl _) (.cons (.refl _) (.cons (Fz.sls (l:=[[97],[98]]) (f:=ay) (size:=1) (b:=N) mm acP acR acP) (.cons (Fz.sls (l:=l_) (f:=ae.enc) (size:=11) (b:=E) mm acP acR acP) .nil))))) rfl) (ax.rowA (A:=[(D,_)]) (b:=B) (R:=[]) (rows':=[[.lst (cj.map aZ.enc),.lst ((ts++[_]).map am.enc)]]) rp acP (eg (.cons (.refl _) (.cons (gK (b:=j) mm acP acP (.cons (.refl _) (.cons (.refl _) (.cons (Fz.sls (l:=[[97],[98]]) (f:=ay) (size:=1) (b:=N) mm acP acR acP) (.cons (Fz.sls (l:=l_) (f:=ae.enc) (size:=11) (b:=E) mm acP acR acP) .nil))))) .nil))) rfl)
  |exact hn ⟨nm,0,[[97],[98]],[]⟩ a_ S le_ Y O at_ lo_ (some Z) ar_ j _ ⟨by simp only[am.wt,ae.wts,aai,abF,abi,abq,acf,acA];omega,rfl,rfl⟩ G ho_ (ax.rowA (A:=[(M,_),(bt,_),(D,_),(B,_),(u,_)]) (b:=j) (R:=[(Z,_)]) (rows':=(ts++[_]).map am.enc) rp acQ (ey (f:=am.enc) (.cons (.refl _) (.cons (.refl _) (.cons (Fz.sls (l:=[[97],[98]]) (f:=ay) (size:=1) (b:=N) mm acP acR acP) (.cons .nils .nil))))) rfl) (ax.rowA (A:=[(D,_)]) (b:=B) (R:=[]) (rows':=[[.lst (cj.map aZ.enc),.lst ((ts++[_]).map am.enc)]]) rp acP (eg (.cons (.refl _) (.cons (gK (b:=j) mm acP acP (.cons (.refl _) (.cons (.refl _) (.cons (Fz.sls (l:=[[97],[98]]) (f:=ay) (size:=1) (b:=N) mm acP acR acP) (.cons .nils .nil))))) .nil))) rfl)
@[irreducible] def JJ (n23:Kn) (v:List AV) (L:SH):Prop:=eK n23 v L
def Wf{n23:Kn}{v:List AV}{L:SH}(h:JJ n23 v L):eK n23 v L:=by unfold JJ at h;exact h
def Wg{n23:Kn}{v:List AV}{L:SH}(h:eK n23 v L):JJ n23 v L:=by unfold JJ;exact h
def OC(r:Nat):(rK.getD r []).length<=4:=by
 rcases r with _|_|_|_|r
 all_goals simp[rK]
def Yf{n23:Kn}{N bt S M u O D a n:Nat}{t:List UInt8}{th le:Int}{se tx at_ lo:Bool}{o oT:Option Nat}{ar:List bU}{ts:List am}{Y:bU}{m:Nat}(hn4:n<=4)(h1:1<=n)
  (hj:∀(B:Option Nat) (ps:List (List AV×ae)),(B=none->ps=[])->ps.length<=4->iu ps->ae.wts (ps.map Prod.snd)<=100->JJ n23 [.ptr S 0 0,.ptr N 0 0,.ptr M 0 0,.acU n,.sl u 0 4,.acU ((0:Nat):Int),.ptr O 0 0] ((O,⟨4,[[.str Y,.acU 0,.sl D 0 2,af B ps.length]]⟩)::(D,⟨1,[[.str [97]],[.str [98]]]⟩)::(N,bV bt th le se tx at_ lo o 0)::(bt,az t a)::(S,⟨2,[[.nils,.nils]]⟩)::(M,⟨2,[[.lst (cj.map aZ.enc),af oT m]]⟩)::(u,⟨1,rK.map ay⟩)::(ab B 11 (ps.map Prod.fst)++(ab oT 4 (ts.map am.enc)++ab o 1 (ar.map ay))))) :
  W.loop (AH (eK n23)) [.ptr S 0 0,.ptr N 0 0,.ptr M 0 0,.acU n,.sl u 0 4,.acU ((0:Nat):Int),.ptr O 0 0,.acU 1] ((O,⟨4,[[.str Y,.acU 0,.sl D 0 2,.nils]]⟩)::(D,⟨1,[[.str [97]],[.str [98]]]⟩)::(N,bV bt th le se tx at_ lo o 0)::(bt,az t a)::(S,⟨2,[[.nils,.nils]]⟩)::(M,⟨2,[[.lst (cj.map aZ.enc),af oT m]]⟩)::(u,⟨1,rK.map ay⟩)::(ab oT 4 (ts.map am.enc)++ab o 1 (ar.map ay))):=by
 refine aL (β:=Option Nat×List (List AV×ae)) (n-1) (λj ⟨B,ps⟩=>([.ptr S 0 0,.ptr N 0 0,.ptr M 0 0,.acU n,.sl u 0 4,.acU ((0:Nat):Int),.ptr O 0 0,.acU ((j+1:Nat):Int)],(O,⟨4,[[.str Y,.acU 0,.sl D 0 2,af B j]]⟩)::(D,⟨1,[[.str [97]],[.str [98]]]⟩)::(N,bV bt th le se tx at_ lo o 0)::(bt,az t a)::(S,⟨2,[[.nils,.nils]]⟩)::(M,⟨2,[[.lst (cj.map aZ.enc),af oT m]]⟩)::(u,⟨1,rK.map ay⟩)::(ab B 11 (ps.map Prod.fst)++(ab oT 4 (ts.map am.enc)++ab o 1 (ar.map ay)))))
  (λj ⟨B,ps⟩=>(B=none->ps=[])/\ps.length=j/\iu ps/\ae.wts (ps.map Prod.snd)<=10*j) (none,[]) ⟨λ_=>rfl,rfl,iu.mk nofun nofun,abt _⟩ ?_ ?_
 .refine ax.row (R:=_) (K:=[]) (rows:=[[.str Y,.acU 0,.sl D 0 2,.nils]]) (rows':=[[.str Y,.acU 0,.sl D 0 2,af none 0]]) (.refl _) acP (λj r r' q1 q2=>?_)
  match j with
   |0=>cases q1;cases q2;exact .cons (.refl _) (.cons (.refl _) (.cons (.refl _) (.cons .nile .nil)))
   |j+1=>simp at q1
 rintro j ⟨B,ps⟩ hjn ⟨G,hl,hg,hw⟩;dsimp only at G hl hg hw ⊢;refine vw ?_;generalize Z:(λ(vs':List AV) (L':SH)=>_)=nx;subst hl;rcases Nat.lt_or_ge (ps.length+1) n with g|g
 .have hd1:=aS g;have hi1:=av g acN;unfold bV nQ
  repeat' (first|refine sx ?_|refine gv (l:=rK) ?_ mm rfl (by simp[rK];omega)|refine cN ?_ acN|refine aM rp rp acQ (λe=>by first|simp[G e]) acP acQ acS acS acP (λE hnb_=>?_)|refine sb λE hnb_=>?_|refine s2 ?_ ?_|intro)
  subst Z;have hnl:=OC (ps.length+1);generalize rK.getD (ps.length+1) []=w at hnl ⊢;refine⟨ps.length+1,(some E,ps++[(FS 12 w,mF 12 w)]),acN,acN,⟨nofun,acQ,hg.raw 12 w,?_⟩,ax.pickE (R:=(O,_)::(D,_)::(N,_)::(bt,_)::(S,_)::(M,_)::(u,_)::(E,⟨11,ps.map Prod.fst++[FS 12 w]⟩)::(ab oT 4 (ts.map am.enc)++ab o 1 (ar.map ay))) (.one (.there _ (.there _ (.here _))) (.one (.there _ (.there _ (.here _))) (.one (.there _ (.there _ (.here _))) (.one (.there _ (.there _ (.here _))) (.one (.there _ (.there _ (.here _))) (.one (.there _ (.there _ (.here _))) (.one (.there _ (.there _ (.here _))) (.one (.here _) (.slot (.there _ (.here _)) (.slotl (.there _ .last))))))))))) rfl ?_⟩
  .rw[ST,kh];simp only[aai,abF,mF,wz,abq];omega
  .dsimp only;rw[List.map_append];rfl
 .have hd1:=aW g;clear Z;unfold bV nQ at *
  repeat' (first|(with_reducible refine Wf ?_)|refine sy ?_|refine s2 ?_ ?_|intro)
  exact hj B ps G acN hg acN
def nZ{b c:Nat}{L:SH}{y:Blk}(h:¬b∈SH.names L)(j:(c,y)∈L):b≠c:=λe=>h (by subst e;exact abP.2 ⟨_,j,rfl⟩)
def Lr{o:Option Nat}{b n:Nat}{rows:List (List AV)}(h:o=some b):(b,(⟨n,rows⟩:Blk))∈ab o n rows:=by subst h;exact .head _
def P5{Q:R}{n23:Kn}{D bt G E u a n i:Nat}{t:List UInt8}{th le:Int}{se tx at_ lo:Bool}{o oT:Option Nat}{ar:List bU}{ts:List am}
  (ht:t.length<2^63) (ha:a<=t.length) (ho:o=none->ar=[]) (M:oT=none->ts=[]) (zV:ts.length=i) (hi:i<n) (hn4:n<=4)
  (hn:∀(x:am) (a':Nat) (S le':Int) (Y O at' lo':Bool) (o':Option Nat) (N:List bU) (Z:Nat) (L':SH),(am.wt x<=40000/\x.name=rK.getD i []/\x.locals=[[97],[98]])->a'<=t.length->(o'=none->N=[])->ax [.ptr G 0 0,.ptr D 0 0,.ptr E 0 0,.acU n,.sl u 0 4,.acU (IntKind.i64.wrap ((i:Int)+1))] L' [.ptr G 0 0,.ptr D 0 0,.ptr E 0 0,.acU n,.sl u 0 4,.acU (IntKind.i64.wrap ((i:Int)+1))] (PH D bt G E u t a' S le' Y O at' lo' o' N (some Z) (ts.length+1) (ts++[x]))->ax [.ptr G 0 0,.ptr D 0 0,.ptr E 0 0,.acU n,.sl u 0 4,.acU (IntKind.i64.wrap ((i:Int)+1))] L' [.ptr G 0 0,.ptr D 0 0,.ptr E 0 0,.acU n,.sl u 0 4,.acU (IntKind.i64.wrap ((i:Int)+1))] (PZ G E (ts++[x]))->n23 [.ptr G 0 0,.ptr D 0 0,.ptr E 0 0,.acU n,.sl u 0 4,.acU (IntKind.i64.wrap ((i:Int)+1))] L') :
  AI Q [.ptr G 0 0,.ptr D 0 0,.ptr E 0 0,.acU n,.sl u 0 4,.acU (i:Int)] (PH D bt G E u t a th le se tx at_ lo o ar oT ts.length ts) n23:=by
 have hd1:=aS hi;unfold PH bV nQ;refine vw ?_;rcases i with _|i
 .repeat' (first|refine sx ?_|refine gv (l:=rK) ?_ mm rfl (by simp[rK])|refine cN ?_ acN|refine sb λB j=>?_|refine s2 ?_ ?_|intro)
  have f1:B≠D:=nZ j (.tail _ (.head _));have f2:B≠bt:=nZ j (.tail _ (.tail _ (.head _)));have f3:∀b,o=some b->B≠b:=λb e=>nZ j (.tail _ (.tail _ (.tail _ (.tail _ (.tail _ (.tail _ (aaY _ (Lr e))))))))
  exact Yf hn4 acN λoB ps hoB hps hg hw=>Wg (Yc ht ha ho M hoB acN hps f1 f2 f3 hg acR hw hn)
 .have hz:decide (((i+1:Nat):Int)=0)=false:=by simp;omega
  repeat' (first|(with_reducible refine Wf ?_)|refine sx ?_|refine gv (l:=rK) ?_ mm rfl (by simp[rK];omega)|refine cN ?_ acN|refine sb λB j=>?_|refine s2 ?_ ?_|intro)
  have f1:B≠D:=nZ j (.tail _ (.head _));have f2:B≠bt:=nZ j (.tail _ (.tail _ (.head _)));have f3:∀b,o=some b->B≠b:=λb e=>nZ j (.tail _ (.tail _ (.tail _ (.tail _ (.tail _ (.tail _ (aaY _ (Lr e))))))))
  exact Wg (Ye ht ha ho M acN f1 f2 f3 (OC (i+1)) hz hn)
def abf{r:Nat}(h:r<100):IntKind.i64.wrap (2+(r:Int))=((2+r:Nat):Int):=by rw[abg _ acN];omega
inductive P6 (K:SH):SH->SH->Prop where
 |nil:P6 K [] []
 |same (p:Nat×Blk) {R R2:SH}:P6 K R R2->P6 K (p::R) (p::R2)
 |box {b n:Nat} {r r':List AV} {R R2:SH}:fy K r r'->P6 K R R2->P6 K ((b,⟨n,[r]⟩)::R) ((b,⟨n,[r']⟩)::R2)
def ax.blks{vs E:List AV}{L K R R2:SH}(M:L.Perm (K++R))(h:P6 K R R2)(Y:vs=E):ax vs L E R2:=by
 subst Y;refine⟨K,R,M,⟨rfl,λi a a2 u B=>by rw[u]at B;cases B;exact .refl _⟩,?_,?_⟩
 .clear M
  induction h with
  |nil=>rfl
  |same p h D=>simp[D]
  |box u h D=>simp[D]
 .clear M
  induction h with
  |nil=>intro i p q u;simp at u
  |same p h D=>
   intro i x y u B
   match i with
   |0=>cases u;cases B;exact⟨rfl,rfl,rfl,λj r O N G=>by rw[N]at G;cases G;exact⟨rfl,λk a a2 h5 S=>by rw[h5]at S;cases S;exact .refl _⟩⟩
   |i+1=>exact D i x y (by simpa using u) (by simpa using B)
  |box Z h D=>
   intro i x y u B
   match i with
   |0=>cases u;cases B;exact⟨rfl,rfl,rfl,λj r O N G=>(eg Z j r O N G).at_⟩
   |i+1=>exact D i x y (by simpa using u) (by simpa using B)
def P7{L R K:SH}(h:CF L R K)(j:K=[]:=by rfl):L.Perm ([]++R):=by subst j;exact h.perm
def Ta(t:List UInt8)(ht:t.length<2^63):ac Tryz.prog 105 [.lst (t.map aY)] [] λv K=>∃p:cJ,v=.agg p.enc/\K=[]/\p.wt<=200000/\p.decls=cj:=by
 refine ac.fz (AJ _ _ _ ?_);refine vw ?_;generalize hQ:(λ(v:AV) (L:SH)=>∃v2 L2,ax [v] L [v2] L2/\∃p:cJ,v2=.agg p.enc/\L2=[]/\p.wt<=200000/\p.decls=cj)=Q;have hq:∀(p:cJ) (v:AV) (L:SH),Fz L v (.agg p.enc)->p.wt<=200000->p.decls=cj->Q v L:=λp v L h1 h2 h3=>by subst hQ;exact⟨_,_,ax.all h1,p,rfl,rfl,h2,h3⟩
 clear hQ
 repeat' (first|refine kH (ur (c:=((2+_:Nat):Int)) ?_ (abf acN))|refine sx ?_|(refine pf 128 ?_;refine pm (xm) ?_)|((with_reducible refine aN 92 ?_);(refine ij (t:=t) (a:=0) ht (abt _) rp (λu a_ hr_ ha_=>?_)))|refine sb λj E=>?_|refine s2 (λh=>?_) λh=>?_|fail)
 rename_i M hb0 bt hbt bm hbm G hbp;refine aL (β:=Nat×Int×Int×Bool×Bool×Bool×Bool×Option Nat×List bU×Option Nat×List am) (2+u) (λi ⟨a,th,le,se,Z,at_,lo,o,S,N,ts⟩=>([.ptr M 0 0,.ptr bm 0 0,.ptr G 0 0,.acU ((2+u:Nat):Int),.sl j 0 4,.acU (i:Int)],if i=2+u then PZ M G ts else PH bm bt M G j t a th le se Z at_ lo o S N ts.length ts))
  (λi ⟨a,th,le,se,Z,at_,lo,o,S,N,ts⟩=>a<=t.length/\(o=none->S=[])/\(N=none->ts=[])/\ts.length=i/\(∀x∈ts,am.wt x<=40000)) (a_,0,20,false,false,false,false,none,[],none,[]) ⟨ha_,λ_=>rfl,λ_=>rfl,rfl,nofun⟩ ?_ ?_
 .show ax _ _ _ (if 0=2+u then PZ M G []else _);rw[if_neg acN];exact ax.blks (K:=[]) (R:=(bm,⟨8,[[.ptr bt 0 0,.acU 0,.acU 20,.bool false,.bool false,.bool false,.bool false,.nils]]⟩)::(bt,az t a_)::(M,⟨2,[[.nils,.nils]]⟩)::(G,⟨2,[[.lst (cj.map aZ.enc),.nils]]⟩)::(j,⟨1,rK.map ay⟩)::[]) (P7 (.one (.there _ (.there _ (.there _ (.here _)))) (.one (.there _ (.here _)) (.one (.there _ (.there _ (.here _))) (.one (.there _ (.here _)) (.one (.here _) (.nil _))))))) (.box (.cons (.refl _) (.cons (.refl _) (.cons (.refl _) (.cons (.refl _) (.cons (.refl _) (.cons (.refl _) (.cons (.refl _) (.cons .nile .nil)))))))) (.same _ (.same _ (.box (.cons (.refl _) (.cons .nile .nil)) (.same _ .nil))))) rfl
 .rintro i ⟨a,th,le,se,Z,at_,lo,o,S,N,ts⟩ hi ⟨ha,ho,B,zV,O⟩;dsimp only at ha ho B zV O ⊢;rcases Nat.lt_or_eq_of_le hi with g|g
  .rw[if_neg acN];refine P5 ht ha ho B zV g acN ?_;intro x a' th' le' se' Y at' lo' o' ar' nbT L' ⟨q1,_,_⟩ q2 q3 q4 q5;have e:IntKind.i64.wrap ((i:Int)+1)=((i+1:Nat):Int):=av g acN;rw[e]at q4 q5 ⊢;refine⟨i+1,(a',th',le',se',Y,at',lo',o',ar',some nbT,ts++[x]),acN,acN,⟨q2,q3,nofun,by simp[zV],?_⟩,?_⟩
   .intro y D;rcases aak.1 D with D|D
    .exact O y D
    .rw[aag.1 D];exact q1
   .dsimp only;by_cases z:i+1=2+u
    .rw[if_pos z];exact q5
    .rw[if_neg z,aal];exact q4
  .rw[if_pos g];subst g;have hd1:decide (((2+u:Nat):Int)<((2+u:Nat):Int))=false:=by simp
   have hpw:cJ.wt ⟨cj,ts⟩<=200000:=by
    have h1:(ts.map am.wt).sum<=ts.length*40000:=by
     clear zV hi B
     induction ts with
     |nil=>simp
     |cons y l ih=>
      have:=O y (.head _);have:=ih λz hz=>O z (.tail _ hz)
      simp only[aai,acf,abi];omega
    have h2:(cj.map aZ.wt).sum=19:=by decide
    show(cj.map aZ.wt).sum+(ts.map am.wt).sum<=200000;rw[h2];omega
   have hc1:=GH ⟨cj,ts⟩ acN;unfold PZ;refine vw ?_
   repeat' (first|refine sx ?_|(refine pf 128 ?_;refine pm (xm) ?_)|(refine pf 131 ?_;refine pm (Iz _) ?_)|(refine pf 130 ?_;refine pm (dM _ _) ?_)|refine sb λj E=>?_|refine s2 ?_ ?_|intro)
   .exact hq ⟨cj,[⟨[109,97,105,110],0,[[97],[98]],[dH [120] (Iy 1)]⟩]⟩ _ _ (Fz.aggs (.cons (.refl _) (.cons (gK (ts:=[]) (b:=j) mm acP acP (.cons (.refl _) (.cons (.refl _) (.cons (Fz.sls (l:=[[97],[98]]) (f:=ay) (size:=1) mm acP acR acP) (.cons (Fz.sls (l:=[dH [120] (Iy 1)]) (f:=ae.enc) (size:=11) mm (by simp[ae.enc_row]) acR acP) .nil))))) .nil))) acR rfl
   .exact hq ⟨cj,ts⟩ _ _ (.refl _) hpw rfl
section
section
variable {w:aF} {loc:List bU}
theorem Na(l:List ae)(hll:l.length<2^40)(h:∀i (hi:i<l.length),nX 160 [.agg l[i].row] w loc (3*l[i].wt)):nX 125 [.lst (l.map ae.enc)] w loc (3*ae.wts l):=by
 intro bg o D M N h0 hl
 refine ac.fz (u6 _ _ _ _ ?_);refine vw ?_;generalize hQ:(λ(v:AV) (L:SH)=>∃v2 L2,ax [v] L [v2] L2/\∃(E:Option Nat) (u:List cb) (S Z:Int),_)=Q;have fin:=zf hQ;clear hQ;refine aL l.length (λi (q:Option Nat×Int×Int×List cb)=>([.ptr bg 0 0,.lst (l.map ae.enc),.acU i],(bg,iM w loc (af q.1 q.2.2.2.length) q.2.1 q.2.2.1)::ab q.1 6 (q.2.2.2.map cb.enc)))
  (λi q=>(q.1=none->q.2.2.2=[])/\D.length<=q.2.2.2.length/\q.2.2.2.length<=D.length+3*ae.wts (l.take i)) (o,M,N,D) ⟨h0,Fd _,abB _ _⟩ (.refl _ _) ?_
 rintro i ⟨o1,s1,n1,B⟩ hi ⟨q1,q2,q3⟩;dsimp only at q1 q2 q3 ⊢;refine vw ?_;generalize O:(λ(vs':List AV) (L':SH)=>∃j E,i<j/\j<=l.length/\_)=nx;rcases Nat.lt_or_ge i l.length with G|G
 .have hd:=aS G;have hi1:=av G acN;have hx:=Gb G;have hwi:=ae.wts_succ G;have hwt:=ae.wts_take l (i+1);have hK:=h i G;have hn:∀(E:Option Nat) (u:List cb) (Y n':Int),(E=none->u=[])->B.length<=u.length->u.length<=B.length+3*l[i].wt->nx [.ptr bg 0 0,.lst (l.map ae.enc),.acU ((i+1:Nat):Int)] ((bg,iM w loc (af E u.length) Y n')::([]++ab E 6 (u.map cb.enc))):=by intro E u Y n' h1 h2 h3;subst O;exact⟨i+1,(E,Y,n',u),acN,acN,⟨h1,by dsimp only;omega,by dsimp only;omega⟩,.refl _ _⟩
  clear O h;generalize l[i]=x at *
  repeat' (first|refine sy ?_|((with_reducible refine aN 160 ?_);(refine eF hK rp rp om an om (λo_ out_ s_ n_ ho_ hl_ hm_=>?_)))|refine s2 ?_ ?_|intro)
  exact hn _ _ _ _ ho_ hl_ hm_
 .have hd:=aW G;have e:i=l.length:=by omega
  subst e;rw[acx]at q3
  repeat' (first|refine sy ?_|refine s2 ?_ ?_|intro)
  exact fin _ _ _ _ _ _ (.one (.here _) (.slotl .last)) om an om om
theorem Vj(B:WQ w)(j:loc.length<2^40):∀(n:Nat) (l:List ae),ae.wts l<=n->n<2^27->nX 125 [.lst (l.map ae.enc)] w loc (3*ae.wts l):=by
 intro n
 induction n using Nat.strongRecOn with
 |_ n u=>
 intro l G E;refine Na l (by have:=ae.wts_len l;omega) λi D=>?_
 have N:=ae.wts_get l i D;have M:=(l[i]).wt_eq;exact(XY B j l[i] acN (u _ acN l[i].body (Fd _) acN) (u _ acN l[i].els (Fd _) acN)).mono acN
end
theorem ac.fzL{P:Program}{f:FuncId}{args args2:List AV}{L L2:SH}{Q:AV->SH->Prop}(hz:ax args L args2 L2)(h:ac P f args2 L2 Q):ac P f args L Q:=⟨h.1,λH hb hs=>by
 obtain⟨H2,E,O,f3,f4⟩:=km hz hs hb;obtain⟨v,H',L',h1,h2,h3⟩:=h.2 H2 E.bd E.sub;refine⟨v,H',L',λw G M hW D=>?_,E.trans (h2.low (by rw[O];exact Fd _)) (Fd _),h3⟩;obtain⟨g1,N,g3⟩:=f3 w G hW;refine(h1 w G M g1 (g3 M D)).mono ?_;rintro e w' ⟨S,B,rfl,k1,k2,j,Z⟩;exact⟨S,B,rfl,k1,k2,⟨j.os,j.tape,j.output,j.size,λc u hT=>j.keep c u (λh=>hT (N c h)),j.shape,j.sig,j.eqfr,j.frame,λc u=>(j.own c u).imp (N c) id⟩,λc Y u=>by rw[<-O];exact Z c Y u⟩⟩
section
variable {n81:Kn} {x1 x2 x3 x4 x5 x6:AV} {bt bg k:Nat} {v:AV} {R:SH}
theorem Vk(l:List Int)(Y:l.length<2^30)(G:IntKind.i64.wrap ((k:Int)+1)=((k+1:Nat):Int))
  (E:∀a:Int,n81 [x1,x2,x3,x4,x5,x6,.ptr bt 0 0,.acU ((k+1:Nat):Int)] ((bt,⟨2,[[.acU a,v]]⟩)::R)) (a:Int) :
  W.loop (y9 n81) [x1,x2,x3,x4,x5,x6,.ptr bt 0 0,.acU k,.lst (l.map aa),.acU 0] ((bt,⟨2,[[.acU a,v]]⟩)::R):=by
 refine aL (β:=Int) l.length (λj a=>([x1,x2,x3,x4,x5,x6,.ptr bt 0 0,.acU k,.lst (l.map aa),.acU j],(bt,⟨2,[[.acU a,v]]⟩)::R)) (λ_ _=>True) a trivial (.refl _ _) λj a Z _=>?_
 dsimp only;refine vw ?_;generalize u:(λ(D:List AV) (L':SH)=>∃i O,j<i/\i<=l.length/\_)=nx;rcases Nat.lt_or_ge j l.length with g|g
 .have N:=aS g;have M:=av g acN;have S:=aj (f:=aa) g;have B:∀a:Int,nx [x1,x2,x3,x4,x5,x6,.ptr bt 0 0,.acU k,.lst (l.map aa),.acU ((j+1:Nat):Int)] ((bt,⟨2,[[.acU a,v]]⟩)::R):=λa=>by subst u;exact⟨j+1,a,acN,acN,trivial,.refl _ _⟩
  clear u
  repeat' (first|refine sy ?_|refine My ?_|refine s2 ?_ ?_|intro)
  exact B _
 .have N:=aW g
  repeat' (first|refine sy ?_|refine s2 ?_ ?_|intro)
  exact E _
theorem Vl{n23:Kn}{w:aF}{loc:List bU}{b:Nat}{site next:Int}{M E:SH}(out:List cb)(a:Int)(hl:out.length<2^30)
  (N:∀a:Int,zb n23 ((bt,⟨2,[[.acU a,v]]⟩)::(bg,iM w loc (af (some b) out.length) site next)::(b,⟨6,out.map cb.enc⟩)::M) x3 (.ptr bt 0 0) x5 x1 x2 x4) :
  cO E ((bt,⟨2,[[.acU a,v]]⟩)::(bg,iM w loc (af (some b) out.length) site next)::(b,⟨6,out.map cb.enc⟩)::M)->W.loop (zc n23) [x1,x2,x3,x4,x5,.ptr bg 0 0,.ptr bt 0 0,.acU 0] E:=by
 intro hp;refine aL (β:=Int) out.length (λj a=>([x1,x2,x3,x4,x5,.ptr bg 0 0,.ptr bt 0 0,.acU j],(bt,⟨2,[[.acU a,v]]⟩)::(bg,iM w loc (af (some b) out.length) site next)::(b,⟨6,out.map cb.enc⟩)::M)) (λ_ _=>True) a trivial (ax.pick hp rfl) ?_;intro j a O _;dsimp only;refine vw ?_;generalize u:(λ(G:List AV) (L':SH)=>∃k Z,j<k/\k<=out.length/\_)=nx;rcases Nat.lt_or_ge j out.length with h|h
 .have Y:=aS h;have S:=av h acN;have hj:=aj (f:=cb.enc) h;have D:(bS out[j]).length<2^30:=by
   generalize out[j]=i;unfold bS
   repeat' split
   all_goals simp
  have B:=Vk (n81:=nx) (x1:=x1) (x2:=x2) (x3:=x3) (x4:=x4) (x5:=x5) (x6:=.ptr bg 0 0) (bt:=bt) (v:=v) (R:=(bg,iM w loc (af (some b) out.length) site next)::(b,⟨6,out.map cb.enc⟩)::M) (bS out[j]) D S (λa=>by
   subst u;exact⟨j+1,a,acN,acN,trivial,.refl _ _⟩) a
  clear u
  repeat' (first|exact B|refine sy ?_|(refine pf 127 ?_;refine pm (oS out[j]) ?_)|refine s2 ?_ ?_|intro)
 .have Y:=aW h;clear u
  repeat' (first|exact N _|refine sy ?_|refine s2 ?_ ?_|intro)
end
def pgB(b19:Nat)(w:aF)(v:AV):Nat×Blk:=(b19,⟨7,[[.lst (w.cells.map aU.enc),.lst (w.locks.map bZ.enc),.lst (w.conds.map cM.enc),.lst (w.futures.map ay),.lst (w.threads.map ay),.lst (w.sites.map cF.enc),v]]⟩)
def Wh(b2 b19:Nat)(w:aF)(oT:Option Nat)(ts:List i6):SH:=pgB b19 w (af oT ts.length)::(b2,⟨7,[[.nils,.nils,.nils,.nils,.nils,.nils,.nils]]⟩)::ab oT 2 (ts.map i6.enc)
section
variable {n23:Kn} {b2 b19 i:Nat} {n:Int} {w:aF} {oT:Option Nat} {ts:List i6} {dl:List (List AV)} {th:List am} {kb:Nat}
theorem Vm(hi:i<th.length)(hi1:IntKind.i64.wrap ((i:Int)+1)=((i+1:Nat):Int))(hT:oT=none->ts=[])(zV:ts.length<2^20)(hK:nX 125 [.lst (th[i].body.map ae.enc)] w th[i].locals kb)(hkb:kb<2^28)
  (hn:∀(Y:Nat) (S:SH) (D:Int) (O:i6),O.ins.length<2^30->ax [.pptr [[.lst dl,.lst (th.map am.enc)]] 0 0,.ptr b2 0 0,.ptr b19 0 0,.acU D,.acU ((i+1:Nat):Int)] S [.pptr [[.lst dl,.lst (th.map am.enc)]] 0 0,.ptr b2 0 0,.ptr b19 0 0,.acU D,.acU ((i+1:Nat):Int)] (Wh b2 b19 w (some Y) (ts++[O]))->n23 [.pptr [[.lst dl,.lst (th.map am.enc)]] 0 0,.ptr b2 0 0,.ptr b19 0 0,.acU D,.acU ((i+1:Nat):Int)] S) :
  zd n23 (Wh b2 b19 w oT ts) (.ptr b19 0 0) (.pptr [[.lst dl,.lst (th.map am.enc)]] 0 0) (.acU i) (.acU n) (.ptr b2 0 0):=by
 have hx:=aj (f:=am.enc) hi;have G:oT=none->ts.map i6.enc=[]:=λe=>by rw[hT e];rfl
 have h00:([]:List cb).length=0:=rfl;unfold Wh pgB;refine vw ?_
 repeat' (first|refine sx ?_|((with_reducible refine aN 125 ?_);(refine⟨ac.fzL (ax.row (K:=[]) (rows':=(iM w th[i].locals (af none 0) 0 n).rows) (.refl _) rfl (eg (.cons (.refl _) (.cons (.refl _) (.cons (.refl _) (.cons (.refl _) (.cons (.refl _) (.cons (.refl _) (.cons (.refl _) (.cons .nile (.cons (.refl _) (.cons (.refl _) .nil)))))))))))) (eF (o:=none) (out:=[]) (m:=0) (site:=0) (next:=n) hK rp (.here _) rfl (λ_=>rfl) om (λo_ j s_ Z ho_ E hm_=>?_)).1⟩;dsimp only[List.nil_append,List.cons_append]))|((with_reducible refine aN 126 ?_);(refine fh (site:=-1) rp rp om an om (λN j E=>?_);simp only[List.cons_append,List.append_assoc,List.nil_append,List.append_nil]))|refine sb λu B=>?_|refine s2 ?_ ?_|intro)
 refine Vl (out:=j) (b:=N) (w:=w) (loc:=th[i].locals) (site:=-1) (next:=Z) (M:=(b19,⟨7,[[.lst (w.cells.map aU.enc),.lst (w.locks.map bZ.enc),.lst (w.conds.map cM.enc),.lst (w.futures.map ay),.lst (w.threads.map ay),.lst (w.sites.map cF.enc),af oT ts.length]]⟩)::(b2,⟨7,[[.nils,.nils,.nils,.nils,.nils,.nils,.nils]]⟩)::ab oT 2 (ts.map i6.enc)) th[i].locals.length acN (λa=>?_) (.one (.here _) (.one (.here _) (cO.slot (o:=some N) (n:=6) (.there _ (.there _ (.skip _ _ _ .last))) (.one (.here _) (.one (.here _) (.slotl rp))))));refine vw ?_
 repeat' (first|refine sx ?_|refine aM rp rp acQ (λe=>by first|simp[G e]) acP acQ acS acS acP (λu B=>?_)|refine sb λu B=>?_|refine s2 ?_ ?_|intro)
 have e:Wh b2 b19 w (some u) (ts++[i6.mk a j])=[pgB b19 w (.sl u 0 (ts.length+1)),(b2,⟨7,[[.nils,.nils,.nils,.nils,.nils,.nils,.nils]]⟩)]++(u,⟨2,(ts++[i6.mk a j]).map i6.enc⟩)::[]:=by unfold Wh;rw[aal];rfl
 refine hn u _ _ (.mk a j) (by show j.length<_;omega) ?_;rw[e];refine ax.rowA (rows:=ts.map i6.enc++[[.acU a,.sl N 0 j.length]]) (.one (.there _ (.there _ (.there _ (.there _ (.there _ (.here _)))))) (.one (.there _ (.there _ (.there _ (.there _ (.there _ (.here _)))))) (.one (.here _) (.nil _)))) acQ (ey (f:=i6.enc) (x:=.mk a j) (.cons (.refl _) (.cons (Fz.sls (l:=j) (f:=cb.enc) (size:=6) mm rfl acR rfl) .nil))) rfl
end
end
def aad(ts:List am):∀(w:aF),(ts.foldl fa w).cells=w.cells/\(ts.foldl fa w).locks=w.locks/\(ts.foldl fa w).conds=w.conds/\(ts.foldl fa w).futures=w.futures/\(ts.foldl fa w).threads=w.threads++ts.map am.name:=by
 induction ts with
 |nil=>intro w;simp
 |cons t l j=>intro w;rw[acg];obtain⟨a,b,c,d,e⟩:=j (fa w t);exact⟨a,b,c,d,by rw[e];simp[fa]⟩
def aae{p:cJ}(M:p.decls=cj)(N:p.threads.length<=200000):WQ (mE p):=by
 obtain⟨a,b,c,d,e⟩:=aad p.threads (p.decls.foldl cR aF.zero);unfold mE;have j:p.decls.foldl cR aF.zero=cj.foldl cR aF.zero:=by rw[M]
 have z:(cj.foldl cR aF.zero).cells.length=5/\(cj.foldl cR aF.zero).locks.length=3/\(cj.foldl cR aF.zero).conds.length=1/\(cj.foldl cR aF.zero).futures.length=1/\(cj.foldl cR aF.zero).threads.length=0/\wE (cj.foldl cR aF.zero).cells [113]=3:=by decide
 rw[j]at a b c d e ⊢;obtain⟨u,G,z3,E,D,B⟩:=z;refine⟨by rw[a,u];decide,by rw[b,G];decide,by rw[c,z3];decide,by rw[d,E];decide,by rw[e];simp[D];omega,3,by rw[a,u];decide,by rw[a,B];rfl⟩
def Nb:∀d∈cj,(1<=d.kind/\d.kind<=6)/\d.size<=4:=by decide
def bP.pure(c:bP):bv (.agg c.enc):=.aggs (aA (.lmap λx _=>by unfold aU.enc;exact pv) (aA (.lmap λx _=>by unfold bZ.enc;exact pv) (aA (.lmap λx _=>by unfold cM.enc;exact pv) (aA (.lmap λx _=>gD x) (aA (.lmap λx _=>gD x) (aA (.lmap λx _=>by unfold cF.enc;exact pv) (aA (.lmap λx _=>by unfold i6.enc;exact aA (.int _ _) (aA (.lmap λx _=>by unfold cb.enc;exact pv) dS)) dS)))))))
def Ls(p:cJ){e ln:Int}(hd:p.decls=cj)(S:aq Tryz.prog 123 [.agg p.enc] (.tup [.acU e,.acU ln]))(hw:p.wt<=200000):
  ∃(c:bP) (a b:Int),((∀x∈c.ts,x.ins.length<2^40)/\c.w.locks.length<2^40/\c.ts.length<2^40)/\aq Tryz.prog 104 [.agg p.enc] (.tup [.agg c.enc,.acU a,.acU b]):=by
 have htl:=p.threads_len
 suffices h:ac Tryz.prog 104 [.agg p.enc] [] λv K=>∃(c:bP) (a b:Int),v=.tup [.agg c.enc,.acU a,.acU b]/\(∀x∈c.ts,x.ins.length<2^40)/\c.w.locks.length<2^40/\c.ts.length<2^40 by obtain⟨v,K,⟨c,a,b,rfl,hc⟩,hp⟩:=h.pure pv (by rintro _ _ ⟨c,a,b,rfl,_⟩;exact .tups (aA (bP.pure c) (aA (.int _ _) (aA (.int _ _) dS))));exact⟨c,a,b,hc,hp⟩
 refine ac.fz (ze _ _ _ ?_);unfold cJ.enc;refine vw ?_;generalize hQ:(λ(v:AV) (L:SH)=>∃v2 L2,ax [v] L [v2] L2/\∃(c:bP) (a b:Int),_)=Q;have Z:∀(c:bP) (v:AV) (a b:Int) (L:SH),Fz L v (.agg c.enc)->(∀x∈c.ts,x.ins.length<2^40)/\c.w.locks.length<2^40/\c.ts.length<2^40->Q (.tup [v,.acU a,.acU b]) L:=λc v a b L h h2=>by subst hQ;exact⟨_,[],ax.all (.tups (.cons h (.cons (.refl _) (.cons (.refl _) .nil)))),c,a,b,rfl,h2⟩
 clear hQ;by_cases he:e=0
 case neg=>
  have d0:decide (e≠0)=true:=decide_eq_true he
  repeat' (first|refine sy ?_|refine s2 ?_ ?_|intro)
  exact Z ⟨⟨[],[],[],[],[],[]⟩,[]⟩ _ _ _ _ (Fz.aggs (.cons .nils (.cons .nils (.cons .nils (.cons .nils (.cons .nils (.cons .nils (.cons .nils .nil)))))))) ⟨λx B=>(abA B).elim,acR,acR⟩
 subst he;have hW:=P4 p (by rw[hd];exact Nb) S hw;have M:=aae hd acN
 repeat' (first|refine sx ?_|refine sb λu hnb_=>?_|refine s2 (λh=>?_) λh=>?_|fail)
 rename_i b0 hb0 b2 hb2;refine aL (β:=Option Nat×List i6×Int) p.threads.length (λi q=>([.pptr [[.lst (p.decls.map aZ.enc),.lst (p.threads.map am.enc)]] 0 0,.ptr b2 0 0,.ptr u 0 0,.acU q.2.2,.acU i],Wh b2 u (mE p) q.1 q.2.1)) (λi q=>(q.1=none->q.2.1=[])/\q.2.1.length=i/\∀x∈q.2.1,x.ins.length<2^40) (none,[],0) ⟨λ_=>rfl,rfl,nofun⟩ ?_ ?_
 .dsimp only;refine ax.row (K:=[]) (b:=u) (n:=7) (rows:=[aR [.nils,.nils,.nils,.nils,.nils,.nils,.nils] 0 (mE p).enc]) (rows':=[[.lst ((mE p).cells.map aU.enc),.lst ((mE p).locks.map bZ.enc),.lst ((mE p).conds.map cM.enc),.lst ((mE p).futures.map ay),.lst ((mE p).threads.map ay),.lst ((mE p).sites.map cF.enc),.emp]]) (.refl _) rfl ?_;refine eg ?_;show fy [] [.lst ((mE p).cells.map aU.enc),.lst ((mE p).locks.map bZ.enc),.lst ((mE p).conds.map cM.enc),.lst ((mE p).futures.map ay),.lst ((mE p).threads.map ay),.lst ((mE p).sites.map cF.enc),.nils] _;exact .cons (.refl _) (.cons (.refl _) (.cons (.refl _) (.cons (.refl _) (.cons (.refl _) (.cons (.refl _) (.cons .nile .nil))))))
 rintro i ⟨oT,ts,nx⟩ hi ⟨Y,zV,D⟩;dsimp only at Y zV D ⊢;refine vw ?_;generalize G:(λ(vs':List AV) (L':SH)=>∃j o',i<j/\j<=p.threads.length/\_)=nxt;rcases Nat.lt_or_ge i p.threads.length with E|E
 .have O:=aS E;have N:=av E acN;have hwt:=p.thread_wt E;have hwe:(p.threads[i]).wt=1+(p.threads[i]).name.length+(p.threads[i]).locals.length+((p.threads[i]).locals.map List.length).sum+ae.wts (p.threads[i]).body:=rfl;have hK:=Vj (loc:=p.threads[i].locals) M acN _ p.threads[i].body (Fd _) acN;have hr:=Vm (n23:=nxt) (b2:=b2) (b19:=u) (n:=nx) (dl:=p.decls.map aZ.enc) (oT:=oT) (ts:=ts) E N Y acN hK acN (λnb L' n2 tc h1 hz=>by
   subst G;refine⟨i+1,(some nb,ts++[tc],n2),acN,acN,⟨nofun,by simp[zV],λx B=>?_⟩,hz⟩;rcases aak.1 B with B|B
   .exact D x B
   .rw[aag.1 B];omega)
  clear G;generalize hL:Wh b2 u (mE p) oT ts=LW at *
  repeat' (first|exact hr|refine sy ?_|refine s2 ?_ ?_|intro)
 .have O:=aW E;unfold Wh pgB
  repeat' (first|refine sy ?_|refine s2 ?_ ?_|intro)
  refine bD (.there _ (.here _)) rfl rfl (by simp[zh];exact⟨rfl,rfl,rfl,rfl,rfl,rfl⟩) rfl ?_
  repeat' (first|refine sy ?_|refine s2 ?_ ?_|intro)
  exact Z ⟨mE p,ts⟩ _ _ _ _ (Fz.aggs (.cons (.refl _) (.cons (.refl _) (.cons (.refl _) (.cons (.refl _) (.cons (.refl _) (.cons (.refl _) (.cons (Ea Y acR λq h=>.tail _ (.tail _ h)) .nil)))))))) ⟨D,M.l,by show ts.length<_;omega⟩
def Eb(s:UInt8):∀a∈aY s,bv a:=λa h=>by rw[aag.1 h];exact .int _ _
def P8(t:List UInt8)(ht:t.length<2^63):∃c:bP,aq Tryz.prog 65 [.lst (t.map aY)] (.agg c.enc)/\(∀x∈c.ts,x.ins.length<2^40)/\c.w.locks.length<2^40/\c.ts.length<2^40:=by
 obtain⟨v,K,⟨p,rfl,rfl,E,M⟩,hprog⟩:=(Ta t ht).pure (aA (.lmap λx _=>Eb x) dS) (λu K ⟨p,O,_⟩=>by rw[O];exact p.pure);obtain⟨c,a,b,N,S⟩:=Ls p M (GH p acN) E;refine⟨c,?_,N⟩;refine ac.fz (Ix _ _ _ ?_);refine vw ?_;generalize B:(λ(v:AV) (L:SH)=>∃j D,ax [v] L [j] D/\j=AV.agg c.enc/\D=[])=Q;have G:∀L,Q (.agg c.enc) L:=λL=>by subst B;exact⟨_,[],ax.all (.refl _),rfl,rfl⟩
 clear B
 repeat' (first|refine sy ?_|refine s2 ?_ ?_|intro)
 exact G _
def Qa(t u:List UInt8)(ht:t.length<2^63)(Y:u.length<=80):∃(w:aF) (ev:List bA),aq Tryz.prog 39 [.lst (t.map aY),.lst (u.map aY)] (.agg (⟨w,ev⟩:el).enc)/\(∀e∈ev,wO e)/\ev.length<=400:=by
 obtain⟨c,E,j,_⟩:=P8 t ht;have S:=Lt u acN;have B:=Va c j (u.map P9) acS;have D:=Ph c j (u.map P9);generalize u.map P9=l at *;generalize wM c l=r at *;obtain⟨⟨w,ev⟩,s⟩:=r;refine⟨w,ev,?_,D⟩;refine ac.fz (FT _ _ _ _ ?_);refine vw ?_;generalize M:(λ(v:AV) (L:SH)=>∃G N,ax [v] L [G] N/\G=AV.agg (⟨w,ev⟩:el).enc/\N=[])=Q;have O:∀L,Q (.agg (⟨w,ev⟩:el).enc) L:=λL=>by subst M;exact⟨_,[],ax.all (.refl _),rfl,rfl⟩
 clear M D j;dsimp only at B;rw[uW]at *;simp only[eE.enc]at B
 repeat' (first|refine sy ?_|refine s2 ?_ ?_|intro)
 exact O _
def Qb{f:FuncId}{m:Int}{v:AV}(h:aq Tryz.prog f [.lst [],.acU m] v):aq Tryz.prog f [.nils,.acU m] v:=
 ac.pre (args2:=[.lst [],.acU m]) (L2:=[]) (ax.drop (K:=[]) (.refl _) rfl (fy.at_ (.cons .nils (.cons (.refl _) .nil))).2) h
def Nc(t:List UInt8):bv (.lst (t.map aY)):=.lmap λx _=>Eb x
def zR(t:List UInt8)(m:Nat)(j:m<=16):∃w:aG,aq Tryz.prog 38 [.lst (t.map aY),.acU (m:Int)] (.agg w.enc)/\eT w:=by obtain⟨v,K,⟨w,rfl,_,B⟩,hp⟩:=(PT t m j).pure (aA (Nc t) (aA (.int _ _) dS)) (λu K ⟨w,h,_⟩=>by rw[h];exact w.pure);exact⟨w,hp,B⟩
def Nd(w:aF)(ev:List bA)(M:∀e∈ev,wO e)(D:ev.length<=400)(z:Nat)(B:1<=z)(j:z<=16):∃(l:List aG) (e:Int),aq Tryz.prog 40 [.agg (⟨w,ev⟩:el).enc,.acU z] (.tup [.lst (l.map aG.enc),.acU e])/\(∀x∈l,eT x)/\l.length<=400:=by
 obtain⟨v,K,⟨l,e,rfl,_,O,N⟩,hp⟩:=(M2 w ev M D z B j).pure (aA (el.pure w ev) (aA (.int _ _) dS)) (λu K ⟨l,e,h,_⟩=>by
  rw[h];exact .tups (aA (.lmap λx _ a G=>by
   have:=x.pure;cases this with
   |agg _ hp=>
    obtain⟨i,E,rfl⟩:=abC G;exact hp i _ (mt E)) (aA (.int _ _) dS)))
 exact⟨l,e,hp,O,N⟩
def l9(p u M:List UInt8)(hp:p.length<2^63)(z y:Nat)(hz:z<256)(hy:y<256):∃w:aG,aq Tryz.prog 11 [.agg [.lst (p.map aY),.lst (u.map aY),.lst (M.map aY),.int .u8 z,.int .u8 y],.acU 16] (.agg w.enc)/\eT w:=by
 have em:IntKind.i64.wrap (1+(IntKind.i64.wrap (z:Int)).tmod 16)=((1+z % 16:Nat):Int):=by rw[show IntKind.i64.wrap (z:Int)=(z:Int)from abg _ acN,show((z:Int).tmod 16)=((z % 16:Nat):Int)from rfl,abg _ acN];omega
 have fin:∀w:aG,eT w->ac Tryz.prog 11 [.agg [.lst (p.map aY),.lst (u.map aY),.lst (M.map aY),.int .u8 z,.int .u8 y],.acU 16] [] (λv L=>v=.agg w.enc/\L=[])->∃w:aG,aq Tryz.prog 11 [.agg [.lst (p.map aY),.lst (u.map aY),.lst (M.map aY),.int .u8 z,.int .u8 y],.acU 16] (.agg w.enc)/\eT w:=λw h1 h2=>⟨w,h2,h1⟩
 by_cases Y:M=[]
 .have d0:decide ((0:Int)<(M.length:Int))=false:=decide_eq_false (by rw[Y];simp);have B:(if(80:Int)<(u.length:Int)then(80:Int)else(u.length:Int))=((min 80 u.length:Nat):Int):=by split<;>omega
  have hmu:min 80 u.length<=u.length:=Nat.min_le_right _ _;obtain⟨w,ev,hT,hE,hl⟩:=Qa p (u.take (min 80 u.length)) hp acS;obtain⟨l,e,hS,hW,hl4⟩:=Nd w ev hE hl (1+z % 16) acN acN;obtain⟨G,Z,N⟩:=zR [] 0 acN;have Z:=Qb Z;have S:∀(K:AV->Prop) (L:SH),K (.lst ((u.take (min 80 u.length)).map aY))->W.slice 1 (.lst (u.map aY)) none (some (.acU ((min 80 u.length:Nat):Int))) none L K:=λK L hK=>by
   refine ip (l:=0) (h:=min 80 u.length) (by simp[cE,gQ]) (by simp[cE,gQ]) acN acS (λr hr=>?_) (by simpa[<-List.map_take]using hK);cases u with
   |nil=>cases hr
   |cons x _=>cases hr;rfl
  generalize min 80 u.length=mu at *;cases l with
  |nil=>
   refine fin G N ?_;refine ac.fz (gx _ _ _ _ ?_);refine vw ?_;generalize D:(λ(v:AV) (L:SH)=>∃j E,ax [v] L [j] E/\j=AV.agg G.enc/\E=[])=Q;have O:∀L,Q (.agg G.enc) L:=λL=>by subst D;exact⟨_,[],ax.all (.refl _),rfl,rfl⟩
   clear D fin hW;rw[uW]at *
   repeat' (first|refine sy ?_|rw[NC,B]|refine S _ _ ?_|refine s2 ?_ ?_|intro)
   exact O _
  |cons x l=>
   have hi:y % (x::l).length<(x::l).length:=Nat.mod_lt _ acQ;have hx:=aj (f:=aG.enc) hi;have hWi:=hW _ (LT hi);have em2:(IntKind.i64.wrap (y:Int)).tmod ((x::l).length:Int)=((y % (x::l).length:Nat):Int):=by rw[show IntKind.i64.wrap (y:Int)=(y:Int)from abg _ acN];rfl
   have hn0:((x::l).length:Int)≠0:=by simp;omega
   have dn:decide (((x::l).length:Int)=0)=false:=decide_eq_false hn0;generalize(x::l)[y % (x::l).length]=wi at *;refine fin wi hWi ?_;refine ac.fz (gx _ _ _ _ ?_);refine vw ?_;generalize D:(λ(v:AV) (L:SH)=>∃j E,ax [v] L [j] E/\j=AV.agg wi.enc/\E=[])=Q;have O:∀L,Q (.agg wi.enc) L:=λL=>by subst D;exact⟨_,[],ax.all (.refl _),rfl,rfl⟩
   clear D fin hW Z;generalize x::l=ls at *;rw[uW]at *;rw[bj]at O hx
   repeat' (first|refine sy ?_|rw[NC,B]|refine S _ _ ?_|rw[em2]|refine s2 ?_ ?_|intro)
   exact O _
 .have d0:decide ((0:Int)<(M.length:Int))=true:=decide_eq_true (by have:=acE.2 Y;omega);obtain⟨G,Z,N⟩:=zR M (1+z % 16) acN;refine fin G N ?_;refine ac.fz (gx _ _ _ _ ?_);refine vw ?_;generalize D:(λ(v:AV) (L:SH)=>∃j E,ax [v] L [j] E/\j=AV.agg G.enc/\E=[])=Q;have O:∀L,Q (.agg G.enc) L:=λL=>by subst D;exact⟨_,[],ax.all (.refl _),rfl,rfl⟩
  clear D fin
  repeat' (first|refine sy ?_|refine s2 ?_ ?_|intro)
  exact O _
